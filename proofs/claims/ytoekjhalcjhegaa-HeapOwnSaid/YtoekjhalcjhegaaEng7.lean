/- How lists read in memory. Nothing here names a program. -/
import Derived.Test.YtoekjhalcjhegaaEng5
set_option linter.unusedVariables false
set_option linter.unusedSimpArgs false
namespace Go.Eng
open Go Go.RowKit
variable {P : Program} {N : NN} {Q : Exit → Act → World → Prop} {σ : Env} {w w' : World}

/-- A drawn region, the world behind the draw under a name. -/
theorem drawn_ {id : Nat} {l : List Oper} (n : Nat) (order : List (Nat × Bool)) (hm : P.follows .mixedOrders = true) (hB : heldB .any l.toArray n order = true)
    (h : ∀ w', Below w.heap.size w w' → w'.heap.size = w.heap.size → Keeps w w' → RX P N l (NP Q) (Keeps w) n order σ w') : (Code.region id l.toArray true).wp P Q (Fr N σ) w :=
  draw_ n order (Keeps w) hm hB (by rintro _ rfl; exact fun _ _ h => h) (by rintro _ rfl; exact h _ ⟨rfl, rfl, rfl, Nat.le_refl _, fun _ _ => rfl⟩ rfl (fun _ _ h => h))

theorem Keeps.refl (w : World) : Keeps w w := fun _ _ h => h
theorem Keeps.trans {w'' : World} (h : Keeps w w') (h' : Keeps w' w'') : Keeps w w'' := fun a v e => h' a v (h a v e)
theorem Keeps.below {B : Nat} {w0 : World} (h : Below B w0 w) (hB : w0.heap.size ≤ B) : Keeps w0 w := fun _ _ e => cell_below e h hB

/-- Two lists, member by member. -/
def All2 {α β : Type} (R : α → β → Prop) : List α → List β → Prop
  | [], [] => True
  | a :: l, b :: m => R a b ∧ All2 R l m
  | _, _ => False
theorem forall2_imp {α β : Type} {R R' : α → β → Prop} : ∀ {l : List α} {m : List β}, All2 R l m → (∀ a b, R a b → R' a b) → All2 R' l m
  | [], [], _, _ => trivial
  | _ :: _, _ :: _, h, hi => ⟨hi _ _ h.1, forall2_imp h.2 hi⟩
  | [], _ :: _, h, _ => h.elim
  | _ :: _, [], h, _ => h.elim
theorem forall2_get {α β : Type} {R : α → β → Prop} : ∀ {l : List α} {m : List β}, All2 R l m → l.length = m.length ∧ ∀ (i : Nat) b, m[i]? = some b → ∃ a, l[i]? = some a ∧ R a b
  | [], [], _ => ⟨rfl, fun i b h => by simp at h⟩
  | a :: l, b :: m, h => by
    have ih := forall2_get h.2
    refine ⟨by simp [ih.1], fun i c hc => ?_⟩
    cases i with
    | zero => simp at hc; subst hc; exact ⟨a, by simp, h.1⟩
    | succ i => simpa using ih.2 i c (by simpa using hc)
  | [], _ :: _, h => h.elim
  | _ :: _, [], h => h.elim
theorem forall2_snoc {α β : Type} {R : α → β → Prop} : ∀ {l : List α} {m : List β} {a : α} {b : β}, All2 R l m → R a b → All2 R (l ++ [a]) (m ++ [b])
  | [], [], _, _, _, hr => ⟨hr, trivial⟩
  | _ :: _, _ :: _, _, _, h, hr => ⟨h.1, forall2_snoc h.2 hr⟩
  | [], _ :: _, _, _, h, _ => h.elim
  | _ :: _, [], _, _, h, _ => h.elim
abbrev Vw := Addr → Option Value
def I64 (n : Int) : Prop := -9223372036854775808 ≤ n ∧ n ≤ 9223372036854775807
/-- The slice v has the elements us, of one cell each. -/
def IsSl (V : Vw) (v : Value) (us : List Value) : Prop :=
  ∃ a c b off, v = .slice a us.length c ∧ us.length ≤ c ∧ c ≤ maxLen ∧ (0 < us.length → a = some ⟨b, off, none⟩) ∧ ∀ i u, us[i]? = some u → V ⟨b, off + i, none⟩ = some u
def IsInts (V : Vw) (v : Value) (xs : List Int) : Prop := IsSl V v (xs.map (Value.int .i64)) ∧ ∀ x ∈ xs, I64 x
def IsBools (V : Vw) (v : Value) (xs : List Bool) : Prop := IsSl V v (xs.map Value.bool)
def IsRows (V : Vw) (v : Value) (ls : List (List Int)) : Prop := ∃ us, IsSl V v us ∧ All2 (IsInts V) us ls
theorem IsSl.mono {V V' : Vw} {v : Value} {us : List Value} (h : IsSl V v us) (hm : ∀ a x, V a = some x → V' a = some x) : IsSl V' v us := by
  obtain ⟨a, c, b, off, h1, h2, h3, h4, h5⟩ := h
  exact ⟨a, c, b, off, h1, h2, h3, h4, fun i u hu => hm _ _ (h5 i u hu)⟩
theorem IsInts.mono {V V' : Vw} {v : Value} {us : List Int} (h : IsInts V v us) (hm : ∀ a x, V a = some x → V' a = some x) : IsInts V' v us := ⟨h.1.mono hm, h.2⟩
theorem IsRows.mono {V V' : Vw} {v : Value} {ls : List (List Int)} (h : IsRows V v ls) (hm : ∀ a x, V a = some x → V' a = some x) : IsRows V' v ls := by
  obtain ⟨us, h1, h2⟩ := h
  exact ⟨us, h1.mono hm, forall2_imp h2 fun _ _ h => h.mono hm⟩
/-- A slice opened: what it is, and its elements by numbers. -/
theorem IsSl.open {V : Vw} {v : Value} {us : List Value} (h : IsSl V v us) :
    ∃ a c b off, v = .slice a us.length c ∧ us.length ≤ c ∧ c ≤ maxLen ∧ (0 < us.length → a = some ⟨b, off, none⟩) ∧ ∀ (i : Int) u, 0 ≤ i → us[i.toNat]? = some u → V ⟨b, off + i.toNat, none⟩ = some u := by
  obtain ⟨a, c, b, off, h1, h2, h3, h4, h5⟩ := h
  exact ⟨a, c, b, off, h1, h2, h3, h4, fun i u _ hu => h5 _ u hu⟩
theorem IsInts.open {V : Vw} {v : Value} {xs : List Int} (h : IsInts V v xs) :
    ∃ a c b off, v = .slice a xs.length c ∧ xs.length ≤ c ∧ c ≤ maxLen ∧ (0 < xs.length → a = some ⟨b, off, none⟩) ∧ (∀ (i : Nat) x, xs[i]? = some x → V ⟨b, off + i, none⟩ = some (.int .i64 x)) := by
  obtain ⟨⟨a, c, b, off, h1, h2, h3, h4, h5⟩, h6⟩ := h
  simp only [List.length_map] at h1 h2 h4
  exact ⟨a, c, b, off, h1, h2, h3, h4, fun i x hx => h5 i _ (by simp [hx])⟩
theorem IsBools.open {V : Vw} {v : Value} {xs : List Bool} (h : IsBools V v xs) :
    ∃ a c b off, v = .slice a xs.length c ∧ xs.length ≤ c ∧ c ≤ maxLen ∧ (0 < xs.length → a = some ⟨b, off, none⟩) ∧ (∀ (i : Nat) x, xs[i]? = some x → V ⟨b, off + i, none⟩ = some (.bool x)) := by
  obtain ⟨a, c, b, off, h1, h2, h3, h4, h5⟩ := h
  simp only [List.length_map] at h1 h2 h4
  exact ⟨a, c, b, off, h1, h2, h3, h4, fun i x hx => h5 i _ (by simp [hx])⟩
theorem IsRows.open {V : Vw} {v : Value} {ls : List (List Int)} (h : IsRows V v ls) :
    ∃ a c b off, v = .slice a ls.length c ∧ ls.length ≤ c ∧ c ≤ maxLen ∧ (0 < ls.length → a = some ⟨b, off, none⟩) ∧ (∀ (i : Nat) xs, ls[i]? = some xs → ∃ u, V ⟨b, off + i, none⟩ = some u ∧ IsInts V u xs) := by
  obtain ⟨us, ⟨a, c, b, off, h1, h2, h3, h4, h5⟩, h6⟩ := h
  obtain ⟨hl, hg⟩ := forall2_get h6
  rw [hl] at h1 h2 h4
  refine ⟨a, c, b, off, h1, h2, h3, h4, fun i xs hx => ?_⟩
  obtain ⟨u, hu, hr⟩ := hg i xs hx
  exact ⟨u, h5 i u hu, hr⟩
theorem Own.isSl {e n b : Nat} {v : Value} {xs : List Value} (h : Own w e 1 v n xs b) : IsSl w.cell? v xs := by
  have hl : xs.length = n := by simpa using h.1
  obtain ⟨a, c, h1, h2, h3, h4⟩ := h.shape
  subst hl
  exact ⟨a, c, b, 0, h1, h2, h3, h4, fun i u hu => by rw [Nat.zero_add]; exact h.cell hu⟩
theorem Own.isInts {e n b : Nat} {v : Value} {xs : List Int} (h : Own w e 1 v n (xs.map (Value.int .i64)) b) (hx : ∀ x ∈ xs, I64 x) : IsInts w.cell? v xs := ⟨h.isSl, hx⟩
theorem Blk.isSl {b e : Nat} {cs : List Value} (h : Blk w b cs e) (hl : cs.length ≤ maxLen) : IsSl w.cell? (.slice (some ⟨b, 0, none⟩) cs.length cs.length) cs :=
  ⟨_, _, b, 0, rfl, Nat.le_refl _, hl, fun _ => rfl, fun i u hu => by rw [Nat.zero_add]; exact h.cell_some hu⟩
theorem IsInts.rng {V : Vw} {v : Value} {xs : List Int} (h : IsInts V v xs) : ∀ x ∈ xs, I64 x := h.2
theorem Own.lt {w : World} {e sz n b : Nat} {v : Value} {xs : List Value} (h : Own w e sz v n xs b) (hn : 0 < n) : b < w.heap.size := by
  obtain ⟨s, hs⟩ := h.blk hn
  exact hs.lt
theorem Own.nil_or {w : World} {e sz n b : Nat} {v : Value} {xs : List Value} (h : Own w e sz v n xs b) : (v = .slice none 0 0 ∧ n = 0 ∧ xs = []) ∨ b < w.heap.size := by
  unfold Own at h
  rcases h.2 with ⟨h1, h2⟩ | ⟨cap, sp, h1, h2, h3, h4, h5⟩
  · subst h2
    exact .inl ⟨h1, rfl, List.eq_nil_of_length_eq_zero (by simpa using h.1)⟩
  · exact .inr h5.lt
theorem Own.keep {w w' : World} {e sz n b c : Nat} {v : Value} {xs : List Value} (h : Own w e sz v n xs b) (hc : Chg c w w') (hs : w.heap.size ≤ c) : Own w' e sz v n xs b := by
  rcases h.nil_or with ⟨rfl, rfl, rfl⟩ | hlt
  · exact Own.nil _ _ _ _
  · exact h.chg hc (by omega)
/-- At an append: the block that may be written is the one that is there, or none that was. -/
theorem Own.fresh {w w' : World} {e sz n b : Nat} {v : Value} {xs : List Value} (h : Own w e sz v n xs b) (h' : Own w' e sz v n xs b) : ∃ b', Own w' e sz v n xs b' ∧ ((b' = b ∧ b < w.heap.size) ∨ b' = w'.heap.size) := by
  rcases h.nil_or with ⟨rfl, rfl, rfl⟩ | hlt
  · exact ⟨w'.heap.size, Own.nil _ _ _ _, .inr rfl⟩
  · exact ⟨b, h', .inl ⟨rfl, hlt⟩⟩
theorem maxLen_le : maxLen ≤ 9223372036854775807 := by unfold maxLen; omega
end Go.Eng
