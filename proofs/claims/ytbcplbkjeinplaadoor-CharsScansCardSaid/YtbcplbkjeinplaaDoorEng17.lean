/- How arguments that are handed in read. Nothing here names a program. -/
import Derived.Test.YtbcplbkjeinplaaDoorEnB
import Derived.Deep.Matrix
import Derived.ChangeSlices
set_option linter.unusedVariables false
set_option linter.unusedSimpArgs false
namespace Go.Eng
open Go Go.RowKit
variable {P : Program} {w w' : World}
theorem i64_of_wf {n : Int} (h : (Lit.int .i64 n).wf = true) : I64 n := by
  have : -9223372036854775808 ≤ n ∧ n ≤ 9223372036854775807 := by simpa [Lit.wf, IntKind.min, IntKind.max, IntKind.signed, IntKind.bits] using h
  exact this
theorem u8_of_wf {n : Int} (h : (Lit.int .u8 n).wf = true) : 0 ≤ n ∧ n ≤ 255 := by
  simpa [Lit.wf, IntKind.min, IntKind.max, IntKind.signed, IntKind.bits] using h
theorem spot_none {a : Addr} {v : Value} (h : w.cell? a = some v) : a.spot = none := by
  unfold World.cell? at h
  split at h
  · cases hs : a.spot with
    | none => rfl
    | some s => simp [hs] at h
  · cases h
theorem isSl_addr {a : Option Addr} {n c : Nat} {us : List Value} (hl : us.length = n) (hnc : n ≤ c) (hcm : c ≤ maxLen) (h : ∀ i u, us[i]? = some u → ∃ A, a = some A ∧ w.cell? (A.add i) = some u) :
    IsSl w.cell? (.slice a n c) us := by
  subst hl
  cases us with
  | nil => exact ⟨a, c, 0, 0, rfl, hnc, hcm, fun h => absurd h (by simp), fun i u hu => by simp at hu⟩
  | cons u us =>
    obtain ⟨A, hA, h0⟩ := h 0 u rfl
    subst hA
    have hs : A.spot = none := by
      have := spot_none h0
      simpa [Addr.add] using this
    obtain ⟨b, o, s⟩ := A
    simp only at hs
    subst hs
    refine ⟨_, c, b, o, rfl, hnc, hcm, fun _ => rfl, fun i v hv => ?_⟩
    obtain ⟨A', hA', hc⟩ := h i v hv
    cases hA'
    rwa [Addr.add_lit] at hc
theorem all2_range {α β : Type} {R : α → β → Prop} {f : Nat → α} {g : Nat → β} {n : Nat} (h : ∀ i, i < n → R (f i) (g i)) : All2 R ((List.range n).map f) ((List.range n).map g) := by
  have key : ∀ l : List Nat, (∀ i ∈ l, R (f i) (g i)) → All2 R (l.map f) (l.map g) := by
    intro l
    induction l with
    | nil => intro _; trivial
    | cons i l ih => intro h; exact ⟨h i (by simp), ih fun j hj => h j (by simp [hj])⟩
  exact key _ fun i hi => h i (by simpa using hi)
theorem rows_mk' {V : Vw} {v : Value} {ls : List (List Int)} (us : List Value) (h1 : IsSl V v us) (h2 : All2 (IsInts V) us ls) : IsRows V v ls := ⟨us, h1, h2⟩
theorem ints_open {H : Type} {enc : TypeId × Value → H} {W : World} {a : Option Addr} {len cap : Nat} {d : DataW H} {ps : List MemPlace} {base : Nat} {t e : TypeId} (ht : P.underlying t = some (.slice e)) (he : P.underlying e = some (.int .i64)) (hc : P.cellsOf e = 1)
    (h : DataW.Trod enc P W base (fun _ => true) true t (.slice a len cap) d ps) : ∃ xs, IsInts W.cell? (.slice a len cap) xs := by
  obtain ⟨fuel, hf⟩ := h
  rcases ChangeShapes.open_ints ht he hc hf with ⟨hcs, _⟩ | ⟨x, l, c, zs, hcs, _, hl, hm, hzl, _, hcell, hwf⟩
  · simp [Value.cells] at hcs
    obtain ⟨rfl, rfl, rfl⟩ := hcs
    exact ⟨[], isSl_addr rfl (Nat.le_refl _) (Nat.zero_le _) (fun i u hu => by simp at hu), fun x hx => by simp at hx⟩
  · simp [Value.cells] at hcs
    obtain ⟨rfl, rfl, rfl⟩ := hcs
    simp only [if_true] at hzl
    refine ⟨zs.take len, isSl_addr (by simp; omega) hl hm ?_, fun n hn => i64_of_wf (hwf n (List.mem_of_mem_take hn))⟩
    intro i u hu
    rw [List.getElem?_map, Option.map_eq_some_iff] at hu
    obtain ⟨n, hn, rfl⟩ := hu
    rw [List.getElem?_take] at hn
    split at hn
    · have hi := (List.getElem?_eq_some_iff.1 hn).1
      refine ⟨x, rfl, ?_⟩
      rw [hcell i hi, List.getD_eq_getElem?_getD, hn]; rfl
    · cases hn
theorem rows_openP {H : Type} {enc : TypeId × Value → H} {W : World} {a : Option Addr} {len cap : Nat} {d : DataW H} {ps : List MemPlace} {base : Nat} {t e q : TypeId} (ht : P.underlying t = some (.slice e)) (he : P.underlying e = some (.slice q)) (hq : P.underlying q = some (.int .i64)) (ce : P.cellsOf e = 1) (cq : P.cellsOf q = 1)
    (h : DataW.Trod enc P W base (fun _ => true) true t (.slice a len cap) d ps) : ∃ ls, IsRows W.cell? (.slice a len cap) ls := by
  obtain ⟨fuel, hf⟩ := h
  rcases Deep.open_int_rows ht he hq ce cq hf with ⟨hcs, _⟩ | ⟨x, l, c, A, L, C, Z, hcs, _, hl, hm, _, hrow⟩
  · simp [Value.cells] at hcs
    obtain ⟨rfl, rfl, rfl⟩ := hcs
    exact ⟨[], rows_mk' [] (isSl_addr rfl (Nat.le_refl _) (Nat.zero_le _) (fun i u hu => by simp at hu)) trivial⟩
  · simp [Value.cells] at hcs
    obtain ⟨rfl, rfl, rfl⟩ := hcs
    refine ⟨(List.range len).map fun r => (Z r).take (L r), rows_mk' ((List.range len).map fun r => Value.slice (A r) (L r) (C r)) (isSl_addr (by simp) hl hm ?_) (all2_range ?_)⟩
    · intro i u hu
      rw [List.getElem?_map, Option.map_eq_some_iff] at hu
      obtain ⟨r, hr, rfl⟩ := hu
      obtain ⟨hlt, he⟩ := List.getElem?_eq_some_iff.1 hr
      rw [List.length_range] at hlt
      rw [List.getElem_range] at he
      subst he
      exact ⟨x, rfl, (hrow i (by omega)).1⟩
    · intro r hr
      obtain ⟨h1, h2, h3, h4, h5, h6, h7⟩ := hrow r (by omega)
      have hlen : ((Z r).take (L r)).length = L r := by simp; omega
      refine ⟨isSl_addr (by simp; omega) h2 h3 ?_, fun n hn => i64_of_wf (h5 n (List.mem_of_mem_take hn))⟩
      intro i u hu
      rw [List.getElem?_map, Option.map_eq_some_iff] at hu
      obtain ⟨n, hn, rfl⟩ := hu
      have hi : i < L r := by
        have := (List.getElem?_eq_some_iff.1 hn).1
        omega
      rw [List.getElem?_take, if_pos hi] at hn
      cases hA : A r with
      | none => have := h6 hA; omega
      | some a' =>
        refine ⟨a', rfl, ?_⟩
        have := (h7 a' hA).2 i (by omega)
        rw [this]
        simp [hn]
end Go.Eng
