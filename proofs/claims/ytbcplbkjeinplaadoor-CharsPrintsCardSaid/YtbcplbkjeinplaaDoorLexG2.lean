/- Tokens, keys, symbols, numbers, and a source as tokens: what the walks show to be computed. No program in sight. -/
import Derived.Test.YtbcplbkjeinplaaDoorLexG
set_option linter.unusedVariables false
namespace Go.Lx
def keys : List (List UInt8) := [[99, 97, 115, 101], [99, 108, 97, 115, 115], [100, 97, 116, 97], [105, 110], [105, 110, 115, 116, 97, 110, 99, 101], [108, 101, 116], [111, 102]]
def syms : List (List UInt8) := [[45, 62], [61, 62], [92], [61], [124], [40], [41], [123], [125], [59], [58], [44], [95]]
def isPre (s x : List UInt8) : Bool := decide (s.take x.length = x)
def symOf (s : List UInt8) : Option (List UInt8) := syms.find? (isPre s)
def val (s : List UInt8) : Nat := s.foldl (fun n c => n * 10 + (c.toNat - 48)) 0
structure Tok where
  k : Int
  s : List UInt8
  n : Int
  a : Int
deriving DecidableEq
def one (s : List UInt8) : Except Int Tok :=
  if s.head?.any dig then
    (if val (s.takeWhile dig) ≤ 2147483647 then .ok ⟨3, s.takeWhile dig, val (s.takeWhile dig), 0⟩ else .error 11)
  else if s.head?.any fun c => low c || upp c then
    (if 32 < (s.takeWhile sign).length then .error 2
     else .ok ⟨if s.head?.any upp then 2 else if s.takeWhile sign ∈ keys then 5 else 1, s.takeWhile sign, 0, 0⟩)
  else match symOf s with
    | some x => .ok ⟨4, x, 0, 0⟩
    | none => .error 10
def blank (c : UInt8) : Bool := decide (c ∈ [(32 : UInt8), 9, 10])
def noNl (c : UInt8) : Bool := decide (c.toNat ≠ 10)
/-- The tokens of what is left of a source from a place on; or an error and its place. -/
def lexF : Nat → List UInt8 → Nat → Except (Int × Nat) (List Tok)
  | 0, _, i => .ok [⟨6, [], 0, i⟩]
  | _, [], i => .ok [⟨6, [], 0, i⟩]
  | f + 1, c :: r, i =>
    if blank c then lexF f r (i + 1)
    else if isPre (c :: r) [45, 45] then lexF f ((c :: r).drop ((c :: r).takeWhile noNl).length) (i + ((c :: r).takeWhile noNl).length)
    else match one (c :: r) with
      | .error e => .error (e, i)
      | .ok t => match lexF f ((c :: r).drop t.s.length) (i + t.s.length) with
        | .error e => .error e
        | .ok l => .ok (⟨t.k, t.s, t.n, i⟩ :: l)
def lexA (s : List UInt8) : Except (Int × Nat) (List Tok) := if s.length ≤ 4000 then lexF s.length s 0 else .error (2, 0)
/-- Tokens that are there already, ahead. -/
def pre (acc : List Tok) : Except (Int × Nat) (List Tok) → Except (Int × Nat) (List Tok)
  | .error e => .error e
  | .ok l => .ok (acc ++ l)
theorem pre_pre (a b : List Tok) (x : Except (Int × Nat) (List Tok)) : pre a (pre b x) = pre (a ++ b) x := by
  cases x <;> simp [pre]
theorem val_snoc (s : List UInt8) (c : UInt8) : val (s ++ [c]) = val s * 10 + (c.toNat - 48) := by simp [val, List.foldl_append]
theorem symOf_mem {s x : List UInt8} (h : symOf s = some x) : x ∈ syms ∧ s.take x.length = x := by
  unfold symOf at h
  exact ⟨List.mem_of_find?_eq_some h, by have := List.find?_some h; simpa [isPre] using this⟩
theorem syms_pos {x : List UInt8} (h : x ∈ syms) : 0 < x.length ∧ x.length ≤ 2 := by
  revert x
  decide
theorem tw_le {α : Type} (p : α → Bool) (s : List α) : (s.takeWhile p).length ≤ s.length := (List.takeWhile_prefix p).length_le
theorem one_len {s : List UInt8} {t : Tok} (h : one s = .ok t) : 0 < t.s.length ∧ t.s.length ≤ s.length := by
  unfold one at h
  have tw : ∀ p : UInt8 → Bool, (s.takeWhile p).length ≤ s.length := fun p => tw_le p s
  have hd : ∀ p q : UInt8 → Bool, (∀ c, q c = true → p c = true) → s.head?.any q = true → 0 < (s.takeWhile p).length := by
    intro p q hpq hq
    cases s with
    | nil => cases hq
    | cons a s =>
      have : q a = true := hq
      rw [List.takeWhile_cons, if_pos (hpq a this)]
      simp
  split at h
  · rename_i h1
    split at h
    · cases h
      exact ⟨hd dig dig (fun _ h => h) h1, tw dig⟩
    · cases h
  · split at h
    · rename_i h1
      split at h
      · cases h
      · cases h
        refine ⟨hd sign (fun c => low c || upp c) (fun c hc => ?_) h1, tw sign⟩
        simp only [sign, plain]
        rw [hc]; simp
    · split at h
      · rename_i x hx
        cases h
        have h2 := symOf_mem hx
        refine ⟨(syms_pos h2.1).1, ?_⟩
        have h3 := congrArg List.length h2.2
        rw [List.length_take] at h3
        simp only
        omega
      · cases h
/-- The fuel is no matter. -/
theorem lexF_fuel : ∀ (f g : Nat) (s : List UInt8) (i : Nat), s.length ≤ f → s.length ≤ g → lexF f s i = lexF g s i := by
  intro f
  induction f with
  | zero =>
    intro g s i h1 h2
    have : s = [] := List.eq_nil_of_length_eq_zero (by omega)
    subst this
    cases g <;> rfl
  | succ f ih =>
    intro g s i h1 h2
    cases s with
    | nil => cases g <;> rfl
    | cons c r =>
      cases g with
      | zero => simp at h2
      | succ g =>
        simp only [List.length_cons] at h1 h2
        simp only [lexF]
        split
        · exact ih _ _ _ (by omega) (by omega)
        · split
          · rename_i hp
            have h0 : 0 < ((c :: r).takeWhile noNl).length := by
              have : c = 45 := by
                simp only [isPre, decide_eq_true_eq] at hp
                have := congrArg List.head? hp
                simpa using this
              subst this
              rw [List.takeWhile_cons, if_pos (by decide)]
              simp
            exact ih _ _ _ (by rw [List.length_drop, List.length_cons]; omega) (by rw [List.length_drop, List.length_cons]; omega)
          · split
            · rfl
            · rename_i t ht
              have := one_len ht
              rw [ih g _ _ (by rw [List.length_drop, List.length_cons]; omega) (by rw [List.length_drop, List.length_cons]; omega)]
def lexR (s : List UInt8) (i : Nat) : Except (Int × Nat) (List Tok) := lexF s.length s i
theorem lexR_nil (i : Nat) : lexR [] i = .ok [⟨6, [], 0, i⟩] := rfl
theorem lexR_blank {c : UInt8} {r : List UInt8} {i : Nat} (h : blank c = true) : lexR (c :: r) i = lexR r (i + 1) := by
  show lexF (r.length + 1) (c :: r) i = _
  simp only [lexF, h, if_true]; rfl
theorem lexR_remark {c : UInt8} {r : List UInt8} {i : Nat} (h : blank c = false) (h2 : isPre (c :: r) [45, 45] = true) :
    lexR (c :: r) i = lexR ((c :: r).drop ((c :: r).takeWhile noNl).length) (i + ((c :: r).takeWhile noNl).length) := by
  show lexF (r.length + 1) (c :: r) i = _
  have h0 : 0 < ((c :: r).takeWhile noNl).length := by
    have : c = 45 := by
      simp only [isPre, decide_eq_true_eq] at h2
      have := congrArg List.head? h2
      simpa using this
    subst this
    rw [List.takeWhile_cons, if_pos (by decide)]
    simp
  simp only [lexF, h, h2, if_true, Bool.false_eq_true, if_false]
  exact lexF_fuel _ _ _ _ (by rw [List.length_drop, List.length_cons]; omega) (Nat.le_refl _)
theorem lexR_err {c : UInt8} {r : List UInt8} {i : Nat} {e : Int} (h : blank c = false) (h2 : isPre (c :: r) [45, 45] = false) (h3 : one (c :: r) = .error e) : lexR (c :: r) i = .error (e, i) := by
  show lexF (r.length + 1) (c :: r) i = _
  simp only [lexF, h, h2, h3, Bool.false_eq_true, if_false]
theorem lexR_tok {c : UInt8} {r : List UInt8} {i : Nat} {t : Tok} (h : blank c = false) (h2 : isPre (c :: r) [45, 45] = false) (h3 : one (c :: r) = .ok t) :
    lexR (c :: r) i = pre [⟨t.k, t.s, t.n, i⟩] (lexR ((c :: r).drop t.s.length) (i + t.s.length)) := by
  show lexF (r.length + 1) (c :: r) i = _
  have := one_len h3
  simp only [lexF, h, h2, h3, Bool.false_eq_true, if_false]
  rw [lexF_fuel r.length ((c :: r).drop t.s.length).length _ _ (by rw [List.length_drop, List.length_cons]; omega) (Nat.le_refl _)]
  show _ = pre _ (lexF _ _ _)
  cases lexF ((c :: r).drop t.s.length).length ((c :: r).drop t.s.length) (i + t.s.length) <;> rfl
end Go.Lx
