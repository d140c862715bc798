/- Kinds: a kind is the list of those that it leads from. The plain law. No program in sight. -/
import Derived.Test.YtkjahcegjplbnaaEnB
set_option linter.unusedVariables false
set_option linter.unusedSimpArgs false
namespace Go.Kn
/-- A list of kinds; the kind that leads from these to the kind of types. -/
inductive Kd
  | nil
  | cons (a r : Kd)
namespace Kd
def len : Kd → Nat
  | nil => 0
  | cons _ r => r.len + 1
def sz : Kd → Nat
  | nil => 0
  | cons a r => a.sz + r.sz + 1
def nth : Kd → Nat → Option Kd
  | nil, _ => none
  | cons a _, 0 => some a
  | cons _ r, i + 1 => r.nth i
def drop : Kd → Nat → Kd
  | k, 0 => k
  | nil, _ + 1 => nil
  | cons _ r, i + 1 => r.drop i
def same : Kd → Kd → Bool
  | nil, nil => true
  | cons a r, cons b s => same a b && same r s
  | _, _ => false
theorem same_iff : ∀ {k l : Kd}, same k l = true ↔ k = l
  | nil, nil => by simp [same]
  | cons a r, cons b s => by simp [same, Bool.and_eq_true, same_iff (k := a) (l := b), same_iff (k := r) (l := s)]
  | nil, cons b s => by simp [same]
  | cons a r, nil => by simp [same]
theorem len_le_sz : ∀ k : Kd, k.len ≤ k.sz
  | nil => Nat.le_refl _
  | cons a r => by have := len_le_sz r; simp only [len, sz]; omega
theorem nth_lt : ∀ {k : Kd} {i : Nat}, i < k.len → ∃ a, k.nth i = some a
  | nil, i, h => by simp [len] at h
  | cons a r, 0, h => ⟨a, rfl⟩
  | cons a r, i + 1, h => nth_lt (k := r) (i := i) (by simp only [len] at h; omega)
theorem nth_some : ∀ {k : Kd} {i : Nat} {a : Kd}, k.nth i = some a → i < k.len ∧ a.sz < k.sz
  | nil, i, a, h => by simp [nth] at h
  | cons b r, 0, a, h => by simp [nth] at h; subst h; simp only [len, sz]; omega
  | cons b r, i + 1, a, h => by
    have := nth_some (k := r) (i := i) (a := a) h
    simp only [len, sz]; omega
theorem drop_cons : ∀ {k : Kd} {i : Nat} {a : Kd}, k.nth i = some a → k.drop i = cons a (k.drop (i + 1))
  | nil, i, a, h => by simp [nth] at h
  | cons b r, 0, a, h => by simp [nth] at h; subst h; simp [drop]
  | cons b r, i + 1, a, h => by
    have := drop_cons (k := r) (i := i) (a := a) h
    simpa [drop] using this
theorem drop_len : ∀ (k : Kd), k.drop k.len = nil
  | nil => rfl
  | cons a r => by simpa [drop, len] using drop_len r
theorem drop_zero (k : Kd) : k.drop 0 = k := by cases k <;> rfl
theorem len_zero {k : Kd} (h : k.len = 0) : k = nil := by
  cases k with
  | nil => rfl
  | cons a r => simp [len] at h
theorem ext : ∀ {k l : Kd}, k.len = l.len → (∀ i : Nat, i < k.len → k.nth i = l.nth i) → k = l
  | nil, nil, _, _ => rfl
  | nil, cons b s, h, _ => by simp [len] at h
  | cons a r, nil, h, _ => by simp [len] at h
  | cons a r, cons b s, h, hn => by
    have h0 := hn 0 (by simp [len])
    simp [nth] at h0
    subst h0
    congr 1
    exact ext (by simpa [len] using h) (fun i hi => by simpa [nth] using hn (i + 1) (by simp [len]; omega))
/-- A kind's print, but for its last sign. -/
def paren (isNil : Bool) (l : List UInt8) : List UInt8 := if isNil then l else [40] ++ l ++ [41]
def isNil : Kd → Bool
  | nil => true
  | cons _ _ => false
def prnE : Kd → List UInt8
  | nil => []
  | cons a r => paren a.isNil (prnE a ++ [42]) ++ [32, 45, 62, 32] ++ prnE r
def prn (k : Kd) : List UInt8 := prnE k ++ [42]
theorem prnE_cons (a r : Kd) : prnE (cons a r) = paren a.isNil (prn a) ++ [32, 45, 62, 32] ++ prnE r := rfl
theorem isNil_iff (a : Kd) : a.isNil = true ↔ a.len = 0 := by cases a <;> simp [isNil, len]
theorem prnE_len : ∀ k : Kd, (prnE k).length ≤ 7 * k.sz
  | nil => by simp [prnE]
  | cons a r => by
    have h1 := prnE_len a
    have h2 := prnE_len r
    rw [prnE]
    unfold paren
    simp only [sz]
    split <;> simp only [List.length_append, List.length_cons, List.length_nil] <;> omega
theorem prn_len (k : Kd) : (prn k).length ≤ 7 * k.sz + 1 := by
  have := prnE_len k
  unfold prn
  simp only [List.length_append, List.length_cons, List.length_nil]; omega

/-! ## Reading -/
/-- What is behind ' -> '. -/
def cutArrow : List UInt8 → Option (List UInt8)
  | 32 :: 45 :: 62 :: 32 :: r => some r
  | _ => none
/-- Reads a kind (whole: with arrows), and tells what is behind it. -/
def rd : Nat → Bool → List UInt8 → Kd × List UInt8 × Bool
  | 0, _, _ => (nil, [], false)
  | f + 1, false, s => match s with
    | 42 :: r => (nil, r, true)
    | 40 :: r => match (rd f true r).2.1 with
      | 41 :: r' => ((rd f true r).1, r', (rd f true r).2.2)
      | r' => ((rd f true r).1, r', false)
    | _ => (nil, [], false)
  | f + 1, true, s => if (rd f false s).2.2 then match cutArrow (rd f false s).2.1 with
      | some r => (cons (rd f false s).1 (rd f true r).1, (rd f true r).2.1, (rd f true r).2.2)
      | none => ((rd f false s).1, (rd f false s).2.1, true)
    else (nil, [], false)
theorem rd_true (f : Nat) (s : List UInt8) : rd (f + 1) true s = (if (rd f false s).2.2 then match cutArrow (rd f false s).2.1 with
      | some r => (cons (rd f false s).1 (rd f true r).1, (rd f true r).2.1, (rd f true r).2.2)
      | none => ((rd f false s).1, (rd f false s).2.1, true)
    else (nil, [], false)) := rfl
theorem rd_open (f : Nat) (r : List UInt8) : rd (f + 1) false (40 :: r) = (match (rd f true r).2.1 with
      | 41 :: r' => ((rd f true r).1, r', (rd f true r).2.2)
      | r' => ((rd f true r).1, r', false)) := rfl
theorem cutArrow_len {s r : List UInt8} (h : cutArrow s = some r) : s.length = r.length + 4 := by
  unfold cutArrow at h
  split at h
  · cases h; simp
  · cases h
theorem cutArrow_eq {s r : List UInt8} (h : cutArrow s = some r) : s = [32, 45, 62, 32] ++ r := by
  unfold cutArrow at h
  split at h
  · cases h; rfl
  · cases h
theorem rd_sz : ∀ (f : Nat) (t : Bool) (s : List UInt8), (rd f t s).1.sz ≤ s.length ∧ (rd f t s).2.1.length ≤ s.length ∧ ((rd f t s).2.2 = true → (rd f t s).1.sz + (rd f t s).2.1.length ≤ s.length)
  | 0, t, s => by simp [rd, sz]
  | f + 1, false, s => by
    unfold rd
    split
    · simp [sz]
    · rename_i r
      have ih := rd_sz f true r
      split
      · rename_i r' hr
        rw [hr] at ih
        simp only [List.length_cons] at ih ⊢
        refine ⟨by omega, by omega, fun h => ?_⟩
        have := ih.2.2 h
        omega
      · rename_i hr
        simp only [List.length_cons]
        exact ⟨by omega, by omega, fun h => by cases h⟩
    · simp [sz]
  | f + 1, true, s => by
    unfold rd
    have ih := rd_sz f false s
    split
    · rename_i hs
      have ih3 := ih.2.2 hs
      split
      · rename_i r hr
        have hl := cutArrow_len hr
        have ih2 := rd_sz f true r
        simp only [sz]
        refine ⟨by omega, by omega, fun h => ?_⟩
        have := ih2.2.2 h
        omega
      · exact ⟨ih.1, ih.2.1, fun _ => ih3⟩
    · simp [sz]
theorem cutArrow_none {t : List UInt8} (h : ∀ r, t ≠ 32 :: r) : cutArrow t = none := by
  unfold cutArrow
  split
  · exact absurd rfl (h _)
  · rfl
/-- What is printed is read as it was. -/
theorem rd_prn : ∀ (k : Kd) (f : Nat) (t : List UInt8), 2 * k.sz + 2 ≤ f → (∀ r, t ≠ 32 :: r) → rd f true (prn k ++ t) = (k, t, true)
  | nil, f + 2, t, _, ht => by
    have h1 : rd (f + 1) false (prn nil ++ t) = (nil, t, true) := by simp [prn, prnE, rd]
    rw [rd, h1]
    simp [cutArrow_none ht]
  | cons a r, f + 2, t, hf, ht => by
    simp only [sz] at hf
    have e : prn (cons a r) ++ t = paren a.isNil (prn a) ++ ([32, 45, 62, 32] ++ (prn r ++ t)) := by simp [prn, prnE]
    have h1 : rd (f + 1) false (prn (cons a r) ++ t) = (a, [32, 45, 62, 32] ++ (prn r ++ t), true) := by
      rw [e]
      unfold paren
      cases a with
      | nil => simp [isNil, prn, prnE, rd]
      | cons b s =>
        have ih := rd_prn (cons b s) f (41 :: ([32, 45, 62, 32] ++ (prn r ++ t))) (by omega) (fun r h => by simp at h)
        have e2 : [40] ++ prn (cons b s) ++ [41] ++ ([32, 45, 62, 32] ++ (prn r ++ t)) = 40 :: (prn (cons b s) ++ (41 :: ([32, 45, 62, 32] ++ (prn r ++ t)))) := by simp
        simp only [isNil, Bool.false_eq_true, if_false]
        rw [e2]
        simp only [rd]
        rw [ih]
        rfl
    have h2 : rd (f + 1) true (prn r ++ t) = (r, t, true) := rd_prn r (f + 1) t (by omega) ht
    rw [rd, h1]
    have h3 : cutArrow ([32, 45, 62, 32] ++ (prn r ++ t)) = some (prn r ++ t) := rfl
    simp only [h3, h2]
    rfl
  | k, 0, t, h, _ => by omega
  | k, 1, t, h, _ => by omega
/-- Read's answer. -/
def read (s : List UInt8) : Option Kd :=
  let r := rd (2 * s.length + 2) true s
  if r.2.2 && r.2.1.isEmpty && decide (prn r.1 = s) then some r.1 else none
theorem sz_le_prn : ∀ k : Kd, k.sz ≤ (prnE k).length
  | nil => by simp [sz]
  | cons a r => by
    have h1 := sz_le_prn a
    have h2 := sz_le_prn r
    rw [prnE]
    unfold paren
    simp only [sz]
    split <;> simp only [List.length_append, List.length_cons, List.length_nil] <;> omega
theorem read_prn (k : Kd) : read (prn k) = some k := by
  have h := rd_prn k (2 * (prn k).length + 2) [] (by have := sz_le_prn k; unfold prn; simp only [List.length_append]; omega) (fun r h => by simp at h)
  rw [List.append_nil] at h
  unfold read
  rw [h]
  simp
theorem read_some {s : List UInt8} {k : Kd} (h : read s = some k) : prn k = s := by
  unfold read at h
  simp only at h
  split at h
  · rename_i hc
    simp only [Bool.and_eq_true, decide_eq_true_eq] at hc
    cases h
    exact hc.2
  · cases h
end Kd
end Go.Kn
