/- The groups, and their row: the plain law. No program in sight. -/
import Derived.Test.YtgiifodmbckbmaaSccG
set_option linter.unusedVariables false
set_option linter.unusedSimpArgs false
namespace Go.Scc
/-- Does k keep i back? -/
def keeps (n : Int) (ls : List (List Int)) (T : List Bool) (i k : Nat) : Bool := rB n ls i k && !(T.getD k false) && !(rB n ls k i)
def readyB (n : Int) (ls : List (List Int)) (T : List Bool) (i : Nat) : Bool := (List.range n.toNat).all fun k => !(keeps n ls T i k)
def pickB (n : Int) (ls : List (List Int)) (T : List Bool) (i : Nat) : Bool := !(T.getD i false) && readyB n ls T i
def nextG (n : Int) (ls : List (List Int)) (T : List Bool) : Option Nat := (List.range n.toNat).find? (pickB n ls T)
def both (n : Int) (ls : List (List Int)) (i k : Nat) : Bool := rB n ls i k && rB n ls k i
def grpTo (n : Int) (ls : List (List Int)) (i k : Nat) : List Int := ((List.range k).filter (both n ls i)).map Int.ofNat
def markTo (n : Int) (ls : List (List Int)) (i k : Nat) (T : List Bool) : List Bool := (List.range n.toNat).map fun t => T.getD t false || (decide (t < k) && both n ls i t)
/-- The groups that are told from T on. -/
def gs (n : Int) (ls : List (List Int)) : Nat → List Bool → List (List Int)
  | 0, _ => []
  | f + 1, T => match nextG n ls T with
    | none => []
    | some i => grpTo n ls i n.toNat :: gs n ls f (markTo n ls i n.toNat T)
def groups (n : Int) (ls : List (List Int)) : List (List Int) := gs n ls (n.toNat + 1) (List.replicate n.toNat false)

theorem find_range {p : Nat → Bool} {m i : Nat} (hi : i < m) (hp : p i = true) (h : ∀ j, j < i → p j = false) : (List.range m).find? p = some i := by
  rw [List.find?_range_eq_some]
  refine ⟨hp, by simpa using hi, fun j hj => by simp [h j hj]⟩
theorem find_range_none {p : Nat → Bool} {m : Nat} (h : ∀ j, j < m → p j = false) : (List.range m).find? p = none := by
  rw [List.find?_eq_none]
  intro j hj
  simp at hj
  simp [h j hj]
theorem readyB_iff {n : Int} {ls : List (List Int)} {T : List Bool} {i : Nat} : readyB n ls T i = true ↔ ∀ k, k < n.toNat → keeps n ls T i k = false := by
  unfold readyB
  simp [List.all_eq_true]
theorem grpTo_succ (n : Int) (ls : List (List Int)) (i k : Nat) : grpTo n ls i (k + 1) = grpTo n ls i k ++ (if both n ls i k = true then [(k : Int)] else []) := by
  unfold grpTo
  rw [List.range_succ, List.filter_append, List.map_append]
  cases h : both n ls i k <;> simp [h]
theorem markTo_len (n : Int) (ls : List (List Int)) (i k : Nat) (T : List Bool) : (markTo n ls i k T).length = n.toNat := by simp [markTo]
theorem markTo_get {n : Int} {ls : List (List Int)} {i k t : Nat} {T : List Bool} (ht : t < n.toNat) : (markTo n ls i k T)[t]? = some (T.getD t false || (decide (t < k) && both n ls i t)) := by
  unfold markTo
  rw [List.getElem?_map, List.getElem?_range ht]
  rfl
theorem markTo_zero {n : Int} {ls : List (List Int)} {i : Nat} {T : List Bool} (hl : T.length = n.toNat) : markTo n ls i 0 T = T := by
  apply List.ext_getElem?
  intro t
  by_cases ht : t < n.toNat
  · rw [markTo_get ht]; simp [hl, ht]
  · rw [List.getElem?_eq_none (by rw [markTo_len]; omega), List.getElem?_eq_none (by omega)]
theorem markTo_succ {n : Int} {ls : List (List Int)} {i k : Nat} {T : List Bool} (hk : k < n.toNat) :
    markTo n ls i (k + 1) T = if both n ls i k = true then (markTo n ls i k T).set k true else markTo n ls i k T := by
  apply List.ext_getElem?
  intro t
  by_cases ht : t < n.toNat
  · rw [markTo_get ht]
    split
    · rename_i hb
      rw [List.getElem?_set]
      by_cases hkt : k = t
      · subst hkt; simp [hb, markTo_len, hk]
      · rw [if_neg hkt, markTo_get ht]
        have : decide (t < k + 1) = decide (t < k) := by simp; omega
        rw [this]
    · rename_i hb
      rw [markTo_get ht]
      by_cases hkt : k = t
      · subst hkt; simp [hb]
      · have : decide (t < k + 1) = decide (t < k) := by simp; omega
        rw [this]
  · have h1 := markTo_len n ls i (k + 1) T
    have h2 := markTo_len n ls i k T
    split
    · rw [List.getElem?_eq_none (by omega), List.getElem?_eq_none (by simp; omega)]
    · rw [List.getElem?_eq_none (by omega), List.getElem?_eq_none (by omega)]
theorem both_self {n : Int} {ls : List (List Int)} {i : Nat} (hi : i < n.toNat) : both n ls i i = true := by
  have : rB n ls i i = true := rB_iff.2 ⟨by omega, by omega, by omega, by omega, .refl _⟩
  simp [both, this]
theorem markTo_count {n : Int} {ls : List (List Int)} {i : Nat} {T : List Bool} (hl : T.length = n.toNat) (hi : i < n.toNat) (hT : T.getD i false = false) : T.count true < (markTo n ls i n.toNat T).count true := by
  refine (Le.count (S := T) (T := markTo n ls i n.toNat T) ⟨by rw [hl, markTo_len], ?_⟩).2 ?_
  · rintro k ⟨h0, h1⟩
    have hk := (List.getElem?_eq_some_iff.1 h1).1
    refine ⟨h0, ?_⟩
    rw [markTo_get (by omega)]
    simp [h1]
  · intro h
    have h1 : (markTo n ls i n.toNat T)[i]? = some true := by rw [markTo_get hi]; simp [both_self hi, hi]
    rw [← h] at h1
    rw [List.getD_eq_getElem?_getD, h1] at hT
    cases hT
theorem both_symm {n : Int} {ls : List (List Int)} {i k : Nat} (h : both n ls i k = true) : both n ls k i = true := by
  unfold both at *; rw [Bool.and_eq_true] at *; exact ⟨h.2, h.1⟩
theorem rB_trans {n i j k : Int} {ls : List (List Int)} (h : rB n ls i j = true) (h' : rB n ls j k = true) : rB n ls i k = true := by
  have a := rB_iff.1 h
  have b := rB_iff.1 h'
  exact rB_iff.2 ⟨a.1, a.2.1, b.2.2.1, b.2.2.2.1, a.2.2.2.2.trans b.2.2.2.2⟩
theorem both_trans {n : Int} {ls : List (List Int)} {i j k : Nat} (h : both n ls i j = true) (h' : both n ls j k = true) : both n ls i k = true := by
  unfold both at *; rw [Bool.and_eq_true] at *; exact ⟨rB_trans h.1 h'.1, rB_trans h'.2 h.2⟩
/-- Groups are told whole. -/
def Whole (n : Int) (ls : List (List Int)) (T : List Bool) : Prop := ∀ i k : Nat, i < n.toNat → k < n.toNat → both n ls i k = true → T.getD i false = T.getD k false
theorem whole_mark {n : Int} {ls : List (List Int)} {T : List Bool} {i : Nat} (h : Whole n ls T) (hi : i < n.toNat) : Whole n ls (markTo n ls i n.toNat T) := by
  intro a b ha hb hab
  rw [List.getD_eq_getElem?_getD, List.getD_eq_getElem?_getD, markTo_get ha, markTo_get hb]
  simp only [Option.getD_some, h a b ha hb hab, ha, hb, decide_true, Bool.true_and]
  congr 1
  rw [Bool.eq_iff_iff]
  exact ⟨fun h1 => both_trans h1 hab, fun h1 => both_trans h1 (both_symm hab)⟩
theorem count_set : ∀ {S : List Bool} {k : Nat}, S[k]? = some false → (S.set k true).count true = S.count true + 1
  | [], k, h => by simp at h
  | a :: S, 0, h => by simp at h; subst h; simp
  | a :: S, k + 1, h => by
    have := count_set (S := S) (k := k) (by simpa using h)
    cases a <;> simp [this]
theorem markTo_cnt {n : Int} {ls : List (List Int)} {i : Nat} {T : List Bool} (hW : Whole n ls T) (hl : T.length = n.toNat) (hi : i < n.toNat) (hT : T.getD i false = false) : ∀ k, k ≤ n.toNat → (markTo n ls i k T).count true = T.count true + (grpTo n ls i k).length
  | 0, _ => by rw [markTo_zero hl]; simp [grpTo]
  | k + 1, hk => by
    have ih := markTo_cnt hW hl hi hT k (by omega)
    have hkl : k < n.toNat := by omega
    rw [markTo_succ hkl, grpTo_succ]
    cases hb : both n ls i k with
    | false => simp [ih]
    | true =>
      have hTk : T.getD k false = false := by rw [← hW i k hi hkl hb]; exact hT
      rw [if_pos rfl, if_pos rfl, count_set (by rw [markTo_get hkl, hTk]; simp), ih]
      simp; omega
def okTo (n : Int) (ls : List (List Int)) (T : List Bool) (i k : Nat) : Bool := (List.range k).all fun k => !(keeps n ls T i k)
theorem okTo_succ (n : Int) (ls : List (List Int)) (T : List Bool) (i k : Nat) : okTo n ls T i (k + 1) = (okTo n ls T i k && !(keeps n ls T i k)) := by
  unfold okTo; rw [List.range_succ, List.all_append]; simp
theorem nextG_full {n : Int} {ls : List (List Int)} {T : List Bool} (hl : T.length = n.toNat) (h : n.toNat ≤ T.count true) : nextG n ls T = none := by
  apply find_range_none
  intro j hj
  unfold pickB
  have : T.getD j false = true := by
    have hall : T.count true = T.length := by have := count_le T; omega
    rw [List.count_eq_length] at hall
    have hm : T[j]'(by omega) ∈ T := List.getElem_mem _
    have := hall _ hm
    simp [hl, hj, ← this]
  rw [this]; rfl
end Go.Scc
