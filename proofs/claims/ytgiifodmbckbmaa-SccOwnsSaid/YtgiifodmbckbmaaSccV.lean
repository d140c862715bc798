/- Things counted from the end: the plain law. No program in sight. -/
import Derived.Test.YtgiifodmbckbmaaSccT
set_option linter.unusedVariables false
set_option linter.unusedSimpArgs false
namespace Go.Scc
def inR (n x : Int) : Bool := decide (0 ≤ x) && decide (x < n)
def trow (n : Int) (xs : List Int) : List Int := (xs.filter (inR n)).map fun x => n - 1 - x
/-- The lists counted from the end, when i lists, and j numbers of the next, were looked at. -/
def trowAt (n : Int) (ls : List (List Int)) (i j i' : Nat) : List Int := if i' < i then trow n (ls.getD i' []) else if i' = i then trow n ((ls.getD i' []).take j) else []
def turnTo (n : Int) (ls : List (List Int)) (i j : Nat) : List (List Int) := (List.range n.toNat).map fun t => trowAt n ls i j (n.toNat - 1 - t)
theorem turnTo_len (n : Int) (ls : List (List Int)) (i j : Nat) : (turnTo n ls i j).length = n.toNat := by simp [turnTo]
theorem turnTo_get {n : Int} {ls : List (List Int)} {i j t : Nat} (ht : t < n.toNat) : (turnTo n ls i j)[t]? = some (trowAt n ls i j (n.toNat - 1 - t)) := by
  unfold turnTo
  rw [List.getElem?_map, List.getElem?_range ht]; rfl
theorem turnTo_zero (n : Int) (ls : List (List Int)) : turnTo n ls 0 0 = List.replicate n.toNat [] := by
  apply List.ext_getElem?
  intro t
  by_cases ht : t < n.toNat
  · rw [turnTo_get ht, List.getElem?_replicate, if_pos ht]
    unfold trowAt
    simp [trow]
  · rw [List.getElem?_eq_none (by rw [turnTo_len]; omega), List.getElem?_eq_none (by simp; omega)]
theorem trow_snoc {n : Int} {row : List Int} {j : Nat} {u : Int} (h : row[j]? = some u) : trow n (row.take (j + 1)) = trow n (row.take j) ++ (if inR n u then [n - 1 - u] else []) := by
  unfold trow
  rw [List.take_add_one, h, Option.toList_some, List.filter_append, List.map_append]
  congr 1
  cases hu : inR n u <;> simp [hu]
theorem turnTo_row {n : Int} {ls : List (List Int)} {i j : Nat} {row : List Int} (hi : i < n.toNat) (hr : ls[i]? = some row) : (turnTo n ls i j)[n.toNat - 1 - i]? = some (trow n (row.take j)) := by
  rw [turnTo_get (by omega)]
  have : n.toNat - 1 - (n.toNat - 1 - i) = i := by omega
  rw [this]
  unfold trowAt
  rw [if_neg (by omega), if_pos rfl, List.getD_eq_getElem?_getD, hr]; rfl
theorem turnTo_step {n : Int} {ls : List (List Int)} {i j : Nat} {row : List Int} {u : Int} (hi : i < n.toNat) (hr : ls[i]? = some row) (hu : row[j]? = some u) :
    turnTo n ls i (j + 1) = if inR n u then (turnTo n ls i j).set (n.toNat - 1 - i) (trow n (row.take j) ++ [n - 1 - u]) else turnTo n ls i j := by
  apply List.ext_getElem?
  intro t
  by_cases ht : t < n.toNat
  · by_cases h : n.toNat - 1 - i = t
    · subst h
      rw [turnTo_row hi hr, trow_snoc hu]
      cases hb : inR n u
      · simp [turnTo_row hi hr]
      · simp only [if_true]
        rw [List.getElem?_set_self (by rw [turnTo_len]; omega)]
    · have e : ∀ j, trowAt n ls i j (n.toNat - 1 - t) = trowAt n ls i 0 (n.toNat - 1 - t) := by
        intro j
        unfold trowAt
        rw [if_neg (c := n.toNat - 1 - t = i) (by omega), if_neg (c := n.toNat - 1 - t = i) (by omega)]
      split
      · rw [List.getElem?_set_ne h, turnTo_get ht, turnTo_get ht, e, e j]
      · rw [turnTo_get ht, turnTo_get ht, e, e j]
  · have h1 := turnTo_len n ls i (j + 1)
    have h2 := turnTo_len n ls i j
    split
    · rw [List.getElem?_eq_none (by omega), List.getElem?_eq_none (by simp; omega)]
    · rw [List.getElem?_eq_none (by omega), List.getElem?_eq_none (by omega)]
theorem turnTo_next {n : Int} {ls : List (List Int)} {i : Nat} {row : List Int} (hr : ls[i]? = some row) : turnTo n ls i row.length = turnTo n ls (i + 1) 0 := by
  apply List.ext_getElem?
  intro t
  by_cases ht : t < n.toNat
  · rw [turnTo_get ht, turnTo_get ht]
    congr 1
    unfold trowAt
    by_cases h1 : n.toNat - 1 - t < i
    · rw [if_pos h1, if_pos (by omega)]
    · rw [if_neg h1]
      by_cases h2 : n.toNat - 1 - t = i
      · rw [if_pos h2, if_pos (by omega), h2, List.getD_eq_getElem?_getD, hr]; simp
      · rw [if_neg h2, if_neg (by omega)]
        split <;> simp [trow]
  · have h1 := turnTo_len n ls i row.length
    have h2 := turnTo_len n ls (i + 1) 0
    rw [List.getElem?_eq_none (by omega), List.getElem?_eq_none (by omega)]
theorem trow_i64 {n : Int} {row : List Int} {x : Int} (hn : n ≤ 1000) (h : x ∈ trow n row) : 0 ≤ x ∧ x < n := by
  unfold trow at h
  simp only [List.mem_map, List.mem_filter, inR, Bool.and_eq_true, decide_eq_true_eq] at h
  obtain ⟨a, ⟨_, h1, h2⟩, rfl⟩ := h
  omega
theorem edge_turn {n : Int} {ls : List (List Int)} {e : Nat} (he : ∀ i, e ≤ i → i < n.toNat → ls[i]? = none) (p q : Int) : edge n (turnTo n ls e 0) p q ↔ edge n ls (n - 1 - p) (n - 1 - q) := by
  have hi : ∀ p : Int, 0 ≤ p → p < n → n.toNat - 1 - p.toNat = (n - 1 - p).toNat := fun p _ _ => by omega
  unfold edge
  constructor
  · rintro ⟨h1, h2, h3, h4, row, hr, hq⟩
    refine ⟨by omega, by omega, by omega, by omega, ?_⟩
    rw [turnTo_get (by omega), hi p h1 h2] at hr
    cases hr
    unfold trowAt at hq
    split at hq
    · rw [List.getD_eq_getElem?_getD] at hq
      cases hl : ls[(n - 1 - p).toNat]? with
      | none => rw [hl] at hq; simp [trow] at hq
      | some row =>
        rw [hl] at hq
        refine ⟨row, rfl, ?_⟩
        unfold trow at hq
        simp only [Option.getD_some, List.mem_map, List.mem_filter] at hq
        obtain ⟨x, ⟨hx, _⟩, rfl⟩ := hq
        rwa [show n - 1 - (n - 1 - x) = x by omega]
    · split at hq <;> simp [trow] at hq
  · rintro ⟨h1, h2, h3, h4, row, hr, hq⟩
    refine ⟨by omega, by omega, by omega, by omega, _, turnTo_get (by omega), ?_⟩
    rw [hi p (by omega) (by omega)]
    unfold trowAt
    have hlt : (n - 1 - p).toNat < e := by
      apply Classical.byContradiction
      intro h
      have := he (n - 1 - p).toNat (by omega) (by omega)
      rw [this] at hr; cases hr
    rw [if_pos hlt, List.getD_eq_getElem?_getD, hr]
    unfold trow
    simp only [Option.getD_some, List.mem_map, List.mem_filter]
    exact ⟨n - 1 - q, ⟨hq, by simp [inR]; omega⟩, by omega⟩
theorem star_map {E E' : Int → Int → Prop} {f : Int → Int} (h : ∀ p q, E p q → E' (f p) (f q)) {a b : Int} (hs : Star E a b) : Star E' (f a) (f b) := by
  induction hs with
  | refl => exact .refl _
  | tail _ e ih => exact .tail ih (h _ _ e)
theorem rB_turn {n : Int} {ls : List (List Int)} {e : Nat} (he : ∀ i, e ≤ i → i < n.toNat → ls[i]? = none) (a b : Int) : rB n (turnTo n ls e 0) (n - 1 - a) (n - 1 - b) = rB n ls a b := by
  rw [Bool.eq_iff_iff, rB_iff, rB_iff]
  have hf : ∀ x : Int, n - 1 - (n - 1 - x) = x := fun x => by omega
  constructor
  · rintro ⟨h1, h2, h3, h4, h5⟩
    refine ⟨by omega, by omega, by omega, by omega, ?_⟩
    have := star_map (E' := edge n ls) (f := fun x => n - 1 - x) (fun p q h => (edge_turn he p q).1 h) h5
    simpa only [hf] using this
  · rintro ⟨h1, h2, h3, h4, h5⟩
    refine ⟨by omega, by omega, by omega, by omega, ?_⟩
    refine star_map (f := fun x => n - 1 - x) (fun p q h => ?_) h5
    rw [edge_turn he, hf, hf]; exact h
theorem turnTo_rl {n : Int} {ls : List (List Int)} {M : Nat} (h : ∀ xs ∈ ls, xs.length ≤ M) (i j : Nat) : ∀ xs ∈ turnTo n ls i j, xs.length ≤ M := by
  intro xs hx
  unfold turnTo at hx
  obtain ⟨t, _, rfl⟩ := List.mem_map.1 hx
  have hg : (ls.getD (n.toNat - 1 - t) []).length ≤ M := by
    rw [List.getD_eq_getElem?_getD]
    cases hl : ls[n.toNat - 1 - t]? with
    | none => simp
    | some row => exact h row (List.mem_of_getElem? hl)
  have ht : ∀ row : List Int, (trow n row).length ≤ row.length := fun row => by
    unfold trow; rw [List.length_map]; exact List.length_filter_le _ _
  unfold trowAt
  split
  · exact Nat.le_trans (ht _) hg
  · split
    · refine Nat.le_trans (ht _) (Nat.le_trans ?_ hg)
      rw [List.length_take]; omega
    · simp
end Go.Scc
