/- In which row places come. -/
import Derived.Test.YtoekjhalcjhegaaHepP3
set_option linter.unusedVariables false
namespace Go.Hp
open Go Go.Eng
/-- A place that comes is either there, or it is the next one. -/
theorem next_one {K M : List Int} {q : Int} (hp : add M q <+: K) : q ∈ K ∧ ((K.idxOf q < M.length ∧ (add M q).length = M.length) ∨ (K.idxOf q = M.length ∧ (add M q).length = M.length + 1)) := by
  have h1 := mem_add M q
  refine ⟨hp.subset h1, ?_⟩
  rw [idx_prefix h1 hp]
  by_cases h : q ∈ M
  · left; rw [add_in h]; exact ⟨idx_lt h, rfl⟩
  · right; exact ⟨idx_new h, by rw [add_new h]; simp⟩
theorem take_prefix {l : List Nd} {K ps : List Int} {i j : Nat} (h : i ≤ j) : adds l K (ps.take i) <+: adds l K (ps.take j) := by
  have e : ps.take j = ps.take i ++ (ps.take j).drop i := by
    rw [show ps.take i = (ps.take j).take i by rw [List.take_take, Nat.min_eq_left h]]
    exact (List.take_append_drop _ _).symm
  rw [e]
  unfold adds
  rw [List.foldl_append]
  exact adds_prefix l _ _
theorem filter_take {l : List Nd} {rs : List Int} : ∀ {i j : Nat}, i ≤ j → adds l [] (isPlaces l (rs.take i)) <+: adds l [] (isPlaces l (rs.take j)) := by
  intro i j h
  have e : rs.take j = rs.take i ++ (rs.take j).drop i := by
    rw [show rs.take i = (rs.take j).take i by rw [List.take_take, Nat.min_eq_left h]]
    exact (List.take_append_drop _ _).symm
  rw [e]
  unfold isPlaces adds
  rw [List.filter_append, List.foldl_append]
  exact adds_prefix l _ _
/-- What the roots come to, up to the i-th one. -/
noncomputable def comeTo (l : List Nd) (rs : List Int) (i : Nat) : List Int := adds l [] (isPlaces l (rs.take i))
theorem comeTo_zero (l : List Nd) (rs : List Int) : comeTo l rs 0 = [] := rfl
theorem comeTo_all (l : List Nd) (rs : List Int) : comeTo l rs rs.length = adds l [] (isPlaces l rs) := by unfold comeTo; rw [List.take_length]
theorem comeTo_kept {l : List Nd} (hO : Ok l) (rs : List Int) {i : Nat} (h : i ≤ rs.length) : comeTo l rs i <+: kept l rs := by
  have h1 : comeTo l rs i <+: comeTo l rs rs.length := filter_take h
  rw [comeTo_all] at h1
  exact h1.trans (kept_bfs hO rs).prefix
theorem comeTo_succ {l : List Nd} {rs : List Int} {i : Nat} {p : Int} (h : rs[i]? = some p) : comeTo l rs (i + 1) = if inB l.length p then add (comeTo l rs i) (fol l p) else comeTo l rs i := by
  unfold comeTo
  rw [isPlaces_take h]
  split
  · rw [adds_snoc]
  · rfl
theorem bfs_lt {l : List Nd} {i : Nat} {K K' : List Int} (h : Bfs l i K K') (hi : i < K'.length) : i < K.length := by
  cases h with
  | done h0 => omega
  | step h1 _ => exact (List.getElem?_eq_some_iff.1 h1).1
theorem bfs_next {l : List Nd} {i : Nat} {K K' : List Int} {q : Int} (h : Bfs l i K K') (hq : K[i]? = some q) : Bfs l (i + 1) (adds l K (nodeAt l q).kids) K' := by
  cases h with
  | done h0 => have := (List.getElem?_eq_some_iff.1 hq).1; omega
  | step h1 h2 => rw [hq] at h1; cases h1; exact h2
theorem bfs_end {l : List Nd} {i : Nat} {K K' : List Int} (h : Bfs l i K K') (hi : K'.length ≤ i) : K = K' := by
  cases h with
  | done h0 => rfl
  | step h1 h2 =>
    have := (List.getElem?_eq_some_iff.1 h1).1
    have h3 := (Bfs.step h1 h2).prefix.length_le
    omega
end Go.Hp
