/- What is seen behind a collect. -/
import Derived.Test.YtoekjhalcjhegaaHepP3
import Derived.Test.YtoekjhalcjhegaaHepW15
import Derived.Test.YtoekjhalcjhegaaHepP2
set_option linter.unusedVariables false
namespace Go.Hp
open Go Go.Eng
theorem col_alk {l : List Nd} (hO : Ok l) (rs : List Int) : Alk l (collect l rs).1 (fun p q => (0 ≤ p ∧ p < l.length) ∧ fol l p ∈ kept l rs ∧ q = (((kept l rs).idxOf (fol l p) : Nat) : Int)) := by
  rintro p q ⟨hp, hk, rfl⟩
  have hlt := idx_lt hk
  have hq : (0 : Int) ≤ (((kept l rs).idxOf (fol l p) : Nat) : Int) ∧ (((kept l rs).idxOf (fol l p) : Nat) : Int) < (collect l rs).1.length := by rw [col_len]; omega
  refine ⟨hp, hq, ?_⟩
  rw [col_fol hO rs hq.1 hq.2, col_at hk]
  refine ⟨rfl, rfl, rfl, by simp [ren], fun i k k' h1 h2 => ?_⟩
  have hqr := (kept_kp hO rs).rng _ hk
  have hkm := List.mem_of_getElem? h1
  refine ⟨right_kid (hO.right _ (List.mem_of_getElem? (nodeAt_get hqr.1 hqr.2))) hkm, kept_has hO rs _ hk k hkm, ?_⟩
  unfold ren at h2
  rw [List.getElem?_map, h1] at h2
  exact (Option.some.inj h2).symm
theorem kept_nil (l : List Nd) : kept l [] = [] := kept_eq (Bfs.done (Nat.le_refl _))
theorem collect_nil (l : List Nd) : collect l [] = ([], []) := by
  unfold collect; rw [kept_nil]; rfl
end Go.Hp
namespace Go.Proofs.Ytoekjhalcjhegaa.Hep
open Go Go.Eng Go.Hp
theorem emp_of {l : List Nd} (h : (l.length : Int) = 0) : l = [] := List.eq_nil_of_length_eq_zero (by omega)
/-- The places made of the first six roots. -/
def placesN (rs : List Int) (n : Nat) (i : Nat) : List Int := (rs.take i).map fun r => around r n
theorem placesN_succ {rs : List Int} {n i : Nat} {r : Int} (h : rs[i]? = some r) : placesN rs n (i + 1) = placesN rs n i ++ [around r n] := by
  unfold placesN
  rw [List.take_add_one, h]; simp
theorem placesN_len {rs : List Int} {n i : Nat} (h : i ≤ rs.length) : (placesN rs n i).length = i := by
  unfold placesN; simp; omega
theorem placesN_rng {rs : List Int} {n i : Nat} (hn : 0 < n) : ∀ p ∈ placesN rs n i, 0 ≤ p ∧ p < n := by
  intro p hp
  obtain ⟨r, _, rfl⟩ := List.mem_map.1 hp
  exact around_lt r n (by omega)
end Go.Proofs.Ytoekjhalcjhegaa.Hep
