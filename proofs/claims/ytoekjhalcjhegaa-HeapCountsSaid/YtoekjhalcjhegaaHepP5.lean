/- How many are come to. -/
import Derived.Test.YtoekjhalcjhegaaHepP3
set_option linter.unusedVariables false
namespace Go.Hp
open Go Go.Eng
/-- What is seen so far is kept; what it leads to is either seen or still to come. -/
structure Cn (l : List Nd) (K S next : List Int) (i : Nat) : Prop where
  nd : S.Nodup
  sub : ∀ q ∈ S, q ∈ K
  rng : ∀ p ∈ next, (0 ≤ p ∧ p < l.length) ∧ fol l p ∈ K
  come : ∀ q ∈ S, ∀ k ∈ (nodeAt l q).kids, fol l k ∈ S ∨ ∃ j : Nat, i ≤ j ∧ next[j]? = some k
theorem Cn.len {l : List Nd} {K S next : List Int} {i : Nat} (h : Cn l K S next i) (hK : Kp l K) : S.length ≤ l.length :=
  nodup_len h.nd (fun q hq => hK.rng q (h.sub q hq))
theorem Cn.skip {l : List Nd} {K S next : List Int} {i : Nat} {p : Int} (h : Cn l K S next i) (hp : next[i]? = some p) (hs : fol l p ∈ S) : Cn l K S next (i + 1) := by
  refine ⟨h.nd, h.sub, h.rng, fun q hq k hk => ?_⟩
  rcases h.come q hq k hk with h1 | ⟨j, hj, h1⟩
  · exact .inl h1
  · by_cases hji : j = i
    · subst hji
      rw [hp] at h1; cases h1
      exact .inl hs
    · exact .inr ⟨j, by omega, h1⟩
theorem Cn.see {l : List Nd} {rs S next : List Int} {i : Nat} {p : Int} (hO : Ok l) (h : Cn l (kept l rs) S next i) (hp : next[i]? = some p) (hs : fol l p ∉ S) : Cn l (kept l rs) (S ++ [fol l p]) (next ++ (nodeAt l (fol l p)).kids) (i + 1) := by
  have hpr := h.rng p (List.mem_of_getElem? hp)
  have hqr := (kept_kp hO rs).rng _ hpr.2
  have hi := (List.getElem?_eq_some_iff.1 hp).1
  refine ⟨?_, ?_, ?_, ?_⟩
  · rw [List.nodup_append]
    exact ⟨h.nd, by simp, fun a ha b hb => by simp at hb; subst hb; exact fun e => hs (e ▸ ha)⟩
  · intro q hq
    simp at hq
    rcases hq with hq | rfl
    · exact h.sub q hq
    · exact hpr.2
  · intro k hk
    rcases List.mem_append.1 hk with hk | hk
    · exact h.rng k hk
    · exact ⟨right_kid (hO.right _ (List.mem_of_getElem? (nodeAt_get hqr.1 hqr.2))) hk, kept_has hO rs _ hpr.2 k hk⟩
  · intro q hq k hk
    simp at hq
    rcases hq with hq | rfl
    · rcases h.come q hq k hk with h1 | ⟨j, hj, h1⟩
      · exact .inl (List.mem_append.2 (.inl h1))
      · by_cases hji : j = i
        · subst hji
          rw [hp] at h1; cases h1
          exact .inl (by simp)
        · exact .inr ⟨j, by omega, by rw [List.getElem?_append_left (List.getElem?_eq_some_iff.1 h1).1]; exact h1⟩
    · obtain ⟨j, hj⟩ := List.mem_iff_getElem?.1 hk
      exact .inr ⟨next.length + j, by omega, by rw [List.getElem?_append_right (by omega)]; simpa using hj⟩
theorem adds_sub' {l : List Nd} {S : List Int} : ∀ (ps M : List Int), (∀ x ∈ M, x ∈ S) → (∀ p ∈ ps, fol l p ∈ S) → ∀ x ∈ adds l M ps, x ∈ S
  | [], M, hM, _ => hM
  | p :: ps, M, hM, hp => adds_sub' ps _ (add_sub hM (hp p (.head _))) (fun q hq => hp q (.tail _ hq))
theorem Bfs.sub {l : List Nd} {S : List Int} (hS : ∀ q ∈ S, ∀ k ∈ (nodeAt l q).kids, fol l k ∈ S) {i : Nat} {K K' : List Int} (h : Bfs l i K K') (hK : ∀ x ∈ K, x ∈ S) : ∀ x ∈ K', x ∈ S := by
  induction h with
  | done _ => exact hK
  | @step i K K' q h1 _ ih => exact ih (adds_sub' _ _ hK (hS q (hK q (List.mem_of_getElem? h1))))
theorem sub_len {A B : List Int} (hA : A.Nodup) (h : ∀ x ∈ A, x ∈ B) : A.length ≤ B.length := by
  induction A generalizing B with
  | nil => exact Nat.zero_le _
  | cons a A ih =>
    have ha := h a (.head _)
    have h1 := ih (B := B.erase a) (List.nodup_cons.1 hA).2 (fun x hx => by
      have hxa : x ≠ a := fun e => (List.nodup_cons.1 hA).1 (e ▸ hx)
      exact (List.mem_erase_of_ne hxa).2 (h x (.tail _ hx)))
    have h2 := List.length_erase_of_mem ha
    have h3 := List.length_pos_of_mem ha
    simp; omega
/-- In the end as many are seen as are kept. -/
theorem Cn.fin {l : List Nd} {rs S next : List Int} {i : Nat} (hO : Ok l) (h : Cn l (kept l rs) S next i) (hi : next.length ≤ i) (hr : ∀ p ∈ rs, inB l.length p = true → fol l p ∈ S) : S.length = (collect l rs).1.length := by
  have hcl : ∀ q ∈ S, ∀ k ∈ (nodeAt l q).kids, fol l k ∈ S := fun q hq k hk => by
    rcases h.come q hq k hk with h1 | ⟨j, hj, h1⟩
    · exact h1
    · have := (List.getElem?_eq_some_iff.1 h1).1; omega
  have h2 : ∀ x ∈ kept l rs, x ∈ S := (kept_bfs hO rs).sub hcl (adds_sub' _ _ (by simp) (fun p hp => hr p (List.mem_filter.1 hp).1 (List.mem_filter.1 hp).2))
  have h3 := sub_len h.nd h.sub
  have h4 := sub_len (kept_kp hO rs).nd h2
  rw [col_len]; omega
end Go.Hp
