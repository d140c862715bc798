/- Heaps without an Ind and without kids: what is collected. -/
import Derived.Test.YtoekjhalcjhegaaHepC
set_option linter.unusedVariables false
namespace Go.Hp
/-- No Ind, no kid. -/
def Bare (l : List Nd) : Prop := ∀ a ∈ l, a.form ≠ 5 ∧ a.kids = []
theorem Bare.fol {l : List Nd} (h : Bare l) {p : Int} (h0 : 0 ≤ p) (h1 : p < l.length) : fol l p = p :=
  fol_stop h0 (List.getElem?_eq_getElem (by omega)) (h _ (List.getElem_mem (by omega))).1
theorem Bare.adds {l : List Nd} (h : Bare l) : ∀ (ps K : List Int), (∀ p ∈ ps, 0 ≤ p ∧ p < l.length) → (K ++ ps).Nodup → adds l K ps = K ++ ps
  | [], K, _, _ => by rw [adds_nil]; simp
  | p :: ps, K, hr, hn => by
    have h1 := hr p (.head _)
    have hp : p ∉ K := fun hm => by
      rw [List.nodup_append] at hn
      exact hn.2.2 p hm p (.head _) rfl
    have := Bare.adds h ps (K ++ [p]) (fun q hq => hr q (.tail _ hq)) (by simpa using hn)
    show Hp.adds l (add K (Hp.fol l p)) ps = _
    rw [h.fol h1.1 h1.2, add_new hp, this]
    simp
theorem Bare.bfs {l : List Nd} (h : Bare l) : ∀ (m i : Nat) (K : List Int), m = K.length - i → (∀ p ∈ K, 0 ≤ p ∧ p < l.length) → Bfs l i K K := by
  intro m
  induction m with
  | zero => intro i K hm _; exact .done (by omega)
  | succ m ih =>
    intro i K hm hr
    have hi : i < K.length := by omega
    have hq := hr _ (List.getElem_mem hi)
    refine .step (List.getElem?_eq_getElem hi) ?_
    have e : (nodeAt l K[i]).kids = [] := (h _ (List.mem_of_getElem? (nodeAt_get hq.1 hq.2))).2
    rw [e, adds_nil]
    exact ih (i + 1) K (by omega) hr
theorem Bare.kept {l : List Nd} (h : Bare l) {rs : List Int} (hr : ∀ p ∈ rs, 0 ≤ p ∧ p < l.length) (hn : rs.Nodup) : kept l rs = rs := by
  refine kept_eq ?_
  have e1 : isPlaces l rs = rs := List.filter_eq_self.2 fun p hp => inB_iff.2 (hr p hp)
  rw [e1, h.adds rs [] hr (by simpa using hn)]
  exact h.bfs _ 0 rs rfl hr
theorem Bare.collect {l : List Nd} (h : Bare l) {rs : List Int} (hr : ∀ p ∈ rs, 0 ≤ p ∧ p < l.length) (hn : rs.Nodup) : collect l rs = (rs.map (nodeAt l), (List.range rs.length).map fun (i : Nat) => (i : Int)) := by
  unfold Hp.collect
  rw [h.kept hr hn]
  refine Prod.ext ?_ ?_
  · show rs.map _ = _
    refine List.map_congr_left fun q hq => ?_
    have := hr q hq
    have e : (nodeAt l q).kids = [] := (h _ (List.mem_of_getElem? (nodeAt_get this.1 this.2))).2
    unfold ren
    rw [e]
    show (⟨_, _, _, _⟩ : Nd) = _
    cases hnd : nodeAt l q with
    | mk a b c d => rw [hnd] at e; simp at e; subst e; rfl
  · show rs.map _ = _
    apply List.ext_getElem?
    intro j
    rw [List.getElem?_map, List.getElem?_map]
    rcases Nat.lt_or_ge j rs.length with hlt | hge
    · have hq := hr _ (List.getElem_mem hlt)
      rw [List.getElem?_eq_getElem hlt, List.getElem?_range hlt]
      simp only [Option.map_some]
      rw [if_pos (inB_iff.2 hq), h.fol hq.1 hq.2, hn.idxOf_getElem j hlt]
    · rw [List.getElem?_eq_none hge, List.getElem?_eq_none (by simpa using hge)]; rfl
/-- The nodes of the first rows of calls: one Int after another. -/
def intsN (n : Nat) : List Nd := (List.range n).map fun (i : Nat) => ⟨1, i, [], []⟩
theorem intsN_len (n : Nat) : (intsN n).length = n := by simp [intsN]
theorem intsN_succ (n : Nat) : intsN (n + 1) = intsN n ++ [⟨1, n, [], []⟩] := by simp [intsN, List.range_succ]
theorem intsN_bare (n : Nat) : Bare (intsN n) := by
  intro a ha
  obtain ⟨i, _, rfl⟩ := List.mem_map.1 ha
  exact ⟨by show (1 : Int) ≠ 5; decide, rfl⟩
theorem intsN_get {n : Nat} {q : Int} (h0 : 0 ≤ q) (h1 : q < n) : nodeAt (intsN n) q = ⟨1, q, [], []⟩ := by
  refine nodeAt_eq ?_
  unfold intsN
  rw [List.getElem?_map, List.getElem?_range (by omega)]
  simp; omega
/-- Last places first. -/
def downN (n k : Nat) : List Int := (List.range k).map fun (i : Nat) => (n : Int) - 1 - i
theorem downN_len (n k : Nat) : (downN n k).length = k := by simp [downN]
theorem downN_succ (n k : Nat) : downN n (k + 1) = downN n k ++ [(n : Int) - 1 - k] := by simp [downN, List.range_succ]
theorem downN_rng {n k : Nat} (h : k ≤ n) : ∀ p ∈ downN n k, 0 ≤ p ∧ p < n := by
  intro p hp
  obtain ⟨i, hi, rfl⟩ := List.mem_map.1 hp
  rw [List.mem_range] at hi
  omega
theorem downN_nodup (n k : Nat) : (downN n k).Nodup := by
  unfold downN
  refine (List.pairwise_map).2 (List.nodup_range.imp ?_)
  intro a b hab
  omega
theorem room_collect {n k : Nat} (h : k ≤ n) : collect (intsN n) (downN n k) = ((List.range k).map (fun (i : Nat) => (⟨1, (n : Int) - 1 - i, [], []⟩ : Nd)), (List.range k).map fun (i : Nat) => (i : Int)) := by
  rw [(intsN_bare n).collect (by rw [intsN_len]; exact downN_rng h) (downN_nodup n k), downN_len]
  refine Prod.ext ?_ rfl
  show (downN n k).map _ = _
  unfold downN
  rw [List.map_map]
  refine List.map_congr_left fun i hi => ?_
  rw [List.mem_range] at hi
  show nodeAt (intsN n) ((n : Int) - 1 - i) = _
  rw [intsN_get (by omega) (by omega)]
theorem intsN_ok (n : Nat) : Ok (intsN n) := by
  induction n with
  | zero => exact Ok.nil
  | succ n ih => rw [intsN_succ]; exact ih.snoc (a := ⟨1, n, [], []⟩) rfl
end Go.Hp
