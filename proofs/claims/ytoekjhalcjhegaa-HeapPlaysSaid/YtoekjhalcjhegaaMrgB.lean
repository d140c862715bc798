/- Laws of what is collected. In which row places come. Nodes of the document's answer are nodes. What holds where a block ends is named, with two values. Nothing here names a program. What holds behind a part is named, with two values. Nothing here names a program. -/
import Derived.Test.YtoekjhalcjhegaaHepC2
import Derived.Test.YtoekjhalcjhegaaHepP2
import Derived.Test.YtoekjhalcjhegaaEng25
set_option linter.unusedVariables false
namespace Go.Hp
open Go Go.Eng
theorem Bfs.has {l : List Nd} {i : Nat} {K K' : List Int} (h : Bfs l i K K') (hh : ∀ (j : Nat) q, j < i → K[j]? = some q → Has l K (nodeAt l q)) : ∀ q ∈ K', Has l K' (nodeAt l q) := by
  induction h with
  | @done i K h0 =>
    intro q hq
    obtain ⟨j, hj⟩ := List.mem_iff_getElem?.1 hq
    exact hh j q (by have := (List.getElem?_eq_some_iff.1 hj).1; omega) hj
  | @step i K K' q h1 _ ih =>
    refine ih fun j p hj hp => ?_
    have hpre := adds_prefix l K (nodeAt l q).kids
    have hi := (List.getElem?_eq_some_iff.1 h1).1
    have old : ∀ j : Nat, j < K.length → (adds l K (nodeAt l q).kids)[j]? = K[j]? := by
      intro j hj
      obtain ⟨r, hr⟩ := hpre
      rw [← hr, List.getElem?_append_left hj]
    by_cases hji : j = i
    · subst hji
      rw [old j hi, h1] at hp
      cases hp
      exact fun k hk => adds_mem l K _ hk
    · rw [old j (by omega)] at hp
      exact (hh j p (by omega) hp).mono hpre
theorem kept_has {l : List Nd} (hO : Ok l) (rs : List Int) : ∀ q ∈ kept l rs, Has l (kept l rs) (nodeAt l q) := (kept_bfs hO rs).has (fun j q h => absurd h (by omega))
theorem kept_kp {l : List Nd} (hO : Ok l) (rs : List Int) : Kp l (kept l rs) := (kept_bfs hO rs).kp hO ((Kp.nil l).adds hO.ends isPlaces_rng)
theorem kept_root {l : List Nd} (hO : Ok l) {rs : List Int} {p : Int} (hp : p ∈ rs) (hb : inB l.length p = true) : fol l p ∈ kept l rs :=
  (kept_bfs hO rs).prefix.subset (adds_mem l _ _ (List.mem_filter.2 ⟨hp, hb⟩))
theorem col_len (l : List Nd) (rs : List Int) : (collect l rs).1.length = (kept l rs).length := by simp [collect]
theorem col_get {l : List Nd} {rs : List Int} {j : Nat} {q : Int} (h : (kept l rs)[j]? = some q) : (collect l rs).1[j]? = some (ren l (kept l rs) (nodeAt l q)) := by
  show ((kept l rs).map _)[j]? = _
  rw [List.getElem?_map, h]; rfl
theorem col_at {l : List Nd} {rs : List Int} {q : Int} (h : q ∈ kept l rs) : nodeAt (collect l rs).1 ((kept l rs).idxOf q : Nat) = ren l (kept l rs) (nodeAt l q) := by
  refine nodeAt_eq ?_
  rw [show (((kept l rs).idxOf q : Nat) : Int).toNat = (kept l rs).idxOf q by omega]
  exact col_get (idx_get h)
theorem col_out (l : List Nd) (rs : List Int) : (collect l rs).2 = rs.map (outv l (kept l rs)) := rfl
theorem ren_shape (l : List Nd) (K : List Int) (a : Nd) : shapeOk (ren l K a) = shapeOk a := by
  unfold shapeOk ren
  simp only [List.length_map]
theorem col_ok {l : List Nd} (hO : Ok l) (rs : List Int) : Ok (collect l rs).1 := by
  have hk := kept_kp hO rs
  have nostop : ∀ a ∈ (collect l rs).1, a.form ≠ 5 := by
    intro a ha
    obtain ⟨q, hq, rfl⟩ := List.mem_map.1 ha
    exact hk.stop q hq
  refine ⟨fun a ha => ?_, fun p h0 h1 => ?_⟩
  · obtain ⟨q, hq, rfl⟩ := List.mem_map.1 ha
    have hqr := hk.rng q hq
    have hr := hO.right _ (List.mem_of_getElem? (nodeAt_get hqr.1 hqr.2))
    unfold right at hr ⊢
    simp only [Bool.and_eq_true] at hr ⊢
    refine ⟨by rw [ren_shape]; exact hr.1, ?_⟩
    unfold kidsIn
    rw [List.all_eq_true]
    intro k hk'
    obtain ⟨x, hx, rfl⟩ := List.mem_map.1 hk'
    have := idx_lt (kept_has hO rs q hq x hx)
    rw [col_len]
    exact inB_iff.2 ⟨by omega, by omega⟩
  · have hlt : p.toNat < (collect l rs).1.length := by omega
    exact ⟨_, .stop h0 (List.getElem?_eq_getElem hlt) (nostop _ (List.getElem_mem hlt))⟩
theorem col_noInd {l : List Nd} (hO : Ok l) (rs : List Int) : ∀ a ∈ (collect l rs).1, a.form ≠ 5 := by
  intro a ha
  obtain ⟨q, hq, rfl⟩ := List.mem_map.1 ha
  exact (kept_kp hO rs).stop q hq
theorem col_fol {l : List Nd} (hO : Ok l) (rs : List Int) {p : Int} (h0 : 0 ≤ p) (h1 : p < (collect l rs).1.length) : fol (collect l rs).1 p = p :=
  fol_stop h0 (List.getElem?_eq_getElem (by omega)) (col_noInd hO rs _ (List.getElem_mem (by omega)))
/-! ## One collect behind another one -/
theorem idx_inj {K : List Int} {p q : Int} (hp : p ∈ K) (h : K.idxOf p = K.idxOf q) : p = q := by
  have h1 := idx_get hp
  by_cases hq : q ∈ K
  · have h2 := idx_get hq
    rw [h] at h1
    rw [h1] at h2
    exact Option.some.inj h2
  · have h3 := idx_lt hp
    have h4 : K.idxOf q = K.length := List.idxOf_eq_length hq
    omega
theorem map_mem {K M : List Int} {q : Int} (hM : ∀ x ∈ M, x ∈ K) (hq : q ∈ K) : ((K.idxOf q : Nat) : Int) ∈ M.map (fun x => ((K.idxOf x : Nat) : Int)) ↔ q ∈ M := by
  constructor
  · intro h
    obtain ⟨x, hx, he⟩ := List.mem_map.1 h
    have he : ((K.idxOf x : Nat) : Int) = ((K.idxOf q : Nat) : Int) := he
    have he : K.idxOf x = K.idxOf q := by omega
    rw [← idx_inj (hM x hx) he]; exact hx
  · exact fun h => List.mem_map.2 ⟨q, h, rfl⟩
theorem add_map {K M : List Int} {q : Int} (hM : ∀ x ∈ M, x ∈ K) (hq : q ∈ K) : add (M.map (fun x => ((K.idxOf x : Nat) : Int))) (K.idxOf q : Nat) = (add M q).map (fun x => ((K.idxOf x : Nat) : Int)) := by
  by_cases h : q ∈ M
  · rw [add_in h, add_in ((map_mem hM hq).2 h)]
  · rw [add_new h, add_new (fun hm => h ((map_mem hM hq).1 hm))]
    simp
theorem idx_map {K M : List Int} {q : Int} (hM : ∀ x ∈ M, x ∈ K) (hq : q ∈ K) : (M.map (fun x => ((K.idxOf x : Nat) : Int))).idxOf ((K.idxOf q : Nat) : Int) = M.idxOf q := by
  induction M with
  | nil => rfl
  | cons a M ih =>
    rw [List.map_cons, List.idxOf_cons, List.idxOf_cons]
    by_cases ha : a = q
    · subst ha; simp
    · have : ¬ (((K.idxOf a : Nat) : Int) = ((K.idxOf q : Nat) : Int)) := fun he => ha (idx_inj (hM a (.head _)) (by omega))
      rw [beq_false_of_ne this, beq_false_of_ne ha]
      simp only [cond_false]
      rw [ih (fun x hx => hM x (.tail _ hx))]
section
variable {l : List Nd} {all : List Int}
theorem add_sub {K M : List Int} {q : Int} (hM : ∀ x ∈ M, x ∈ K) (hq : q ∈ K) : ∀ x ∈ add M q, x ∈ K := by
  intro x hx
  unfold add at hx
  split at hx
  · exact hM x hx
  · simp at hx
    rcases hx with hx | rfl
    · exact hM x hx
    · exact hq
/-- Places that come, told anew. -/
theorem adds_map (hO : Ok l) : ∀ (ps M : List Int), (∀ x ∈ M, x ∈ kept l all) → (∀ p ∈ ps, fol l p ∈ kept l all) →
    adds (collect l all).1 (M.map (fun x => (((kept l all).idxOf x : Nat) : Int))) (ps.map (fun p => (((kept l all).idxOf (fol l p) : Nat) : Int))) = (adds l M ps).map (fun x => (((kept l all).idxOf x : Nat) : Int)) ∧ ∀ x ∈ adds l M ps, x ∈ kept l all
  | [], M, hM, _ => ⟨rfl, hM⟩
  | p :: ps, M, hM, hp => by
    have h1 := hp p (.head _)
    have ih := adds_map hO ps (add M (fol l p)) (add_sub hM h1) (fun q hq => hp q (.tail _ hq))
    refine ⟨?_, ih.2⟩
    show adds _ (add _ (fol _ (((kept l all).idxOf (fol l p) : Nat) : Int))) _ = _
    rw [col_fol hO all (by omega) (by rw [col_len]; have := idx_lt h1; omega), add_map hM h1]
    exact ih.1
theorem Bfs.map (hO : Ok l) {i : Nat} {K K' : List Int} (h : Bfs l i K K') (hK : ∀ x ∈ K, x ∈ kept l all) :
    Bfs (collect l all).1 i (K.map (fun x => (((kept l all).idxOf x : Nat) : Int))) (K'.map (fun x => (((kept l all).idxOf x : Nat) : Int))) ∧ ∀ x ∈ K', x ∈ kept l all := by
  induction h with
  | done h0 => exact ⟨.done (by simpa using h0), hK⟩
  | @step i K K' q h1 _ ih =>
    have hq := hK q (List.mem_of_getElem? h1)
    obtain ⟨e1, e2⟩ := adds_map hO (nodeAt l q).kids K hK (fun k hk => kept_has hO all q hq k hk)
    obtain ⟨g1, g2⟩ := ih e2
    refine ⟨.step (q := (((kept l all).idxOf q : Nat) : Int)) (by rw [List.getElem?_map, h1]; rfl) ?_, g2⟩
    rw [col_at hq]
    rw [← e1] at g1
    exact g1
theorem places_map (hO : Ok l) {rs : List Int} (h : ∀ p ∈ rs, inB l.length p = true → fol l p ∈ kept l all) :
    isPlaces (collect l all).1 (rs.map (outv l (kept l all))) = (isPlaces l rs).map (fun p => (((kept l all).idxOf (fol l p) : Nat) : Int)) := by
  induction rs with
  | nil => rfl
  | cons p rs ih =>
    have ih := ih (fun q hq => h q (.tail _ hq))
    unfold isPlaces at ih ⊢
    rw [List.map_cons, List.filter_cons, List.filter_cons]
    cases hb : inB l.length p with
    | true =>
      have h1 := idx_lt (h p (.head _) hb)
      have e : outv l (kept l all) p = (((kept l all).idxOf (fol l p) : Nat) : Int) := by unfold outv; rw [if_pos hb]
      rw [e, if_pos (inB_iff.2 ⟨by omega, by rw [col_len]; omega⟩), if_pos rfl, List.map_cons, ih]
    | false =>
      have e : outv l (kept l all) p = -1 := by unfold outv; rw [if_neg (by rw [hb]; decide)]
      rw [e, if_neg (fun hc => by have := (inB_iff.1 hc).1; omega), if_neg (by decide), ih]
theorem kept_map (hO : Ok l) {rs : List Int} (h : ∀ p ∈ rs, inB l.length p = true → fol l p ∈ kept l all) :
    kept (collect l all).1 (rs.map (outv l (kept l all))) = (kept l rs).map (fun x => (((kept l all).idxOf x : Nat) : Int)) ∧ ∀ x ∈ kept l rs, x ∈ kept l all := by
  have hp : ∀ p ∈ isPlaces l rs, fol l p ∈ kept l all := fun p hp => h p (List.mem_filter.1 hp).1 (List.mem_filter.1 hp).2
  obtain ⟨e1, e2⟩ := adds_map (all := all) hO (isPlaces l rs) [] (by simp) hp
  obtain ⟨g1, g2⟩ := (kept_bfs hO rs).map hO e2
  refine ⟨kept_eq ?_, g2⟩
  rw [places_map hO h]
  rw [← e1] at g1
  exact g1
theorem collect_again (hO : Ok l) {rs : List Int} (h : ∀ p ∈ rs, inB l.length p = true → fol l p ∈ kept l all) :
    collect (collect l all).1 (rs.map (outv l (kept l all))) = collect l rs := by
  obtain ⟨e1, e2⟩ := kept_map hO h
  refine Prod.ext ?_ ?_
  · show (kept _ _).map _ = (kept l rs).map _
    rw [e1, List.map_map]
    refine List.map_congr_left fun q hq => ?_
    show ren _ _ (nodeAt _ (((kept l all).idxOf q : Nat) : Int)) = _
    rw [col_at (e2 q hq)]
    unfold ren
    simp only [Nd.mk.injEq, true_and, List.map_map]
    refine List.map_congr_left fun k hk => ?_
    have hkk := kept_has hO rs q hq k hk
    have hkall := e2 _ hkk
    show (((List.map _ _).idxOf (fol _ (((kept l all).idxOf (fol l k) : Nat) : Int)) : Nat) : Int) = _
    rw [col_fol hO all (by omega) (by rw [col_len]; have := idx_lt hkall; omega), idx_map e2 hkall]
  · show (rs.map (outv l (kept l all))).map (outv _ (kept _ _)) = rs.map (outv l (kept l rs))
    rw [e1, List.map_map]
    refine List.map_congr_left fun p hp => ?_
    show outv _ _ (outv l (kept l all) p) = _
    cases hb : inB l.length p with
    | true =>
      have h1 := h p hp hb
      have h2 := idx_lt h1
      have e : outv l (kept l all) p = (((kept l all).idxOf (fol l p) : Nat) : Int) := by unfold outv; rw [if_pos hb]
      rw [e]
      unfold outv
      rw [if_pos hb, if_pos (inB_iff.2 ⟨by omega, by rw [col_len]; omega⟩), col_fol hO all (by omega) (by rw [col_len]; omega), idx_map e2 h1]
    | false =>
      have e : outv l (kept l all) p = -1 := by unfold outv; rw [if_neg (by rw [hb]; decide)]
      rw [e]
      unfold outv
      rw [if_neg (fun hc => by have := (inB_iff.1 hc).1; omega), if_neg (by rw [hb]; decide)]
end
end Go.Hp
set_option linter.unusedVariables false
namespace Go.Hp
open Go Go.Eng
/-- A place that comes is either there, or it is the next one. -/
theorem next_one {K M : List Int} {q : Int} (hp : add M q <+: K) : q ∈ K ∧ ((K.idxOf q < M.length ∧ (add M q).length = M.length) ∨ (K.idxOf q = M.length ∧ (add M q).length = M.length + 1)) := by
  have h1 := mem_add M q
  refine ⟨hp.subset h1, ?_⟩
  rw [idx_prefix h1 hp]
  by_cases h : q ∈ M
  · left; rw [add_in h]; exact ⟨idx_lt h, rfl⟩
  · right; exact ⟨idx_new h, by rw [add_new h]; simp⟩
theorem take_prefix {l : List Nd} {K ps : List Int} {i j : Nat} (h : i ≤ j) : adds l K (ps.take i) <+: adds l K (ps.take j) := by
  have e : ps.take j = ps.take i ++ (ps.take j).drop i := by
    rw [show ps.take i = (ps.take j).take i by rw [List.take_take, Nat.min_eq_left h]]
    exact (List.take_append_drop _ _).symm
  rw [e]
  unfold adds
  rw [List.foldl_append]
  exact adds_prefix l _ _
theorem filter_take {l : List Nd} {rs : List Int} : ∀ {i j : Nat}, i ≤ j → adds l [] (isPlaces l (rs.take i)) <+: adds l [] (isPlaces l (rs.take j)) := by
  intro i j h
  have e : rs.take j = rs.take i ++ (rs.take j).drop i := by
    rw [show rs.take i = (rs.take j).take i by rw [List.take_take, Nat.min_eq_left h]]
    exact (List.take_append_drop _ _).symm
  rw [e]
  unfold isPlaces adds
  rw [List.filter_append, List.foldl_append]
  exact adds_prefix l _ _
/-- What the roots come to, up to the i-th one. -/
noncomputable def comeTo (l : List Nd) (rs : List Int) (i : Nat) : List Int := adds l [] (isPlaces l (rs.take i))
theorem comeTo_zero (l : List Nd) (rs : List Int) : comeTo l rs 0 = [] := rfl
theorem comeTo_all (l : List Nd) (rs : List Int) : comeTo l rs rs.length = adds l [] (isPlaces l rs) := by unfold comeTo; rw [List.take_length]
theorem comeTo_kept {l : List Nd} (hO : Ok l) (rs : List Int) {i : Nat} (h : i ≤ rs.length) : comeTo l rs i <+: kept l rs := by
  have h1 : comeTo l rs i <+: comeTo l rs rs.length := filter_take h
  rw [comeTo_all] at h1
  exact h1.trans (kept_bfs hO rs).prefix
theorem comeTo_succ {l : List Nd} {rs : List Int} {i : Nat} {p : Int} (h : rs[i]? = some p) : comeTo l rs (i + 1) = if inB l.length p then add (comeTo l rs i) (fol l p) else comeTo l rs i := by
  unfold comeTo
  rw [isPlaces_take h]
  split
  · rw [adds_snoc]
  · rfl
theorem bfs_lt {l : List Nd} {i : Nat} {K K' : List Int} (h : Bfs l i K K') (hi : i < K'.length) : i < K.length := by
  cases h with
  | done h0 => omega
  | step h1 _ => exact (List.getElem?_eq_some_iff.1 h1).1
theorem bfs_next {l : List Nd} {i : Nat} {K K' : List Int} {q : Int} (h : Bfs l i K K') (hq : K[i]? = some q) : Bfs l (i + 1) (adds l K (nodeAt l q).kids) K' := by
  cases h with
  | done h0 => have := (List.getElem?_eq_some_iff.1 hq).1; omega
  | step h1 h2 => rw [hq] at h1; cases h1; exact h2
theorem bfs_end {l : List Nd} {i : Nat} {K K' : List Int} (h : Bfs l i K K') (hi : K'.length ≤ i) : K = K' := by
  cases h with
  | done h0 => rfl
  | step h1 h2 =>
    have := (List.getElem?_eq_some_iff.1 h1).1
    have h3 := (Bfs.step h1 h2).prefix.length_le
    omega
end Go.Hp
set_option linter.unusedVariables false
namespace Go.Hp
open Go Go.Eng
theorem shape_form {a : Nd} (h : shapeOk a = true) : 1 ≤ a.form ∧ a.form ≤ 6 := by
  unfold shapeOk at h
  split at h
  · omega
  split at h
  · omega
  split at h
  · omega
  split at h
  · omega
  split at h
  · omega
  split at h
  · omega
  · cases h
theorem plain_right {n : Nat} {a : Nd} (h : right n a = true) : plainN a = a := by
  unfold right at h
  simp only [Bool.and_eq_true] at h
  unfold plainN
  rw [if_pos (shape_form h.1)]
theorem plain_zero : plainN ⟨0, 0, [], []⟩ = ⟨0, 0, [], []⟩ := rfl
theorem right_plain (n : Nat) (a : Nd) : right n (plainN a) = right n a := by
  by_cases hf : 1 ≤ a.form ∧ a.form ≤ 6
  · have : plainN a = a := by unfold plainN; rw [if_pos hf]
    rw [this]
  · have h1 : right n a = false := by
      cases h : right n a with
      | false => rfl
      | true => unfold right at h; simp only [Bool.and_eq_true] at h; exact absurd (shape_form h.1) hf
    have h2 : right n (plainN a) = false := by
      have h3 : (plainN a).form = 0 := by unfold plainN; rw [if_neg hf]
      cases h : right n (plainN a) with
      | false => rfl
      | true => unfold right at h; simp only [Bool.and_eq_true] at h; have := shape_form h.1; omega
    rw [h1, h2]
theorem alloc_plain (most : Int) (l : List Nd) (a : Nd) : alloc most l (plainN a) = alloc most l a := by
  unfold alloc
  rw [right_plain]
  cases h : right l.length a with
  | false => rfl
  | true => rw [plain_right h]
theorem setN_plain (l : List Nd) (p : Int) (a : Nd) : setN l p (plainN a) = setN l p a := by
  cases h : right l.length a with
  | false => unfold setN; rw [if_pos (.inr (by rw [right_plain]; exact h)), if_pos (.inr h)]
  | true => rw [plain_right h]
def H3 (w0 w : World) (V : Vw) (h : Nat) (m1 : Int) (r : Nat) (m2 : Int) (l : List Nd) (L : List Ent) : Prop :=
  ∃ v1 cs1 v2 cs2, Mem w0 w (hp 67 31 h v1 m1 l cs1 (hp 42 47 r v2 m2 l cs2 L)) V ∧ NdCells V l cs1 ∧ NdCells V l cs2
end Go.Hp
set_option linter.unusedVariables false
namespace Go.Eng
open Go Go.RowKit
variable {P : Program} {N : NN} {Q : Exit → Act → World → Prop} {σ : Env} {w w' : World}
theorem cut_blk2 {id : Nat} {c y : Code} (ms : List (Nat × Nat)) (s1 s2 : Nat) (R : Value → Value → World → Prop) (h : c.wp P (Exit.inBlock id (KQ N (fun σ' w' => Agree ms σ σ' ∧ R (σ' s1) (σ' s2) w') Q)) (Fr N σ) w)
    (k : ∀ τ v1 v2 w', R v1 v2 w' → y.wp P Q (Fr N (upd (upd (ov ms τ σ) s1 v1) s2 v2)) w') : c.wp P (Exit.inBlock id (SQ P y Q)) (Fr N σ) w := by
  have key : ∀ (a : Act) (w : World), KQ N (fun σ' w' => Agree ms σ σ' ∧ R (σ' s1) (σ' s2) w') Q .normal a w → SQ P y Q .normal a w := by
    rintro a w ⟨σ', rfl, h1, h2⟩
    have := k σ' _ _ w h2
    rwa [ov_self h1, upd_self rfl, upd_self rfl] at this
  refine Code.wp_mono ?_ h
  intro e a w' hq
  cases e with
  | normal => exact key a w' hq
  | exit i =>
    simp only [Exit.inBlock] at hq ⊢
    split at hq
    · rename_i hi; rw [if_pos hi]; exact key a w' hq
    · rename_i hi; rw [if_neg hi]; exact hq
  | _ => exact hq
end Go.Eng
set_option linter.unusedVariables false
namespace Go.Eng
open Go Go.RowKit
variable {P : Program} {N : NN} {Q : Exit → Act → World → Prop} {σ : Env} {w w' : World}
theorem cut_seq2 {c y : Code} (ms : List (Nat × Nat)) (s1 s2 : Nat) (R : Value → Value → World → Prop) (h : c.wp P (KQ N (fun σ' w' => Agree ms σ σ' ∧ R (σ' s1) (σ' s2) w') Q) (Fr N σ) w)
    (k : ∀ τ v1 v2 w', R v1 v2 w' → y.wp P Q (Fr N (upd (upd (ov ms τ σ) s1 v1) s2 v2)) w') : c.wp P (SQ P y Q) (Fr N σ) w := by
  refine Code.wp_mono ?_ h
  intro e a w' hq
  cases e with
  | normal =>
    obtain ⟨σ', rfl, h1, h2⟩ := hq
    have := k σ' _ _ w' h2
    rw [ov_self h1, upd_self rfl, upd_self rfl] at this
    exact this
  | _ => exact hq
end Go.Eng
