/- What is collected, as lists; the kept nodes in memory while they are gathered. -/
import Derived.Test.YtoekjhalcjhegaaHepM
set_option linter.unusedVariables false
set_option linter.unusedSimpArgs false
namespace Go.Hp
open Go Go.Eng Go.RowKit
def nodeAt (l : List Nd) (q : Int) : Nd := l.getD q.toNat ⟨0, 0, [], []⟩
theorem nodeAt_eq {l : List Nd} {q : Int} {a : Nd} (h : l[q.toNat]? = some a) : nodeAt l q = a := by unfold nodeAt; rw [List.getD_eq_getElem?_getD, h]; rfl
theorem nodeAt_get {l : List Nd} {q : Int} (h0 : 0 ≤ q) (h1 : q < l.length) : l[q.toNat]? = some (nodeAt l q) := by
  have : l[q.toNat]? = some (l[q.toNat]'(by omega)) := List.getElem?_eq_getElem (by omega)
  rw [nodeAt_eq this, this]
def add (K : List Int) (q : Int) : List Int := if q ∈ K then K else K ++ [q]
theorem add_in {K : List Int} {q : Int} (h : q ∈ K) : add K q = K := by unfold add; rw [if_pos h]
theorem add_new {K : List Int} {q : Int} (h : q ∉ K) : add K q = K ++ [q] := by unfold add; rw [if_neg h]
theorem mem_add (K : List Int) (q : Int) : q ∈ add K q := by
  unfold add; split
  · assumption
  · simp
theorem add_prefix (K : List Int) (q : Int) : K <+: add K q := by
  unfold add; split
  · exact List.prefix_refl _
  · exact List.prefix_append _ _
theorem idx_prefix {K K' : List Int} {q : Int} (h : q ∈ K) (hp : K <+: K') : K'.idxOf q = K.idxOf q := by
  obtain ⟨r, rfl⟩ := hp
  rw [List.idxOf_append, if_pos h]
theorem idx_new {K : List Int} {q : Int} (h : q ∉ K) : (add K q).idxOf q = K.length := by
  rw [add_new h, List.idxOf_append, if_neg h]
  simp
theorem idx_get {K : List Int} {q : Int} (h : q ∈ K) : K[K.idxOf q]? = some q := by
  have hlt := List.idxOf_lt_length_of_mem h
  rw [List.getElem?_eq_getElem hlt, List.getElem_idxOf hlt]
theorem idx_lt {K : List Int} {q : Int} (h : q ∈ K) : K.idxOf q < K.length := List.idxOf_lt_length_of_mem h
theorem idx_of_get {K : List Int} (hn : K.Nodup) {i : Nat} {q : Int} (h : K[i]? = some q) : K.idxOf q = i := by
  obtain ⟨hlt, rfl⟩ := List.getElem?_eq_some_iff.1 h
  exact hn.idxOf_getElem i hlt
/-- Kept places: places, each once. -/
structure Kp (l : List Nd) (K : List Int) : Prop where
  nd : K.Nodup
  rng : ∀ q ∈ K, 0 ≤ q ∧ q < l.length
  stop : ∀ q ∈ K, (nodeAt l q).form ≠ 5
theorem Kp.nil (l : List Nd) : Kp l [] := ⟨by simp, by simp, by simp⟩
theorem Kp.add {l : List Nd} {K : List Int} {q : Int} (h : Kp l K) (h0 : 0 ≤ q) (h1 : q < l.length) (h2 : (nodeAt l q).form ≠ 5) : Kp l (add K q) := by
  unfold Hp.add
  split
  · exact h
  · rename_i hq
    refine ⟨?_, ?_, ?_⟩
    · rw [List.nodup_append]
      exact ⟨h.nd, by simp, fun a ha b hb => by simp at hb; subst hb; exact fun e => hq (e ▸ ha)⟩
    · intro x hx; simp at hx
      rcases hx with hx | rfl
      · exact h.rng x hx
      · exact ⟨h0, h1⟩
    · intro x hx; simp at hx
      rcases hx with hx | rfl
      · exact h.stop x hx
      · exact h2
theorem Kp.addF {l : List Nd} {K : List Int} {p : Int} (h : Kp l K) (hE : Ends l) (h0 : 0 ≤ p) (h1 : p < l.length) : Kp l (Hp.add K (fol l p)) := by
  obtain ⟨e1, e2, a, e3, e4⟩ := fol_spec hE h0 h1
  exact h.add e1 e2 (by rw [nodeAt_eq e3]; exact e4)
theorem nodup_len : ∀ {n : Nat} {K : List Int}, K.Nodup → (∀ q ∈ K, 0 ≤ q ∧ q < (n : Int)) → K.length ≤ n
  | 0, K, hn, hr => by
    cases K with
    | nil => simp
    | cons q K => have := hr q (.head _); omega
  | n + 1, K, hn, hr => by
    have h1 : (K.erase (n : Int)).Nodup := hn.sublist List.erase_sublist
    have h2 : ∀ q ∈ K.erase (n : Int), 0 ≤ q ∧ q < (n : Int) := by
      intro q hq
      rw [hn.mem_erase_iff] at hq
      have := hr q hq.2
      have h3 := hq.1
      omega
    have h3 := nodup_len h1 h2
    have h4 : K.length ≤ (K.erase (n : Int)).length + 1 := by rw [List.length_erase]; split <;> omega
    omega
theorem Kp.len {l : List Nd} {K : List Int} (h : Kp l K) : K.length ≤ l.length := nodup_len h.nd h.rng
/-- Places that come, one by one. -/
noncomputable def adds (l : List Nd) (K : List Int) (ps : List Int) : List Int := ps.foldl (fun K p => add K (fol l p)) K
theorem adds_nil (l : List Nd) (K : List Int) : adds l K [] = K := rfl
theorem adds_snoc (l : List Nd) (K ps : List Int) (p : Int) : adds l K (ps ++ [p]) = add (adds l K ps) (fol l p) := by unfold adds; rw [List.foldl_append]; rfl
theorem adds_prefix (l : List Nd) (K ps : List Int) : K <+: adds l K ps := by
  induction ps generalizing K with
  | nil => exact List.prefix_refl _
  | cons p ps ih => exact (add_prefix K _).trans (ih _)
theorem adds_mem (l : List Nd) (K ps : List Int) {p : Int} (h : p ∈ ps) : fol l p ∈ adds l K ps := by
  induction ps generalizing K with
  | nil => cases h
  | cons a ps ih =>
    rcases List.mem_cons.1 h with rfl | h
    · exact (adds_prefix l _ ps).subset (mem_add K _)
    · exact ih _ h
theorem Kp.adds {l : List Nd} {K : List Int} {ps : List Int} (h : Kp l K) (hE : Ends l) (hp : ∀ p ∈ ps, 0 ≤ p ∧ p < l.length) : Kp l (Hp.adds l K ps) := by
  induction ps generalizing K with
  | nil => exact h
  | cons p ps ih => exact ih (h.addF hE (hp p (.head _)).1 (hp p (.head _)).2) (fun q hq => hp q (.tail _ hq))
/-- The places of the roots. -/
def isPlaces (l : List Nd) (rs : List Int) : List Int := rs.filter (inB l.length)
theorem isPlaces_rng {l : List Nd} {rs : List Int} : ∀ p ∈ isPlaces l rs, 0 ≤ p ∧ p < l.length := fun p hp => inB_iff.1 (List.mem_filter.1 hp).2
/-- From the i-th of the kept places on their kids' places are gathered in; K' are they in the end. -/
inductive Bfs (l : List Nd) : Nat → List Int → List Int → Prop
  | done {i : Nat} {K : List Int} : K.length ≤ i → Bfs l i K K
  | step {i : Nat} {K K' : List Int} {q : Int} : K[i]? = some q → Bfs l (i + 1) (adds l K (nodeAt l q).kids) K' → Bfs l i K K'
theorem Bfs.det {l : List Nd} {i : Nat} {K K1 K2 : List Int} (h : Bfs l i K K1) (h' : Bfs l i K K2) : K1 = K2 := by
  induction h with
  | done h0 =>
    cases h' with
    | done _ => rfl
    | step g1 _ => have := (List.getElem?_eq_some_iff.1 g1).1; omega
  | step h1 _ ih =>
    cases h' with
    | done g0 => have := (List.getElem?_eq_some_iff.1 h1).1; omega
    | step g1 g2 => rw [h1] at g1; cases g1; exact ih g2
theorem Bfs.prefix {l : List Nd} {i : Nat} {K K' : List Int} (h : Bfs l i K K') : K <+: K' := by
  induction h with
  | done _ => exact List.prefix_refl _
  | step _ _ ih => exact (adds_prefix _ _ _).trans ih
theorem Bfs.kp {l : List Nd} (hO : Ok l) {i : Nat} {K K' : List Int} (h : Bfs l i K K') (hK : Kp l K) : Kp l K' := by
  induction h with
  | done _ => exact hK
  | step h1 _ ih =>
    have hq := hK.rng _ (List.mem_of_getElem? h1)
    exact ih (hK.adds hO.ends (fun p hp => right_kid (hO.right _ (List.mem_of_getElem? (nodeAt_get hq.1 hq.2))) hp))
theorem Bfs.ex {l : List Nd} (hO : Ok l) : ∀ (m i : Nat) (K : List Int), Kp l K → m = l.length - i → ∃ K', Bfs l i K K' := by
  intro m
  induction m with
  | zero =>
    intro i K hK hm
    exact ⟨K, .done (by have := hK.len; omega)⟩
  | succ m ih =>
    intro i K hK hm
    by_cases hi : i < K.length
    · have hq := hK.rng _ (List.getElem_mem hi)
      obtain ⟨K', h'⟩ := ih (i + 1) (Hp.adds l K (nodeAt l K[i]).kids) (hK.adds hO.ends (fun p hp => right_kid (hO.right _ (List.mem_of_getElem? (nodeAt_get hq.1 hq.2))) hp)) (by omega)
      exact ⟨K', .step (List.getElem?_eq_getElem hi) h'⟩
    · exact ⟨K, .done (by omega)⟩
open Classical in
/-- All that is kept. -/
noncomputable def kept (l : List Nd) (rs : List Int) : List Int := if h : ∃ K', Bfs l 0 (adds l [] (isPlaces l rs)) K' then h.choose else []
theorem kept_eq {l : List Nd} {rs K' : List Int} (h : Bfs l 0 (adds l [] (isPlaces l rs)) K') : kept l rs = K' := by
  unfold kept
  rw [dif_pos ⟨K', h⟩]
  exact (Exists.choose_spec (⟨K', h⟩ : ∃ K', Bfs l 0 (adds l [] (isPlaces l rs)) K')).det h
theorem kept_bfs {l : List Nd} (hO : Ok l) (rs : List Int) : Bfs l 0 (adds l [] (isPlaces l rs)) (kept l rs) := by
  obtain ⟨K', h⟩ := Bfs.ex hO _ 0 (adds l [] (isPlaces l rs)) ((Kp.nil l).adds hO.ends isPlaces_rng) rfl
  rw [kept_eq h]; exact h
/-- A node whose kids are told anew. -/
noncomputable def ren (l : List Nd) (K : List Int) (a : Nd) : Nd := { a with kids := a.kids.map fun k => (K.idxOf (fol l k) : Int) }
noncomputable def collect (l : List Nd) (rs : List Int) : List Nd × List Int :=
  ((kept l rs).map fun q => ren l (kept l rs) (nodeAt l q), rs.map fun p => if inB l.length p then ((kept l rs).idxOf (fol l p) : Int) else -1)
/-- All kids' places are among these. -/
def Has (l : List Nd) (K : List Int) (a : Nd) : Prop := ∀ k ∈ a.kids, fol l k ∈ K
theorem ren_prefix {l : List Nd} {K K' : List Int} {a : Nd} (h : Has l K a) (hp : K <+: K') : ren l K' a = ren l K a := by
  unfold ren
  congr 1
  exact List.map_congr_left fun k hk => by rw [idx_prefix (h k hk) hp]
theorem Has.mono {l : List Nd} {K K' : List Int} {a : Nd} (h : Has l K a) (hp : K <+: K') : Has l K' a := fun k hk => hp.subset (h k hk)
/-! ## The kept nodes in memory -/
def kcells (T : List (Nd × Value)) : List Value := T.flatMap fun t => ndCells t.1 t.2
def kidE (t : Nd × Value) : Ent := .own t.2 3 1 t.1.kids.length (t.1.kids.map (Value.int .i64))
def kents (T : List (Nd × Value)) : List Ent := T.map kidE
theorem kcells_len (T : List (Nd × Value)) : (kcells T).length = T.length * 4 := by
  induction T with
  | nil => rfl
  | cons t T ih => simp only [kcells, List.flatMap_cons, List.length_append, List.length_cons] at ih ⊢; rw [ih]; simp [ndCells]; omega
theorem kcells_get : ∀ {T : List (Nd × Value)} {i : Nat} {t : Nd × Value}, T[i]? = some t → ORow (kcells T) (0 + i * 4) (ndCells t.1 t.2)
  | [], i, t, h => by simp at h
  | s :: T, 0, t, h => by
    simp at h; subst h
    intro j u hj
    simp only [kcells, List.flatMap_cons]
    rw [List.getElem?_append_left (by have := (List.getElem?_eq_some_iff.1 hj).1; omega)]; simpa using hj
  | s :: T, i + 1, t, h => by
    have ih := kcells_get (T := T) (i := i) (t := t) (by simpa using h)
    intro j u hj
    simp only [kcells, List.flatMap_cons] at ih ⊢
    rw [List.getElem?_append_right (by simp [ndCells]; omega), ← ih j u hj]
    congr 1
    simp [ndCells]; omega
theorem kcells_snoc (T : List (Nd × Value)) (t : Nd × Value) : kcells (T ++ [t]) = kcells T ++ ndCells t.1 t.2 := by simp [kcells]
theorem kents_snoc (T : List (Nd × Value)) (t : Nd × Value) : kents (T ++ [t]) = kents T ++ [kidE t] := by simp [kents]
def mapOf (K : List Int) : List (Value × Value) := K.zipIdx.map fun p => (.int .i64 p.1, .int .i64 p.2)
theorem mapOf_get (K : List Int) (i : Nat) : (mapOf K)[i]? = (K[i]?).map fun q => (.int .i64 q, .int .i64 i) := by
  unfold mapOf
  rw [List.getElem?_map, List.getElem?_zipIdx]
  cases K[i]? <;> simp
theorem mapOf_snoc (K : List Int) (q : Int) : mapOf (K ++ [q]) = mapOf K ++ [(.int .i64 q, .int .i64 K.length)] := by
  unfold mapOf
  rw [List.zipIdx_append]
  simp
theorem mapOf_keys {K : List Int} : ∀ p ∈ mapOf K, MapKept.IsKey (.int .i64) p.1 := by
  intro p hp
  obtain ⟨x, _, rfl⟩ := List.mem_map.1 hp
  rfl
theorem mapOf_no {K : List Int} {q : Int} (h : q ∉ K) : ∀ p ∈ mapOf K, p.1 ≠ .int .i64 q := by
  intro p hp
  obtain ⟨x, hx, rfl⟩ := List.mem_map.1 hp
  obtain ⟨a, i⟩ := x
  intro e
  simp at e; subst e
  exact h (List.mem_of_getElem? (List.mk_mem_zipIdx_iff_getElem?.1 hx))
/-- What is gathered is made fast. -/
theorem freezeKents {w0 w : World} {V : Vw} {L0 : List Ent} : ∀ (T : List (Nd × Value)) (A : List Ent), (∀ t ∈ T, ∀ k ∈ t.1.kids, I64 k) → Mem w0 w (A ++ (kents T ++ L0)) V →
    ∃ V', VLe V V' ∧ Mem w0 w (A ++ L0) V' ∧ NdCells V' (T.map (·.1)) (kcells T)
  | [], A, _, h => ⟨V, VLe.refl _, h, rfl⟩
  | t :: T, A, hk, h => by
    have h1 : Mem w0 w (kidE t :: (A ++ (kents T ++ L0))) V := h.perm (by simp only [kents, List.map_cons, List.cons_append]; exact List.perm_middle)
    obtain ⟨V1, hV, hM, a', c', b', e1, e2, e3, e4, e5⟩ := Mem.freezeOwn h1
    obtain ⟨V2, hV2, hM2, hN⟩ := freezeKents T A (fun s hs => hk s (.tail _ hs)) hM
    refine ⟨V2, hV.trans hV2, hM2, t.2, kcells T, by simp [kcells], ?_, hN⟩
    rw [e1]
    exact (isInts_of rfl e2 e3 e4 e5 (hk t (.head _))).le hV2
end Go.Hp
