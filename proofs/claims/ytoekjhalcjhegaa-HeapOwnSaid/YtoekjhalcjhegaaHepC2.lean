/- What is gathered, step by step: the kept nodes, of which the first ones are told anew. -/
import Derived.Test.YtoekjhalcjhegaaHepC
set_option linter.unusedVariables false
set_option linter.unusedSimpArgs false
namespace Go.Hp
open Go Go.Eng Go.RowKit
noncomputable def outv (l : List Nd) (K : List Int) (p : Int) : Int := if inB l.length p then (K.idxOf (fol l p) : Int) else -1
theorem outs_prefix {l : List Nd} {K K' : List Int} {rs : List Int} (h : ∀ p ∈ rs, inB l.length p = true → fol l p ∈ K) (hp : K <+: K') : rs.map (outv l K') = rs.map (outv l K) :=
  List.map_congr_left fun p hm => by
    unfold outv
    split
    · rename_i hb; rw [idx_prefix (h p hm hb) hp]
    · rfl
/-- What the j-th kept node is, where the first i ones are told anew, and of the i-th one k kids. -/
noncomputable def stage (l : List Nd) (K : List Int) (i k j : Nat) (a : Nd) : Nd :=
  if j < i then ren l K a else if j = i then { a with kids := (a.kids.take k).map (fun x => (K.idxOf (fol l x) : Int)) ++ a.kids.drop k } else a
structure TOk (l : List Nd) (K : List Int) (i k : Nat) (T : List (Nd × Value)) : Prop where
  len : T.length = K.length
  at_ : ∀ (j : Nat) q, K[j]? = some q → ∃ v, T[j]? = some (stage l K i k j (nodeAt l q), v)
  has : ∀ (j : Nat) q, K[j]? = some q → j < i → Has l K (nodeAt l q)
  hasI : ∀ q, K[i]? = some q → ∀ x ∈ (nodeAt l q).kids.take k, fol l x ∈ K
theorem TOk.nil (l : List Nd) : TOk l [] 0 0 [] := ⟨rfl, fun j q h => by simp at h, fun j q h => by simp at h, fun q h => by simp at h⟩
theorem stage_zero (l : List Nd) (K : List Int) (i : Nat) (a : Nd) : stage l K i 0 i a = a := by
  unfold stage; simp
theorem stage_prefix {l : List Nd} {K K' : List Int} {i k j : Nat} {a : Nd} (h : j < i → Has l K a) (hI : j = i → ∀ x ∈ a.kids.take k, fol l x ∈ K) (hp : K <+: K') : stage l K' i k j a = stage l K i k j a := by
  unfold stage
  split
  · rename_i h1; exact ren_prefix (h h1) hp
  split
  · rename_i h1 h2
    congr 2
    exact List.map_congr_left fun x hx => by rw [idx_prefix (hI h2 x hx) hp]
  · rfl
theorem TOk.move {l : List Nd} {K : List Int} {i k : Nat} {T T' : List (Nd × Value)} {q : Int} (h : TOk l K i k T) (hi : i < K.length ∨ (i ≤ K.length ∧ k = 0)) (hm : (q ∈ K ∧ T' = T) ∨ (q ∉ K ∧ ∃ v', T' = T ++ [(nodeAt l q, v')])) : TOk l (add K q) i k T' := by
  rcases hm with ⟨hq, rfl⟩ | ⟨hq, v', rfl⟩
  · rw [add_in hq]; exact h
  · have hp := add_prefix K q
    rw [add_new hq] at hp ⊢
    have hl := h.len
    have old : ∀ (j : Nat) p, (K ++ [q])[j]? = some p → j < K.length ∧ K[j]? = some p ∨ j = K.length ∧ p = q := by
      intro j p hj
      rcases Nat.lt_or_ge j K.length with hlt | hge
      · rw [List.getElem?_append_left hlt] at hj; exact .inl ⟨hlt, hj⟩
      · rw [List.getElem?_append_right hge] at hj
        have := (List.getElem?_eq_some_iff.1 hj).1
        simp at this
        have hj0 : j - K.length = 0 := by omega
        rw [hj0] at hj; simp at hj
        exact .inr ⟨by omega, hj.symm⟩
    refine ⟨by simp [hl], fun j p hj => ?_, fun j p hj hji => ?_, fun p hj => ?_⟩
    · rcases old j p hj with ⟨hlt, hj⟩ | ⟨rfl, rfl⟩
      · obtain ⟨v, hv⟩ := h.at_ j p hj
        refine ⟨v, ?_⟩
        rw [List.getElem?_append_left (by omega), hv, stage_prefix (h.has j p hj) (fun e => by subst e; exact h.hasI p hj) hp]
      · refine ⟨v', ?_⟩
        rw [List.getElem?_append_right (by omega), hl]
        simp only [Nat.sub_self, List.getElem?_cons_zero, Option.some.injEq, Prod.mk.injEq, and_true]
        unfold stage
        rw [if_neg (by omega)]
        split
        · rename_i e; rcases hi with hi | ⟨_, hk⟩
          · omega
          · subst hk; simp
        · rfl
    · rcases old j p hj with ⟨hlt, hj⟩ | ⟨rfl, rfl⟩
      · exact (h.has j p hj hji).mono hp
      · omega
    · intro x hx
      rcases old i p hj with ⟨hlt, hj⟩ | ⟨rfl, rfl⟩
      · exact hp.subset (h.hasI p hj x hx)
      · rcases hi with hi | ⟨_, hk⟩
        · omega
        · subst hk; simp at hx
theorem TOk.get {l : List Nd} {K : List Int} {i k : Nat} {T : List (Nd × Value)} {q : Int} (h : TOk l K i k T) (hq : K[i]? = some q) : ∃ v, T[i]? = some ({ nodeAt l q with kids := ((nodeAt l q).kids.take k).map (fun x => (K.idxOf (fol l x) : Int)) ++ (nodeAt l q).kids.drop k }, v) := by
  obtain ⟨v, hv⟩ := h.at_ i q hq
  refine ⟨v, ?_⟩
  rw [hv]; unfold stage; simp
theorem set_map (l : List Nd) (K : List Int) (xs : List Int) (k : Nat) (x : Int) (hx : xs[k]? = some x) (f : Int → Int) : ((xs.take k).map f ++ xs.drop k).set k (f x) = (xs.take (k + 1)).map f ++ xs.drop (k + 1) := by
  have hlt := (List.getElem?_eq_some_iff.1 hx).1
  rw [List.set_append_right _ _ (by simp; omega)]
  have e : k - ((xs.take k).map f).length = 0 := by simp; omega
  rw [e, List.drop_eq_getElem_cons hlt, List.take_add_one, hx]
  have : xs[k] = x := (List.getElem?_eq_some_iff.1 hx).2
  simp only [List.set_cons_zero, Option.toList_some, List.map_append, List.map_cons, List.map_nil, List.append_assoc, List.cons_append, List.nil_append]
theorem TOk.kid {l : List Nd} {K : List Int} {i k : Nat} {T : List (Nd × Value)} {q x : Int} {v : Value} (h : TOk l K i k T) (hq : K[i]? = some q) (hx : (nodeAt l q).kids[k]? = some x) (hin : fol l x ∈ K)
    (hT : T[i]? = some ({ nodeAt l q with kids := ((nodeAt l q).kids.take k).map (fun x => (K.idxOf (fol l x) : Int)) ++ (nodeAt l q).kids.drop k }, v)) :
    TOk l K i (k + 1) (T.set i ({ nodeAt l q with kids := (((nodeAt l q).kids.take k).map (fun x => (K.idxOf (fol l x) : Int)) ++ (nodeAt l q).kids.drop k).set k (K.idxOf (fol l x)) }, v)) := by
  have hiT := (List.getElem?_eq_some_iff.1 hT).1
  refine ⟨by rw [List.length_set]; exact h.len, fun j p hj => ?_, h.has, fun p hj y hy => ?_⟩
  · by_cases hji : j = i
    · subst hji
      rw [hq] at hj; cases hj
      refine ⟨v, ?_⟩
      rw [List.getElem?_set_self hiT]
      unfold stage
      rw [if_neg (by omega), if_pos rfl, set_map l K _ k x hx (fun x => (K.idxOf (fol l x) : Int))]
    · obtain ⟨u, hu⟩ := h.at_ j p hj
      refine ⟨u, ?_⟩
      rw [List.getElem?_set_ne (Ne.symm hji), hu]
      unfold stage
      split
      · rfl
      · simp only [if_neg hji]
  · rw [hq] at hj; cases hj
    rw [List.take_add_one, hx] at hy
    rcases List.mem_append.1 hy with hy | hy
    · exact h.hasI q hq y hy
    · simp at hy; subst hy; exact hin
theorem TOk.next {l : List Nd} {K : List Int} {i k : Nat} {T : List (Nd × Value)} {q : Int} (h : TOk l K i k T) (hq : K[i]? = some q) (hk : (nodeAt l q).kids.length ≤ k) : TOk l K (i + 1) 0 T := by
  refine ⟨h.len, fun j p hj => ?_, fun j p hj hji => ?_, fun p hj x hx => by simp at hx⟩
  · obtain ⟨v, hv⟩ := h.at_ j p hj
    refine ⟨v, ?_⟩
    rw [hv]
    unfold stage
    by_cases h1 : j < i
    · rw [if_pos h1, if_pos (by omega)]
    · by_cases h2 : j = i
      · subst h2
        rw [hq] at hj; cases hj
        rw [if_neg (by omega), if_pos rfl, if_pos (by omega), List.take_of_length_le hk, List.drop_eq_nil_of_le hk]
        simp [ren]
      · rw [if_neg h1, if_neg h2, if_neg (by omega)]
        split
        · simp
        · rfl
  · by_cases h1 : j = i
    · subst h1
      rw [hq] at hj; cases hj
      intro x hx
      exact h.hasI q hq x (by rw [List.take_of_length_le hk]; exact hx)
    · exact h.has j p hj (by omega)
theorem TOk.fin {l : List Nd} {K : List Int} {i : Nat} {T : List (Nd × Value)} (h : TOk l K i 0 T) (hi : K.length ≤ i) : T.map (·.1) = K.map fun q => ren l K (nodeAt l q) := by
  apply List.ext_getElem?
  intro j
  rw [List.getElem?_map, List.getElem?_map]
  rcases Nat.lt_or_ge j K.length with hlt | hge
  · obtain ⟨v, hv⟩ := h.at_ j _ (List.getElem?_eq_getElem hlt)
    rw [hv, List.getElem?_eq_getElem hlt]
    simp only [Option.map_some]
    unfold stage
    rw [if_pos (by omega)]
  · rw [List.getElem?_eq_none (by have := h.len; omega), List.getElem?_eq_none hge]; rfl
theorem kents_get {T : List (Nd × Value)} {i : Nat} {t : Nd × Value} (L0 : List Ent) (h : T[i]? = some t) : (kents T ++ L0)[i]? = some (kidE t) := by
  have hlt := (List.getElem?_eq_some_iff.1 h).1
  rw [List.getElem?_append_left (by simp [kents]; exact hlt)]
  simp [kents, h]
theorem kents_set {T : List (Nd × Value)} {i : Nat} (L0 : List Ent) (t : Nd × Value) (h : i < T.length) : (kents T ++ L0).set i (kidE t) = kents (T.set i t) ++ L0 := by
  rw [List.set_append_left _ _ (by simp [kents]; exact h)]
  simp [kents, List.map_set]
theorem kcells_set : ∀ {T : List (Nd × Value)} {i : Nat} {a : Nd} {v : Value} (ks : List Int), T[i]? = some (a, v) → kcells (T.set i ({ a with kids := ks }, v)) = kcells T
  | [], i, a, v, ks, h => by simp at h
  | t :: T, 0, a, v, ks, h => by simp at h; subst h; rfl
  | t :: T, i + 1, a, v, ks, h => by
    have ih := kcells_set (T := T) (i := i) ks (by simpa using h)
    simp only [kcells, List.set_cons_succ, List.flatMap_cons] at ih ⊢
    rw [ih]
theorem adds_take {l : List Nd} {K ps : List Int} {k : Nat} {p : Int} (h : ps[k]? = some p) : adds l K (ps.take (k + 1)) = add (adds l K (ps.take k)) (fol l p) := by
  rw [List.take_add_one, h]
  exact adds_snoc l K (ps.take k) p
theorem isPlaces_take {l : List Nd} {rs : List Int} {k : Nat} {p : Int} (h : rs[k]? = some p) : isPlaces l (rs.take (k + 1)) = if inB l.length p then isPlaces l (rs.take k) ++ [p] else isPlaces l (rs.take k) := by
  unfold isPlaces
  rw [List.take_add_one, h, List.filter_append]
  cases hb : inB l.length p <;> simp [hb]
theorem idx_I64 {K : List Int} {q : Int} (h : K.length ≤ 100000) : I64 (K.idxOf q) := by
  have : K.idxOf q ≤ K.length := List.idxOf_le_length
  unfold I64; omega
/-- A thing behind others, ahead. -/
theorem _root_.Go.Eng.Mem.up {w0 w : World} {A X L : List Ent} {e : Ent} {V : Vw} (h : Mem w0 w (A ++ (X ++ e :: L)) V) : Mem w0 w (e :: (A ++ (X ++ L))) V := by
  refine h.perm ?_
  rw [← List.append_assoc, ← List.append_assoc]
  exact List.perm_middle
theorem _root_.Go.Eng.Mem.down {w0 w : World} {A X L : List Ent} {e : Ent} {V : Vw} (h : Mem w0 w (e :: (A ++ (X ++ L))) V) : Mem w0 w (A ++ (X ++ e :: L)) V := by
  refine h.perm ?_
  rw [← List.append_assoc, ← List.append_assoc]
  exact List.perm_middle.symm
/-- The answers so far. -/
def OutIs (l : List Nd) (K rs : List Int) (i : Nat) (xs : List Value) : Prop := xs.length = rs.length ∧ ∀ (j : Nat) p, j < i → rs[j]? = some p → xs[j]? = some (.int .i64 (outv l K p))
theorem OutIs.zero (l : List Nd) (K rs : List Int) (z : Value) : OutIs l K rs 0 (List.replicate rs.length z) := ⟨by simp, fun j p h => absurd h (by omega)⟩
theorem OutIs.set {l : List Nd} {K rs : List Int} {i : Nat} {xs : List Value} (v : Value) (h : OutIs l K rs i xs) : OutIs l K rs i (xs.set i v) := by
  refine ⟨by rw [List.length_set]; exact h.1, fun j p hj hp => ?_⟩
  rw [List.getElem?_set_ne (by omega)]; exact h.2 j p hj hp
theorem OutIs.snoc {l : List Nd} {K rs : List Int} {i : Nat} {p : Int} {xs : List Value} (h : OutIs l K rs i xs) (hp : rs[i]? = some p) : OutIs l K rs (i + 1) (xs.set i (.int .i64 (outv l K p))) := by
  have hlt := (List.getElem?_eq_some_iff.1 hp).1
  refine ⟨by rw [List.length_set]; exact h.1, fun j q hj hq => ?_⟩
  by_cases hji : j = i
  · subst hji
    rw [hp] at hq; cases hq
    rw [List.getElem?_set_self (by rw [h.1]; exact hlt)]
  · rw [List.getElem?_set_ne (by omega)]; exact h.2 j q (by omega) hq
theorem OutIs.grow {l : List Nd} {K K' rs : List Int} {i : Nat} {xs : List Value} (h : OutIs l K rs i xs) (hin : ∀ (j : Nat) p, j < i → rs[j]? = some p → inB l.length p = true → fol l p ∈ K) (hp : K <+: K') : OutIs l K' rs i xs := by
  refine ⟨h.1, fun j p hj hq => ?_⟩
  rw [h.2 j p hj hq]
  congr 2
  unfold outv
  split
  · rename_i hb; rw [idx_prefix (hin j p hj hq hb) hp]
  · rfl
theorem OutIs.fin {l : List Nd} {K rs : List Int} {xs : List Value} (h : OutIs l K rs rs.length xs) : xs = (rs.map (outv l K)).map (Value.int .i64) := by
  apply List.ext_getElem?
  intro j
  rcases Nat.lt_or_ge j rs.length with hlt | hge
  · rw [h.2 j _ hlt (List.getElem?_eq_getElem hlt), List.map_map, List.getElem?_map, List.getElem?_eq_getElem hlt]; rfl
  · rw [List.getElem?_eq_none (by rw [h.1]; exact hge), List.getElem?_eq_none (by simp; exact hge)]
theorem adds_in {l : List Nd} {rs : List Int} {i j : Nat} {p : Int} (hj : j < i) (hp : rs[j]? = some p) (hb : inB l.length p = true) : fol l p ∈ adds l [] (isPlaces l (rs.take i)) := by
  refine adds_mem l _ _ ?_
  unfold isPlaces
  refine List.mem_filter.2 ⟨?_, hb⟩
  refine List.mem_of_getElem? (i := j) ?_
  rw [List.getElem?_take, if_pos hj]; exact hp
theorem outv_I64 {l : List Nd} {K : List Int} {p : Int} (h : K.length ≤ 100000) : I64 (outv l K p) := by
  unfold outv
  split
  · exact idx_I64 h
  · unfold I64; omega
end Go.Hp
