/- Heaps of nodes, as lists: which nodes are right, what is followed, what is collected. No program is named here. -/
import Derived.Test.YtoekjhalcjhegaaEng24
set_option linter.unusedVariables false
namespace Go.Hp
structure Nd where
  form : Int
  n : Int
  name : List UInt8
  kids : List Int
def inB (n : Nat) (k : Int) : Bool := decide (0 ≤ k) && decide (k < n)
theorem inB_iff {n : Nat} {k : Int} : inB n k = true ↔ 0 ≤ k ∧ k < n := by simp [inB]
def kidsIn (n : Nat) (l : List Int) : Bool := l.all (inB n)
/-- Form, number, name and how many kids. -/
def shapeOk (a : Nd) : Bool :=
  if a.form = 1 then a.name.isEmpty && decide (a.kids.length = 0)
  else if a.form = 2 then a.name.isEmpty && decide (a.n = 0) && decide (a.kids.length = 2)
  else if a.form = 3 then decide (0 ≤ a.n) && decide (a.kids.length = 0)
  else if a.form = 4 then decide (0 ≤ a.n) && decide (a.kids.length ≤ 40)
  else if a.form = 5 then a.name.isEmpty && decide (a.n = 0) && decide (a.kids.length = 1)
  else if a.form = 6 then a.name.isEmpty && decide (a.n = 0) && decide (a.kids.length = 0)
  else false
def right (n : Nat) (a : Nd) : Bool := shapeOk a && kidsIn n a.kids
theorem right_ind {n : Nat} {a : Nd} (h : right n a = true) (hf : a.form = 5) : ∃ k, a.kids = [k] ∧ 0 ≤ k ∧ k < n := by
  unfold right shapeOk at h
  rw [hf] at h
  simp at h
  obtain ⟨⟨_, h1⟩, h2⟩ := h
  match hk : a.kids, h1 with
  | [k], _ =>
    rw [hk] at h2
    simp [kidsIn, inB] at h2
    exact ⟨k, rfl, h2.1, h2.2⟩
theorem right_kid {n : Nat} {a : Nd} (h : right n a = true) {k : Int} (hk : k ∈ a.kids) : 0 ≤ k ∧ k < n := by
  unfold right at h
  simp only [Bool.and_eq_true, kidsIn, List.all_eq_true] at h
  exact inB_iff.1 (h.2 k hk)
theorem right_le {n m : Nat} {a : Nd} (h : right n a = true) (hnm : n ≤ m) : right m a = true := by
  unfold right at h ⊢
  simp only [Bool.and_eq_true, kidsIn, List.all_eq_true] at h ⊢
  exact ⟨h.1, fun k hk => by have := inB_iff.1 (h.2 k hk); exact inB_iff.2 ⟨this.1, by omega⟩⟩
theorem right_short {n : Nat} {a : Nd} (h : right n a = true) : a.kids.length ≤ 40 := by
  unfold right shapeOk at h
  simp only [Bool.and_eq_true] at h
  have h := h.1
  split at h
  · simp at h; simp [h.2]
  split at h
  · simp at h; omega
  split at h
  · simp at h; simp [h.2]
  split at h
  · simp at h; omega
  split at h
  · simp at h; omega
  split at h
  · simp at h; simp [h.2]
  · simp at h
/-! ## What is followed -/
/-- From place p on these places come, Ind by Ind, the last one no Ind. -/
inductive Fol (l : List Nd) : Int → List Int → Prop
  | stop {p : Int} {a : Nd} : 0 ≤ p → l[p.toNat]? = some a → a.form ≠ 5 → Fol l p [p]
  | step {p k : Int} {a : Nd} {ps : List Int} : 0 ≤ p → l[p.toNat]? = some a → a.form = 5 → a.kids = [k] → Fol l k ps → Fol l p (p :: ps)
theorem Fol.det {l : List Nd} {p : Int} {ps qs : List Int} (h : Fol l p ps) (h' : Fol l p qs) : ps = qs := by
  induction h generalizing qs with
  | stop h0 h1 h2 =>
    cases h' with
    | stop _ _ _ => rfl
    | step _ g1 g2 _ _ => rw [h1] at g1; cases g1; exact absurd g2 h2
  | step h0 h1 h2 h3 _ ih =>
    cases h' with
    | stop _ g1 g2 => rw [h1] at g1; cases g1; exact absurd h2 g2
    | step _ g1 g2 g3 g4 => rw [h1] at g1; cases g1; rw [h3] at g3; cases g3; rw [ih g4]
theorem Fol.ne {l : List Nd} {p : Int} {ps : List Int} (h : Fol l p ps) : ps ≠ [] := by cases h <;> simp
theorem Fol.head {l : List Nd} {p : Int} {ps : List Int} (h : Fol l p ps) : ps.head? = some p := by cases h <;> rfl
theorem Fol.bound {l : List Nd} {p : Int} {ps : List Int} (h : Fol l p ps) : ∀ q ∈ ps, 0 ≤ q ∧ q < l.length := by
  induction h with
  | stop h0 h1 _ =>
    intro q hq
    simp at hq; subst hq
    have := (List.getElem?_eq_some_iff.1 h1).1
    omega
  | step h0 h1 _ _ _ ih =>
    intro q hq
    simp at hq
    rcases hq with rfl | hq
    · have := (List.getElem?_eq_some_iff.1 h1).1; omega
    · exact ih q hq
/-- What stands at each place of the way. -/
theorem Fol.last {l : List Nd} {p : Int} {ps : List Int} (h : Fol l p ps) : ∃ q a, ps.getLast? = some q ∧ 0 ≤ q ∧ l[q.toNat]? = some a ∧ a.form ≠ 5 := by
  induction h with
  | @stop p a h0 h1 h2 => exact ⟨p, a, rfl, h0, h1, h2⟩
  | @step p k a ps h0 h1 h2 h3 h4 ih =>
    obtain ⟨q, b, e1, e2⟩ := ih
    refine ⟨q, b, ?_, e2⟩
    rw [List.getLast?_cons, e1]; rfl
theorem Fol.nth {l : List Nd} {p : Int} {ps : List Int} (h : Fol l p ps) : ∀ (i : Nat) q, ps[i]? = some q → 0 ≤ q ∧ ∃ a, l[q.toNat]? = some a ∧
    ((i + 1 < ps.length ∧ a.form = 5 ∧ ∃ k, a.kids = [k] ∧ ps[i + 1]? = some k) ∨ (i + 1 = ps.length ∧ a.form ≠ 5)) := by
  induction h with
  | @stop p a h0 h1 h2 =>
    intro i q hq
    have : i = 0 := by have := (List.getElem?_eq_some_iff.1 hq).1; simpa using this
    subst this
    simp at hq; subst hq
    exact ⟨h0, a, h1, .inr ⟨rfl, h2⟩⟩
  | @step p k a ps h0 h1 h2 h3 h4 ih =>
    intro i q hq
    cases i with
    | zero =>
      simp at hq; subst hq
      refine ⟨h0, a, h1, .inl ⟨?_, h2, k, h3, ?_⟩⟩
      · have := List.length_pos_iff.2 h4.ne; simp; omega
      · have := h4.head
        rw [List.head?_eq_getElem?] at this
        simpa using this
    | succ i =>
      obtain ⟨e0, b, e1, e2⟩ := ih i q (by simpa using hq)
      refine ⟨e0, b, e1, ?_⟩
      rcases e2 with ⟨g1, g2, g3, g4, g5⟩ | ⟨g1, g2⟩
      · exact .inl ⟨by simp; omega, g2, g3, g4, by simpa using g5⟩
      · exact .inr ⟨by simp; omega, g2⟩
/-- Every way ends. -/
def Ends (l : List Nd) : Prop := ∀ p : Int, 0 ≤ p → p < l.length → ∃ ps, Fol l p ps
open Classical in
noncomputable def way (l : List Nd) (p : Int) : List Int := if h : ∃ ps, Fol l p ps then h.choose else []
theorem way_eq {l : List Nd} {p : Int} {ps : List Int} (h : Fol l p ps) : way l p = ps := by
  unfold way
  rw [dif_pos ⟨ps, h⟩]
  exact (Exists.choose_spec (⟨ps, h⟩ : ∃ ps, Fol l p ps)).det h
theorem Ends.way {l : List Nd} (h : Ends l) {p : Int} (h0 : 0 ≤ p) (h1 : p < l.length) : Fol l p (way l p) := by
  obtain ⟨ps, hp⟩ := h p h0 h1
  rw [way_eq hp]; exact hp
/-- What is followed from a place; itself, where there is no such place. -/
noncomputable def fol (l : List Nd) (p : Int) : Int := if inB l.length p then (way l p).getLast?.getD p else p
theorem fol_out {l : List Nd} {p : Int} (h : inB l.length p = false) : fol l p = p := by unfold fol; rw [h]; rfl
theorem fol_last {l : List Nd} {p : Int} {ps : List Int} (h : Fol l p ps) : ps.getLast? = some (fol l p) := by
  have hb := h.bound p (by have := h.head; exact List.mem_of_mem_head? (by rw [this]; rfl))
  unfold fol
  rw [if_pos (inB_iff.2 hb), way_eq h]
  obtain ⟨q, a, e1, _⟩ := h.last
  rw [e1]; rfl
theorem fol_spec {l : List Nd} (h : Ends l) {p : Int} (h0 : 0 ≤ p) (h1 : p < l.length) : 0 ≤ fol l p ∧ fol l p < l.length ∧ ∃ a, l[(fol l p).toNat]? = some a ∧ a.form ≠ 5 := by
  have hf := h.way h0 h1
  have hl := fol_last hf
  obtain ⟨q, a, e1, e2, e3, e4⟩ := hf.last
  rw [hl] at e1; cases e1
  have := (List.getElem?_eq_some_iff.1 e3).1
  exact ⟨e2, by omega, a, e3, e4⟩
theorem fol_stop {l : List Nd} {p : Int} {a : Nd} (h0 : 0 ≤ p) (h1 : l[p.toNat]? = some a) (h2 : a.form ≠ 5) : fol l p = p := by
  have := fol_last (Fol.stop h0 h1 h2)
  simpa using this.symm
theorem fol_fol {l : List Nd} (h : Ends l) {p : Int} (h0 : 0 ≤ p) (h1 : p < l.length) : fol l (fol l p) = fol l p := by
  obtain ⟨e1, e2, a, e3, e4⟩ := fol_spec h h0 h1
  exact fol_stop e1 e3 e4
theorem fol_step {l : List Nd} (h : Ends l) {p k : Int} {a : Nd} (h0 : 0 ≤ p) (h1 : l[p.toNat]? = some a) (h2 : a.form = 5) (h3 : a.kids = [k]) : fol l p = fol l k := by
  have hlt := (List.getElem?_eq_some_iff.1 h1).1
  obtain ⟨ps, hp⟩ := h p h0 (by omega)
  cases hp with
  | stop _ g1 g2 => rw [h1] at g1; cases g1; exact absurd h2 g2
  | step _ g1 g2 g3 g4 =>
    rw [h1] at g1; cases g1
    rw [h3] at g3; cases g3
    have e1 := fol_last g4
    have e2 := fol_last (Fol.step h0 h1 h2 h3 g4)
    rw [List.getLast?_cons, e1] at e2
    simpa using e2.symm
/-! ## A heap in order -/
structure Ok (l : List Nd) : Prop where
  right : ∀ a ∈ l, right l.length a = true
  ends : Ends l
theorem Ok.nil : Ok [] := ⟨fun a h => (by cases h), fun p h0 h1 => (by simp at h1; omega)⟩
theorem Fol.snoc {l : List Nd} {p : Int} {ps : List Int} (a : Nd) (h : Fol l p ps) : Fol (l ++ [a]) p ps := by
  induction h with
  | stop h0 h1 h2 => exact .stop h0 (by rw [List.getElem?_append_left (List.getElem?_eq_some_iff.1 h1).1]; exact h1) h2
  | step h0 h1 h2 h3 _ ih => exact .step h0 (by rw [List.getElem?_append_left (List.getElem?_eq_some_iff.1 h1).1]; exact h1) h2 h3 ih
theorem Ok.snoc {l : List Nd} {a : Nd} (h : Ok l) (ha : Hp.right l.length a = true) : Ok (l ++ [a]) := by
  refine ⟨fun b hb => ?_, fun p h0 h1 => ?_⟩
  · simp only [List.mem_append, List.mem_singleton] at hb
    rcases hb with hb | rfl
    · exact right_le (h.right b hb) (by simp)
    · exact right_le ha (by simp)
  · by_cases hp : p < l.length
    · obtain ⟨ps, hps⟩ := h.ends p h0 hp
      exact ⟨ps, hps.snoc a⟩
    · have hpl : p.toNat = l.length := by simp at h1; omega
      have hget : (l ++ [a])[p.toNat]? = some a := by rw [hpl]; simp
      by_cases hf : a.form = 5
      · obtain ⟨k, hk, hk0, hk1⟩ := right_ind ha hf
        obtain ⟨ps, hps⟩ := h.ends k hk0 hk1
        exact ⟨_, .step h0 hget hf hk (hps.snoc a)⟩
      · exact ⟨_, .stop h0 hget hf⟩
theorem Fol.set {l : List Nd} {p : Int} {ps : List Int} {at_ : Int} (a : Nd) (h0 : 0 ≤ at_) (h : Fol l p ps) (hno : at_ ∉ ps) : Fol (l.set at_.toNat a) p ps := by
  induction h with
  | @stop p b g0 h1 h2 =>
    have : at_.toNat ≠ p.toNat := fun e => hno (by have : at_ = p := by omega
                                                   simp [this])
    exact .stop g0 (by rw [List.getElem?_set_ne this]; exact h1) h2
  | @step p k b ps g0 h1 h2 h3 h4 ih =>
    simp only [List.mem_cons, not_or] at hno
    have : at_.toNat ≠ p.toNat := fun e => hno.1 (by omega)
    exact .step g0 (by rw [List.getElem?_set_ne this]; exact h1) h2 h3 (ih hno.2)
/-- Does the way from a node that is to stand at a place come to that place? -/
def loops (l : List Nd) (at_ : Int) (a : Nd) : Prop := a.form = 5 ∧ ∃ k ps, a.kids = [k] ∧ Fol l k ps ∧ at_ ∈ ps
theorem Ok.set {l : List Nd} {a : Nd} {at_ : Int} (h : Ok l) (h0 : 0 ≤ at_) (h1 : at_ < l.length) (ha : Hp.right l.length a = true) (hno : ¬ loops l at_ a) : Ok (l.set at_.toNat a) := by
  refine ⟨fun b hb => ?_, fun p g0 g1 => ?_⟩
  · rw [List.length_set]
    rcases List.mem_or_eq_of_mem_set hb with hb | rfl
    · exact h.right b hb
    · exact ha
  · rw [List.length_set] at g1
    have hget : (l.set at_.toNat a)[at_.toNat]? = some a := by rw [List.getElem?_set_self (by omega)]
    -- what is at the place ends
    have hat : ∃ ps, Fol (l.set at_.toNat a) at_ ps := by
      by_cases hf : a.form = 5
      · obtain ⟨k, hk, hk0, hk1⟩ := right_ind ha hf
        obtain ⟨ps, hps⟩ := h.ends k hk0 hk1
        exact ⟨_, .step h0 hget hf hk (hps.set a h0 (fun hm => hno ⟨hf, k, ps, hk, hps, hm⟩))⟩
      · exact ⟨_, .stop h0 hget hf⟩
    obtain ⟨ps, hps⟩ := h.ends p g0 g1
    induction hps with
    | @stop p b e0 e1 e2 =>
      by_cases hp : p = at_
      · subst hp; exact hat
      · exact ⟨_, .stop e0 (by rw [List.getElem?_set_ne (by omega)]; exact e1) e2⟩
    | @step p k b ps e0 e1 e2 e3 e4 ih =>
      by_cases hp : p = at_
      · subst hp; exact hat
      · obtain ⟨hk0, hk1⟩ : 0 ≤ k ∧ k < l.length := e4.bound k (by have := e4.head; exact List.mem_of_mem_head? (by rw [this]; rfl))
        obtain ⟨qs, hqs⟩ := ih hk0 hk1
        exact ⟨_, .step e0 (by rw [List.getElem?_set_ne (by omega)]; exact e1) e2 e3 hqs⟩
end Go.Hp
