/- What an Ind that is set does to what is followed. -/
import Derived.Test.YtoekjhalcjhegaaHepW14
set_option linter.unusedVariables false
namespace Go.Hp
open Go.Eng
theorem Fol.suffix {l : List Nd} {p : Int} {ps : List Int} (h : Fol l p ps) {q : Int} (hq : q ∈ ps) : ∃ qs, Fol l q qs ∧ qs.length ≤ ps.length := by
  induction h with
  | @stop p a h0 h1 h2 =>
    simp at hq; subst hq
    exact ⟨_, .stop h0 h1 h2, Nat.le_refl _⟩
  | @step p k a ps h0 h1 h2 h3 h4 ih =>
    rcases List.mem_cons.1 hq with rfl | hq
    · exact ⟨_, .step h0 h1 h2 h3 h4, Nat.le_refl _⟩
    · obtain ⟨qs, e1, e2⟩ := ih hq
      exact ⟨qs, e1, by simp; omega⟩
theorem Fol.nodup {l : List Nd} {p : Int} {ps : List Int} (h : Fol l p ps) : ps.Nodup := by
  induction h with
  | stop _ _ _ => simp
  | @step p k a ps h0 h1 h2 h3 h4 ih =>
    rw [List.nodup_cons]
    refine ⟨fun hm => ?_, ih⟩
    obtain ⟨qs, e1, e2⟩ := h4.suffix hm
    have := e1.det (Fol.step h0 h1 h2 h3 h4)
    rw [this] at e2
    simp at e2; omega
theorem Fol.len {l : List Nd} {p : Int} {ps : List Int} (h : Fol l p ps) : ps.length ≤ l.length := nodup_len h.nodup h.bound
theorem ind_right {n : Nat} {b : Int} (h0 : 0 ≤ b) (h1 : b < n) : right n ⟨5, 0, [], [b]⟩ = true := by
  unfold right kidsIn
  simp only [List.all_cons, List.all_nil, Bool.and_true, Bool.and_eq_true]
  exact ⟨rfl, inB_iff.2 ⟨h0, h1⟩⟩
/-- An Ind from a to b is set, or it would never end. -/
theorem setInd {l : List Nd} (hO : Ok l) {a b : Int} (ha0 : 0 ≤ a) (ha1 : a < l.length) (hb0 : 0 ≤ b) (hb1 : b < l.length) {ps : List Int} (hps : Fol l b ps) :
    (a ∉ ps ∧ setN l a ⟨5, 0, [], [b]⟩ = (l.set a.toNat ⟨5, 0, [], [b]⟩, 0)) ∨ (a ∈ ps ∧ setN l a ⟨5, 0, [], [b]⟩ = (l, 1)) := by
  have hr : ¬ (inB l.length a = false ∨ right l.length ⟨5, 0, [], [b]⟩ = false) := by rw [inB_iff.2 ⟨ha0, ha1⟩, ind_right hb0 hb1]; simp
  by_cases hm : a ∈ ps
  · refine .inr ⟨hm, ?_⟩
    unfold setN
    rw [if_neg hr, if_pos ⟨rfl, b, ps, rfl, hps, hm⟩]
  · refine .inl ⟨hm, ?_⟩
    unfold setN
    rw [if_neg hr, if_neg]
    rintro ⟨_, k, qs, hk, hq, hmq⟩
    cases hk
    rw [hq.det hps] at hmq
    exact hm hmq
theorem setInd_fol {l : List Nd} (hO : Ok l) {a b : Int} (ha0 : 0 ≤ a) (ha1 : a < l.length) (hb0 : 0 ≤ b) (hb1 : b < l.length) {ps : List Int} (hps : Fol l b ps) (hm : a ∉ ps) :
    fol (l.set a.toNat ⟨5, 0, [], [b]⟩) a = fol l b ∧ fol l b ≠ a ∧ fol (l.set a.toNat ⟨5, 0, [], [b]⟩) b = fol l b := by
  have h1 : Fol (l.set a.toNat ⟨5, 0, [], [b]⟩) b ps := hps.set _ ha0 hm
  have hget : (l.set a.toNat ⟨5, 0, [], [b]⟩)[a.toNat]? = some (⟨5, 0, [], [b]⟩ : Nd) := List.getElem?_set_self (by omega)
  have e1 := fol_last h1
  have e2 := fol_last hps
  rw [e2] at e1
  have e3 := Option.some.inj e1
  have e4 := fol_last (Fol.step ha0 hget rfl rfl h1)
  rw [List.getLast?_cons, e2] at e4
  refine ⟨by simpa using e4.symm, fun he => hm ?_, e3.symm⟩
  rw [← he]
  exact List.mem_of_getLast? e2
theorem getN_in {l : List Nd} {i : Nat} (h : i < l.length) : (getN l i).1 = l[i] ∧ (getN l i).2 = true := by
  unfold getN
  rw [if_pos (inB_iff.2 ⟨by omega, by omega⟩)]
  have e : (i : Int).toNat = i := by omega
  rw [e, List.getD_eq_getElem?_getD, List.getElem?_eq_getElem h]
  exact ⟨rfl, rfl⟩
theorem getN_at {l : List Nd} {p : Int} (h0 : 0 ≤ p) (h1 : p < l.length) : (getN l p).1 = nodeAt l p ∧ (getN l p).2 = true := by
  unfold getN
  rw [if_pos (inB_iff.2 ⟨h0, h1⟩)]
  exact ⟨rfl, rfl⟩
theorem nodeAt_nat {l : List Nd} {i : Nat} (h : i < l.length) : nodeAt l i = l[i] := nodeAt_eq (by rw [show (i : Int).toNat = i by omega]; exact List.getElem?_eq_getElem h)
theorem fol_form {l : List Nd} (h : Ends l) {p : Int} (h0 : 0 ≤ p) (h1 : p < l.length) : 0 ≤ fol l p ∧ fol l p < l.length ∧ (nodeAt l (fol l p)).form ≠ 5 := by
  obtain ⟨e1, e2, a, e3, e4⟩ := fol_spec h h0 h1
  exact ⟨e1, e2, by rw [nodeAt_eq e3]; exact e4⟩
end Go.Hp
