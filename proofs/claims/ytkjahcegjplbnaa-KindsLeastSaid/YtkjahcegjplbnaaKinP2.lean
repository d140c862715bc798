/- Plain: equations one behind the other, each with its outcome; how high terms may grow. -/
import Derived.Test.YtkjahcegjplbnaaKinP
set_option linter.unusedVariables false
set_option linter.unusedSimpArgs false
namespace Go.Kn
open Tm
theorem Sols.snoc {st st1 : St1} {l : List (Tm × Tm)} {a b : Tm} {r : Except Er St1} (h : Sols st l (some st1)) (hs : Sol st1 a b r) : Sols st (l ++ [(a, b)]) (match r with | .ok s => some s | .error _ => none) := by
  have key : ∀ {st : St1} {l : List (Tm × Tm)} {o : Option St1}, Sols st l o → ∀ st1, o = some st1 → Sol st1 a b r → Sols st (l ++ [(a, b)]) (match r with | .ok s => some s | .error _ => none) := by
    intro st l o h
    induction h with
    | nil =>
      intro st1 e hs; cases e
      cases r with
      | ok s => exact .cons hs .nil
      | error e => exact .err hs
    | cons h1 _ ih => intro st1 e hs; exact .cons h1 (ih st1 e hs)
    | err _ => intro st1 e; cases e
  exact key h st1 rfl hs
theorem Sols.more {st : St1} {l l' : List (Tm × Tm)} (h : Sols st l none) : Sols st (l ++ l') none := by
  have key : ∀ {st : St1} {l : List (Tm × Tm)} {o : Option St1}, Sols st l o → o = none → Sols st (l ++ l') none := by
    intro st l o h
    induction h with
    | nil => intro e; cases e
    | cons h1 _ ih => intro e; exact .cons h1 (ih e)
    | err h1 => intro _; exact .err h1
  exact key h rfl
/-- What equations of few, low terms lead to. -/
def GoodSt (st : St1) : Prop := Idem st ∧ Within U5 st ∧ Keys U5 st ∧ ∀ t : Tm, t.ht ≤ 100 → (ap st t).ht ≤ 100 * 2 ^ st.length
def Low (t : Tm) : Prop := t.ht ≤ 100 ∧ ∀ m ∈ t.vars, m ∈ U5
theorem GoodSt.nil : GoodSt [] := ⟨Idem.nil, Within.nil _, fun p hp => (by cases hp), fun t h => by show t.ht ≤ _; simpa using h⟩
theorem GoodSt.step {st st' : St1} {a b : Tm} {r : Except Er St1} (h : GoodSt st) (hs : Sol st a b r) (ha : Low a) (hb : Low b) (hr : r = .ok st') : GoodSt st' := by
  obtain ⟨h1, h2, h3, h4⟩ := h
  refine ⟨(hs.made h1 st' hr).1, (hs.keeps h1 h2 ha.2 hb.2 st' hr).1, hs.keys h1 h2 ha.2 hb.2 h3 st' hr, fun t ht => ?_⟩
  obtain ⟨l1, k1⟩ := hs.hts st' (100 * 2 ^ st.length) hr h1 (h4 a ha.1) (h4 b hb.1)
  have := k1 t (h4 t ht)
  rwa [Nat.mul_assoc, ← Nat.pow_add, show st.length + (st'.length - st.length) = st'.length by omega] at this
theorem GoodSt.ex {st : St1} {a b : Tm} (h : GoodSt st) (ha : Low a) (hb : Low b) : ∃ r, Sol st a b r :=
  Sol.ex _ _ st a b (Nat.le_refl _) (Nat.le_refl _) h.1 h.2.1 ha.2 hb.2
theorem GoodSt.low {st : St1} {M : List (Int × Tm)} {t : Tm} (h : GoodSt st) (hk : Kw M st) (ht : t.ht ≤ 100) : (ap st t).ht ≤ 1000000 := by
  have h1 := h.2.2.2 t ht
  have h2 := hk.few h.2.2.1
  have h3 : 2 ^ st.length ≤ 2 ^ 5 := Nat.pow_le_pow_right (by omega) h2
  omega
/-- Equations so far: whether one told an error, and what is known if none did. -/
def SolsB (l : List (Tm × Tm)) (bad : Bool) (st : St1) : Prop := Sols [] l (if bad then none else some st)
theorem SolsB.nil : SolsB [] false [] := Sols.nil
theorem SolsB.bad {l : List (Tm × Tm)} {st st' : St1} {p : Tm × Tm} (h : SolsB l true st) : SolsB (l ++ [p]) true st' := Sols.more h
theorem SolsB.step {l : List (Tm × Tm)} {st : St1} {a b : Tm} {r : Except Er St1} (h : SolsB l false st) (hs : Sol st a b r) : (∀ st', r = .ok st' → SolsB (l ++ [(a, b)]) false st') ∧ (∀ e, r = .error e → ∀ st', SolsB (l ++ [(a, b)]) true st') := by
  have h1 := Sols.snoc h hs
  refine ⟨fun st' e => ?_, fun e he st' => ?_⟩
  · subst e; exact h1
  · subst he; exact h1
theorem SolsB.alike {l l' : List (Tm × Tm)} {b b' : Bool} {st st' : St1} (h : SolsB l b st) (h' : SolsB l' b' st') (hl : ∀ p, p ∈ l' → (p ∈ l ∨ (p.2, p.1) ∈ l)) (hl' : ∀ p, p ∈ l → (p ∈ l' ∨ (p.2, p.1) ∈ l')) : b = b' ∧ (b = false → ∀ t, (ap st t).kd = (ap st' t).kd) := by
  obtain ⟨h1, h2⟩ := rows_alike h h' hl hl'
  cases b with
  | false =>
    cases b' with
    | false => exact ⟨rfl, fun _ t => kd_eq (h2 st st' rfl rfl t)⟩
    | true => have := h1.2 rfl; simp at this
  | true =>
    cases b' with
    | false => have := h1.1 rfl; simp at this
    | true => exact ⟨rfl, fun h => by cases h⟩
end Go.Kn
