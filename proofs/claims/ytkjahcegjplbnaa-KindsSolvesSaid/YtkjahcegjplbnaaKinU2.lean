/- Equations in any row; that there is an outcome. -/
import Derived.Test.YtkjahcegjplbnaaKinU
set_option linter.unusedVariables false
namespace Go.Kn
open Tm
/-- Each is got from the other one by what stands for variables: they differ in variables alone. -/
theorem twins {θ η : Int → Tm} : ∀ {u v : Tm}, Tm.bind θ v = u → Tm.bind η u = v → Tm.bind (fun _ => star) u = Tm.bind (fun _ => star) v
  | var m, var k, _, _ => rfl
  | var m, star, h, _ => by cases h
  | var m, arr _ _, h, _ => by cases h
  | star, var k, _, h => by cases h
  | star, star, _, _ => rfl
  | star, arr _ _, h, _ => by cases h
  | arr _ _, var k, _, h => by cases h
  | arr _ _, star, h, _ => by cases h
  | arr a b, arr c d, h1, h2 => by
    simp only [Tm.bind, Tm.arr.injEq] at h1 h2
    simp only [Tm.bind, Tm.arr.injEq]
    exact ⟨twins h1.1 h2.1, twins h1.2 h2.2⟩
/-- The kind of a term, as a term: what is not known is the kind of types. -/
def kdT (st : St1) (t : Tm) : Tm := Tm.bind (fun _ => star) (ap st t)
/-- Equations one behind the other, till one tells an error. -/
inductive Sols : St1 → List (Tm × Tm) → Option St1 → Prop
  | nil {st : St1} : Sols st [] (some st)
  | cons {st st1 : St1} {a b : Tm} {l : List (Tm × Tm)} {r : Option St1} : Sol st a b (.ok st1) → Sols st1 l r → Sols st ((a, b) :: l) r
  | err {st : St1} {a b : Tm} {l : List (Tm × Tm)} {e : Er} : Sol st a b (.error e) → Sols st ((a, b) :: l) none
theorem Sols.made {st st' : St1} {l : List (Tm × Tm)} {r : Option St1} (h : Sols st l r) (hr : r = some st') (hi : Idem st) : Idem st' ∧ (∃ ext, st' = st ++ ext) ∧ ∀ p ∈ l, ap st' p.1 = ap st' p.2 := by
  induction h with
  | nil => cases hr; exact ⟨hi, ⟨[], by simp⟩, fun p hp => by cases hp⟩
  | @cons st st1 a b l r h1 _ ih =>
    obtain ⟨i1, ⟨e1, he1⟩, m1⟩ := h1.made hi _ rfl
    obtain ⟨i2, ⟨e2, he2⟩, m2⟩ := ih hr i1
    refine ⟨i2, ⟨e1 ++ e2, by rw [he2, he1]; simp⟩, fun p hp => ?_⟩
    rcases List.mem_cons.1 hp with rfl | hp
    · rw [he2, ap_append, ap_append]; exact congrArg _ m1
    · exact m2 p hp
  | err _ => cases hr
theorem Sols.least {θ : Int → Tm} {st : St1} {l : List (Tm × Tm)} {r : Option St1} (h : Sols st l r) (hf : Fits θ st) (he : ∀ p ∈ l, Tm.bind θ p.1 = Tm.bind θ p.2) : ∃ st', r = some st' ∧ Fits θ st' := by
  induction h with
  | nil => exact ⟨_, rfl, hf⟩
  | @cons st st1 a b l r h1 _ ih =>
    obtain ⟨s, hs, hf1⟩ := h1.least hf (he _ (.head _))
    cases hs
    exact ih hf1 (fun p hp => he p (.tail _ hp))
  | @err st a b l e h1 =>
    obtain ⟨s, hs, _⟩ := h1.least hf (he _ (.head _))
    cases hs
/-- In whatever row, and whichever side is asked first, the outcome is the same: an error or none, and the kinds. -/
theorem rows_alike {l l' : List (Tm × Tm)} {r r' : Option St1} (h : Sols [] l r) (h' : Sols [] l' r') (hl : ∀ p, p ∈ l' → (p ∈ l ∨ (p.2, p.1) ∈ l)) (hl' : ∀ p, p ∈ l → (p ∈ l' ∨ (p.2, p.1) ∈ l')) :
    (r = none ↔ r' = none) ∧ ∀ s s', r = some s → r' = some s' → ∀ t, kdT s t = kdT s' t := by
  have half : ∀ {l l' : List (Tm × Tm)} {r r' : Option St1}, Sols [] l r → Sols [] l' r' → (∀ p, p ∈ l' → (p ∈ l ∨ (p.2, p.1) ∈ l)) → ∀ s, r = some s → ∃ s', r' = some s' ∧ ∀ t, ap s (ap s' t) = ap s t := by
    intro l l' r r' h h' hl s hs
    obtain ⟨_, _, hm⟩ := h.made hs Idem.nil
    obtain ⟨s', hs', hf⟩ := h'.least (θ := fun m => ap s (var m)) (Fits.nil _) (fun p hp => by
      rw [← ap_bind, ← ap_bind]
      rcases hl p hp with h1 | h1
      · exact hm p h1
      · exact (hm _ h1).symm)
    refine ⟨s', hs', fun t => ?_⟩
    have := hf t
    rwa [← ap_bind, ← ap_bind] at this
  refine ⟨⟨fun hr => ?_, fun hr => ?_⟩, fun s s' hs hs' t => ?_⟩
  · cases r' with
    | none => rfl
    | some s' => obtain ⟨s, h1, _⟩ := half h' h hl' s' rfl; rw [hr] at h1; cases h1
  · cases r with
    | none => rfl
    | some s => obtain ⟨s', h1, _⟩ := half h h' hl s rfl; rw [hr] at h1; cases h1
  · obtain ⟨s2, e1, k1⟩ := half h h' hl s hs
    obtain ⟨s1, e2, k2⟩ := half h' h hl' s' hs'
    rw [hs'] at e1; cases e1
    rw [hs] at e2; cases e2
    unfold kdT
    refine twins (θ := fun m => ap s (var m)) (η := fun m => ap s' (var m)) ?_ ?_
    · rw [← ap_bind]; exact k1 t
    · rw [← ap_bind]; exact k2 t
/-! ## There is an outcome -/
theorem ap_put_vars {st : St1} {n : Int} {u t : Tm} {m : Int} (h : m ∈ (ap (st ++ [(n, u)]) t).vars) : (m ∈ (ap st t).vars ∧ m ≠ n) ∨ m ∈ u.vars := by
  rw [ap_snoc] at h; exact put_vars h
/-- How many of these are not known yet. -/
def free (U : List Int) (st : St1) : Nat := (U.filter fun m => decide (ap st (var m) = var m)).length
def Within (U : List Int) (st : St1) : Prop := ∀ m ∈ U, ∀ k ∈ (ap st (var m)).vars, k ∈ U
theorem Within.nil (U : List Int) : Within U [] := fun m hm k hk => by
  simp [ap, vars] at hk; subst hk; exact hm
theorem within_ap {U : List Int} {st : St1} (hw : Within U st) {t : Tm} (ht : ∀ m ∈ t.vars, m ∈ U) : ∀ k ∈ (ap st t).vars, k ∈ U := by
  induction t with
  | var m => exact hw m (ht m (by simp [vars]))
  | star => rw [ap_star]; simp [vars]
  | arr a b iha ihb =>
    rw [ap_arr]
    simp only [vars, List.mem_append] at ht ⊢
    rintro k (h | h)
    · exact iha (fun m hm => ht m (.inl hm)) k h
    · exact ihb (fun m hm => ht m (.inr hm)) k h
theorem filter_lt {α : Type} {p q : α → Bool} : ∀ {l : List α}, (∀ x ∈ l, q x = true → p x = true) → (∃ x ∈ l, p x = true ∧ q x = false) → (l.filter q).length < (l.filter p).length
  | [], _, ⟨x, hx, _⟩ => by cases hx
  | a :: l, h, ⟨x, hx, h1, h2⟩ => by
    have hle : (l.filter q).length ≤ (l.filter p).length := by
      have : ∀ {l : List α}, (∀ x ∈ l, q x = true → p x = true) → (l.filter q).length ≤ (l.filter p).length := by
        intro l
        induction l with
        | nil => intro _; exact Nat.le_refl _
        | cons b l ih =>
          intro h
          have ih := ih (fun x hx => h x (.tail _ hx))
          rw [List.filter_cons, List.filter_cons]
          cases hq : q b with
          | true => rw [h b (.head _) hq]; simp; exact ih
          | false => cases p b <;> simp <;> omega
      exact this (fun x hx => h x (.tail _ hx))
    rw [List.filter_cons, List.filter_cons]
    rcases List.mem_cons.1 hx with rfl | hx
    · rw [h1, h2]; simp; omega
    · have ih := filter_lt (l := l) (fun x hx => h x (.tail _ hx)) ⟨x, hx, h1, h2⟩
      cases hq : q a with
      | true => rw [h a (.head _) hq]; simp; exact ih
      | false => cases p a <;> simp <;> omega
theorem free_snoc {U : List Int} {st : St1} {n : Int} {u : Tm} (hn : n ∈ U) (hf : ap st (var n) = var n) (hu : ap st u = u) (hno : n ∉ u.vars) : free U (st ++ [(n, u)]) < free U st := by
  unfold free
  refine filter_lt (fun m _ h => ?_) ⟨n, hn, by simpa using hf, ?_⟩
  · simp only [decide_eq_true_eq] at h ⊢
    rw [ap_snoc] at h
    cases hm : ap st (var m) with
    | var k =>
      rw [hm] at h
      unfold put at h
      split at h
      · rename_i hk
        subst h
        rw [hm] at hu
        exact hu
      · exact h
    | star => rw [hm] at h; cases h
    | arr a b => rw [hm] at h; cases h
  · simp only [decide_eq_false_iff_not]
    rw [ap_snoc, hf]
    simp only [put, if_true]
    intro e
    rw [e] at hno
    simp [vars] at hno
theorem put_within {U : List Int} {st : St1} {n : Int} {u : Tm} (hw : Within U st) (hu : ∀ m ∈ u.vars, m ∈ U) : Within U (st ++ [(n, u)]) := by
  intro m hm k hk
  rcases ap_put_vars hk with h | h
  · exact hw m hm k h.1
  · exact hu k h
/-- What is known keeps within these variables, and either nothing was found or fewer are free. -/
theorem Sol.keeps {U : List Int} {st : St1} {a b : Tm} {r : Except Er St1} (h : Sol st a b r) (hi : Idem st) (hw : Within U st) (ha : ∀ m ∈ a.vars, m ∈ U) (hb : ∀ m ∈ b.vars, m ∈ U) : ∀ st', r = .ok st' → Within U st' ∧ (st' = st ∨ free U st' < free U st) := by
  induction h with
  | same _ _ => rintro _ ⟨rfl⟩; exact ⟨hw, .inl rfl⟩
  | @bindL st a b n u h1 h2 h3 h4 =>
    rintro _ ⟨rfl⟩
    have f1 : ap st (var n) = var n := by have := hi a; rw [h1] at this; exact this
    have f2 : ap st u = u := by have := hi b; rw [h2] at this; exact this
    have hn : n ∈ U := within_ap hw ha n (by rw [h1]; simp [vars])
    have hu : ∀ m ∈ u.vars, m ∈ U := by rw [← h2]; exact within_ap hw hb
    exact ⟨put_within hw hu, .inr (free_snoc hn f1 f2 h4)⟩
  | @bindR st a b n u h1 h2 h3 h4 =>
    rintro _ ⟨rfl⟩
    have f1 : ap st (var n) = var n := by have := hi b; rw [h1] at this; exact this
    have f2 : ap st u = u := by have := hi a; rw [h2] at this; exact this
    have hn : n ∈ U := within_ap hw hb n (by rw [h1]; simp [vars])
    have hu : ∀ m ∈ u.vars, m ∈ U := by rw [← h2]; exact within_ap hw ha
    exact ⟨put_within hw hu, .inr (free_snoc hn f1 f2 h4)⟩
  | loopL _ _ _ _ => intro _ h; cases h
  | loopR _ _ _ _ => intro _ h; cases h
  | star _ _ => rintro _ ⟨rfl⟩; exact ⟨hw, .inl rfl⟩
  | kindL _ _ => intro _ h; cases h
  | kindR _ _ => intro _ h; cases h
  | @arr st st1 a b a1 a2 b1 b2 r h1 h2 s1 _ ih1 ih2 =>
    intro st' hr
    have va := within_ap hw ha
    have vb := within_ap hw hb
    rw [h1] at va; rw [h2] at vb
    simp only [vars, List.mem_append] at va vb
    obtain ⟨w1, k1⟩ := ih1 hi hw (fun m hm => va m (.inl hm)) (fun m hm => vb m (.inl hm)) _ rfl
    obtain ⟨i1, _, _⟩ := s1.made hi _ rfl
    obtain ⟨w2, k2⟩ := ih2 i1 w1 (fun m hm => va m (.inr hm)) (fun m hm => vb m (.inr hm)) _ hr
    refine ⟨w2, ?_⟩
    rcases k1 with rfl | k1
    · exact k2
    · rcases k2 with rfl | k2
      · exact .inr k1
      · exact .inr (by omega)
  | arrE _ _ _ _ => intro _ h; cases h
theorem Sol.ex {U : List Int} : ∀ (F N : Nat) (st : St1) (a b : Tm), free U st ≤ F → (ap st a).size + (ap st b).size ≤ N → Idem st → Within U st → (∀ m ∈ a.vars, m ∈ U) → (∀ m ∈ b.vars, m ∈ U) → ∃ r, Sol st a b r := by
  intro F
  induction F using Nat.strongRecOn with
  | _ F ihF =>
    intro N
    induction N using Nat.strongRecOn with
    | _ N ihN =>
      intro st a b hF hN hi hw ha hb
      have va := within_ap hw ha
      have vb := within_ap hw hb
      cases h1 : ap st a with
      | var n =>
        cases h2 : ap st b with
        | var k =>
          rcases Int.lt_trichotomy k n with h | h | h
          · exact ⟨_, .bindL h1 h2 (fun m hm => by cases hm; exact h) (by simp [vars]; omega)⟩
          · subst h; exact ⟨_, .same h1 h2⟩
          · exact ⟨_, .bindR h2 h1 (fun m hm => by cases hm; exact h) (by simp [vars]; omega)⟩
        | star => exact ⟨_, .bindL h1 h2 (fun m hm => by cases hm) (by simp [vars])⟩
        | arr x y =>
          by_cases hm : n ∈ (Tm.arr x y).vars
          · exact ⟨_, .loopL h1 h2 (by simp) hm⟩
          · exact ⟨_, .bindL h1 h2 (fun m hm => by cases hm) hm⟩
      | star =>
        cases h2 : ap st b with
        | var k => exact ⟨_, .bindR h2 h1 (fun m hm => by cases hm) (by simp [vars])⟩
        | star => exact ⟨_, .star h1 h2⟩
        | arr x y => exact ⟨_, .kindL h1 h2⟩
      | arr a1 a2 =>
        cases h2 : ap st b with
        | var k =>
          by_cases hm : k ∈ (Tm.arr a1 a2).vars
          · exact ⟨_, .loopR h2 h1 (by simp) hm⟩
          · exact ⟨_, .bindR h2 h1 (fun m hm => by cases hm) hm⟩
        | star => exact ⟨_, .kindR h1 h2⟩
        | arr b1 b2 =>
          rw [h1] at va hN; rw [h2] at vb hN
          simp only [vars, List.mem_append] at va vb
          simp only [size] at hN
          obtain ⟨p1, p2⟩ := hi.part h1
          obtain ⟨q1, q2⟩ := hi.part h2
          obtain ⟨r1, s1⟩ := ihN (a1.size + b1.size) (by omega) st a1 b1 hF (by rw [p1, q1]; exact Nat.le_refl _) hi hw (fun m hm => va m (.inl hm)) (fun m hm => vb m (.inl hm))
          cases r1 with
          | error e => exact ⟨_, .arrE h1 h2 s1⟩
          | ok st1 =>
            obtain ⟨i1, _, _⟩ := s1.made hi _ rfl
            obtain ⟨w1, k1⟩ := s1.keeps hi hw (fun m hm => va m (.inl hm)) (fun m hm => vb m (.inl hm)) _ rfl
            rcases k1 with rfl | k1
            · obtain ⟨r2, s2⟩ := ihN (a2.size + b2.size) (by omega) st1 a2 b2 hF (by rw [p2, q2]; exact Nat.le_refl _) hi hw (fun m hm => va m (.inr hm)) (fun m hm => vb m (.inr hm))
              exact ⟨_, .arr h1 h2 s1 s2⟩
            · obtain ⟨r2, s2⟩ := ihF (free U st1) (by omega) _ st1 a2 b2 (Nat.le_refl _) (Nat.le_refl _) i1 w1 (fun m hm => va m (.inr hm)) (fun m hm => vb m (.inr hm))
              exact ⟨_, .arr h1 h2 s1 s2⟩
end Go.Kn
