/- Terms of kinds that are made one: states as rows of single replacements; what is found is no more than is asked. No program is named here. -/
set_option linter.unusedVariables false
namespace Go.Kn
inductive Tm
  | var (n : Int)
  | star
  | arr (a b : Tm)
deriving DecidableEq
namespace Tm
def vars : Tm → List Int
  | var n => [n]
  | star => []
  | arr a b => a.vars ++ b.vars
/-- u in the place of the variable n. -/
def put (n : Int) (u : Tm) : Tm → Tm
  | var m => if m = n then u else var m
  | star => star
  | arr a b => arr (put n u a) (put n u b)
/-- Each variable replaced. -/
def bind (θ : Int → Tm) : Tm → Tm
  | var m => θ m
  | star => star
  | arr a b => arr (bind θ a) (bind θ b)
def size : Tm → Nat
  | var _ => 1
  | star => 1
  | arr a b => a.size + b.size + 1
theorem put_no {n : Int} {u t : Tm} (h : n ∉ t.vars) : put n u t = t := by
  induction t with
  | var m => simp [vars] at h; simp [put]; intro e; exact absurd e.symm h
  | star => rfl
  | arr a b iha ihb => simp [vars] at h; simp [put, iha h.1, ihb h.2]
theorem bind_put (θ : Int → Tm) (n : Int) (u t : Tm) (h : θ n = bind θ u) : bind θ (put n u t) = bind θ t := by
  induction t with
  | var m =>
    unfold put
    split
    · rename_i e; subst e; exact h.symm
    · rfl
  | star => rfl
  | arr a b iha ihb => simp [put, bind, iha, ihb]
theorem bind_size {θ : Int → Tm} {n : Int} {t : Tm} (h : n ∈ t.vars) : (θ n).size ≤ (bind θ t).size := by
  induction t with
  | var m => simp [vars] at h; subst h; exact Nat.le_refl _
  | star => simp [vars] at h
  | arr a b iha ihb =>
    simp [vars] at h
    simp only [bind, size]
    rcases h with h | h
    · have := iha h; omega
    · have := ihb h; omega
/-- A variable within something greater is never made one with it. -/
theorem no_loop {θ : Int → Tm} {n : Int} {t : Tm} (h : n ∈ t.vars) (ht : t ≠ var n) : θ n ≠ bind θ t := by
  intro e
  cases t with
  | var m => simp [vars] at h; subst h; exact ht rfl
  | star => simp [vars] at h
  | arr a b =>
    simp [vars] at h
    have e2 := congrArg size e
    simp only [bind, size] at e2
    rcases h with h | h
    · have := bind_size (θ := θ) h; omega
    · have := bind_size (θ := θ) h; omega
end Tm
open Tm
abbrev St1 := List (Int × Tm)
/-- What a term is by all that is known. -/
def ap (st : St1) (t : Tm) : Tm := st.foldl (fun t p => put p.1 p.2 t) t
theorem ap_snoc (st : St1) (n : Int) (u t : Tm) : ap (st ++ [(n, u)]) t = put n u (ap st t) := by unfold ap; rw [List.foldl_append]; rfl
theorem ap_star (st : St1) : ap st star = star := by induction st with
  | nil => rfl
  | cons p st ih => exact ih
theorem ap_arr (st : St1) (a b : Tm) : ap st (arr a b) = arr (ap st a) (ap st b) := by
  induction st generalizing a b with
  | nil => rfl
  | cons p st ih => exact ih _ _
inductive Er
  | kind
  | loop
deriving DecidableEq
/-- Two terms are made one: what is known then, or the first error. -/
inductive Sol : St1 → Tm → Tm → Except Er St1 → Prop
  | same {st : St1} {a b : Tm} {n : Int} : ap st a = var n → ap st b = var n → Sol st a b (.ok st)
  | bindL {st : St1} {a b : Tm} {n : Int} {u : Tm} : ap st a = var n → ap st b = u → (∀ m, u = var m → m < n) → n ∉ u.vars → Sol st a b (.ok (st ++ [(n, u)]))
  | bindR {st : St1} {a b : Tm} {n : Int} {u : Tm} : ap st b = var n → ap st a = u → (∀ m, u = var m → m < n) → n ∉ u.vars → Sol st a b (.ok (st ++ [(n, u)]))
  | loopL {st : St1} {a b : Tm} {n : Int} {u : Tm} : ap st a = var n → ap st b = u → u ≠ var n → n ∈ u.vars → Sol st a b (.error .loop)
  | loopR {st : St1} {a b : Tm} {n : Int} {u : Tm} : ap st b = var n → ap st a = u → u ≠ var n → n ∈ u.vars → Sol st a b (.error .loop)
  | star {st : St1} {a b : Tm} : ap st a = star → ap st b = star → Sol st a b (.ok st)
  | kindL {st : St1} {a b x y : Tm} : ap st a = star → ap st b = arr x y → Sol st a b (.error .kind)
  | kindR {st : St1} {a b x y : Tm} : ap st a = arr x y → ap st b = star → Sol st a b (.error .kind)
  | arr {st st1 : St1} {a b a1 a2 b1 b2 : Tm} {r : Except Er St1} : ap st a = arr a1 a2 → ap st b = arr b1 b2 → Sol st a1 b1 (.ok st1) → Sol st1 a2 b2 r → Sol st a b r
  | arrE {st : St1} {a b a1 a2 b1 b2 : Tm} {e : Er} : ap st a = arr a1 a2 → ap st b = arr b1 b2 → Sol st a1 b1 (.error e) → Sol st a b (.error e)
/-- A solution of what is known. -/
def Fits (θ : Int → Tm) (st : St1) : Prop := ∀ t, Tm.bind θ (ap st t) = Tm.bind θ t
theorem Fits.nil (θ : Int → Tm) : Fits θ [] := fun _ => rfl
theorem Fits.snoc {θ : Int → Tm} {st : St1} {n : Int} {u : Tm} (h : Fits θ st) (hn : θ n = Tm.bind θ u) : Fits θ (st ++ [(n, u)]) := fun t => by
  rw [ap_snoc, bind_put θ n u _ hn]; exact h t
/-- What solves what is known and makes both one lets them be made one, and solves what is known then. -/
theorem Sol.least {θ : Int → Tm} {st : St1} {a b : Tm} {r : Except Er St1} (h : Sol st a b r) (hf : Fits θ st) (he : Tm.bind θ a = Tm.bind θ b) : ∃ st', r = .ok st' ∧ Fits θ st' := by
  induction h with
  | same _ _ => exact ⟨_, rfl, hf⟩
  | @bindL st a b n u h1 h2 h3 h4 =>
    refine ⟨_, rfl, hf.snoc ?_⟩
    have e1 := hf a; have e2 := hf b
    rw [h1] at e1; rw [h2] at e2
    rw [← he] at e2
    exact e1.trans e2.symm
  | @bindR st a b n u h1 h2 h3 h4 =>
    refine ⟨_, rfl, hf.snoc ?_⟩
    have e1 := hf b; have e2 := hf a
    rw [h1] at e1; rw [h2] at e2
    rw [he] at e2
    exact e1.trans e2.symm
  | @loopL st a b n u h1 h2 h3 h4 =>
    have e1 := hf a; have e2 := hf b
    rw [h1] at e1; rw [h2] at e2
    rw [← he] at e2
    exact absurd (e1.trans e2.symm) (no_loop h4 h3)
  | @loopR st a b n u h1 h2 h3 h4 =>
    have e1 := hf b; have e2 := hf a
    rw [h1] at e1; rw [h2] at e2
    rw [he] at e2
    exact absurd (e1.trans e2.symm) (no_loop h4 h3)
  | star _ _ => exact ⟨_, rfl, hf⟩
  | @kindL st a b x y h1 h2 =>
    have e1 := hf a; have e2 := hf b
    rw [h1] at e1; rw [h2] at e2
    rw [← he] at e2
    have := e1.trans e2.symm
    simp [Tm.bind] at this
  | @kindR st a b x y h1 h2 =>
    have e1 := hf a; have e2 := hf b
    rw [h1] at e1; rw [h2] at e2
    rw [← he] at e2
    have := e1.trans e2.symm
    simp [Tm.bind] at this
  | @arr st st1 a b a1 a2 b1 b2 r h1 h2 _ _ ih1 ih2 =>
    have e1 := hf a; have e2 := hf b
    rw [h1] at e1; rw [h2] at e2
    rw [← he] at e2
    have e := e1.trans e2.symm
    simp only [Tm.bind, Tm.arr.injEq] at e
    obtain ⟨s1, hs, hf1⟩ := ih1 hf e.1
    cases hs
    exact ih2 hf1 e.2
  | @arrE st a b a1 a2 b1 b2 e' h1 h2 _ ih1 =>
    have e1 := hf a; have e2 := hf b
    rw [h1] at e1; rw [h2] at e2
    rw [← he] at e2
    have e := e1.trans e2.symm
    simp only [Tm.bind, Tm.arr.injEq] at e
    obtain ⟨s1, hs, _⟩ := ih1 hf e.1
    cases hs
/-! ## What is known is known once and for all -/
theorem ap_bind (st : St1) (t : Tm) : ap st t = Tm.bind (fun m => ap st (var m)) t := by
  induction t with
  | var m => rfl
  | star => exact ap_star st
  | arr a b iha ihb => rw [ap_arr, iha, ihb]; rfl
theorem ap_fix {st : St1} {t : Tm} : ap st t = t ↔ ∀ m ∈ t.vars, ap st (var m) = var m := by
  induction t with
  | var m => simp [vars]
  | star => simp [vars, ap_star]
  | arr a b iha ihb =>
    rw [ap_arr]
    simp only [Tm.arr.injEq, vars, List.mem_append]
    rw [iha, ihb]
    constructor
    · rintro ⟨h1, h2⟩ m (h | h)
      · exact h1 m h
      · exact h2 m h
    · exact fun h => ⟨fun m hm => h m (.inl hm), fun m hm => h m (.inr hm)⟩
theorem put_vars {n : Int} {u t : Tm} {m : Int} (h : m ∈ (put n u t).vars) : (m ∈ t.vars ∧ m ≠ n) ∨ m ∈ u.vars := by
  induction t with
  | var k =>
    unfold put at h
    split at h
    · exact .inr h
    · rename_i hk
      simp [vars] at h; subst h
      exact .inl ⟨by simp [vars], hk⟩
  | star => simp [put, vars] at h
  | arr a b iha ihb =>
    simp only [put, vars, List.mem_append] at h ⊢
    rcases h with h | h
    · rcases iha h with h | h
      · exact .inl ⟨.inl h.1, h.2⟩
      · exact .inr h
    · rcases ihb h with h | h
      · exact .inl ⟨.inr h.1, h.2⟩
      · exact .inr h
def Idem (st : St1) : Prop := ∀ t, ap st (ap st t) = ap st t
theorem Idem.nil : Idem [] := fun _ => rfl
theorem Idem.snoc {st : St1} {n : Int} {u : Tm} (h : Idem st) (hn : ap st (var n) = var n) (hu : ap st u = u) (hno : n ∉ u.vars) : Idem (st ++ [(n, u)]) := by
  intro t
  rw [ap_snoc, ap_snoc]
  have h1 : ap st (put n u (ap st t)) = put n u (ap st t) := by
    rw [ap_fix]
    intro m hm
    rcases put_vars hm with h2 | h2
    · exact (ap_fix.1 (h t)) m h2.1
    · exact (ap_fix.1 hu) m h2
  rw [h1]
  refine put_no fun hm => ?_
  rcases put_vars hm with h2 | h2
  · exact h2.2 rfl
  · exact hno h2
theorem Idem.part {st : St1} {t a b : Tm} (h : Idem st) (ht : ap st t = arr a b) : ap st a = a ∧ ap st b = b := by
  have := h t
  rw [ht, ap_arr] at this
  simpa using this
theorem ap_append (st ext : St1) (t : Tm) : ap (st ++ ext) t = ap ext (ap st t) := by unfold ap; rw [List.foldl_append]
theorem Idem.app {st ext : St1} {t : Tm} (h : Idem st) : ap (st ++ ext) (ap st t) = ap (st ++ ext) t := by rw [ap_append, ap_append, h]
theorem Sol.made {st : St1} {a b : Tm} {r : Except Er St1} (h : Sol st a b r) (hi : Idem st) : ∀ st', r = .ok st' → Idem st' ∧ (∃ ext, st' = st ++ ext) ∧ ap st' a = ap st' b := by
  induction h with
  | same h1 h2 => rintro _ ⟨rfl⟩; exact ⟨hi, ⟨[], by simp⟩, by rw [h1, h2]⟩
  | @bindL st a b n u h1 h2 h3 h4 =>
    rintro _ ⟨rfl⟩
    have f1 : ap st (var n) = var n := by have := hi a; rw [h1] at this; exact this
    have f2 : ap st u = u := by have := hi b; rw [h2] at this; exact this
    refine ⟨hi.snoc f1 f2 h4, ⟨_, rfl⟩, ?_⟩
    rw [ap_snoc, ap_snoc, h1, h2, put_no h4]
    simp [put]
  | @bindR st a b n u h1 h2 h3 h4 =>
    rintro _ ⟨rfl⟩
    have f1 : ap st (var n) = var n := by have := hi b; rw [h1] at this; exact this
    have f2 : ap st u = u := by have := hi a; rw [h2] at this; exact this
    refine ⟨hi.snoc f1 f2 h4, ⟨_, rfl⟩, ?_⟩
    rw [ap_snoc, ap_snoc, h1, h2, put_no h4]
    simp [put]
  | loopL _ _ _ _ => intro _ h; cases h
  | loopR _ _ _ _ => intro _ h; cases h
  | star h1 h2 => rintro _ ⟨rfl⟩; exact ⟨hi, ⟨[], by simp⟩, by rw [h1, h2]⟩
  | kindL _ _ => intro _ h; cases h
  | kindR _ _ => intro _ h; cases h
  | @arr st st1 a b a1 a2 b1 b2 r h1 h2 _ _ ih1 ih2 =>
    intro st' hr
    obtain ⟨i1, ⟨e1, rfl⟩, m1⟩ := ih1 hi _ rfl
    obtain ⟨i2, ⟨e2, rfl⟩, m2⟩ := ih2 i1 _ hr
    refine ⟨i2, ⟨e1 ++ e2, by simp⟩, ?_⟩
    have ha : ap ((st ++ e1) ++ e2) a = Tm.arr (ap ((st ++ e1) ++ e2) a1) (ap ((st ++ e1) ++ e2) a2) := by
      rw [← ap_arr, ← h1, List.append_assoc, hi.app]
    have hb : ap ((st ++ e1) ++ e2) b = Tm.arr (ap ((st ++ e1) ++ e2) b1) (ap ((st ++ e1) ++ e2) b2) := by
      rw [← ap_arr, ← h2, List.append_assoc, hi.app]
    rw [ha, hb, m2, ap_append _ e2 a1, m1, ← ap_append]
  | arrE _ _ _ _ => intro _ h; cases h
/-- The one outcome. -/
theorem Sol.det {st : St1} {a b : Tm} {r r' : Except Er St1} (h : Sol st a b r) (h' : Sol st a b r') : r = r' := by
  induction h generalizing r' with
  | same h1 h2 =>
    cases h' with
    | same => rfl
    | star g1 g2 => rfl
    | bindL g1 g2 g3 g4 => rw [h1] at g1; cases g1; rw [h2] at g2; subst g2; simp [vars] at g4
    | bindR g1 g2 g3 g4 => rw [h2] at g1; cases g1; rw [h1] at g2; subst g2; simp [vars] at g4
    | loopL g1 g2 g3 g4 => rw [h1] at g1; cases g1; rw [h2] at g2; exact absurd g2.symm g3
    | loopR g1 g2 g3 g4 => rw [h2] at g1; cases g1; rw [h1] at g2; exact absurd g2.symm g3
    | kindL g1 g2 => rw [h1] at g1; cases g1
    | kindR g1 g2 => rw [h1] at g1; cases g1
    | arr g1 g2 _ _ => rw [h1] at g1; cases g1
    | arrE g1 g2 _ => rw [h1] at g1; cases g1
  | @bindL st a b n u h1 h2 h3 h4 =>
    cases h' with
    | same g1 g2 => rw [h1] at g1; cases g1; rw [h2] at g2; subst g2; simp [vars] at h4
    | star g1 g2 => rw [h1] at g1; cases g1
    | bindL g1 g2 g3 g4 => rw [h1] at g1; cases g1; rw [h2] at g2; subst g2; rfl
    | bindR g1 g2 g3 g4 => rw [h1] at g2; subst g2; rw [h2] at g1; subst g1; have := h3 _ rfl; have := g3 _ rfl; omega
    | loopL g1 g2 g3 g4 => rw [h1] at g1; cases g1; rw [h2] at g2; subst g2; exact absurd g4 h4
    | loopR g1 g2 g3 g4 => rw [h1] at g2; subst g2; simp [vars] at g4; subst g4; exact absurd rfl g3
    | kindL g1 g2 => rw [h1] at g1; cases g1
    | kindR g1 g2 => rw [h1] at g1; cases g1
    | arr g1 g2 _ _ => rw [h1] at g1; cases g1
    | arrE g1 g2 _ => rw [h1] at g1; cases g1
  | @bindR st a b n u h1 h2 h3 h4 =>
    cases h' with
    | same g1 g2 => rw [h1] at g2; cases g2; rw [h2] at g1; subst g1; simp [vars] at h4
    | star g1 g2 => rw [h1] at g2; cases g2
    | bindL g1 g2 g3 g4 => rw [h1] at g2; subst g2; rw [h2] at g1; subst g1; have := h3 _ rfl; have := g3 _ rfl; omega
    | bindR g1 g2 g3 g4 => rw [h1] at g1; cases g1; rw [h2] at g2; subst g2; rfl
    | loopL g1 g2 g3 g4 => rw [h1] at g2; subst g2; simp [vars] at g4; subst g4; exact absurd rfl g3
    | loopR g1 g2 g3 g4 => rw [h1] at g1; cases g1; rw [h2] at g2; subst g2; exact absurd g4 h4
    | kindL g1 g2 => rw [h1] at g2; cases g2
    | kindR g1 g2 => rw [h1] at g2; cases g2
    | arr g1 g2 _ _ => rw [h1] at g2; cases g2
    | arrE g1 g2 _ => rw [h1] at g2; cases g2
  | @loopL st a b n u h1 h2 h3 h4 =>
    cases h' with
    | same g1 g2 => rw [h1] at g1; cases g1; rw [h2] at g2; exact absurd g2 h3
    | star g1 g2 => rw [h1] at g1; cases g1
    | bindL g1 g2 g3 g4 => rw [h1] at g1; cases g1; rw [h2] at g2; subst g2; exact absurd h4 g4
    | bindR g1 g2 g3 g4 => rw [h2] at g1; subst g1; simp [vars] at h4; subst h4; exact absurd rfl h3
    | loopL g1 g2 g3 g4 => rfl
    | loopR g1 g2 g3 g4 => rfl
    | kindL g1 g2 => rw [h1] at g1; cases g1
    | kindR g1 g2 => rw [h1] at g1; cases g1
    | arr g1 g2 _ _ => rw [h1] at g1; cases g1
    | arrE g1 g2 _ => rw [h1] at g1; cases g1
  | @loopR st a b n u h1 h2 h3 h4 =>
    cases h' with
    | same g1 g2 => rw [h1] at g2; cases g2; rw [h2] at g1; exact absurd g1 h3
    | star g1 g2 => rw [h1] at g2; cases g2
    | bindL g1 g2 g3 g4 => rw [h2] at g1; subst g1; simp [vars] at h4; subst h4; exact absurd rfl h3
    | bindR g1 g2 g3 g4 => rw [h1] at g1; cases g1; rw [h2] at g2; subst g2; exact absurd h4 g4
    | loopL g1 g2 g3 g4 => rfl
    | loopR g1 g2 g3 g4 => rfl
    | kindL g1 g2 => rw [h1] at g2; cases g2
    | kindR g1 g2 => rw [h1] at g2; cases g2
    | arr g1 g2 _ _ => rw [h1] at g2; cases g2
    | arrE g1 g2 _ => rw [h1] at g2; cases g2
  | star h1 h2 =>
    cases h' with
    | same g1 g2 => rfl
    | star g1 g2 => rfl
    | bindL g1 g2 g3 g4 => rw [h1] at g1; cases g1
    | bindR g1 g2 g3 g4 => rw [h2] at g1; cases g1
    | loopL g1 g2 g3 g4 => rw [h1] at g1; cases g1
    | loopR g1 g2 g3 g4 => rw [h2] at g1; cases g1
    | kindL g1 g2 => rw [h2] at g2; cases g2
    | kindR g1 g2 => rw [h1] at g1; cases g1
    | arr g1 g2 _ _ => rw [h1] at g1; cases g1
    | arrE g1 g2 _ => rw [h1] at g1; cases g1
  | kindL h1 h2 =>
    cases h' with
    | same g1 g2 => rw [h1] at g1; cases g1
    | star g1 g2 => rw [h2] at g2; cases g2
    | bindL g1 g2 g3 g4 => rw [h1] at g1; cases g1
    | bindR g1 g2 g3 g4 => rw [h2] at g1; cases g1
    | loopL g1 g2 g3 g4 => rw [h1] at g1; cases g1
    | loopR g1 g2 g3 g4 => rw [h2] at g1; cases g1
    | kindL g1 g2 => rfl
    | kindR g1 g2 => rfl
    | arr g1 g2 _ _ => rw [h1] at g1; cases g1
    | arrE g1 g2 _ => rw [h1] at g1; cases g1
  | kindR h1 h2 =>
    cases h' with
    | same g1 g2 => rw [h1] at g1; cases g1
    | star g1 g2 => rw [h1] at g1; cases g1
    | bindL g1 g2 g3 g4 => rw [h1] at g1; cases g1
    | bindR g1 g2 g3 g4 => rw [h2] at g1; cases g1
    | loopL g1 g2 g3 g4 => rw [h1] at g1; cases g1
    | loopR g1 g2 g3 g4 => rw [h2] at g1; cases g1
    | kindL g1 g2 => rfl
    | kindR g1 g2 => rfl
    | arr g1 g2 _ _ => rw [h2] at g2; cases g2
    | arrE g1 g2 _ => rw [h2] at g2; cases g2
  | arr h1 h2 _ _ ih1 ih2 =>
    cases h' with
    | same g1 g2 => rw [h1] at g1; cases g1
    | star g1 g2 => rw [h1] at g1; cases g1
    | bindL g1 g2 g3 g4 => rw [h1] at g1; cases g1
    | bindR g1 g2 g3 g4 => rw [h2] at g1; cases g1
    | loopL g1 g2 g3 g4 => rw [h1] at g1; cases g1
    | loopR g1 g2 g3 g4 => rw [h2] at g1; cases g1
    | kindL g1 g2 => rw [h1] at g1; cases g1
    | kindR g1 g2 => rw [h2] at g2; cases g2
    | arr g1 g2 g3 g4 => rw [h1] at g1; cases g1; rw [h2] at g2; cases g2; cases ih1 g3; exact ih2 g4
    | arrE g1 g2 g3 => rw [h1] at g1; cases g1; rw [h2] at g2; cases g2; cases ih1 g3
  | arrE h1 h2 _ ih =>
    cases h' with
    | same g1 g2 => rw [h1] at g1; cases g1
    | star g1 g2 => rw [h1] at g1; cases g1
    | bindL g1 g2 g3 g4 => rw [h1] at g1; cases g1
    | bindR g1 g2 g3 g4 => rw [h2] at g1; cases g1
    | loopL g1 g2 g3 g4 => rw [h1] at g1; cases g1
    | loopR g1 g2 g3 g4 => rw [h2] at g1; cases g1
    | kindL g1 g2 => rw [h1] at g1; cases g1
    | kindR g1 g2 => rw [h2] at g2; cases g2
    | arr g1 g2 g3 g4 => rw [h1] at g1; cases g1; rw [h2] at g2; cases g2; cases ih g3
    | arrE g1 g2 g3 => rw [h1] at g1; cases g1; rw [h2] at g2; cases g2; exact congrArg _ (by cases ih g3; rfl)
end Go.Kn
