/- Terms of kinds in memory: form, number, and a slice of none or two. -/
import Derived.Test.YtkjahcegjplbnaaKinU2
import Derived.Test.YtkjahcegjplbnaaEnC
set_option linter.unusedVariables false
set_option linter.unusedSimpArgs false
namespace Go.Kn
open Go Go.Eng Go.RowKit
/-- These three cells are the term t. -/
def TmV (V : Vw) : Tm → List Value → Prop
  | .var n, cs => ∃ a c, cs = [.int .i64 1, .int .i64 n, .slice a 0 c] ∧ c ≤ maxLen ∧ I64 n
  | .star, cs => ∃ a c, cs = [.int .i64 2, .int .i64 0, .slice a 0 c] ∧ c ≤ maxLen
  | .arr x y, cs => ∃ b off c xs ys, cs = [.int .i64 3, .int .i64 0, .slice (some ⟨b, off, none⟩) 2 c] ∧ 2 ≤ c ∧ c ≤ maxLen ∧ VRow V b (off + 0 * 3) xs ∧ VRow V b (off + 1 * 3) ys ∧ TmV V x xs ∧ TmV V y ys
theorem TmV.le {V V' : Vw} (hv : VLe V V') : ∀ {t : Tm} {cs : List Value}, TmV V t cs → TmV V' t cs
  | .var n, _, h => h
  | .star, _, h => h
  | .arr x y, _, h => by
    obtain ⟨b, off, c, xs, ys, h1, h2, h3, h4, h5, h6, h7⟩ := h
    exact ⟨b, off, c, xs, ys, h1, h2, h3, h4.le hv, h5.le hv, h6.le hv, h7.le hv⟩
theorem TmV.shape {V : Vw} {t : Tm} {cs : List Value} (h : TmV V t cs) : ∃ f n a k c, cs = [.int .i64 f, .int .i64 n, .slice a k c] ∧ k ≤ c ∧ c ≤ maxLen := by
  cases t with
  | var n => obtain ⟨a, c, rfl, h2, _⟩ := h; exact ⟨_, _, _, _, _, rfl, Nat.zero_le _, h2⟩
  | star => obtain ⟨a, c, rfl, h2⟩ := h; exact ⟨_, _, _, _, _, rfl, Nat.zero_le _, h2⟩
  | arr x y => obtain ⟨b, off, c, xs, ys, rfl, h2, h3, _⟩ := h; exact ⟨_, _, _, _, _, rfl, h2, h3⟩
theorem TmV.len {V : Vw} {t : Tm} {cs : List Value} (h : TmV V t cs) : cs.length = 3 := by
  obtain ⟨_, _, _, _, _, rfl, _⟩ := h.shape; rfl
theorem TmV.one {V : Vw} {t : Tm} {cs : List Value} (h : TmV V t cs) : cs.all (·.oneCell') = true := by
  obtain ⟨_, _, _, _, _, rfl, _⟩ := h.shape; rfl
/-- What is known, as the program keeps it: each variable once, in the row in which they were found; what stands for it is applied to what was known then. -/
inductive Kw : List (Int × Tm) → St1 → Prop
  | nil : Kw [] []
  | snoc {M : List (Int × Tm)} {st : St1} {n : Int} {t u : Tm} : Kw M st → ap st (.var n) = .var n → ap st t = u → n ∉ u.vars → (∀ k, t = .var k → ap st (.var k) = .var k) → Kw (M ++ [(n, t)]) (st ++ [(n, u)])
theorem Kw.idem {M : List (Int × Tm)} {st : St1} (h : Kw M st) : Idem st := by
  induction h with
  | nil => exact Idem.nil
  | snoc h1 h2 h3 h4 _ ih => subst h3; exact ih.snoc h2 (ih _) h4
/-- A variable of which something is known is what stands for it. -/
theorem Kw.got {M : List (Int × Tm)} {st : St1} (h : Kw M st) : ∀ p ∈ M, ap st (.var p.1) = ap st p.2 := by
  induction h with
  | nil => intro p hp; cases hp
  | @snoc M st n t u h1 h2 h3 h4 h5 ih =>
    intro p hp
    rw [ap_snoc, ap_snoc]
    rcases List.mem_append.1 hp with hp | hp
    · rw [ih p hp]
    · simp at hp; subst hp
      simp only
      rw [h2, h3, Tm.put_no h4]
      simp [Tm.put]
/-- One of which nothing is known is itself. -/
theorem Kw.free {M : List (Int × Tm)} {st : St1} (h : Kw M st) : ∀ k, (∀ p ∈ M, p.1 ≠ k) → ap st (.var k) = .var k := by
  induction h with
  | nil => intro k _; rfl
  | @snoc M st n t u h1 h2 h3 h4 h5 ih =>
    intro k hk
    rw [ap_snoc, ih k (fun p hp => hk p (List.mem_append.2 (.inl hp)))]
    have := hk (n, t) (by simp)
    simp only [Tm.put]
    rw [if_neg (Ne.symm this)]
theorem Kw.no {M : List (Int × Tm)} {st : St1} (h : Kw M st) {k : Int} (hk : ap st (.var k) = .var k) : ∀ p ∈ M, p.1 ≠ k := by
  induction h generalizing k with
  | nil => intro p hp; cases hp
  | @snoc M st n t u h1 h2 h3 h4 h5 ih =>
    intro p hp e
    rw [ap_snoc] at hk
    rcases List.mem_append.1 hp with hp | hp
    · have hu : ap st u = u := by subst h3; exact h1.idem t
      cases hw : ap st (.var k) with
      | star => rw [hw] at hk; cases hk
      | arr x y => rw [hw] at hk; cases hk
      | var m =>
        rw [hw] at hk
        simp only [Tm.put] at hk
        split at hk
        · rw [hk] at hu
          exact ih hu p hp e
        · cases hk
          exact ih hw p hp e
    · simp at hp; subst hp
      simp only at e
      subst e
      rw [h2] at hk
      simp [Tm.put] at hk
      subst hk
      simp [Tm.vars] at h4
/-- What stands for a variable is a variable known later, or one that is not known. -/
theorem Kw.later {M : List (Int × Tm)} {st : St1} (h : Kw M st) : ∀ (i j : Nat) (n k : Int) (t : Tm), M[i]? = some (n, .var k) → M[j]? = some (k, t) → i < j := by
  induction h with
  | nil => intro i j n k t hi; simp at hi
  | @snoc M st n t u h1 h2 h3 h4 h5 ih =>
    intro i j n' k t' hi hj
    have hil := (List.getElem?_eq_some_iff.1 hi).1
    have hjl := (List.getElem?_eq_some_iff.1 hj).1
    simp at hil hjl
    rcases Nat.lt_or_ge i M.length with h6 | h6
    · rcases Nat.lt_or_ge j M.length with h7 | h7
      · rw [List.getElem?_append_left h6] at hi
        rw [List.getElem?_append_left h7] at hj
        exact ih i j n' k t' hi hj
      · omega
    · have hie : i = M.length := by omega
      subst hie
      rw [List.getElem?_append_right (Nat.le_refl _)] at hi
      simp at hi
      obtain ⟨rfl, rfl⟩ := hi
      have hk := h5 k rfl
      rcases Nat.lt_or_ge j M.length with h7 | h7
      · rw [List.getElem?_append_left h7] at hj
        exact absurd rfl (h1.no hk _ (List.mem_of_getElem? hj))
      · have hje : j = M.length := by omega
        subst hje
        rw [List.getElem?_append_right (Nat.le_refl _)] at hj
        simp at hj
        obtain ⟨rfl, _⟩ := hj
        rw [← h3, hk] at h4
        simp [Tm.vars] at h4
/-- Each variable is known once. -/
theorem Kw.once {M : List (Int × Tm)} {st : St1} (h : Kw M st) : (M.map (·.1)).Nodup := by
  induction h with
  | nil => simp
  | @snoc M st n t u h1 h2 h3 h4 h5 ih =>
    rw [List.map_append, List.nodup_append]
    refine ⟨ih, by simp, fun a ha b hb => ?_⟩
    simp at hb; subst hb
    obtain ⟨p, hp, rfl⟩ := List.mem_map.1 ha
    exact h1.no h2 p hp
end Go.Kn
