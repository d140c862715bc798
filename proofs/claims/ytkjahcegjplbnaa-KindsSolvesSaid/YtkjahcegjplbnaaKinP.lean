/- Plain: terms without variables; the kinds of what is made one. -/
import Derived.Test.YtkjahcegjplbnaaKinW14
set_option linter.unusedVariables false
set_option linter.unusedSimpArgs false
namespace Go.Kn
open Tm
theorem Kd.tm_ground : ∀ k : Kd, k.tm.vars = []
  | .nil => rfl
  | .cons a r => by simp [Kd.tm, Tm.vars, tm_ground a, tm_ground r]
theorem ap_ground {st : St1} {t : Tm} (h : t.vars = []) : ap st t = t := ap_fix.2 (fun m hm => by rw [h] at hm; cases hm)
theorem Sol.ground (st : St1) : ∀ (s t : Tm), s.vars = [] → t.vars = [] → (s = t → Sol st s t (.ok st)) ∧ (s ≠ t → Sol st s t (.error .kind))
  | var n, t, h, _ => by simp [Tm.vars] at h
  | .star, var n, _, h => by simp [Tm.vars] at h
  | .star, .star, _, _ => ⟨fun _ => .star (ap_star st) (ap_star st), fun h => absurd rfl h⟩
  | .star, .arr x y, _, h => ⟨fun e => (by cases e), fun _ => .kindL (ap_star st) (ap_ground h)⟩
  | .arr a b, var n, _, h => by simp [Tm.vars] at h
  | .arr a b, .star, h, _ => ⟨fun e => (by cases e), fun _ => .kindR (ap_ground h) (ap_star st)⟩
  | .arr a b, .arr c d, h1, h2 => by
    have e1 : ap st (.arr a b) = .arr a b := ap_ground h1
    have e2 : ap st (.arr c d) = .arr c d := ap_ground h2
    simp only [Tm.vars, List.append_eq_nil_iff] at h1 h2
    have i1 := Sol.ground st a c h1.1 h2.1
    have i2 := Sol.ground st b d h1.2 h2.2
    refine ⟨fun e => ?_, fun e => ?_⟩
    · cases e
      exact .arr e1 e2 (i1.1 rfl) (i2.1 rfl)
    · by_cases hac : a = c
      · exact .arr e1 e2 (i1.1 hac) (i2.2 (fun hbd => e (by rw [hac, hbd])))
      · exact .arrE e1 e2 (i1.2 hac)
theorem Kd.tm_inj {a b : Kd} (h : a.tm = b.tm) : a = b := by rw [← Kd.tm_kd a, ← Kd.tm_kd b, h]
theorem kd_eq {st st' : St1} {t t' : Tm} (h : kdT st t = kdT st' t') : (ap st t).kd = (ap st' t').kd := by
  rw [← kd_bind (ap st t), ← kd_bind (ap st' t')]
  exact congrArg Tm.kd h
theorem Kd.tm_ht : ∀ k : Kd, k.tm.ht ≤ k.sz
  | .nil => Nat.le_refl _
  | .cons a r => by
    have h1 := tm_ht a
    have h2 := tm_ht r
    simp only [Kd.tm, Tm.ht, Kd.sz]; omega
end Go.Kn
