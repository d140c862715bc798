/- The document's example; texts of tokens with blanks between. No program in sight. -/
import Derived.Test.YtadbinckjmdokaaDoorTxB
import Derived.Test.YtadbinckjmdokaaDoorDrdA11
import Derived.ProofKit
set_option linter.unusedVariables false
set_option linter.unusedSimpArgs false
namespace Go.Tr
open Go Go.Lx Go.Eng
def liveSrc : B := [40, 69, 32, 97, 44, 32, 79, 32, 98, 41, 32, 61, 62, 32, 97, 32, 45, 62, 32, 76, 32, 98]
def liveTy : Ty := .fn (.var [97]) (.app (.con [76]) (.var [98]))
def liveSch : Sch := ⟨[[97], [98]], [([69], .var [97]), ([79], .var [98])], liveTy⟩
theorem live_read : readS liveSrc = .ok liveSch := by kernel_rfl
theorem live_pr : pr liveTy 0 = [97, 32, 45, 62, 32, 76, 32, 98] := by kernel_rfl
theorem live_nm : Nm liveTy := ⟨⟨⟨.inr rfl, rfl⟩, .inl rfl, rfl⟩, ⟨.inr rfl, rfl⟩, .inl rfl, rfl⟩
def srcT (ws : List B) : B := ws.flatMap (fun w => w ++ [32])
theorem srcT_take {ws : List B} {q : Nat} {t : B} (h : ws[q]? = some t) : srcT (ws.take (q + 1)) = srcT (ws.take q) ++ t ++ [32] := by
  rw [List.take_add_one, h]; simp [srcT, List.flatMap_append]
theorem srcT_len : ∀ {ws : List B} {m : Nat}, (∀ w ∈ ws, w.length ≤ m) → (srcT ws).length ≤ (m + 1) * ws.length
  | [], m, _ => by simp [srcT]
  | w :: ws, m, h => by
    have h1 := h w (by simp)
    have h2 := srcT_len (ws := ws) (m := m) (fun x hx => h x (by simp [hx]))
    simp only [srcT, List.flatMap_cons, List.length_append, List.length_cons, List.length_nil] at h2 ⊢
    rw [Nat.mul_add]
    omega
theorem Gd.pr_pos {t : Ty} (h : Gd t) : ∀ k, 0 < (pr t k).length := by
  induction h with
  | var h =>
    intro k
    have := vars5_len h
    rw [pr_lf, decide_eq_false this.2, Bool.and_false, brk_false]
    have : ∀ s ∈ vars5, 0 < s.length := by decide
    exact this _ h
  | con h =>
    intro k
    have := cons7_len h
    rw [pr_lf, decide_eq_false this.2, Bool.and_false, brk_false]
    have : ∀ s ∈ cons7, 0 < s.length := by decide
    exact this _ h
  | @fn a b ha hb i1 i2 =>
    intro k
    have h2 := i2 0
    rw [pr_fn (Gd.isFn_fn a b)]
    have h3 := brk_len (decide (k ≠ 0)) (pr a 1 ++ [32, 45, 62, 32] ++ pr b 0)
    simp only [List.length_append, List.length_cons, List.length_nil] at h3
    omega
  | @app a b ha hb i1 i2 =>
    intro k
    have h2 := i2 3
    rw [pr_app ha.notFn]
    have h3 := brk_len (decide (k = 3)) (pr a 2 ++ [32] ++ pr b 3)
    simp only [List.length_append, List.length_cons, List.length_nil] at h3
    omega
end Go.Tr
