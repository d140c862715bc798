/- More rules: copy, slices from a place on. Nothing here names a program. -/
import Derived.Test.YtoekjhalcjhegaaEng13
set_option linter.unusedVariables false
set_option linter.unusedSimpArgs false
namespace Go.Eng
open Go Go.RowKit
variable {P : Program} {N : NN} {Q : Exit → Act → World → Prop} {S : World → Prop} {σ : Env} {w w' : World} {ops rest : List Oper} {r : List (Nat × Bool)}
  {d : Tmp} {ty : TypeId} {pos : String} {af : Array Edge} {g : Option (Nat × Bool)} {io nt : Nat}
/-- copy(x, y), x a block of the call's own, y no longer than x. -/
theorem rl_copy {t t' e sz by_ : Nat} {x y : Operand} {z : Value} {n c m c' b B off : Nat} {a : Option Addr} {cs news : List Value} (hT : SlT P t e sz by_ z) (hg : want N ops σ g = true) (hx : ev N σ x = .slice (some ⟨b, 0, none⟩) n c) (hy : ev N σ y = .slice a m c')
    (ha : 0 < m → a = some ⟨B, off, none⟩) (hl : news.length = m * sz) (hnews : ∀ j u, news[j]? = some u → w.cell? ⟨B, off + j, none⟩ = some u) (h1 : ∀ u ∈ news, u.oneCell' = true) (hmn : m ≤ n) (hB : Blk w b cs t') (hfit : n * sz ≤ cs.length)
    (k : ∀ w', Blk w' b (news ++ cs.drop news.length) t' → Chg b w w' → w'.heap.size = w.heap.size → RL P N ops Q rest (upd σ d (.int .i64 m)) w') :
    RL P N ops Q (⟨some d, .call ⟨.builtin .copy, #[x, y], #[t, t]⟩, ty, pos, af, g⟩ :: rest) σ w := by
  obtain ⟨inf, hi1, hi2, hi3, hi4⟩ := hT.info
  have hmin : Nat.min m n = m := Nat.min_eq_left hmn
  have hms : m * sz ≤ n * sz := Nat.mul_le_mul_right _ hmn
  have hst := run_storeCells_at P b 0 t' news 0 cs.toArray w hB (by simp only [List.size_toArray]; omega) h1
  simp only [Nat.zero_add, List.take_zero, List.nil_append] at hst
  have hf : (Builtin.firstCells sz m (.slice a m c')).run P w = .ok news.toArray w := by
    rcases Nat.eq_zero_or_pos m with rfl | hm
    · have : news = [] := List.eq_nil_of_length_eq_zero (by simpa using hl)
      subst this
      cases a <;> simp [Builtin.firstCells, loadCells, loadCellsFrom]
    · rw [ha hm]
      exact run_firstCells_some (P := P) w sz m ⟨B, off, none⟩ m c' news hl (fun j v hj => by rw [Addr.add_lit]; exact hnews j v hj)
  refine rl_val hg (w' := w.setRow b (news ++ cs.drop news.length).toArray) ?_ (k _ (blk_row hB) (chg_row _ _ _) (by simp))
  simp [execOp, resolve, invoke, builtin, hx, hy, Builtin.copy_, run_underlying hT.und, Builtin.lenOf, hmin, sizeOf, typeInfo, hi1, hi3, hf, goInt]
  rw [hst]
  rfl
end Go.Eng
