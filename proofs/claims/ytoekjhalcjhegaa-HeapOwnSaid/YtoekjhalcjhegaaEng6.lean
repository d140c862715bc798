/- More rules over the frame of Eng1: a slice against nil, clear. Nothing here names a program. -/
import Derived.Test.YtoekjhalcjhegaaEng3
set_option linter.unusedVariables false
set_option linter.unusedSimpArgs false
namespace Go.Eng
open Go Go.RowKit
variable {P : Program} {N : NN} {Q : Exit → Act → World → Prop} {σ : Env} {w w' : World} {ops rest : List Oper}
  {d : Tmp} {ty : TypeId} {pos : String} {af : Array Edge} {g : Option (Nat × Bool)}
theorem run_eqnil {t e sz by_ : Nat} {z : Value} (hT : SlT P t e sz by_ z) (a : Option Addr) (n c : Nat) (w : World) : (binOp .eql t (.slice a n c) (.slice none 0 0)).run P w = .ok (.bool a.isNone) w := by
  have h : ∀ d : Nat, (Op.equalIn (d + 1) t (.slice a n c) (.slice none 0 0)).run P w = .ok a.isNone w := fun d => by
    cases a <;> simp [Op.equalIn, run_underlying hT.und]
  simp only [binOp]
  simp [Op.equal, Op.maxDepth, h 9999]
theorem rl_eqnil {t t' e sz by_ : Nat} {x y : Operand} {z : Value} {a : Option Addr} {n c : Nat} {b : Bool} (hT : SlT P t e sz by_ z) (hg : want N ops σ g = true) (hx : ev N σ x = .slice a n c) (hy : ev N σ y = .slice none 0 0) (hb : a.isNone = b)
    (k : RL P N ops Q rest (upd σ d (.bool b)) w) : RL P N ops Q (⟨some d, .binOp .eql t x y t', ty, pos, af, g⟩ :: rest) σ w :=
  rl_val hg (by subst hb; unfold execOp; simp only [hx, hy]; simp [eqGuard, run_eqnil hT]) k
theorem rl_neqnil {t t' e sz by_ : Nat} {x y : Operand} {z : Value} {a : Option Addr} {n c : Nat} {b : Bool} (hT : SlT P t e sz by_ z) (hg : want N ops σ g = true) (hx : ev N σ x = .slice a n c) (hy : ev N σ y = .slice none 0 0) (hb : a.isNone = !b)
    (k : RL P N ops Q rest (upd σ d (.bool b)) w) : RL P N ops Q (⟨some d, .binOp .neq t x y t', ty, pos, af, g⟩ :: rest) σ w := by
  refine rl_val hg ?_ k
  have h : ∀ d : Nat, (Op.equalIn (d + 1) t (.slice a n c) (.slice none 0 0)).run P w = .ok a.isNone w := fun d => by
    cases a <;> simp [Op.equalIn, run_underlying hT.und]
  unfold execOp; simp only [hx, hy]
  simp [eqGuard, binOp, Op.equal, Op.maxDepth, h 9999, hb]
/-- clear(x), x the tail of a block of the call's own. -/
theorem rl_clear {t e sz by_ : Nat} {x : Operand} {z : Value} {a : Option Addr} {n c b off : Nat} {cs : List Value} {t' : TypeId} (hT : SlT P t e sz by_ z) (hzc : z.cells.size = sz) (hz1 : ∀ u ∈ z.cells.toList, u.oneCell' = true) (hg : want N ops σ g = true) (hx : ev N σ x = .slice a n c)
    (ha : 0 < n → a = some ⟨b, off, none⟩) (hB : Blk w b cs t') (hfit : off + n * sz ≤ cs.length)
    (k : ∀ w' cs', Blk w' b cs' t' → cs'.length = cs.length → cs'.take off = cs.take off → Chg b w w' → w'.heap.size = w.heap.size → RL P N ops Q rest σ w') :
    RL P N ops Q (⟨none, .call ⟨.builtin .clear, #[x], #[t]⟩, ty, pos, af, g⟩ :: rest) σ w := by
  rcases Nat.eq_zero_or_pos n with rfl | hn
  · refine rl_val_none (v := .tuple #[]) hg ?_ (k w cs hB rfl rfl (Chg.refl _ _) rfl)
    cases a <;> simp [execOp, resolve, invoke, builtin, hx, Builtin.clear_, run_underlying hT.und]
  · have ha' := ha hn
    subst ha'
    obtain ⟨inf, hi1, hi2, hi3, hi4⟩ := hT.info
    obtain ⟨n', rfl⟩ : ∃ n', n = n' + 1 := ⟨n - 1, by omega⟩
    have hlen : (Builtin.zeroCells z.cells (n' + 1)).toList.length = (n' + 1) * sz := by rw [Array.length_toList, size_zeroCells, hzc]
    have hall : ∀ u ∈ (Builtin.zeroCells z.cells (n' + 1)).toList, u.oneCell' = true := by
      intro u hu
      simp only [Builtin.zeroCells, Array.toList_map, List.mem_map] at hu
      obtain ⟨i, hi, rfl⟩ := hu
      have hi' : i < (n' + 1) * z.cells.size := by simpa using hi
      have hpos : 0 < z.cells.size := by
        rcases Nat.eq_zero_or_pos z.cells.size with h | h
        · rw [h] at hi'; simp at hi'
        · exact h
      have hlt := Nat.mod_lt i hpos
      rw [getElem!_pos z.cells _ hlt]
      exact hz1 _ (Array.getElem_mem_toList hlt)
    have hst := run_storeCells_at P b off t' (Builtin.zeroCells z.cells (n' + 1)).toList 0 cs.toArray w hB (by simp only [List.size_toArray, Nat.add_zero]; rw [hlen]; omega) hall
    simp only [Nat.add_zero] at hst
    refine rl_val_none (v := .tuple #[]) hg (w' := w.setRow b (cs.take off ++ (Builtin.zeroCells z.cells (n' + 1)).toList ++ cs.drop (off + (Builtin.zeroCells z.cells (n' + 1)).toList.length)).toArray) ?_ (k _ _ (blk_row hB) ?_ ?_ (chg_row _ _ _) (by simp))
    · simp [execOp, resolve, invoke, builtin, hx, Builtin.clear_, run_underlying hT.und, zeroValue, typeInfo, hi1, hi2]
      simp at hst
      rw [hst]
      rfl
    · simp only [List.length_append, List.length_take, List.length_drop]; rw [hlen]; omega
    · rw [List.append_assoc, List.take_left' (by simp; omega)]
end Go.Eng
