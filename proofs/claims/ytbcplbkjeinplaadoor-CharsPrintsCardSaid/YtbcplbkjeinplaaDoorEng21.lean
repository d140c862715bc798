/- More rules: copy of nothing, a buffer of bytes that is made. Nothing here names a program. -/
import Derived.Test.YtbcplbkjeinplaaDoorEng18
import Derived.Lib.MakeNoZero
set_option linter.unusedVariables false
set_option linter.unusedSimpArgs false
namespace Go.Eng
open Go Go.RowKit
variable {P : Program} {N : NN} {Q : Exit → Act → World → Prop} {S : World → Prop} {σ : Env} {w0 w w' : World} {ops rest : List Oper} {r : List (Nat × Bool)}
  {d : Tmp} {ty : TypeId} {pos : String} {af : Array Edge} {g : Option (Nat × Bool)} {io nt : Nat} {L : List Ent} {V : Vw}
theorem rl_copy0 {t e sz by_ : Nat} {x y : Operand} {z : Value} {n c : Nat} {A : Option Addr} (hT : SlT P t e sz by_ z) (hg : want N ops σ g = true) (hx : ev N σ x = .slice A n c) (hy : ev N σ y = .slice none 0 0)
    (k : RL P N ops Q rest (upd σ d (.int .i64 0)) w) :
    RL P N ops Q (⟨some d, .call ⟨.builtin .copy, #[x, y], #[t, t]⟩, ty, pos, af, g⟩ :: rest) σ w := by
  obtain ⟨inf, hi1, hi2, hi3, hi4⟩ := hT.info
  have hf : (Builtin.firstCells sz 0 (.slice none 0 0)).run P w = .ok #[] w := by simp [Builtin.firstCells, loadCells, loadCellsFrom]
  refine rl_val hg (w' := w) ?_ k
  cases A <;> simp [execOp, resolve, invoke, builtin, hx, hy, Builtin.copy_, run_underlying hT.und, Builtin.lenOf, sizeOf, typeInfo, hi1, hi3, hf, goInt, storeCells]
theorem rl_cap {t : TypeId} {x : Operand} {a : Option Addr} {n c e sz by_ : Nat} {z : Value} (hT : SlT P t e sz by_ z) (hg : want N ops σ g = true) (hx : ev N σ x = .slice a n c)
    (k : RL P N ops Q rest (upd σ d (.int .i64 c)) w) : RL P N ops Q (⟨some d, .call ⟨.builtin .cap, #[x], #[t]⟩, ty, pos, af, g⟩ :: rest) σ w :=
  rl_val hg (by simp [execOp, resolve, invoke, builtin, hx, Builtin.cap_, run_underlying hT.und, goInt]) k
theorem rx_cap {t : TypeId} {x : Operand} {a : Option Addr} {n c e sz by_ : Nat} {z : Value} (ho : ops[io]? = some ⟨some d, .call ⟨.builtin .cap, #[x], #[t]⟩, ty, pos, af, g⟩) (hT : SlT P t e sz by_ z) (hg : want N ops σ g = true) (hx : ev N σ x = .slice a n c)
    (k : RX P N ops Q S nt r (upd σ d (.int .i64 c)) w) : RX P N ops Q S nt ((io, false) :: r) σ w :=
  rx_val ho hg (fun w _ => by simp [execOp, resolve, invoke, builtin, hx, Builtin.cap_, run_underlying hT.und, goInt]) k
/-- A buffer of bytes with room for n, empty. -/
theorem Mem.newBuf {cs : Array Value} {e : TypeId} (hM : Mem w0 w L V) (hc : cs.size ≤ maxLen) :
    Mem w0 (w.drew.drew.alloc (.cells cs e)) (.own (.slice (some ⟨w.heap.size, 0, none⟩) 0 cs.size) e 1 0 [] :: L) V := by
  refine hM.push (f := some w.heap.size) ⟨rfl, rfl, rfl, by simp, fun k hk => heap_alloc_old w.drew.drew _ hk⟩ (.inr ⟨w.heap.size, rfl, rfl, .inr ⟨cs.size, cs.toList, rfl, Nat.zero_le _, hc, by simp, ?_⟩⟩) (fun b h => by cases h; simp)
  have := blk_alloc w.drew.drew cs.toList e
  simpa using this
end Go.Eng
