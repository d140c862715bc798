/- What holds where a block ends is named, with two values. Nothing here names a program. make, of no elements, with room for some. Nothing here names a program. -/
import Derived.Test.YtoekjhalcjhegaaEng25
set_option linter.unusedVariables false
namespace Go.Eng
open Go Go.RowKit
variable {P : Program} {N : NN} {Q : Exit → Act → World → Prop} {σ : Env} {w w' : World}
theorem cut_blk2 {id : Nat} {c y : Code} (ms : List (Nat × Nat)) (s1 s2 : Nat) (R : Value → Value → World → Prop) (h : c.wp P (Exit.inBlock id (KQ N (fun σ' w' => Agree ms σ σ' ∧ R (σ' s1) (σ' s2) w') Q)) (Fr N σ) w)
    (k : ∀ τ v1 v2 w', R v1 v2 w' → y.wp P Q (Fr N (upd (upd (ov ms τ σ) s1 v1) s2 v2)) w') : c.wp P (Exit.inBlock id (SQ P y Q)) (Fr N σ) w := by
  have key : ∀ (a : Act) (w : World), KQ N (fun σ' w' => Agree ms σ σ' ∧ R (σ' s1) (σ' s2) w') Q .normal a w → SQ P y Q .normal a w := by
    rintro a w ⟨σ', rfl, h1, h2⟩
    have := k σ' _ _ w h2
    rwa [ov_self h1, upd_self rfl, upd_self rfl] at this
  refine Code.wp_mono ?_ h
  intro e a w' hq
  cases e with
  | normal => exact key a w' hq
  | exit i =>
    simp only [Exit.inBlock] at hq ⊢
    split at hq
    · rename_i hi; rw [if_pos hi]; exact key a w' hq
    · rename_i hi; rw [if_neg hi]; exact hq
  | _ => exact hq
end Go.Eng
set_option linter.unusedVariables false
set_option linter.unusedSimpArgs false
namespace Go.Eng
open Go Go.RowKit
variable {P : Program} {N : NN} {Q : Exit → Act → World → Prop} {S : World → Prop} {σ : Env} {w0 w w' : World} {ops rest : List Oper}
  {d : Tmp} {ty : TypeId} {pos : String} {af : Array Edge} {g : Option (Nat × Bool)} {L : List Ent} {V : Vw}
theorem Mem.newRoom {cs : List Value} {e : TypeId} (hM : Mem w0 w L V) (hc : cs.length ≤ maxLen) :
    Mem w0 (w.alloc (.cells cs.toArray e)) (.own (.slice (some ⟨w.heap.size, 0, none⟩) 0 cs.length) e 1 0 [] :: L) V := by
  refine hM.push (f := some w.heap.size) (ext_alloc _ _) (.inr ⟨w.heap.size, rfl, rfl, .inr ⟨cs.length, cs, rfl, Nat.zero_le _, hc, by simp, ?_⟩⟩) (fun b h => by cases h; simp)
  have := blk_alloc w cs e
  simpa using this
theorem rl_makeRM {t : TypeId} {x y : Operand} {c : Int} {e by_ : Nat} {z z0 : Value} (hM : Mem w0 w L V) (hT : SlT P t e 1 by_ z) (hz : z.cells = #[z0]) (hg : want N ops σ g = true) (hx : ev N σ x = .int .i64 0) (hy : ev N σ y = .int .i64 c)
    (h0 : 0 < c) (h1 : c ≤ 1000000) (h2 : by_ ≤ 1000)
    (k : ∀ w' b, Mem w0 w' (.own (.slice (some ⟨b, 0, none⟩) 0 c.toNat) e 1 0 [] :: L) V → RL P N ops Q rest (upd σ d (.slice (some ⟨b, 0, none⟩) 0 c.toNat)) w') : RL P N ops Q (⟨some d, .makeSlice t x y, ty, pos, af, g⟩ :: rest) σ w := by
  obtain ⟨inf, hi1, hi2, hi3, hi4⟩ := hT.info
  have hr := hM.newRoom (cs := List.replicate c.toNat z0) (e := e) (by simp; unfold maxLen; omega)
  rw [List.length_replicate] at hr
  refine rl_val hg ?_ (k (w.alloc (.cells (List.replicate c.toNat z0).toArray e)) _ hr)
  have hw : IntKind.i64.wrap c = c := wrap_id (by omega) (by omega)
  have hm : (by_ : Int) * c ≤ 1000 * 1000000 := Int.mul_le_mul (by omega) h1 (by omega) (by omega)
  have hbig : ¬ (281474976710656 < (by_ : Int) * c) := by omega
  have hn0 : ¬ c < 0 := by omega
  have hn : ¬ c.toNat = 0 := by omega
  have hw0 : IntKind.i64.wrap 0 = 0 := wrap_id (by omega) (by omega)
  simp [execOp, hx, hy, Instr.makeSlice, asInt, asIntOf, run_underlying hT.und, typeInfo, hi1, hi4, hw, hw0, sizeOf, hi3, newRow, hbig, hn0, hn, zeroValue, hi2]
  have := made_mapA c.toNat z0 z.cells hz
  simp at this
  rw [this]
end Go.Eng
