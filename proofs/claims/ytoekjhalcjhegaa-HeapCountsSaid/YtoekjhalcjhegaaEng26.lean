/- What holds where a block ends is named, with two values. Nothing here names a program. -/
import Derived.Test.YtoekjhalcjhegaaEng25
set_option linter.unusedVariables false
namespace Go.Eng
open Go Go.RowKit
variable {P : Program} {N : NN} {Q : Exit → Act → World → Prop} {σ : Env} {w w' : World}
theorem cut_blk2 {id : Nat} {c y : Code} (ms : List (Nat × Nat)) (s1 s2 : Nat) (R : Value → Value → World → Prop) (h : c.wp P (Exit.inBlock id (KQ N (fun σ' w' => Agree ms σ σ' ∧ R (σ' s1) (σ' s2) w') Q)) (Fr N σ) w)
    (k : ∀ τ v1 v2 w', R v1 v2 w' → y.wp P Q (Fr N (upd (upd (ov ms τ σ) s1 v1) s2 v2)) w') : c.wp P (Exit.inBlock id (SQ P y Q)) (Fr N σ) w := by
  have key : ∀ (a : Act) (w : World), KQ N (fun σ' w' => Agree ms σ σ' ∧ R (σ' s1) (σ' s2) w') Q .normal a w → SQ P y Q .normal a w := by
    rintro a w ⟨σ', rfl, h1, h2⟩
    have := k σ' _ _ w h2
    rwa [ov_self h1, upd_self rfl, upd_self rfl] at this
  refine Code.wp_mono ?_ h
  intro e a w' hq
  cases e with
  | normal => exact key a w' hq
  | exit i =>
    simp only [Exit.inBlock] at hq ⊢
    split at hq
    · rename_i hi; rw [if_pos hi]; exact key a w' hq
    · rename_i hi; rw [if_neg hi]; exact hq
  | _ => exact hq
end Go.Eng
