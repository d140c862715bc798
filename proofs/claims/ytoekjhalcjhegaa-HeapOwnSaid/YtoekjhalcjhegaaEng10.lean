/- A drawn region whose head holds an append: what is read there is named. More rules on bools. Nothing here names a program. -/
import Derived.Test.YtoekjhalcjhegaaEng9
set_option linter.unusedVariables false
set_option linter.unusedSimpArgs false
namespace Go.Eng
open Go Go.RowKit
variable {P : Program} {N : NN} {Q : Exit → Act → World → Prop} {σ : Env} {w w' : World} {ops rest : List Oper}
  {d : Tmp} {ty : TypeId} {pos : String} {af : Array Edge} {g : Option (Nat × Bool)}
theorem drawnF_ {id : Nat} {l : List Oper} (n : Nat) (order : List (Nat × Bool)) (F : Addr → Value → Prop) (hm : P.follows .mixedOrders = true) (hB : heldB .any l.toArray n order = true)
    (hF : ∀ a v, F a v → w.cell? a = some v)
    (h : ∀ w', Below w.heap.size w w' → w'.heap.size = w.heap.size → Keeps w w' → RX P N l (NP Q) (fun w'' => ∀ a v, F a v → w''.cell? a = some v) n order σ w') : (Code.region id l.toArray true).wp P Q (Fr N σ) w :=
  draw_ n order (fun w'' => ∀ a v, F a v → w''.cell? a = some v) hm hB (by rintro _ rfl; exact hF) (by rintro _ rfl; exact h _ ⟨rfl, rfl, rfl, Nat.le_refl _, fun _ _ => rfl⟩ rfl (fun _ _ h => h))
theorem rl_neqb {t t' : TypeId} {x y : Operand} {a b : Bool} (hT : P.underlying t = some .bool) (hg : want N ops σ g = true) (hx : ev N σ x = .bool a) (hy : ev N σ y = .bool b)
    (k : RL P N ops Q rest (upd σ d (.bool (!(a == b)))) w) : RL P N ops Q (⟨some d, .binOp .neq t x y t', ty, pos, af, g⟩ :: rest) σ w :=
  rl_val hg (by
    unfold execOp
    simp only [hx, hy]
    simp [eqGuard, run_neq_bool w t a b hT]) k
/-- A store into a table of the call's own. -/
theorem Own.store {e n b i : Nat} {v : Value} {us : List Value} (h : Own w e 1 v n us b) (hi : i < n) :
    ∃ cs, Blk w b cs e ∧ i < cs.length ∧ ∀ (w' : World) (u : Value), Blk w' b (cs.set i u) e → Own w' e 1 v n (us.set i u) b := by
  obtain ⟨h1, h2⟩ := h
  have h1' : us.length = n := by simpa using h1
  rcases h2 with ⟨rfl, rfl⟩ | ⟨cap, spare, rfl, h3, h4, h5, h6⟩
  · omega
  · refine ⟨us ++ spare, h6, by simp; omega, fun w' u hB => ⟨by simpa using h1, .inr ⟨cap, spare, rfl, h3, h4, by simpa using h5, ?_⟩⟩⟩
    rwa [List.set_append_left _ _ (by omega)] at hB
theorem map_range3_set (f : Nat → Value) (u v x : Value) : (((Array.map f (Array.range 3)).setIfInBounds 0 u).setIfInBounds 1 v).setIfInBounds 2 x = #[u, v, x] := by
  apply Array.ext
  · simp
  · intro i h1 h2
    have hi : i < 3 := by simpa using h2
    match i, hi with
    | 0, _ => simp [Array.getElem_setIfInBounds]
    | 1, _ => simp [Array.getElem_setIfInBounds]
    | 2, _ => simp [Array.getElem_setIfInBounds]
theorem rl_bslice3 {t : TypeId} {x y z' : Operand} {e by_ : Nat} {z u v s : Value} (hT : SlT P t e 1 by_ z) (hz : z.oneCell' = true) (hg : want N ops σ g = true) (hx : ev N σ x = u) (hu : u.oneCell' = true) (hy : ev N σ y = v) (hv : v.oneCell' = true) (hz' : ev N σ z' = s) (hs : s.oneCell' = true)
    (k : ∀ w', Blk w' w.heap.size [u, v, s] e → Below w.heap.size w w' → w'.heap.size = w.heap.size + 1 →
      RL P N ops Q rest (upd σ d (.slice (some ⟨w.heap.size, 0, none⟩) 3 3)) w') : RL P N ops Q (⟨some d, .buildSlice t 3 #[(0, x), (1, y), (2, z')], ty, pos, af, g⟩ :: rest) σ w := by
  obtain ⟨inf, hi1, hi2, hi3, hi4⟩ := hT.info
  refine rl_val hg ?_ (k (w.alloc (.cells [u, v, s].toArray e)) (blk_alloc _ _ _) (ext_alloc _ _) (by simp))
  have hcz : z.cells = #[z] := by cases z <;> first | rfl | (cases hz; done)
  have hcu : u.cells = #[u] := by cases u <;> first | rfl | (cases hu; done)
  have hcv : v.cells = #[v] := by cases v <;> first | rfl | (cases hv; done)
  have hcs : s.cells = #[s] := by cases s <;> first | rfl | (cases hs; done)
  simp [execOp, hx, hy, hz', Instr.buildSlice, run_underlying hT.und, typeInfo, hi1, hi3, sizeOf, zeroValue, hi2, hcz, Instr.fill, hcu, hcv, hcs, newRow]
  rw [map_range3_set]
/-- What holds where a block ends is named, and what stands behind it is walked once. -/
theorem cut_blk {id : Nat} {c y : Code} (ms : List (Nat × Nat)) (R : World → Prop) (h : c.wp P (Exit.inBlock id (KQ N (fun σ' w' => Agree ms σ σ' ∧ R w') Q)) (Fr N σ) w)
    (k : ∀ τ w', R w' → y.wp P Q (Fr N (ov ms τ σ)) w') : c.wp P (Exit.inBlock id (SQ P y Q)) (Fr N σ) w := by
  have key : ∀ (a : Act) (w : World), KQ N (fun σ' w' => Agree ms σ σ' ∧ R w') Q .normal a w → SQ P y Q .normal a w := by
    rintro a w ⟨σ', rfl, h1, h2⟩
    have := k σ' w h2
    rwa [ov_self h1] at this
  refine Code.wp_mono ?_ h
  intro e a w' hq
  cases e with
  | normal => exact key a w' hq
  | exit i =>
    simp only [Exit.inBlock] at hq ⊢
    split at hq
    · rename_i hi; rw [if_pos hi]; exact key a w' hq
    · rename_i hi; rw [if_neg hi]; exact hq
  | _ => exact hq
theorem cut_blk1 {id : Nat} {c y : Code} (ms : List (Nat × Nat)) (s1 : Nat) (R : Value → World → Prop) (h : c.wp P (Exit.inBlock id (KQ N (fun σ' w' => Agree ms σ σ' ∧ R (σ' s1) w') Q)) (Fr N σ) w)
    (k : ∀ τ v1 w', R v1 w' → y.wp P Q (Fr N (upd (ov ms τ σ) s1 v1)) w') : c.wp P (Exit.inBlock id (SQ P y Q)) (Fr N σ) w := by
  have key : ∀ (a : Act) (w : World), KQ N (fun σ' w' => Agree ms σ σ' ∧ R (σ' s1) w') Q .normal a w → SQ P y Q .normal a w := by
    rintro a w ⟨σ', rfl, h1, h2⟩
    have := k σ' _ w h2
    rwa [ov_self h1, upd_self rfl] at this
  refine Code.wp_mono ?_ h
  intro e a w' hq
  cases e with
  | normal => exact key a w' hq
  | exit i =>
    simp only [Exit.inBlock] at hq ⊢
    split at hq
    · rename_i hi; rw [if_pos hi]; exact key a w' hq
    · rename_i hi; rw [if_neg hi]; exact hq
  | _ => exact hq
/-- What holds behind a conditional is named, and what stands behind it is walked once. -/
theorem cut_seq {c y : Code} (ms : List (Nat × Nat)) (R : World → Prop) (h : c.wp P (KQ N (fun σ' w' => Agree ms σ σ' ∧ R w') Q) (Fr N σ) w)
    (k : ∀ τ w', R w' → y.wp P Q (Fr N (ov ms τ σ)) w') : c.wp P (SQ P y Q) (Fr N σ) w := by
  refine Code.wp_mono ?_ h
  intro e a w' hq
  cases e with
  | normal =>
    obtain ⟨σ', rfl, h1, h2⟩ := hq
    have := k σ' w' h2
    rw [ov_self h1] at this
    exact this
  | _ => exact hq
end Go.Eng
