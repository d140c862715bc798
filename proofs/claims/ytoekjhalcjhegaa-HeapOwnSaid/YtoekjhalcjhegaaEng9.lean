/- A scope in which the run jumps back to a label. Nothing here names a program. -/
import Derived.Test.YtoekjhalcjhegaaEng8
import Derived.ScopeJumps
set_option linter.unusedVariables false
set_option linter.unusedSimpArgs false
namespace Go.Eng
open Go Go.RowKit
variable {P : Program} {N : NN} {Q : Exit → Act → World → Prop} {σ : Env} {w w' : World}
def GQ (N : NN) (l : Nat) (K : Env → World → Prop) (Q : Exit → Act → World → Prop) : Exit → Act → World → Prop := Exit.jump l (fun a w => ∃ σ, a = Fr N σ ∧ K σ w) Q
theorem gq_goto {l : Nat} {K : Env → World → Prop} (h : K σ w) : GQ N l K Q (.goto l) (Fr N σ) w := ⟨rfl, σ, rfl, h⟩
theorem gq_normal {l : Nat} {K : Env → World → Prop} {a : Act} (h : Q .normal a w) : GQ N l K Q .normal a w := h
theorem gq_ret {l : Nat} {K : Env → World → Prop} {a : Act} (h : Q .ret a w) : GQ N l K Q .ret a w := h
theorem gq_exit {l id : Nat} {K : Env → World → Prop} {a : Act} (h : Q (.exit id) a w) : GQ N l K Q (.exit id) a w := h
theorem label_ {l : Nat} (h : Q .normal (Fr N σ) w) : (Code.label l).wp P Q (Fr N σ) w := wp_label h
theorem goto_ {l : Nat} (h : Q (.goto l) (Fr N σ) w) : (Code.goto l).wp P Q (Fr N σ) w := wp_goto h
theorem inBlock_goto {id l : Nat} {a : Act} (h : Q (.goto l) a w) : Exit.inBlock id Q (.goto l) a w := h
theorem scope_ {c rest : Code} (l : Nat) (I : Nat → Env → World → Prop) (hf : findLabel c l = some rest)
    (pass : ∀ m σ w, I m σ w → ∀ K : Env → World → Prop, (∀ m' σ' w', m' < m → I m' σ' w' → K σ' w') → rest.wp P (GQ N l K Q) (Fr N σ) w)
    (first : ∀ K : Env → World → Prop, (∀ m σ w, I m σ w → K σ w) → c.wp P (GQ N l K Q) (Fr N σ) w) : (Code.scope c).wp P Q (Fr N σ) w := by
  classical
  have key : ∀ (a : Act) (w : World), (∃ m σ, a = Fr N σ ∧ I m σ w) → ∃ m σ, a = Fr N σ ∧ I m σ w ∧ ∀ m', m' < m → ¬ ∃ σ, a = Fr N σ ∧ I m' σ w := by
    intro a w ⟨m, σ, ha, hI⟩
    induction m using Nat.strongRecOn generalizing σ with
    | _ m ih =>
      by_cases hx : ∃ m', m' < m ∧ ∃ σ, a = Fr N σ ∧ I m' σ w
      · obtain ⟨m', hlt, σ', ha', hI'⟩ := hx
        exact ih m' hlt σ' ha' hI'
      · exact ⟨m, σ, ha, hI, fun m' hlt hh => hx ⟨m', hlt, hh⟩⟩
  let μ : Act → World → Nat := fun a w => if h : ∃ m σ, a = Fr N σ ∧ I m σ w then (key a w h).choose else 0
  refine wp_scope_jumps l (fun a w => ∃ m σ, a = Fr N σ ∧ I m σ w) μ hf ?_ ?_
  · refine Code.wp_mono ?_ (first (fun σ w => ∃ m, I m σ w) (fun m σ w h => ⟨m, h⟩))
    intro e a w hq
    cases e with
    | goto l' => obtain ⟨h1, σ', rfl, m, hI⟩ := hq; exact ⟨h1, m, σ', rfl, hI⟩
    | _ => exact hq
  · intro a w hI
    obtain ⟨σ1, ha, hI1, hmin⟩ := (key a w hI).choose_spec
    have hμ : μ a w = (key a w hI).choose := by simp only [μ]; rw [dif_pos hI]
    subst ha
    refine Code.wp_mono ?_ (pass _ σ1 w hI1 (fun σ' w' => (∃ m σ, Fr N σ' = Fr N σ ∧ I m σ w') ∧ μ (Fr N σ') w' < μ (Fr N σ1) w) ?_)
    · intro e a w' hq
      cases e with
      | goto l' => obtain ⟨h1, σ', rfl, h2, h3⟩ := hq; exact ⟨h1, h2, h3⟩
      | _ => exact hq
    · intro m' σ' w' hlt hI'
      have hex : ∃ m σ, Fr N σ' = Fr N σ ∧ I m σ w' := ⟨m', σ', rfl, hI'⟩
      refine ⟨hex, ?_⟩
      obtain ⟨σ2, _, _, hmin2⟩ := (key _ w' hex).choose_spec
      have h2 : μ (Fr N σ') w' = (key _ w' hex).choose := by simp only [μ]; rw [dif_pos hex]
      rw [hμ, h2]
      rcases Nat.lt_or_ge m' (key (Fr N σ') w' hex).choose with h3 | h3
      · exact absurd ⟨σ', rfl, hI'⟩ (hmin2 m' h3)
      · omega
theorem map_range2_set (f : Nat → Value) (u v : Value) : ((Array.map f (Array.range 2)).setIfInBounds 0 u).setIfInBounds 1 v = #[u, v] := by
  apply Array.ext
  · simp
  · intro i h1 h2
    have hi : i < 2 := by simpa using h2
    match i, hi with
    | 0, _ => simp [Array.getElem_setIfInBounds]
    | 1, _ => simp [Array.getElem_setIfInBounds]
theorem rl_bslice2 {ops rest : List Oper} {d : Tmp} {ty : TypeId} {pos : String} {af : Array Edge} {g : Option (Nat × Bool)} {t : TypeId} {x y : Operand} {e by_ : Nat} {z u v : Value} (hT : SlT P t e 1 by_ z) (hz : z.oneCell' = true) (hg : want N ops σ g = true) (hx : ev N σ x = u) (hu : u.oneCell' = true) (hy : ev N σ y = v) (hv : v.oneCell' = true)
    (k : ∀ w', Blk w' w.heap.size [u, v] e → Below w.heap.size w w' → w'.heap.size = w.heap.size + 1 →
      RL P N ops Q rest (upd σ d (.slice (some ⟨w.heap.size, 0, none⟩) 2 2)) w') : RL P N ops Q (⟨some d, .buildSlice t 2 #[(0, x), (1, y)], ty, pos, af, g⟩ :: rest) σ w := by
  obtain ⟨inf, hi1, hi2, hi3, hi4⟩ := hT.info
  refine rl_val hg ?_ (k (w.alloc (.cells [u, v].toArray e)) (blk_alloc _ _ _) (ext_alloc _ _) (by simp))
  have hcz : z.cells = #[z] := by cases z <;> first | rfl | (cases hz; done)
  have hcu : u.cells = #[u] := by cases u <;> first | rfl | (cases hu; done)
  have hcv : v.cells = #[v] := by cases v <;> first | rfl | (cases hv; done)
  simp [execOp, hx, hy, Instr.buildSlice, run_underlying hT.und, typeInfo, hi1, hi3, sizeOf, zeroValue, hi2, hcz, Instr.fill, hcu, hcv, newRow]
  rw [map_range2_set]
/-- The same, where what stands behind the label is walked once. -/
theorem scope2_ {c X : Code} (l : Nat) (I : Nat → Env → World → Prop) (hf : findLabel c l = some (.seq .skip X))
    (pass : ∀ m σ w, I m σ w → ∀ K : Env → World → Prop, (∀ m' σ' w', m' < m → I m' σ' w' → K σ' w') → X.wp P (GQ N l K Q) (Fr N σ) w)
    (first : ∀ Q' : Exit → Act → World → Prop, (∀ m σ w, I m σ w → X.wp P Q' (Fr N σ) w) → c.wp P Q' (Fr N σ) w) : (Code.scope c).wp P Q (Fr N σ) w := by
  refine scope_ l I hf (fun m σ w hI K hK => ?_) (fun K hK => ?_)
  · exact seq_ (skip_ (sq_normal (pass m σ w hI K hK)))
  · exact first _ (fun m σ w hI => pass m σ w hI K (fun m' σ' w' _ h => hK m' σ' w' h))
end Go.Eng
