/- A round of a range over a function, its code walked as everywhere. Nothing here names a program. -/
import Derived.Test.YtbcplbkjeinplaaDoorEng22
set_option linter.unusedVariables false
set_option linter.unusedSimpArgs false
namespace Go.Eng
open Go Go.RowKit
variable {P : Program} {ops : Array Oper} {Q : Exit → Act → World → Prop} {n lp : Nat} {N : NN} {σ : Env} {w w' : World}
def noDefer (o : Oper) : Bool := match o.op with | .defer _ => false | _ => true
theorem oper_round {o : Oper} {a : Act} {w : World} {K : Act → World → Prop} (hd : noDefer o = true) (h : o.wp P a w K Q) : o.wpIn (Fence.wide.inRound lp) n P a w K Q := by
  have h := oper_wide (n := n) h
  refine ⟨fun _ _ => trivial, ?_⟩
  have hnd : ∀ c, o.op ≠ .defer c := fun c hc => by unfold noDefer at hd; rw [hc] at hd; cases hd
  rw [show (Fence.wide.inRound lp).round = some lp from rfl, Oper.semAt_some _ _ _ hnd]
  exact h.2
theorem list_round (hno : ¬ LetsOut Q) : ∀ (l : List Oper) (a : Act) (w : World), l.all noDefer = true → wpList P ops Q l a w → wpListIn (Fence.wide.inRound lp) n P ops Q l a w
  | [], _, _, _, h => h
  | o :: l, a, w, hd, h => by
    simp only [List.all_cons, Bool.and_eq_true] at hd
    unfold wpList at h
    unfold wpListIn
    split
    · rename_i hw
      rw [if_pos hw] at h
      rcases h with h | h
      · exact Oper.wpIn_mono (fun a w => list_round hno l a w hd.2) (oper_round hd.1 h)
      · exact absurd h.2 hno
    · rename_i hw
      rw [if_neg hw] at h
      exact ⟨fun _ _ => trivial, list_round hno l _ _ hd.2 h⟩
/-- Code in a round. -/
abbrev WR (P : Program) (lp : Nat) (c : Code) (Q : Exit → Act → World → Prop) (a : Act) (w : World) : Prop := c.wpIn (Fence.wide.inRound lp) 0 P Q a w
theorem regionR {id : Nat} {l : List Oper} (hno : ¬ LetsOut Q) (hd : l.all noDefer = true) (h : RL P N l Q l σ w) : WR P lp (Code.region id l.toArray false) Q (Fr N σ) w :=
  wpIn_region_lit (list_round hno _ _ _ hd h)
def SR (P : Program) (lp : Nat) (y : Code) (Q : Exit → Act → World → Prop) : Exit → Act → World → Prop := Exit.then (WR P lp y Q) Q
theorem seqR {x y : Code} (h : WR P lp x (SR P lp y Q) (Fr N σ) w) : WR P lp (Code.seq x y) Q (Fr N σ) w := wpIn_seq h
theorem sr_normal {y : Code} {a : Act} (h : WR P lp y Q a w) : SR P lp y Q .normal a w := h
theorem sr_ret {y : Code} {a : Act} (h : Q .ret a w) : SR P lp y Q .ret a w := h
theorem condR_t {c : Operand} {x y : Code} (hc : ev N σ c = .bool true) (h : WR P lp x Q (Fr N σ) w) : WR P lp (Code.cond c x y) Q (Fr N σ) w := wpIn_cond_true (by rw [eval_Fr]; exact hc) h
theorem condR_f {c : Operand} {x y : Code} (hc : ev N σ c = .bool false) (h : WR P lp y Q (Fr N σ) w) : WR P lp (Code.cond c x y) Q (Fr N σ) w := wpIn_cond_false (by rw [eval_Fr]; exact hc) h
theorem skipR (h : Q .normal (Fr N σ) w) : WR P lp Code.skip Q (Fr N σ) w := wpIn_skip h
theorem retR (h : Q .ret (Fr N σ) w) : WR P lp Code.ret Q (Fr N σ) w := wpIn_ret h
theorem blockR {id : Nat} {c : Code} (h : WR P lp c (Exit.inBlock id Q) (Fr N σ) w) : WR P lp (Code.block id c) Q (Fr N σ) w := wpIn_block h
/-- One round: what yield hands in is put into the loop's slot; the record is busy while the body runs. -/
theorem round_ {M : Nat} {fn : FuncId} {assign body : Code} {R : Ending → World → Prop} {r : Loop} (hl : w.heap[lp]? = some (.loop r)) (hr : r.state = .ready)
    (ha : ∀ K : Env → World → Prop, (∀ σ', (w.putObj lp (.loop { r with state := .busy })).heap[lp]? = some (.loop { r with state := .busy }) →
        (WR P lp body (roundPost P lp R) (Fr ⟨M, []⟩ σ') (w.putObj lp (.loop { r with state := .busy }))) → K σ' w) → WR P lp assign (KQ ⟨M, []⟩ K (fun _ _ _ => False)) (Fr ⟨M, []⟩ σ) w) :
    RoundIn Fence.wide 0 P lp fn (Fr ⟨M, []⟩ σ).tmps assign body w R := by
  refine roundIn_of_wpIn trivial ?_
  have hlt : lp < w.heap.size := (Array.getElem?_eq_some_iff.1 hl).1
  have h := ha (fun σ' w' => w' = w ∧ WR P lp body (roundPost P lp R) (Fr ⟨M, []⟩ σ') (w.putObj lp (.loop { r with state := .busy }))) (fun σ' _ h => ⟨rfl, h⟩)
  refine wpIn_mono h ?_
  rintro e a w' hq
  cases e with
  | normal =>
    obtain ⟨σ', rfl, rfl, h2⟩ := hq
    exact ⟨_, run_beginRound hl hr, h2⟩
  | _ => exact hq
theorem putObj_chg (w : World) (b : Nat) (o : Obj) : Chg b w (w.putObj b o) := ⟨rfl, rfl, rfl, by simp, fun k _ hne => World.putObj_heap_other hne⟩
theorem Mem.putObj {w0 : World} {L : List Ent} {V : Vw} {i b : Nat} {o : Obj} (o' : Obj) (h : Mem w0 w L V) (hi : L[i]? = some (.obj b o)) : Mem w0 (w.putObj b o') (L.set i (.obj b o')) V :=
  h.setObj hi (putObj_chg _ _ _) (World.putObj_heap_same (Array.getElem?_eq_some_iff.1 (h.getObj hi)).1)
/-- How a round's body may end: the record is turned, yield tells whether to go on. -/
theorem rp_normal {R : Ending → World → Prop} {a : Act} {r : Loop} (hl : w.heap[lp]? = some (.loop r)) (h : R (.returned (.bool true)) (w.putObj lp (.loop { r with state := .ready, pending := none }))) : roundPost P lp R .normal a w :=
  ⟨_, _, run_endRound none hl, h⟩
theorem rp_ret {R : Ending → World → Prop} {a : Act} {r : Loop} (hl : w.heap[lp]? = some (.loop r)) (h : R (.returned (.bool false)) (w.putObj lp (.loop { r with state := .done, pending := some .ret }))) : roundPost P lp R .ret a w :=
  ⟨_, _, run_endRound (some .ret) hl, h⟩
/-- What yield's argument makes of the record's slots. -/
theorem run_yield1 {M : Nat} {r : Loop} {p : Tmp} {v : Value} (hl : w.heap[lp]? = some (.loop r)) (hp : r.params = #[p]) (ht : r.tmps = (Fr ⟨M, []⟩ σ).tmps) :
    (Instr.yield lp #[v]).run P w = .ok (.round lp r.fn (Fr ⟨M, []⟩ (upd σ p v)).tmps r.assign r.body) w := by
  have h := run_yield (P := P) (args := #[v]) hl (by rw [hp]; rfl)
  rw [h, hp, ht]
  have e := put_some ⟨M, []⟩ σ p v
  have e2 : ((Fr ⟨M, []⟩ σ).put (some p) v).tmps = (Fr ⟨M, []⟩ (upd σ p v)).tmps := by rw [e]
  rw [← e2]
  simp [Act.put]
end Go.Eng
