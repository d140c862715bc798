/- A range over a function: the statement, the iterator's call of yield in a region whose order is drawn, a round. Nothing here names a program. -/
import Derived.Test.YtbcplbkjeinplaaDoorEng20
import Derived.OrdersIn
set_option linter.unusedVariables false
set_option linter.unusedSimpArgs false
namespace Go.Eng
open Go Go.RowKit
variable {P : Program} {ops : Array Oper} {md : Region.Mode} {Q : Exit → Act → World → Prop} {S : World → Prop} {n : Nat}
theorem oper_wide {o : Oper} {a : Act} {w : World} {K : Act → World → Prop} (h : o.wp P a w K Q) : o.wpIn Fence.wide n P a w K Q := by
  unfold Oper.wp at h
  refine ⟨fun _ _ => trivial, ?_⟩
  show Oper.uponIn Fence.wide n P o a K Q ((execOp a.eval o).run P w)
  generalize (execOp a.eval o).run P w = r at h ⊢
  cases r with
  | ok x w' =>
    cases x <;> simp only [Oper.upon, Oper.uponIn] at h ⊢ <;>
      first
        | exact h
        | exact ⟨fun h => by simp [Fence.wide] at h, callsIn_wide.2 h⟩
        | exact ⟨fun h => by simp [Fence.wide] at h, fun c cs _ => let ⟨v, w', r, s⟩ := h c cs; ⟨v, w', r, stepsIn_wide.2 s⟩⟩
        | exact h.elim
  | halt x w' => cases x <;> simp only [Oper.upon, Oper.uponIn] at h ⊢ <;> first | exact h | exact h.elim
theorem wpOp_wide (hno : ¬ LetsOut Q) {i : Nat} {a : Act} {w : World} {K : Act → World → Prop} (h : wpOp P ops Q i K a w) : wpOpIn Fence.wide n P ops Q i K a w := by
  unfold wpOp at h
  unfold wpOpIn
  split
  · rename_i ho; simp only [ho] at h; exact h
  · rename_i o ho
    simp only [ho] at h
    split
    · rename_i hw; simp only [hw, if_true] at h; exact h.elim oper_wide (fun h => absurd h.2 hno)
    · rename_i hw; simp only [hw] at h; exact ⟨fun _ _ => trivial, h⟩
theorem wpAny_wide (hno : ¬ LetsOut Q) : ∀ (f : Nat) (listed : Array Bool) (a : Act) (w : World), wpAny P md ops Q f listed a w → wpAnyIn Fence.wide n P md ops Q f listed a w
  | 0, _, _, _, h => h
  | f + 1, _, _, _, h => ⟨h.1, fun i hi => wpOpIn_mono (fun a w => wpAny_wide hno f _ a w) (wpOp_wide hno (h.2 i hi))⟩
/-- The held head, from some operations on that are listed already. -/
theorem wpAny_from {l : List Oper} {n : Nat} {order : List (Nat × Bool)} {listed : Array Bool} {a : Act} {w : World} (hsel : Region.noSelect l.toArray = true) (hn : n < l.toArray.size) (hs : Region.sinkB .any l.toArray n = true) (hc : Region.chainB .any l.toArray n = true)
    (hB : headB .any l.toArray n (l.toArray.size - n) order listed = true) (inv : HeadInv .any l.toArray n listed) (hS : S w)
    (h : HW P l.toArray (NP Q) S (fun a' w' => wpList P l.toArray (NP Q) (l.drop n) a' w') order a w) : wpAny P .any l.toArray (NP Q) (order.length + (l.toArray.size - n)) listed a w := by
  have hn' : n < l.length := by simpa using hn
  have hdl : (l.drop n).length = l.toArray.size - n := by simp
  have H := wpAnyLS_order (md := .any) (Q := NP Q) (g := l.toArray.size - n) hsel (fun c a w hh => hh) hs hc hn order S listed a w inv hB hS h
  exact wpAny_of_headS (Q := NP Q) (g := l.toArray.size - n) (fun listed a' w' hL => by
    have := wpAny_of_seq (md := .any) (Q' := NP Q) (l.drop n) n listed a' w' (fun j => by simp [List.getElem?_drop]) (by rw [hdl]; exact hL.1) hL.2
    rwa [hdl] at this) _ _ _ _ H
variable {N : NN} {σ : Env} {w w' : World}
theorem upd_comm {d e : Nat} {u v : Value} (h : d ≠ e) : upd (upd σ d u) e v = upd (upd σ e v) d u := by
  funext j
  by_cases h1 : j = d
  · subst h1
    rw [upd_ne _ _ _ _ h, upd_same, upd_same]
  · by_cases h2 : j = e
    · subst h2
      rw [upd_same, upd_ne _ _ _ _ h1, upd_same]
    · rw [upd_ne _ _ _ _ h2, upd_ne _ _ _ _ h1, upd_ne _ _ _ _ h1, upd_ne _ _ _ _ h2]
def yieldB (ops : Array Oper) (n : Nat) (order : List (Nat × Bool)) : Bool :=
  decide (Region.ready .any ops (Array.replicate ops.size false) = [0, 1]) && decide (Region.ready .any ops ((Array.replicate ops.size false).setIfInBounds 0 true) = [1]) &&
  decide (Region.ready .any ops ((Array.replicate ops.size false).setIfInBounds 1 true) = [0]) && decide (Region.ready .any ops (((Array.replicate ops.size false).setIfInBounds 0 true).setIfInBounds 1 true) = [2]) &&
  Region.noSelect ops && decide (n < ops.size) && decide (2 < n) && decide (order.length + 3 = n) && Region.sinkB .any ops n && Region.chainB .any ops n &&
  headB .any ops n (ops.size - n) order ((((Array.replicate ops.size false).setIfInBounds 0 true).setIfInBounds 1 true).setIfInBounds 2 true)
theorem wpOpIn_val {F : Fence} (hro : F.round = none) (hF : ∀ f, F.fn f) {l : List Oper} {i d : Nat} {op : Op} {ty : TypeId} {pos : String} {af : Array Edge} {v : Value} {K : Act → World → Prop} (ho : l.toArray[i]? = some ⟨some d, op, ty, pos, af, none⟩)
    (h : (execOp (ev N σ) ⟨some d, op, ty, pos, af, none⟩).run P w = .ok (.value v) w) (k : K (Fr N (upd σ d v)) w) : wpOpIn F n P l.toArray Q i K (Fr N σ) w := by
  unfold wpOpIn
  simp only [ho]
  have hw : Region.wanted (⟨some d, op, ty, pos, af, none⟩ : Oper) (yielded l.toArray (Fr N σ).tmps) = true := rfl
  rw [if_pos hw]
  refine ⟨fun _ _ => hF _, ?_⟩
  rw [hro, Oper.semAt_none, eval_Fr', h]
  show K ((Fr N σ).put (some d) v) w
  rw [put_some]; exact k
/-- A region of an iterator: a function value, an argument, the call of yield; then the rest. -/
theorem drawnY_ {id : Nat} {l : List Oper} {d0 d1 d2 : Tmp} {x0 x1 : Operand} {t ty0 ty1 ty2 lp : Nat} {p0 p1 p2 : String} {a0 a1 a2 : Array Edge} {ts : Array TypeId} {A : Addr} {v : Value} {fn : FuncId} {tmps : Array Value} {assign body : Code} {Post : Value → World → Prop}
    (n : Nat) (order : List (Nat × Bool)) (S : World → Prop) (hno : ¬ LetsOut Q) (hm : P.follows .mixedOrders = true)
    (h0 : l[0]? = some ⟨some d0, .move x0, ty0, p0, a0, none⟩) (h1 : l[1]? = some ⟨some d1, .load t x1, ty1, p1, a1, none⟩) (h2 : l[2]? = some ⟨some d2, .call ⟨.value (.tmp d0), #[.tmp d1], ts⟩, ty2, p2, a2, none⟩)
    (hB : yieldB l.toArray n order = true) (hd0 : Nat.blt d0 N.n = true) (hd1 : Nat.blt d1 N.n = true) (hd : Nat.beq d0 d1 = false)
    (hx0 : ev N σ x0 = .func (.yield lp) #[] #[]) (hT : VarT P t) (hx1 : ev N (upd σ d0 (.func (.yield lp) #[] #[])) x1 = .pointer (some A)) (hx1' : ev N σ x1 = .pointer (some A)) (hx0' : ev N (upd σ d1 v) x0 = .func (.yield lp) #[] #[])
    (hc : ({ w with drawn := w.drawn + 1 } : World).cell? A = some v)
    (hy : (Instr.yield lp #[v]).run P { w with drawn := w.drawn + 1 } = .ok (.round lp fn tmps assign body) { w with drawn := w.drawn + 1 })
    (hR : RoundIn Fence.wide 0 P lp fn tmps assign body { w with drawn := w.drawn + 1 } fun e w' => ∃ u, e = .returned u ∧ Post u w')
    (k : ∀ u w', Post u w' → S w' ∧ RX P N l (NP Q) S n order (upd (upd (upd σ d0 (.func (.yield lp) #[] #[])) d1 v) d2 u) w') : (Code.region id l.toArray true).wp P Q (Fr N σ) w := by
  refine Code.wp_mono NP.weak ?_
  refine (wpIn_wide (n := 1)).1 (wpIn_region_any hm ?_)
  obtain ⟨w1, hw1⟩ : ∃ w1, w1 = ({ w with drawn := w.drawn + 1 } : World) := ⟨_, rfl⟩
  rw [← hw1] at hc hy hR ⊢
  simp only [yieldB, Bool.and_eq_true, decide_eq_true_eq] at hB
  obtain ⟨⟨⟨⟨⟨⟨⟨⟨⟨⟨r0, r1⟩, r2⟩, r3⟩, hsel⟩, hn⟩, hn2⟩, hol⟩, hs⟩, hch⟩, hB'⟩ := hB
  have hne : d0 ≠ d1 := fun h => by rw [h] at hd; simp at hd
  obtain ⟨f, hf⟩ : ∃ f, l.toArray.size = f + 3 := ⟨l.toArray.size - 3, by omega⟩
  have hf' : f = order.length + (l.toArray.size - n) := by omega
  have inv0 : HeadInv .any l.toArray n (Array.replicate l.toArray.size false) :=
    ⟨by simp, fun j oj _ hl => (by rw [getD_replicate_false] at hl; cases hl), fun t _ ht => getD_in (by simpa using ht) (getD_replicate_false _ _)⟩
  have inv1 := inv0.set (i := 0) (by rw [r0]; simp) (by omega)
  have inv2 := inv1.set (i := 1) (by rw [r1]; simp) (by omega)
  have inv3 := inv2.set (i := 2) (by rw [r3]; simp) (by omega)
  have e0 : l.toArray[0]? = some ⟨some d0, .move x0, ty0, p0, a0, none⟩ := by simpa using h0
  have e1 : l.toArray[1]? = some ⟨some d1, .load t x1, ty1, p1, a1, none⟩ := by simpa using h1
  have e2 : l.toArray[2]? = some ⟨some d2, .call ⟨.value (.tmp d0), #[.tmp d1], ts⟩, ty2, p2, a2, none⟩ := by simpa using h2
  obtain ⟨τ, hτ⟩ : ∃ τ, τ = upd (upd σ d0 (.func (.yield lp) #[] #[])) d1 v := ⟨_, rfl⟩
  have fin : wpAnyIn Fence.wide 1 P .any l.toArray (NP Q) (f + 1) (((Array.replicate l.toArray.size false).setIfInBounds 0 true).setIfInBounds 1 true) (Fr N τ) w1 := by
    refine wpAnyIn_all r3 (by simp) fun i hi => ?_
    have hi : i = 2 := by simpa using hi
    subst hi
    unfold wpOpIn
    simp only [e2]
    have hw : Region.wanted (⟨some d2, .call ⟨.value (.tmp d0), #[.tmp d1], ts⟩, ty2, p2, a2, none⟩ : Oper) (yielded l.toArray (Fr N τ).tmps) = true := rfl
    rw [if_pos hw]
    have t0 : ev N τ (.tmp d0) = .func (.yield lp) #[] #[] := by
      show (bif Nat.blt d0 N.n then τ d0 else undef) = _
      rw [hd0, hτ, upd_ne _ _ _ _ hne, upd_same]; rfl
    have t1 : ev N τ (.tmp d1) = v := by
      show (bif Nat.blt d1 N.n then τ d1 else undef) = _
      rw [hd1, hτ, upd_same]; rfl
    refine ⟨fun _ _ => trivial, ?_⟩
    have hex : (execOp (ev N τ) ⟨some d2, .call ⟨.value (.tmp d0), #[.tmp d1], ts⟩, ty2, p2, a2, none⟩).run P w1 = .ok (.round lp fn tmps assign body) w1 := by
      simp [execOp, resolve, t0, t1, Deferred.ofValue, invoke]
      exact hy
    rw [show Fence.wide.round = none from rfl, Oper.semAt_none, eval_Fr', hex]
    refine ⟨fun h => by simp [Fence.wide] at h, hR.mono ?_⟩
    rintro e w' ⟨u, rfl, hp⟩
    obtain ⟨hS, hK⟩ := k u w' hp
    show wpAnyIn _ _ _ _ _ _ _ _ ((Fr N τ).put (some d2) u) w'
    rw [put_some, hτ, hf']
    exact wpAny_wide (Q := NP Q) (fun h => hno h) _ _ _ _ (wpAny_from hsel hn hs hch hB' inv3 hS hK)
  rw [hf]
  refine wpAnyIn_all (rs := [0, 1]) (by rw [← hf]; exact r0) (by simp) fun i hi => ?_
  have hi : i = 0 ∨ i = 1 := by simpa using hi
  rw [← hf]
  rcases hi with rfl | rfl
  · refine wpOpIn_val rfl (fun _ => trivial) e0 (v := .func (.yield lp) #[] #[]) (by simp [execOp, hx0]) ?_
    refine wpAnyIn_all r1 (by simp) fun i hi => ?_
    have hi : i = 1 := by simpa using hi
    subst hi
    refine wpOpIn_val rfl (fun _ => trivial) e1 (v := v) (by simp [execOp, hx1, Instr.loadAt, Instr.sureAddr, loadVar, hT.noAgg, hc]) ?_
    rw [← hτ]; exact fin
  · refine wpOpIn_val rfl (fun _ => trivial) e1 (v := v) (by simp [execOp, hx1', Instr.loadAt, Instr.sureAddr, loadVar, hT.noAgg, hc]) ?_
    refine wpAnyIn_all r2 (by simp) fun i hi => ?_
    have hi : i = 0 := by simpa using hi
    subst hi
    refine wpOpIn_val rfl (fun _ => trivial) e0 (v := .func (.yield lp) #[] #[]) (by simp [execOp, hx0']) ?_
    rw [upd_comm (Ne.symm hne), ← hτ, Array.setIfInBounds_comm _ _ (by omega)]; exact fin
/-! ## The statement -/
/-- What the one call of a range over a function must lead to: the record is not busy; the pending jump is what is done next. -/
def RangeP (P : Program) (lp : Nat) (Q : Exit → Act → World → Prop) (a : Act) (w : World) : Prop :=
  ∃ r w', w.heap[lp]? = some (.loop r) ∧ r.state ≠ .busy ∧ w' = w.putObj lp (.loop { r with state := .exhausted }) ∧
    (match r.pending with
     | none => Q .normal a w'
     | some c => c.wp P Q a w')
theorem rangeFunc_ {M : Nat} {g : Operand} {ps : Array Tmp} {assign body : Code} {gf : FuncId} {lb : List Value} (hf : FnT P gf) (hx : ev ⟨M, []⟩ σ g = .func (.func gf) #[] lb.toArray)
    (h : ∀ fn : FuncId, CallsOk P gf ((.func (.yield (w.heap.size + 1)) #[] #[] :: lb).toArray)
      ((w.alloc (.deferred (some []))).alloc (.loop { state := .ready, pending := none, fn, tmps := (Fr ⟨M, []⟩ σ).tmps, params := ps, assign, body, defers := w.heap.size }))
      fun _ w' => RangeP P (w.heap.size + 1) Q (Fr ⟨M, [{ target := .collected w.heap.size, args := #[] }]⟩ σ) w') :
    (Code.rangeFunc g ps assign body).wp P Q (Fr ⟨M, []⟩ σ) w := by
  refine (wpIn_wide (n := 1)).1 (wpIn_rangeFunc ?_)
  intro fn _
  have h := h fn
  have hent := run_enterLoop_outer (P := P) (w := w) fn (Fr ⟨M, []⟩ σ).tmps ps assign body
  obtain ⟨W1, hW1⟩ : ∃ W1, W1 = ((w.alloc (.deferred (some []))).alloc (.loop { state := .ready, pending := none, fn, tmps := (Fr ⟨M, []⟩ σ).tmps, params := ps, assign, body, defers := w.heap.size })) := ⟨_, rfl⟩
  rw [← hW1] at h hent
  refine ⟨w.heap.size + 1, [{ target := .collected w.heap.size, args := #[] }], W1, { target := .fn (.func gf) lb.toArray, args := #[.func (.yield (w.heap.size + 1)) #[] #[]] }, W1, gf,
    #[.func (.yield (w.heap.size + 1)) #[] #[]] ++ lb.toArray, W1, hent, ?_, fun _ _ => trivial, ?_, fun h => by simp [Fence.wide] at h, ?_⟩
  · simp only [resolve, rangeCall]
    rw [eval_Fr', hx]
    simp [Deferred.ofValue, ev]
  · simp [invoke, run_callFn hf]
  · refine callsIn_wide.2 ?_
    have e : (#[.func (.yield (w.heap.size + 1)) #[] #[]] ++ lb.toArray : Array Value) = (.func (.yield (w.heap.size + 1)) #[] #[] :: lb).toArray := by simp
    rw [e]
    refine Calls.mono h ?_
    rintro e w' ⟨v, rfl, r, w'', h1, h2, rfl, h3⟩
    refine ⟨r.pending, _, run_endLoop h1 h2, ?_⟩
    cases hp : r.pending with
    | none => rw [hp] at h3; exact h3
    | some c => rw [hp] at h3; exact wpIn_wide.2 h3
end Go.Eng
