/- A region whose order is drawn: a head of operations that yield what they yield in every world that meets S, or (calls) keep S, and a tail in a forced order. -/
import Derived.Test.YtoekjhalcjhegaaEng3
import Derived.OrdersHeld
set_option linter.unusedVariables false
set_option linter.unusedSimpArgs false
namespace Go.Eng
open Go Go.RowKit
section
variable {P : Program} {ops : Array Oper} {md : Region.Mode} {Q : Exit → Act → World → Prop} {S : World → Prop}

def NP (Q : Exit → Act → World → Prop) : Exit → Act → World → Prop
  | .panic _, _, _ => False
  | e, a, w => Q e a w
theorem NP.weak {Q : Exit → Act → World → Prop} : ∀ (e : Exit) (a : Act) (w : World), NP Q e a w → Q e a w := fun e a w h => by
  cases e <;> first | exact h | exact (h : False).elim
theorem np_normal {a : Act} {w : World} (h : Q .normal a w) : NP Q .normal a w := h

def wpAnyLS (P : Program) (md : Region.Mode) (ops : Array Oper) (Q : Exit → Act → World → Prop) (S : World → Prop) (n : Nat) (L : Array Bool → Act → World → Prop) : Nat → Array Bool → Act → World → Prop
  | 0, listed, a, w => L listed a w
  | f + 1, listed, a, w =>
    Region.ready md ops listed ≠ [] ∧ ∀ i ∈ Region.ready md ops listed, i < n ∧ wpOp P ops Q i (fun a' w' => S w' ∧ wpAnyLS P md ops Q S n L f (listed.setIfInBounds i true) a' w') a w
theorem wpAny_of_headS {n g : Nat} {L : Array Bool → Act → World → Prop} (hL : ∀ listed a w, L listed a w → wpAny P md ops Q g listed a w) :
    ∀ (f : Nat) (listed : Array Bool) (a : Act) (w : World), wpAnyLS P md ops Q S n L f listed a w → wpAny P md ops Q (f + g) listed a w
  | 0, listed, a, w, h => by rw [Nat.zero_add]; exact hL _ _ _ h
  | f + 1, listed, a, w, h => by
    rw [show f + 1 + g = (f + g) + 1 by omega]
    exact ⟨fun h0 => absurd h0 h.1, fun i hi => wpOp_mono (fun a' w' h' => wpAny_of_headS hL f _ a' w' h'.2) (h.2 i hi).2⟩
theorem wpAnyLS_first {n i : Nat} {oi : Oper} {v : Value} {L : Array Bool → Act → World → Prop} (hi : ops[i]? = some oi) (hsel : ∀ (j : Nat) (o : Oper) cs b, ops[j]? = some o → o.op ≠ .select cs b)
    (hQ : ∀ c a w, Q (.panic c) (a.put oi.dst v) w → Q (.panic c) a w)
    (hs : Region.sinkB md ops n = true) (hc : Region.chainB md ops n = true) (hn : n < ops.size) (hin : i < n)
    (hdone : ∀ listed a w, L listed a w → ∀ j ∈ Region.ready md ops listed, n ≤ j) :
    ∀ (f : Nat) (listed : Array Bool) (a : Act) (w : World), HeadInv md ops n listed →
      (∀ j oj, ops[j]? = some oj → j ≠ i → listed.getD j true = false → (∀ e ∈ oj.after, Region.binds md e = true → e.on ≠ i) → oi.apart ops oj = true) →
      i ∈ Region.ready md ops listed → YieldsIf P ops S oi v a → S w →
      wpAnyLS P md ops Q S n L f (listed.setIfInBounds i true) (a.put oi.dst v) w → wpAnyLS P md ops Q S n L (f + 1) listed a w := by
  intro f
  induction f with
  | zero =>
    intro listed a w inv _ hr hy hS H
    have hun := (mem_ready.1 hr).1
    refine ⟨fun h => (by rw [h] at hr; cases hr), fun j hj => ?_⟩
    have hjn : j < n := by
      rcases Nat.lt_or_ge j n with h | h
      · exact h
      · exact absurd hj (tail_waits hs hc hn inv _ i rfl hin hun j h)
    refine ⟨hjn, ?_⟩
    by_cases hji : j = i
    · subst hji; exact hy.wpOp hi hS ⟨hS, H⟩
    · have := hdone _ _ _ H j (ready_mono hj hji)
      omega
  | succ f ih =>
    intro listed a w inv hfree hr hy hS H
    have hun := (mem_ready.1 hr).1
    refine ⟨fun h => (by rw [h] at hr; cases hr), fun j hj => ?_⟩
    have hjn : j < n := by
      rcases Nat.lt_or_ge j n with h | h
      · exact h
      · exact absurd hj (tail_waits hs hc hn inv _ i rfl hin hun j h)
    refine ⟨hjn, ?_⟩
    by_cases hji : j = i
    · subst hji; exact hy.wpOp hi hS ⟨hS, H⟩
    · have h1 := (H.2 j (ready_mono hj hji)).2
      obtain ⟨hjun, oj, hoj, hall⟩ := mem_ready.1 hj
      have hnot : ∀ e ∈ oj.after, Region.binds md e = true → e.on ≠ i := fun e he hb heq => by
        have h1 := hall e he hb
        rw [heq, getD_both hun] at h1
        cases h1
      have h2 := wpOp_putIf hoj (hfree j oj hoj hji hjun hnot) (fun cs b => hsel i oi cs b hi) (fun cs b => hsel j oj cs b hoj) hQ hy h1
      have hfree' : ∀ k ok, ops[k]? = some ok → k ≠ i → (listed.setIfInBounds j true).getD k true = false →
          (∀ e ∈ ok.after, Region.binds md e = true → e.on ≠ i) → oi.apart ops ok = true := fun k ok hk hki hun hno => by
        refine hfree k ok hk hki ?_ hno
        by_cases hjk : j = k
        · subst hjk; exact hjun
        · rw [getD_set_ne true hjk] at hun; exact hun
      refine wpOp_mono (fun a' w' h3 => ⟨h3.2.1, ih (listed.setIfInBounds j true) a' w' (inv.set hj hjn) hfree' (ready_mono hr (Ne.symm hji)) h3.1 h3.2.1 ?_⟩) h2
      rw [Array.setIfInBounds_comm _ _ hji]
      exact h3.2.2

/-- The head is taken in the order that is handed in: (i, false): operation i yields in every world that meets S; (i, true): operation i, which alone may come up then, keeps S. -/
def headB (md : Region.Mode) (ops : Array Oper) (n g : Nat) : List (Nat × Bool) → Array Bool → Bool
  | [], listed => Region.seqB md ops g n listed
  | (i, false) :: r, listed => decide (i < n) && (Region.ready md ops listed).contains i && Region.free md ops listed i && headB md ops n g r (listed.setIfInBounds i true)
  | (i, true) :: r, listed => decide (i < n) && decide (Region.ready md ops listed = [i]) && headB md ops n g r (listed.setIfInBounds i true)
def heldB (md : Region.Mode) (ops : Array Oper) (n : Nat) (order : List (Nat × Bool)) : Bool :=
  Region.noSelect ops && decide (n < ops.size) && decide (order.length = n) && Region.sinkB md ops n && Region.chainB md ops n && headB md ops n (ops.size - n) order (Array.replicate ops.size false)
def HW (P : Program) (ops : Array Oper) (Q : Exit → Act → World → Prop) (S : World → Prop) (L : Act → World → Prop) : List (Nat × Bool) → Act → World → Prop
  | [], a, w => L a w
  | (i, false) :: r, a, w => ∃ o v, ops[i]? = some o ∧ YieldsIf P ops S o v a ∧ HW P ops Q S L r (a.put o.dst v) w
  | (i, true) :: r, a, w => wpOp P ops Q i (fun a' w' => S w' ∧ HW P ops Q S L r a' w') a w
theorem wpAnyLS_order {n g : Nat} {Lq : Act → World → Prop} (hsel : Region.noSelect ops = true) (hQ : ∀ c a w, ¬ Q (.panic c) a w) (hs : Region.sinkB md ops n = true) (hc : Region.chainB md ops n = true) (hn : n < ops.size) :
    ∀ (order : List (Nat × Bool)) (listed : Array Bool) (a : Act) (w : World), HeadInv md ops n listed → headB md ops n g order listed = true → S w → HW P ops Q S Lq order a w →
    wpAnyLS P md ops Q S n (fun listed' a' w' => Region.seqB md ops g n listed' = true ∧ Lq a' w') order.length listed a w
  | [], listed, a, w, _, hB, _, h => ⟨hB, h⟩
  | (i, false) :: r, listed, a, w, inv, hB, hS, h => by
    simp only [headB, Bool.and_eq_true, decide_eq_true_eq] at hB
    obtain ⟨⟨⟨hin, hr⟩, hf⟩, hB'⟩ := hB
    have hr' : i ∈ Region.ready md ops listed := by simpa using hr
    obtain ⟨o, v, ho, hy, hK⟩ := h
    exact wpAnyLS_first ho (Region.noSelect_spec hsel) (fun c a w hh => absurd hh (hQ _ _ _)) hs hc hn hin (fun listed' a' w' hL => seqB_ready hL.1) r.length listed a w inv (Region.free_spec ho hf) hr' hy hS
      (wpAnyLS_order hsel hQ hs hc hn r _ _ _ (inv.set hr' hin) hB' hS hK)
  | (i, true) :: r, listed, a, w, inv, hB, hS, h => by
    simp only [headB, Bool.and_eq_true, decide_eq_true_eq] at hB
    obtain ⟨⟨hin, hr⟩, hB'⟩ := hB
    have hr' : i ∈ Region.ready md ops listed := by rw [hr]; simp
    refine ⟨fun h0 => (by rw [h0] at hr; cases hr), fun j hj => ?_⟩
    rw [hr] at hj
    have : j = i := by simpa using hj
    subst this
    refine ⟨hin, wpOp_mono (fun a' w' h' => ⟨h'.1, wpAnyLS_order hsel hQ hs hc hn r _ _ _ (inv.set hr' hin) hB' h'.1 h'.2⟩) h⟩
theorem wp_region_heldTail {id : Nat} {a : Act} {w : World} {l : List Oper} (n : Nat) (order : List (Nat × Bool)) (S : World → Prop) (hm : P.follows .mixedOrders = true) (hB : heldB .any l.toArray n order = true)
    (hS : S { w with drawn := w.drawn + 1 })
    (h : HW P l.toArray (NP Q) S (fun a' w' => wpList P l.toArray (NP Q) (l.drop n) a' w') order a { w with drawn := w.drawn + 1 }) : (Code.region id l.toArray true).wp P Q a w := by
  refine Code.wp_mono NP.weak ?_
  simp only [heldB, Bool.and_eq_true, decide_eq_true_eq] at hB
  obtain ⟨⟨⟨⟨⟨hsel, hn⟩, hol⟩, hs⟩, hc⟩, hlex⟩ := hB
  have hn' : n < l.length := by simpa using hn
  have hdl : (l.drop n).length = l.toArray.size - n := by simp
  have inv0 : HeadInv .any l.toArray n (Array.replicate l.toArray.size false) :=
    ⟨by simp, fun j oj _ hl => (by rw [getD_replicate_false] at hl; cases hl), fun t _ ht => getD_in (by simpa using ht) (getD_replicate_false _ _)⟩
  have H := wpAnyLS_order (md := .any) (Q := NP Q) (g := l.toArray.size - n) hsel (fun c a w hh => hh) hs hc hn order _ a _ inv0 hlex hS h
  refine wp_region_any hm ?_
  have := wpAny_of_headS (Q := NP Q) (g := l.toArray.size - n) (fun listed a' w' hL => by
    have := wpAny_of_seq (md := .any) (Q' := NP Q) (l.drop n) n listed a' w' (fun j => by simp [List.getElem?_drop]) (by rw [hdl]; exact hL.1) hL.2
    rwa [hdl] at this) _ _ _ _ H
  rw [hol, show n + (l.toArray.size - n) = l.toArray.size by omega] at this
  exact this
end

variable {P : Program} {N : NN} {Q : Exit → Act → World → Prop} {S : World → Prop} {σ : Env} {w w' : World} {ops rest : List Oper} {L : Act → World → Prop} {r : List (Nat × Bool)}
  {d : Tmp} {ty : TypeId} {pos : String} {af : Array Edge} {g : Option (Nat × Bool)} {i : Nat}
/-- What is left of the head's order. -/
def RX (P : Program) (N : NN) (ops : List Oper) (Q : Exit → Act → World → Prop) (S : World → Prop) (n : Nat) (r : List (Nat × Bool)) (σ : Env) (w : World) : Prop :=
  HW P ops.toArray Q S (fun a' w' => wpList P ops.toArray Q (ops.drop n) a' w') r (Fr N σ) w
variable {n : Nat}
theorem draw_ {id : Nat} {l : List Oper} (n : Nat) (order : List (Nat × Bool)) (S : World → Prop) (hm : P.follows .mixedOrders = true) (hB : heldB .any l.toArray n order = true)
    (hS : ∀ w', w' = { w with drawn := w.drawn + 1 } → S w') (h : ∀ w', w' = { w with drawn := w.drawn + 1 } → RX P N l (NP Q) S n order σ w') : (Code.region id l.toArray true).wp P Q (Fr N σ) w :=
  wp_region_heldTail n order S hm hB (hS _ rfl) (h _ rfl)
theorem rx_nil {l : List Oper} (hl : ops.drop n = l) (h : RL P N ops Q l σ w) : RX P N ops Q S n [] σ w := by
  subst hl; exact h
theorem rx_val {op : Op} {v : Value} (ho : ops[i]? = some ⟨some d, op, ty, pos, af, g⟩) (hg : want N ops σ g = true) (h : ∀ w, S w → (execOp (ev N σ) ⟨some d, op, ty, pos, af, g⟩).run P w = .ok (.value v) w)
    (k : RX P N ops Q S n r (upd σ d v) w) : RX P N ops Q S n ((i, false) :: r) σ w := by
  refine ⟨_, v, by simpa using ho, .inl ⟨by rw [want_eq]; exact hg, fun w hS => by rw [eval_Fr']; exact h w hS⟩, ?_⟩
  show HW _ _ _ _ _ _ ((Fr N σ).put (some d) v) _
  rw [put_some]; exact k
theorem rx_off {op : Op} (ho : ops[i]? = some ⟨some d, op, ty, pos, af, g⟩) (hg : want N ops σ g = false)
    (k : RX P N ops Q S n r (upd σ d undef) w) : RX P N ops Q S n ((i, false) :: r) σ w := by
  refine ⟨_, undef, by simpa using ho, .inr ⟨by rw [want_eq]; exact hg, rfl⟩, ?_⟩
  show HW _ _ _ _ _ _ ((Fr N σ).put (some d) undef) _
  rw [put_some]; exact k
theorem wp_kq {K : Env → World → Prop} {o : Oper} {a : Act} {next : Act → World → Prop} (h : o.wp P a w next (KQ N K Q)) : o.wp P a w next Q := by
  unfold Oper.wp at *
  generalize (execOp a.eval o).run P w = r at *
  cases r with
  | ok m w' => cases m <;> exact h
  | halt x w' => cases x <;> exact h
/-- An operation of the head that keeps S: as in a region of it alone. -/
theorem rx_eff {o : Oper} (ho : ops[i]? = some o)
    (h : ∀ K : Env → World → Prop, (∀ σ' w', S w' → RX P N ops Q S n r σ' w' → K σ' w') → RL P N ops (KQ N K Q) [o] σ w) : RX P N ops Q S n ((i, true) :: r) σ w := by
  have this := h (fun σ' w' => S w' ∧ RX P N ops Q S n r σ' w') (fun _ _ a b => ⟨a, b⟩)
  unfold RL wpList at this
  have h2 : wpOp P ops.toArray Q i (wpList P ops.toArray (KQ N (fun σ' w' => S w' ∧ RX P N ops Q S n r σ' w') Q) []) (Fr N σ) w := by
    unfold wpOp
    simp only [List.getElem?_toArray, ho]
    split
    · rename_i hw
      rw [if_pos hw] at this
      rcases this with h1 | h1
      · exact .inl (wp_kq h1)
      · exact .inr h1
    · rename_i hw
      rw [if_neg hw] at this
      exact this
  simp only [RX, HW]
  refine wpOp_mono ?_ h2
  rintro a w ⟨σ', rfl, h3⟩
  exact h3
theorem rx_load {t : TypeId} {x : Operand} {A : Addr} {v : Value} (ho : ops[i]? = some ⟨some d, .load t x, ty, pos, af, g⟩) (hT : VarT P t) (hg : want N ops σ g = true) (hx : ev N σ x = .pointer (some A)) (hc : ∀ w, S w → w.cell? A = some v)
    (k : RX P N ops Q S n r (upd σ d v) w) : RX P N ops Q S n ((i, false) :: r) σ w :=
  rx_val ho hg (fun w hS => by simp [execOp, hx, Instr.loadAt, Instr.sureAddr, loadVar, hT.noAgg, hc w hS]) k
end Go.Eng
