/- The frame of a call as a function from slots to values, and rules that carry one operation of the translated code at a time over it. Nothing here names a program. Rules for single operations over the frame of Eng1: numbers, tests, moves, cells, slices. Nothing here names a program. Rules over the frame of Eng1 for memory: blocks of cells, slices, calls. Nothing here names a program. A region whose order is drawn: a head of operations that yield what they yield in every world that meets S, or (calls) keep S, and a tail in a forced order. More rules over the frame of Eng1: a slice against nil, clear. Nothing here names a program. The rules of Eng2 and Eng3 for operations that only compute, once more, for the head of a region whose order is drawn. Written by gen5.py out of Eng2 and Eng3. How lists read in memory. Nothing here names a program. A slice of the call's own that may begin within its block (a queue): taken from the front, appended to at the back. Nothing here names a program. A scope in which the run jumps back to a label. Nothing here names a program. -/
import Derived.WalkKit
import Derived.ProofKit
import Derived.StillTail
import Derived.Deep.Quiet
import Derived.RangeFuncLeaves
import Derived.RangeFuncRecord
import Derived.OrdersHeld
import Derived.ScopeJumps
set_option linter.unusedVariables false
set_option linter.unusedSimpArgs false
namespace Go.Eng
open Go Go.RowKit

/-! ## The frame -/
abbrev Env := Nat → Value
def upd (σ : Env) (d : Nat) (v : Value) : Env := fun j => bif Nat.beq j d then v else σ j
def ent (l : List Value) : Env := fun j => l.getD j undef
/-- How many slots a call has, and what it will do when it comes back. -/
structure NN where
  n : Nat
  ds : List Deferred
def Fr (N : NN) (σ : Env) : Act := ⟨Array.ofFn (fun j : Fin N.n => σ j), N.ds⟩
def ev (N : NN) (σ : Env) : Operand → Value
  | .tmp t => bif Nat.blt t N.n then σ t else undef
  | .const v => v
  | .global g => .pointer (some ⟨g, 0, none⟩)
  | .func f => .func (.func f) #[] #[]

theorem upd_same (σ : Env) (d : Nat) (v : Value) : upd σ d v d = v := by simp [upd]
theorem upd_ne (σ : Env) (d j : Nat) (v : Value) (h : j ≠ d) : upd σ d v j = σ j := by
  have : Nat.beq j d = false := by
    cases hb : Nat.beq j d with
    | false => rfl
    | true => exact absurd (Nat.eq_of_beq_eq_true hb) h
  simp [upd, this]

theorem getD_Fr (N : NN) (σ : Env) (t : Nat) : (Fr N σ).tmps.getD t undef = bif Nat.blt t N.n then σ t else undef := by
  by_cases h : t < N.n
  · have hb : Nat.blt t N.n = true := by simpa [Nat.blt_eq] using h
    simp [Fr, hb, h]
  · have hb : Nat.blt t N.n = false := by
      cases hb : Nat.blt t N.n with
      | false => rfl
      | true => exact absurd (by simpa [Nat.blt_eq] using hb) h
    simp [Fr, hb, h]
theorem eval_Fr (N : NN) (σ : Env) (x : Operand) : (Fr N σ).eval x = ev N σ x := by
  cases x with
  | tmp t => exact getD_Fr N σ t
  | _ => rfl
theorem eval_Fr' (N : NN) (σ : Env) : (Fr N σ).eval = ev N σ := funext (eval_Fr N σ)
theorem put_some (N : NN) (σ : Env) (d : Nat) (v : Value) : (Fr N σ).put (some d) v = Fr N (upd σ d v) := by
  unfold Act.put Fr
  simp only [Act.mk.injEq, and_true]
  apply Array.ext
  · simp
  · intro i h1 h2
    simp only [Array.size_ofFn] at h2
    by_cases h : d = i
    · subst h; simp [upd]
    · have hb : Nat.beq i d = false := by
        cases hb : Nat.beq i d with
        | false => rfl
        | true => exact absurd (Nat.eq_of_beq_eq_true hb).symm h
      rw [Array.getElem_setIfInBounds_ne (by simpa using h2) h]
      simp [upd, hb]
theorem put_none (N : NN) (σ : Env) (v : Value) : (Fr N σ).put none v = Fr N σ := rfl

theorem Fr_ext {N : NN} {σ σ' : Env} (h : ∀ j, σ j = σ' j) : Fr N σ = Fr N σ' := by
  have : σ = σ' := funext h
  rw [this]

/-! ## Guards -/
def want (N : NN) (ops : List Oper) (σ : Env) : Option (Nat × Bool) → Bool
  | none => true
  | some (j, b) => match (ops[j]?).bind (·.dst) with
    | some d => match ev N σ (.tmp d) with
      | .bool c => c == b
      | _ => false
    | none => false
theorem want_eq (N : NN) (ops : List Oper) (σ : Env) (o : Oper) : Region.wanted o (yielded ops.toArray (Fr N σ).tmps) = want N ops σ o.guard := by
  unfold Region.wanted want
  cases o.guard with
  | none => rfl
  | some g =>
    obtain ⟨j, b⟩ := g
    simp only [yielded, List.getElem?_toArray]
    cases hd : (ops[j]?).bind (·.dst) with
    | none => simp
    | some d =>
      simp only [Option.bind_some, ev]
      by_cases h : d < N.n
      · have hb : Nat.blt d N.n = true := by simpa [Nat.blt_eq] using h
        simp only [hb, cond_true, Fr, Array.getElem?_ofFn, h, dite_true]
        cases σ d <;> simp
      · have hb : Nat.blt d N.n = false := by
          cases hb : Nat.blt d N.n with
          | false => rfl
          | true => exact absurd (by simpa [Nat.blt_eq] using hb) h
        simp [hb, Fr, h, undef]

/-! ## Regions -/
variable {P : Program} {N : NN} {Q : Exit → Act → World → Prop} {σ : Env} {w w' : World} {ops rest : List Oper}

/-- The operations that are still to be carried out, of a region's list 'ops'. -/
def RL (P : Program) (N : NN) (ops : List Oper) (Q : Exit → Act → World → Prop) (l : List Oper) (σ : Env) (w : World) : Prop :=
  wpList P ops.toArray Q l (Fr N σ) w

theorem region_ {id : Nat} {l : List Oper} (h : RL P N l Q l σ w) : (Code.region id l.toArray false).wp P Q (Fr N σ) w := wp_region_lit h
theorem rl_nil (h : Q .normal (Fr N σ) w) : RL P N ops Q [] σ w := h

theorem rl_val {d : Tmp} {op : Op} {ty : TypeId} {pos : String} {af : Array Edge} {g : Option (Nat × Bool)} {v : Value}
    (hg : want N ops σ g = true) (h : (execOp (ev N σ) ⟨some d, op, ty, pos, af, g⟩).run P w = .ok (.value v) w')
    (k : RL P N ops Q rest (upd σ d v) w') : RL P N ops Q (⟨some d, op, ty, pos, af, g⟩ :: rest) σ w := by
  unfold RL wpList
  rw [want_eq, if_pos hg]
  refine .inl ?_
  unfold Oper.wp
  rw [eval_Fr', h]
  show wpList _ _ _ _ ((Fr N σ).put (some d) v) w'
  rw [put_some]; exact k
theorem rl_unit {op : Op} {ty : TypeId} {pos : String} {af : Array Edge} {g : Option (Nat × Bool)}
    (hg : want N ops σ g = true) (h : (execOp (ev N σ) ⟨none, op, ty, pos, af, g⟩).run P w = .ok .skip w')
    (k : RL P N ops Q rest σ w') : RL P N ops Q (⟨none, op, ty, pos, af, g⟩ :: rest) σ w := by
  unfold RL wpList
  rw [want_eq, if_pos hg]
  refine .inl ?_
  unfold Oper.wp
  rw [eval_Fr', h]
  exact k
theorem rl_val_none {op : Op} {ty : TypeId} {pos : String} {af : Array Edge} {g : Option (Nat × Bool)} {v : Value}
    (hg : want N ops σ g = true) (h : (execOp (ev N σ) ⟨none, op, ty, pos, af, g⟩).run P w = .ok (.value v) w')
    (k : RL P N ops Q rest σ w') : RL P N ops Q (⟨none, op, ty, pos, af, g⟩ :: rest) σ w := by
  unfold RL wpList
  rw [want_eq, if_pos hg]
  refine .inl ?_
  unfold Oper.wp
  rw [eval_Fr', h]
  exact k
/-- An operation whose guard says no. -/
theorem rl_off {d : Tmp} {op : Op} {ty : TypeId} {pos : String} {af : Array Edge} {g : Option (Nat × Bool)}
    (hg : want N ops σ g = false) (k : RL P N ops Q rest (upd σ d undef) w) : RL P N ops Q (⟨some d, op, ty, pos, af, g⟩ :: rest) σ w := by
  unfold RL wpList
  rw [want_eq, if_neg (by simp [hg]), put_some]; exact k
theorem rl_off_none {op : Op} {ty : TypeId} {pos : String} {af : Array Edge} {g : Option (Nat × Bool)}
    (hg : want N ops σ g = false) (k : RL P N ops Q rest σ w) : RL P N ops Q (⟨none, op, ty, pos, af, g⟩ :: rest) σ w := by
  unfold RL wpList
  rw [want_eq, if_neg (by simp [hg]), put_none]; exact k

/-- A call of a function that has a body, by its contract. -/
def CallsOk (P : Program) (f : FuncId) (args : Array Value) (w : World) (Post : Value → World → Prop) : Prop :=
  Calls P f args w fun e w' => ∃ v, e = .returned v ∧ Post v w'
theorem CallsOk.mono {f : FuncId} {args : Array Value} {Post Post' : Value → World → Prop} (h : CallsOk P f args w Post) (hp : ∀ v w', Post v w' → Post' v w') : CallsOk P f args w Post' :=
  Calls.mono h fun _ _ ⟨v, he, hq⟩ => ⟨v, he, hp _ _ hq⟩
theorem rl_call {d : Tmp} {op : Op} {ty : TypeId} {pos : String} {af : Array Edge} {g : Option (Nat × Bool)} {f : FuncId} {args : Array Value} {Post : Value → World → Prop}
    (hg : want N ops σ g = true) (h : (execOp (ev N σ) ⟨some d, op, ty, pos, af, g⟩).run P w = .ok (.enter f args) w')
    (hc : CallsOk P f args w' Post)
    (k : ∀ v w'', Post v w'' → RL P N ops Q rest (upd σ d v) w'') : RL P N ops Q (⟨some d, op, ty, pos, af, g⟩ :: rest) σ w := by
  unfold RL wpList
  rw [want_eq, if_pos hg]
  refine .inl ?_
  unfold Oper.wp
  rw [eval_Fr', h]
  refine Calls.mono hc ?_
  rintro e w'' ⟨v, rfl, hq⟩
  show wpList _ _ _ _ ((Fr N σ).put (some d) v) w''
  rw [put_some]; exact k v w'' hq
theorem rl_call_none {op : Op} {ty : TypeId} {pos : String} {af : Array Edge} {g : Option (Nat × Bool)} {f : FuncId} {args : Array Value} {Post : Value → World → Prop}
    (hg : want N ops σ g = true) (h : (execOp (ev N σ) ⟨none, op, ty, pos, af, g⟩).run P w = .ok (.enter f args) w')
    (hc : CallsOk P f args w' Post)
    (k : ∀ v w'', Post v w'' → RL P N ops Q rest σ w'') : RL P N ops Q (⟨none, op, ty, pos, af, g⟩ :: rest) σ w := by
  unfold RL wpList
  rw [want_eq, if_pos hg]
  refine .inl ?_
  unfold Oper.wp
  rw [eval_Fr', h]
  refine Calls.mono hc ?_
  rintro e w'' ⟨v, rfl, hq⟩
  exact k v w'' hq

/-! ## Control -/
/-- What stands behind, under a name. -/
def KQ (N : NN) (K : Env → World → Prop) (Q : Exit → Act → World → Prop) : Exit → Act → World → Prop :=
  Exit.then (fun a w => ∃ σ, a = Fr N σ ∧ K σ w) Q
theorem kq_normal {K : Env → World → Prop} (h : K σ w) : KQ N K Q .normal (Fr N σ) w := ⟨σ, rfl, h⟩
/-- What stands behind, as code. -/
def SQ (P : Program) (y : Code) (Q : Exit → Act → World → Prop) : Exit → Act → World → Prop := Exit.then (y.wp P Q) Q
theorem seq_ {x y : Code} (h : x.wp P (SQ P y Q) (Fr N σ) w) : (Code.seq x y).wp P Q (Fr N σ) w := wp_seq h
theorem sq_normal {y : Code} {a : Act} (h : y.wp P Q a w) : SQ P y Q .normal a w := h
theorem sq_ret {y : Code} {a : Act} (h : Q .ret a w) : SQ P y Q .ret a w := h
theorem sq_exit {y : Code} {a : Act} {id : Nat} (h : Q (.exit id) a w) : SQ P y Q (.exit id) a w := h
theorem sq_goto {y : Code} {a : Act} {l : Nat} (h : Q (.goto l) a w) : SQ P y Q (.goto l) a w := h
theorem cond_t {c : Operand} {x y : Code} (hc : ev N σ c = .bool true) (h : x.wp P Q (Fr N σ) w) : (Code.cond c x y).wp P Q (Fr N σ) w :=
  wp_cond_true (by rw [eval_Fr]; exact hc) h
theorem cond_f {c : Operand} {x y : Code} (hc : ev N σ c = .bool false) (h : y.wp P Q (Fr N σ) w) : (Code.cond c x y).wp P Q (Fr N σ) w :=
  wp_cond_false (by rw [eval_Fr]; exact hc) h
theorem cond_b {c : Operand} {x y : Code} {b : Bool} (hc : ev N σ c = .bool b) (h : b = true → x.wp P Q (Fr N σ) w) (h' : b = false → y.wp P Q (Fr N σ) w) : (Code.cond c x y).wp P Q (Fr N σ) w := by
  cases b
  · exact cond_f hc (h' rfl)
  · exact cond_t hc (h rfl)
theorem skip_ (h : Q .normal (Fr N σ) w) : Code.skip.wp P Q (Fr N σ) w := wp_skip h
theorem ret_ (h : Q .ret (Fr N σ) w) : Code.ret.wp P Q (Fr N σ) w := wp_ret h
theorem exit_ {id : Nat} (h : Q (.exit id) (Fr N σ) w) : (Code.exit id).wp P Q (Fr N σ) w := wp_exit h
theorem block_ {id : Nat} {c : Code} (h : c.wp P (Exit.inBlock id Q) (Fr N σ) w) : (Code.block id c).wp P Q (Fr N σ) w := wp_block h
theorem inBlock_normal {id : Nat} {a : Act} (h : Q .normal a w) : Exit.inBlock id Q .normal a w := h
theorem inBlock_ret {id : Nat} {a : Act} (h : Q .ret a w) : Exit.inBlock id Q .ret a w := h
theorem inBlock_exit {id : Nat} {a : Act} (h : Q .normal a w) : Exit.inBlock id Q (.exit id) a w := by simp [Exit.inBlock, h]
theorem inBlock_exit_ne {id id' : Nat} {a : Act} (hne : Nat.beq id' id = false) (h : Q (.exit id') a w) : Exit.inBlock id Q (.exit id') a w := by
  have : id' ≠ id := fun e => by rw [e] at hne; simp at hne
  simp [Exit.inBlock, h, this]
theorem kq_ret {K : Env → World → Prop} {a : Act} (h : Q .ret a w) : KQ N K Q .ret a w := h
theorem kq_exit {K : Env → World → Prop} {a : Act} {id : Nat} (h : Q (.exit id) a w) : KQ N K Q (.exit id) a w := h
theorem kq_goto {K : Env → World → Prop} {a : Act} {l : Nat} (h : Q (.goto l) a w) : KQ N K Q (.goto l) a w := h

/-! ## Loops -/
def inI : List (Nat × Nat) → Nat → Bool
  | [], _ => false
  | (a, b) :: r, j => (Nat.ble a j && Nat.blt j b) || inI r j
def ov (m : List (Nat × Nat)) (τ σ : Env) : Env := fun j => bif inI m j then τ j else σ j
def Agree (m : List (Nat × Nat)) (σ σ' : Env) : Prop := ∀ j, inI m j = false → σ' j = σ j
theorem Agree.refl (m : List (Nat × Nat)) (σ : Env) : Agree m σ σ := fun _ _ => rfl
theorem Agree.upd {m : List (Nat × Nat)} {σ σ' : Env} {d : Nat} {v : Value} (hd : inI m d = true) (h : Agree m σ σ') : Agree m σ (Eng.upd σ' d v) := by
  intro j hj
  rw [upd_ne _ _ _ _ (by rintro rfl; rw [hd] at hj; cases hj)]
  exact h j hj
theorem Agree.ov {m : List (Nat × Nat)} {σ τ : Env} : Agree m σ (Eng.ov m τ σ) := fun j hj => by simp [Eng.ov, hj]
def subI (l m : List (Nat × Nat)) : Bool := l.all fun a => m.any fun b => Nat.ble b.1 a.1 && Nat.ble a.2 b.2
theorem subI_spec {l m : List (Nat × Nat)} (h : subI l m = true) (j : Nat) (hj : inI l j = true) : inI m j = true := by
  have key : ∀ (m : List (Nat × Nat)) (a : Nat × Nat), (m.any fun b => Nat.ble b.1 a.1 && Nat.ble a.2 b.2) = true → a.1 ≤ j → j < a.2 → inI m j = true := by
    intro m a hm h1 h2
    induction m with
    | nil => simp at hm
    | cons b r ih =>
      obtain ⟨x, y⟩ := b
      simp only [List.any_cons, Bool.or_eq_true, Bool.and_eq_true, Nat.ble_eq] at hm
      simp only [inI, Bool.or_eq_true, Bool.and_eq_true, Nat.ble_eq, Nat.blt_eq]
      rcases hm with hm | hm
      · left; omega
      · right; exact ih (by simpa using hm)
  induction l with
  | nil => simp [inI] at hj
  | cons a r ih =>
    obtain ⟨x, y⟩ := a
    simp only [subI, List.all_cons, Bool.and_eq_true] at h
    simp only [inI, Bool.or_eq_true, Bool.and_eq_true, Nat.ble_eq, Nat.blt_eq] at hj
    rcases hj with hj | hj
    · exact key m (x, y) h.1 hj.1 hj.2
    · exact ih h.2 hj
theorem Agree.ovs {l m : List (Nat × Nat)} {σ σ' τ : Env} (hs : subI l m = true) (h : Agree m σ σ') : Agree m σ (Eng.ov l τ σ') := by
  intro j hj
  have : inI l j = false := by
    cases hl : inI l j with
    | false => rfl
    | true => rw [subI_spec hs j hl] at hj; cases hj
  simp only [Eng.ov, this, cond_false]
  exact h j hj

/-- A loop: what holds at each round's head is said of the frame as a whole. -/
theorem loop_any {c : Code} (I : Nat → Env → World → Prop) (m0 : Nat) (h0 : I m0 σ w)
    (round : ∀ m σ w, I m σ w → ∀ K : Env → World → Prop, (∀ m' σ' w', m' < m → I m' σ' w' → K σ' w') → c.wp P (KQ N K Q) (Fr N σ) w) : (Code.loop c).wp P Q (Fr N σ) w := by
  classical
  have key : ∀ (a : Act) (w : World), (∃ m σ, a = Fr N σ ∧ I m σ w) → ∃ m σ, a = Fr N σ ∧ I m σ w ∧ ∀ m', m' < m → ¬ ∃ σ, a = Fr N σ ∧ I m' σ w := by
    intro a w ⟨m, σ, ha, hI⟩
    induction m using Nat.strongRecOn generalizing σ with
    | _ m ih =>
      by_cases hx : ∃ m', m' < m ∧ ∃ σ, a = Fr N σ ∧ I m' σ w
      · obtain ⟨m', hlt, σ', ha', hI'⟩ := hx
        exact ih m' hlt σ' ha' hI'
      · exact ⟨m, σ, ha, hI, fun m' hlt hh => hx ⟨m', hlt, hh⟩⟩
  let μ : Act → World → Nat := fun a w => if h : ∃ m σ, a = Fr N σ ∧ I m σ w then (key a w h).choose else 0
  refine wp_loop (fun a w => ∃ m σ, a = Fr N σ ∧ I m σ w) μ ⟨m0, σ, rfl, h0⟩ ?_
  intro a w hI
  obtain ⟨σ1, ha, hI1, hmin⟩ := (key a w hI).choose_spec
  have hμ : μ a w = (key a w hI).choose := by simp only [μ]; rw [dif_pos hI]
  subst ha
  have hr := round _ σ1 w hI1 (fun σ' w' => (∃ m σ, Fr N σ' = Fr N σ ∧ I m σ w') ∧ μ (Fr N σ') w' < μ (Fr N σ1) w) ?_
  · refine Code.wp_mono ?_ hr
    intro e a w' hq
    cases e <;> first | exact hq | (obtain ⟨σ', rfl, hk⟩ := hq; exact hk)
  · intro m' σ' w' hlt hI'
    have hex : ∃ m σ, Fr N σ' = Fr N σ ∧ I m σ w' := ⟨m', σ', rfl, hI'⟩
    refine ⟨hex, ?_⟩
    obtain ⟨σ2, _, _, hmin2⟩ := (key _ w' hex).choose_spec
    have h2 : μ (Fr N σ') w' = (key _ w' hex).choose := by simp only [μ]; rw [dif_pos hex]
    rw [hμ, h2]
    rcases Nat.lt_or_ge m' (key (Fr N σ') w' hex).choose with h3 | h3
    · exact absurd ⟨σ', rfl, hI'⟩ (hmin2 m' h3)
    · omega

theorem upd_self {σ : Env} {s : Nat} {v : Value} (h : σ s = v) : upd σ s v = σ := by
  funext j
  by_cases hj : j = s
  · subst hj; rw [upd_same, h]
  · rw [upd_ne _ _ _ _ hj]
theorem ov_self {m : List (Nat × Nat)} {σ σ' : Env} (h : Agree m σ σ') : ov m σ' σ = σ' := by
  funext j
  cases hj : inI m j with
  | true => simp [ov, hj]
  | false => simp [ov, hj, h j hj]

theorem loop0 {c : Code} (ms : List (Nat × Nat)) (I : Nat → World → Prop) (m0 : Nat) (h0 : I m0 w)
    (round : ∀ m τ w, I m w → ∀ K : Env → World → Prop, (∀ m' σ' w', m' < m → Agree ms σ σ' → I m' w' → K σ' w') →
      c.wp P (KQ N K Q) (Fr N (ov ms τ σ)) w) : (Code.loop c).wp P Q (Fr N σ) w := by
  refine loop_any (fun m σ' w => Agree ms σ σ' ∧ I m w) m0 ⟨Agree.refl _ _, h0⟩ ?_
  rintro m σ1 w ⟨ha, hI⟩ K hK
  have := round m σ1 w hI K (fun m' σ' w' h1 h2 h3 => hK m' σ' w' h1 ⟨h2, h3⟩)
  rwa [ov_self ha] at this
theorem loop1 {c : Code} (ms : List (Nat × Nat)) (s1 : Nat) (I : Nat → Value → World → Prop) (m0 : Nat) (h0 : I m0 (σ s1) w)
    (round : ∀ m τ v1 w, I m v1 w → ∀ K : Env → World → Prop, (∀ m' σ' w', m' < m → Agree ms σ σ' → I m' (σ' s1) w' → K σ' w') →
      c.wp P (KQ N K Q) (Fr N (upd (ov ms τ σ) s1 v1)) w) : (Code.loop c).wp P Q (Fr N σ) w := by
  refine loop_any (fun m σ' w => Agree ms σ σ' ∧ I m (σ' s1) w) m0 ⟨Agree.refl _ _, h0⟩ ?_
  rintro m σ1 w ⟨ha, hI⟩ K hK
  have := round m σ1 _ w hI K (fun m' σ' w' h1 h2 h3 => hK m' σ' w' h1 ⟨h2, h3⟩)
  rwa [ov_self ha, upd_self rfl] at this
theorem loop2 {c : Code} (ms : List (Nat × Nat)) (s1 s2 : Nat) (I : Nat → Value → Value → World → Prop) (m0 : Nat) (h0 : I m0 (σ s1) (σ s2) w)
    (round : ∀ m τ v1 v2 w, I m v1 v2 w → ∀ K : Env → World → Prop, (∀ m' σ' w', m' < m → Agree ms σ σ' → I m' (σ' s1) (σ' s2) w' → K σ' w') →
      c.wp P (KQ N K Q) (Fr N (upd (upd (ov ms τ σ) s1 v1) s2 v2)) w) : (Code.loop c).wp P Q (Fr N σ) w := by
  refine loop_any (fun m σ' w => Agree ms σ σ' ∧ I m (σ' s1) (σ' s2) w) m0 ⟨Agree.refl _ _, h0⟩ ?_
  rintro m σ1 w ⟨ha, hI⟩ K hK
  have := round m σ1 _ _ w hI K (fun m' σ' w' h1 h2 h3 => hK m' σ' w' h1 ⟨h2, h3⟩)
  rwa [ov_self ha, upd_self rfl, upd_self rfl] at this
theorem loop3 {c : Code} (ms : List (Nat × Nat)) (s1 s2 s3 : Nat) (I : Nat → Value → Value → Value → World → Prop) (m0 : Nat) (h0 : I m0 (σ s1) (σ s2) (σ s3) w)
    (round : ∀ m τ v1 v2 v3 w, I m v1 v2 v3 w → ∀ K : Env → World → Prop, (∀ m' σ' w', m' < m → Agree ms σ σ' → I m' (σ' s1) (σ' s2) (σ' s3) w' → K σ' w') →
      c.wp P (KQ N K Q) (Fr N (upd (upd (upd (ov ms τ σ) s1 v1) s2 v2) s3 v3)) w) : (Code.loop c).wp P Q (Fr N σ) w := by
  refine loop_any (fun m σ' w => Agree ms σ σ' ∧ I m (σ' s1) (σ' s2) (σ' s3) w) m0 ⟨Agree.refl _ _, h0⟩ ?_
  rintro m σ1 w ⟨ha, hI⟩ K hK
  have := round m σ1 _ _ _ w hI K (fun m' σ' w' h1 h2 h3 => hK m' σ' w' h1 ⟨h2, h3⟩)
  rwa [ov_self ha, upd_self rfl, upd_self rfl, upd_self rfl] at this
theorem loop4 {c : Code} (ms : List (Nat × Nat)) (s1 s2 s3 s4 : Nat) (I : Nat → Value → Value → Value → Value → World → Prop) (m0 : Nat) (h0 : I m0 (σ s1) (σ s2) (σ s3) (σ s4) w)
    (round : ∀ m τ v1 v2 v3 v4 w, I m v1 v2 v3 v4 w → ∀ K : Env → World → Prop, (∀ m' σ' w', m' < m → Agree ms σ σ' → I m' (σ' s1) (σ' s2) (σ' s3) (σ' s4) w' → K σ' w') →
      c.wp P (KQ N K Q) (Fr N (upd (upd (upd (upd (ov ms τ σ) s1 v1) s2 v2) s3 v3) s4 v4)) w) : (Code.loop c).wp P Q (Fr N σ) w := by
  refine loop_any (fun m σ' w => Agree ms σ σ' ∧ I m (σ' s1) (σ' s2) (σ' s3) (σ' s4) w) m0 ⟨Agree.refl _ _, h0⟩ ?_
  rintro m σ1 w ⟨ha, hI⟩ K hK
  have := round m σ1 _ _ _ _ w hI K (fun m' σ' w' h1 h2 h3 => hK m' σ' w' h1 ⟨h2, h3⟩)
  rwa [ov_self ha, upd_self rfl, upd_self rfl, upd_self rfl, upd_self rfl] at this

/-! ## Entering, and coming back -/
/-- What is to be shown where the body ends: the results' value, and the post. -/
def BP (P : Program) (fn : Func) (Post : Value → World → Prop) : Exit → Act → World → Prop := bodyPostM Fence.wide 0 P fn fun e w => ∃ v, e = .returned v ∧ Post v w
theorem enter_ {N : Nat} {f : FuncId} {fn : Func} {c : Code} {args : List Value} {Post : Value → World → Prop} (hf : P.funcs[f]? = some fn) (hb : fn.body = some c) (hn : fn.ntmps = N) (ha : Nat.ble args.length N = true)
    (h : c.wp P (BP P fn Post) (Fr ⟨N, []⟩ (ent args)) w) : CallsOk P f args.toArray w Post := by
  refine callsIn_wide.1 (callsIn_of_wp_marks (n := 0) hf hb trivial (wpIn_wide.2 ?_))
  have e : ({ tmps := args.toArray ++ Array.replicate (fn.ntmps - args.toArray.size) undef, defers := [] } : Act) = Fr ⟨N, []⟩ (ent args) := by
    unfold Fr
    simp only [Act.mk.injEq, and_true]
    have hle : args.length ≤ N := by simpa using ha
    apply Array.ext
    · simp [hn]; omega
    · intro i h1 h2
      simp only [Array.size_ofFn] at h2
      simp only [Array.getElem_append, List.size_toArray, List.getElem_toArray, Array.getElem_replicate, Array.getElem_ofFn, ent, List.getD_eq_getElem?_getD]
      split
      · rename_i hlt; simp [List.getElem?_eq_getElem hlt]
      · rename_i hlt; rw [List.getElem?_eq_none (by omega)]; rfl
  rw [e]; exact h
/-- How a call may end. -/
def isEnd : Exit → Bool
  | .normal => true
  | .ret => true
  | _ => false
variable {M : Nat}
theorem bp_res {fn : Func} {Post : Value → World → Prop} {e : Exit} {v : Value} (he : isEnd e = true) (hr : (results fn (Fr ⟨M, []⟩ σ).tmps).run P w = .ok v w) (h : Post v w) : BP P fn Post e (Fr ⟨M, []⟩ σ) w := by
  cases e <;> first | cases he; done | exact ⟨v, hr, v, rfl, h⟩
/-- Behind a range over a function. -/
theorem bp_mark {fn : Func} {Post : Value → World → Prop} {e : Exit} {v : Value} {D : Nat} (he : isEnd e = true) (hD : w.heap[D]? = some (.deferred (some [])))
    (hr : (results fn (Fr ⟨M, [{ target := .collected D, args := #[] }]⟩ σ).tmps).run P (w.putObj D (.deferred none)) = .ok v (w.putObj D (.deferred none))) (h : Post v (w.putObj D (.deferred none))) :
    BP P fn Post e (Fr ⟨M, [{ target := .collected D, args := #[] }]⟩ σ) w := by
  have k : LeavesInM Fence.wide 0 P fn (Fr ⟨M, [{ target := .collected D, args := #[] }]⟩ σ).tmps (fun e w => ∃ v, e = .returned v ∧ Post v w) [{ target := .collected D, args := #[] }] .returning w :=
    ⟨by simp, .inl ⟨D, _, rfl, run_takeDeferred hD, v, hr, v, rfl, h⟩⟩
  cases e <;> first | cases he; done | exact k
theorem bp_ret1 {fn : Func} {Post : Value → World → Prop} {t : Tmp} {v : Value} (hr : fn.results = #[.tmp t]) (hv : ev ⟨M, []⟩ σ (.tmp t) = v) (h : Post v w) : BP P fn Post .ret (Fr ⟨M, []⟩ σ) w := by
  refine bp_res rfl ?_ h
  rw [results_tmp hr, getD_Fr, ← hv]; rfl
theorem bp_end1 {fn : Func} {Post : Value → World → Prop} {t : Tmp} {v : Value} (hr : fn.results = #[.tmp t]) (hv : ev ⟨M, []⟩ σ (.tmp t) = v) (h : Post v w) : BP P fn Post .normal (Fr ⟨M, []⟩ σ) w := by
  refine bp_res rfl ?_ h
  rw [results_tmp hr, getD_Fr, ← hv]; rfl
theorem bp_ret2 {fn : Func} {Post : Value → World → Prop} {t u : Tmp} {v v' : Value} (hr : fn.results = #[.tmp t, .tmp u]) (hv : ev ⟨M, []⟩ σ (.tmp t) = v) (hv' : ev ⟨M, []⟩ σ (.tmp u) = v') (h : Post (.tuple #[v, v']) w) : BP P fn Post .ret (Fr ⟨M, []⟩ σ) w := by
  refine bp_res rfl ?_ h
  rw [results_tmp2 hr, getD_Fr, getD_Fr, ← hv, ← hv']; rfl
theorem bp_end0 {fn : Func} {Post : Value → World → Prop} (hr : fn.results = #[]) (h : Post (.tuple #[]) w) : BP P fn Post .normal (Fr ⟨M, []⟩ σ) w := by
  refine bp_res rfl ?_ h
  rw [results_none hr]
theorem bp_ret0 {fn : Func} {Post : Value → World → Prop} (hr : fn.results = #[]) (h : Post (.tuple #[]) w) : BP P fn Post .ret (Fr ⟨M, []⟩ σ) w := by
  refine bp_res rfl ?_ h
  rw [results_none hr]
end Go.Eng
set_option linter.unusedVariables false
set_option linter.unusedSimpArgs false
namespace Go.Eng
open Go Go.RowKit
variable {P : Program} {N : NN} {Q : Exit → Act → World → Prop} {σ : Env} {w w' : World} {ops rest : List Oper}
  {d : Tmp} {ty : TypeId} {pos : String} {af : Array Edge} {g : Option (Nat × Bool)}

/-! ## Moves -/
theorem rl_move {x : Operand} {v : Value} (hg : want N ops σ g = true) (hx : ev N σ x = v)
    (k : RL P N ops Q rest (upd σ d v) w) : RL P N ops Q (⟨some d, .move x, ty, pos, af, g⟩ :: rest) σ w :=
  rl_val hg (by simp [execOp, hx]) k
theorem rl_assign {x : Operand} {v : Value} (hg : want N ops σ g = true) (hx : ev N σ x = v)
    (k : RL P N ops Q rest (upd σ d v) w) : RL P N ops Q (⟨some d, .assign x, ty, pos, af, g⟩ :: rest) σ w :=
  rl_val hg (by simp [execOp, hx]) k
theorem rl_pick {c x y : Operand} {b : Bool} {v : Value} (hg : want N ops σ g = true) (hc : ev N σ c = .bool b) (hx : (bif b then ev N σ x else ev N σ y) = v)
    (k : RL P N ops Q rest (upd σ d v) w) : RL P N ops Q (⟨some d, .pick c x y, ty, pos, af, g⟩ :: rest) σ w :=
  rl_val hg (by cases b <;> simp [execOp, hc, asBool] <;> simpa using hx) k

/-! ## Numbers -/
theorem wrap_id {z : Int} (h1 : -9223372036854775808 ≤ z) (h2 : z ≤ 9223372036854775807) : IntKind.i64.wrap z = z := IntWalk.i64_in z ⟨h1, h2⟩
section
variable {x y : Operand} {m n : Int} {t : TypeId}
theorem run_int (op : BinOp) (hx : ev N σ x = .int .i64 m) (hy : ev N σ y = .int .i64 n) (o : Oper) (ho : o.op = .binOp op t x y ty) :
    (execOp (ev N σ) o).run P w = ((do pure (.value (← binOp op t (.int .i64 m) (.int .i64 n))) : Sem Next)).run P w := by
  unfold execOp
  rw [ho]
  simp only [hx, hy]
  simp [eqGuard]
theorem rl_add {t' : TypeId} (hg : want N ops σ g = true) (hx : ev N σ x = .int .i64 m) (hy : ev N σ y = .int .i64 n)
    (h1 : -9223372036854775808 ≤ m + n) (h2 : m + n ≤ 9223372036854775807)
    (k : RL P N ops Q rest (upd σ d (.int .i64 (m + n))) w) : RL P N ops Q (⟨some d, .binOp .add t x y t', ty, pos, af, g⟩ :: rest) σ w :=
  rl_val hg (by rw [run_int .add hx hy _ rfl]; simp [binOp, Op.intArith, wrap_id h1 h2]) k
theorem rl_sub {t' : TypeId} (hg : want N ops σ g = true) (hx : ev N σ x = .int .i64 m) (hy : ev N σ y = .int .i64 n)
    (h1 : -9223372036854775808 ≤ m - n) (h2 : m - n ≤ 9223372036854775807)
    (k : RL P N ops Q rest (upd σ d (.int .i64 (m - n))) w) : RL P N ops Q (⟨some d, .binOp .sub t x y t', ty, pos, af, g⟩ :: rest) σ w :=
  rl_val hg (by rw [run_int .sub hx hy _ rfl]; simp [binOp, Op.intArith, wrap_id h1 h2]) k
theorem rl_mul {t' : TypeId} (hg : want N ops σ g = true) (hx : ev N σ x = .int .i64 m) (hy : ev N σ y = .int .i64 n)
    (h1 : -9223372036854775808 ≤ m * n) (h2 : m * n ≤ 9223372036854775807)
    (k : RL P N ops Q rest (upd σ d (.int .i64 (m * n))) w) : RL P N ops Q (⟨some d, .binOp .mul t x y t', ty, pos, af, g⟩ :: rest) σ w :=
  rl_val hg (by rw [run_int .mul hx hy _ rfl]; simp [binOp, Op.intArith, wrap_id h1 h2]) k
theorem rl_rem {t' : TypeId} (hg : want N ops σ g = true) (hx : ev N σ x = .int .i64 m) (hy : ev N σ y = .int .i64 n) (h1 : 0 ≤ m) (h2 : 0 < n)
    (k : RL P N ops Q rest (upd σ d (.int .i64 (m % n))) w) : RL P N ops Q (⟨some d, .binOp .rem t x y t', ty, pos, af, g⟩ :: rest) σ w :=
  rl_val hg (by
    rw [run_int .rem hx hy _ rfl]
    have : n ≠ 0 := by omega
    simp [binOp, Op.intDiv, this, Int.tmod_eq_emod_of_nonneg h1]) k
theorem rl_quo {t' : TypeId} (hg : want N ops σ g = true) (hx : ev N σ x = .int .i64 m) (hy : ev N σ y = .int .i64 n) (h1 : 0 ≤ m) (h2 : 0 < n) (h3 : m ≤ 9223372036854775807)
    (k : RL P N ops Q rest (upd σ d (.int .i64 (m / n))) w) : RL P N ops Q (⟨some d, .binOp .quo t x y t', ty, pos, af, g⟩ :: rest) σ w :=
  rl_val hg (by
    rw [run_int .quo hx hy _ rfl]
    have hn : n ≠ 0 := by omega
    have h4 : 0 ≤ m / n := Int.ediv_nonneg h1 (by omega)
    have h5 : m / n ≤ m := Int.ediv_le_self _ h1
    simp [binOp, Op.intDiv, hn, Int.tdiv_eq_ediv_of_nonneg h1, wrap_id (z := m / n) (by omega) (by omega)]) k
theorem rl_cmp {t' : TypeId} {b : Bool} (op : BinOp) (hg : want N ops σ g = true) (hx : ev N σ x = .int .i64 m) (hy : ev N σ y = .int .i64 n)
    (hb : ∀ w : World, (binOp op t (.int .i64 m) (.int .i64 n)).run P w = .ok (.bool b) w)
    (k : RL P N ops Q rest (upd σ d (.bool b)) w) : RL P N ops Q (⟨some d, .binOp op t x y t', ty, pos, af, g⟩ :: rest) σ w :=
  rl_val hg (by rw [run_int op hx hy _ rfl]; simp [hb]) k
theorem rl_lss_t {t' : TypeId} (hg : want N ops σ g = true) (hx : ev N σ x = .int .i64 m) (hy : ev N σ y = .int .i64 n) (h : m < n)
    (k : RL P N ops Q rest (upd σ d (.bool true)) w) : RL P N ops Q (⟨some d, .binOp .lss t x y t', ty, pos, af, g⟩ :: rest) σ w :=
  rl_cmp .lss hg hx hy (fun _ => by simp [binOp, Op.intCmp, h]) k
theorem rl_lss_f {t' : TypeId} (hg : want N ops σ g = true) (hx : ev N σ x = .int .i64 m) (hy : ev N σ y = .int .i64 n) (h : n ≤ m)
    (k : RL P N ops Q rest (upd σ d (.bool false)) w) : RL P N ops Q (⟨some d, .binOp .lss t x y t', ty, pos, af, g⟩ :: rest) σ w :=
  rl_cmp .lss hg hx hy (fun _ => by simp [binOp, Op.intCmp]; omega) k
theorem rl_lss {t' : TypeId} (hg : want N ops σ g = true) (hx : ev N σ x = .int .i64 m) (hy : ev N σ y = .int .i64 n)
    (k : RL P N ops Q rest (upd σ d (.bool (decide (m < n)))) w) : RL P N ops Q (⟨some d, .binOp .lss t x y t', ty, pos, af, g⟩ :: rest) σ w :=
  rl_cmp .lss hg hx hy (fun _ => by simp [binOp, Op.intCmp]) k
theorem rl_leq_t {t' : TypeId} (hg : want N ops σ g = true) (hx : ev N σ x = .int .i64 m) (hy : ev N σ y = .int .i64 n) (h : m ≤ n)
    (k : RL P N ops Q rest (upd σ d (.bool true)) w) : RL P N ops Q (⟨some d, .binOp .leq t x y t', ty, pos, af, g⟩ :: rest) σ w :=
  rl_cmp .leq hg hx hy (fun _ => by simp [binOp, Op.intCmp, h]) k
theorem rl_leq_f {t' : TypeId} (hg : want N ops σ g = true) (hx : ev N σ x = .int .i64 m) (hy : ev N σ y = .int .i64 n) (h : n < m)
    (k : RL P N ops Q rest (upd σ d (.bool false)) w) : RL P N ops Q (⟨some d, .binOp .leq t x y t', ty, pos, af, g⟩ :: rest) σ w :=
  rl_cmp .leq hg hx hy (fun _ => by simp [binOp, Op.intCmp]; omega) k
theorem rl_leq {t' : TypeId} (hg : want N ops σ g = true) (hx : ev N σ x = .int .i64 m) (hy : ev N σ y = .int .i64 n)
    (k : RL P N ops Q rest (upd σ d (.bool (decide (m ≤ n)))) w) : RL P N ops Q (⟨some d, .binOp .leq t x y t', ty, pos, af, g⟩ :: rest) σ w :=
  rl_cmp .leq hg hx hy (fun _ => by simp [binOp, Op.intCmp]) k
theorem rl_gtr_t {t' : TypeId} (hg : want N ops σ g = true) (hx : ev N σ x = .int .i64 m) (hy : ev N σ y = .int .i64 n) (h : n < m)
    (k : RL P N ops Q rest (upd σ d (.bool true)) w) : RL P N ops Q (⟨some d, .binOp .gtr t x y t', ty, pos, af, g⟩ :: rest) σ w :=
  rl_cmp .gtr hg hx hy (fun _ => by simp [binOp, Op.intCmp, h]) k
theorem rl_gtr_f {t' : TypeId} (hg : want N ops σ g = true) (hx : ev N σ x = .int .i64 m) (hy : ev N σ y = .int .i64 n) (h : m ≤ n)
    (k : RL P N ops Q rest (upd σ d (.bool false)) w) : RL P N ops Q (⟨some d, .binOp .gtr t x y t', ty, pos, af, g⟩ :: rest) σ w :=
  rl_cmp .gtr hg hx hy (fun _ => by simp [binOp, Op.intCmp]; omega) k
theorem rl_gtr {t' : TypeId} (hg : want N ops σ g = true) (hx : ev N σ x = .int .i64 m) (hy : ev N σ y = .int .i64 n)
    (k : RL P N ops Q rest (upd σ d (.bool (decide (n < m)))) w) : RL P N ops Q (⟨some d, .binOp .gtr t x y t', ty, pos, af, g⟩ :: rest) σ w :=
  rl_cmp .gtr hg hx hy (fun _ => by simp [binOp, Op.intCmp]) k
theorem rl_geq_t {t' : TypeId} (hg : want N ops σ g = true) (hx : ev N σ x = .int .i64 m) (hy : ev N σ y = .int .i64 n) (h : n ≤ m)
    (k : RL P N ops Q rest (upd σ d (.bool true)) w) : RL P N ops Q (⟨some d, .binOp .geq t x y t', ty, pos, af, g⟩ :: rest) σ w :=
  rl_cmp .geq hg hx hy (fun _ => by simp [binOp, Op.intCmp, h]) k
theorem rl_geq_f {t' : TypeId} (hg : want N ops σ g = true) (hx : ev N σ x = .int .i64 m) (hy : ev N σ y = .int .i64 n) (h : m < n)
    (k : RL P N ops Q rest (upd σ d (.bool false)) w) : RL P N ops Q (⟨some d, .binOp .geq t x y t', ty, pos, af, g⟩ :: rest) σ w :=
  rl_cmp .geq hg hx hy (fun _ => by simp [binOp, Op.intCmp]; omega) k
theorem rl_geq {t' : TypeId} (hg : want N ops σ g = true) (hx : ev N σ x = .int .i64 m) (hy : ev N σ y = .int .i64 n)
    (k : RL P N ops Q rest (upd σ d (.bool (decide (n ≤ m)))) w) : RL P N ops Q (⟨some d, .binOp .geq t x y t', ty, pos, af, g⟩ :: rest) σ w :=
  rl_cmp .geq hg hx hy (fun _ => by simp [binOp, Op.intCmp]) k
theorem rl_eql_t {t' : TypeId} (hg : want N ops σ g = true) (hx : ev N σ x = .int .i64 m) (hy : ev N σ y = .int .i64 n) (h : m = n)
    (k : RL P N ops Q rest (upd σ d (.bool true)) w) : RL P N ops Q (⟨some d, .binOp .eql t x y t', ty, pos, af, g⟩ :: rest) σ w :=
  rl_cmp .eql hg hx hy (fun _ => by simp [binOp, Op.intCmp, h]) k
theorem rl_eql_f {t' : TypeId} (hg : want N ops σ g = true) (hx : ev N σ x = .int .i64 m) (hy : ev N σ y = .int .i64 n) (h : m ≠ n)
    (k : RL P N ops Q rest (upd σ d (.bool false)) w) : RL P N ops Q (⟨some d, .binOp .eql t x y t', ty, pos, af, g⟩ :: rest) σ w :=
  rl_cmp .eql hg hx hy (fun _ => by simp [binOp, Op.intCmp, h]) k
theorem rl_eql {t' : TypeId} (hg : want N ops σ g = true) (hx : ev N σ x = .int .i64 m) (hy : ev N σ y = .int .i64 n)
    (k : RL P N ops Q rest (upd σ d (.bool (decide (m = n)))) w) : RL P N ops Q (⟨some d, .binOp .eql t x y t', ty, pos, af, g⟩ :: rest) σ w :=
  rl_cmp .eql hg hx hy (fun _ => by
    simp only [binOp, Op.intCmp, ne_eq, not_true_eq_false, if_false]
    show Result.ok _ _ = _
    rw [show (m == n) = decide (m = n) from rfl]) k
theorem rl_neq_t {t' : TypeId} (hg : want N ops σ g = true) (hx : ev N σ x = .int .i64 m) (hy : ev N σ y = .int .i64 n) (h : m ≠ n)
    (k : RL P N ops Q rest (upd σ d (.bool true)) w) : RL P N ops Q (⟨some d, .binOp .neq t x y t', ty, pos, af, g⟩ :: rest) σ w :=
  rl_cmp .neq hg hx hy (fun _ => by simp [binOp, Op.intCmp, h]) k
theorem rl_neq_f {t' : TypeId} (hg : want N ops σ g = true) (hx : ev N σ x = .int .i64 m) (hy : ev N σ y = .int .i64 n) (h : m = n)
    (k : RL P N ops Q rest (upd σ d (.bool false)) w) : RL P N ops Q (⟨some d, .binOp .neq t x y t', ty, pos, af, g⟩ :: rest) σ w :=
  rl_cmp .neq hg hx hy (fun _ => by simp [binOp, Op.intCmp, h]) k
theorem rl_neq {t' : TypeId} (hg : want N ops σ g = true) (hx : ev N σ x = .int .i64 m) (hy : ev N σ y = .int .i64 n)
    (k : RL P N ops Q rest (upd σ d (.bool (decide (m ≠ n)))) w) : RL P N ops Q (⟨some d, .binOp .neq t x y t', ty, pos, af, g⟩ :: rest) σ w :=
  rl_cmp .neq hg hx hy (fun _ => by
    simp only [binOp, Op.intCmp, ne_eq, not_true_eq_false, if_false]
    show Result.ok _ _ = _
    by_cases h : m = n <;> simp [h]) k
theorem rl_neg (hg : want N ops σ g = true) (hx : ev N σ x = .int .i64 m) (h1 : -9223372036854775808 ≤ -m) (h2 : -m ≤ 9223372036854775807)
    (k : RL P N ops Q rest (upd σ d (.int .i64 (-m))) w) : RL P N ops Q (⟨some d, .unOp .neg t x, ty, pos, af, g⟩ :: rest) σ w :=
  rl_val hg (by simp [execOp, hx, Op.unary, Op.intArith, wrap_id h1 h2]) k
theorem rl_not {b : Bool} (hg : want N ops σ g = true) (hx : ev N σ x = .bool b)
    (k : RL P N ops Q rest (upd σ d (.bool (!b))) w) : RL P N ops Q (⟨some d, .unOp .not t x, ty, pos, af, g⟩ :: rest) σ w :=
  rl_val hg (by simp [execOp, hx, Op.unary]) k
theorem rl_min {ts : Array TypeId} (hg : want N ops σ g = true) (hx : ev N σ x = .int .i64 m) (hy : ev N σ y = .int .i64 n)
    (k : RL P N ops Q rest (upd σ d (.int .i64 (min m n))) w) : RL P N ops Q (⟨some d, .call ⟨.builtin .min, #[x, y], ts⟩, ty, pos, af, g⟩ :: rest) σ w :=
  rl_val hg (by
    have : (if n < m then n else m) = min m n := by split <;> omega
    simp [execOp, resolve, invoke, builtin, hx, hy, run_min_int2, this]) k
theorem rl_max {ts : Array TypeId} (hg : want N ops σ g = true) (hx : ev N σ x = .int .i64 m) (hy : ev N σ y = .int .i64 n)
    (k : RL P N ops Q rest (upd σ d (.int .i64 (max m n))) w) : RL P N ops Q (⟨some d, .call ⟨.builtin .max, #[x, y], ts⟩, ty, pos, af, g⟩ :: rest) σ w :=
  rl_val hg (by
    have : (if m < n then n else m) = max m n := by split <;> omega
    simp [execOp, resolve, invoke, builtin, hx, hy, run_max_int2, this]) k
end
end Go.Eng
set_option linter.unusedVariables false
set_option linter.unusedSimpArgs false
namespace Go.Eng
open Go Go.RowKit
variable {P : Program} {N : NN} {Q : Exit → Act → World → Prop} {σ : Env} {w w' : World} {ops rest : List Oper}
  {d : Tmp} {ty : TypeId} {pos : String} {af : Array Edge} {g : Option (Nat × Bool)}

/-! ## Blocks -/
/-- Block b holds the cells cs, of element type t, none of them frozen. -/
def Blk (w : World) (b : Nat) (cs : List Value) (t : TypeId) : Prop := w.heap[b]? = some (.cells cs.toArray t (0, 0))
/-- Block b alone may have turned. -/
structure Chg (b : Nat) (w w' : World) : Prop where
  os : w'.os = w.os
  tape : w'.tape = w.tape
  output : w'.output = w.output
  size : w.heap.size ≤ w'.heap.size
  block : ∀ k, k < w.heap.size → k ≠ b → w'.heap[k]? = w.heap[k]?
theorem Blk.lt {b : Nat} {cs : List Value} {t : TypeId} (h : Blk w b cs t) : b < w.heap.size := by
  unfold Blk at h
  rcases Nat.lt_or_ge b w.heap.size with hlt | hge
  · exact hlt
  · rw [Array.getElem?_eq_none hge] at h; cases h
theorem Blk.cell {b : Nat} {cs : List Value} {t : TypeId} (h : Blk w b cs t) (i : Nat) : w.cell? ⟨b, i, none⟩ = cs[i]? := by
  unfold Blk at h
  simp [World.cell?, h]
theorem Blk.cell_some {b i : Nat} {cs : List Value} {t : TypeId} {v : Value} (h : Blk w b cs t) (hi : cs[i]? = some v) : w.cell? ⟨b, i, none⟩ = some v := by
  rw [h.cell, hi]
theorem Blk.frozen {b : Nat} {cs : List Value} {t : TypeId} (h : Blk w b cs t) (i : Nat) : w.frozen? ⟨b, i, none⟩ = false := by
  unfold Blk at h
  simp [World.frozen?, h]
theorem Blk.below {b B : Nat} {cs : List Value} {t : TypeId} (h : Blk w b cs t) (hb : Below B w w') (hB : b < B) : Blk w' b cs t := by
  unfold Blk; rw [hb.block b hB]; exact h
theorem Blk.ext {b : Nat} {cs : List Value} {t : TypeId} (h : Blk w b cs t) (hb : Below w.heap.size w w') : Blk w' b cs t := h.below hb h.lt
theorem Blk.chg {b c : Nat} {cs : List Value} {t : TypeId} (h : Blk w c cs t) (hc : Chg b w w') (hne : c ≠ b) : Blk w' c cs t := by
  unfold Blk; rw [hc.block c h.lt hne]; exact h
theorem Blk.inj {b : Nat} {cs cs' : List Value} {t t' : TypeId} (h : Blk w b cs t) (h' : Blk w b cs' t') : cs = cs' := by
  unfold Blk at h h'
  rw [h] at h'
  simp at h'
  exact h'.1
theorem Chg.of_ext (b : Nat) (h : Below w.heap.size w w') : Chg b w w' := ⟨h.os, h.tape, h.output, h.size, fun k hk _ => h.block k hk⟩
theorem Chg.trans {b : Nat} {w'' : World} (h : Chg b w w') (h' : Chg b w' w'') : Chg b w w'' :=
  ⟨h'.os.trans h.os, h'.tape.trans h.tape, h'.output.trans h.output, Nat.le_trans h.size h'.size, fun k hk hne => (h'.block k (Nat.lt_of_lt_of_le hk h.size) hne).trans (h.block k hk hne)⟩
theorem Chg.refl (b : Nat) (w : World) : Chg b w w := ⟨rfl, rfl, rfl, Nat.le_refl _, fun _ _ _ => rfl⟩
theorem below_chg {B b : Nat} {w0 : World} (h : Below B w0 w) (hc : Chg b w w') (hB : B ≤ b) (hs : B ≤ w.heap.size) : Below B w0 w' :=
  h.trans ⟨hc.os, hc.tape, hc.output, hc.size, fun k hk => hc.block k (by omega) (by omega)⟩
theorem below_ext {B : Nat} {w0 : World} (h : Below B w0 w) (he : Below w.heap.size w w') (hs : B ≤ w.heap.size) : Below B w0 w' := h.trans (he.mono hs)
theorem cell_lt {a : Addr} {v : Value} (h : w.cell? a = some v) : a.block < w.heap.size := by
  unfold World.cell? at h
  rcases Nat.lt_or_ge a.block w.heap.size with hlt | hge
  · exact hlt
  · rw [Array.getElem?_eq_none hge] at h; cases h
theorem cell_ext {a : Addr} {v : Value} (h : w.cell? a = some v) (hb : Below w.heap.size w w') : w'.cell? a = some v := by
  rw [hb.cell (cell_lt h)]; exact h
theorem cell_below {a : Addr} {v : Value} {B : Nat} (h : w.cell? a = some v) (hb : Below B w w') (hB : w.heap.size ≤ B) : w'.cell? a = some v := by
  rw [hb.cell (Nat.lt_of_lt_of_le (cell_lt h) hB)]; exact h
theorem cell_chg {a : Addr} {v : Value} {b : Nat} (h : w.cell? a = some v) (hc : Chg b w w') (hne : a.block ≠ b) : w'.cell? a = some v := by
  rw [World.cell?_of_block (hc.block _ (cell_lt h) hne)]; exact h

/-- What reads in w reads so in w'. -/
def Keeps (w w' : World) : Prop := ∀ a v, w.cell? a = some v → w'.cell? a = some v
theorem Keeps.of (hb : Below w.heap.size w w') : Keeps w w' := fun _ _ h => cell_ext h hb

theorem ext_alloc (w : World) (o : Obj) : Below w.heap.size w (w.alloc o) := (Below.refl _ _).alloc (Nat.le_refl _) _
theorem blk_alloc (w : World) (cs : List Value) (t : TypeId) : Blk (w.alloc (.cells cs.toArray t)) w.heap.size cs t := by
  unfold Blk
  rw [heap_alloc_new]
theorem blk_set {b i : Nat} {cs : List Value} {t : TypeId} {v : Value} (h : Blk w b cs t) : Blk (w.setCell ⟨b, i, none⟩ v) b (cs.set i v) t := by
  unfold Blk at h ⊢
  simp [World.setCell, Array.getElem?_modify, h]
theorem chg_set (b i : Nat) (v : Value) (w : World) : Chg b w (w.setCell ⟨b, i, none⟩ v) :=
  ⟨rfl, rfl, rfl, by simp, fun k _ hne => Below.heap_setCell _ _ _ _ hne⟩

/-! ## Types -/
/-- Type t is a slice of type e, whose values have sz cells and by bytes, and are z where nothing is said. -/
structure SlT (P : Program) (t e sz by_ : Nat) (z : Value) : Prop where
  und : P.underlying t = some (.slice e)
  inf : (P.info? e).map (fun i => (i.zero, i.size, i.bytes)) = some (some z, sz, by_)
theorem SlT.info {t e sz by_ : Nat} {z : Value} (h : SlT P t e sz by_ z) : ∃ i, P.info? e = some i ∧ i.zero = some z ∧ i.size = sz ∧ i.bytes = by_ := by
  have := h.inf
  simp only [Option.map_eq_some_iff, Prod.mk.injEq] at this
  obtain ⟨i, h1, h2, h3, h4⟩ := this
  exact ⟨i, h1, h2, h3, h4⟩
/-- A variable of type t is one cell. -/
structure VarT (P : Program) (t : TypeId) : Prop where
  agg : (match P.underlying t with | some (.struct _) => true | some (.array _ _) => true | none => true | _ => false) = false
  inf : (P.info? t).map (·.size) = some 1
theorem VarT.noAgg {t : TypeId} (h : VarT P t) (w : World) : (isAgg t).run P w = .ok false w := by
  have := h.agg
  cases hu : P.underlying t with
  | none => rw [hu] at this; cases this
  | some u =>
    rw [hu] at this
    cases u <;> first | (cases this; done) | (unfold isAgg; simp only [Sem.run_bind, run_underlying hu, Result.andThen_ok]; rfl)
theorem VarT.size {t : TypeId} (h : VarT P t) : ∃ i, P.info? t = some i ∧ i.size = 1 := by
  have := h.inf
  simp only [Option.map_eq_some_iff] at this
  exact this

/-! ## Loads and stores of one cell -/
theorem rl_load {t : TypeId} {x : Operand} {A : Addr} {v : Value} (hT : VarT P t) (hg : want N ops σ g = true) (hx : ev N σ x = .pointer (some A)) (hc : w.cell? A = some v)
    (k : RL P N ops Q rest (upd σ d v) w) : RL P N ops Q (⟨some d, .load t x, ty, pos, af, g⟩ :: rest) σ w :=
  rl_val hg (by simp [execOp, hx, Instr.loadAt, Instr.sureAddr, loadVar, hT.noAgg, hc]) k
theorem rl_store {t t' : TypeId} {x y : Operand} {b i : Nat} {v : Value} {cs : List Value} (hT : VarT P t) (hg : want N ops σ g = true) (hx : ev N σ x = .pointer (some ⟨b, i, none⟩)) (hy : ev N σ y = v) (h1 : v.oneCell' = true)
    (hB : Blk w b cs t') (hi : i < cs.length)
    (k : ∀ w', Blk w' b (cs.set i v) t' → Chg b w w' → w'.heap.size = w.heap.size → RL P N ops Q rest σ w') : RL P N ops Q (⟨none, .store t x y, ty, pos, af, g⟩ :: rest) σ w := by
  refine rl_unit hg ?_ (k _ (blk_set hB) (chg_set _ _ _ _) (by simp))
  obtain ⟨inf, hi1, hi2⟩ := hT.size
  have hcell : w.cell? ⟨b, i, none⟩ = some cs[i] := hB.cell_some (by simp [hi])
  have hfz := hB.frozen i
  have hcells : v.cells = #[v] := by cases v <;> first | rfl | (cases h1; done)
  have hst := run_store P w ⟨b, i, none⟩ v .plain h1
  simp [execOp, hx, hy, Instr.storeAt, Instr.sureAddr, storeVar, sizeOf, typeInfo, hi1, hi2, hcells, storeCells, Addr.add, hst, hcell, hfz]

/-! ## Slices -/
theorem rl_len {t : TypeId} {x : Operand} {a : Option Addr} {n c e sz by_ : Nat} {z : Value} (hT : SlT P t e sz by_ z) (hg : want N ops σ g = true) (hx : ev N σ x = .slice a n c)
    (k : RL P N ops Q rest (upd σ d (.int .i64 n)) w) : RL P N ops Q (⟨some d, .call ⟨.builtin .len, #[x], #[t]⟩, ty, pos, af, g⟩ :: rest) σ w :=
  rl_val hg (by simp [execOp, resolve, invoke, builtin, hx, Builtin.len_, run_underlying hT.und, goInt]) k
theorem rl_idx {t : TypeId} {x y : Operand} {a : Option Addr} {n c e sz by_ b off : Nat} {i : Int} {z : Value} (hT : SlT P t e sz by_ z) (hg : want N ops σ g = true) (hx : ev N σ x = .slice a n c) (hy : ev N σ y = .int .i64 i)
    (ha : a = some ⟨b, off, none⟩) (h0 : 0 ≤ i) (h1 : i < n)
    (k : RL P N ops Q rest (upd σ d (.pointer (some ⟨b, off + i.toNat * sz, none⟩))) w) : RL P N ops Q (⟨some d, .indexAddr t x y, ty, pos, af, g⟩ :: rest) σ w := by
  obtain ⟨inf, hi1, hi2, hi3, hi4⟩ := hT.info
  refine rl_val hg ?_ k
  subst ha
  simp [execOp, hx, hy, Instr.indexAt, asIntOf, run_underlying hT.und, h0, h1, sizeOf, typeInfo, hi1, hi3, Addr.add_lit]
theorem rl_idx1 {t : TypeId} {x y : Operand} {a : Option Addr} {n c e by_ b off : Nat} {i : Int} {z : Value} (hT : SlT P t e 1 by_ z) (hg : want N ops σ g = true) (hx : ev N σ x = .slice a n c) (hy : ev N σ y = .int .i64 i)
    (ha : a = some ⟨b, off, none⟩) (h0 : 0 ≤ i) (h1 : i < n)
    (k : RL P N ops Q rest (upd σ d (.pointer (some ⟨b, off + i.toNat, none⟩))) w) : RL P N ops Q (⟨some d, .indexAddr t x y, ty, pos, af, g⟩ :: rest) σ w :=
  rl_idx hT hg hx hy ha h0 h1 (by rw [Nat.mul_one]; exact k)
theorem rl_slice_lh {t : TypeId} {x lo hi : Operand} {a : Option Addr} {n c e sz by_ b off : Nat} {l h : Int} {z : Value} (hT : SlT P t e sz by_ z) (hg : want N ops σ g = true) (hx : ev N σ x = .slice a n c)
    (hlo : ev N σ lo = .int .i64 l) (hhi : ev N σ hi = .int .i64 h) (ha : 0 < n → a = some ⟨b, off, none⟩) (h0 : 0 ≤ l) (h1 : l ≤ h) (h2 : h ≤ n) (h3 : n ≤ c)
    (k : ∀ a', (l < h → a' = some ⟨b, off + l.toNat * sz, none⟩) → RL P N ops Q rest (upd σ d (.slice a' (h.toNat - l.toNat) (c - l.toNat))) w) : RL P N ops Q (⟨some d, .slice t x (some lo) (some hi) none, ty, pos, af, g⟩ :: rest) σ w := by
  obtain ⟨inf, hi1, hi2, hi3, hi4⟩ := hT.info
  refine rl_val hg (v := .slice (if c = l.toNat then a else a.map (·.add (l.toNat * sz))) (h.toNat - l.toNat) (c - l.toNat)) ?_ (k _ ?_)
  · have e1 : h ≤ (c : Int) := by omega
    have e2 : 0 ≤ h := by omega
    have e3 : l ≤ max h 0 := by omega
    simp [execOp, hx, hlo, hhi, Instr.sliceAt, Instr.slice, Instr.sliceBounds, Instr.sliceBound, asIntOf, run_underlying hT.und, h0, e1, e2, e3, sizeOf, typeInfo, hi1, hi3]
  · intro hlt
    have : ¬ c = l.toNat := by omega
    rw [if_neg this, ha (by omega)]
    simp [Addr.add_lit]
theorem rl_slice_h {t : TypeId} {x hi : Operand} {a : Option Addr} {n c e sz by_ : Nat} {h : Int} {z : Value} (hT : SlT P t e sz by_ z) (hg : want N ops σ g = true) (hx : ev N σ x = .slice a n c)
    (hhi : ev N σ hi = .int .i64 h) (h1 : 0 ≤ h) (h2 : h ≤ n) (h3 : n ≤ c)
    (k : RL P N ops Q rest (upd σ d (.slice a h.toNat c)) w) : RL P N ops Q (⟨some d, .slice t x none (some hi) none, ty, pos, af, g⟩ :: rest) σ w := by
  obtain ⟨inf, hi1, hi2, hi3, hi4⟩ := hT.info
  refine rl_val hg (v := .slice a h.toNat c) ?_ (k)
  have e1 : h ≤ (c : Int) := by omega
  have e2 : (if c = 0 then a else a.map (·.add 0)) = a := by
    cases a <;> simp [Addr.add]
  simp [execOp, hx, hhi, Instr.sliceAt, Instr.slice, Instr.sliceBounds, Instr.sliceBound, asIntOf, run_underlying hT.und, h1, e1, sizeOf, typeInfo, hi1, hi3]
  cases a <;> simp [Addr.add]
theorem rl_slice_l {t : TypeId} {x lo : Operand} {a : Option Addr} {n c e sz by_ b off : Nat} {l : Int} {z : Value} (hT : SlT P t e sz by_ z) (hg : want N ops σ g = true) (hx : ev N σ x = .slice a n c)
    (hlo : ev N σ lo = .int .i64 l) (ha : 0 < n → a = some ⟨b, off, none⟩) (h0 : 0 ≤ l) (h1 : l ≤ n) (h3 : n ≤ c)
    (k : ∀ a', (l < n → a' = some ⟨b, off + l.toNat * sz, none⟩) → RL P N ops Q rest (upd σ d (.slice a' (n - l.toNat) (c - l.toNat))) w) : RL P N ops Q (⟨some d, .slice t x (some lo) none none, ty, pos, af, g⟩ :: rest) σ w := by
  obtain ⟨inf, hi1, hi2, hi3, hi4⟩ := hT.info
  refine rl_val hg (v := .slice (if c = l.toNat then a else a.map (·.add (l.toNat * sz))) (n - l.toNat) (c - l.toNat)) ?_ (k _ ?_)
  · simp [execOp, hx, hlo, Instr.sliceAt, Instr.slice, Instr.sliceBounds, Instr.sliceBound, asIntOf, run_underlying hT.und, h0, h1, sizeOf, typeInfo, hi1, hi3]
  · intro hlt
    have : ¬ c = l.toNat := by omega
    rw [if_neg this, ha (by omega)]
    simp [Addr.add_lit]

/-! ## New memory -/
theorem map_range0 (f : Nat → Value) : Array.map f (Array.range 0) = #[] := by apply Array.ext <;> simp
theorem map_range1_set (f : Nat → Value) (v : Value) : (Array.map f (Array.range 1)).setIfInBounds 0 v = #[v] := by
  apply Array.ext
  · simp
  · intro i h1 h2
    have : i = 0 := by simp at h2; omega
    subst this; simp
theorem made_map (n : Nat) (z : Value) : ((Array.range (n * 1)).map fun i => (#[z] : Array Value)[i % 1]!) = (List.replicate n z).toArray := by
  apply Array.ext
  · simp
  · intro i h1 h2
    simp [Nat.mod_one]
theorem rl_make1 {t : TypeId} {x : Operand} {n : Int} {e by_ : Nat} {z : Value} (hT : SlT P t e 1 by_ z) (hz : z.oneCell' = true) (hg : want N ops σ g = true) (hx : ev N σ x = .int .i64 n)
    (h0 : 0 ≤ n) (h1 : n ≤ 1000000000) (h2 : by_ ≤ 1000)
    (k : ∀ w', Blk w' w.heap.size (List.replicate n.toNat z) e → Below w.heap.size w w' → w'.heap.size = w.heap.size + 1 →
      RL P N ops Q rest (upd σ d (.slice (some ⟨w.heap.size, 0, none⟩) n.toNat n.toNat)) w') : RL P N ops Q (⟨some d, .makeSlice t x x, ty, pos, af, g⟩ :: rest) σ w := by
  obtain ⟨inf, hi1, hi2, hi3, hi4⟩ := hT.info
  refine rl_val hg ?_ (k (w.alloc (.cells (List.replicate n.toNat z).toArray e)) (blk_alloc _ _ _) (ext_alloc _ _) (by simp))
  have hw : IntKind.i64.wrap n = n := wrap_id (by omega) (by omega)
  have hcells : z.cells = #[z] := by cases z <;> first | rfl | (cases hz; done)
  have hm : (by_ : Int) * n ≤ 1000 * 1000000000 := Int.mul_le_mul (by omega) h1 h0 (by omega)
  have hbig : ¬ (281474976710656 < (by_ : Int) * n) := by omega
  have hn0 : ¬ n < 0 := by omega
  by_cases hn : n.toNat = 0
  · have : n = 0 := by omega
    subst this
    simp [execOp, hx, Instr.makeSlice, asInt, asIntOf, run_underlying hT.und, typeInfo, hi1, hi4, hw, sizeOf, hi3, newRow]
    rw [map_range0]
  · simp [execOp, hx, Instr.makeSlice, asInt, asIntOf, run_underlying hT.und, typeInfo, hi1, hi4, hw, sizeOf, hi3, newRow, hbig, hn0, hn, zeroValue, hi2, hcells]
    have := made_map n.toNat z
    simp at this
    rw [this]
theorem rl_bslice0 {t : TypeId} {e sz by_ : Nat} {z : Value} (hT : SlT P t e sz by_ z) (hg : want N ops σ g = true)
    (k : ∀ w', Blk w' w.heap.size [] e → Below w.heap.size w w' → w'.heap.size = w.heap.size + 1 →
      RL P N ops Q rest (upd σ d (.slice (some ⟨w.heap.size, 0, none⟩) 0 0)) w') : RL P N ops Q (⟨some d, .buildSlice t 0 #[], ty, pos, af, g⟩ :: rest) σ w := by
  obtain ⟨inf, hi1, hi2, hi3, hi4⟩ := hT.info
  refine rl_val hg ?_ (k (w.alloc (.cells ([] : List Value).toArray e)) (blk_alloc _ _ _) (ext_alloc _ _) (by simp))
  simp [execOp, Instr.buildSlice, run_underlying hT.und, typeInfo, hi1, sizeOf, Instr.fill, newRow]
  rw [map_range0]
theorem rl_bslice1 {t : TypeId} {x : Operand} {e by_ : Nat} {z v : Value} (hT : SlT P t e 1 by_ z) (hz : z.oneCell' = true) (hg : want N ops σ g = true) (hx : ev N σ x = v) (hv : v.oneCell' = true)
    (k : ∀ w', Blk w' w.heap.size [v] e → Below w.heap.size w w' → w'.heap.size = w.heap.size + 1 →
      RL P N ops Q rest (upd σ d (.slice (some ⟨w.heap.size, 0, none⟩) 1 1)) w') : RL P N ops Q (⟨some d, .buildSlice t 1 #[(0, x)], ty, pos, af, g⟩ :: rest) σ w := by
  obtain ⟨inf, hi1, hi2, hi3, hi4⟩ := hT.info
  refine rl_val hg ?_ (k (w.alloc (.cells [v].toArray e)) (blk_alloc _ _ _) (ext_alloc _ _) (by simp))
  have hcz : z.cells = #[z] := by cases z <;> first | rfl | (cases hz; done)
  have hcv : v.cells = #[v] := by cases v <;> first | rfl | (cases hv; done)
  simp [execOp, hx, Instr.buildSlice, run_underlying hT.und, typeInfo, hi1, hi3, sizeOf, zeroValue, hi2, hcz, Instr.fill, hcv, newRow]
  rw [map_range1_set]

/-! ## A slice that the call itself made, and may append to -/
/-- v holds the n elements with the cells xs, in block b (of its own), or is nil and empty. -/
def Own (w : World) (e sz : Nat) (v : Value) (n : Nat) (xs : List Value) (b : Nat) : Prop :=
  xs.length = n * sz ∧ ((v = .slice none 0 0 ∧ n = 0) ∨ ∃ cap spare, v = .slice (some ⟨b, 0, none⟩) n cap ∧ n ≤ cap ∧ cap ≤ maxLen ∧ (xs ++ spare).length = cap * sz ∧ Blk w b (xs ++ spare) e)
theorem Own.nil (w : World) (e sz b : Nat) : Own w e sz (.slice none 0 0) 0 [] b := ⟨by simp, .inl ⟨rfl, rfl⟩⟩
theorem Own.shape {e sz n b : Nat} {v : Value} {xs : List Value} (h : Own w e sz v n xs b) : ∃ a c, v = .slice a n c ∧ n ≤ c ∧ c ≤ maxLen ∧ (0 < n → a = some ⟨b, 0, none⟩) := by
  rcases h.2 with ⟨rfl, rfl⟩ | ⟨cap, spare, rfl, h1, h2, _, _⟩
  · exact ⟨none, 0, rfl, Nat.le_refl _, Nat.zero_le _, fun h => absurd h (by omega)⟩
  · exact ⟨_, cap, rfl, h1, h2, fun _ => rfl⟩
theorem Own.cell {e sz n b i : Nat} {v u : Value} {xs : List Value} (h : Own w e sz v n xs b) (hi : xs[i]? = some u) : w.cell? ⟨b, i, none⟩ = some u := by
  rcases h.2 with ⟨rfl, rfl⟩ | ⟨cap, spare, rfl, h1, h2, h3, h4⟩
  · have : xs = [] := List.eq_nil_of_length_eq_zero (by simpa using h.1)
    subst this; simp at hi
  · refine h4.cell_some ?_
    have hlt : i < xs.length := by
      rcases Nat.lt_or_ge i xs.length with h | h
      · exact h
      · rw [List.getElem?_eq_none h] at hi; cases hi
    rw [List.getElem?_append_left hlt]; exact hi
theorem Own.blk {e sz n b : Nat} {v : Value} {xs : List Value} (h : Own w e sz v n xs b) (hn : 0 < n) : ∃ spare, Blk w b (xs ++ spare) e := by
  rcases h.2 with ⟨_, rfl⟩ | ⟨cap, spare, rfl, h1, h2, h3, h4⟩
  · omega
  · exact ⟨spare, h4⟩
theorem Own.ext {e sz n b : Nat} {v : Value} {xs : List Value} (h : Own w e sz v n xs b) (hb : Below w.heap.size w w') : Own w' e sz v n xs b := by
  refine ⟨h.1, ?_⟩
  rcases h.2 with h1 | ⟨cap, spare, h1, h2, h3, h4, h5⟩
  · exact .inl h1
  · exact .inr ⟨cap, spare, h1, h2, h3, h4, h5.ext hb⟩
theorem Own.chg {e sz n b c : Nat} {v : Value} {xs : List Value} (h : Own w e sz v n xs b) (hc : Chg c w w') (hne : b ≠ c) : Own w' e sz v n xs b := by
  refine ⟨h.1, ?_⟩
  rcases h.2 with h1 | ⟨cap, spare, h1, h2, h3, h4, h5⟩
  · exact .inl h1
  · exact .inr ⟨cap, spare, h1, h2, h3, h4, h5.chg hc hne⟩
theorem Own.of_blk {e sz n b : Nat} {xs : List Value} (h : Blk w b xs e) (hl : xs.length = n * sz) (hn : n ≤ maxLen) : Own w e sz (.slice (some ⟨b, 0, none⟩) n n) n xs b :=
  ⟨hl, .inr ⟨n, [], rfl, Nat.le_refl _, hn, by simpa using hl, by simpa using h⟩⟩

theorem blk_row {b : Nat} {cs cs' : List Value} {t : TypeId} (h : Blk w b cs t) : Blk (w.setRow b cs'.toArray) b cs' t := setRow_heap w b _ _ _ _ h
theorem chg_row (b : Nat) (cs : Array Value) (w : World) : Chg b w (w.setRow b cs) := ⟨rfl, rfl, rfl, by simp, fun k _ hne => setRow_other w b k _ hne⟩

/-- append(v, elements of x..): where it ends, and what it leaves. -/
theorem run_append_Own {t ty e sz by_ b : Nat} {z v : Value} (hT : SlT P t e sz by_ z) (hzc : z.cells.size = sz) (hsz : 0 < sz) {n m c : Nat} {xs news : List Value} {a : Option Addr} {B off : Nat}
    (hown : Own w e sz v n xs b) (ha : 0 < m → a = some ⟨B, off, none⟩) (hl : news.length = m * sz) (hnews : ∀ j u, news[j]? = some u → w.cell? ⟨B, off + j, none⟩ = some u) (h1 : ∀ u ∈ news, u.oneCell' = true)
    (h63 : n + m ≤ maxLen) (hby : (n + m) * by_ ≤ 140737488355328) :
    ∃ v' w' b', (Builtin.append_ #[t, t] ty #[v, .slice a m c]).run P w = .ok v' w' ∧ Own w' e sz v' (n + m) (xs ++ news) b' ∧ (b' = b ∨ w.heap.size ≤ b') ∧ Chg b w w' ∧ (m = 0 → v' = v ∧ w' = w) := by
  obtain ⟨i, hi, hz, hisz, hiby⟩ := hT.info
  subst hisz; subst hiby
  have ht := hT.und
  have hsmall : n + m ≤ 9223372036854775807 := by simp only [maxLen] at h63; omega
  have hlen : (xs ++ news).length = (n + m) * i.size := by rw [List.length_append, hown.1, hl, Nat.add_mul]
  by_cases hm : m = 0
  · subst hm
    have hn : news = [] := List.eq_nil_of_length_eq_zero (by simpa using hl)
    subst hn
    simp only [List.append_nil, Nat.add_zero]
    rcases hown.2 with ⟨rfl, rfl⟩ | ⟨cap, spare, rfl, hnc, hcm, hcs, hB⟩
    · refine ⟨.slice none 0 0, w, b, ?_, hown, .inl rfl, Chg.refl _ _, fun _ => ⟨rfl, rfl⟩⟩
      cases a <;> simp [Builtin.append_, run_underlying ht, sizeOf, typeInfo, hi, Builtin.lenOf, Builtin.firstCells, loadCells, loadCellsFrom]
    · refine ⟨.slice (some ⟨b, 0, none⟩) n cap, w, b, ?_, hown, .inl rfl, Chg.refl _ _, fun _ => ⟨rfl, rfl⟩⟩
      cases a <;> simp [Builtin.append_, run_underlying ht, sizeOf, typeInfo, hi, Builtin.lenOf, Builtin.firstCells, loadCells, loadCellsFrom, hnc, storeCells]
  · have haa := ha (by omega)
    subst haa
    have hnews' : ∀ j u, news[j]? = some u → w.cell? ((⟨B, off, none⟩ : Addr).add j) = some u := fun j u h => by rw [Addr.add_lit]; exact hnews j u h
    have grown : ∀ (old : Nat), old < n + m →
        Own (w.drew.alloc (.cells (xs.toArray ++ news.toArray ++ Builtin.zeroCells z.cells (grownCap w (n + m) old e - (n + m))) e)) e i.size
          (.slice (some ⟨w.heap.size, 0, none⟩) (n + m) (grownCap w (n + m) old e)) (n + m) (xs ++ news) w.heap.size ∧
        Chg b w (w.drew.alloc (.cells (xs.toArray ++ news.toArray ++ Builtin.zeroCells z.cells (grownCap w (n + m) old e - (n + m))) e)) := by
      intro old ho
      have hge := grownCap_ge w (n + m) old e
      have hcm : grownCap w (n + m) old e ≤ maxLen := grownCap_le_maxLen w (n + m) old e h63
      refine ⟨⟨hlen, .inr ⟨_, (Builtin.zeroCells z.cells (grownCap w (n + m) old e - (n + m))).toList, rfl, hge, hcm, ?_, ?_⟩⟩, ⟨rfl, rfl, rfl, by simp, fun k hk _ => heap_alloc_old w.drew _ hk⟩⟩
      · simp only [List.length_append, Array.length_toList, size_zeroCells, hzc, hown.1, hl, ← Nat.add_mul]
        congr 1
        omega
      · have : xs.toArray ++ news.toArray ++ Builtin.zeroCells z.cells (grownCap w (n + m) old e - (n + m)) = (xs ++ news ++ (Builtin.zeroCells z.cells (grownCap w (n + m) old e - (n + m))).toList).toArray := by
          apply Array.ext'; simp
        rw [this]
        exact blk_alloc w.drew _ _
    rcases hown.2 with ⟨rfl, rfl⟩ | ⟨cap, spare, rfl, hnc, hcm, hcs, hB⟩
    · have hx : xs = [] := List.eq_nil_of_length_eq_zero (by simpa using hown.1)
      subst hx
      have hr := run_append_nil (P := P) w t ty e i z ht hi hz _ m c news hl hnews' (by omega) (by omega) (by have hb := hby; simp only [Nat.zero_add] at hb; omega)
      have hgr := grown 0 (by omega)
      simp only [Nat.zero_add, List.nil_append, Array.empty_append] at hgr ⊢
      exact ⟨_, _, _, hr, hgr.1, .inr (Nat.le_refl _), hgr.2, fun h => absurd h hm⟩
    · by_cases hroom : n + m ≤ cap
      · have hfit : n * i.size + news.length ≤ (xs ++ spare).toArray.size := by simp only [List.size_toArray]; rw [hl, hcs, ← Nat.add_mul]; exact Nat.mul_le_mul_right _ hroom
        have hr := run_append_room (P := P) w t ty e i ht hi b n cap (xs ++ spare).toArray hB _ m c news hl hnews' h1 hroom hfit
        have e1 : ((xs ++ spare).toArray.toList.take (n * i.size) ++ news ++ (xs ++ spare).toArray.toList.drop (n * i.size + news.length)) = (xs ++ news) ++ (xs ++ spare).drop (n * i.size + news.length) := by
          simp only [← hown.1, List.take_left]
        rw [e1] at hr
        refine ⟨_, _, b, hr, ⟨hlen, .inr ⟨cap, (xs ++ spare).drop (n * i.size + news.length), rfl, hroom, hcm, ?_, blk_row hB⟩⟩, .inl rfl, chg_row _ _ _, fun h => absurd h hm⟩
        simp only [List.size_toArray] at hfit
        simp only [List.length_append, List.length_drop, hown.1] at *
        omega
      · have holds : ∀ j u, xs[j]? = some u → w.cell? ((⟨b, 0, none⟩ : Addr).add j) = some u := fun j u h => by rw [Addr.add_lit, Nat.zero_add]; exact hown.cell h
        have hr := run_append_grow (P := P) w t ty e i z ht hi hz ⟨b, 0, none⟩ n cap xs hown.1 holds _ m c news hl hnews' (by omega) (by omega) (growslice_fits (by omega) hby)
        have hgr := grown cap (by omega)
        exact ⟨_, _, _, hr, hgr.1, .inr (Nat.le_refl _), hgr.2, fun h => absurd h hm⟩
theorem rl_append {t e sz by_ b : Nat} {x y : Operand} {z v : Value} {n m c : Nat} {xs news : List Value} {a : Option Addr} {B off : Nat} (hT : SlT P t e sz by_ z) (hzc : z.cells.size = sz) (hsz : 0 < sz)
    (hown : Own w e sz v n xs b) (hnews : ∀ j u, news[j]? = some u → w.cell? ⟨B, off + j, none⟩ = some u) (hg : want N ops σ g = true) (hx : ev N σ x = v) (hy : ev N σ y = .slice a m c)
    (ha : 0 < m → a = some ⟨B, off, none⟩) (hl : news.length = m * sz) (h1 : ∀ u ∈ news, u.oneCell' = true)
    (h63 : n + m ≤ maxLen) (hby : (n + m) * by_ ≤ 140737488355328)
    (k : ∀ v' w' b', Own w' e sz v' (n + m) (xs ++ news) b' → (b' = b ∨ w.heap.size ≤ b') → Chg b w w' → (m = 0 → v' = v ∧ w' = w) → RL P N ops Q rest (upd σ d v') w') :
    RL P N ops Q (⟨some d, .call ⟨.builtin .append, #[x, y], #[t, t]⟩, ty, pos, af, g⟩ :: rest) σ w := by
  obtain ⟨v', w', b', hr, h2, h3, h4, h5⟩ := run_append_Own (ty := ty) (c := c) hT hzc hsz hown ha hl hnews h1 h63 hby
  exact rl_val hg (by simp [execOp, resolve, invoke, builtin, hx, hy, hr]) (k v' w' b' h2 h3 h4 h5)

/-! ## Calls -/
/-- Function f has a body, and is none of the runtime's own. -/
structure FnT (P : Program) (f : FuncId) : Prop where
  is : ∃ fn, P.funcs[f]? = some fn ∧ (fn.name == "runtime.NumGoroutine") = false ∧ fn.body.isNone = false
theorem FnT.mk' {f : FuncId} {fn : Func} (h : P.funcs[f]? = some fn) (h1 : (fn.name == "runtime.NumGoroutine") = false) (h2 : fn.body.isNone = false) : FnT P f := ⟨fn, h, h1, h2⟩
theorem run_callFn {f : FuncId} (hf : FnT P f) (args : Array Value) (w : World) : (callFunc f args).run P w = .ok (.enter f args) w := by
  obtain ⟨fn, h1, h2, h3⟩ := hf.is
  have h4 : ¬ fn.name = "runtime.NumGoroutine" := by simpa using h2
  have h5 : ¬ fn.body = none := by intro h; rw [h] at h3; cases h3
  simp [callFunc, h1, h4, h5]
theorem run_call {f : FuncId} {ts : Array TypeId} {args : List Operand} {as : List Value} (hf : FnT P f) (ha : args.map (ev N σ) = as) (o : Oper) (ho : o.op = .call ⟨.value (.func f), args.toArray, ts⟩) (w : World) :
    (execOp (ev N σ) o).run P w = .ok (.enter f as.toArray) w := by
  subst ha
  simp [execOp, ho, resolve, ev, Deferred.ofValue, invoke, run_callFn hf]
theorem rl_callf {f : FuncId} {ts : Array TypeId} {args : List Operand} {as : List Value} {Post : Value → World → Prop} (hf : FnT P f) (hc : CallsOk P f as.toArray w Post) (hg : want N ops σ g = true) (ha : args.map (ev N σ) = as)
    (k : ∀ v w', Post v w' → RL P N ops Q rest (upd σ d v) w') : RL P N ops Q (⟨some d, .call ⟨.value (.func f), args.toArray, ts⟩, ty, pos, af, g⟩ :: rest) σ w :=
  rl_call hg (run_call hf ha _ rfl w) hc k
theorem rl_callf_none {f : FuncId} {ts : Array TypeId} {args : List Operand} {as : List Value} {Post : Value → World → Prop} (hf : FnT P f) (hc : CallsOk P f as.toArray w Post) (hg : want N ops σ g = true) (ha : args.map (ev N σ) = as)
    (k : ∀ v w', Post v w' → RL P N ops Q rest σ w') : RL P N ops Q (⟨none, .call ⟨.value (.func f), args.toArray, ts⟩, ty, pos, af, g⟩ :: rest) σ w :=
  rl_call_none hg (run_call hf ha _ rfl w) hc k
/-- A call of a function value: its first arguments ahead, what it captured behind. -/
theorem rl_callv {f : FuncId} {x : Operand} {ts : Array TypeId} {args : List Operand} {as cap : List Value} {Post : Value → World → Prop} (hf : FnT P f) (hc : CallsOk P f (as ++ cap).toArray w Post) (hg : want N ops σ g = true)
    (hx : ev N σ x = .func (.func f) #[] cap.toArray) (ha : args.map (ev N σ) = as)
    (k : ∀ v w', Post v w' → RL P N ops Q rest (upd σ d v) w') : RL P N ops Q (⟨some d, .call ⟨.value x, args.toArray, ts⟩, ty, pos, af, g⟩ :: rest) σ w := by
  refine rl_call hg ?_ hc k
  subst ha
  simp [execOp, resolve, hx, Deferred.ofValue, invoke, run_callFn hf]
theorem rl_mkfunc {f : FuncId} {cap : List Operand} {vs : List Value} (hg : want N ops σ g = true) (ha : cap.map (ev N σ) = vs)
    (k : RL P N ops Q rest (upd σ d (.func (.func f) #[] vs.toArray)) w) : RL P N ops Q (⟨some d, .makeFunc (.func f) #[] cap.toArray, ty, pos, af, g⟩ :: rest) σ w :=
  rl_val hg (by subst ha; simp [execOp, Instr.makeFunc]) k
theorem rl_box {t : TypeId} {x : Operand} {v : Value} (hg : want N ops σ g = true) (hx : ev N σ x = v) (hv : v.oneCell' = true)
    (k : ∀ w', Blk w' w.heap.size [v] t → Below w.heap.size w w' → w'.heap.size = w.heap.size + 1 → RL P N ops Q rest (upd σ d (.pointer (some ⟨w.heap.size, 0, none⟩))) w') :
    RL P N ops Q (⟨some d, .box t x, ty, pos, af, g⟩ :: rest) σ w := by
  refine rl_val hg ?_ (k (w.alloc (.cells [v].toArray t)) (blk_alloc _ _ _) (ext_alloc _ _) (by simp))
  have hcv : v.cells = #[v] := by cases v <;> first | rfl | (cases hv; done)
  simp [execOp, hx, Instr.box, newVar, newRow, hcv]
theorem rl_alloc {t : TypeId} {z : Value} (hz : (P.info? t).map (·.zero) = some (some z)) (h1 : z.oneCell' = true) (hg : want N ops σ g = true)
    (k : ∀ w', Blk w' w.heap.size [z] t → Below w.heap.size w w' → w'.heap.size = w.heap.size + 1 → RL P N ops Q rest (upd σ d (.pointer (some ⟨w.heap.size, 0, none⟩))) w') :
    RL P N ops Q (⟨some d, .alloc t, ty, pos, af, g⟩ :: rest) σ w := by
  refine rl_val hg ?_ (k (w.alloc (.cells [z].toArray t)) (blk_alloc _ _ _) (ext_alloc _ _) (by simp))
  have hcv : z.cells = #[z] := by cases z <;> first | rfl | (cases h1; done)
  simp only [Option.map_eq_some_iff] at hz
  obtain ⟨i, hi, hz⟩ := hz
  simp [execOp, Instr.alloc, zeroValue, typeInfo, hi, hz, newVar, newRow, hcv]
theorem rl_nilck {x : Operand} {A : Addr} (hg : want N ops σ g = true) (hx : ev N σ x = .pointer (some A))
    (k : RL P N ops Q rest (upd σ d (.pointer (some A))) w) : RL P N ops Q (⟨some d, .nilCheck x, ty, pos, af, g⟩ :: rest) σ w :=
  rl_val hg (by simp [execOp, hx]) k
end Go.Eng
set_option linter.unusedVariables false
set_option linter.unusedSimpArgs false
namespace Go.Eng
open Go Go.RowKit
section
variable {P : Program} {ops : Array Oper} {md : Region.Mode} {Q : Exit → Act → World → Prop} {S : World → Prop}

def NP (Q : Exit → Act → World → Prop) : Exit → Act → World → Prop
  | .panic _, _, _ => False
  | e, a, w => Q e a w
theorem NP.weak {Q : Exit → Act → World → Prop} : ∀ (e : Exit) (a : Act) (w : World), NP Q e a w → Q e a w := fun e a w h => by
  cases e <;> first | exact h | exact (h : False).elim
theorem np_normal {a : Act} {w : World} (h : Q .normal a w) : NP Q .normal a w := h

def wpAnyLS (P : Program) (md : Region.Mode) (ops : Array Oper) (Q : Exit → Act → World → Prop) (S : World → Prop) (n : Nat) (L : Array Bool → Act → World → Prop) : Nat → Array Bool → Act → World → Prop
  | 0, listed, a, w => L listed a w
  | f + 1, listed, a, w =>
    Region.ready md ops listed ≠ [] ∧ ∀ i ∈ Region.ready md ops listed, i < n ∧ wpOp P ops Q i (fun a' w' => S w' ∧ wpAnyLS P md ops Q S n L f (listed.setIfInBounds i true) a' w') a w
theorem wpAny_of_headS {n g : Nat} {L : Array Bool → Act → World → Prop} (hL : ∀ listed a w, L listed a w → wpAny P md ops Q g listed a w) :
    ∀ (f : Nat) (listed : Array Bool) (a : Act) (w : World), wpAnyLS P md ops Q S n L f listed a w → wpAny P md ops Q (f + g) listed a w
  | 0, listed, a, w, h => by rw [Nat.zero_add]; exact hL _ _ _ h
  | f + 1, listed, a, w, h => by
    rw [show f + 1 + g = (f + g) + 1 by omega]
    exact ⟨fun h0 => absurd h0 h.1, fun i hi => wpOp_mono (fun a' w' h' => wpAny_of_headS hL f _ a' w' h'.2) (h.2 i hi).2⟩
theorem wpAnyLS_first {n i : Nat} {oi : Oper} {v : Value} {L : Array Bool → Act → World → Prop} (hi : ops[i]? = some oi) (hsel : ∀ (j : Nat) (o : Oper) cs b, ops[j]? = some o → o.op ≠ .select cs b)
    (hQ : ∀ c a w, Q (.panic c) (a.put oi.dst v) w → Q (.panic c) a w)
    (hs : Region.sinkB md ops n = true) (hc : Region.chainB md ops n = true) (hn : n < ops.size) (hin : i < n)
    (hdone : ∀ listed a w, L listed a w → ∀ j ∈ Region.ready md ops listed, n ≤ j) :
    ∀ (f : Nat) (listed : Array Bool) (a : Act) (w : World), HeadInv md ops n listed →
      (∀ j oj, ops[j]? = some oj → j ≠ i → listed.getD j true = false → (∀ e ∈ oj.after, Region.binds md e = true → e.on ≠ i) → oi.apart ops oj = true) →
      i ∈ Region.ready md ops listed → YieldsIf P ops S oi v a → S w →
      wpAnyLS P md ops Q S n L f (listed.setIfInBounds i true) (a.put oi.dst v) w → wpAnyLS P md ops Q S n L (f + 1) listed a w := by
  intro f
  induction f with
  | zero =>
    intro listed a w inv _ hr hy hS H
    have hun := (mem_ready.1 hr).1
    refine ⟨fun h => (by rw [h] at hr; cases hr), fun j hj => ?_⟩
    have hjn : j < n := by
      rcases Nat.lt_or_ge j n with h | h
      · exact h
      · exact absurd hj (tail_waits hs hc hn inv _ i rfl hin hun j h)
    refine ⟨hjn, ?_⟩
    by_cases hji : j = i
    · subst hji; exact hy.wpOp hi hS ⟨hS, H⟩
    · have := hdone _ _ _ H j (ready_mono hj hji)
      omega
  | succ f ih =>
    intro listed a w inv hfree hr hy hS H
    have hun := (mem_ready.1 hr).1
    refine ⟨fun h => (by rw [h] at hr; cases hr), fun j hj => ?_⟩
    have hjn : j < n := by
      rcases Nat.lt_or_ge j n with h | h
      · exact h
      · exact absurd hj (tail_waits hs hc hn inv _ i rfl hin hun j h)
    refine ⟨hjn, ?_⟩
    by_cases hji : j = i
    · subst hji; exact hy.wpOp hi hS ⟨hS, H⟩
    · have h1 := (H.2 j (ready_mono hj hji)).2
      obtain ⟨hjun, oj, hoj, hall⟩ := mem_ready.1 hj
      have hnot : ∀ e ∈ oj.after, Region.binds md e = true → e.on ≠ i := fun e he hb heq => by
        have h1 := hall e he hb
        rw [heq, getD_both hun] at h1
        cases h1
      have h2 := wpOp_putIf hoj (hfree j oj hoj hji hjun hnot) (fun cs b => hsel i oi cs b hi) (fun cs b => hsel j oj cs b hoj) hQ hy h1
      have hfree' : ∀ k ok, ops[k]? = some ok → k ≠ i → (listed.setIfInBounds j true).getD k true = false →
          (∀ e ∈ ok.after, Region.binds md e = true → e.on ≠ i) → oi.apart ops ok = true := fun k ok hk hki hun hno => by
        refine hfree k ok hk hki ?_ hno
        by_cases hjk : j = k
        · subst hjk; exact hjun
        · rw [getD_set_ne true hjk] at hun; exact hun
      refine wpOp_mono (fun a' w' h3 => ⟨h3.2.1, ih (listed.setIfInBounds j true) a' w' (inv.set hj hjn) hfree' (ready_mono hr (Ne.symm hji)) h3.1 h3.2.1 ?_⟩) h2
      rw [Array.setIfInBounds_comm _ _ hji]
      exact h3.2.2

/-- The head is taken in the order that is handed in: (i, false): operation i yields in every world that meets S; (i, true): operation i, which alone may come up then, keeps S. -/
def headB (md : Region.Mode) (ops : Array Oper) (n g : Nat) : List (Nat × Bool) → Array Bool → Bool
  | [], listed => Region.seqB md ops g n listed
  | (i, false) :: r, listed => decide (i < n) && (Region.ready md ops listed).contains i && Region.free md ops listed i && headB md ops n g r (listed.setIfInBounds i true)
  | (i, true) :: r, listed => decide (i < n) && decide (Region.ready md ops listed = [i]) && headB md ops n g r (listed.setIfInBounds i true)
def heldB (md : Region.Mode) (ops : Array Oper) (n : Nat) (order : List (Nat × Bool)) : Bool :=
  Region.noSelect ops && decide (n < ops.size) && decide (order.length = n) && Region.sinkB md ops n && Region.chainB md ops n && headB md ops n (ops.size - n) order (Array.replicate ops.size false)
def HW (P : Program) (ops : Array Oper) (Q : Exit → Act → World → Prop) : (World → Prop) → (Act → World → Prop) → List (Nat × Bool) → Act → World → Prop
  | _, L, [], a, w => L a w
  | S, L, (i, false) :: r, a, w => ∃ o v, ops[i]? = some o ∧ YieldsIf P ops S o v a ∧ HW P ops Q S L r (a.put o.dst v) w
  | S, L, (i, true) :: r, a, w => wpOp P ops Q i (fun a' w' => ∃ S' : World → Prop, (∀ w, S' w → S w) ∧ S' w' ∧ HW P ops Q S' L r a' w') a w
theorem wpAnyLS_mono {S' : World → Prop} {n : Nat} {L : Array Bool → Act → World → Prop} (hS : ∀ w, S' w → S w) : ∀ (f : Nat) (listed : Array Bool) (a : Act) (w : World), wpAnyLS P md ops Q S' n L f listed a w → wpAnyLS P md ops Q S n L f listed a w
  | 0, _, _, _, h => h
  | f + 1, listed, a, w, h => ⟨h.1, fun i hi => ⟨(h.2 i hi).1, wpOp_mono (fun a' w' h' => ⟨hS _ h'.1, wpAnyLS_mono hS f _ a' w' h'.2⟩) (h.2 i hi).2⟩⟩
theorem wpAnyLS_order {n g : Nat} {Lq : Act → World → Prop} (hsel : Region.noSelect ops = true) (hQ : ∀ c a w, ¬ Q (.panic c) a w) (hs : Region.sinkB md ops n = true) (hc : Region.chainB md ops n = true) (hn : n < ops.size) :
    ∀ (order : List (Nat × Bool)) (S : World → Prop) (listed : Array Bool) (a : Act) (w : World), HeadInv md ops n listed → headB md ops n g order listed = true → S w → HW P ops Q S Lq order a w →
    wpAnyLS P md ops Q S n (fun listed' a' w' => Region.seqB md ops g n listed' = true ∧ Lq a' w') order.length listed a w
  | [], _, listed, a, w, _, hB, _, h => ⟨hB, h⟩
  | (i, false) :: r, S, listed, a, w, inv, hB, hS, h => by
    simp only [headB, Bool.and_eq_true, decide_eq_true_eq] at hB
    obtain ⟨⟨⟨hin, hr⟩, hf⟩, hB'⟩ := hB
    have hr' : i ∈ Region.ready md ops listed := by simpa using hr
    obtain ⟨o, v, ho, hy, hK⟩ := h
    exact wpAnyLS_first ho (Region.noSelect_spec hsel) (fun c a w hh => absurd hh (hQ _ _ _)) hs hc hn hin (fun listed' a' w' hL => seqB_ready hL.1) r.length listed a w inv (Region.free_spec ho hf) hr' hy hS
      (wpAnyLS_order hsel hQ hs hc hn r _ _ _ _ (inv.set hr' hin) hB' hS hK)
  | (i, true) :: r, S, listed, a, w, inv, hB, hS, h => by
    simp only [headB, Bool.and_eq_true, decide_eq_true_eq] at hB
    obtain ⟨⟨hin, hr⟩, hB'⟩ := hB
    have hr' : i ∈ Region.ready md ops listed := by rw [hr]; simp
    refine ⟨fun h0 => (by rw [h0] at hr; cases hr), fun j hj => ?_⟩
    rw [hr] at hj
    have : j = i := by simpa using hj
    subst this
    refine ⟨hin, wpOp_mono (fun a' w' h' => ?_) h⟩
    obtain ⟨S', hsub, hS', hK⟩ := h'
    exact ⟨hsub _ hS', wpAnyLS_mono hsub _ _ _ _ (wpAnyLS_order hsel hQ hs hc hn r S' _ _ _ (inv.set hr' hin) hB' hS' hK)⟩
theorem wp_region_heldTail {id : Nat} {a : Act} {w : World} {l : List Oper} (n : Nat) (order : List (Nat × Bool)) (S : World → Prop) (hm : P.follows .mixedOrders = true) (hB : heldB .any l.toArray n order = true)
    (hS : S { w with drawn := w.drawn + 1 })
    (h : HW P l.toArray (NP Q) S (fun a' w' => wpList P l.toArray (NP Q) (l.drop n) a' w') order a { w with drawn := w.drawn + 1 }) : (Code.region id l.toArray true).wp P Q a w := by
  refine Code.wp_mono NP.weak ?_
  simp only [heldB, Bool.and_eq_true, decide_eq_true_eq] at hB
  obtain ⟨⟨⟨⟨⟨hsel, hn⟩, hol⟩, hs⟩, hc⟩, hlex⟩ := hB
  have hn' : n < l.length := by simpa using hn
  have hdl : (l.drop n).length = l.toArray.size - n := by simp
  have inv0 : HeadInv .any l.toArray n (Array.replicate l.toArray.size false) :=
    ⟨by simp, fun j oj _ hl => (by rw [getD_replicate_false] at hl; cases hl), fun t _ ht => getD_in (by simpa using ht) (getD_replicate_false _ _)⟩
  have H := wpAnyLS_order (md := .any) (Q := NP Q) (g := l.toArray.size - n) hsel (fun c a w hh => hh) hs hc hn order S _ a _ inv0 hlex hS h
  refine wp_region_any hm ?_
  have := wpAny_of_headS (Q := NP Q) (g := l.toArray.size - n) (fun listed a' w' hL => by
    have := wpAny_of_seq (md := .any) (Q' := NP Q) (l.drop n) n listed a' w' (fun j => by simp [List.getElem?_drop]) (by rw [hdl]; exact hL.1) hL.2
    rwa [hdl] at this) _ _ _ _ H
  rw [hol, show n + (l.toArray.size - n) = l.toArray.size by omega] at this
  exact this
end

variable {P : Program} {N : NN} {Q : Exit → Act → World → Prop} {S : World → Prop} {σ : Env} {w w' : World} {ops rest : List Oper} {L : Act → World → Prop} {r : List (Nat × Bool)}
  {d : Tmp} {ty : TypeId} {pos : String} {af : Array Edge} {g : Option (Nat × Bool)} {i : Nat}
/-- What is left of the head's order. -/
def RX (P : Program) (N : NN) (ops : List Oper) (Q : Exit → Act → World → Prop) (S : World → Prop) (n : Nat) (r : List (Nat × Bool)) (σ : Env) (w : World) : Prop :=
  HW P ops.toArray Q S (fun a' w' => wpList P ops.toArray Q (ops.drop n) a' w') r (Fr N σ) w
variable {n : Nat}
theorem draw_ {id : Nat} {l : List Oper} (n : Nat) (order : List (Nat × Bool)) (S : World → Prop) (hm : P.follows .mixedOrders = true) (hB : heldB .any l.toArray n order = true)
    (hS : ∀ w', w' = { w with drawn := w.drawn + 1 } → S w') (h : ∀ w', w' = { w with drawn := w.drawn + 1 } → RX P N l (NP Q) S n order σ w') : (Code.region id l.toArray true).wp P Q (Fr N σ) w :=
  wp_region_heldTail n order S hm hB (hS _ rfl) (h _ rfl)
theorem rx_nil {l : List Oper} (hl : ops.drop n = l) (h : RL P N ops Q l σ w) : RX P N ops Q S n [] σ w := by
  subst hl; exact h
theorem rx_val {op : Op} {v : Value} (ho : ops[i]? = some ⟨some d, op, ty, pos, af, g⟩) (hg : want N ops σ g = true) (h : ∀ w, S w → (execOp (ev N σ) ⟨some d, op, ty, pos, af, g⟩).run P w = .ok (.value v) w)
    (k : RX P N ops Q S n r (upd σ d v) w) : RX P N ops Q S n ((i, false) :: r) σ w := by
  refine ⟨_, v, by simpa using ho, .inl ⟨by rw [want_eq]; exact hg, fun w hS => by rw [eval_Fr']; exact h w hS⟩, ?_⟩
  show HW _ _ _ _ _ _ ((Fr N σ).put (some d) v) _
  rw [put_some]; exact k
theorem rx_off {op : Op} (ho : ops[i]? = some ⟨some d, op, ty, pos, af, g⟩) (hg : want N ops σ g = false)
    (k : RX P N ops Q S n r (upd σ d undef) w) : RX P N ops Q S n ((i, false) :: r) σ w := by
  refine ⟨_, undef, by simpa using ho, .inr ⟨by rw [want_eq]; exact hg, rfl⟩, ?_⟩
  show HW _ _ _ _ _ _ ((Fr N σ).put (some d) undef) _
  rw [put_some]; exact k
theorem wp_kq {K : Env → World → Prop} {o : Oper} {a : Act} {next : Act → World → Prop} (h : o.wp P a w next (KQ N K Q)) : o.wp P a w next Q := by
  unfold Oper.wp at *
  generalize (execOp a.eval o).run P w = r at *
  cases r with
  | ok m w' => cases m <;> exact h
  | halt x w' => cases x <;> exact h
/-- An operation of the head behind which more holds than S: as in a region of it alone. -/
theorem rx_effS {o : Oper} (ho : ops[i]? = some o)
    (h : ∀ K : Env → World → Prop, (∀ (S' : World → Prop) σ' w', (∀ w, S' w → S w) → S' w' → RX P N ops Q S' n r σ' w' → K σ' w') → RL P N ops (KQ N K Q) [o] σ w) : RX P N ops Q S n ((i, true) :: r) σ w := by
  have this := h (fun σ' w' => ∃ S' : World → Prop, (∀ w, S' w → S w) ∧ S' w' ∧ RX P N ops Q S' n r σ' w') (fun S' _ _ hs a b => ⟨S', hs, a, b⟩)
  unfold RL wpList at this
  have h2 : wpOp P ops.toArray Q i (wpList P ops.toArray (KQ N (fun σ' w' => ∃ S' : World → Prop, (∀ w, S' w → S w) ∧ S' w' ∧ RX P N ops Q S' n r σ' w') Q) []) (Fr N σ) w := by
    unfold wpOp
    simp only [List.getElem?_toArray, ho]
    split
    · rename_i hw
      rw [if_pos hw] at this
      rcases this with h1 | h1
      · exact .inl (wp_kq h1)
      · exact .inr h1
    · rename_i hw
      rw [if_neg hw] at this
      exact this
  simp only [RX, HW]
  refine wpOp_mono ?_ h2
  rintro a w ⟨σ', rfl, h3⟩
  exact h3
/-- An operation of the head that keeps S. -/
theorem rx_eff {o : Oper} (ho : ops[i]? = some o)
    (h : ∀ K : Env → World → Prop, (∀ σ' w', S w' → RX P N ops Q S n r σ' w' → K σ' w') → RL P N ops (KQ N K Q) [o] σ w) : RX P N ops Q S n ((i, true) :: r) σ w :=
  rx_effS ho fun K hK => h K fun σ' w' h1 h2 => hK S σ' w' (fun _ h => h) h1 h2
theorem rx_load {t : TypeId} {x : Operand} {A : Addr} {v : Value} (ho : ops[i]? = some ⟨some d, .load t x, ty, pos, af, g⟩) (hT : VarT P t) (hg : want N ops σ g = true) (hx : ev N σ x = .pointer (some A)) (hc : ∀ w, S w → w.cell? A = some v)
    (k : RX P N ops Q S n r (upd σ d v) w) : RX P N ops Q S n ((i, false) :: r) σ w :=
  rx_val ho hg (fun w hS => by simp [execOp, hx, Instr.loadAt, Instr.sureAddr, loadVar, hT.noAgg, hc w hS]) k
end Go.Eng
set_option linter.unusedVariables false
set_option linter.unusedSimpArgs false
namespace Go.Eng
open Go Go.RowKit
variable {P : Program} {N : NN} {Q : Exit → Act → World → Prop} {σ : Env} {w w' : World} {ops rest : List Oper}
  {d : Tmp} {ty : TypeId} {pos : String} {af : Array Edge} {g : Option (Nat × Bool)}
theorem run_eqnil {t e sz by_ : Nat} {z : Value} (hT : SlT P t e sz by_ z) (a : Option Addr) (n c : Nat) (w : World) : (binOp .eql t (.slice a n c) (.slice none 0 0)).run P w = .ok (.bool a.isNone) w := by
  have h : ∀ d : Nat, (Op.equalIn (d + 1) t (.slice a n c) (.slice none 0 0)).run P w = .ok a.isNone w := fun d => by
    cases a <;> simp [Op.equalIn, run_underlying hT.und]
  simp only [binOp]
  simp [Op.equal, Op.maxDepth, h 9999]
theorem rl_eqnil {t t' e sz by_ : Nat} {x y : Operand} {z : Value} {a : Option Addr} {n c : Nat} {b : Bool} (hT : SlT P t e sz by_ z) (hg : want N ops σ g = true) (hx : ev N σ x = .slice a n c) (hy : ev N σ y = .slice none 0 0) (hb : a.isNone = b)
    (k : RL P N ops Q rest (upd σ d (.bool b)) w) : RL P N ops Q (⟨some d, .binOp .eql t x y t', ty, pos, af, g⟩ :: rest) σ w :=
  rl_val hg (by subst hb; unfold execOp; simp only [hx, hy]; simp [eqGuard, run_eqnil hT]) k
theorem rl_neqnil {t t' e sz by_ : Nat} {x y : Operand} {z : Value} {a : Option Addr} {n c : Nat} {b : Bool} (hT : SlT P t e sz by_ z) (hg : want N ops σ g = true) (hx : ev N σ x = .slice a n c) (hy : ev N σ y = .slice none 0 0) (hb : a.isNone = !b)
    (k : RL P N ops Q rest (upd σ d (.bool b)) w) : RL P N ops Q (⟨some d, .binOp .neq t x y t', ty, pos, af, g⟩ :: rest) σ w := by
  refine rl_val hg ?_ k
  have h : ∀ d : Nat, (Op.equalIn (d + 1) t (.slice a n c) (.slice none 0 0)).run P w = .ok a.isNone w := fun d => by
    cases a <;> simp [Op.equalIn, run_underlying hT.und]
  unfold execOp; simp only [hx, hy]
  simp [eqGuard, binOp, Op.equal, Op.maxDepth, h 9999, hb]
/-- clear(x), x the tail of a block of the call's own. -/
theorem rl_clear {t e sz by_ : Nat} {x : Operand} {z : Value} {a : Option Addr} {n c b off : Nat} {cs : List Value} {t' : TypeId} (hT : SlT P t e sz by_ z) (hzc : z.cells.size = sz) (hz1 : ∀ u ∈ z.cells.toList, u.oneCell' = true) (hg : want N ops σ g = true) (hx : ev N σ x = .slice a n c)
    (ha : 0 < n → a = some ⟨b, off, none⟩) (hB : Blk w b cs t') (hfit : off + n * sz ≤ cs.length)
    (k : ∀ w' cs', Blk w' b cs' t' → cs'.length = cs.length → cs'.take off = cs.take off → Chg b w w' → w'.heap.size = w.heap.size → RL P N ops Q rest σ w') :
    RL P N ops Q (⟨none, .call ⟨.builtin .clear, #[x], #[t]⟩, ty, pos, af, g⟩ :: rest) σ w := by
  rcases Nat.eq_zero_or_pos n with rfl | hn
  · refine rl_val_none (v := .tuple #[]) hg ?_ (k w cs hB rfl rfl (Chg.refl _ _) rfl)
    cases a <;> simp [execOp, resolve, invoke, builtin, hx, Builtin.clear_, run_underlying hT.und]
  · have ha' := ha hn
    subst ha'
    obtain ⟨inf, hi1, hi2, hi3, hi4⟩ := hT.info
    obtain ⟨n', rfl⟩ : ∃ n', n = n' + 1 := ⟨n - 1, by omega⟩
    have hlen : (Builtin.zeroCells z.cells (n' + 1)).toList.length = (n' + 1) * sz := by rw [Array.length_toList, size_zeroCells, hzc]
    have hall : ∀ u ∈ (Builtin.zeroCells z.cells (n' + 1)).toList, u.oneCell' = true := by
      intro u hu
      simp only [Builtin.zeroCells, Array.toList_map, List.mem_map] at hu
      obtain ⟨i, hi, rfl⟩ := hu
      have hi' : i < (n' + 1) * z.cells.size := by simpa using hi
      have hpos : 0 < z.cells.size := by
        rcases Nat.eq_zero_or_pos z.cells.size with h | h
        · rw [h] at hi'; simp at hi'
        · exact h
      have hlt := Nat.mod_lt i hpos
      rw [getElem!_pos z.cells _ hlt]
      exact hz1 _ (Array.getElem_mem_toList hlt)
    have hst := run_storeCells_at P b off t' (Builtin.zeroCells z.cells (n' + 1)).toList 0 cs.toArray w hB (by simp only [List.size_toArray, Nat.add_zero]; rw [hlen]; omega) hall
    simp only [Nat.add_zero] at hst
    refine rl_val_none (v := .tuple #[]) hg (w' := w.setRow b (cs.take off ++ (Builtin.zeroCells z.cells (n' + 1)).toList ++ cs.drop (off + (Builtin.zeroCells z.cells (n' + 1)).toList.length)).toArray) ?_ (k _ _ (blk_row hB) ?_ ?_ (chg_row _ _ _) (by simp))
    · simp [execOp, resolve, invoke, builtin, hx, Builtin.clear_, run_underlying hT.und, zeroValue, typeInfo, hi1, hi2]
      simp at hst
      rw [hst]
      rfl
    · simp only [List.length_append, List.length_take, List.length_drop]; rw [hlen]; omega
    · rw [List.append_assoc, List.take_left' (by simp; omega)]
end Go.Eng
set_option linter.unusedVariables false
set_option linter.unusedSimpArgs false
namespace Go.Eng
open Go Go.RowKit
variable {P : Program} {N : NN} {Q : Exit → Act → World → Prop} {S : World → Prop} {σ : Env} {w w' : World} {ops rest : List Oper} {r : List (Nat × Bool)}
  {d : Tmp} {ty : TypeId} {pos : String} {af : Array Edge} {g : Option (Nat × Bool)} {io nt : Nat}
section
variable {x y : Operand} {m n : Int} {t : TypeId}
theorem rx_move {x : Operand} {v : Value} (ho : ops[io]? = some ⟨some d, .move x, ty, pos, af, g⟩) (hg : want N ops σ g = true) (hx : ev N σ x = v)
    (k : RX P N ops Q S nt r (upd σ d v) w) : RX P N ops Q S nt ((io, false) :: r) σ w :=
  rx_val ho hg (fun w _ => by simp [execOp, hx]) k
theorem rx_assign {x : Operand} {v : Value} (ho : ops[io]? = some ⟨some d, .assign x, ty, pos, af, g⟩) (hg : want N ops σ g = true) (hx : ev N σ x = v)
    (k : RX P N ops Q S nt r (upd σ d v) w) : RX P N ops Q S nt ((io, false) :: r) σ w :=
  rx_val ho hg (fun w _ => by simp [execOp, hx]) k
theorem rx_pick {c x y : Operand} {b : Bool} {v : Value} (ho : ops[io]? = some ⟨some d, .pick c x y, ty, pos, af, g⟩) (hg : want N ops σ g = true) (hc : ev N σ c = .bool b) (hx : (bif b then ev N σ x else ev N σ y) = v)
    (k : RX P N ops Q S nt r (upd σ d v) w) : RX P N ops Q S nt ((io, false) :: r) σ w :=
  rx_val ho hg (fun w _ => by cases b <;> simp [execOp, hc, asBool] <;> simpa using hx) k

theorem rx_add {t' : TypeId} (ho : ops[io]? = some ⟨some d, .binOp .add t x y t', ty, pos, af, g⟩) (hg : want N ops σ g = true) (hx : ev N σ x = .int .i64 m) (hy : ev N σ y = .int .i64 n)
    (h1 : -9223372036854775808 ≤ m + n) (h2 : m + n ≤ 9223372036854775807)
    (k : RX P N ops Q S nt r (upd σ d (.int .i64 (m + n))) w) : RX P N ops Q S nt ((io, false) :: r) σ w :=
  rx_val ho hg (fun w _ => by rw [run_int .add hx hy _ rfl]; simp [binOp, Op.intArith, wrap_id h1 h2]) k
theorem rx_sub {t' : TypeId} (ho : ops[io]? = some ⟨some d, .binOp .sub t x y t', ty, pos, af, g⟩) (hg : want N ops σ g = true) (hx : ev N σ x = .int .i64 m) (hy : ev N σ y = .int .i64 n)
    (h1 : -9223372036854775808 ≤ m - n) (h2 : m - n ≤ 9223372036854775807)
    (k : RX P N ops Q S nt r (upd σ d (.int .i64 (m - n))) w) : RX P N ops Q S nt ((io, false) :: r) σ w :=
  rx_val ho hg (fun w _ => by rw [run_int .sub hx hy _ rfl]; simp [binOp, Op.intArith, wrap_id h1 h2]) k
theorem rx_mul {t' : TypeId} (ho : ops[io]? = some ⟨some d, .binOp .mul t x y t', ty, pos, af, g⟩) (hg : want N ops σ g = true) (hx : ev N σ x = .int .i64 m) (hy : ev N σ y = .int .i64 n)
    (h1 : -9223372036854775808 ≤ m * n) (h2 : m * n ≤ 9223372036854775807)
    (k : RX P N ops Q S nt r (upd σ d (.int .i64 (m * n))) w) : RX P N ops Q S nt ((io, false) :: r) σ w :=
  rx_val ho hg (fun w _ => by rw [run_int .mul hx hy _ rfl]; simp [binOp, Op.intArith, wrap_id h1 h2]) k
theorem rx_rem {t' : TypeId} (ho : ops[io]? = some ⟨some d, .binOp .rem t x y t', ty, pos, af, g⟩) (hg : want N ops σ g = true) (hx : ev N σ x = .int .i64 m) (hy : ev N σ y = .int .i64 n) (h1 : 0 ≤ m) (h2 : 0 < n)
    (k : RX P N ops Q S nt r (upd σ d (.int .i64 (m % n))) w) : RX P N ops Q S nt ((io, false) :: r) σ w :=
  rx_val ho hg (fun w _ => by
    rw [run_int .rem hx hy _ rfl]
    have : n ≠ 0 := by omega
    simp [binOp, Op.intDiv, this, Int.tmod_eq_emod_of_nonneg h1]) k
theorem rx_quo {t' : TypeId} (ho : ops[io]? = some ⟨some d, .binOp .quo t x y t', ty, pos, af, g⟩) (hg : want N ops σ g = true) (hx : ev N σ x = .int .i64 m) (hy : ev N σ y = .int .i64 n) (h1 : 0 ≤ m) (h2 : 0 < n) (h3 : m ≤ 9223372036854775807)
    (k : RX P N ops Q S nt r (upd σ d (.int .i64 (m / n))) w) : RX P N ops Q S nt ((io, false) :: r) σ w :=
  rx_val ho hg (fun w _ => by
    rw [run_int .quo hx hy _ rfl]
    have hn : n ≠ 0 := by omega
    have h4 : 0 ≤ m / n := Int.ediv_nonneg h1 (by omega)
    have h5 : m / n ≤ m := Int.ediv_le_self _ h1
    simp [binOp, Op.intDiv, hn, Int.tdiv_eq_ediv_of_nonneg h1, wrap_id (z := m / n) (by omega) (by omega)]) k
theorem rx_cmp {t' : TypeId} {b : Bool} (op : BinOp) (ho : ops[io]? = some ⟨some d, .binOp op t x y t', ty, pos, af, g⟩) (hg : want N ops σ g = true) (hx : ev N σ x = .int .i64 m) (hy : ev N σ y = .int .i64 n)
    (hb : ∀ w : World, (binOp op t (.int .i64 m) (.int .i64 n)).run P w = .ok (.bool b) w)
    (k : RX P N ops Q S nt r (upd σ d (.bool b)) w) : RX P N ops Q S nt ((io, false) :: r) σ w :=
  rx_val ho hg (fun w _ => by rw [run_int op hx hy _ rfl]; simp [hb]) k
theorem rx_lss_t {t' : TypeId} (ho : ops[io]? = some ⟨some d, .binOp .lss t x y t', ty, pos, af, g⟩) (hg : want N ops σ g = true) (hx : ev N σ x = .int .i64 m) (hy : ev N σ y = .int .i64 n) (h : m < n)
    (k : RX P N ops Q S nt r (upd σ d (.bool true)) w) : RX P N ops Q S nt ((io, false) :: r) σ w :=
  rx_cmp .lss ho hg hx hy (fun _ => by simp [binOp, Op.intCmp, h]) k
theorem rx_lss_f {t' : TypeId} (ho : ops[io]? = some ⟨some d, .binOp .lss t x y t', ty, pos, af, g⟩) (hg : want N ops σ g = true) (hx : ev N σ x = .int .i64 m) (hy : ev N σ y = .int .i64 n) (h : n ≤ m)
    (k : RX P N ops Q S nt r (upd σ d (.bool false)) w) : RX P N ops Q S nt ((io, false) :: r) σ w :=
  rx_cmp .lss ho hg hx hy (fun _ => by simp [binOp, Op.intCmp]; omega) k
theorem rx_lss {t' : TypeId} (ho : ops[io]? = some ⟨some d, .binOp .lss t x y t', ty, pos, af, g⟩) (hg : want N ops σ g = true) (hx : ev N σ x = .int .i64 m) (hy : ev N σ y = .int .i64 n)
    (k : RX P N ops Q S nt r (upd σ d (.bool (decide (m < n)))) w) : RX P N ops Q S nt ((io, false) :: r) σ w :=
  rx_cmp .lss ho hg hx hy (fun _ => by simp [binOp, Op.intCmp]) k
theorem rx_leq_t {t' : TypeId} (ho : ops[io]? = some ⟨some d, .binOp .leq t x y t', ty, pos, af, g⟩) (hg : want N ops σ g = true) (hx : ev N σ x = .int .i64 m) (hy : ev N σ y = .int .i64 n) (h : m ≤ n)
    (k : RX P N ops Q S nt r (upd σ d (.bool true)) w) : RX P N ops Q S nt ((io, false) :: r) σ w :=
  rx_cmp .leq ho hg hx hy (fun _ => by simp [binOp, Op.intCmp, h]) k
theorem rx_leq_f {t' : TypeId} (ho : ops[io]? = some ⟨some d, .binOp .leq t x y t', ty, pos, af, g⟩) (hg : want N ops σ g = true) (hx : ev N σ x = .int .i64 m) (hy : ev N σ y = .int .i64 n) (h : n < m)
    (k : RX P N ops Q S nt r (upd σ d (.bool false)) w) : RX P N ops Q S nt ((io, false) :: r) σ w :=
  rx_cmp .leq ho hg hx hy (fun _ => by simp [binOp, Op.intCmp]; omega) k
theorem rx_leq {t' : TypeId} (ho : ops[io]? = some ⟨some d, .binOp .leq t x y t', ty, pos, af, g⟩) (hg : want N ops σ g = true) (hx : ev N σ x = .int .i64 m) (hy : ev N σ y = .int .i64 n)
    (k : RX P N ops Q S nt r (upd σ d (.bool (decide (m ≤ n)))) w) : RX P N ops Q S nt ((io, false) :: r) σ w :=
  rx_cmp .leq ho hg hx hy (fun _ => by simp [binOp, Op.intCmp]) k
theorem rx_gtr_t {t' : TypeId} (ho : ops[io]? = some ⟨some d, .binOp .gtr t x y t', ty, pos, af, g⟩) (hg : want N ops σ g = true) (hx : ev N σ x = .int .i64 m) (hy : ev N σ y = .int .i64 n) (h : n < m)
    (k : RX P N ops Q S nt r (upd σ d (.bool true)) w) : RX P N ops Q S nt ((io, false) :: r) σ w :=
  rx_cmp .gtr ho hg hx hy (fun _ => by simp [binOp, Op.intCmp, h]) k
theorem rx_gtr_f {t' : TypeId} (ho : ops[io]? = some ⟨some d, .binOp .gtr t x y t', ty, pos, af, g⟩) (hg : want N ops σ g = true) (hx : ev N σ x = .int .i64 m) (hy : ev N σ y = .int .i64 n) (h : m ≤ n)
    (k : RX P N ops Q S nt r (upd σ d (.bool false)) w) : RX P N ops Q S nt ((io, false) :: r) σ w :=
  rx_cmp .gtr ho hg hx hy (fun _ => by simp [binOp, Op.intCmp]; omega) k
theorem rx_gtr {t' : TypeId} (ho : ops[io]? = some ⟨some d, .binOp .gtr t x y t', ty, pos, af, g⟩) (hg : want N ops σ g = true) (hx : ev N σ x = .int .i64 m) (hy : ev N σ y = .int .i64 n)
    (k : RX P N ops Q S nt r (upd σ d (.bool (decide (n < m)))) w) : RX P N ops Q S nt ((io, false) :: r) σ w :=
  rx_cmp .gtr ho hg hx hy (fun _ => by simp [binOp, Op.intCmp]) k
theorem rx_geq_t {t' : TypeId} (ho : ops[io]? = some ⟨some d, .binOp .geq t x y t', ty, pos, af, g⟩) (hg : want N ops σ g = true) (hx : ev N σ x = .int .i64 m) (hy : ev N σ y = .int .i64 n) (h : n ≤ m)
    (k : RX P N ops Q S nt r (upd σ d (.bool true)) w) : RX P N ops Q S nt ((io, false) :: r) σ w :=
  rx_cmp .geq ho hg hx hy (fun _ => by simp [binOp, Op.intCmp, h]) k
theorem rx_geq_f {t' : TypeId} (ho : ops[io]? = some ⟨some d, .binOp .geq t x y t', ty, pos, af, g⟩) (hg : want N ops σ g = true) (hx : ev N σ x = .int .i64 m) (hy : ev N σ y = .int .i64 n) (h : m < n)
    (k : RX P N ops Q S nt r (upd σ d (.bool false)) w) : RX P N ops Q S nt ((io, false) :: r) σ w :=
  rx_cmp .geq ho hg hx hy (fun _ => by simp [binOp, Op.intCmp]; omega) k
theorem rx_geq {t' : TypeId} (ho : ops[io]? = some ⟨some d, .binOp .geq t x y t', ty, pos, af, g⟩) (hg : want N ops σ g = true) (hx : ev N σ x = .int .i64 m) (hy : ev N σ y = .int .i64 n)
    (k : RX P N ops Q S nt r (upd σ d (.bool (decide (n ≤ m)))) w) : RX P N ops Q S nt ((io, false) :: r) σ w :=
  rx_cmp .geq ho hg hx hy (fun _ => by simp [binOp, Op.intCmp]) k
theorem rx_eql_t {t' : TypeId} (ho : ops[io]? = some ⟨some d, .binOp .eql t x y t', ty, pos, af, g⟩) (hg : want N ops σ g = true) (hx : ev N σ x = .int .i64 m) (hy : ev N σ y = .int .i64 n) (h : m = n)
    (k : RX P N ops Q S nt r (upd σ d (.bool true)) w) : RX P N ops Q S nt ((io, false) :: r) σ w :=
  rx_cmp .eql ho hg hx hy (fun _ => by simp [binOp, Op.intCmp, h]) k
theorem rx_eql_f {t' : TypeId} (ho : ops[io]? = some ⟨some d, .binOp .eql t x y t', ty, pos, af, g⟩) (hg : want N ops σ g = true) (hx : ev N σ x = .int .i64 m) (hy : ev N σ y = .int .i64 n) (h : m ≠ n)
    (k : RX P N ops Q S nt r (upd σ d (.bool false)) w) : RX P N ops Q S nt ((io, false) :: r) σ w :=
  rx_cmp .eql ho hg hx hy (fun _ => by simp [binOp, Op.intCmp, h]) k
theorem rx_eql {t' : TypeId} (ho : ops[io]? = some ⟨some d, .binOp .eql t x y t', ty, pos, af, g⟩) (hg : want N ops σ g = true) (hx : ev N σ x = .int .i64 m) (hy : ev N σ y = .int .i64 n)
    (k : RX P N ops Q S nt r (upd σ d (.bool (decide (m = n)))) w) : RX P N ops Q S nt ((io, false) :: r) σ w :=
  rx_cmp .eql ho hg hx hy (fun _ => by
    simp only [binOp, Op.intCmp, ne_eq, not_true_eq_false, if_false]
    show Result.ok _ _ = _
    rw [show (m == n) = decide (m = n) from rfl]) k
theorem rx_neq_t {t' : TypeId} (ho : ops[io]? = some ⟨some d, .binOp .neq t x y t', ty, pos, af, g⟩) (hg : want N ops σ g = true) (hx : ev N σ x = .int .i64 m) (hy : ev N σ y = .int .i64 n) (h : m ≠ n)
    (k : RX P N ops Q S nt r (upd σ d (.bool true)) w) : RX P N ops Q S nt ((io, false) :: r) σ w :=
  rx_cmp .neq ho hg hx hy (fun _ => by simp [binOp, Op.intCmp, h]) k
theorem rx_neq_f {t' : TypeId} (ho : ops[io]? = some ⟨some d, .binOp .neq t x y t', ty, pos, af, g⟩) (hg : want N ops σ g = true) (hx : ev N σ x = .int .i64 m) (hy : ev N σ y = .int .i64 n) (h : m = n)
    (k : RX P N ops Q S nt r (upd σ d (.bool false)) w) : RX P N ops Q S nt ((io, false) :: r) σ w :=
  rx_cmp .neq ho hg hx hy (fun _ => by simp [binOp, Op.intCmp, h]) k
theorem rx_neq {t' : TypeId} (ho : ops[io]? = some ⟨some d, .binOp .neq t x y t', ty, pos, af, g⟩) (hg : want N ops σ g = true) (hx : ev N σ x = .int .i64 m) (hy : ev N σ y = .int .i64 n)
    (k : RX P N ops Q S nt r (upd σ d (.bool (decide (m ≠ n)))) w) : RX P N ops Q S nt ((io, false) :: r) σ w :=
  rx_cmp .neq ho hg hx hy (fun _ => by
    simp only [binOp, Op.intCmp, ne_eq, not_true_eq_false, if_false]
    show Result.ok _ _ = _
    by_cases h : m = n <;> simp [h]) k
theorem rx_neg (ho : ops[io]? = some ⟨some d, .unOp .neg t x, ty, pos, af, g⟩) (hg : want N ops σ g = true) (hx : ev N σ x = .int .i64 m) (h1 : -9223372036854775808 ≤ -m) (h2 : -m ≤ 9223372036854775807)
    (k : RX P N ops Q S nt r (upd σ d (.int .i64 (-m))) w) : RX P N ops Q S nt ((io, false) :: r) σ w :=
  rx_val ho hg (fun w _ => by simp [execOp, hx, Op.unary, Op.intArith, wrap_id h1 h2]) k
theorem rx_not {b : Bool} (ho : ops[io]? = some ⟨some d, .unOp .not t x, ty, pos, af, g⟩) (hg : want N ops σ g = true) (hx : ev N σ x = .bool b)
    (k : RX P N ops Q S nt r (upd σ d (.bool (!b))) w) : RX P N ops Q S nt ((io, false) :: r) σ w :=
  rx_val ho hg (fun w _ => by simp [execOp, hx, Op.unary]) k
theorem rx_min {ts : Array TypeId} (ho : ops[io]? = some ⟨some d, .call ⟨.builtin .min, #[x, y], ts⟩, ty, pos, af, g⟩) (hg : want N ops σ g = true) (hx : ev N σ x = .int .i64 m) (hy : ev N σ y = .int .i64 n)
    (k : RX P N ops Q S nt r (upd σ d (.int .i64 (min m n))) w) : RX P N ops Q S nt ((io, false) :: r) σ w :=
  rx_val ho hg (fun w _ => by
    have : (if n < m then n else m) = min m n := by split <;> omega
    simp [execOp, resolve, invoke, builtin, hx, hy, run_min_int2, this]) k
theorem rx_max {ts : Array TypeId} (ho : ops[io]? = some ⟨some d, .call ⟨.builtin .max, #[x, y], ts⟩, ty, pos, af, g⟩) (hg : want N ops σ g = true) (hx : ev N σ x = .int .i64 m) (hy : ev N σ y = .int .i64 n)
    (k : RX P N ops Q S nt r (upd σ d (.int .i64 (max m n))) w) : RX P N ops Q S nt ((io, false) :: r) σ w :=
  rx_val ho hg (fun w _ => by
    have : (if m < n then n else m) = max m n := by split <;> omega
    simp [execOp, resolve, invoke, builtin, hx, hy, run_max_int2, this]) k
theorem rx_len {t : TypeId} {x : Operand} {a : Option Addr} {n c e sz by_ : Nat} {z : Value} (ho : ops[io]? = some ⟨some d, .call ⟨.builtin .len, #[x], #[t]⟩, ty, pos, af, g⟩) (hT : SlT P t e sz by_ z) (hg : want N ops σ g = true) (hx : ev N σ x = .slice a n c)
    (k : RX P N ops Q S nt r (upd σ d (.int .i64 n)) w) : RX P N ops Q S nt ((io, false) :: r) σ w :=
  rx_val ho hg (fun w _ => by simp [execOp, resolve, invoke, builtin, hx, Builtin.len_, run_underlying hT.und, goInt]) k
theorem rx_idx {t : TypeId} {x y : Operand} {a : Option Addr} {n c e sz by_ b off : Nat} {i : Int} {z : Value} (ho : ops[io]? = some ⟨some d, .indexAddr t x y, ty, pos, af, g⟩) (hT : SlT P t e sz by_ z) (hg : want N ops σ g = true) (hx : ev N σ x = .slice a n c) (hy : ev N σ y = .int .i64 i)
    (ha : a = some ⟨b, off, none⟩) (h0 : 0 ≤ i) (h1 : i < n)
    (k : RX P N ops Q S nt r (upd σ d (.pointer (some ⟨b, off + i.toNat * sz, none⟩))) w) : RX P N ops Q S nt ((io, false) :: r) σ w := by
  obtain ⟨inf, hi1, hi2, hi3, hi4⟩ := hT.info
  refine rx_val ho hg (fun w _ => ?_) k
  subst ha
  simp [execOp, hx, hy, Instr.indexAt, asIntOf, run_underlying hT.und, h0, h1, sizeOf, typeInfo, hi1, hi3, Addr.add_lit]
theorem rx_idx1 {t : TypeId} {x y : Operand} {a : Option Addr} {n c e by_ b off : Nat} {i : Int} {z : Value} (ho : ops[io]? = some ⟨some d, .indexAddr t x y, ty, pos, af, g⟩) (hT : SlT P t e 1 by_ z) (hg : want N ops σ g = true) (hx : ev N σ x = .slice a n c) (hy : ev N σ y = .int .i64 i)
    (ha : a = some ⟨b, off, none⟩) (h0 : 0 ≤ i) (h1 : i < n)
    (k : RX P N ops Q S nt r (upd σ d (.pointer (some ⟨b, off + i.toNat, none⟩))) w) : RX P N ops Q S nt ((io, false) :: r) σ w :=
  rx_idx ho hT hg hx hy ha h0 h1 (by rw [Nat.mul_one]; exact k)
theorem rx_slice_lh {t : TypeId} {x lo hi : Operand} {a : Option Addr} {n c e sz by_ b off : Nat} {l h : Int} {z : Value} (ho : ops[io]? = some ⟨some d, .slice t x (some lo) (some hi) none, ty, pos, af, g⟩) (hT : SlT P t e sz by_ z) (hg : want N ops σ g = true) (hx : ev N σ x = .slice a n c)
    (hlo : ev N σ lo = .int .i64 l) (hhi : ev N σ hi = .int .i64 h) (ha : 0 < n → a = some ⟨b, off, none⟩) (h0 : 0 ≤ l) (h1 : l ≤ h) (h2 : h ≤ n) (h3 : n ≤ c)
    (k : ∀ a', (l < h → a' = some ⟨b, off + l.toNat * sz, none⟩) → RX P N ops Q S nt r (upd σ d (.slice a' (h.toNat - l.toNat) (c - l.toNat))) w) : RX P N ops Q S nt ((io, false) :: r) σ w := by
  obtain ⟨inf, hi1, hi2, hi3, hi4⟩ := hT.info
  refine rx_val ho hg (v := .slice (if c = l.toNat then a else a.map (·.add (l.toNat * sz))) (h.toNat - l.toNat) (c - l.toNat)) (fun w _ => ?_) (k _ ?_)
  · have e1 : h ≤ (c : Int) := by omega
    have e2 : 0 ≤ h := by omega
    have e3 : l ≤ max h 0 := by omega
    simp [execOp, hx, hlo, hhi, Instr.sliceAt, Instr.slice, Instr.sliceBounds, Instr.sliceBound, asIntOf, run_underlying hT.und, h0, e1, e2, e3, sizeOf, typeInfo, hi1, hi3]
  · intro hlt
    have : ¬ c = l.toNat := by omega
    rw [if_neg this, ha (by omega)]
    simp [Addr.add_lit]
theorem rx_slice_h {t : TypeId} {x hi : Operand} {a : Option Addr} {n c e sz by_ : Nat} {h : Int} {z : Value} (ho : ops[io]? = some ⟨some d, .slice t x none (some hi) none, ty, pos, af, g⟩) (hT : SlT P t e sz by_ z) (hg : want N ops σ g = true) (hx : ev N σ x = .slice a n c)
    (hhi : ev N σ hi = .int .i64 h) (h1 : 0 ≤ h) (h2 : h ≤ n) (h3 : n ≤ c)
    (k : RX P N ops Q S nt r (upd σ d (.slice a h.toNat c)) w) : RX P N ops Q S nt ((io, false) :: r) σ w := by
  obtain ⟨inf, hi1, hi2, hi3, hi4⟩ := hT.info
  refine rx_val ho hg (v := .slice a h.toNat c) (fun w _ => ?_) (k)
  have e1 : h ≤ (c : Int) := by omega
  have e2 : (if c = 0 then a else a.map (·.add 0)) = a := by
    cases a <;> simp [Addr.add]
  simp [execOp, hx, hhi, Instr.sliceAt, Instr.slice, Instr.sliceBounds, Instr.sliceBound, asIntOf, run_underlying hT.und, h1, e1, sizeOf, typeInfo, hi1, hi3]
  cases a <;> simp [Addr.add]
theorem rx_slice_l {t : TypeId} {x lo : Operand} {a : Option Addr} {n c e sz by_ b off : Nat} {l : Int} {z : Value} (ho : ops[io]? = some ⟨some d, .slice t x (some lo) none none, ty, pos, af, g⟩) (hT : SlT P t e sz by_ z) (hg : want N ops σ g = true) (hx : ev N σ x = .slice a n c)
    (hlo : ev N σ lo = .int .i64 l) (ha : 0 < n → a = some ⟨b, off, none⟩) (h0 : 0 ≤ l) (h1 : l ≤ n) (h3 : n ≤ c)
    (k : ∀ a', (l < n → a' = some ⟨b, off + l.toNat * sz, none⟩) → RX P N ops Q S nt r (upd σ d (.slice a' (n - l.toNat) (c - l.toNat))) w) : RX P N ops Q S nt ((io, false) :: r) σ w := by
  obtain ⟨inf, hi1, hi2, hi3, hi4⟩ := hT.info
  refine rx_val ho hg (v := .slice (if c = l.toNat then a else a.map (·.add (l.toNat * sz))) (n - l.toNat) (c - l.toNat)) (fun w _ => ?_) (k _ ?_)
  · simp [execOp, hx, hlo, Instr.sliceAt, Instr.slice, Instr.sliceBounds, Instr.sliceBound, asIntOf, run_underlying hT.und, h0, h1, sizeOf, typeInfo, hi1, hi3]
  · intro hlt
    have : ¬ c = l.toNat := by omega
    rw [if_neg this, ha (by omega)]
    simp [Addr.add_lit]

theorem rx_mkfunc {f : FuncId} {cap : List Operand} {vs : List Value} (ho : ops[io]? = some ⟨some d, .makeFunc (.func f) #[] cap.toArray, ty, pos, af, g⟩) (hg : want N ops σ g = true) (ha : cap.map (ev N σ) = vs)
    (k : RX P N ops Q S nt r (upd σ d (.func (.func f) #[] vs.toArray)) w) : RX P N ops Q S nt ((io, false) :: r) σ w :=
  rx_val ho hg (fun w _ => by subst ha; simp [execOp, Instr.makeFunc]) k
theorem rx_nilck {x : Operand} {A : Addr} (ho : ops[io]? = some ⟨some d, .nilCheck x, ty, pos, af, g⟩) (hg : want N ops σ g = true) (hx : ev N σ x = .pointer (some A))
    (k : RX P N ops Q S nt r (upd σ d (.pointer (some A))) w) : RX P N ops Q S nt ((io, false) :: r) σ w :=
  rx_val ho hg (fun w _ => by simp [execOp, hx]) k
theorem rx_eqnil {t t' e sz by_ : Nat} {x y : Operand} {z : Value} {a : Option Addr} {n c : Nat} {b : Bool} (ho : ops[io]? = some ⟨some d, .binOp .eql t x y t', ty, pos, af, g⟩) (hT : SlT P t e sz by_ z) (hg : want N ops σ g = true) (hx : ev N σ x = .slice a n c) (hy : ev N σ y = .slice none 0 0) (hb : a.isNone = b)
    (k : RX P N ops Q S nt r (upd σ d (.bool b)) w) : RX P N ops Q S nt ((io, false) :: r) σ w :=
  rx_val ho hg (fun w _ => by subst hb; unfold execOp; simp only [hx, hy]; simp [eqGuard, run_eqnil hT]) k
theorem rx_neqnil {t t' e sz by_ : Nat} {x y : Operand} {z : Value} {a : Option Addr} {n c : Nat} {b : Bool} (ho : ops[io]? = some ⟨some d, .binOp .neq t x y t', ty, pos, af, g⟩) (hT : SlT P t e sz by_ z) (hg : want N ops σ g = true) (hx : ev N σ x = .slice a n c) (hy : ev N σ y = .slice none 0 0) (hb : a.isNone = !b)
    (k : RX P N ops Q S nt r (upd σ d (.bool b)) w) : RX P N ops Q S nt ((io, false) :: r) σ w := by
  refine rx_val ho hg (fun w _ => ?_) k
  have h : ∀ d : Nat, (Op.equalIn (d + 1) t (.slice a n c) (.slice none 0 0)).run P w = .ok a.isNone w := fun d => by
    cases a <;> simp [Op.equalIn, run_underlying hT.und]
  unfold execOp; simp only [hx, hy]
  simp [eqGuard, binOp, Op.equal, Op.maxDepth, h 9999, hb]
end
end Go.Eng
set_option linter.unusedVariables false
set_option linter.unusedSimpArgs false
namespace Go.Eng
open Go Go.RowKit
variable {P : Program} {N : NN} {Q : Exit → Act → World → Prop} {σ : Env} {w w' : World}

/-- A drawn region, the world behind the draw under a name. -/
theorem drawn_ {id : Nat} {l : List Oper} (n : Nat) (order : List (Nat × Bool)) (hm : P.follows .mixedOrders = true) (hB : heldB .any l.toArray n order = true)
    (h : ∀ w', Below w.heap.size w w' → w'.heap.size = w.heap.size → Keeps w w' → RX P N l (NP Q) (Keeps w) n order σ w') : (Code.region id l.toArray true).wp P Q (Fr N σ) w :=
  draw_ n order (Keeps w) hm hB (by rintro _ rfl; exact fun _ _ h => h) (by rintro _ rfl; exact h _ ⟨rfl, rfl, rfl, Nat.le_refl _, fun _ _ => rfl⟩ rfl (fun _ _ h => h))

theorem Keeps.refl (w : World) : Keeps w w := fun _ _ h => h
theorem Keeps.trans {w'' : World} (h : Keeps w w') (h' : Keeps w' w'') : Keeps w w'' := fun a v e => h' a v (h a v e)
theorem Keeps.below {B : Nat} {w0 : World} (h : Below B w0 w) (hB : w0.heap.size ≤ B) : Keeps w0 w := fun _ _ e => cell_below e h hB

/-- Two lists, member by member. -/
def All2 {α β : Type} (R : α → β → Prop) : List α → List β → Prop
  | [], [] => True
  | a :: l, b :: m => R a b ∧ All2 R l m
  | _, _ => False
theorem forall2_imp {α β : Type} {R R' : α → β → Prop} : ∀ {l : List α} {m : List β}, All2 R l m → (∀ a b, R a b → R' a b) → All2 R' l m
  | [], [], _, _ => trivial
  | _ :: _, _ :: _, h, hi => ⟨hi _ _ h.1, forall2_imp h.2 hi⟩
  | [], _ :: _, h, _ => h.elim
  | _ :: _, [], h, _ => h.elim
theorem forall2_get {α β : Type} {R : α → β → Prop} : ∀ {l : List α} {m : List β}, All2 R l m → l.length = m.length ∧ ∀ (i : Nat) b, m[i]? = some b → ∃ a, l[i]? = some a ∧ R a b
  | [], [], _ => ⟨rfl, fun i b h => by simp at h⟩
  | a :: l, b :: m, h => by
    have ih := forall2_get h.2
    refine ⟨by simp [ih.1], fun i c hc => ?_⟩
    cases i with
    | zero => simp at hc; subst hc; exact ⟨a, by simp, h.1⟩
    | succ i => simpa using ih.2 i c (by simpa using hc)
  | [], _ :: _, h => h.elim
  | _ :: _, [], h => h.elim
theorem forall2_snoc {α β : Type} {R : α → β → Prop} : ∀ {l : List α} {m : List β} {a : α} {b : β}, All2 R l m → R a b → All2 R (l ++ [a]) (m ++ [b])
  | [], [], _, _, _, hr => ⟨hr, trivial⟩
  | _ :: _, _ :: _, _, _, h, hr => ⟨h.1, forall2_snoc h.2 hr⟩
  | [], _ :: _, _, _, h, _ => h.elim
  | _ :: _, [], _, _, h, _ => h.elim
abbrev Vw := Addr → Option Value
def I64 (n : Int) : Prop := -9223372036854775808 ≤ n ∧ n ≤ 9223372036854775807
/-- The slice v has the elements us, of one cell each. -/
def IsSl (V : Vw) (v : Value) (us : List Value) : Prop :=
  ∃ a c b off, v = .slice a us.length c ∧ us.length ≤ c ∧ c ≤ maxLen ∧ (0 < us.length → a = some ⟨b, off, none⟩) ∧ ∀ i u, us[i]? = some u → V ⟨b, off + i, none⟩ = some u
def IsInts (V : Vw) (v : Value) (xs : List Int) : Prop := IsSl V v (xs.map (Value.int .i64)) ∧ ∀ x ∈ xs, I64 x
def IsBools (V : Vw) (v : Value) (xs : List Bool) : Prop := IsSl V v (xs.map Value.bool)
def IsRows (V : Vw) (v : Value) (ls : List (List Int)) : Prop := ∃ us, IsSl V v us ∧ All2 (IsInts V) us ls
theorem IsSl.mono {V V' : Vw} {v : Value} {us : List Value} (h : IsSl V v us) (hm : ∀ a x, V a = some x → V' a = some x) : IsSl V' v us := by
  obtain ⟨a, c, b, off, h1, h2, h3, h4, h5⟩ := h
  exact ⟨a, c, b, off, h1, h2, h3, h4, fun i u hu => hm _ _ (h5 i u hu)⟩
theorem IsInts.mono {V V' : Vw} {v : Value} {us : List Int} (h : IsInts V v us) (hm : ∀ a x, V a = some x → V' a = some x) : IsInts V' v us := ⟨h.1.mono hm, h.2⟩
theorem IsRows.mono {V V' : Vw} {v : Value} {ls : List (List Int)} (h : IsRows V v ls) (hm : ∀ a x, V a = some x → V' a = some x) : IsRows V' v ls := by
  obtain ⟨us, h1, h2⟩ := h
  exact ⟨us, h1.mono hm, forall2_imp h2 fun _ _ h => h.mono hm⟩
/-- A slice opened: what it is, and its elements by numbers. -/
theorem IsSl.open {V : Vw} {v : Value} {us : List Value} (h : IsSl V v us) :
    ∃ a c b off, v = .slice a us.length c ∧ us.length ≤ c ∧ c ≤ maxLen ∧ (0 < us.length → a = some ⟨b, off, none⟩) ∧ ∀ (i : Int) u, 0 ≤ i → us[i.toNat]? = some u → V ⟨b, off + i.toNat, none⟩ = some u := by
  obtain ⟨a, c, b, off, h1, h2, h3, h4, h5⟩ := h
  exact ⟨a, c, b, off, h1, h2, h3, h4, fun i u _ hu => h5 _ u hu⟩
theorem IsInts.open {V : Vw} {v : Value} {xs : List Int} (h : IsInts V v xs) :
    ∃ a c b off, v = .slice a xs.length c ∧ xs.length ≤ c ∧ c ≤ maxLen ∧ (0 < xs.length → a = some ⟨b, off, none⟩) ∧ (∀ (i : Nat) x, xs[i]? = some x → V ⟨b, off + i, none⟩ = some (.int .i64 x)) := by
  obtain ⟨⟨a, c, b, off, h1, h2, h3, h4, h5⟩, h6⟩ := h
  simp only [List.length_map] at h1 h2 h4
  exact ⟨a, c, b, off, h1, h2, h3, h4, fun i x hx => h5 i _ (by simp [hx])⟩
theorem IsBools.open {V : Vw} {v : Value} {xs : List Bool} (h : IsBools V v xs) :
    ∃ a c b off, v = .slice a xs.length c ∧ xs.length ≤ c ∧ c ≤ maxLen ∧ (0 < xs.length → a = some ⟨b, off, none⟩) ∧ (∀ (i : Nat) x, xs[i]? = some x → V ⟨b, off + i, none⟩ = some (.bool x)) := by
  obtain ⟨a, c, b, off, h1, h2, h3, h4, h5⟩ := h
  simp only [List.length_map] at h1 h2 h4
  exact ⟨a, c, b, off, h1, h2, h3, h4, fun i x hx => h5 i _ (by simp [hx])⟩
theorem IsRows.open {V : Vw} {v : Value} {ls : List (List Int)} (h : IsRows V v ls) :
    ∃ a c b off, v = .slice a ls.length c ∧ ls.length ≤ c ∧ c ≤ maxLen ∧ (0 < ls.length → a = some ⟨b, off, none⟩) ∧ (∀ (i : Nat) xs, ls[i]? = some xs → ∃ u, V ⟨b, off + i, none⟩ = some u ∧ IsInts V u xs) := by
  obtain ⟨us, ⟨a, c, b, off, h1, h2, h3, h4, h5⟩, h6⟩ := h
  obtain ⟨hl, hg⟩ := forall2_get h6
  rw [hl] at h1 h2 h4
  refine ⟨a, c, b, off, h1, h2, h3, h4, fun i xs hx => ?_⟩
  obtain ⟨u, hu, hr⟩ := hg i xs hx
  exact ⟨u, h5 i u hu, hr⟩
theorem Own.isSl {e n b : Nat} {v : Value} {xs : List Value} (h : Own w e 1 v n xs b) : IsSl w.cell? v xs := by
  have hl : xs.length = n := by simpa using h.1
  obtain ⟨a, c, h1, h2, h3, h4⟩ := h.shape
  subst hl
  exact ⟨a, c, b, 0, h1, h2, h3, h4, fun i u hu => by rw [Nat.zero_add]; exact h.cell hu⟩
theorem Own.isInts {e n b : Nat} {v : Value} {xs : List Int} (h : Own w e 1 v n (xs.map (Value.int .i64)) b) (hx : ∀ x ∈ xs, I64 x) : IsInts w.cell? v xs := ⟨h.isSl, hx⟩
theorem Blk.isSl {b e : Nat} {cs : List Value} (h : Blk w b cs e) (hl : cs.length ≤ maxLen) : IsSl w.cell? (.slice (some ⟨b, 0, none⟩) cs.length cs.length) cs :=
  ⟨_, _, b, 0, rfl, Nat.le_refl _, hl, fun _ => rfl, fun i u hu => by rw [Nat.zero_add]; exact h.cell_some hu⟩
theorem IsInts.rng {V : Vw} {v : Value} {xs : List Int} (h : IsInts V v xs) : ∀ x ∈ xs, I64 x := h.2
theorem Own.lt {w : World} {e sz n b : Nat} {v : Value} {xs : List Value} (h : Own w e sz v n xs b) (hn : 0 < n) : b < w.heap.size := by
  obtain ⟨s, hs⟩ := h.blk hn
  exact hs.lt
theorem Own.nil_or {w : World} {e sz n b : Nat} {v : Value} {xs : List Value} (h : Own w e sz v n xs b) : (v = .slice none 0 0 ∧ n = 0 ∧ xs = []) ∨ b < w.heap.size := by
  unfold Own at h
  rcases h.2 with ⟨h1, h2⟩ | ⟨cap, sp, h1, h2, h3, h4, h5⟩
  · subst h2
    exact .inl ⟨h1, rfl, List.eq_nil_of_length_eq_zero (by simpa using h.1)⟩
  · exact .inr h5.lt
theorem Own.keep {w w' : World} {e sz n b c : Nat} {v : Value} {xs : List Value} (h : Own w e sz v n xs b) (hc : Chg c w w') (hs : w.heap.size ≤ c) : Own w' e sz v n xs b := by
  rcases h.nil_or with ⟨rfl, rfl, rfl⟩ | hlt
  · exact Own.nil _ _ _ _
  · exact h.chg hc (by omega)
/-- At an append: the block that may be written is the one that is there, or none that was. -/
theorem Own.fresh {w w' : World} {e sz n b : Nat} {v : Value} {xs : List Value} (h : Own w e sz v n xs b) (h' : Own w' e sz v n xs b) : ∃ b', Own w' e sz v n xs b' ∧ ((b' = b ∧ b < w.heap.size) ∨ b' = w'.heap.size) := by
  rcases h.nil_or with ⟨rfl, rfl, rfl⟩ | hlt
  · exact ⟨w'.heap.size, Own.nil _ _ _ _, .inr rfl⟩
  · exact ⟨b, h', .inl ⟨rfl, hlt⟩⟩
theorem maxLen_le : maxLen ≤ 9223372036854775807 := by unfold maxLen; omega
end Go.Eng
set_option linter.unusedVariables false
set_option linter.unusedSimpArgs false
namespace Go.Eng
open Go Go.RowKit
variable {P : Program} {N : NN} {Q : Exit → Act → World → Prop} {σ : Env} {w w' : World} {ops rest : List Oper}
  {d : Tmp} {ty : TypeId} {pos : String} {af : Array Edge} {g : Option (Nat × Bool)}
/-- v holds the n elements with the cells xs, from place off of block b on, with room behind them. -/
def OwnO (w : World) (e sz : Nat) (v : Value) (n : Nat) (xs : List Value) (b off : Nat) : Prop :=
  xs.length = n * sz ∧ ∃ a cap, v = .slice a n cap ∧ n ≤ cap ∧ cap ≤ maxLen ∧ (0 < cap → a = some ⟨b, off, none⟩ ∧ ∃ pre spare post, pre.length = off ∧ (xs ++ spare).length = cap * sz ∧ Blk w b (pre ++ (xs ++ spare) ++ post) e)
theorem Own.o {e sz n b : Nat} {v : Value} {xs : List Value} (h : Own w e sz v n xs b) : OwnO w e sz v n xs b 0 := by
  unfold Own at h
  obtain ⟨h1, h2⟩ := h
  refine ⟨h1, ?_⟩
  rcases h2 with ⟨rfl, rfl⟩ | ⟨cap, sp, rfl, h3, h4, h5, h6⟩
  · exact ⟨none, 0, rfl, Nat.le_refl _, Nat.zero_le _, fun h => absurd h (by omega)⟩
  · exact ⟨_, cap, rfl, h3, h4, fun _ => ⟨rfl, [], sp, [], rfl, h5, by simpa using h6⟩⟩
theorem OwnO.shape {e sz n b off : Nat} {v : Value} {xs : List Value} (h : OwnO w e sz v n xs b off) : ∃ a c, v = .slice a n c ∧ n ≤ c ∧ c ≤ maxLen ∧ (0 < n → a = some ⟨b, off, none⟩) ∧ (0 < c → a = some ⟨b, off, none⟩) := by
  obtain ⟨h1, a, cap, rfl, h3, h4, h5⟩ := h
  exact ⟨a, cap, rfl, h3, h4, fun h => (h5 (by omega)).1, fun h => (h5 h).1⟩
theorem OwnO.cell {e sz n b off i : Nat} {v u : Value} {xs : List Value} (h : OwnO w e sz v n xs b off) (hi : xs[i]? = some u) : w.cell? ⟨b, off + i, none⟩ = some u := by
  obtain ⟨h1, a, cap, rfl, h3, h4, h5⟩ := h
  have hlt := (List.getElem?_eq_some_iff.1 hi).1
  have hc : 0 < cap := by
    rcases Nat.eq_zero_or_pos cap with h0 | h0
    · have : n = 0 := by omega
      subst this
      simp at h1; subst h1; simp at hlt
    · exact h0
  obtain ⟨_, pre, sp, post, e1, e2, e3⟩ := h5 hc
  refine e3.cell_some ?_
  rw [List.append_assoc, List.getElem?_append_right (by omega), List.append_assoc, List.getElem?_append_left (by omega), e1, Nat.add_sub_cancel_left]
  exact hi
theorem OwnO.ext {e sz n b off : Nat} {v : Value} {xs : List Value} (h : OwnO w e sz v n xs b off) (hb : Below w.heap.size w w') : OwnO w' e sz v n xs b off := by
  obtain ⟨h1, a, cap, h2, h3, h4, h5⟩ := h
  refine ⟨h1, a, cap, h2, h3, h4, fun hc => ?_⟩
  obtain ⟨e0, pre, sp, post, e1, e2, e3⟩ := h5 hc
  exact ⟨e0, pre, sp, post, e1, e2, e3.ext hb⟩
theorem OwnO.lt {e sz n b off : Nat} {v : Value} {xs : List Value} (h : OwnO w e sz v n xs b off) : (∃ a, v = .slice a 0 0 ∧ n = 0 ∧ xs = []) ∨ b < w.heap.size := by
  obtain ⟨h1, a, cap, rfl, h3, h4, h5⟩ := h
  rcases Nat.eq_zero_or_pos cap with h0 | h0
  · have : n = 0 := by omega
    subst this; subst h0
    exact .inl ⟨a, rfl, rfl, List.eq_nil_of_length_eq_zero (by simpa using h1)⟩
  · obtain ⟨_, pre, sp, post, e1, e2, e3⟩ := h5 h0
    exact .inr e3.lt
theorem OwnO.chg {e sz n b c off : Nat} {v : Value} {xs : List Value} (h : OwnO w e sz v n xs b off) (hc : Chg c w w') (hne : b < w.heap.size → b ≠ c) : OwnO w' e sz v n xs b off := by
  obtain ⟨h1, a, cap, h2, h3, h4, h5⟩ := h
  refine ⟨h1, a, cap, h2, h3, h4, fun hcap => ?_⟩
  obtain ⟨e0, pre, sp, post, e1, e2, e3⟩ := h5 hcap
  exact ⟨e0, pre, sp, post, e1, e2, e3.chg hc (hne e3.lt)⟩
/-- The block that may be written, where there is none yet: none that was. -/
theorem OwnO.fresh {e sz n b off : Nat} {v : Value} {xs : List Value} (h : OwnO w e sz v n xs b off) : ∃ b' off', OwnO w e sz v n xs b' off' ∧ ((b' = b ∧ b < w.heap.size) ∨ b' = w.heap.size) := by
  rcases h.lt with ⟨a, rfl, rfl, rfl⟩ | hlt
  · exact ⟨w.heap.size, 0, ⟨by simp, a, 0, rfl, Nat.le_refl _, Nat.zero_le _, fun h => absurd h (by omega)⟩, .inr rfl⟩
  · exact ⟨b, off, h, .inl ⟨rfl, hlt⟩⟩
theorem OwnO.fresh2 {e sz n b off : Nat} {v : Value} {xs : List Value} (h : OwnO w e sz v n xs b off) (h' : OwnO w' e sz v n xs b off) : ∃ b' off', OwnO w' e sz v n xs b' off' ∧ ((b' = b ∧ b < w.heap.size) ∨ b' = w'.heap.size) := by
  rcases h.lt with ⟨a, rfl, rfl, rfl⟩ | hlt
  · exact ⟨w'.heap.size, 0, ⟨by simp, a, 0, rfl, Nat.le_refl _, Nat.zero_le _, fun h => absurd h (by omega)⟩, .inr rfl⟩
  · exact ⟨b, off, h', .inl ⟨rfl, hlt⟩⟩
theorem OwnO.isSl {e n b off : Nat} {v : Value} {xs : List Value} (h : OwnO w e 1 v n xs b off) : IsSl w.cell? v xs := by
  have hl : xs.length = n := by simpa using h.1
  obtain ⟨a, c, h1, h2, h3, h4, _⟩ := h.shape
  subst hl
  exact ⟨a, c, b, off, h1, h2, h3, h4, fun i u hu => h.cell hu⟩
theorem rl_slice_l' {t : TypeId} {x lo : Operand} {a : Option Addr} {n c e sz by_ b off : Nat} {l : Int} {z : Value} (hT : SlT P t e sz by_ z) (hg : want N ops σ g = true) (hx : ev N σ x = .slice a n c)
    (hlo : ev N σ lo = .int .i64 l) (ha : 0 < c → a = some ⟨b, off, none⟩) (h0 : 0 ≤ l) (h1 : l ≤ n) (h3 : n ≤ c)
    (k : ∀ a', (l < c → a' = some ⟨b, off + l.toNat * sz, none⟩) → RL P N ops Q rest (upd σ d (.slice a' (n - l.toNat) (c - l.toNat))) w) : RL P N ops Q (⟨some d, .slice t x (some lo) none none, ty, pos, af, g⟩ :: rest) σ w := by
  obtain ⟨inf, hi1, hi2, hi3, hi4⟩ := hT.info
  refine rl_val hg (v := .slice (if c = l.toNat then a else a.map (·.add (l.toNat * sz))) (n - l.toNat) (c - l.toNat)) ?_ (k _ ?_)
  · simp [execOp, hx, hlo, Instr.sliceAt, Instr.slice, Instr.sliceBounds, Instr.sliceBound, asIntOf, run_underlying hT.und, h0, h1, sizeOf, typeInfo, hi1, hi3]
  · intro hlt
    have : ¬ c = l.toNat := by omega
    rw [if_neg this, ha (by omega)]
    simp [Addr.add_lit]
theorem OwnO.tail {e n b off cap : Nat} {a : Option Addr} {x : Value} {xs : List Value} (h : OwnO w e 1 (.slice a (n + 1) cap) (n + 1) (x :: xs) b off) {a' : Option Addr} (ha' : (1 : Int) < cap → a' = some ⟨b, off + 1, none⟩) :
    OwnO w e 1 (.slice a' n (cap - 1)) n xs b (off + 1) := by
  obtain ⟨h1, a0, cap0, h2, h3, h4, h5⟩ := h
  simp only [Value.slice.injEq] at h2
  obtain ⟨rfl, _, rfl⟩ := h2
  refine ⟨by simpa using h1, a', cap - 1, rfl, by omega, by omega, fun hc => ⟨ha' (by omega), ?_⟩⟩
  obtain ⟨_, pre, sp, post, e1, e2, e3⟩ := h5 (by omega)
  refine ⟨pre ++ [x], sp, post, by simp [e1], ?_, by simpa using e3⟩
  simp only [List.length_append, List.length_cons] at e2 ⊢
  omega

theorem run_append_room' {t ty e g off sLen sCap : Nat} {i : TypeInfo} (ht : P.underlying t = some (.slice e)) (hi : P.info? e = some i)
    (cur : Array Value) (hg : w.heap[g]? = some (.cells cur e (0, 0)))
    (a : Addr) (m c : Nat) (news : List Value) (hl : news.length = m * i.size) (hnews : ∀ j u, news[j]? = some u → w.cell? (a.add j) = some u) (h1 : ∀ u ∈ news, u.oneCell' = true)
    (hroom : sLen + m ≤ sCap) (hfit : off + sLen * i.size + news.length ≤ cur.size) :
    (Builtin.append_ #[t, t] ty #[.slice (some ⟨g, off, none⟩) sLen sCap, .slice (some a) m c]).run P w =
      .ok (.slice (some ⟨g, off, none⟩) (sLen + m) sCap) (w.setRow g (cur.toList.take (off + sLen * i.size) ++ news ++ cur.toList.drop (off + sLen * i.size + news.length)).toArray) := by
  have hf := run_firstCells_some (P := P) w i.size m a m c news hl hnews
  have hst := run_storeCells_at P g (off + sLen * i.size) e news 0 cur w hg (by simpa using hfit) h1
  simp only [Nat.add_zero] at hst
  simp [Builtin.append_, run_underlying ht, sizeOf, typeInfo, hi, Builtin.lenOf, hroom, hf, Addr.add_lit, hst]

theorem run_append_OwnO {t ty e sz by_ b off : Nat} {z v : Value} (hT : SlT P t e sz by_ z) (hzc : z.cells.size = sz) (hsz : 0 < sz) {n m c : Nat} {xs news : List Value} {a : Option Addr} {B o2 : Nat}
    (hown : OwnO w e sz v n xs b off) (ha : 0 < m → a = some ⟨B, o2, none⟩) (hl : news.length = m * sz) (hnews : ∀ j u, news[j]? = some u → w.cell? ⟨B, o2 + j, none⟩ = some u) (h1 : ∀ u ∈ news, u.oneCell' = true)
    (h63 : n + m ≤ maxLen) (hby : (n + m) * by_ ≤ 140737488355328) :
    ∃ v' w' b' off', (Builtin.append_ #[t, t] ty #[v, .slice a m c]).run P w = .ok v' w' ∧ OwnO w' e sz v' (n + m) (xs ++ news) b' off' ∧ (b' = b ∨ w.heap.size ≤ b') ∧ Chg b w w' ∧ (m = 0 → v' = v ∧ w' = w) := by
  obtain ⟨i, hi, hz, hisz, hiby⟩ := hT.info
  subst hisz; subst hiby
  have ht := hT.und
  have hsmall : n + m ≤ 9223372036854775807 := by simp only [maxLen] at h63; omega
  have hown0 := hown
  obtain ⟨hxl, a0, cap, rfl, hnc, hcm, hrest⟩ := hown
  have hlen : (xs ++ news).length = (n + m) * i.size := by rw [List.length_append, hxl, hl, Nat.add_mul]
  by_cases hm : m = 0
  · subst hm
    have hn : news = [] := List.eq_nil_of_length_eq_zero (by simpa using hl)
    subst hn
    simp only [List.append_nil, Nat.add_zero]
    refine ⟨.slice a0 n cap, w, b, off, ?_, hown0, .inl rfl, Chg.refl _ _, fun _ => ⟨rfl, rfl⟩⟩
    cases a <;> cases a0 <;> simp [Builtin.append_, run_underlying ht, sizeOf, typeInfo, hi, Builtin.lenOf, Builtin.firstCells, loadCells, loadCellsFrom, hnc, storeCells]
  · have haa := ha (by omega)
    subst haa
    have hnews' : ∀ j u, news[j]? = some u → w.cell? ((⟨B, o2, none⟩ : Addr).add j) = some u := fun j u h => by rw [Addr.add_lit]; exact hnews j u h
    have grown : ∀ (old : Nat), old < n + m →
        OwnO (w.drew.alloc (.cells (xs.toArray ++ news.toArray ++ Builtin.zeroCells z.cells (grownCap w (n + m) old e - (n + m))) e)) e i.size
          (.slice (some ⟨w.heap.size, 0, none⟩) (n + m) (grownCap w (n + m) old e)) (n + m) (xs ++ news) w.heap.size 0 ∧
        Chg b w (w.drew.alloc (.cells (xs.toArray ++ news.toArray ++ Builtin.zeroCells z.cells (grownCap w (n + m) old e - (n + m))) e)) := by
      intro old ho
      have hge := grownCap_ge w (n + m) old e
      have hcm : grownCap w (n + m) old e ≤ maxLen := grownCap_le_maxLen w (n + m) old e h63
      refine ⟨⟨hlen, _, _, rfl, hge, hcm, fun _ => ⟨rfl, [], (Builtin.zeroCells z.cells (grownCap w (n + m) old e - (n + m))).toList, [], rfl, ?_, ?_⟩⟩, ⟨rfl, rfl, rfl, by simp, fun k hk _ => heap_alloc_old w.drew _ hk⟩⟩
      · simp only [List.length_append, Array.length_toList, size_zeroCells, hzc, hxl, hl, ← Nat.add_mul]
        congr 1
        omega
      · have : xs.toArray ++ news.toArray ++ Builtin.zeroCells z.cells (grownCap w (n + m) old e - (n + m)) = ([] ++ (xs ++ news ++ (Builtin.zeroCells z.cells (grownCap w (n + m) old e - (n + m))).toList) ++ []).toArray := by
          apply Array.ext'; simp
        rw [this]
        exact blk_alloc w.drew _ _
    cases a0 with
    | none =>
      have hc0 : cap = 0 := by
        rcases Nat.eq_zero_or_pos cap with h | h
        · exact h
        · have := (hrest h).1; cases this
      have hn0 : n = 0 := by omega
      subst hn0; subst hc0
      have hx : xs = [] := List.eq_nil_of_length_eq_zero (by simpa using hxl)
      subst hx
      have hr := run_append_nil (P := P) w t ty e i z ht hi hz _ m c news hl hnews' (by omega) (by omega) (by have hb := hby; simp only [Nat.zero_add] at hb; omega)
      have hgr := grown 0 (by omega)
      simp only [Nat.zero_add, List.nil_append, Array.empty_append] at hgr ⊢
      exact ⟨_, _, _, _, hr, hgr.1, .inr (Nat.le_refl _), hgr.2, fun h => absurd h hm⟩
    | some A =>
      by_cases hroom : n + m ≤ cap
      · obtain ⟨h2, pre, sp, post, e1, e2, e3⟩ := hrest (by omega)
        cases h2
        have hm2 := Nat.mul_le_mul_right i.size hroom
        rw [Nat.add_mul] at hm2
        have e2' := e2
        simp only [List.length_append] at e2'
        have hfit : off + n * i.size + news.length ≤ (pre ++ (xs ++ sp) ++ post).toArray.size := by
          simp only [List.size_toArray, List.length_append, e1, hl]
          omega
        have hr := run_append_room' (P := P) (ty := ty) ht hi (pre ++ (xs ++ sp) ++ post).toArray e3 _ m c news hl hnews' h1 hroom hfit
        have t1 : (pre ++ (xs ++ sp) ++ post).take (off + n * i.size) = pre ++ xs := by
          rw [show pre ++ (xs ++ sp) ++ post = (pre ++ xs) ++ (sp ++ post) by simp]
          rw [List.take_left' (by simp [e1, hxl])]
        have t2 : (pre ++ (xs ++ sp) ++ post).drop (off + n * i.size + news.length) = sp.drop news.length ++ post := by
          rw [show pre ++ (xs ++ sp) ++ post = (pre ++ xs) ++ (sp ++ post) by simp]
          rw [show off + n * i.size + news.length = (pre ++ xs).length + news.length by simp [e1, hxl], ← List.drop_drop, List.drop_left, List.drop_append_of_le_length (by rw [hl]; omega)]
        have e5 : (pre ++ (xs ++ sp) ++ post).toArray.toList.take (off + n * i.size) ++ news ++ (pre ++ (xs ++ sp) ++ post).toArray.toList.drop (off + n * i.size + news.length) = pre ++ (xs ++ news ++ sp.drop news.length) ++ post := by
          simp only [t1, t2]; simp
        rw [e5] at hr
        refine ⟨_, _, b, off, hr, ⟨hlen, _, cap, rfl, hroom, hcm, fun _ => ⟨rfl, pre, sp.drop news.length, post, e1, ?_, blk_row e3⟩⟩, .inl rfl, chg_row _ _ _, fun h => absurd h hm⟩
        simp only [List.length_append, List.length_drop] at e2 ⊢
        rw [hl]; omega
      · have holds : ∀ j u, xs[j]? = some u → w.cell? (A.add j) = some u := by
          intro j u h
          have hcp : 0 < cap := by
            rcases Nat.eq_zero_or_pos cap with h0 | h0
            · have : n = 0 := by omega
              subst this
              have hx : xs = [] := List.eq_nil_of_length_eq_zero (by simpa using hxl)
              subst hx; simp at h
            · exact h0
          have hA := (hrest hcp).1
          cases hA
          rw [Addr.add_lit]; exact hown0.cell h
        have hr := run_append_grow (P := P) w t ty e i z ht hi hz A n cap xs hxl holds _ m c news hl hnews' (by omega) (by omega) (growslice_fits (by omega) hby)
        have hgr := grown cap (by omega)
        exact ⟨_, _, _, _, hr, hgr.1, .inr (Nat.le_refl _), hgr.2, fun h => absurd h hm⟩
theorem rl_appendO {t e sz by_ b off : Nat} {x y : Operand} {z v : Value} {n m c : Nat} {xs news : List Value} {a : Option Addr} {B o2 : Nat} (hT : SlT P t e sz by_ z) (hzc : z.cells.size = sz) (hsz : 0 < sz)
    (hown : OwnO w e sz v n xs b off) (hnews : ∀ j u, news[j]? = some u → w.cell? ⟨B, o2 + j, none⟩ = some u) (hg : want N ops σ g = true) (hx : ev N σ x = v) (hy : ev N σ y = .slice a m c)
    (ha : 0 < m → a = some ⟨B, o2, none⟩) (hl : news.length = m * sz) (h1 : ∀ u ∈ news, u.oneCell' = true)
    (h63 : n + m ≤ maxLen) (hby : (n + m) * by_ ≤ 140737488355328)
    (k : ∀ v' w' b' off', OwnO w' e sz v' (n + m) (xs ++ news) b' off' → (b' = b ∨ w.heap.size ≤ b') → Chg b w w' → (m = 0 → v' = v ∧ w' = w) → RL P N ops Q rest (upd σ d v') w') :
    RL P N ops Q (⟨some d, .call ⟨.builtin .append, #[x, y], #[t, t]⟩, ty, pos, af, g⟩ :: rest) σ w := by
  obtain ⟨v', w', b', off', hr, h2, h3, h4, h5⟩ := run_append_OwnO (ty := ty) (c := c) hT hzc hsz hown ha hl hnews h1 h63 hby
  exact rl_val hg (by simp [execOp, resolve, invoke, builtin, hx, hy, hr]) (k v' w' b' off' h2 h3 h4 h5)
end Go.Eng
set_option linter.unusedVariables false
set_option linter.unusedSimpArgs false
namespace Go.Eng
open Go Go.RowKit
variable {P : Program} {N : NN} {Q : Exit → Act → World → Prop} {σ : Env} {w w' : World}
def GQ (N : NN) (l : Nat) (K : Env → World → Prop) (Q : Exit → Act → World → Prop) : Exit → Act → World → Prop := Exit.jump l (fun a w => ∃ σ, a = Fr N σ ∧ K σ w) Q
theorem gq_goto {l : Nat} {K : Env → World → Prop} (h : K σ w) : GQ N l K Q (.goto l) (Fr N σ) w := ⟨rfl, σ, rfl, h⟩
theorem gq_normal {l : Nat} {K : Env → World → Prop} {a : Act} (h : Q .normal a w) : GQ N l K Q .normal a w := h
theorem gq_ret {l : Nat} {K : Env → World → Prop} {a : Act} (h : Q .ret a w) : GQ N l K Q .ret a w := h
theorem gq_exit {l id : Nat} {K : Env → World → Prop} {a : Act} (h : Q (.exit id) a w) : GQ N l K Q (.exit id) a w := h
theorem label_ {l : Nat} (h : Q .normal (Fr N σ) w) : (Code.label l).wp P Q (Fr N σ) w := wp_label h
theorem goto_ {l : Nat} (h : Q (.goto l) (Fr N σ) w) : (Code.goto l).wp P Q (Fr N σ) w := wp_goto h
theorem inBlock_goto {id l : Nat} {a : Act} (h : Q (.goto l) a w) : Exit.inBlock id Q (.goto l) a w := h
theorem scope_ {c rest : Code} (l : Nat) (I : Nat → Env → World → Prop) (hf : findLabel c l = some rest)
    (pass : ∀ m σ w, I m σ w → ∀ K : Env → World → Prop, (∀ m' σ' w', m' < m → I m' σ' w' → K σ' w') → rest.wp P (GQ N l K Q) (Fr N σ) w)
    (first : ∀ K : Env → World → Prop, (∀ m σ w, I m σ w → K σ w) → c.wp P (GQ N l K Q) (Fr N σ) w) : (Code.scope c).wp P Q (Fr N σ) w := by
  classical
  have key : ∀ (a : Act) (w : World), (∃ m σ, a = Fr N σ ∧ I m σ w) → ∃ m σ, a = Fr N σ ∧ I m σ w ∧ ∀ m', m' < m → ¬ ∃ σ, a = Fr N σ ∧ I m' σ w := by
    intro a w ⟨m, σ, ha, hI⟩
    induction m using Nat.strongRecOn generalizing σ with
    | _ m ih =>
      by_cases hx : ∃ m', m' < m ∧ ∃ σ, a = Fr N σ ∧ I m' σ w
      · obtain ⟨m', hlt, σ', ha', hI'⟩ := hx
        exact ih m' hlt σ' ha' hI'
      · exact ⟨m, σ, ha, hI, fun m' hlt hh => hx ⟨m', hlt, hh⟩⟩
  let μ : Act → World → Nat := fun a w => if h : ∃ m σ, a = Fr N σ ∧ I m σ w then (key a w h).choose else 0
  refine wp_scope_jumps l (fun a w => ∃ m σ, a = Fr N σ ∧ I m σ w) μ hf ?_ ?_
  · refine Code.wp_mono ?_ (first (fun σ w => ∃ m, I m σ w) (fun m σ w h => ⟨m, h⟩))
    intro e a w hq
    cases e with
    | goto l' => obtain ⟨h1, σ', rfl, m, hI⟩ := hq; exact ⟨h1, m, σ', rfl, hI⟩
    | _ => exact hq
  · intro a w hI
    obtain ⟨σ1, ha, hI1, hmin⟩ := (key a w hI).choose_spec
    have hμ : μ a w = (key a w hI).choose := by simp only [μ]; rw [dif_pos hI]
    subst ha
    refine Code.wp_mono ?_ (pass _ σ1 w hI1 (fun σ' w' => (∃ m σ, Fr N σ' = Fr N σ ∧ I m σ w') ∧ μ (Fr N σ') w' < μ (Fr N σ1) w) ?_)
    · intro e a w' hq
      cases e with
      | goto l' => obtain ⟨h1, σ', rfl, h2, h3⟩ := hq; exact ⟨h1, h2, h3⟩
      | _ => exact hq
    · intro m' σ' w' hlt hI'
      have hex : ∃ m σ, Fr N σ' = Fr N σ ∧ I m σ w' := ⟨m', σ', rfl, hI'⟩
      refine ⟨hex, ?_⟩
      obtain ⟨σ2, _, _, hmin2⟩ := (key _ w' hex).choose_spec
      have h2 : μ (Fr N σ') w' = (key _ w' hex).choose := by simp only [μ]; rw [dif_pos hex]
      rw [hμ, h2]
      rcases Nat.lt_or_ge m' (key (Fr N σ') w' hex).choose with h3 | h3
      · exact absurd ⟨σ', rfl, hI'⟩ (hmin2 m' h3)
      · omega
theorem map_range2_set (f : Nat → Value) (u v : Value) : ((Array.map f (Array.range 2)).setIfInBounds 0 u).setIfInBounds 1 v = #[u, v] := by
  apply Array.ext
  · simp
  · intro i h1 h2
    have hi : i < 2 := by simpa using h2
    match i, hi with
    | 0, _ => simp [Array.getElem_setIfInBounds]
    | 1, _ => simp [Array.getElem_setIfInBounds]
theorem rl_bslice2 {ops rest : List Oper} {d : Tmp} {ty : TypeId} {pos : String} {af : Array Edge} {g : Option (Nat × Bool)} {t : TypeId} {x y : Operand} {e by_ : Nat} {z u v : Value} (hT : SlT P t e 1 by_ z) (hz : z.oneCell' = true) (hg : want N ops σ g = true) (hx : ev N σ x = u) (hu : u.oneCell' = true) (hy : ev N σ y = v) (hv : v.oneCell' = true)
    (k : ∀ w', Blk w' w.heap.size [u, v] e → Below w.heap.size w w' → w'.heap.size = w.heap.size + 1 →
      RL P N ops Q rest (upd σ d (.slice (some ⟨w.heap.size, 0, none⟩) 2 2)) w') : RL P N ops Q (⟨some d, .buildSlice t 2 #[(0, x), (1, y)], ty, pos, af, g⟩ :: rest) σ w := by
  obtain ⟨inf, hi1, hi2, hi3, hi4⟩ := hT.info
  refine rl_val hg ?_ (k (w.alloc (.cells [u, v].toArray e)) (blk_alloc _ _ _) (ext_alloc _ _) (by simp))
  have hcz : z.cells = #[z] := by cases z <;> first | rfl | (cases hz; done)
  have hcu : u.cells = #[u] := by cases u <;> first | rfl | (cases hu; done)
  have hcv : v.cells = #[v] := by cases v <;> first | rfl | (cases hv; done)
  simp [execOp, hx, hy, Instr.buildSlice, run_underlying hT.und, typeInfo, hi1, hi3, sizeOf, zeroValue, hi2, hcz, Instr.fill, hcu, hcv, newRow]
  rw [map_range2_set]
/-- The same, where what stands behind the label is walked once. -/
theorem scope2_ {c X : Code} (l : Nat) (I : Nat → Env → World → Prop) (hf : findLabel c l = some (.seq .skip X))
    (pass : ∀ m σ w, I m σ w → ∀ K : Env → World → Prop, (∀ m' σ' w', m' < m → I m' σ' w' → K σ' w') → X.wp P (GQ N l K Q) (Fr N σ) w)
    (first : ∀ Q' : Exit → Act → World → Prop, (∀ m σ w, I m σ w → X.wp P Q' (Fr N σ) w) → c.wp P Q' (Fr N σ) w) : (Code.scope c).wp P Q (Fr N σ) w := by
  refine scope_ l I hf (fun m σ w hI K hK => ?_) (fun K hK => ?_)
  · exact seq_ (skip_ (sq_normal (pass m σ w hI K hK)))
  · exact first _ (fun m σ w hI => pass m σ w hI K (fun m' σ' w' _ h => hK m' σ' w' h))
end Go.Eng
