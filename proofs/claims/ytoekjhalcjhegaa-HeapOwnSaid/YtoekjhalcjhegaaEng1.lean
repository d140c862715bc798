/- The frame of a call as a function from slots to values, and rules that carry one operation of the translated code at a time over it. Nothing here names a program. -/
import Derived.WalkKit
import Derived.ProofKit
import Derived.StillTail
import Derived.Deep.Quiet
import Derived.RangeFuncLeaves
import Derived.RangeFuncRecord
set_option linter.unusedVariables false
set_option linter.unusedSimpArgs false
namespace Go.Eng
open Go Go.RowKit

/-! ## The frame -/
abbrev Env := Nat → Value
def upd (σ : Env) (d : Nat) (v : Value) : Env := fun j => bif Nat.beq j d then v else σ j
def ent (l : List Value) : Env := fun j => l.getD j undef
/-- How many slots a call has, and what it will do when it comes back. -/
structure NN where
  n : Nat
  ds : List Deferred
def Fr (N : NN) (σ : Env) : Act := ⟨Array.ofFn (fun j : Fin N.n => σ j), N.ds⟩
def ev (N : NN) (σ : Env) : Operand → Value
  | .tmp t => bif Nat.blt t N.n then σ t else undef
  | .const v => v
  | .global g => .pointer (some ⟨g, 0, none⟩)
  | .func f => .func (.func f) #[] #[]

theorem upd_same (σ : Env) (d : Nat) (v : Value) : upd σ d v d = v := by simp [upd]
theorem upd_ne (σ : Env) (d j : Nat) (v : Value) (h : j ≠ d) : upd σ d v j = σ j := by
  have : Nat.beq j d = false := by
    cases hb : Nat.beq j d with
    | false => rfl
    | true => exact absurd (Nat.eq_of_beq_eq_true hb) h
  simp [upd, this]

theorem getD_Fr (N : NN) (σ : Env) (t : Nat) : (Fr N σ).tmps.getD t undef = bif Nat.blt t N.n then σ t else undef := by
  by_cases h : t < N.n
  · have hb : Nat.blt t N.n = true := by simpa [Nat.blt_eq] using h
    simp [Fr, hb, h]
  · have hb : Nat.blt t N.n = false := by
      cases hb : Nat.blt t N.n with
      | false => rfl
      | true => exact absurd (by simpa [Nat.blt_eq] using hb) h
    simp [Fr, hb, h]
theorem eval_Fr (N : NN) (σ : Env) (x : Operand) : (Fr N σ).eval x = ev N σ x := by
  cases x with
  | tmp t => exact getD_Fr N σ t
  | _ => rfl
theorem eval_Fr' (N : NN) (σ : Env) : (Fr N σ).eval = ev N σ := funext (eval_Fr N σ)
theorem put_some (N : NN) (σ : Env) (d : Nat) (v : Value) : (Fr N σ).put (some d) v = Fr N (upd σ d v) := by
  unfold Act.put Fr
  simp only [Act.mk.injEq, and_true]
  apply Array.ext
  · simp
  · intro i h1 h2
    simp only [Array.size_ofFn] at h2
    by_cases h : d = i
    · subst h; simp [upd]
    · have hb : Nat.beq i d = false := by
        cases hb : Nat.beq i d with
        | false => rfl
        | true => exact absurd (Nat.eq_of_beq_eq_true hb).symm h
      rw [Array.getElem_setIfInBounds_ne (by simpa using h2) h]
      simp [upd, hb]
theorem put_none (N : NN) (σ : Env) (v : Value) : (Fr N σ).put none v = Fr N σ := rfl

theorem Fr_ext {N : NN} {σ σ' : Env} (h : ∀ j, σ j = σ' j) : Fr N σ = Fr N σ' := by
  have : σ = σ' := funext h
  rw [this]

/-! ## Guards -/
def want (N : NN) (ops : List Oper) (σ : Env) : Option (Nat × Bool) → Bool
  | none => true
  | some (j, b) => match (ops[j]?).bind (·.dst) with
    | some d => match ev N σ (.tmp d) with
      | .bool c => c == b
      | _ => false
    | none => false
theorem want_eq (N : NN) (ops : List Oper) (σ : Env) (o : Oper) : Region.wanted o (yielded ops.toArray (Fr N σ).tmps) = want N ops σ o.guard := by
  unfold Region.wanted want
  cases o.guard with
  | none => rfl
  | some g =>
    obtain ⟨j, b⟩ := g
    simp only [yielded, List.getElem?_toArray]
    cases hd : (ops[j]?).bind (·.dst) with
    | none => simp
    | some d =>
      simp only [Option.bind_some, ev]
      by_cases h : d < N.n
      · have hb : Nat.blt d N.n = true := by simpa [Nat.blt_eq] using h
        simp only [hb, cond_true, Fr, Array.getElem?_ofFn, h, dite_true]
        cases σ d <;> simp
      · have hb : Nat.blt d N.n = false := by
          cases hb : Nat.blt d N.n with
          | false => rfl
          | true => exact absurd (by simpa [Nat.blt_eq] using hb) h
        simp [hb, Fr, h, undef]

/-! ## Regions -/
variable {P : Program} {N : NN} {Q : Exit → Act → World → Prop} {σ : Env} {w w' : World} {ops rest : List Oper}

/-- The operations that are still to be carried out, of a region's list 'ops'. -/
def RL (P : Program) (N : NN) (ops : List Oper) (Q : Exit → Act → World → Prop) (l : List Oper) (σ : Env) (w : World) : Prop :=
  wpList P ops.toArray Q l (Fr N σ) w

theorem region_ {id : Nat} {l : List Oper} (h : RL P N l Q l σ w) : (Code.region id l.toArray false).wp P Q (Fr N σ) w := wp_region_lit h
theorem rl_nil (h : Q .normal (Fr N σ) w) : RL P N ops Q [] σ w := h

theorem rl_val {d : Tmp} {op : Op} {ty : TypeId} {pos : String} {af : Array Edge} {g : Option (Nat × Bool)} {v : Value}
    (hg : want N ops σ g = true) (h : (execOp (ev N σ) ⟨some d, op, ty, pos, af, g⟩).run P w = .ok (.value v) w')
    (k : RL P N ops Q rest (upd σ d v) w') : RL P N ops Q (⟨some d, op, ty, pos, af, g⟩ :: rest) σ w := by
  unfold RL wpList
  rw [want_eq, if_pos hg]
  refine .inl ?_
  unfold Oper.wp
  rw [eval_Fr', h]
  show wpList _ _ _ _ ((Fr N σ).put (some d) v) w'
  rw [put_some]; exact k
theorem rl_unit {op : Op} {ty : TypeId} {pos : String} {af : Array Edge} {g : Option (Nat × Bool)}
    (hg : want N ops σ g = true) (h : (execOp (ev N σ) ⟨none, op, ty, pos, af, g⟩).run P w = .ok .skip w')
    (k : RL P N ops Q rest σ w') : RL P N ops Q (⟨none, op, ty, pos, af, g⟩ :: rest) σ w := by
  unfold RL wpList
  rw [want_eq, if_pos hg]
  refine .inl ?_
  unfold Oper.wp
  rw [eval_Fr', h]
  exact k
theorem rl_val_none {op : Op} {ty : TypeId} {pos : String} {af : Array Edge} {g : Option (Nat × Bool)} {v : Value}
    (hg : want N ops σ g = true) (h : (execOp (ev N σ) ⟨none, op, ty, pos, af, g⟩).run P w = .ok (.value v) w')
    (k : RL P N ops Q rest σ w') : RL P N ops Q (⟨none, op, ty, pos, af, g⟩ :: rest) σ w := by
  unfold RL wpList
  rw [want_eq, if_pos hg]
  refine .inl ?_
  unfold Oper.wp
  rw [eval_Fr', h]
  exact k
/-- An operation whose guard says no. -/
theorem rl_off {d : Tmp} {op : Op} {ty : TypeId} {pos : String} {af : Array Edge} {g : Option (Nat × Bool)}
    (hg : want N ops σ g = false) (k : RL P N ops Q rest (upd σ d undef) w) : RL P N ops Q (⟨some d, op, ty, pos, af, g⟩ :: rest) σ w := by
  unfold RL wpList
  rw [want_eq, if_neg (by simp [hg]), put_some]; exact k
theorem rl_off_none {op : Op} {ty : TypeId} {pos : String} {af : Array Edge} {g : Option (Nat × Bool)}
    (hg : want N ops σ g = false) (k : RL P N ops Q rest σ w) : RL P N ops Q (⟨none, op, ty, pos, af, g⟩ :: rest) σ w := by
  unfold RL wpList
  rw [want_eq, if_neg (by simp [hg]), put_none]; exact k

/-- A call of a function that has a body, by its contract. -/
def CallsOk (P : Program) (f : FuncId) (args : Array Value) (w : World) (Post : Value → World → Prop) : Prop :=
  Calls P f args w fun e w' => ∃ v, e = .returned v ∧ Post v w'
theorem CallsOk.mono {f : FuncId} {args : Array Value} {Post Post' : Value → World → Prop} (h : CallsOk P f args w Post) (hp : ∀ v w', Post v w' → Post' v w') : CallsOk P f args w Post' :=
  Calls.mono h fun _ _ ⟨v, he, hq⟩ => ⟨v, he, hp _ _ hq⟩
theorem rl_call {d : Tmp} {op : Op} {ty : TypeId} {pos : String} {af : Array Edge} {g : Option (Nat × Bool)} {f : FuncId} {args : Array Value} {Post : Value → World → Prop}
    (hg : want N ops σ g = true) (h : (execOp (ev N σ) ⟨some d, op, ty, pos, af, g⟩).run P w = .ok (.enter f args) w')
    (hc : CallsOk P f args w' Post)
    (k : ∀ v w'', Post v w'' → RL P N ops Q rest (upd σ d v) w'') : RL P N ops Q (⟨some d, op, ty, pos, af, g⟩ :: rest) σ w := by
  unfold RL wpList
  rw [want_eq, if_pos hg]
  refine .inl ?_
  unfold Oper.wp
  rw [eval_Fr', h]
  refine Calls.mono hc ?_
  rintro e w'' ⟨v, rfl, hq⟩
  show wpList _ _ _ _ ((Fr N σ).put (some d) v) w''
  rw [put_some]; exact k v w'' hq
theorem rl_call_none {op : Op} {ty : TypeId} {pos : String} {af : Array Edge} {g : Option (Nat × Bool)} {f : FuncId} {args : Array Value} {Post : Value → World → Prop}
    (hg : want N ops σ g = true) (h : (execOp (ev N σ) ⟨none, op, ty, pos, af, g⟩).run P w = .ok (.enter f args) w')
    (hc : CallsOk P f args w' Post)
    (k : ∀ v w'', Post v w'' → RL P N ops Q rest σ w'') : RL P N ops Q (⟨none, op, ty, pos, af, g⟩ :: rest) σ w := by
  unfold RL wpList
  rw [want_eq, if_pos hg]
  refine .inl ?_
  unfold Oper.wp
  rw [eval_Fr', h]
  refine Calls.mono hc ?_
  rintro e w'' ⟨v, rfl, hq⟩
  exact k v w'' hq

/-! ## Control -/
/-- What stands behind, under a name. -/
def KQ (N : NN) (K : Env → World → Prop) (Q : Exit → Act → World → Prop) : Exit → Act → World → Prop :=
  Exit.then (fun a w => ∃ σ, a = Fr N σ ∧ K σ w) Q
theorem kq_normal {K : Env → World → Prop} (h : K σ w) : KQ N K Q .normal (Fr N σ) w := ⟨σ, rfl, h⟩
/-- What stands behind, as code. -/
def SQ (P : Program) (y : Code) (Q : Exit → Act → World → Prop) : Exit → Act → World → Prop := Exit.then (y.wp P Q) Q
theorem seq_ {x y : Code} (h : x.wp P (SQ P y Q) (Fr N σ) w) : (Code.seq x y).wp P Q (Fr N σ) w := wp_seq h
theorem sq_normal {y : Code} {a : Act} (h : y.wp P Q a w) : SQ P y Q .normal a w := h
theorem sq_ret {y : Code} {a : Act} (h : Q .ret a w) : SQ P y Q .ret a w := h
theorem sq_exit {y : Code} {a : Act} {id : Nat} (h : Q (.exit id) a w) : SQ P y Q (.exit id) a w := h
theorem sq_goto {y : Code} {a : Act} {l : Nat} (h : Q (.goto l) a w) : SQ P y Q (.goto l) a w := h
theorem cond_t {c : Operand} {x y : Code} (hc : ev N σ c = .bool true) (h : x.wp P Q (Fr N σ) w) : (Code.cond c x y).wp P Q (Fr N σ) w :=
  wp_cond_true (by rw [eval_Fr]; exact hc) h
theorem cond_f {c : Operand} {x y : Code} (hc : ev N σ c = .bool false) (h : y.wp P Q (Fr N σ) w) : (Code.cond c x y).wp P Q (Fr N σ) w :=
  wp_cond_false (by rw [eval_Fr]; exact hc) h
theorem cond_b {c : Operand} {x y : Code} {b : Bool} (hc : ev N σ c = .bool b) (h : b = true → x.wp P Q (Fr N σ) w) (h' : b = false → y.wp P Q (Fr N σ) w) : (Code.cond c x y).wp P Q (Fr N σ) w := by
  cases b
  · exact cond_f hc (h' rfl)
  · exact cond_t hc (h rfl)
theorem skip_ (h : Q .normal (Fr N σ) w) : Code.skip.wp P Q (Fr N σ) w := wp_skip h
theorem ret_ (h : Q .ret (Fr N σ) w) : Code.ret.wp P Q (Fr N σ) w := wp_ret h
theorem exit_ {id : Nat} (h : Q (.exit id) (Fr N σ) w) : (Code.exit id).wp P Q (Fr N σ) w := wp_exit h
theorem block_ {id : Nat} {c : Code} (h : c.wp P (Exit.inBlock id Q) (Fr N σ) w) : (Code.block id c).wp P Q (Fr N σ) w := wp_block h
theorem inBlock_normal {id : Nat} {a : Act} (h : Q .normal a w) : Exit.inBlock id Q .normal a w := h
theorem inBlock_ret {id : Nat} {a : Act} (h : Q .ret a w) : Exit.inBlock id Q .ret a w := h
theorem inBlock_exit {id : Nat} {a : Act} (h : Q .normal a w) : Exit.inBlock id Q (.exit id) a w := by simp [Exit.inBlock, h]
theorem inBlock_exit_ne {id id' : Nat} {a : Act} (hne : Nat.beq id' id = false) (h : Q (.exit id') a w) : Exit.inBlock id Q (.exit id') a w := by
  have : id' ≠ id := fun e => by rw [e] at hne; simp at hne
  simp [Exit.inBlock, h, this]
theorem kq_ret {K : Env → World → Prop} {a : Act} (h : Q .ret a w) : KQ N K Q .ret a w := h
theorem kq_exit {K : Env → World → Prop} {a : Act} {id : Nat} (h : Q (.exit id) a w) : KQ N K Q (.exit id) a w := h
theorem kq_goto {K : Env → World → Prop} {a : Act} {l : Nat} (h : Q (.goto l) a w) : KQ N K Q (.goto l) a w := h

/-! ## Loops -/
def inI : List (Nat × Nat) → Nat → Bool
  | [], _ => false
  | (a, b) :: r, j => (Nat.ble a j && Nat.blt j b) || inI r j
def ov (m : List (Nat × Nat)) (τ σ : Env) : Env := fun j => bif inI m j then τ j else σ j
def Agree (m : List (Nat × Nat)) (σ σ' : Env) : Prop := ∀ j, inI m j = false → σ' j = σ j
theorem Agree.refl (m : List (Nat × Nat)) (σ : Env) : Agree m σ σ := fun _ _ => rfl
theorem Agree.upd {m : List (Nat × Nat)} {σ σ' : Env} {d : Nat} {v : Value} (hd : inI m d = true) (h : Agree m σ σ') : Agree m σ (Eng.upd σ' d v) := by
  intro j hj
  rw [upd_ne _ _ _ _ (by rintro rfl; rw [hd] at hj; cases hj)]
  exact h j hj
theorem Agree.ov {m : List (Nat × Nat)} {σ τ : Env} : Agree m σ (Eng.ov m τ σ) := fun j hj => by simp [Eng.ov, hj]
def subI (l m : List (Nat × Nat)) : Bool := l.all fun a => m.any fun b => Nat.ble b.1 a.1 && Nat.ble a.2 b.2
theorem subI_spec {l m : List (Nat × Nat)} (h : subI l m = true) (j : Nat) (hj : inI l j = true) : inI m j = true := by
  have key : ∀ (m : List (Nat × Nat)) (a : Nat × Nat), (m.any fun b => Nat.ble b.1 a.1 && Nat.ble a.2 b.2) = true → a.1 ≤ j → j < a.2 → inI m j = true := by
    intro m a hm h1 h2
    induction m with
    | nil => simp at hm
    | cons b r ih =>
      obtain ⟨x, y⟩ := b
      simp only [List.any_cons, Bool.or_eq_true, Bool.and_eq_true, Nat.ble_eq] at hm
      simp only [inI, Bool.or_eq_true, Bool.and_eq_true, Nat.ble_eq, Nat.blt_eq]
      rcases hm with hm | hm
      · left; omega
      · right; exact ih (by simpa using hm)
  induction l with
  | nil => simp [inI] at hj
  | cons a r ih =>
    obtain ⟨x, y⟩ := a
    simp only [subI, List.all_cons, Bool.and_eq_true] at h
    simp only [inI, Bool.or_eq_true, Bool.and_eq_true, Nat.ble_eq, Nat.blt_eq] at hj
    rcases hj with hj | hj
    · exact key m (x, y) h.1 hj.1 hj.2
    · exact ih h.2 hj
theorem Agree.ovs {l m : List (Nat × Nat)} {σ σ' τ : Env} (hs : subI l m = true) (h : Agree m σ σ') : Agree m σ (Eng.ov l τ σ') := by
  intro j hj
  have : inI l j = false := by
    cases hl : inI l j with
    | false => rfl
    | true => rw [subI_spec hs j hl] at hj; cases hj
  simp only [Eng.ov, this, cond_false]
  exact h j hj

/-- A loop: what holds at each round's head is said of the frame as a whole. -/
theorem loop_any {c : Code} (I : Nat → Env → World → Prop) (m0 : Nat) (h0 : I m0 σ w)
    (round : ∀ m σ w, I m σ w → ∀ K : Env → World → Prop, (∀ m' σ' w', m' < m → I m' σ' w' → K σ' w') → c.wp P (KQ N K Q) (Fr N σ) w) : (Code.loop c).wp P Q (Fr N σ) w := by
  classical
  have key : ∀ (a : Act) (w : World), (∃ m σ, a = Fr N σ ∧ I m σ w) → ∃ m σ, a = Fr N σ ∧ I m σ w ∧ ∀ m', m' < m → ¬ ∃ σ, a = Fr N σ ∧ I m' σ w := by
    intro a w ⟨m, σ, ha, hI⟩
    induction m using Nat.strongRecOn generalizing σ with
    | _ m ih =>
      by_cases hx : ∃ m', m' < m ∧ ∃ σ, a = Fr N σ ∧ I m' σ w
      · obtain ⟨m', hlt, σ', ha', hI'⟩ := hx
        exact ih m' hlt σ' ha' hI'
      · exact ⟨m, σ, ha, hI, fun m' hlt hh => hx ⟨m', hlt, hh⟩⟩
  let μ : Act → World → Nat := fun a w => if h : ∃ m σ, a = Fr N σ ∧ I m σ w then (key a w h).choose else 0
  refine wp_loop (fun a w => ∃ m σ, a = Fr N σ ∧ I m σ w) μ ⟨m0, σ, rfl, h0⟩ ?_
  intro a w hI
  obtain ⟨σ1, ha, hI1, hmin⟩ := (key a w hI).choose_spec
  have hμ : μ a w = (key a w hI).choose := by simp only [μ]; rw [dif_pos hI]
  subst ha
  have hr := round _ σ1 w hI1 (fun σ' w' => (∃ m σ, Fr N σ' = Fr N σ ∧ I m σ w') ∧ μ (Fr N σ') w' < μ (Fr N σ1) w) ?_
  · refine Code.wp_mono ?_ hr
    intro e a w' hq
    cases e <;> first | exact hq | (obtain ⟨σ', rfl, hk⟩ := hq; exact hk)
  · intro m' σ' w' hlt hI'
    have hex : ∃ m σ, Fr N σ' = Fr N σ ∧ I m σ w' := ⟨m', σ', rfl, hI'⟩
    refine ⟨hex, ?_⟩
    obtain ⟨σ2, _, _, hmin2⟩ := (key _ w' hex).choose_spec
    have h2 : μ (Fr N σ') w' = (key _ w' hex).choose := by simp only [μ]; rw [dif_pos hex]
    rw [hμ, h2]
    rcases Nat.lt_or_ge m' (key (Fr N σ') w' hex).choose with h3 | h3
    · exact absurd ⟨σ', rfl, hI'⟩ (hmin2 m' h3)
    · omega

theorem upd_self {σ : Env} {s : Nat} {v : Value} (h : σ s = v) : upd σ s v = σ := by
  funext j
  by_cases hj : j = s
  · subst hj; rw [upd_same, h]
  · rw [upd_ne _ _ _ _ hj]
theorem ov_self {m : List (Nat × Nat)} {σ σ' : Env} (h : Agree m σ σ') : ov m σ' σ = σ' := by
  funext j
  cases hj : inI m j with
  | true => simp [ov, hj]
  | false => simp [ov, hj, h j hj]

theorem loop0 {c : Code} (ms : List (Nat × Nat)) (I : Nat → World → Prop) (m0 : Nat) (h0 : I m0 w)
    (round : ∀ m τ w, I m w → ∀ K : Env → World → Prop, (∀ m' σ' w', m' < m → Agree ms σ σ' → I m' w' → K σ' w') →
      c.wp P (KQ N K Q) (Fr N (ov ms τ σ)) w) : (Code.loop c).wp P Q (Fr N σ) w := by
  refine loop_any (fun m σ' w => Agree ms σ σ' ∧ I m w) m0 ⟨Agree.refl _ _, h0⟩ ?_
  rintro m σ1 w ⟨ha, hI⟩ K hK
  have := round m σ1 w hI K (fun m' σ' w' h1 h2 h3 => hK m' σ' w' h1 ⟨h2, h3⟩)
  rwa [ov_self ha] at this
theorem loop1 {c : Code} (ms : List (Nat × Nat)) (s1 : Nat) (I : Nat → Value → World → Prop) (m0 : Nat) (h0 : I m0 (σ s1) w)
    (round : ∀ m τ v1 w, I m v1 w → ∀ K : Env → World → Prop, (∀ m' σ' w', m' < m → Agree ms σ σ' → I m' (σ' s1) w' → K σ' w') →
      c.wp P (KQ N K Q) (Fr N (upd (ov ms τ σ) s1 v1)) w) : (Code.loop c).wp P Q (Fr N σ) w := by
  refine loop_any (fun m σ' w => Agree ms σ σ' ∧ I m (σ' s1) w) m0 ⟨Agree.refl _ _, h0⟩ ?_
  rintro m σ1 w ⟨ha, hI⟩ K hK
  have := round m σ1 _ w hI K (fun m' σ' w' h1 h2 h3 => hK m' σ' w' h1 ⟨h2, h3⟩)
  rwa [ov_self ha, upd_self rfl] at this
theorem loop2 {c : Code} (ms : List (Nat × Nat)) (s1 s2 : Nat) (I : Nat → Value → Value → World → Prop) (m0 : Nat) (h0 : I m0 (σ s1) (σ s2) w)
    (round : ∀ m τ v1 v2 w, I m v1 v2 w → ∀ K : Env → World → Prop, (∀ m' σ' w', m' < m → Agree ms σ σ' → I m' (σ' s1) (σ' s2) w' → K σ' w') →
      c.wp P (KQ N K Q) (Fr N (upd (upd (ov ms τ σ) s1 v1) s2 v2)) w) : (Code.loop c).wp P Q (Fr N σ) w := by
  refine loop_any (fun m σ' w => Agree ms σ σ' ∧ I m (σ' s1) (σ' s2) w) m0 ⟨Agree.refl _ _, h0⟩ ?_
  rintro m σ1 w ⟨ha, hI⟩ K hK
  have := round m σ1 _ _ w hI K (fun m' σ' w' h1 h2 h3 => hK m' σ' w' h1 ⟨h2, h3⟩)
  rwa [ov_self ha, upd_self rfl, upd_self rfl] at this
theorem loop3 {c : Code} (ms : List (Nat × Nat)) (s1 s2 s3 : Nat) (I : Nat → Value → Value → Value → World → Prop) (m0 : Nat) (h0 : I m0 (σ s1) (σ s2) (σ s3) w)
    (round : ∀ m τ v1 v2 v3 w, I m v1 v2 v3 w → ∀ K : Env → World → Prop, (∀ m' σ' w', m' < m → Agree ms σ σ' → I m' (σ' s1) (σ' s2) (σ' s3) w' → K σ' w') →
      c.wp P (KQ N K Q) (Fr N (upd (upd (upd (ov ms τ σ) s1 v1) s2 v2) s3 v3)) w) : (Code.loop c).wp P Q (Fr N σ) w := by
  refine loop_any (fun m σ' w => Agree ms σ σ' ∧ I m (σ' s1) (σ' s2) (σ' s3) w) m0 ⟨Agree.refl _ _, h0⟩ ?_
  rintro m σ1 w ⟨ha, hI⟩ K hK
  have := round m σ1 _ _ _ w hI K (fun m' σ' w' h1 h2 h3 => hK m' σ' w' h1 ⟨h2, h3⟩)
  rwa [ov_self ha, upd_self rfl, upd_self rfl, upd_self rfl] at this
theorem loop4 {c : Code} (ms : List (Nat × Nat)) (s1 s2 s3 s4 : Nat) (I : Nat → Value → Value → Value → Value → World → Prop) (m0 : Nat) (h0 : I m0 (σ s1) (σ s2) (σ s3) (σ s4) w)
    (round : ∀ m τ v1 v2 v3 v4 w, I m v1 v2 v3 v4 w → ∀ K : Env → World → Prop, (∀ m' σ' w', m' < m → Agree ms σ σ' → I m' (σ' s1) (σ' s2) (σ' s3) (σ' s4) w' → K σ' w') →
      c.wp P (KQ N K Q) (Fr N (upd (upd (upd (upd (ov ms τ σ) s1 v1) s2 v2) s3 v3) s4 v4)) w) : (Code.loop c).wp P Q (Fr N σ) w := by
  refine loop_any (fun m σ' w => Agree ms σ σ' ∧ I m (σ' s1) (σ' s2) (σ' s3) (σ' s4) w) m0 ⟨Agree.refl _ _, h0⟩ ?_
  rintro m σ1 w ⟨ha, hI⟩ K hK
  have := round m σ1 _ _ _ _ w hI K (fun m' σ' w' h1 h2 h3 => hK m' σ' w' h1 ⟨h2, h3⟩)
  rwa [ov_self ha, upd_self rfl, upd_self rfl, upd_self rfl, upd_self rfl] at this

/-! ## Entering, and coming back -/
/-- What is to be shown where the body ends: the results' value, and the post. -/
def BP (P : Program) (fn : Func) (Post : Value → World → Prop) : Exit → Act → World → Prop := bodyPostM Fence.wide 0 P fn fun e w => ∃ v, e = .returned v ∧ Post v w
theorem enter_ {N : Nat} {f : FuncId} {fn : Func} {c : Code} {args : List Value} {Post : Value → World → Prop} (hf : P.funcs[f]? = some fn) (hb : fn.body = some c) (hn : fn.ntmps = N) (ha : Nat.ble args.length N = true)
    (h : c.wp P (BP P fn Post) (Fr ⟨N, []⟩ (ent args)) w) : CallsOk P f args.toArray w Post := by
  refine callsIn_wide.1 (callsIn_of_wp_marks (n := 0) hf hb trivial (wpIn_wide.2 ?_))
  have e : ({ tmps := args.toArray ++ Array.replicate (fn.ntmps - args.toArray.size) undef, defers := [] } : Act) = Fr ⟨N, []⟩ (ent args) := by
    unfold Fr
    simp only [Act.mk.injEq, and_true]
    have hle : args.length ≤ N := by simpa using ha
    apply Array.ext
    · simp [hn]; omega
    · intro i h1 h2
      simp only [Array.size_ofFn] at h2
      simp only [Array.getElem_append, List.size_toArray, List.getElem_toArray, Array.getElem_replicate, Array.getElem_ofFn, ent, List.getD_eq_getElem?_getD]
      split
      · rename_i hlt; simp [List.getElem?_eq_getElem hlt]
      · rename_i hlt; rw [List.getElem?_eq_none (by omega)]; rfl
  rw [e]; exact h
/-- How a call may end. -/
def isEnd : Exit → Bool
  | .normal => true
  | .ret => true
  | _ => false
variable {M : Nat}
theorem bp_res {fn : Func} {Post : Value → World → Prop} {e : Exit} {v : Value} (he : isEnd e = true) (hr : (results fn (Fr ⟨M, []⟩ σ).tmps).run P w = .ok v w) (h : Post v w) : BP P fn Post e (Fr ⟨M, []⟩ σ) w := by
  cases e <;> first | cases he; done | exact ⟨v, hr, v, rfl, h⟩
/-- Behind a range over a function. -/
theorem bp_mark {fn : Func} {Post : Value → World → Prop} {e : Exit} {v : Value} {D : Nat} (he : isEnd e = true) (hD : w.heap[D]? = some (.deferred (some [])))
    (hr : (results fn (Fr ⟨M, [{ target := .collected D, args := #[] }]⟩ σ).tmps).run P (w.putObj D (.deferred none)) = .ok v (w.putObj D (.deferred none))) (h : Post v (w.putObj D (.deferred none))) :
    BP P fn Post e (Fr ⟨M, [{ target := .collected D, args := #[] }]⟩ σ) w := by
  have k : LeavesInM Fence.wide 0 P fn (Fr ⟨M, [{ target := .collected D, args := #[] }]⟩ σ).tmps (fun e w => ∃ v, e = .returned v ∧ Post v w) [{ target := .collected D, args := #[] }] .returning w :=
    ⟨by simp, .inl ⟨D, _, rfl, run_takeDeferred hD, v, hr, v, rfl, h⟩⟩
  cases e <;> first | cases he; done | exact k
theorem bp_ret1 {fn : Func} {Post : Value → World → Prop} {t : Tmp} {v : Value} (hr : fn.results = #[.tmp t]) (hv : ev ⟨M, []⟩ σ (.tmp t) = v) (h : Post v w) : BP P fn Post .ret (Fr ⟨M, []⟩ σ) w := by
  refine bp_res rfl ?_ h
  rw [results_tmp hr, getD_Fr, ← hv]; rfl
theorem bp_end1 {fn : Func} {Post : Value → World → Prop} {t : Tmp} {v : Value} (hr : fn.results = #[.tmp t]) (hv : ev ⟨M, []⟩ σ (.tmp t) = v) (h : Post v w) : BP P fn Post .normal (Fr ⟨M, []⟩ σ) w := by
  refine bp_res rfl ?_ h
  rw [results_tmp hr, getD_Fr, ← hv]; rfl
theorem bp_ret2 {fn : Func} {Post : Value → World → Prop} {t u : Tmp} {v v' : Value} (hr : fn.results = #[.tmp t, .tmp u]) (hv : ev ⟨M, []⟩ σ (.tmp t) = v) (hv' : ev ⟨M, []⟩ σ (.tmp u) = v') (h : Post (.tuple #[v, v']) w) : BP P fn Post .ret (Fr ⟨M, []⟩ σ) w := by
  refine bp_res rfl ?_ h
  rw [results_tmp2 hr, getD_Fr, getD_Fr, ← hv, ← hv']; rfl
theorem bp_end0 {fn : Func} {Post : Value → World → Prop} (hr : fn.results = #[]) (h : Post (.tuple #[]) w) : BP P fn Post .normal (Fr ⟨M, []⟩ σ) w := by
  refine bp_res rfl ?_ h
  rw [results_none hr]
theorem bp_ret0 {fn : Func} {Post : Value → World → Prop} (hr : fn.results = #[]) (h : Post (.tuple #[]) w) : BP P fn Post .ret (Fr ⟨M, []⟩ σ) w := by
  refine bp_res rfl ?_ h
  rw [results_none hr]
end Go.Eng
