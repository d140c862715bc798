/- Interfaces made of values, held against each other and against nil; a bit set in a byte. Nothing here names a program. -/
import Derived.Test.YtbcplbkjeinplaaDoorEng32
set_option linter.unusedVariables false
set_option linter.unusedSimpArgs false
namespace Go.Eng
open Go Go.RowKit
variable {P : Program} {N : NN} {Q : Exit → Act → World → Prop} {S : World → Prop} {σ : Env} {w0 w w' : World} {ops rest : List Oper} {r : List (Nat × Bool)}
  {d : Tmp} {ty : TypeId} {pos : String} {af : Array Edge} {g : Option (Nat × Bool)} {io nt : Nat} {L : List Ent} {V : Vw}
variable {x y : Operand} {m n : Int} {t t' : TypeId} {kd : IntKind}
theorem rl_mkifaceV {v : Value} {u : TypeDesc} (hT : P.underlying t = some u) (hu : ∀ ms, u ≠ .interface ms) (hg : want N ops σ g = true) (hx : ev N σ x = v)
    (kk : RL P N ops Q rest (upd σ d (.iface t v)) w) : RL P N ops Q (⟨some d, .makeInterface t x, ty, pos, af, g⟩ :: rest) σ w := by
  refine rl_val hg ?_ kk
  subst hx
  have h1 : (Instr.makeInterface t (ev N σ x)).run P w = .ok (.iface t (ev N σ x)) w := by
    cases u <;> first | exact absurd rfl (hu _) | simp [Instr.makeInterface, run_underlying hT, go_sem, Result.andThen]
  unfold execOp
  simp only
  simp [h1]
theorem run_ieq_int {ms : Array (String × TypeId)} {i : TypeInfo} {k : IntKind} (dep : Nat) (hi : P.underlying t = some (.interface ms)) (hT : P.underlying t' = some (.int k)) (hinfo : P.info? t' = some i) (hcomp : i.comparable = true) (a b : Int) :
    (Op.equalIn (dep + 2) t (.iface t' (.int k a)) (.iface t' (.int k b))).run P w = .ok (a == b) w := by
  simp [Op.equalIn, run_underlying hi, run_underlying hT, typeInfo, hinfo, hcomp]
theorem rl_ieq_int {ty' : TypeId} {ms : Array (String × TypeId)} {i : TypeInfo} {k : IntKind} {a b : Int} {c : Bool} (hi : P.underlying t = some (.interface ms)) (hT : P.underlying t' = some (.int k)) (hinfo : P.info? t' = some i) (hcomp : i.comparable = true)
    (hg : want N ops σ g = true) (hx : ev N σ x = .iface t' (.int k a)) (hy : ev N σ y = .iface t' (.int k b)) (hc : (a == b) = c)
    (kk : RL P N ops Q rest (upd σ d (.bool c)) w) : RL P N ops Q (⟨some d, .binOp .eql t x y ty', ty, pos, af, g⟩ :: rest) σ w := by
  refine rl_val hg ?_ kk
  have h := run_ieq_int (P := P) (w := w) (t := t) (t' := t') 9998 hi hT hinfo hcomp a b
  subst hc
  unfold execOp
  simp only [hx, hy]
  simp [eqGuard, binOp, Op.equal, Op.maxDepth, h]
theorem rl_ineqnil {ty' : TypeId} {ms : Array (String × TypeId)} {v : Value} (hi : P.underlying t = some (.interface ms))
    (hg : want N ops σ g = true) (hx : ev N σ x = .iface t' v) (hy : ev N σ y = .nilIface)
    (kk : RL P N ops Q rest (upd σ d (.bool true)) w) : RL P N ops Q (⟨some d, .binOp .neq t x y ty', ty, pos, af, g⟩ :: rest) σ w := by
  refine rl_val hg ?_ kk
  have h : ∀ n : Nat, (Op.equalIn (n + 1) t (.iface t' v) .nilIface).run P w = .ok false w := fun n => by simp [Op.equalIn, run_underlying hi]
  unfold execOp
  simp only [hx, hy]
  simp [eqGuard, binOp, Op.equal, Op.maxDepth, h 9999]
theorem rl_nneqnil {ty' : TypeId} {ms : Array (String × TypeId)} (hi : P.underlying t = some (.interface ms))
    (hg : want N ops σ g = true) (hx : ev N σ x = .nilIface) (hy : y = .const .nilIface)
    (kk : RL P N ops Q rest (upd σ d (.bool false)) w) : RL P N ops Q (⟨some d, .binOp .neq t x y ty', ty, pos, af, g⟩ :: rest) σ w := by
  refine rl_val hg ?_ kk
  subst hy
  have h : ∀ n : Nat, (Op.equalIn (n + 1) t .nilIface .nilIface).run P w = .ok true w := fun n => by simp [Op.equalIn, run_underlying hi]
  have hy : ev N σ (.const .nilIface) = .nilIface := rfl
  unfold execOp
  simp only [hx, hy]
  simp [eqGuard, binOp, Op.equal, Op.maxDepth, h 9999]
theorem rl_shl {ty' : TypeId} {ky : IntKind} {z : Int} (hg : want N ops σ g = true) (hx : ev N σ x = .int kd m) (hy : ev N σ y = .int ky n) (h0 : 0 ≤ n) (hz : kd.wrap (m * 2 ^ (min n.toNat kd.bits)) = z)
    (kk : RL P N ops Q rest (upd σ d (.int kd z)) w) : RL P N ops Q (⟨some d, .binOp .shl t x y ty', ty, pos, af, g⟩ :: rest) σ w := by
  subst hz
  refine rl_val hg ?_ kk
  have hn : ¬ n < 0 := by omega
  unfold execOp
  simp only [hx, hy]
  simp [eqGuard, binOp, Op.shift, hn]
theorem results3 {fn : Func} {t u v : Tmp} (h : fn.results = #[.tmp t, .tmp u, .tmp v]) (tmps : Array Value) (P : Program) (w : World) :
    (results fn tmps).run P w = .ok (.tuple #[tmps.getD t undef, tmps.getD u undef, tmps.getD v undef]) w := by
  simp [results, h]
theorem bp_ret3 {M : Nat} {fn : Func} {Post : Value → World → Prop} {t u s : Tmp} {v v' v'' : Value} (hr : fn.results = #[.tmp t, .tmp u, .tmp s]) (hv : ev ⟨M, []⟩ σ (.tmp t) = v) (hv' : ev ⟨M, []⟩ σ (.tmp u) = v') (hv'' : ev ⟨M, []⟩ σ (.tmp s) = v'')
    (h : Post (.tuple #[v, v', v'']) w) : BP P fn Post .ret (Fr ⟨M, []⟩ σ) w := by
  refine bp_res rfl ?_ h
  rw [results3 hr, getD_Fr, getD_Fr, getD_Fr, ← hv, ← hv', ← hv'']; rfl
theorem run_or8 (a b : UInt8) : (Op.intBits .or .u8 a.toNat b.toNat).run P w = .ok (.int .u8 (a ||| b).toNat) w := by
  have e1 : BitVec.ofInt 8 (a.toNat : Int) = a.toBitVec := by
    apply BitVec.eq_of_toNat_eq
    rw [BitVec.toNat_ofInt]
    have := a.toNat_lt
    show ((a.toNat : Int) % 256).toNat = a.toNat
    omega
  have e2 : BitVec.ofInt 8 (b.toNat : Int) = b.toBitVec := by
    apply BitVec.eq_of_toNat_eq
    rw [BitVec.toNat_ofInt]
    have := b.toNat_lt
    show ((b.toNat : Int) % 256).toNat = b.toNat
    omega
  have e3 : (a.toBitVec ||| b.toBitVec).toNat = (a ||| b).toNat := rfl
  have hw : IntKind.u8.wrap ((a ||| b).toNat : Int) = (a ||| b).toNat := by
    have h := (a ||| b).toNat_lt
    have : ((a ||| b).toNat : Int) % 256 = (a ||| b).toNat := by omega
    simp only [IntKind.wrap, IntKind.bits, IntKind.signed]
    simpa using this
  unfold Op.intBits
  show (pure (Value.int .u8 (IntKind.u8.wrap ((BitVec.ofInt 8 (a.toNat : Int) ||| BitVec.ofInt 8 (b.toNat : Int)).toNat : Int))) : Sem Value).run P w = _
  rw [e1, e2, e3, hw]; rfl
theorem rl_or8 {ty' : TypeId} {a b : UInt8} {z : Int} (hg : want N ops σ g = true) (hx : ev N σ x = .int .u8 a.toNat) (hy : ev N σ y = .int .u8 z) (hz : (b.toNat : Int) = z)
    (kk : RL P N ops Q rest (upd σ d (.int .u8 (a ||| b).toNat)) w) : RL P N ops Q (⟨some d, .binOp .or t x y ty', ty, pos, af, g⟩ :: rest) σ w := by
  subst hz
  refine rl_val hg ?_ kk
  rw [run_intK .or hx hy _ rfl]
  have e : binOp .or t (.int .u8 (a.toNat : Int)) (.int .u8 (b.toNat : Int)) = Op.intBits .or .u8 a.toNat b.toNat := by simp [binOp]
  rw [e]
  simp [run_or8 (P := P) (w := w) a b]
end Go.Eng
