/- Rules for single operations over the frame of Eng1: numbers, tests, moves, cells, slices. Nothing here names a program. -/
import Derived.Test.YtoekjhalcjhegaaEng1
set_option linter.unusedVariables false
set_option linter.unusedSimpArgs false
namespace Go.Eng
open Go Go.RowKit
variable {P : Program} {N : NN} {Q : Exit → Act → World → Prop} {σ : Env} {w w' : World} {ops rest : List Oper}
  {d : Tmp} {ty : TypeId} {pos : String} {af : Array Edge} {g : Option (Nat × Bool)}

/-! ## Moves -/
theorem rl_move {x : Operand} {v : Value} (hg : want N ops σ g = true) (hx : ev N σ x = v)
    (k : RL P N ops Q rest (upd σ d v) w) : RL P N ops Q (⟨some d, .move x, ty, pos, af, g⟩ :: rest) σ w :=
  rl_val hg (by simp [execOp, hx]) k
theorem rl_assign {x : Operand} {v : Value} (hg : want N ops σ g = true) (hx : ev N σ x = v)
    (k : RL P N ops Q rest (upd σ d v) w) : RL P N ops Q (⟨some d, .assign x, ty, pos, af, g⟩ :: rest) σ w :=
  rl_val hg (by simp [execOp, hx]) k
theorem rl_pick {c x y : Operand} {b : Bool} {v : Value} (hg : want N ops σ g = true) (hc : ev N σ c = .bool b) (hx : (bif b then ev N σ x else ev N σ y) = v)
    (k : RL P N ops Q rest (upd σ d v) w) : RL P N ops Q (⟨some d, .pick c x y, ty, pos, af, g⟩ :: rest) σ w :=
  rl_val hg (by cases b <;> simp [execOp, hc, asBool] <;> simpa using hx) k

/-! ## Numbers -/
theorem wrap_id {z : Int} (h1 : -9223372036854775808 ≤ z) (h2 : z ≤ 9223372036854775807) : IntKind.i64.wrap z = z := IntWalk.i64_in z ⟨h1, h2⟩
section
variable {x y : Operand} {m n : Int} {t : TypeId}
theorem run_int (op : BinOp) (hx : ev N σ x = .int .i64 m) (hy : ev N σ y = .int .i64 n) (o : Oper) (ho : o.op = .binOp op t x y ty) :
    (execOp (ev N σ) o).run P w = ((do pure (.value (← binOp op t (.int .i64 m) (.int .i64 n))) : Sem Next)).run P w := by
  unfold execOp
  rw [ho]
  simp only [hx, hy]
  simp [eqGuard]
theorem rl_add {t' : TypeId} (hg : want N ops σ g = true) (hx : ev N σ x = .int .i64 m) (hy : ev N σ y = .int .i64 n)
    (h1 : -9223372036854775808 ≤ m + n) (h2 : m + n ≤ 9223372036854775807)
    (k : RL P N ops Q rest (upd σ d (.int .i64 (m + n))) w) : RL P N ops Q (⟨some d, .binOp .add t x y t', ty, pos, af, g⟩ :: rest) σ w :=
  rl_val hg (by rw [run_int .add hx hy _ rfl]; simp [binOp, Op.intArith, wrap_id h1 h2]) k
theorem rl_sub {t' : TypeId} (hg : want N ops σ g = true) (hx : ev N σ x = .int .i64 m) (hy : ev N σ y = .int .i64 n)
    (h1 : -9223372036854775808 ≤ m - n) (h2 : m - n ≤ 9223372036854775807)
    (k : RL P N ops Q rest (upd σ d (.int .i64 (m - n))) w) : RL P N ops Q (⟨some d, .binOp .sub t x y t', ty, pos, af, g⟩ :: rest) σ w :=
  rl_val hg (by rw [run_int .sub hx hy _ rfl]; simp [binOp, Op.intArith, wrap_id h1 h2]) k
theorem rl_mul {t' : TypeId} (hg : want N ops σ g = true) (hx : ev N σ x = .int .i64 m) (hy : ev N σ y = .int .i64 n)
    (h1 : -9223372036854775808 ≤ m * n) (h2 : m * n ≤ 9223372036854775807)
    (k : RL P N ops Q rest (upd σ d (.int .i64 (m * n))) w) : RL P N ops Q (⟨some d, .binOp .mul t x y t', ty, pos, af, g⟩ :: rest) σ w :=
  rl_val hg (by rw [run_int .mul hx hy _ rfl]; simp [binOp, Op.intArith, wrap_id h1 h2]) k
theorem rl_rem {t' : TypeId} (hg : want N ops σ g = true) (hx : ev N σ x = .int .i64 m) (hy : ev N σ y = .int .i64 n) (h1 : 0 ≤ m) (h2 : 0 < n)
    (k : RL P N ops Q rest (upd σ d (.int .i64 (m % n))) w) : RL P N ops Q (⟨some d, .binOp .rem t x y t', ty, pos, af, g⟩ :: rest) σ w :=
  rl_val hg (by
    rw [run_int .rem hx hy _ rfl]
    have : n ≠ 0 := by omega
    simp [binOp, Op.intDiv, this, Int.tmod_eq_emod_of_nonneg h1]) k
theorem rl_quo {t' : TypeId} (hg : want N ops σ g = true) (hx : ev N σ x = .int .i64 m) (hy : ev N σ y = .int .i64 n) (h1 : 0 ≤ m) (h2 : 0 < n) (h3 : m ≤ 9223372036854775807)
    (k : RL P N ops Q rest (upd σ d (.int .i64 (m / n))) w) : RL P N ops Q (⟨some d, .binOp .quo t x y t', ty, pos, af, g⟩ :: rest) σ w :=
  rl_val hg (by
    rw [run_int .quo hx hy _ rfl]
    have hn : n ≠ 0 := by omega
    have h4 : 0 ≤ m / n := Int.ediv_nonneg h1 (by omega)
    have h5 : m / n ≤ m := Int.ediv_le_self _ h1
    simp [binOp, Op.intDiv, hn, Int.tdiv_eq_ediv_of_nonneg h1, wrap_id (z := m / n) (by omega) (by omega)]) k
theorem rl_cmp {t' : TypeId} {b : Bool} (op : BinOp) (hg : want N ops σ g = true) (hx : ev N σ x = .int .i64 m) (hy : ev N σ y = .int .i64 n)
    (hb : ∀ w : World, (binOp op t (.int .i64 m) (.int .i64 n)).run P w = .ok (.bool b) w)
    (k : RL P N ops Q rest (upd σ d (.bool b)) w) : RL P N ops Q (⟨some d, .binOp op t x y t', ty, pos, af, g⟩ :: rest) σ w :=
  rl_val hg (by rw [run_int op hx hy _ rfl]; simp [hb]) k
theorem rl_lss_t {t' : TypeId} (hg : want N ops σ g = true) (hx : ev N σ x = .int .i64 m) (hy : ev N σ y = .int .i64 n) (h : m < n)
    (k : RL P N ops Q rest (upd σ d (.bool true)) w) : RL P N ops Q (⟨some d, .binOp .lss t x y t', ty, pos, af, g⟩ :: rest) σ w :=
  rl_cmp .lss hg hx hy (fun _ => by simp [binOp, Op.intCmp, h]) k
theorem rl_lss_f {t' : TypeId} (hg : want N ops σ g = true) (hx : ev N σ x = .int .i64 m) (hy : ev N σ y = .int .i64 n) (h : n ≤ m)
    (k : RL P N ops Q rest (upd σ d (.bool false)) w) : RL P N ops Q (⟨some d, .binOp .lss t x y t', ty, pos, af, g⟩ :: rest) σ w :=
  rl_cmp .lss hg hx hy (fun _ => by simp [binOp, Op.intCmp]; omega) k
theorem rl_lss {t' : TypeId} (hg : want N ops σ g = true) (hx : ev N σ x = .int .i64 m) (hy : ev N σ y = .int .i64 n)
    (k : RL P N ops Q rest (upd σ d (.bool (decide (m < n)))) w) : RL P N ops Q (⟨some d, .binOp .lss t x y t', ty, pos, af, g⟩ :: rest) σ w :=
  rl_cmp .lss hg hx hy (fun _ => by simp [binOp, Op.intCmp]) k
theorem rl_leq_t {t' : TypeId} (hg : want N ops σ g = true) (hx : ev N σ x = .int .i64 m) (hy : ev N σ y = .int .i64 n) (h : m ≤ n)
    (k : RL P N ops Q rest (upd σ d (.bool true)) w) : RL P N ops Q (⟨some d, .binOp .leq t x y t', ty, pos, af, g⟩ :: rest) σ w :=
  rl_cmp .leq hg hx hy (fun _ => by simp [binOp, Op.intCmp, h]) k
theorem rl_leq_f {t' : TypeId} (hg : want N ops σ g = true) (hx : ev N σ x = .int .i64 m) (hy : ev N σ y = .int .i64 n) (h : n < m)
    (k : RL P N ops Q rest (upd σ d (.bool false)) w) : RL P N ops Q (⟨some d, .binOp .leq t x y t', ty, pos, af, g⟩ :: rest) σ w :=
  rl_cmp .leq hg hx hy (fun _ => by simp [binOp, Op.intCmp]; omega) k
theorem rl_leq {t' : TypeId} (hg : want N ops σ g = true) (hx : ev N σ x = .int .i64 m) (hy : ev N σ y = .int .i64 n)
    (k : RL P N ops Q rest (upd σ d (.bool (decide (m ≤ n)))) w) : RL P N ops Q (⟨some d, .binOp .leq t x y t', ty, pos, af, g⟩ :: rest) σ w :=
  rl_cmp .leq hg hx hy (fun _ => by simp [binOp, Op.intCmp]) k
theorem rl_gtr_t {t' : TypeId} (hg : want N ops σ g = true) (hx : ev N σ x = .int .i64 m) (hy : ev N σ y = .int .i64 n) (h : n < m)
    (k : RL P N ops Q rest (upd σ d (.bool true)) w) : RL P N ops Q (⟨some d, .binOp .gtr t x y t', ty, pos, af, g⟩ :: rest) σ w :=
  rl_cmp .gtr hg hx hy (fun _ => by simp [binOp, Op.intCmp, h]) k
theorem rl_gtr_f {t' : TypeId} (hg : want N ops σ g = true) (hx : ev N σ x = .int .i64 m) (hy : ev N σ y = .int .i64 n) (h : m ≤ n)
    (k : RL P N ops Q rest (upd σ d (.bool false)) w) : RL P N ops Q (⟨some d, .binOp .gtr t x y t', ty, pos, af, g⟩ :: rest) σ w :=
  rl_cmp .gtr hg hx hy (fun _ => by simp [binOp, Op.intCmp]; omega) k
theorem rl_gtr {t' : TypeId} (hg : want N ops σ g = true) (hx : ev N σ x = .int .i64 m) (hy : ev N σ y = .int .i64 n)
    (k : RL P N ops Q rest (upd σ d (.bool (decide (n < m)))) w) : RL P N ops Q (⟨some d, .binOp .gtr t x y t', ty, pos, af, g⟩ :: rest) σ w :=
  rl_cmp .gtr hg hx hy (fun _ => by simp [binOp, Op.intCmp]) k
theorem rl_geq_t {t' : TypeId} (hg : want N ops σ g = true) (hx : ev N σ x = .int .i64 m) (hy : ev N σ y = .int .i64 n) (h : n ≤ m)
    (k : RL P N ops Q rest (upd σ d (.bool true)) w) : RL P N ops Q (⟨some d, .binOp .geq t x y t', ty, pos, af, g⟩ :: rest) σ w :=
  rl_cmp .geq hg hx hy (fun _ => by simp [binOp, Op.intCmp, h]) k
theorem rl_geq_f {t' : TypeId} (hg : want N ops σ g = true) (hx : ev N σ x = .int .i64 m) (hy : ev N σ y = .int .i64 n) (h : m < n)
    (k : RL P N ops Q rest (upd σ d (.bool false)) w) : RL P N ops Q (⟨some d, .binOp .geq t x y t', ty, pos, af, g⟩ :: rest) σ w :=
  rl_cmp .geq hg hx hy (fun _ => by simp [binOp, Op.intCmp]; omega) k
theorem rl_geq {t' : TypeId} (hg : want N ops σ g = true) (hx : ev N σ x = .int .i64 m) (hy : ev N σ y = .int .i64 n)
    (k : RL P N ops Q rest (upd σ d (.bool (decide (n ≤ m)))) w) : RL P N ops Q (⟨some d, .binOp .geq t x y t', ty, pos, af, g⟩ :: rest) σ w :=
  rl_cmp .geq hg hx hy (fun _ => by simp [binOp, Op.intCmp]) k
theorem rl_eql_t {t' : TypeId} (hg : want N ops σ g = true) (hx : ev N σ x = .int .i64 m) (hy : ev N σ y = .int .i64 n) (h : m = n)
    (k : RL P N ops Q rest (upd σ d (.bool true)) w) : RL P N ops Q (⟨some d, .binOp .eql t x y t', ty, pos, af, g⟩ :: rest) σ w :=
  rl_cmp .eql hg hx hy (fun _ => by simp [binOp, Op.intCmp, h]) k
theorem rl_eql_f {t' : TypeId} (hg : want N ops σ g = true) (hx : ev N σ x = .int .i64 m) (hy : ev N σ y = .int .i64 n) (h : m ≠ n)
    (k : RL P N ops Q rest (upd σ d (.bool false)) w) : RL P N ops Q (⟨some d, .binOp .eql t x y t', ty, pos, af, g⟩ :: rest) σ w :=
  rl_cmp .eql hg hx hy (fun _ => by simp [binOp, Op.intCmp, h]) k
theorem rl_eql {t' : TypeId} (hg : want N ops σ g = true) (hx : ev N σ x = .int .i64 m) (hy : ev N σ y = .int .i64 n)
    (k : RL P N ops Q rest (upd σ d (.bool (decide (m = n)))) w) : RL P N ops Q (⟨some d, .binOp .eql t x y t', ty, pos, af, g⟩ :: rest) σ w :=
  rl_cmp .eql hg hx hy (fun _ => by
    simp only [binOp, Op.intCmp, ne_eq, not_true_eq_false, if_false]
    show Result.ok _ _ = _
    rw [show (m == n) = decide (m = n) from rfl]) k
theorem rl_neq_t {t' : TypeId} (hg : want N ops σ g = true) (hx : ev N σ x = .int .i64 m) (hy : ev N σ y = .int .i64 n) (h : m ≠ n)
    (k : RL P N ops Q rest (upd σ d (.bool true)) w) : RL P N ops Q (⟨some d, .binOp .neq t x y t', ty, pos, af, g⟩ :: rest) σ w :=
  rl_cmp .neq hg hx hy (fun _ => by simp [binOp, Op.intCmp, h]) k
theorem rl_neq_f {t' : TypeId} (hg : want N ops σ g = true) (hx : ev N σ x = .int .i64 m) (hy : ev N σ y = .int .i64 n) (h : m = n)
    (k : RL P N ops Q rest (upd σ d (.bool false)) w) : RL P N ops Q (⟨some d, .binOp .neq t x y t', ty, pos, af, g⟩ :: rest) σ w :=
  rl_cmp .neq hg hx hy (fun _ => by simp [binOp, Op.intCmp, h]) k
theorem rl_neq {t' : TypeId} (hg : want N ops σ g = true) (hx : ev N σ x = .int .i64 m) (hy : ev N σ y = .int .i64 n)
    (k : RL P N ops Q rest (upd σ d (.bool (decide (m ≠ n)))) w) : RL P N ops Q (⟨some d, .binOp .neq t x y t', ty, pos, af, g⟩ :: rest) σ w :=
  rl_cmp .neq hg hx hy (fun _ => by
    simp only [binOp, Op.intCmp, ne_eq, not_true_eq_false, if_false]
    show Result.ok _ _ = _
    by_cases h : m = n <;> simp [h]) k
theorem rl_neg (hg : want N ops σ g = true) (hx : ev N σ x = .int .i64 m) (h1 : -9223372036854775808 ≤ -m) (h2 : -m ≤ 9223372036854775807)
    (k : RL P N ops Q rest (upd σ d (.int .i64 (-m))) w) : RL P N ops Q (⟨some d, .unOp .neg t x, ty, pos, af, g⟩ :: rest) σ w :=
  rl_val hg (by simp [execOp, hx, Op.unary, Op.intArith, wrap_id h1 h2]) k
theorem rl_not {b : Bool} (hg : want N ops σ g = true) (hx : ev N σ x = .bool b)
    (k : RL P N ops Q rest (upd σ d (.bool (!b))) w) : RL P N ops Q (⟨some d, .unOp .not t x, ty, pos, af, g⟩ :: rest) σ w :=
  rl_val hg (by simp [execOp, hx, Op.unary]) k
theorem rl_min {ts : Array TypeId} (hg : want N ops σ g = true) (hx : ev N σ x = .int .i64 m) (hy : ev N σ y = .int .i64 n)
    (k : RL P N ops Q rest (upd σ d (.int .i64 (min m n))) w) : RL P N ops Q (⟨some d, .call ⟨.builtin .min, #[x, y], ts⟩, ty, pos, af, g⟩ :: rest) σ w :=
  rl_val hg (by
    have : (if n < m then n else m) = min m n := by split <;> omega
    simp [execOp, resolve, invoke, builtin, hx, hy, run_min_int2, this]) k
theorem rl_max {ts : Array TypeId} (hg : want N ops σ g = true) (hx : ev N σ x = .int .i64 m) (hy : ev N σ y = .int .i64 n)
    (k : RL P N ops Q rest (upd σ d (.int .i64 (max m n))) w) : RL P N ops Q (⟨some d, .call ⟨.builtin .max, #[x, y], ts⟩, ty, pos, af, g⟩ :: rest) σ w :=
  rl_val hg (by
    have : (if m < n then n else m) = max m n := by split <;> omega
    simp [execOp, resolve, invoke, builtin, hx, hy, run_max_int2, this]) k
end
end Go.Eng
