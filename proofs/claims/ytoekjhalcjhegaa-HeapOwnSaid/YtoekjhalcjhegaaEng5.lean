/- The rules of Eng2 and Eng3 for operations that only compute, once more, for the head of a region whose order is drawn. Written by gen5.py out of Eng2 and Eng3. -/
import Derived.Test.YtoekjhalcjhegaaEng4
import Derived.Test.YtoekjhalcjhegaaEng6
set_option linter.unusedVariables false
set_option linter.unusedSimpArgs false
namespace Go.Eng
open Go Go.RowKit
variable {P : Program} {N : NN} {Q : Exit → Act → World → Prop} {S : World → Prop} {σ : Env} {w w' : World} {ops rest : List Oper} {r : List (Nat × Bool)}
  {d : Tmp} {ty : TypeId} {pos : String} {af : Array Edge} {g : Option (Nat × Bool)} {io nt : Nat}
section
variable {x y : Operand} {m n : Int} {t : TypeId}
theorem rx_move {x : Operand} {v : Value} (ho : ops[io]? = some ⟨some d, .move x, ty, pos, af, g⟩) (hg : want N ops σ g = true) (hx : ev N σ x = v)
    (k : RX P N ops Q S nt r (upd σ d v) w) : RX P N ops Q S nt ((io, false) :: r) σ w :=
  rx_val ho hg (fun w _ => by simp [execOp, hx]) k
theorem rx_assign {x : Operand} {v : Value} (ho : ops[io]? = some ⟨some d, .assign x, ty, pos, af, g⟩) (hg : want N ops σ g = true) (hx : ev N σ x = v)
    (k : RX P N ops Q S nt r (upd σ d v) w) : RX P N ops Q S nt ((io, false) :: r) σ w :=
  rx_val ho hg (fun w _ => by simp [execOp, hx]) k
theorem rx_pick {c x y : Operand} {b : Bool} {v : Value} (ho : ops[io]? = some ⟨some d, .pick c x y, ty, pos, af, g⟩) (hg : want N ops σ g = true) (hc : ev N σ c = .bool b) (hx : (bif b then ev N σ x else ev N σ y) = v)
    (k : RX P N ops Q S nt r (upd σ d v) w) : RX P N ops Q S nt ((io, false) :: r) σ w :=
  rx_val ho hg (fun w _ => by cases b <;> simp [execOp, hc, asBool] <;> simpa using hx) k

theorem rx_add {t' : TypeId} (ho : ops[io]? = some ⟨some d, .binOp .add t x y t', ty, pos, af, g⟩) (hg : want N ops σ g = true) (hx : ev N σ x = .int .i64 m) (hy : ev N σ y = .int .i64 n)
    (h1 : -9223372036854775808 ≤ m + n) (h2 : m + n ≤ 9223372036854775807)
    (k : RX P N ops Q S nt r (upd σ d (.int .i64 (m + n))) w) : RX P N ops Q S nt ((io, false) :: r) σ w :=
  rx_val ho hg (fun w _ => by rw [run_int .add hx hy _ rfl]; simp [binOp, Op.intArith, wrap_id h1 h2]) k
theorem rx_sub {t' : TypeId} (ho : ops[io]? = some ⟨some d, .binOp .sub t x y t', ty, pos, af, g⟩) (hg : want N ops σ g = true) (hx : ev N σ x = .int .i64 m) (hy : ev N σ y = .int .i64 n)
    (h1 : -9223372036854775808 ≤ m - n) (h2 : m - n ≤ 9223372036854775807)
    (k : RX P N ops Q S nt r (upd σ d (.int .i64 (m - n))) w) : RX P N ops Q S nt ((io, false) :: r) σ w :=
  rx_val ho hg (fun w _ => by rw [run_int .sub hx hy _ rfl]; simp [binOp, Op.intArith, wrap_id h1 h2]) k
theorem rx_mul {t' : TypeId} (ho : ops[io]? = some ⟨some d, .binOp .mul t x y t', ty, pos, af, g⟩) (hg : want N ops σ g = true) (hx : ev N σ x = .int .i64 m) (hy : ev N σ y = .int .i64 n)
    (h1 : -9223372036854775808 ≤ m * n) (h2 : m * n ≤ 9223372036854775807)
    (k : RX P N ops Q S nt r (upd σ d (.int .i64 (m * n))) w) : RX P N ops Q S nt ((io, false) :: r) σ w :=
  rx_val ho hg (fun w _ => by rw [run_int .mul hx hy _ rfl]; simp [binOp, Op.intArith, wrap_id h1 h2]) k
theorem rx_rem {t' : TypeId} (ho : ops[io]? = some ⟨some d, .binOp .rem t x y t', ty, pos, af, g⟩) (hg : want N ops σ g = true) (hx : ev N σ x = .int .i64 m) (hy : ev N σ y = .int .i64 n) (h1 : 0 ≤ m) (h2 : 0 < n)
    (k : RX P N ops Q S nt r (upd σ d (.int .i64 (m % n))) w) : RX P N ops Q S nt ((io, false) :: r) σ w :=
  rx_val ho hg (fun w _ => by
    rw [run_int .rem hx hy _ rfl]
    have : n ≠ 0 := by omega
    simp [binOp, Op.intDiv, this, Int.tmod_eq_emod_of_nonneg h1]) k
theorem rx_quo {t' : TypeId} (ho : ops[io]? = some ⟨some d, .binOp .quo t x y t', ty, pos, af, g⟩) (hg : want N ops σ g = true) (hx : ev N σ x = .int .i64 m) (hy : ev N σ y = .int .i64 n) (h1 : 0 ≤ m) (h2 : 0 < n) (h3 : m ≤ 9223372036854775807)
    (k : RX P N ops Q S nt r (upd σ d (.int .i64 (m / n))) w) : RX P N ops Q S nt ((io, false) :: r) σ w :=
  rx_val ho hg (fun w _ => by
    rw [run_int .quo hx hy _ rfl]
    have hn : n ≠ 0 := by omega
    have h4 : 0 ≤ m / n := Int.ediv_nonneg h1 (by omega)
    have h5 : m / n ≤ m := Int.ediv_le_self _ h1
    simp [binOp, Op.intDiv, hn, Int.tdiv_eq_ediv_of_nonneg h1, wrap_id (z := m / n) (by omega) (by omega)]) k
theorem rx_cmp {t' : TypeId} {b : Bool} (op : BinOp) (ho : ops[io]? = some ⟨some d, .binOp op t x y t', ty, pos, af, g⟩) (hg : want N ops σ g = true) (hx : ev N σ x = .int .i64 m) (hy : ev N σ y = .int .i64 n)
    (hb : ∀ w : World, (binOp op t (.int .i64 m) (.int .i64 n)).run P w = .ok (.bool b) w)
    (k : RX P N ops Q S nt r (upd σ d (.bool b)) w) : RX P N ops Q S nt ((io, false) :: r) σ w :=
  rx_val ho hg (fun w _ => by rw [run_int op hx hy _ rfl]; simp [hb]) k
theorem rx_lss_t {t' : TypeId} (ho : ops[io]? = some ⟨some d, .binOp .lss t x y t', ty, pos, af, g⟩) (hg : want N ops σ g = true) (hx : ev N σ x = .int .i64 m) (hy : ev N σ y = .int .i64 n) (h : m < n)
    (k : RX P N ops Q S nt r (upd σ d (.bool true)) w) : RX P N ops Q S nt ((io, false) :: r) σ w :=
  rx_cmp .lss ho hg hx hy (fun _ => by simp [binOp, Op.intCmp, h]) k
theorem rx_lss_f {t' : TypeId} (ho : ops[io]? = some ⟨some d, .binOp .lss t x y t', ty, pos, af, g⟩) (hg : want N ops σ g = true) (hx : ev N σ x = .int .i64 m) (hy : ev N σ y = .int .i64 n) (h : n ≤ m)
    (k : RX P N ops Q S nt r (upd σ d (.bool false)) w) : RX P N ops Q S nt ((io, false) :: r) σ w :=
  rx_cmp .lss ho hg hx hy (fun _ => by simp [binOp, Op.intCmp]; omega) k
theorem rx_lss {t' : TypeId} (ho : ops[io]? = some ⟨some d, .binOp .lss t x y t', ty, pos, af, g⟩) (hg : want N ops σ g = true) (hx : ev N σ x = .int .i64 m) (hy : ev N σ y = .int .i64 n)
    (k : RX P N ops Q S nt r (upd σ d (.bool (decide (m < n)))) w) : RX P N ops Q S nt ((io, false) :: r) σ w :=
  rx_cmp .lss ho hg hx hy (fun _ => by simp [binOp, Op.intCmp]) k
theorem rx_leq_t {t' : TypeId} (ho : ops[io]? = some ⟨some d, .binOp .leq t x y t', ty, pos, af, g⟩) (hg : want N ops σ g = true) (hx : ev N σ x = .int .i64 m) (hy : ev N σ y = .int .i64 n) (h : m ≤ n)
    (k : RX P N ops Q S nt r (upd σ d (.bool true)) w) : RX P N ops Q S nt ((io, false) :: r) σ w :=
  rx_cmp .leq ho hg hx hy (fun _ => by simp [binOp, Op.intCmp, h]) k
theorem rx_leq_f {t' : TypeId} (ho : ops[io]? = some ⟨some d, .binOp .leq t x y t', ty, pos, af, g⟩) (hg : want N ops σ g = true) (hx : ev N σ x = .int .i64 m) (hy : ev N σ y = .int .i64 n) (h : n < m)
    (k : RX P N ops Q S nt r (upd σ d (.bool false)) w) : RX P N ops Q S nt ((io, false) :: r) σ w :=
  rx_cmp .leq ho hg hx hy (fun _ => by simp [binOp, Op.intCmp]; omega) k
theorem rx_leq {t' : TypeId} (ho : ops[io]? = some ⟨some d, .binOp .leq t x y t', ty, pos, af, g⟩) (hg : want N ops σ g = true) (hx : ev N σ x = .int .i64 m) (hy : ev N σ y = .int .i64 n)
    (k : RX P N ops Q S nt r (upd σ d (.bool (decide (m ≤ n)))) w) : RX P N ops Q S nt ((io, false) :: r) σ w :=
  rx_cmp .leq ho hg hx hy (fun _ => by simp [binOp, Op.intCmp]) k
theorem rx_gtr_t {t' : TypeId} (ho : ops[io]? = some ⟨some d, .binOp .gtr t x y t', ty, pos, af, g⟩) (hg : want N ops σ g = true) (hx : ev N σ x = .int .i64 m) (hy : ev N σ y = .int .i64 n) (h : n < m)
    (k : RX P N ops Q S nt r (upd σ d (.bool true)) w) : RX P N ops Q S nt ((io, false) :: r) σ w :=
  rx_cmp .gtr ho hg hx hy (fun _ => by simp [binOp, Op.intCmp, h]) k
theorem rx_gtr_f {t' : TypeId} (ho : ops[io]? = some ⟨some d, .binOp .gtr t x y t', ty, pos, af, g⟩) (hg : want N ops σ g = true) (hx : ev N σ x = .int .i64 m) (hy : ev N σ y = .int .i64 n) (h : m ≤ n)
    (k : RX P N ops Q S nt r (upd σ d (.bool false)) w) : RX P N ops Q S nt ((io, false) :: r) σ w :=
  rx_cmp .gtr ho hg hx hy (fun _ => by simp [binOp, Op.intCmp]; omega) k
theorem rx_gtr {t' : TypeId} (ho : ops[io]? = some ⟨some d, .binOp .gtr t x y t', ty, pos, af, g⟩) (hg : want N ops σ g = true) (hx : ev N σ x = .int .i64 m) (hy : ev N σ y = .int .i64 n)
    (k : RX P N ops Q S nt r (upd σ d (.bool (decide (n < m)))) w) : RX P N ops Q S nt ((io, false) :: r) σ w :=
  rx_cmp .gtr ho hg hx hy (fun _ => by simp [binOp, Op.intCmp]) k
theorem rx_geq_t {t' : TypeId} (ho : ops[io]? = some ⟨some d, .binOp .geq t x y t', ty, pos, af, g⟩) (hg : want N ops σ g = true) (hx : ev N σ x = .int .i64 m) (hy : ev N σ y = .int .i64 n) (h : n ≤ m)
    (k : RX P N ops Q S nt r (upd σ d (.bool true)) w) : RX P N ops Q S nt ((io, false) :: r) σ w :=
  rx_cmp .geq ho hg hx hy (fun _ => by simp [binOp, Op.intCmp, h]) k
theorem rx_geq_f {t' : TypeId} (ho : ops[io]? = some ⟨some d, .binOp .geq t x y t', ty, pos, af, g⟩) (hg : want N ops σ g = true) (hx : ev N σ x = .int .i64 m) (hy : ev N σ y = .int .i64 n) (h : m < n)
    (k : RX P N ops Q S nt r (upd σ d (.bool false)) w) : RX P N ops Q S nt ((io, false) :: r) σ w :=
  rx_cmp .geq ho hg hx hy (fun _ => by simp [binOp, Op.intCmp]; omega) k
theorem rx_geq {t' : TypeId} (ho : ops[io]? = some ⟨some d, .binOp .geq t x y t', ty, pos, af, g⟩) (hg : want N ops σ g = true) (hx : ev N σ x = .int .i64 m) (hy : ev N σ y = .int .i64 n)
    (k : RX P N ops Q S nt r (upd σ d (.bool (decide (n ≤ m)))) w) : RX P N ops Q S nt ((io, false) :: r) σ w :=
  rx_cmp .geq ho hg hx hy (fun _ => by simp [binOp, Op.intCmp]) k
theorem rx_eql_t {t' : TypeId} (ho : ops[io]? = some ⟨some d, .binOp .eql t x y t', ty, pos, af, g⟩) (hg : want N ops σ g = true) (hx : ev N σ x = .int .i64 m) (hy : ev N σ y = .int .i64 n) (h : m = n)
    (k : RX P N ops Q S nt r (upd σ d (.bool true)) w) : RX P N ops Q S nt ((io, false) :: r) σ w :=
  rx_cmp .eql ho hg hx hy (fun _ => by simp [binOp, Op.intCmp, h]) k
theorem rx_eql_f {t' : TypeId} (ho : ops[io]? = some ⟨some d, .binOp .eql t x y t', ty, pos, af, g⟩) (hg : want N ops σ g = true) (hx : ev N σ x = .int .i64 m) (hy : ev N σ y = .int .i64 n) (h : m ≠ n)
    (k : RX P N ops Q S nt r (upd σ d (.bool false)) w) : RX P N ops Q S nt ((io, false) :: r) σ w :=
  rx_cmp .eql ho hg hx hy (fun _ => by simp [binOp, Op.intCmp, h]) k
theorem rx_eql {t' : TypeId} (ho : ops[io]? = some ⟨some d, .binOp .eql t x y t', ty, pos, af, g⟩) (hg : want N ops σ g = true) (hx : ev N σ x = .int .i64 m) (hy : ev N σ y = .int .i64 n)
    (k : RX P N ops Q S nt r (upd σ d (.bool (decide (m = n)))) w) : RX P N ops Q S nt ((io, false) :: r) σ w :=
  rx_cmp .eql ho hg hx hy (fun _ => by
    simp only [binOp, Op.intCmp, ne_eq, not_true_eq_false, if_false]
    show Result.ok _ _ = _
    rw [show (m == n) = decide (m = n) from rfl]) k
theorem rx_neq_t {t' : TypeId} (ho : ops[io]? = some ⟨some d, .binOp .neq t x y t', ty, pos, af, g⟩) (hg : want N ops σ g = true) (hx : ev N σ x = .int .i64 m) (hy : ev N σ y = .int .i64 n) (h : m ≠ n)
    (k : RX P N ops Q S nt r (upd σ d (.bool true)) w) : RX P N ops Q S nt ((io, false) :: r) σ w :=
  rx_cmp .neq ho hg hx hy (fun _ => by simp [binOp, Op.intCmp, h]) k
theorem rx_neq_f {t' : TypeId} (ho : ops[io]? = some ⟨some d, .binOp .neq t x y t', ty, pos, af, g⟩) (hg : want N ops σ g = true) (hx : ev N σ x = .int .i64 m) (hy : ev N σ y = .int .i64 n) (h : m = n)
    (k : RX P N ops Q S nt r (upd σ d (.bool false)) w) : RX P N ops Q S nt ((io, false) :: r) σ w :=
  rx_cmp .neq ho hg hx hy (fun _ => by simp [binOp, Op.intCmp, h]) k
theorem rx_neq {t' : TypeId} (ho : ops[io]? = some ⟨some d, .binOp .neq t x y t', ty, pos, af, g⟩) (hg : want N ops σ g = true) (hx : ev N σ x = .int .i64 m) (hy : ev N σ y = .int .i64 n)
    (k : RX P N ops Q S nt r (upd σ d (.bool (decide (m ≠ n)))) w) : RX P N ops Q S nt ((io, false) :: r) σ w :=
  rx_cmp .neq ho hg hx hy (fun _ => by
    simp only [binOp, Op.intCmp, ne_eq, not_true_eq_false, if_false]
    show Result.ok _ _ = _
    by_cases h : m = n <;> simp [h]) k
theorem rx_neg (ho : ops[io]? = some ⟨some d, .unOp .neg t x, ty, pos, af, g⟩) (hg : want N ops σ g = true) (hx : ev N σ x = .int .i64 m) (h1 : -9223372036854775808 ≤ -m) (h2 : -m ≤ 9223372036854775807)
    (k : RX P N ops Q S nt r (upd σ d (.int .i64 (-m))) w) : RX P N ops Q S nt ((io, false) :: r) σ w :=
  rx_val ho hg (fun w _ => by simp [execOp, hx, Op.unary, Op.intArith, wrap_id h1 h2]) k
theorem rx_not {b : Bool} (ho : ops[io]? = some ⟨some d, .unOp .not t x, ty, pos, af, g⟩) (hg : want N ops σ g = true) (hx : ev N σ x = .bool b)
    (k : RX P N ops Q S nt r (upd σ d (.bool (!b))) w) : RX P N ops Q S nt ((io, false) :: r) σ w :=
  rx_val ho hg (fun w _ => by simp [execOp, hx, Op.unary]) k
theorem rx_min {ts : Array TypeId} (ho : ops[io]? = some ⟨some d, .call ⟨.builtin .min, #[x, y], ts⟩, ty, pos, af, g⟩) (hg : want N ops σ g = true) (hx : ev N σ x = .int .i64 m) (hy : ev N σ y = .int .i64 n)
    (k : RX P N ops Q S nt r (upd σ d (.int .i64 (min m n))) w) : RX P N ops Q S nt ((io, false) :: r) σ w :=
  rx_val ho hg (fun w _ => by
    have : (if n < m then n else m) = min m n := by split <;> omega
    simp [execOp, resolve, invoke, builtin, hx, hy, run_min_int2, this]) k
theorem rx_max {ts : Array TypeId} (ho : ops[io]? = some ⟨some d, .call ⟨.builtin .max, #[x, y], ts⟩, ty, pos, af, g⟩) (hg : want N ops σ g = true) (hx : ev N σ x = .int .i64 m) (hy : ev N σ y = .int .i64 n)
    (k : RX P N ops Q S nt r (upd σ d (.int .i64 (max m n))) w) : RX P N ops Q S nt ((io, false) :: r) σ w :=
  rx_val ho hg (fun w _ => by
    have : (if m < n then n else m) = max m n := by split <;> omega
    simp [execOp, resolve, invoke, builtin, hx, hy, run_max_int2, this]) k
theorem rx_len {t : TypeId} {x : Operand} {a : Option Addr} {n c e sz by_ : Nat} {z : Value} (ho : ops[io]? = some ⟨some d, .call ⟨.builtin .len, #[x], #[t]⟩, ty, pos, af, g⟩) (hT : SlT P t e sz by_ z) (hg : want N ops σ g = true) (hx : ev N σ x = .slice a n c)
    (k : RX P N ops Q S nt r (upd σ d (.int .i64 n)) w) : RX P N ops Q S nt ((io, false) :: r) σ w :=
  rx_val ho hg (fun w _ => by simp [execOp, resolve, invoke, builtin, hx, Builtin.len_, run_underlying hT.und, goInt]) k
theorem rx_idx {t : TypeId} {x y : Operand} {a : Option Addr} {n c e sz by_ b off : Nat} {i : Int} {z : Value} (ho : ops[io]? = some ⟨some d, .indexAddr t x y, ty, pos, af, g⟩) (hT : SlT P t e sz by_ z) (hg : want N ops σ g = true) (hx : ev N σ x = .slice a n c) (hy : ev N σ y = .int .i64 i)
    (ha : a = some ⟨b, off, none⟩) (h0 : 0 ≤ i) (h1 : i < n)
    (k : RX P N ops Q S nt r (upd σ d (.pointer (some ⟨b, off + i.toNat * sz, none⟩))) w) : RX P N ops Q S nt ((io, false) :: r) σ w := by
  obtain ⟨inf, hi1, hi2, hi3, hi4⟩ := hT.info
  refine rx_val ho hg (fun w _ => ?_) k
  subst ha
  simp [execOp, hx, hy, Instr.indexAt, asIntOf, run_underlying hT.und, h0, h1, sizeOf, typeInfo, hi1, hi3, Addr.add_lit]
theorem rx_idx1 {t : TypeId} {x y : Operand} {a : Option Addr} {n c e by_ b off : Nat} {i : Int} {z : Value} (ho : ops[io]? = some ⟨some d, .indexAddr t x y, ty, pos, af, g⟩) (hT : SlT P t e 1 by_ z) (hg : want N ops σ g = true) (hx : ev N σ x = .slice a n c) (hy : ev N σ y = .int .i64 i)
    (ha : a = some ⟨b, off, none⟩) (h0 : 0 ≤ i) (h1 : i < n)
    (k : RX P N ops Q S nt r (upd σ d (.pointer (some ⟨b, off + i.toNat, none⟩))) w) : RX P N ops Q S nt ((io, false) :: r) σ w :=
  rx_idx ho hT hg hx hy ha h0 h1 (by rw [Nat.mul_one]; exact k)
theorem rx_slice_lh {t : TypeId} {x lo hi : Operand} {a : Option Addr} {n c e sz by_ b off : Nat} {l h : Int} {z : Value} (ho : ops[io]? = some ⟨some d, .slice t x (some lo) (some hi) none, ty, pos, af, g⟩) (hT : SlT P t e sz by_ z) (hg : want N ops σ g = true) (hx : ev N σ x = .slice a n c)
    (hlo : ev N σ lo = .int .i64 l) (hhi : ev N σ hi = .int .i64 h) (ha : 0 < n → a = some ⟨b, off, none⟩) (h0 : 0 ≤ l) (h1 : l ≤ h) (h2 : h ≤ n) (h3 : n ≤ c)
    (k : ∀ a', (l < h → a' = some ⟨b, off + l.toNat * sz, none⟩) → RX P N ops Q S nt r (upd σ d (.slice a' (h.toNat - l.toNat) (c - l.toNat))) w) : RX P N ops Q S nt ((io, false) :: r) σ w := by
  obtain ⟨inf, hi1, hi2, hi3, hi4⟩ := hT.info
  refine rx_val ho hg (v := .slice (if c = l.toNat then a else a.map (·.add (l.toNat * sz))) (h.toNat - l.toNat) (c - l.toNat)) (fun w _ => ?_) (k _ ?_)
  · have e1 : h ≤ (c : Int) := by omega
    have e2 : 0 ≤ h := by omega
    have e3 : l ≤ max h 0 := by omega
    simp [execOp, hx, hlo, hhi, Instr.sliceAt, Instr.slice, Instr.sliceBounds, Instr.sliceBound, asIntOf, run_underlying hT.und, h0, e1, e2, e3, sizeOf, typeInfo, hi1, hi3]
  · intro hlt
    have : ¬ c = l.toNat := by omega
    rw [if_neg this, ha (by omega)]
    simp [Addr.add_lit]
theorem rx_slice_h {t : TypeId} {x hi : Operand} {a : Option Addr} {n c e sz by_ : Nat} {h : Int} {z : Value} (ho : ops[io]? = some ⟨some d, .slice t x none (some hi) none, ty, pos, af, g⟩) (hT : SlT P t e sz by_ z) (hg : want N ops σ g = true) (hx : ev N σ x = .slice a n c)
    (hhi : ev N σ hi = .int .i64 h) (h1 : 0 ≤ h) (h2 : h ≤ n) (h3 : n ≤ c)
    (k : RX P N ops Q S nt r (upd σ d (.slice a h.toNat c)) w) : RX P N ops Q S nt ((io, false) :: r) σ w := by
  obtain ⟨inf, hi1, hi2, hi3, hi4⟩ := hT.info
  refine rx_val ho hg (v := .slice a h.toNat c) (fun w _ => ?_) (k)
  have e1 : h ≤ (c : Int) := by omega
  have e2 : (if c = 0 then a else a.map (·.add 0)) = a := by
    cases a <;> simp [Addr.add]
  simp [execOp, hx, hhi, Instr.sliceAt, Instr.slice, Instr.sliceBounds, Instr.sliceBound, asIntOf, run_underlying hT.und, h1, e1, sizeOf, typeInfo, hi1, hi3]
  cases a <;> simp [Addr.add]
theorem rx_slice_l {t : TypeId} {x lo : Operand} {a : Option Addr} {n c e sz by_ b off : Nat} {l : Int} {z : Value} (ho : ops[io]? = some ⟨some d, .slice t x (some lo) none none, ty, pos, af, g⟩) (hT : SlT P t e sz by_ z) (hg : want N ops σ g = true) (hx : ev N σ x = .slice a n c)
    (hlo : ev N σ lo = .int .i64 l) (ha : 0 < n → a = some ⟨b, off, none⟩) (h0 : 0 ≤ l) (h1 : l ≤ n) (h3 : n ≤ c)
    (k : ∀ a', (l < n → a' = some ⟨b, off + l.toNat * sz, none⟩) → RX P N ops Q S nt r (upd σ d (.slice a' (n - l.toNat) (c - l.toNat))) w) : RX P N ops Q S nt ((io, false) :: r) σ w := by
  obtain ⟨inf, hi1, hi2, hi3, hi4⟩ := hT.info
  refine rx_val ho hg (v := .slice (if c = l.toNat then a else a.map (·.add (l.toNat * sz))) (n - l.toNat) (c - l.toNat)) (fun w _ => ?_) (k _ ?_)
  · simp [execOp, hx, hlo, Instr.sliceAt, Instr.slice, Instr.sliceBounds, Instr.sliceBound, asIntOf, run_underlying hT.und, h0, h1, sizeOf, typeInfo, hi1, hi3]
  · intro hlt
    have : ¬ c = l.toNat := by omega
    rw [if_neg this, ha (by omega)]
    simp [Addr.add_lit]

theorem rx_mkfunc {f : FuncId} {cap : List Operand} {vs : List Value} (ho : ops[io]? = some ⟨some d, .makeFunc (.func f) #[] cap.toArray, ty, pos, af, g⟩) (hg : want N ops σ g = true) (ha : cap.map (ev N σ) = vs)
    (k : RX P N ops Q S nt r (upd σ d (.func (.func f) #[] vs.toArray)) w) : RX P N ops Q S nt ((io, false) :: r) σ w :=
  rx_val ho hg (fun w _ => by subst ha; simp [execOp, Instr.makeFunc]) k
theorem rx_nilck {x : Operand} {A : Addr} (ho : ops[io]? = some ⟨some d, .nilCheck x, ty, pos, af, g⟩) (hg : want N ops σ g = true) (hx : ev N σ x = .pointer (some A))
    (k : RX P N ops Q S nt r (upd σ d (.pointer (some A))) w) : RX P N ops Q S nt ((io, false) :: r) σ w :=
  rx_val ho hg (fun w _ => by simp [execOp, hx]) k
theorem rx_eqnil {t t' e sz by_ : Nat} {x y : Operand} {z : Value} {a : Option Addr} {n c : Nat} {b : Bool} (ho : ops[io]? = some ⟨some d, .binOp .eql t x y t', ty, pos, af, g⟩) (hT : SlT P t e sz by_ z) (hg : want N ops σ g = true) (hx : ev N σ x = .slice a n c) (hy : ev N σ y = .slice none 0 0) (hb : a.isNone = b)
    (k : RX P N ops Q S nt r (upd σ d (.bool b)) w) : RX P N ops Q S nt ((io, false) :: r) σ w :=
  rx_val ho hg (fun w _ => by subst hb; unfold execOp; simp only [hx, hy]; simp [eqGuard, run_eqnil hT]) k
theorem rx_neqnil {t t' e sz by_ : Nat} {x y : Operand} {z : Value} {a : Option Addr} {n c : Nat} {b : Bool} (ho : ops[io]? = some ⟨some d, .binOp .neq t x y t', ty, pos, af, g⟩) (hT : SlT P t e sz by_ z) (hg : want N ops σ g = true) (hx : ev N σ x = .slice a n c) (hy : ev N σ y = .slice none 0 0) (hb : a.isNone = !b)
    (k : RX P N ops Q S nt r (upd σ d (.bool b)) w) : RX P N ops Q S nt ((io, false) :: r) σ w := by
  refine rx_val ho hg (fun w _ => ?_) k
  have h : ∀ d : Nat, (Op.equalIn (d + 1) t (.slice a n c) (.slice none 0 0)).run P w = .ok a.isNone w := fun d => by
    cases a <;> simp [Op.equalIn, run_underlying hT.und]
  unfold execOp; simp only [hx, hy]
  simp [eqGuard, binOp, Op.equal, Op.maxDepth, h 9999, hb]
end
end Go.Eng
