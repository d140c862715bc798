/- Numbers of the unsigned kinds, conversions among kinds, texts sliced and indexed by numbers of any kind. Written by gen32.py. Nothing here names a program. -/
import Derived.Test.YtbcplbkjeinplaaDoorEng20
set_option linter.unusedVariables false
set_option linter.unusedSimpArgs false
namespace Go.Eng
open Go Go.RowKit
variable {P : Program} {N : NN} {Q : Exit → Act → World → Prop} {S : World → Prop} {σ : Env} {w0 w w' : World} {ops rest : List Oper} {r : List (Nat × Bool)}
  {d : Tmp} {ty : TypeId} {pos : String} {af : Array Edge} {g : Option (Nat × Bool)} {io nt : Nat} {L : List Ent} {V : Vw}
variable {x y : Operand} {m n : Int} {t t' : TypeId} {kd k' : IntKind}
theorem wrap_u32 {z : Int} (h1 : 0 ≤ z) (h2 : z ≤ 4294967295) : IntKind.u32.wrap z = z := by
  have : z % 4294967296 = z := Int.emod_eq_of_lt h1 (by omega)
  simp [IntKind.wrap, IntKind.bits, IntKind.signed, this]
theorem wrap_u64 {z : Int} (h1 : 0 ≤ z) (h2 : z ≤ 18446744073709551615) : IntKind.u64.wrap z = z := by
  have : z % 18446744073709551616 = z := Int.emod_eq_of_lt h1 (by omega)
  simp [IntKind.wrap, IntKind.bits, IntKind.signed, this]
theorem wrap_i32 {z : Int} (h1 : -2147483648 ≤ z) (h2 : z ≤ 2147483647) : IntKind.i32.wrap z = z := by
  simp only [IntKind.wrap, IntKind.bits, IntKind.signed]
  simp
  omega
theorem rl_kadd (hg : want N ops σ g = true) (hx : ev N σ x = .int kd m) (hy : ev N σ y = .int kd n) (hw : kd.wrap (m + n) = m + n)
    (k : RL P N ops Q rest (upd σ d (.int kd (m + n))) w) : RL P N ops Q (⟨some d, .binOp .add t x y t', ty, pos, af, g⟩ :: rest) σ w :=
  rl_val hg (by
    rw [run_intK .add hx hy _ rfl]; simp [binOp, Op.intArith, hw]) k
theorem rx_kadd (ho : ops[io]? = some ⟨some d, .binOp .add t x y t', ty, pos, af, g⟩) (hg : want N ops σ g = true) (hx : ev N σ x = .int kd m) (hy : ev N σ y = .int kd n) (hw : kd.wrap (m + n) = m + n)
    (k : RX P N ops Q S nt r (upd σ d (.int kd (m + n))) w) : RX P N ops Q S nt ((io, false) :: r) σ w :=
  rx_val ho hg (fun w _ => by
    rw [run_intK .add hx hy _ rfl]; simp [binOp, Op.intArith, hw]) k
theorem rl_ksub (hg : want N ops σ g = true) (hx : ev N σ x = .int kd m) (hy : ev N σ y = .int kd n) (hw : kd.wrap (m - n) = m - n)
    (k : RL P N ops Q rest (upd σ d (.int kd (m - n))) w) : RL P N ops Q (⟨some d, .binOp .sub t x y t', ty, pos, af, g⟩ :: rest) σ w :=
  rl_val hg (by
    rw [run_intK .sub hx hy _ rfl]; simp [binOp, Op.intArith, hw]) k
theorem rx_ksub (ho : ops[io]? = some ⟨some d, .binOp .sub t x y t', ty, pos, af, g⟩) (hg : want N ops σ g = true) (hx : ev N σ x = .int kd m) (hy : ev N σ y = .int kd n) (hw : kd.wrap (m - n) = m - n)
    (k : RX P N ops Q S nt r (upd σ d (.int kd (m - n))) w) : RX P N ops Q S nt ((io, false) :: r) σ w :=
  rx_val ho hg (fun w _ => by
    rw [run_intK .sub hx hy _ rfl]; simp [binOp, Op.intArith, hw]) k
theorem rl_kmul (hg : want N ops σ g = true) (hx : ev N σ x = .int kd m) (hy : ev N σ y = .int kd n) (hw : kd.wrap (m * n) = m * n)
    (k : RL P N ops Q rest (upd σ d (.int kd (m * n))) w) : RL P N ops Q (⟨some d, .binOp .mul t x y t', ty, pos, af, g⟩ :: rest) σ w :=
  rl_val hg (by
    rw [run_intK .mul hx hy _ rfl]; simp [binOp, Op.intArith, hw]) k
theorem rx_kmul (ho : ops[io]? = some ⟨some d, .binOp .mul t x y t', ty, pos, af, g⟩) (hg : want N ops σ g = true) (hx : ev N σ x = .int kd m) (hy : ev N σ y = .int kd n) (hw : kd.wrap (m * n) = m * n)
    (k : RX P N ops Q S nt r (upd σ d (.int kd (m * n))) w) : RX P N ops Q S nt ((io, false) :: r) σ w :=
  rx_val ho hg (fun w _ => by
    rw [run_intK .mul hx hy _ rfl]; simp [binOp, Op.intArith, hw]) k
theorem rl_krem (hg : want N ops σ g = true) (hx : ev N σ x = .int kd m) (hy : ev N σ y = .int kd n) (h1 : 0 ≤ m) (h2 : 0 < n)
    (k : RL P N ops Q rest (upd σ d (.int kd (m % n))) w) : RL P N ops Q (⟨some d, .binOp .rem t x y t', ty, pos, af, g⟩ :: rest) σ w :=
  rl_val hg (by
    rw [run_intK .rem hx hy _ rfl]
    have : n ≠ 0 := by omega
    simp [binOp, Op.intDiv, this, Int.tmod_eq_emod_of_nonneg h1]) k
theorem rx_krem (ho : ops[io]? = some ⟨some d, .binOp .rem t x y t', ty, pos, af, g⟩) (hg : want N ops σ g = true) (hx : ev N σ x = .int kd m) (hy : ev N σ y = .int kd n) (h1 : 0 ≤ m) (h2 : 0 < n)
    (k : RX P N ops Q S nt r (upd σ d (.int kd (m % n))) w) : RX P N ops Q S nt ((io, false) :: r) σ w :=
  rx_val ho hg (fun w _ => by
    rw [run_intK .rem hx hy _ rfl]
    have : n ≠ 0 := by omega
    simp [binOp, Op.intDiv, this, Int.tmod_eq_emod_of_nonneg h1]) k
theorem rl_kquo (hg : want N ops σ g = true) (hx : ev N σ x = .int kd m) (hy : ev N σ y = .int kd n) (h1 : 0 ≤ m) (h2 : 0 < n) (hw : kd.wrap (m / n) = m / n)
    (k : RL P N ops Q rest (upd σ d (.int kd (m / n))) w) : RL P N ops Q (⟨some d, .binOp .quo t x y t', ty, pos, af, g⟩ :: rest) σ w :=
  rl_val hg (by
    rw [run_intK .quo hx hy _ rfl]
    have : n ≠ 0 := by omega
    simp [binOp, Op.intDiv, this, Int.tdiv_eq_ediv_of_nonneg h1, hw]) k
theorem rx_kquo (ho : ops[io]? = some ⟨some d, .binOp .quo t x y t', ty, pos, af, g⟩) (hg : want N ops σ g = true) (hx : ev N σ x = .int kd m) (hy : ev N σ y = .int kd n) (h1 : 0 ≤ m) (h2 : 0 < n) (hw : kd.wrap (m / n) = m / n)
    (k : RX P N ops Q S nt r (upd σ d (.int kd (m / n))) w) : RX P N ops Q S nt ((io, false) :: r) σ w :=
  rx_val ho hg (fun w _ => by
    rw [run_intK .quo hx hy _ rfl]
    have : n ≠ 0 := by omega
    simp [binOp, Op.intDiv, this, Int.tdiv_eq_ediv_of_nonneg h1, hw]) k
theorem rl_kconv (hg : want N ops σ g = true) (hs : (P.underlying t).isSome = true) (hd : P.underlying t' = some (.int k')) (hx : ev N σ x = .int kd m) (hw : k'.wrap m = m)
    (k : RL P N ops Q rest (upd σ d (.int k' m)) w) : RL P N ops Q (⟨some d, .convert t t' x, ty, pos, af, g⟩ :: rest) σ w :=
  rl_val hg (by
    obtain ⟨s, hs⟩ := Option.isSome_iff_exists.1 hs
    simp [execOp, hx, convert, run_underlying hs, run_underlying hd, Conv.intToInt, hw]) k
theorem rx_kconv (ho : ops[io]? = some ⟨some d, .convert t t' x, ty, pos, af, g⟩) (hg : want N ops σ g = true) (hs : (P.underlying t).isSome = true) (hd : P.underlying t' = some (.int k')) (hx : ev N σ x = .int kd m) (hw : k'.wrap m = m)
    (k : RX P N ops Q S nt r (upd σ d (.int k' m)) w) : RX P N ops Q S nt ((io, false) :: r) σ w :=
  rx_val ho hg (fun w _ => by
    obtain ⟨s, hs⟩ := Option.isSome_iff_exists.1 hs
    simp [execOp, hx, convert, run_underlying hs, run_underlying hd, Conv.intToInt, hw]) k
theorem rl_ksslice {a : List UInt8} {lo hi : Operand} {k1 k2 : IntKind} {l h : Int} (hg : want N ops σ g = true) (hT : P.underlying t = some .string) (hx : ev N σ x = St a) (hlo : ev N σ lo = .int k1 l) (hhi : ev N σ hi = .int k2 h) (h0 : 0 ≤ l) (h1 : l ≤ h) (h2 : h ≤ a.length)
    (k : RL P N ops Q rest (upd σ d (St ((a.take h.toNat).drop l.toNat))) w) : RL P N ops Q (⟨some d, .slice t x (some lo) (some hi) none, ty, pos, af, g⟩ :: rest) σ w :=
  rl_val hg (by
    have e := st_extract a l.toNat h.toNat
    rw [← List.drop_take] at e
    have e2 : 0 ≤ h := by omega
    have e3 : l ≤ max h 0 := by omega
    simp [execOp, hx, hlo, hhi, Instr.sliceAt, Instr.slice, Instr.sliceBounds, Instr.sliceBound, asIntOf, run_underlying hT, h0, h2, e2, e3, st_size, e]) k
theorem rx_ksslice {a : List UInt8} {lo hi : Operand} {k1 k2 : IntKind} {l h : Int} (ho : ops[io]? = some ⟨some d, .slice t x (some lo) (some hi) none, ty, pos, af, g⟩) (hg : want N ops σ g = true) (hT : P.underlying t = some .string) (hx : ev N σ x = St a) (hlo : ev N σ lo = .int k1 l) (hhi : ev N σ hi = .int k2 h) (h0 : 0 ≤ l) (h1 : l ≤ h) (h2 : h ≤ a.length)
    (k : RX P N ops Q S nt r (upd σ d (St ((a.take h.toNat).drop l.toNat))) w) : RX P N ops Q S nt ((io, false) :: r) σ w :=
  rx_val ho hg (fun w _ => by
    have e := st_extract a l.toNat h.toNat
    rw [← List.drop_take] at e
    have e2 : 0 ≤ h := by omega
    have e3 : l ≤ max h 0 := by omega
    simp [execOp, hx, hlo, hhi, Instr.sliceAt, Instr.slice, Instr.sliceBounds, Instr.sliceBound, asIntOf, run_underlying hT, h0, h2, e2, e3, st_size, e]) k
theorem rl_ksindex {a : List UInt8} {i : Int} {c : UInt8} (hg : want N ops σ g = true) (hT : P.underlying t = some .string) (hx : ev N σ x = St a) (hy : ev N σ y = .int kd i) (h0 : 0 ≤ i) (hc : a[i.toNat]? = some c)
    (k : RL P N ops Q rest (upd σ d (.int .u8 c.toNat)) w) : RL P N ops Q (⟨some d, .index t x y, ty, pos, af, g⟩ :: rest) σ w :=
  rl_val hg (by
    obtain ⟨hlt, he⟩ := List.getElem?_eq_some_iff.1 hc
    have h := run_index_string (P := P) w t (ByteArray.mk a.toArray) kd i hT
    have hsz : i < ((ByteArray.mk a.toArray).size : Int) := by rw [st_size]; omega
    have hlt' : i.toNat < (ByteArray.mk a.toArray).size := by rw [st_size]; omega
    have he' : (ByteArray.mk a.toArray)[i.toNat]'hlt' = c := by
      rw [← he]; rfl
    rw [dif_pos ⟨h0, hsz⟩, he'] at h
    simp [execOp, hx, hy, h]) k
theorem rx_ksindex {a : List UInt8} {i : Int} {c : UInt8} (ho : ops[io]? = some ⟨some d, .index t x y, ty, pos, af, g⟩) (hg : want N ops σ g = true) (hT : P.underlying t = some .string) (hx : ev N σ x = St a) (hy : ev N σ y = .int kd i) (h0 : 0 ≤ i) (hc : a[i.toNat]? = some c)
    (k : RX P N ops Q S nt r (upd σ d (.int .u8 c.toNat)) w) : RX P N ops Q S nt ((io, false) :: r) σ w :=
  rx_val ho hg (fun w _ => by
    obtain ⟨hlt, he⟩ := List.getElem?_eq_some_iff.1 hc
    have h := run_index_string (P := P) w t (ByteArray.mk a.toArray) kd i hT
    have hsz : i < ((ByteArray.mk a.toArray).size : Int) := by rw [st_size]; omega
    have hlt' : i.toNat < (ByteArray.mk a.toArray).size := by rw [st_size]; omega
    have he' : (ByteArray.mk a.toArray)[i.toNat]'hlt' = c := by
      rw [← he]; rfl
    rw [dif_pos ⟨h0, hsz⟩, he'] at h
    simp [execOp, hx, hy, h]) k
theorem rx_neqbool {a b : Bool} (ho : ops[io]? = some ⟨some d, .binOp .neq t x y t', ty, pos, af, g⟩) (hT : P.underlying t = some .bool) (hg : want N ops σ g = true) (hx : ev N σ x = .bool a) (hy : ev N σ y = .bool b)
    (k : RX P N ops Q S nt r (upd σ d (.bool (!(a == b)))) w) : RX P N ops Q S nt ((io, false) :: r) σ w :=
  rx_val ho hg (fun w _ => by
    unfold execOp
    simp only [hx, hy]
    simp [eqGuard, run_neq_bool (w := w) t a b hT]) k
theorem by8_set (l : List UInt8) (i : Nat) (c : UInt8) : (by8 l).set i (.int .u8 c.toNat) = by8 (l.set i c) := by
  simp [by8, List.map_set]
theorem by8_get {l : List UInt8} {j : Nat} {u : UInt8} (h : l[j]? = some u) : (by8 l)[j]? = some (.int .u8 u.toNat) := by simp [by8, h]
end Go.Eng
