/- The rules of Eng11 for operations that only compute, once more, for the head of a region whose order is drawn. Written by gen12.py out of Eng11. -/
import Derived.Test.YtoekjhalcjhegaaEng11
set_option linter.unusedVariables false
set_option linter.unusedSimpArgs false
namespace Go.Eng
open Go Go.RowKit
variable {P : Program} {N : NN} {Q : Exit → Act → World → Prop} {S : World → Prop} {σ : Env} {w w' : World} {ops rest : List Oper} {r : List (Nat × Bool)}
  {d : Tmp} {ty : TypeId} {pos : String} {af : Array Edge} {g : Option (Nat × Bool)} {io nt : Nat}
theorem rx_sadd {x y : Operand} {t t' : TypeId} {a b : List UInt8} (ho : ops[io]? = some ⟨some d, .binOp .add t x y t', ty, pos, af, g⟩) (hg : want N ops σ g = true) (hx : ev N σ x = St a) (hy : ev N σ y = St b) (hl : a.length + b.length ≤ 9223372036854775807)
    (k : RX P N ops Q S nt r (upd σ d (St (a ++ b))) w) : RX P N ops Q S nt ((io, false) :: r) σ w :=
  rx_val ho hg (fun w _ => by
    unfold execOp
    simp only [hx, hy]
    have h := run_string_add_sum (P := P) w (ByteArray.mk a.toArray) (ByteArray.mk b.toArray) (by rw [st_size, st_size]; exact hl)
    rw [ByteArray.mk_append_mk] at h
    simp [eqGuard, binOp_string_add, h]) k
theorem rx_seql {x y : Operand} {t t' : TypeId} {a b : List UInt8} (ho : ops[io]? = some ⟨some d, .binOp .eql t x y t', ty, pos, af, g⟩) (hg : want N ops σ g = true) (hx : ev N σ x = St a) (hy : ev N σ y = St b)
    (k : RX P N ops Q S nt r (upd σ d (.bool (decide (a = b)))) w) : RX P N ops Q S nt ((io, false) :: r) σ w :=
  rx_val ho hg (fun w _ => by
    unfold execOp
    simp only [hx, hy]
    have h := st_beq a b
    simp only [binOp_string_eql, h]
    simp [eqGuard]) k
theorem rx_sneq {x y : Operand} {t t' : TypeId} {a b : List UInt8} (ho : ops[io]? = some ⟨some d, .binOp .neq t x y t', ty, pos, af, g⟩) (hg : want N ops σ g = true) (hx : ev N σ x = St a) (hy : ev N σ y = St b)
    (k : RX P N ops Q S nt r (upd σ d (.bool (!decide (a = b)))) w) : RX P N ops Q S nt ((io, false) :: r) σ w :=
  rx_val ho hg (fun w _ => by
    unfold execOp
    simp only [hx, hy]
    have h := st_beq a b
    simp only [binOp_string_neq, h]
    simp [eqGuard]) k
theorem rx_seql_t {x y : Operand} {t t' : TypeId} {a b : List UInt8} (ho : ops[io]? = some ⟨some d, .binOp .eql t x y t', ty, pos, af, g⟩) (hg : want N ops σ g = true) (hx : ev N σ x = St a) (hy : ev N σ y = St b) (h : a = b)
    (k : RX P N ops Q S nt r (upd σ d (.bool true)) w) : RX P N ops Q S nt ((io, false) :: r) σ w :=
  rx_seql ho hg hx hy (by rw [decide_eq_true h]; exact k)
theorem rx_seql_f {x y : Operand} {t t' : TypeId} {a b : List UInt8} (ho : ops[io]? = some ⟨some d, .binOp .eql t x y t', ty, pos, af, g⟩) (hg : want N ops σ g = true) (hx : ev N σ x = St a) (hy : ev N σ y = St b) (h : a ≠ b)
    (k : RX P N ops Q S nt r (upd σ d (.bool false)) w) : RX P N ops Q S nt ((io, false) :: r) σ w :=
  rx_seql ho hg hx hy (by rw [decide_eq_false h]; exact k)
theorem rx_sneq_t {x y : Operand} {t t' : TypeId} {a b : List UInt8} (ho : ops[io]? = some ⟨some d, .binOp .neq t x y t', ty, pos, af, g⟩) (hg : want N ops σ g = true) (hx : ev N σ x = St a) (hy : ev N σ y = St b) (h : a ≠ b)
    (k : RX P N ops Q S nt r (upd σ d (.bool true)) w) : RX P N ops Q S nt ((io, false) :: r) σ w :=
  rx_sneq ho hg hx hy (by rw [decide_eq_false h]; exact k)
theorem rx_sneq_f {x y : Operand} {t t' : TypeId} {a b : List UInt8} (ho : ops[io]? = some ⟨some d, .binOp .neq t x y t', ty, pos, af, g⟩) (hg : want N ops σ g = true) (hx : ev N σ x = St a) (hy : ev N σ y = St b) (h : a = b)
    (k : RX P N ops Q S nt r (upd σ d (.bool false)) w) : RX P N ops Q S nt ((io, false) :: r) σ w :=
  rx_sneq ho hg hx hy (by rw [decide_eq_true h]; exact k)
theorem rx_slen {x : Operand} {t : TypeId} {a : List UInt8} (ho : ops[io]? = some ⟨some d, .call ⟨.builtin .len, #[x], #[t]⟩, ty, pos, af, g⟩) (hT : P.underlying t = some .string) (hg : want N ops σ g = true) (hx : ev N σ x = St a)
    (k : RX P N ops Q S nt r (upd σ d (.int .i64 a.length)) w) : RX P N ops Q S nt ((io, false) :: r) σ w :=
  rx_val ho hg (fun w _ => by simp [execOp, resolve, invoke, builtin, hx, Builtin.len_, run_underlying hT, goInt, st_size]) k
theorem rx_sslice_h {x : Operand} {t : TypeId} {a : List UInt8} {hi : Operand} {h : Int} (ho : ops[io]? = some ⟨some d, .slice t x none (some hi) none, ty, pos, af, g⟩) (hT : P.underlying t = some .string) (hg : want N ops σ g = true) (hx : ev N σ x = St a) (hh : ev N σ hi = .int .i64 h) (h0 : 0 ≤ h) (h1 : h ≤ a.length)
    (k : RX P N ops Q S nt r (upd σ d (St (a.take h.toNat))) w) : RX P N ops Q S nt ((io, false) :: r) σ w :=
  rx_val ho hg (fun w _ => by
    have e := st_extract a 0 h.toNat
    simp only [List.drop_zero, Nat.sub_zero] at e
    simp [execOp, hx, hh, Instr.sliceAt, Instr.slice, Instr.sliceBounds, Instr.sliceBound, asIntOf, run_underlying hT, h0, h1, st_size, e]) k
theorem rx_sslice_l {x : Operand} {t : TypeId} {a : List UInt8} {lo : Operand} {l : Int} (ho : ops[io]? = some ⟨some d, .slice t x (some lo) none none, ty, pos, af, g⟩) (hT : P.underlying t = some .string) (hg : want N ops σ g = true) (hx : ev N σ x = St a) (hh : ev N σ lo = .int .i64 l) (h0 : 0 ≤ l) (h1 : l ≤ a.length)
    (k : RX P N ops Q S nt r (upd σ d (St (a.drop l.toNat))) w) : RX P N ops Q S nt ((io, false) :: r) σ w :=
  rx_val ho hg (fun w _ => by
    have e := st_extract a l.toNat a.length
    rw [List.take_of_length_le (by simp)] at e
    simp [execOp, hx, hh, Instr.sliceAt, Instr.slice, Instr.sliceBounds, Instr.sliceBound, asIntOf, run_underlying hT, h0, h1, st_size, e]) k
theorem rx_sslice_lh {x : Operand} {t : TypeId} {a : List UInt8} {lo hi : Operand} {l h : Int} (ho : ops[io]? = some ⟨some d, .slice t x (some lo) (some hi) none, ty, pos, af, g⟩) (hT : P.underlying t = some .string) (hg : want N ops σ g = true) (hx : ev N σ x = St a) (hlo : ev N σ lo = .int .i64 l) (hhi : ev N σ hi = .int .i64 h) (h0 : 0 ≤ l) (h1 : l ≤ h) (h2 : h ≤ a.length)
    (k : RX P N ops Q S nt r (upd σ d (St ((a.take h.toNat).drop l.toNat))) w) : RX P N ops Q S nt ((io, false) :: r) σ w :=
  rx_val ho hg (fun w _ => by
    have e := st_extract a l.toNat h.toNat
    rw [← List.drop_take] at e
    have e2 : 0 ≤ h := by omega
    have e3 : l ≤ max h 0 := by omega
    simp [execOp, hx, hlo, hhi, Instr.sliceAt, Instr.slice, Instr.sliceBounds, Instr.sliceBound, asIntOf, run_underlying hT, h0, h2, e2, e3, st_size, e]) k
theorem rx_sindex {x y : Operand} {t : TypeId} {a : List UInt8} {i : Int} {c : UInt8} (ho : ops[io]? = some ⟨some d, .index t x y, ty, pos, af, g⟩) (hT : P.underlying t = some .string) (hg : want N ops σ g = true) (hx : ev N σ x = St a) (hy : ev N σ y = .int .i64 i) (h0 : 0 ≤ i) (hc : a[i.toNat]? = some c)
    (k : RX P N ops Q S nt r (upd σ d (.int .u8 c.toNat)) w) : RX P N ops Q S nt ((io, false) :: r) σ w :=
  rx_val ho hg (fun w _ => by
    obtain ⟨hlt, he⟩ := List.getElem?_eq_some_iff.1 hc
    have h := run_index_string (P := P) w t (ByteArray.mk a.toArray) .i64 i hT
    have hsz : i < ((ByteArray.mk a.toArray).size : Int) := by rw [st_size]; omega
    have hlt' : i.toNat < (ByteArray.mk a.toArray).size := by rw [st_size]; omega
    have he' : (ByteArray.mk a.toArray)[i.toNat]'hlt' = c := by
      rw [← he]; rfl
    rw [dif_pos ⟨h0, hsz⟩, he'] at h
    simp [execOp, hx, hy, h]) k
theorem rx_fld {s f o b off : Nat} {x : Operand} (ho : ops[io]? = some ⟨some d, .fieldAddr s x f, ty, pos, af, g⟩) (hF : FldT P s f o) (hg : want N ops σ g = true) (hx : ev N σ x = .pointer (some ⟨b, off, none⟩))
    (k : RX P N ops Q S nt r (upd σ d (.pointer (some ⟨b, off + o, none⟩))) w) : RX P N ops Q S nt ((io, false) :: r) σ w :=
  rx_val ho hg (fun w _ => by
    unfold FldT at hF
    split at hF
    · rename_i fs hu
      simp only [Option.map_eq_some_iff, Prod.mk.injEq, beq_eq_false_iff_ne] at hF
      obtain ⟨fd, h1, h2, h3⟩ := hF
      cases hi : P.info? fd.type with
      | none => rw [hi] at h3; exact absurd rfl h3
      | some i =>
        rw [hi] at h3
        simp at h3
        simp [execOp, hx, Instr.fieldAt, run_underlying hu, h1, Instr.sureAddr, fieldPlace, sizeOf, typeInfo, hi, h3, h2, Addr.add_lit]
    · cases hF) k
theorem rx_build {t n : Nat} {zs : List Value} {places : List (Nat × Nat)} {ps : List (Nat × Operand)} {pv : List (Nat × Value)} (cs : List Value) (ho : ops[io]? = some ⟨some d, .build t ps.toArray, ty, pos, af, g⟩) (hA : AgT P t n zs) (hP : PlT P t places) (hg : want N ops σ g = true)
    (hv : ps.map (fun p => (p.1, ev N σ p.2)) = pv) (hf : fillL places zs pv = some cs)
    (k : RX P N ops Q S nt r (upd σ d (.agg cs.toArray)) w) : RX P N ops Q S nt ((io, false) :: r) σ w :=
  rx_val ho hg (fun w _ => by
    obtain ⟨i, h2, h3, h4⟩ := hA.info
    unfold PlT at hP
    split at hP
    · rename_i fs hu
      simp only [Option.some.injEq] at hP
      have hm := mapM_places (P := P) w hP
      have hfe := fill_eq places.toArray pv zs cs (by simpa using hf)
      subst hv
      have hm' : (fs.mapM fun f => (do pure (f.offset, ← sizeOf f.type) : Sem (Nat × Nat))).run P w = .ok places.toArray w := by
        rw [Array.mapM_eq_mapM_toList]
        simp at hm ⊢
        rw [hm]
        rfl
      simp [execOp, Instr.build, zeroValue, typeInfo, h2, h3, run_underlying hu, Value.cells]
      simp at hm'
      rw [hm']
      simp at hfe
      simp [hfe]
    · cases hP) k

theorem rx_extract {x : Operand} {i : Nat} {vs : List Value} {v : Value} (ho : ops[io]? = some ⟨some d, .extract x i, ty, pos, af, g⟩) (hg : want N ops σ g = true) (hx : ev N σ x = .tuple vs.toArray) (hi : vs[i]? = some v)
    (k : RX P N ops Q S nt r (upd σ d v) w) : RX P N ops Q S nt ((io, false) :: r) σ w :=
  rx_val ho hg (fun w _ => by simp [execOp, hx, Instr.extract, hi]) k

theorem rx_peqnil {t t' e : TypeId} {x y : Operand} {p : Option Addr} (ho : ops[io]? = some ⟨some d, .binOp .eql t x y t', ty, pos, af, g⟩) (hT : P.underlying t = some (.pointer e)) (hg : want N ops σ g = true) (hx : ev N σ x = .pointer p) (hy : ev N σ y = .pointer none)
    (k : RX P N ops Q S nt r (upd σ d (.bool p.isNone)) w) : RX P N ops Q S nt ((io, false) :: r) σ w :=
  rx_val ho hg (fun w _ => by
    have h : ∀ d : Nat, (Op.equalIn (d + 1) t (.pointer p) (.pointer none)).run P w = .ok p.isNone w := fun d => by
      cases p <;> simp [Op.equalIn, run_underlying hT]
    unfold execOp; simp only [hx, hy]
    simp [eqGuard, binOp, Op.equal, Op.maxDepth, h 9999]) k
theorem rx_pneqnil {t t' e : TypeId} {x y : Operand} {p : Option Addr} (ho : ops[io]? = some ⟨some d, .binOp .neq t x y t', ty, pos, af, g⟩) (hT : P.underlying t = some (.pointer e)) (hg : want N ops σ g = true) (hx : ev N σ x = .pointer p) (hy : ev N σ y = .pointer none)
    (k : RX P N ops Q S nt r (upd σ d (.bool (!p.isNone))) w) : RX P N ops Q S nt ((io, false) :: r) σ w :=
  rx_val ho hg (fun w _ => by
    have h : ∀ d : Nat, (Op.equalIn (d + 1) t (.pointer p) (.pointer none)).run P w = .ok p.isNone w := fun d => by
      cases p <;> simp [Op.equalIn, run_underlying hT]
    unfold execOp; simp only [hx, hy]
    simp [eqGuard, binOp, Op.equal, Op.maxDepth, h 9999]) k
theorem rx_eqbool {t t' : TypeId} {x y : Operand} {a b : Bool} (ho : ops[io]? = some ⟨some d, .binOp .eql t x y t', ty, pos, af, g⟩) (hT : P.underlying t = some .bool) (hg : want N ops σ g = true) (hx : ev N σ x = .bool a) (hy : ev N σ y = .bool b)
    (k : RX P N ops Q S nt r (upd σ d (.bool (a == b))) w) : RX P N ops Q S nt ((io, false) :: r) σ w :=
  rx_val ho hg (fun w _ => by
    unfold execOp
    simp only [hx, hy]
    simp [eqGuard, run_eql_bool w t a b hT]) k
theorem rx_loadA1 {t : Nat} {zs : List Value} {x : Operand} {b off : Nat} {u : Value} (ho : ops[io]? = some ⟨some d, .load t x, ty, pos, af, g⟩) (hA : AgT P t 1 zs) (hg : want N ops σ g = true) (hx : ev N σ x = .pointer (some ⟨b, off, none⟩)) (hc : ∀ w, S w → w.cell? ⟨b, off, none⟩ = some u)
    (k : RX P N ops Q S nt r (upd σ d (.agg #[u])) w) : RX P N ops Q S nt ((io, false) :: r) σ w :=
  rx_val ho hg (fun w hS => by
    have h := run_loadAg (w := w) (cs := [u]) hA rfl (fun j v hj => by
      match j, hj with
      | 0, hj => simp at hj; subst hj; exact hc w hS)
    simp [execOp, hx, Instr.loadAt, Instr.sureAddr, h]) k
theorem rx_loadA2 {t : Nat} {zs : List Value} {x : Operand} {b off : Nat} {u v : Value} (ho : ops[io]? = some ⟨some d, .load t x, ty, pos, af, g⟩) (hA : AgT P t 2 zs) (hg : want N ops σ g = true) (hx : ev N σ x = .pointer (some ⟨b, off, none⟩)) (hc : ∀ w, S w → w.cell? ⟨b, off, none⟩ = some u) (hc1 : ∀ w, S w → w.cell? ⟨b, off + 1, none⟩ = some v)
    (k : RX P N ops Q S nt r (upd σ d (.agg #[u, v])) w) : RX P N ops Q S nt ((io, false) :: r) σ w :=
  rx_val ho hg (fun w hS => by
    have h := run_loadAg (w := w) (cs := [u, v]) hA rfl (fun j s hj => by
      match j, hj with
      | 0, hj => simp at hj; subst hj; exact hc w hS
      | 1, hj => simp at hj; subst hj; exact hc1 w hS)
    simp [execOp, hx, Instr.loadAt, Instr.sureAddr, h]) k
theorem rx_loadA3 {t : Nat} {zs : List Value} {x : Operand} {b off : Nat} {u v s : Value} (ho : ops[io]? = some ⟨some d, .load t x, ty, pos, af, g⟩) (hA : AgT P t 3 zs) (hg : want N ops σ g = true) (hx : ev N σ x = .pointer (some ⟨b, off, none⟩)) (hc : ∀ w, S w → w.cell? ⟨b, off, none⟩ = some u) (hc1 : ∀ w, S w → w.cell? ⟨b, off + 1, none⟩ = some v) (hc2 : ∀ w, S w → w.cell? ⟨b, off + 2, none⟩ = some s)
    (k : RX P N ops Q S nt r (upd σ d (.agg #[u, v, s])) w) : RX P N ops Q S nt ((io, false) :: r) σ w :=
  rx_val ho hg (fun w hS => by
    have h := run_loadAg (w := w) (cs := [u, v, s]) hA rfl (fun j q hj => by
      match j, hj with
      | 0, hj => simp at hj; subst hj; exact hc w hS
      | 1, hj => simp at hj; subst hj; exact hc1 w hS
      | 2, hj => simp at hj; subst hj; exact hc2 w hS)
    simp [execOp, hx, Instr.loadAt, Instr.sureAddr, h]) k
end Go.Eng
