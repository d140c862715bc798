/- Strings, structs, tuples and pointers over the frame of Eng1. Nothing here names a program. -/
import Derived.Test.YtoekjhalcjhegaaEng10
import Derived.Laws.Concat
import Derived.Laws.Strings2
import Derived.Laws.Cells
import Derived.Laws.CopyRow
set_option linter.unusedVariables false
set_option linter.unusedSimpArgs false
namespace Go.Eng
open Go Go.RowKit
variable {P : Program} {N : NN} {Q : Exit → Act → World → Prop} {σ : Env} {w w' : World} {ops rest : List Oper}
  {d : Tmp} {ty : TypeId} {pos : String} {af : Array Edge} {g : Option (Nat × Bool)}

/-! ## Strings -/
abbrev St (l : List UInt8) : Value := .string ⟨l.toArray⟩
theorem st_toList (l : List UInt8) : (ByteArray.mk l.toArray).toList = l := ByteArray.toList_mk l
theorem st_size (l : List UInt8) : (ByteArray.mk l.toArray).size = l.length := by
  show l.toArray.size = l.length
  simp
theorem st_beq (a b : List UInt8) : ((ByteArray.mk a.toArray).toList == (ByteArray.mk b.toArray).toList) = decide (a = b) := by
  rw [st_toList, st_toList]
  by_cases h : a = b <;> simp [h]
section
variable {x y : Operand} {t t' : TypeId} {a b : List UInt8}
theorem rl_sadd (hg : want N ops σ g = true) (hx : ev N σ x = St a) (hy : ev N σ y = St b) (hl : a.length + b.length ≤ 9223372036854775807)
    (k : RL P N ops Q rest (upd σ d (St (a ++ b))) w) : RL P N ops Q (⟨some d, .binOp .add t x y t', ty, pos, af, g⟩ :: rest) σ w :=
  rl_val hg (by
    unfold execOp
    simp only [hx, hy]
    have h := run_string_add_sum (P := P) w (ByteArray.mk a.toArray) (ByteArray.mk b.toArray) (by rw [st_size, st_size]; exact hl)
    rw [ByteArray.mk_append_mk] at h
    simp [eqGuard, binOp_string_add, h]) k
theorem rl_seql (hg : want N ops σ g = true) (hx : ev N σ x = St a) (hy : ev N σ y = St b)
    (k : RL P N ops Q rest (upd σ d (.bool (decide (a = b)))) w) : RL P N ops Q (⟨some d, .binOp .eql t x y t', ty, pos, af, g⟩ :: rest) σ w :=
  rl_val hg (by
    unfold execOp
    simp only [hx, hy]
    have h := st_beq a b
    simp only [binOp_string_eql, h]
    simp [eqGuard]) k
theorem rl_sneq (hg : want N ops σ g = true) (hx : ev N σ x = St a) (hy : ev N σ y = St b)
    (k : RL P N ops Q rest (upd σ d (.bool (!decide (a = b)))) w) : RL P N ops Q (⟨some d, .binOp .neq t x y t', ty, pos, af, g⟩ :: rest) σ w :=
  rl_val hg (by
    unfold execOp
    simp only [hx, hy]
    have h := st_beq a b
    simp only [binOp_string_neq, h]
    simp [eqGuard]) k
theorem rl_seql_t (hg : want N ops σ g = true) (hx : ev N σ x = St a) (hy : ev N σ y = St b) (h : a = b)
    (k : RL P N ops Q rest (upd σ d (.bool true)) w) : RL P N ops Q (⟨some d, .binOp .eql t x y t', ty, pos, af, g⟩ :: rest) σ w :=
  rl_seql hg hx hy (by rw [decide_eq_true h]; exact k)
theorem rl_seql_f (hg : want N ops σ g = true) (hx : ev N σ x = St a) (hy : ev N σ y = St b) (h : a ≠ b)
    (k : RL P N ops Q rest (upd σ d (.bool false)) w) : RL P N ops Q (⟨some d, .binOp .eql t x y t', ty, pos, af, g⟩ :: rest) σ w :=
  rl_seql hg hx hy (by rw [decide_eq_false h]; exact k)
theorem rl_sneq_t (hg : want N ops σ g = true) (hx : ev N σ x = St a) (hy : ev N σ y = St b) (h : a ≠ b)
    (k : RL P N ops Q rest (upd σ d (.bool true)) w) : RL P N ops Q (⟨some d, .binOp .neq t x y t', ty, pos, af, g⟩ :: rest) σ w :=
  rl_sneq hg hx hy (by rw [decide_eq_false h]; exact k)
theorem rl_sneq_f (hg : want N ops σ g = true) (hx : ev N σ x = St a) (hy : ev N σ y = St b) (h : a = b)
    (k : RL P N ops Q rest (upd σ d (.bool false)) w) : RL P N ops Q (⟨some d, .binOp .neq t x y t', ty, pos, af, g⟩ :: rest) σ w :=
  rl_sneq hg hx hy (by rw [decide_eq_true h]; exact k)
theorem rl_slen (hT : P.underlying t = some .string) (hg : want N ops σ g = true) (hx : ev N σ x = St a)
    (k : RL P N ops Q rest (upd σ d (.int .i64 a.length)) w) : RL P N ops Q (⟨some d, .call ⟨.builtin .len, #[x], #[t]⟩, ty, pos, af, g⟩ :: rest) σ w :=
  rl_val hg (by simp [execOp, resolve, invoke, builtin, hx, Builtin.len_, run_underlying hT, goInt, st_size]) k
theorem st_extract (l : List UInt8) (a b : Nat) : (ByteArray.mk l.toArray).extract a b = ByteArray.mk ((l.drop a).take (b - a)).toArray := ByteArray.extract_mk l a b
theorem rl_sslice_h {hi : Operand} {h : Int} (hT : P.underlying t = some .string) (hg : want N ops σ g = true) (hx : ev N σ x = St a) (hh : ev N σ hi = .int .i64 h) (h0 : 0 ≤ h) (h1 : h ≤ a.length)
    (k : RL P N ops Q rest (upd σ d (St (a.take h.toNat))) w) : RL P N ops Q (⟨some d, .slice t x none (some hi) none, ty, pos, af, g⟩ :: rest) σ w :=
  rl_val hg (by
    have e := st_extract a 0 h.toNat
    simp only [List.drop_zero, Nat.sub_zero] at e
    simp [execOp, hx, hh, Instr.sliceAt, Instr.slice, Instr.sliceBounds, Instr.sliceBound, asIntOf, run_underlying hT, h0, h1, st_size, e]) k
theorem rl_sslice_l {lo : Operand} {l : Int} (hT : P.underlying t = some .string) (hg : want N ops σ g = true) (hx : ev N σ x = St a) (hh : ev N σ lo = .int .i64 l) (h0 : 0 ≤ l) (h1 : l ≤ a.length)
    (k : RL P N ops Q rest (upd σ d (St (a.drop l.toNat))) w) : RL P N ops Q (⟨some d, .slice t x (some lo) none none, ty, pos, af, g⟩ :: rest) σ w :=
  rl_val hg (by
    have e := st_extract a l.toNat a.length
    rw [List.take_of_length_le (by simp)] at e
    simp [execOp, hx, hh, Instr.sliceAt, Instr.slice, Instr.sliceBounds, Instr.sliceBound, asIntOf, run_underlying hT, h0, h1, st_size, e]) k
theorem rl_sslice_lh {lo hi : Operand} {l h : Int} (hT : P.underlying t = some .string) (hg : want N ops σ g = true) (hx : ev N σ x = St a) (hlo : ev N σ lo = .int .i64 l) (hhi : ev N σ hi = .int .i64 h) (h0 : 0 ≤ l) (h1 : l ≤ h) (h2 : h ≤ a.length)
    (k : RL P N ops Q rest (upd σ d (St ((a.take h.toNat).drop l.toNat))) w) : RL P N ops Q (⟨some d, .slice t x (some lo) (some hi) none, ty, pos, af, g⟩ :: rest) σ w :=
  rl_val hg (by
    have e := st_extract a l.toNat h.toNat
    rw [← List.drop_take] at e
    have e2 : 0 ≤ h := by omega
    have e3 : l ≤ max h 0 := by omega
    simp [execOp, hx, hlo, hhi, Instr.sliceAt, Instr.slice, Instr.sliceBounds, Instr.sliceBound, asIntOf, run_underlying hT, h0, h2, e2, e3, st_size, e]) k
theorem rl_sindex {i : Int} {c : UInt8} (hT : P.underlying t = some .string) (hg : want N ops σ g = true) (hx : ev N σ x = St a) (hy : ev N σ y = .int .i64 i) (h0 : 0 ≤ i) (hc : a[i.toNat]? = some c)
    (k : RL P N ops Q rest (upd σ d (.int .u8 c.toNat)) w) : RL P N ops Q (⟨some d, .index t x y, ty, pos, af, g⟩ :: rest) σ w :=
  rl_val hg (by
    obtain ⟨hlt, he⟩ := List.getElem?_eq_some_iff.1 hc
    have h := run_index_string (P := P) w t (ByteArray.mk a.toArray) .i64 i hT
    have hsz : i < ((ByteArray.mk a.toArray).size : Int) := by rw [st_size]; omega
    have hlt' : i.toNat < (ByteArray.mk a.toArray).size := by rw [st_size]; omega
    have he' : (ByteArray.mk a.toArray)[i.toNat]'hlt' = c := by
      rw [← he]; rfl
    rw [dif_pos ⟨h0, hsz⟩, he'] at h
    simp [execOp, hx, hy, h]) k
end

/-! ## Structs -/
/-- Type t is a struct of n cells, zs where nothing is said. -/
structure AgT (P : Program) (t n : Nat) (zs : List Value) : Prop where
  agg : (match P.underlying t with | some (.struct _) => true | some (.array _ _) => true | _ => false) = true
  inf : (P.info? t).map (fun i => (i.zero, i.size)) = some (some (.agg zs.toArray), n)
  len : zs.length = n
/-- Field f of struct s begins at cell o. -/
def FldT (P : Program) (s f o : Nat) : Prop :=
  (match P.underlying s with | some (.struct fs) => (fs[f]?).map (fun fd => (fd.offset, ((P.info? fd.type).map (·.size)).getD 0 == 0)) | _ => none) = some (o, false)
theorem AgT.isAgg {t n : Nat} {zs : List Value} (h : AgT P t n zs) (w : World) : (isAgg t).run P w = .ok true w := by
  have := h.agg
  cases hu : P.underlying t with
  | none => rw [hu] at this; cases this
  | some u =>
    rw [hu] at this
    cases u <;> first | (cases this; done) | (unfold Go.isAgg; simp only [Sem.run_bind, run_underlying hu, Result.andThen_ok]; rfl)
theorem AgT.info {t n : Nat} {zs : List Value} (h : AgT P t n zs) : ∃ i, P.info? t = some i ∧ i.zero = some (.agg zs.toArray) ∧ i.size = n := by
  have := h.inf
  simp only [Option.map_eq_some_iff, Prod.mk.injEq] at this
  obtain ⟨i, h1, h2, h3⟩ := this
  exact ⟨i, h1, h2, h3⟩
theorem rl_fld {s f o b off : Nat} {x : Operand} (hF : FldT P s f o) (hg : want N ops σ g = true) (hx : ev N σ x = .pointer (some ⟨b, off, none⟩))
    (k : RL P N ops Q rest (upd σ d (.pointer (some ⟨b, off + o, none⟩))) w) : RL P N ops Q (⟨some d, .fieldAddr s x f, ty, pos, af, g⟩ :: rest) σ w :=
  rl_val hg (by
    unfold FldT at hF
    split at hF
    · rename_i fs hu
      simp only [Option.map_eq_some_iff, Prod.mk.injEq, beq_eq_false_iff_ne] at hF
      obtain ⟨fd, h1, h2, h3⟩ := hF
      cases hi : P.info? fd.type with
      | none => rw [hi] at h3; exact absurd rfl h3
      | some i =>
        rw [hi] at h3
        simp at h3
        simp [execOp, hx, Instr.fieldAt, run_underlying hu, h1, Instr.sureAddr, fieldPlace, sizeOf, typeInfo, hi, h3, h2, Addr.add_lit]
    · cases hF) k
theorem run_loadAg {t n : Nat} {zs cs : List Value} {b off : Nat} (hA : AgT P t n zs) (hl : cs.length = n) (hc : ∀ j u, cs[j]? = some u → w.cell? ⟨b, off + j, none⟩ = some u) :
    (loadVar t ⟨b, off, none⟩).run P w = .ok (.agg cs.toArray) w := by
  obtain ⟨i, h1, h2, h3⟩ := hA.info
  have h := run_loadCells_list (P := P) w ⟨b, off, none⟩ cs (fun j v hv => by rw [Addr.add_lit]; exact hc j v hv)
  subst hl
  simp [loadVar, hA.isAgg, sizeOf, typeInfo, h1, h3, h]
theorem rl_loadA {t n : Nat} {zs : List Value} {x : Operand} {b off : Nat} (cs : List Value) (hA : AgT P t n zs) (hg : want N ops σ g = true) (hx : ev N σ x = .pointer (some ⟨b, off, none⟩)) (hl : cs.length = n) (hc : ∀ j u, cs[j]? = some u → w.cell? ⟨b, off + j, none⟩ = some u)
    (k : RL P N ops Q rest (upd σ d (.agg cs.toArray)) w) : RL P N ops Q (⟨some d, .load t x, ty, pos, af, g⟩ :: rest) σ w :=
  rl_val hg (by
    have h := run_loadAg (w := w) hA hl hc
    simp [execOp, hx, Instr.loadAt, Instr.sureAddr, h]) k
theorem rl_loadA1 {t : Nat} {zs : List Value} {x : Operand} {b off : Nat} {u : Value} (hA : AgT P t 1 zs) (hg : want N ops σ g = true) (hx : ev N σ x = .pointer (some ⟨b, off, none⟩)) (hc : w.cell? ⟨b, off, none⟩ = some u)
    (k : RL P N ops Q rest (upd σ d (.agg #[u])) w) : RL P N ops Q (⟨some d, .load t x, ty, pos, af, g⟩ :: rest) σ w :=
  rl_loadA [u] hA hg hx rfl (fun j v hj => by
    match j, hj with
    | 0, hj => simp at hj; subst hj; exact hc) k
theorem rl_loadA2 {t : Nat} {zs : List Value} {x : Operand} {b off : Nat} {u v : Value} (hA : AgT P t 2 zs) (hg : want N ops σ g = true) (hx : ev N σ x = .pointer (some ⟨b, off, none⟩)) (hc : w.cell? ⟨b, off, none⟩ = some u) (hc1 : w.cell? ⟨b, off + 1, none⟩ = some v)
    (k : RL P N ops Q rest (upd σ d (.agg #[u, v])) w) : RL P N ops Q (⟨some d, .load t x, ty, pos, af, g⟩ :: rest) σ w :=
  rl_loadA [u, v] hA hg hx rfl (fun j s hj => by
    match j, hj with
    | 0, hj => simp at hj; subst hj; exact hc
    | 1, hj => simp at hj; subst hj; exact hc1) k
theorem rl_loadA3 {t : Nat} {zs : List Value} {x : Operand} {b off : Nat} {u v s : Value} (hA : AgT P t 3 zs) (hg : want N ops σ g = true) (hx : ev N σ x = .pointer (some ⟨b, off, none⟩)) (hc : w.cell? ⟨b, off, none⟩ = some u) (hc1 : w.cell? ⟨b, off + 1, none⟩ = some v) (hc2 : w.cell? ⟨b, off + 2, none⟩ = some s)
    (k : RL P N ops Q rest (upd σ d (.agg #[u, v, s])) w) : RL P N ops Q (⟨some d, .load t x, ty, pos, af, g⟩ :: rest) σ w :=
  rl_loadA [u, v, s] hA hg hx rfl (fun j r hj => by
    match j, hj with
    | 0, hj => simp at hj; subst hj; exact hc
    | 1, hj => simp at hj; subst hj; exact hc1
    | 2, hj => simp at hj; subst hj; exact hc2) k
/-- A store of a struct into cells of a block of the call's own. -/
theorem rl_storeA {t t' n : Nat} {zs vs cs : List Value} {x y : Operand} {b off : Nat} (hA : AgT P t n zs) (hg : want N ops σ g = true) (hx : ev N σ x = .pointer (some ⟨b, off, none⟩)) (hy : ev N σ y = .agg vs.toArray) (hl : vs.length = n) (h1 : ∀ v ∈ vs, v.oneCell' = true)
    (hB : Blk w b cs t') (hfit : off + n ≤ cs.length)
    (k : ∀ w', Blk w' b (cs.take off ++ vs ++ cs.drop (off + vs.length)) t' → Chg b w w' → w'.heap.size = w.heap.size → RL P N ops Q rest σ w') : RL P N ops Q (⟨none, .store t x y, ty, pos, af, g⟩ :: rest) σ w := by
  obtain ⟨i, h2, h3, h4⟩ := hA.info
  have hst := run_storeCells_at P b off t' vs 0 cs.toArray w hB (by simp only [List.size_toArray, Nat.add_zero]; omega) h1
  simp only [Nat.add_zero] at hst
  refine rl_unit hg ?_ (k _ (blk_row hB) (chg_row _ _ _) (by simp))
  simp [execOp, hx, hy, Instr.storeAt, Instr.sureAddr, storeVar, sizeOf, typeInfo, h2, h4, Value.cells, hl]
  simp [hl] at hst
  rw [hst]
  rfl
/-- The same, where the struct is the whole block. -/
theorem rl_storeW {t t' n : Nat} {zs vs cs : List Value} {x y : Operand} {b : Nat} (hA : AgT P t n zs) (hg : want N ops σ g = true) (hx : ev N σ x = .pointer (some ⟨b, 0, none⟩)) (hy : ev N σ y = .agg vs.toArray) (hl : vs.length = n) (h1 : vs.all (·.oneCell') = true)
    (hB : Blk w b cs t') (hc : cs.length = n)
    (k : ∀ w', Blk w' b vs t' → Chg b w w' → w'.heap.size = w.heap.size → RL P N ops Q rest σ w') : RL P N ops Q (⟨none, .store t x y, ty, pos, af, g⟩ :: rest) σ w :=
  rl_storeA hA hg hx hy hl (by simpa using h1) hB (by omega) (fun w' h2 h3 h4 => k w' (by
    rw [List.take_zero, List.nil_append, List.drop_of_length_le (by omega), List.append_nil] at h2; exact h2) h3 h4)
theorem rl_boxA {t : TypeId} {x : Operand} {vs : List Value} (hg : want N ops σ g = true) (hx : ev N σ x = .agg vs.toArray)
    (k : ∀ w', Blk w' w.heap.size vs t → Below w.heap.size w w' → w'.heap.size = w.heap.size + 1 → RL P N ops Q rest (upd σ d (.pointer (some ⟨w.heap.size, 0, none⟩))) w') :
    RL P N ops Q (⟨some d, .box t x, ty, pos, af, g⟩ :: rest) σ w := by
  refine rl_val hg ?_ (k (w.alloc (.cells vs.toArray t)) (blk_alloc _ _ _) (ext_alloc _ _) (by simp))
  simp [execOp, hx, Instr.box, newVar, newRow, Value.cells]
theorem rl_allocA {t n : Nat} {zs : List Value} (hA : AgT P t n zs) (hg : want N ops σ g = true)
    (k : ∀ w', Blk w' w.heap.size zs t → Below w.heap.size w w' → w'.heap.size = w.heap.size + 1 → RL P N ops Q rest (upd σ d (.pointer (some ⟨w.heap.size, 0, none⟩))) w') :
    RL P N ops Q (⟨some d, .alloc t, ty, pos, af, g⟩ :: rest) σ w := by
  obtain ⟨i, h2, h3, h4⟩ := hA.info
  refine rl_val hg ?_ (k (w.alloc (.cells zs.toArray t)) (blk_alloc _ _ _) (ext_alloc _ _) (by simp))
  simp [execOp, Instr.alloc, zeroValue, typeInfo, h2, h3, newVar, newRow, Value.cells]
/-- What is laid over the zero value. -/
def fillL (places : List (Nat × Nat)) : List Value → List (Nat × Value) → Option (List Value)
  | cs, [] => some cs
  | cs, (i, v) :: r => match places[i]? with
    | none => none
    | some (off, size) => if v.cells.toList.length = size ∧ off + size ≤ cs.length then fillL places (cs.take off ++ v.cells.toList ++ cs.drop (off + size)) r else none
theorem foldl_set (off : Nat) : ∀ (vs : List Value) (j : Nat) (cs : List Value), off + j + vs.length ≤ cs.length →
    ((vs.zipIdx j).foldl (fun cs (p : Value × Nat) => cs.setIfInBounds (off + p.2) p.1) cs.toArray).toList = cs.take (off + j) ++ vs ++ cs.drop (off + j + vs.length)
  | [], j, cs, _ => by simp
  | v :: vs, j, cs, h => by
    simp only [List.length_cons] at h
    have ih := foldl_set off vs (j + 1) (cs.set (off + j) v) (by simp; omega)
    simp only [List.zipIdx_cons, List.foldl_cons, List.setIfInBounds_toArray, ih]
    have hlt : off + j < cs.length := by omega
    rw [show off + (j + 1) = (off + j) + 1 by omega, List.take_add_one, List.getElem?_set_self hlt, List.take_set_of_le (Nat.le_refl _), List.drop_set_of_lt (by omega)]
    simp [Nat.add_assoc, Nat.add_comm, Nat.add_left_comm]
theorem fill_eq (places : Array (Nat × Nat)) : ∀ (parts : List (Nat × Value)) (cs out : List Value), fillL places.toList cs parts = some out → Instr.fill (places[·]?) cs.toArray parts = some out.toArray
  | [], cs, out, h => by simp [fillL] at h; subst h; rfl
  | (i, v) :: r, cs, out, h => by
    simp only [fillL, Array.getElem?_toList] at h
    simp only [Instr.fill]
    cases hp : places[i]? with
    | none => rw [hp] at h; cases h
    | some q =>
      obtain ⟨off, size⟩ := q
      rw [hp] at h
      simp only at h
      split at h
      · rename_i hc
        obtain ⟨h1, h2⟩ := hc
        have h1' : v.cells.size = size := by simpa using h1
        have hcond : ¬ (v.cells.size ≠ size ∨ cs.toArray.size < off + v.cells.size) := by simp [h1']; omega
        have hf := foldl_set off v.cells.toList 0 cs (by simp; omega)
        simp only [Nat.add_zero] at hf
        have hz : (v.cells.zipIdx.foldl (fun cs (p : Value × Nat) => cs.setIfInBounds (off + p.2) p.1) cs.toArray) = (cs.take off ++ v.cells.toList ++ cs.drop (off + size)).toArray := by
          apply Array.ext'
          rw [← Array.foldl_toList, Array.toList_zipIdx, hf]
          simp [h1']
        have ih := fill_eq places r _ out h
        rw [← hz] at ih
        simp only [h1', ne_eq, not_true_eq_false, gt_iff_lt, Bool.or_eq_true, decide_eq_true_eq, List.size_toArray]
        rw [if_neg (by simp; omega)]
        exact ih
      · cases h
/-- The places of a struct's fields. -/
def PlT (P : Program) (t : Nat) (places : List (Nat × Nat)) : Prop :=
  (match P.underlying t with | some (.struct fs) => some (fs.toList.map fun f => (P.info? f.type).map fun i => (f.offset, i.size)) | _ => none) = some (places.map some)
theorem mapM_places {fs : List Field} {places : List (Nat × Nat)} (w : World) (h : (fs.map fun f => (P.info? f.type).map fun i => (f.offset, i.size)) = places.map some) :
    (fs.mapM fun f => (do pure (f.offset, ← sizeOf f.type) : Sem (Nat × Nat))).run P w = .ok places w := by
  induction fs generalizing places with
  | nil => cases places with
    | nil => simp
    | cons p ps => simp at h
  | cons f fs ih => cases places with
    | nil => simp at h
    | cons p ps =>
      simp only [List.map_cons, List.cons.injEq, Option.map_eq_some_iff] at h
      obtain ⟨⟨i, h1, h2⟩, h3⟩ := h
      have := ih h3
      simp [List.mapM_cons, sizeOf, typeInfo, h1]
      simp [sizeOf, typeInfo] at this
      rw [this]
      simp [← h2]
theorem rl_build {t n : Nat} {zs : List Value} {places : List (Nat × Nat)} {ps : List (Nat × Operand)} {pv : List (Nat × Value)} (cs : List Value) (hA : AgT P t n zs) (hP : PlT P t places) (hg : want N ops σ g = true)
    (hv : ps.map (fun p => (p.1, ev N σ p.2)) = pv) (hf : fillL places zs pv = some cs)
    (k : RL P N ops Q rest (upd σ d (.agg cs.toArray)) w) : RL P N ops Q (⟨some d, .build t ps.toArray, ty, pos, af, g⟩ :: rest) σ w :=
  rl_val hg (by
    obtain ⟨i, h2, h3, h4⟩ := hA.info
    unfold PlT at hP
    split at hP
    · rename_i fs hu
      simp only [Option.some.injEq] at hP
      have hm := mapM_places (P := P) w hP
      have hfe := fill_eq places.toArray pv zs cs (by simpa using hf)
      subst hv
      have hm' : (fs.mapM fun f => (do pure (f.offset, ← sizeOf f.type) : Sem (Nat × Nat))).run P w = .ok places.toArray w := by
        rw [Array.mapM_eq_mapM_toList]
        simp at hm ⊢
        rw [hm]
        rfl
      simp [execOp, Instr.build, zeroValue, typeInfo, h2, h3, run_underlying hu, Value.cells]
      simp at hm'
      rw [hm']
      simp at hfe
      simp [hfe]
    · cases hP) k

/-- A slice that is written out: the cells of its elements, one behind the other. -/
theorem fill_all (size : Nat) : ∀ (vs : List Value) (k : Nat) (pre rest : List Value), (∀ v ∈ vs, v.cells.size = size) → pre.length = k * size → rest.length = vs.length * size →
    Instr.fill (fun i => some (i * size, size)) (pre ++ rest).toArray ((vs.zipIdx k).map fun p => (p.2, p.1)) = some (pre ++ vs.flatMap (·.cells.toList)).toArray
  | [], k, pre, rest, _, _, hr => by
    have : rest = [] := List.eq_nil_of_length_eq_zero (by simpa using hr)
    subst this
    simp [Instr.fill]
  | v :: vs, k, pre, rest, hv, hp, hr => by
    have h1 := hv v (by simp)
    have hr' : rest.length = vs.length * size + size := by rw [hr, List.length_cons, Nat.succ_mul]
    have hf := foldl_set (k * size) v.cells.toList 0 (pre ++ rest) (by simp; omega)
    simp only [Nat.add_zero] at hf
    have hz : (v.cells.zipIdx.foldl (fun cs (p : Value × Nat) => cs.setIfInBounds (k * size + p.2) p.1) (pre ++ rest).toArray) = ((pre ++ v.cells.toList) ++ rest.drop size).toArray := by
      apply Array.ext'
      rw [← Array.foldl_toList, Array.toList_zipIdx, hf]
      rw [← hp, List.take_left, show v.cells.toList.length = size by simpa using h1, ← List.drop_drop, List.drop_left]
    simp only [List.zipIdx_cons, List.map_cons, Instr.fill]
    rw [if_neg (by simp [h1]; omega), hz]
    have ih := fill_all size vs (k + 1) (pre ++ v.cells.toList) (rest.drop size) (fun u hu => hv u (by simp [hu])) (by simp [hp, h1, Nat.succ_mul]) (by simp; omega)
    rw [ih]
    simp
theorem rl_bsliceN {t e sz by_ n : Nat} {z : Value} {ps : List (Nat × Operand)} (vs : List Value) (hT : SlT P t e sz by_ z) (hz : z.cells.size = sz) (hg : want N ops σ g = true)
    (hv : ps.map (fun p => (p.1, ev N σ p.2)) = vs.zipIdx.map fun p => (p.2, p.1)) (hs : vs.all (fun v => v.cells.size == sz) = true) (hn : vs.length = n) (hb : n * sz ≤ 16777216) (h0 : 0 < n * sz)
    (k : ∀ w', Blk w' w.heap.size (vs.flatMap (·.cells.toList)) e → Below w.heap.size w w' → w'.heap.size = w.heap.size + 1 →
      RL P N ops Q rest (upd σ d (.slice (some ⟨w.heap.size, 0, none⟩) n n)) w') : RL P N ops Q (⟨some d, .buildSlice t n ps.toArray, ty, pos, af, g⟩ :: rest) σ w := by
  obtain ⟨inf, hi1, hi2, hi3, hi4⟩ := hT.info
  refine rl_val hg ?_ (k (w.alloc (.cells (vs.flatMap (·.cells.toList)).toArray e)) (blk_alloc _ _ _) (ext_alloc _ _) (by simp))
  subst hn
  have hv1 : ∀ v ∈ vs, v.cells.size = sz := by simpa using hs
  have hfa := fill_all sz vs 0 [] (((Array.range (vs.length * sz)).map (z.cells[· % z.cells.size]!)).toList) hv1 (by simp) (by simp)
  simp only [List.nil_append, Array.toArray_toList] at hfa
  have hbig : ¬ (16777216 < vs.length * sz) := by omega
  have hne : ¬ (vs.length * sz = 0) := by omega
  simp only [execOp, Instr.buildSlice]
  simp [run_underlying hT.und, typeInfo, hi1, hi3, sizeOf, hbig]
  rw [if_neg (by simpa using hne)]
  have hzv : (zeroValue e).run P w = .ok z w := by simp [zeroValue, typeInfo, hi1, hi2]
  rw [hzv]
  simp only [Result.andThen_ok]
  rw [hv, hfa]
  simp [newRow]

/-! ## Tuples -/
theorem rl_extract {x : Operand} {i : Nat} {vs : List Value} {v : Value} (hg : want N ops σ g = true) (hx : ev N σ x = .tuple vs.toArray) (hi : vs[i]? = some v)
    (k : RL P N ops Q rest (upd σ d v) w) : RL P N ops Q (⟨some d, .extract x i, ty, pos, af, g⟩ :: rest) σ w :=
  rl_val hg (by simp [execOp, hx, Instr.extract, hi]) k

/-! ## Results -/
/-- What result variable r yields. -/
def resV (ρ : Operand → Value) : ResultVar → Sem Value
  | .tmp t => pure (ρ (.tmp t))
  | .cell a t => do loadVar t (← asAddr (ρ (.tmp a)))
def ResOk (P : Program) (N : NN) (σ : Env) (w : World) (r : ResultVar) (v : Value) : Prop :=
  match r with
  | .tmp t => ev N σ (.tmp t) = v
  | .cell a t => ∃ A, ev N σ (.tmp a) = .pointer (some A) ∧ (loadVar t A).run P w = .ok v w
theorem res_tmp {t : Tmp} {v : Value} (h : ev N σ (.tmp t) = v) : ResOk P N σ w (.tmp t) v := h
theorem res_cellA {a t n b off : Nat} {zs cs : List Value} (hA : AgT P t n zs) (hx : ev N σ (.tmp a) = .pointer (some ⟨b, off, none⟩)) (hl : cs.length = n) (hc : ∀ j u, cs[j]? = some u → w.cell? ⟨b, off + j, none⟩ = some u) : ResOk P N σ w (.cell a t) (.agg cs.toArray) :=
  ⟨_, hx, run_loadAg hA hl hc⟩
theorem res_blkA {a t n b : Nat} {zs cs : List Value} {t' : TypeId} (hA : AgT P t n zs) (hx : ev N σ (.tmp a) = .pointer (some ⟨b, 0, none⟩)) (hB : Blk w b cs t') (hl : cs.length = n) : ResOk P N σ w (.cell a t) (.agg cs.toArray) :=
  res_cellA hA hx hl (fun j u hj => by rw [Nat.zero_add]; exact hB.cell_some hj)
theorem res_run {r : ResultVar} {v : Value} (h : ResOk P N σ w r v) : (resV (ev N σ) r).run P w = .ok v w := by
  cases r with
  | tmp t =>
    have h' : ev N σ (.tmp t) = v := h
    simp [resV, h']
  | cell a t =>
    obtain ⟨A, h1, h2⟩ := h
    simp [resV, h1, asAddr, h2]
theorem results_eq (fn : Func) : results fn (Fr N σ).tmps = (do
    let vs ← fn.results.mapM (resV (ev N σ))
    pure (if h : vs.size = 1 then vs[0] else .tuple vs)) := by
  unfold results
  congr 1
  congr 1
  funext r
  cases r with
  | tmp t => simp only [resV]; rw [← eval_Fr]; rfl
  | cell a t => simp only [resV]; rw [← eval_Fr]; rfl
theorem results_1 {fn : Func} {r : ResultVar} {v : Value} (hr : fn.results = #[r]) (h : ResOk P N σ w r v) : (results fn (Fr N σ).tmps).run P w = .ok v w := by
  have := res_run h
  rw [results_eq, hr]
  simp [this]
theorem results_2 {fn : Func} {r1 r2 : ResultVar} {v1 v2 : Value} (hr : fn.results = #[r1, r2]) (h1 : ResOk P N σ w r1 v1) (h2 : ResOk P N σ w r2 v2) : (results fn (Fr N σ).tmps).run P w = .ok (.tuple #[v1, v2]) w := by
  have e1 := res_run h1
  have e2 := res_run h2
  rw [results_eq, hr]
  simp [e1, e2]
theorem results_3 {fn : Func} {r1 r2 r3 : ResultVar} {v1 v2 v3 : Value} (hr : fn.results = #[r1, r2, r3]) (h1 : ResOk P N σ w r1 v1) (h2 : ResOk P N σ w r2 v2) (h3 : ResOk P N σ w r3 v3) : (results fn (Fr N σ).tmps).run P w = .ok (.tuple #[v1, v2, v3]) w := by
  have e1 := res_run h1
  have e2 := res_run h2
  have e3 := res_run h3
  rw [results_eq, hr]
  simp [e1, e2, e3]
section
variable {M : Nat} {fn : Func} {Post : Value → World → Prop} {r1 r2 r3 : ResultVar} {v1 v2 v3 : Value}
theorem bp_r1 (hr : fn.results = #[r1]) (h1 : ResOk P ⟨M, []⟩ σ w r1 v1) (h : Post v1 w) : BP P fn Post .ret (Fr ⟨M, []⟩ σ) w := bp_res rfl (results_1 hr h1) h
theorem bp_e1 (hr : fn.results = #[r1]) (h1 : ResOk P ⟨M, []⟩ σ w r1 v1) (h : Post v1 w) : BP P fn Post .normal (Fr ⟨M, []⟩ σ) w := bp_res rfl (results_1 hr h1) h
theorem bp_r2 (hr : fn.results = #[r1, r2]) (h1 : ResOk P ⟨M, []⟩ σ w r1 v1) (h2 : ResOk P ⟨M, []⟩ σ w r2 v2) (h : Post (.tuple #[v1, v2]) w) : BP P fn Post .ret (Fr ⟨M, []⟩ σ) w := bp_res rfl (results_2 hr h1 h2) h
theorem bp_e2 (hr : fn.results = #[r1, r2]) (h1 : ResOk P ⟨M, []⟩ σ w r1 v1) (h2 : ResOk P ⟨M, []⟩ σ w r2 v2) (h : Post (.tuple #[v1, v2]) w) : BP P fn Post .normal (Fr ⟨M, []⟩ σ) w := bp_res rfl (results_2 hr h1 h2) h
theorem bp_r3 (hr : fn.results = #[r1, r2, r3]) (h1 : ResOk P ⟨M, []⟩ σ w r1 v1) (h2 : ResOk P ⟨M, []⟩ σ w r2 v2) (h3 : ResOk P ⟨M, []⟩ σ w r3 v3) (h : Post (.tuple #[v1, v2, v3]) w) : BP P fn Post .ret (Fr ⟨M, []⟩ σ) w := bp_res rfl (results_3 hr h1 h2 h3) h
theorem bp_e3 (hr : fn.results = #[r1, r2, r3]) (h1 : ResOk P ⟨M, []⟩ σ w r1 v1) (h2 : ResOk P ⟨M, []⟩ σ w r2 v2) (h3 : ResOk P ⟨M, []⟩ σ w r3 v3) (h : Post (.tuple #[v1, v2, v3]) w) : BP P fn Post .normal (Fr ⟨M, []⟩ σ) w := bp_res rfl (results_3 hr h1 h2 h3) h
end
theorem cell_chg2 {b1 o b : Nat} {v : Value} (h : w.cell? ⟨b1, o, none⟩ = some v) (hc : Chg b w w') (hne : b1 ≠ b) : w'.cell? ⟨b1, o, none⟩ = some v := cell_chg h hc hne
theorem rl_peqnil {t t' e : TypeId} {x y : Operand} {p : Option Addr} (hT : P.underlying t = some (.pointer e)) (hg : want N ops σ g = true) (hx : ev N σ x = .pointer p) (hy : ev N σ y = .pointer none)
    (k : RL P N ops Q rest (upd σ d (.bool p.isNone)) w) : RL P N ops Q (⟨some d, .binOp .eql t x y t', ty, pos, af, g⟩ :: rest) σ w :=
  rl_val hg (by
    have h : ∀ d : Nat, (Op.equalIn (d + 1) t (.pointer p) (.pointer none)).run P w = .ok p.isNone w := fun d => by
      cases p <;> simp [Op.equalIn, run_underlying hT]
    unfold execOp; simp only [hx, hy]
    simp [eqGuard, binOp, Op.equal, Op.maxDepth, h 9999]) k
theorem rl_pneqnil {t t' e : TypeId} {x y : Operand} {p : Option Addr} (hT : P.underlying t = some (.pointer e)) (hg : want N ops σ g = true) (hx : ev N σ x = .pointer p) (hy : ev N σ y = .pointer none)
    (k : RL P N ops Q rest (upd σ d (.bool (!p.isNone))) w) : RL P N ops Q (⟨some d, .binOp .neq t x y t', ty, pos, af, g⟩ :: rest) σ w :=
  rl_val hg (by
    have h : ∀ d : Nat, (Op.equalIn (d + 1) t (.pointer p) (.pointer none)).run P w = .ok p.isNone w := fun d => by
      cases p <;> simp [Op.equalIn, run_underlying hT]
    unfold execOp; simp only [hx, hy]
    simp [eqGuard, binOp, Op.equal, Op.maxDepth, h 9999]) k
theorem rl_eqbool {t t' : TypeId} {x y : Operand} {a b : Bool} (hT : P.underlying t = some .bool) (hg : want N ops σ g = true) (hx : ev N σ x = .bool a) (hy : ev N σ y = .bool b)
    (k : RL P N ops Q rest (upd σ d (.bool (a == b))) w) : RL P N ops Q (⟨some d, .binOp .eql t x y t', ty, pos, af, g⟩ :: rest) σ w :=
  rl_val hg (by
    unfold execOp
    simp only [hx, hy]
    simp [eqGuard, run_eql_bool w t a b hT]) k
/-! ## What stands from block B on -/
def From (B : Nat) (w : World) : Addr → Option Value := fun a => if B ≤ a.block then w.cell? a else none
theorem from_of {B : Nat} {a : Addr} {v : Value} (h : w.cell? a = some v) (hB : B ≤ a.block) : From B w a = some v := by unfold From; rw [if_pos hB]; exact h
theorem from_iff {B : Nat} {a : Addr} {v : Value} (h : From B w a = some v) : B ≤ a.block ∧ w.cell? a = some v := by
  unfold From at h
  split at h
  · exact ⟨‹_›, h⟩
  · cases h
theorem from_cell {B : Nat} {a : Addr} {v : Value} (h : From B w a = some v) : w.cell? a = some v := (from_iff h).2
theorem from_ext {B : Nat} {a : Addr} {v : Value} (h : From B w a = some v) (hb : Below w.heap.size w w') : From B w' a = some v := from_of (cell_ext (from_iff h).2 hb) (from_iff h).1
theorem from_chg {B b : Nat} {a : Addr} {v : Value} (h : From B w a = some v) (hc : Chg b w w') (hb : b < B) : From B w' a = some v :=
  from_of (cell_chg (from_iff h).2 hc (by have := (from_iff h).1; omega)) (from_iff h).1
theorem from_le {B B' : Nat} {a : Addr} {v : Value} (h : From B' w a = some v) (hB : B ≤ B') : From B w a = some v := from_of (from_iff h).2 (Nat.le_trans hB (from_iff h).1)
theorem from_blk {B b i : Nat} {cs : List Value} {t : TypeId} {v : Value} (h : Blk w b cs t) (hi : cs[i]? = some v) (hB : B ≤ b) : From B w ⟨b, i, none⟩ = some v := from_of (h.cell_some hi) hB
end Go.Eng
