/- A drawn region whose head holds an append: what is read there is named. More rules on bools. Nothing here names a program. Strings, structs, tuples and pointers over the frame of Eng1. Nothing here names a program. The rules of Eng11 for operations that only compute, once more, for the head of a region whose order is drawn. Written by gen12.py out of Eng11. Rules for strings.Builder: bytes of a string appended, pointers turned about, unsafe.String. Nothing here names a program. More rules: copy, slices from a place on. Nothing here names a program. What a call has of its own, as a list: blocks, and slices that may be appended to; and what it may read, as a view. The rules of the frame over it. Nothing here names a program. The rules of the frame over what a call has of its own. Nothing here names a program. -/
import Derived.Test.YtadbinckjmdokaaDoorEnA
import Derived.Laws.Concat
import Derived.Laws.Strings2
import Derived.Laws.Cells
import Derived.Laws.CopyRow
import Derived.Lib.Builder
import Derived.Lib.AppendStr
import Derived.Lib.UnsafeStr
import Derived.Laws.Externs
set_option linter.unusedVariables false
set_option linter.unusedSimpArgs false
namespace Go.Eng
open Go Go.RowKit
variable {P : Program} {N : NN} {Q : Exit → Act → World → Prop} {σ : Env} {w w' : World} {ops rest : List Oper}
  {d : Tmp} {ty : TypeId} {pos : String} {af : Array Edge} {g : Option (Nat × Bool)}
theorem drawnF_ {id : Nat} {l : List Oper} (n : Nat) (order : List (Nat × Bool)) (F : Addr → Value → Prop) (hm : P.follows .mixedOrders = true) (hB : heldB .any l.toArray n order = true)
    (hF : ∀ a v, F a v → w.cell? a = some v)
    (h : ∀ w', Below w.heap.size w w' → w'.heap.size = w.heap.size → Keeps w w' → RX P N l (NP Q) (fun w'' => ∀ a v, F a v → w''.cell? a = some v) n order σ w') : (Code.region id l.toArray true).wp P Q (Fr N σ) w :=
  draw_ n order (fun w'' => ∀ a v, F a v → w''.cell? a = some v) hm hB (by rintro _ rfl; exact hF) (by rintro _ rfl; exact h _ ⟨rfl, rfl, rfl, Nat.le_refl _, fun _ _ => rfl⟩ rfl (fun _ _ h => h))
theorem rl_neqb {t t' : TypeId} {x y : Operand} {a b : Bool} (hT : P.underlying t = some .bool) (hg : want N ops σ g = true) (hx : ev N σ x = .bool a) (hy : ev N σ y = .bool b)
    (k : RL P N ops Q rest (upd σ d (.bool (!(a == b)))) w) : RL P N ops Q (⟨some d, .binOp .neq t x y t', ty, pos, af, g⟩ :: rest) σ w :=
  rl_val hg (by
    unfold execOp
    simp only [hx, hy]
    simp [eqGuard, run_neq_bool w t a b hT]) k
/-- A store into a table of the call's own. -/
theorem Own.store {e n b i : Nat} {v : Value} {us : List Value} (h : Own w e 1 v n us b) (hi : i < n) :
    ∃ cs, Blk w b cs e ∧ i < cs.length ∧ ∀ (w' : World) (u : Value), Blk w' b (cs.set i u) e → Own w' e 1 v n (us.set i u) b := by
  obtain ⟨h1, h2⟩ := h
  have h1' : us.length = n := by simpa using h1
  rcases h2 with ⟨rfl, rfl⟩ | ⟨cap, spare, rfl, h3, h4, h5, h6⟩
  · omega
  · refine ⟨us ++ spare, h6, by simp; omega, fun w' u hB => ⟨by simpa using h1, .inr ⟨cap, spare, rfl, h3, h4, by simpa using h5, ?_⟩⟩⟩
    rwa [List.set_append_left _ _ (by omega)] at hB
theorem map_range3_set (f : Nat → Value) (u v x : Value) : (((Array.map f (Array.range 3)).setIfInBounds 0 u).setIfInBounds 1 v).setIfInBounds 2 x = #[u, v, x] := by
  apply Array.ext
  · simp
  · intro i h1 h2
    have hi : i < 3 := by simpa using h2
    match i, hi with
    | 0, _ => simp [Array.getElem_setIfInBounds]
    | 1, _ => simp [Array.getElem_setIfInBounds]
    | 2, _ => simp [Array.getElem_setIfInBounds]
theorem rl_bslice3 {t : TypeId} {x y z' : Operand} {e by_ : Nat} {z u v s : Value} (hT : SlT P t e 1 by_ z) (hz : z.oneCell' = true) (hg : want N ops σ g = true) (hx : ev N σ x = u) (hu : u.oneCell' = true) (hy : ev N σ y = v) (hv : v.oneCell' = true) (hz' : ev N σ z' = s) (hs : s.oneCell' = true)
    (k : ∀ w', Blk w' w.heap.size [u, v, s] e → Below w.heap.size w w' → w'.heap.size = w.heap.size + 1 →
      RL P N ops Q rest (upd σ d (.slice (some ⟨w.heap.size, 0, none⟩) 3 3)) w') : RL P N ops Q (⟨some d, .buildSlice t 3 #[(0, x), (1, y), (2, z')], ty, pos, af, g⟩ :: rest) σ w := by
  obtain ⟨inf, hi1, hi2, hi3, hi4⟩ := hT.info
  refine rl_val hg ?_ (k (w.alloc (.cells [u, v, s].toArray e)) (blk_alloc _ _ _) (ext_alloc _ _) (by simp))
  have hcz : z.cells = #[z] := by cases z <;> first | rfl | (cases hz; done)
  have hcu : u.cells = #[u] := by cases u <;> first | rfl | (cases hu; done)
  have hcv : v.cells = #[v] := by cases v <;> first | rfl | (cases hv; done)
  have hcs : s.cells = #[s] := by cases s <;> first | rfl | (cases hs; done)
  simp [execOp, hx, hy, hz', Instr.buildSlice, run_underlying hT.und, typeInfo, hi1, hi3, sizeOf, zeroValue, hi2, hcz, Instr.fill, hcu, hcv, hcs, newRow]
  rw [map_range3_set]
/-- What holds where a block ends is named, and what stands behind it is walked once. -/
theorem cut_blk {id : Nat} {c y : Code} (ms : List (Nat × Nat)) (R : World → Prop) (h : c.wp P (Exit.inBlock id (KQ N (fun σ' w' => Agree ms σ σ' ∧ R w') Q)) (Fr N σ) w)
    (k : ∀ τ w', R w' → y.wp P Q (Fr N (ov ms τ σ)) w') : c.wp P (Exit.inBlock id (SQ P y Q)) (Fr N σ) w := by
  have key : ∀ (a : Act) (w : World), KQ N (fun σ' w' => Agree ms σ σ' ∧ R w') Q .normal a w → SQ P y Q .normal a w := by
    rintro a w ⟨σ', rfl, h1, h2⟩
    have := k σ' w h2
    rwa [ov_self h1] at this
  refine Code.wp_mono ?_ h
  intro e a w' hq
  cases e with
  | normal => exact key a w' hq
  | exit i =>
    simp only [Exit.inBlock] at hq ⊢
    split at hq
    · rename_i hi; rw [if_pos hi]; exact key a w' hq
    · rename_i hi; rw [if_neg hi]; exact hq
  | _ => exact hq
theorem cut_blk1 {id : Nat} {c y : Code} (ms : List (Nat × Nat)) (s1 : Nat) (R : Value → World → Prop) (h : c.wp P (Exit.inBlock id (KQ N (fun σ' w' => Agree ms σ σ' ∧ R (σ' s1) w') Q)) (Fr N σ) w)
    (k : ∀ τ v1 w', R v1 w' → y.wp P Q (Fr N (upd (ov ms τ σ) s1 v1)) w') : c.wp P (Exit.inBlock id (SQ P y Q)) (Fr N σ) w := by
  have key : ∀ (a : Act) (w : World), KQ N (fun σ' w' => Agree ms σ σ' ∧ R (σ' s1) w') Q .normal a w → SQ P y Q .normal a w := by
    rintro a w ⟨σ', rfl, h1, h2⟩
    have := k σ' _ w h2
    rwa [ov_self h1, upd_self rfl] at this
  refine Code.wp_mono ?_ h
  intro e a w' hq
  cases e with
  | normal => exact key a w' hq
  | exit i =>
    simp only [Exit.inBlock] at hq ⊢
    split at hq
    · rename_i hi; rw [if_pos hi]; exact key a w' hq
    · rename_i hi; rw [if_neg hi]; exact hq
  | _ => exact hq
/-- What holds behind a conditional is named, and what stands behind it is walked once. -/
theorem cut_seq {c y : Code} (ms : List (Nat × Nat)) (R : World → Prop) (h : c.wp P (KQ N (fun σ' w' => Agree ms σ σ' ∧ R w') Q) (Fr N σ) w)
    (k : ∀ τ w', R w' → y.wp P Q (Fr N (ov ms τ σ)) w') : c.wp P (SQ P y Q) (Fr N σ) w := by
  refine Code.wp_mono ?_ h
  intro e a w' hq
  cases e with
  | normal =>
    obtain ⟨σ', rfl, h1, h2⟩ := hq
    have := k σ' w' h2
    rw [ov_self h1] at this
    exact this
  | _ => exact hq
end Go.Eng
set_option linter.unusedVariables false
set_option linter.unusedSimpArgs false
namespace Go.Eng
open Go Go.RowKit
variable {P : Program} {N : NN} {Q : Exit → Act → World → Prop} {σ : Env} {w w' : World} {ops rest : List Oper}
  {d : Tmp} {ty : TypeId} {pos : String} {af : Array Edge} {g : Option (Nat × Bool)}

/-! ## Strings -/
abbrev St (l : List UInt8) : Value := .string ⟨l.toArray⟩
theorem st_toList (l : List UInt8) : (ByteArray.mk l.toArray).toList = l := ByteArray.toList_mk l
theorem st_size (l : List UInt8) : (ByteArray.mk l.toArray).size = l.length := by
  show l.toArray.size = l.length
  simp
theorem st_beq (a b : List UInt8) : ((ByteArray.mk a.toArray).toList == (ByteArray.mk b.toArray).toList) = decide (a = b) := by
  rw [st_toList, st_toList]
  by_cases h : a = b <;> simp [h]
section
variable {x y : Operand} {t t' : TypeId} {a b : List UInt8}
theorem rl_sadd (hg : want N ops σ g = true) (hx : ev N σ x = St a) (hy : ev N σ y = St b) (hl : a.length + b.length ≤ 9223372036854775807)
    (k : RL P N ops Q rest (upd σ d (St (a ++ b))) w) : RL P N ops Q (⟨some d, .binOp .add t x y t', ty, pos, af, g⟩ :: rest) σ w :=
  rl_val hg (by
    unfold execOp
    simp only [hx, hy]
    have h := run_string_add_sum (P := P) w (ByteArray.mk a.toArray) (ByteArray.mk b.toArray) (by rw [st_size, st_size]; exact hl)
    rw [ByteArray.mk_append_mk] at h
    simp [eqGuard, binOp_string_add, h]) k
theorem rl_seql (hg : want N ops σ g = true) (hx : ev N σ x = St a) (hy : ev N σ y = St b)
    (k : RL P N ops Q rest (upd σ d (.bool (decide (a = b)))) w) : RL P N ops Q (⟨some d, .binOp .eql t x y t', ty, pos, af, g⟩ :: rest) σ w :=
  rl_val hg (by
    unfold execOp
    simp only [hx, hy]
    have h := st_beq a b
    simp only [binOp_string_eql, h]
    simp [eqGuard]) k
theorem rl_sneq (hg : want N ops σ g = true) (hx : ev N σ x = St a) (hy : ev N σ y = St b)
    (k : RL P N ops Q rest (upd σ d (.bool (!decide (a = b)))) w) : RL P N ops Q (⟨some d, .binOp .neq t x y t', ty, pos, af, g⟩ :: rest) σ w :=
  rl_val hg (by
    unfold execOp
    simp only [hx, hy]
    have h := st_beq a b
    simp only [binOp_string_neq, h]
    simp [eqGuard]) k
theorem rl_seql_t (hg : want N ops σ g = true) (hx : ev N σ x = St a) (hy : ev N σ y = St b) (h : a = b)
    (k : RL P N ops Q rest (upd σ d (.bool true)) w) : RL P N ops Q (⟨some d, .binOp .eql t x y t', ty, pos, af, g⟩ :: rest) σ w :=
  rl_seql hg hx hy (by rw [decide_eq_true h]; exact k)
theorem rl_seql_f (hg : want N ops σ g = true) (hx : ev N σ x = St a) (hy : ev N σ y = St b) (h : a ≠ b)
    (k : RL P N ops Q rest (upd σ d (.bool false)) w) : RL P N ops Q (⟨some d, .binOp .eql t x y t', ty, pos, af, g⟩ :: rest) σ w :=
  rl_seql hg hx hy (by rw [decide_eq_false h]; exact k)
theorem rl_sneq_t (hg : want N ops σ g = true) (hx : ev N σ x = St a) (hy : ev N σ y = St b) (h : a ≠ b)
    (k : RL P N ops Q rest (upd σ d (.bool true)) w) : RL P N ops Q (⟨some d, .binOp .neq t x y t', ty, pos, af, g⟩ :: rest) σ w :=
  rl_sneq hg hx hy (by rw [decide_eq_false h]; exact k)
theorem rl_sneq_f (hg : want N ops σ g = true) (hx : ev N σ x = St a) (hy : ev N σ y = St b) (h : a = b)
    (k : RL P N ops Q rest (upd σ d (.bool false)) w) : RL P N ops Q (⟨some d, .binOp .neq t x y t', ty, pos, af, g⟩ :: rest) σ w :=
  rl_sneq hg hx hy (by rw [decide_eq_true h]; exact k)
theorem rl_slen (hT : P.underlying t = some .string) (hg : want N ops σ g = true) (hx : ev N σ x = St a)
    (k : RL P N ops Q rest (upd σ d (.int .i64 a.length)) w) : RL P N ops Q (⟨some d, .call ⟨.builtin .len, #[x], #[t]⟩, ty, pos, af, g⟩ :: rest) σ w :=
  rl_val hg (by simp [execOp, resolve, invoke, builtin, hx, Builtin.len_, run_underlying hT, goInt, st_size]) k
theorem st_extract (l : List UInt8) (a b : Nat) : (ByteArray.mk l.toArray).extract a b = ByteArray.mk ((l.drop a).take (b - a)).toArray := ByteArray.extract_mk l a b
theorem rl_sslice_h {hi : Operand} {h : Int} (hT : P.underlying t = some .string) (hg : want N ops σ g = true) (hx : ev N σ x = St a) (hh : ev N σ hi = .int .i64 h) (h0 : 0 ≤ h) (h1 : h ≤ a.length)
    (k : RL P N ops Q rest (upd σ d (St (a.take h.toNat))) w) : RL P N ops Q (⟨some d, .slice t x none (some hi) none, ty, pos, af, g⟩ :: rest) σ w :=
  rl_val hg (by
    have e := st_extract a 0 h.toNat
    simp only [List.drop_zero, Nat.sub_zero] at e
    simp [execOp, hx, hh, Instr.sliceAt, Instr.slice, Instr.sliceBounds, Instr.sliceBound, asIntOf, run_underlying hT, h0, h1, st_size, e]) k
theorem rl_sslice_l {lo : Operand} {l : Int} (hT : P.underlying t = some .string) (hg : want N ops σ g = true) (hx : ev N σ x = St a) (hh : ev N σ lo = .int .i64 l) (h0 : 0 ≤ l) (h1 : l ≤ a.length)
    (k : RL P N ops Q rest (upd σ d (St (a.drop l.toNat))) w) : RL P N ops Q (⟨some d, .slice t x (some lo) none none, ty, pos, af, g⟩ :: rest) σ w :=
  rl_val hg (by
    have e := st_extract a l.toNat a.length
    rw [List.take_of_length_le (by simp)] at e
    simp [execOp, hx, hh, Instr.sliceAt, Instr.slice, Instr.sliceBounds, Instr.sliceBound, asIntOf, run_underlying hT, h0, h1, st_size, e]) k
theorem rl_sslice_lh {lo hi : Operand} {l h : Int} (hT : P.underlying t = some .string) (hg : want N ops σ g = true) (hx : ev N σ x = St a) (hlo : ev N σ lo = .int .i64 l) (hhi : ev N σ hi = .int .i64 h) (h0 : 0 ≤ l) (h1 : l ≤ h) (h2 : h ≤ a.length)
    (k : RL P N ops Q rest (upd σ d (St ((a.take h.toNat).drop l.toNat))) w) : RL P N ops Q (⟨some d, .slice t x (some lo) (some hi) none, ty, pos, af, g⟩ :: rest) σ w :=
  rl_val hg (by
    have e := st_extract a l.toNat h.toNat
    rw [← List.drop_take] at e
    have e2 : 0 ≤ h := by omega
    have e3 : l ≤ max h 0 := by omega
    simp [execOp, hx, hlo, hhi, Instr.sliceAt, Instr.slice, Instr.sliceBounds, Instr.sliceBound, asIntOf, run_underlying hT, h0, h2, e2, e3, st_size, e]) k
theorem rl_sindex {i : Int} {c : UInt8} (hT : P.underlying t = some .string) (hg : want N ops σ g = true) (hx : ev N σ x = St a) (hy : ev N σ y = .int .i64 i) (h0 : 0 ≤ i) (hc : a[i.toNat]? = some c)
    (k : RL P N ops Q rest (upd σ d (.int .u8 c.toNat)) w) : RL P N ops Q (⟨some d, .index t x y, ty, pos, af, g⟩ :: rest) σ w :=
  rl_val hg (by
    obtain ⟨hlt, he⟩ := List.getElem?_eq_some_iff.1 hc
    have h := run_index_string (P := P) w t (ByteArray.mk a.toArray) .i64 i hT
    have hsz : i < ((ByteArray.mk a.toArray).size : Int) := by rw [st_size]; omega
    have hlt' : i.toNat < (ByteArray.mk a.toArray).size := by rw [st_size]; omega
    have he' : (ByteArray.mk a.toArray)[i.toNat]'hlt' = c := by
      rw [← he]; rfl
    rw [dif_pos ⟨h0, hsz⟩, he'] at h
    simp [execOp, hx, hy, h]) k
end

/-! ## Structs -/
/-- Type t is a struct of n cells, zs where nothing is said. -/
structure AgT (P : Program) (t n : Nat) (zs : List Value) : Prop where
  agg : (match P.underlying t with | some (.struct _) => true | some (.array _ _) => true | _ => false) = true
  inf : (P.info? t).map (fun i => (i.zero, i.size)) = some (some (.agg zs.toArray), n)
  len : zs.length = n
/-- Field f of struct s begins at cell o. -/
def FldT (P : Program) (s f o : Nat) : Prop :=
  (match P.underlying s with | some (.struct fs) => (fs[f]?).map (fun fd => (fd.offset, ((P.info? fd.type).map (·.size)).getD 0 == 0)) | _ => none) = some (o, false)
theorem AgT.isAgg {t n : Nat} {zs : List Value} (h : AgT P t n zs) (w : World) : (isAgg t).run P w = .ok true w := by
  have := h.agg
  cases hu : P.underlying t with
  | none => rw [hu] at this; cases this
  | some u =>
    rw [hu] at this
    cases u <;> first | (cases this; done) | (unfold Go.isAgg; simp only [Sem.run_bind, run_underlying hu, Result.andThen_ok]; rfl)
theorem AgT.info {t n : Nat} {zs : List Value} (h : AgT P t n zs) : ∃ i, P.info? t = some i ∧ i.zero = some (.agg zs.toArray) ∧ i.size = n := by
  have := h.inf
  simp only [Option.map_eq_some_iff, Prod.mk.injEq] at this
  obtain ⟨i, h1, h2, h3⟩ := this
  exact ⟨i, h1, h2, h3⟩
theorem rl_fld {s f o b off : Nat} {x : Operand} (hF : FldT P s f o) (hg : want N ops σ g = true) (hx : ev N σ x = .pointer (some ⟨b, off, none⟩))
    (k : RL P N ops Q rest (upd σ d (.pointer (some ⟨b, off + o, none⟩))) w) : RL P N ops Q (⟨some d, .fieldAddr s x f, ty, pos, af, g⟩ :: rest) σ w :=
  rl_val hg (by
    unfold FldT at hF
    split at hF
    · rename_i fs hu
      simp only [Option.map_eq_some_iff, Prod.mk.injEq, beq_eq_false_iff_ne] at hF
      obtain ⟨fd, h1, h2, h3⟩ := hF
      cases hi : P.info? fd.type with
      | none => rw [hi] at h3; exact absurd rfl h3
      | some i =>
        rw [hi] at h3
        simp at h3
        simp [execOp, hx, Instr.fieldAt, run_underlying hu, h1, Instr.sureAddr, fieldPlace, sizeOf, typeInfo, hi, h3, h2, Addr.add_lit]
    · cases hF) k
theorem run_loadAg {t n : Nat} {zs cs : List Value} {b off : Nat} (hA : AgT P t n zs) (hl : cs.length = n) (hc : ∀ j u, cs[j]? = some u → w.cell? ⟨b, off + j, none⟩ = some u) :
    (loadVar t ⟨b, off, none⟩).run P w = .ok (.agg cs.toArray) w := by
  obtain ⟨i, h1, h2, h3⟩ := hA.info
  have h := run_loadCells_list (P := P) w ⟨b, off, none⟩ cs (fun j v hv => by rw [Addr.add_lit]; exact hc j v hv)
  subst hl
  simp [loadVar, hA.isAgg, sizeOf, typeInfo, h1, h3, h]
theorem rl_loadA {t n : Nat} {zs : List Value} {x : Operand} {b off : Nat} (cs : List Value) (hA : AgT P t n zs) (hg : want N ops σ g = true) (hx : ev N σ x = .pointer (some ⟨b, off, none⟩)) (hl : cs.length = n) (hc : ∀ j u, cs[j]? = some u → w.cell? ⟨b, off + j, none⟩ = some u)
    (k : RL P N ops Q rest (upd σ d (.agg cs.toArray)) w) : RL P N ops Q (⟨some d, .load t x, ty, pos, af, g⟩ :: rest) σ w :=
  rl_val hg (by
    have h := run_loadAg (w := w) hA hl hc
    simp [execOp, hx, Instr.loadAt, Instr.sureAddr, h]) k
theorem rl_loadA1 {t : Nat} {zs : List Value} {x : Operand} {b off : Nat} {u : Value} (hA : AgT P t 1 zs) (hg : want N ops σ g = true) (hx : ev N σ x = .pointer (some ⟨b, off, none⟩)) (hc : w.cell? ⟨b, off, none⟩ = some u)
    (k : RL P N ops Q rest (upd σ d (.agg #[u])) w) : RL P N ops Q (⟨some d, .load t x, ty, pos, af, g⟩ :: rest) σ w :=
  rl_loadA [u] hA hg hx rfl (fun j v hj => by
    match j, hj with
    | 0, hj => simp at hj; subst hj; exact hc) k
theorem rl_loadA2 {t : Nat} {zs : List Value} {x : Operand} {b off : Nat} {u v : Value} (hA : AgT P t 2 zs) (hg : want N ops σ g = true) (hx : ev N σ x = .pointer (some ⟨b, off, none⟩)) (hc : w.cell? ⟨b, off, none⟩ = some u) (hc1 : w.cell? ⟨b, off + 1, none⟩ = some v)
    (k : RL P N ops Q rest (upd σ d (.agg #[u, v])) w) : RL P N ops Q (⟨some d, .load t x, ty, pos, af, g⟩ :: rest) σ w :=
  rl_loadA [u, v] hA hg hx rfl (fun j s hj => by
    match j, hj with
    | 0, hj => simp at hj; subst hj; exact hc
    | 1, hj => simp at hj; subst hj; exact hc1) k
theorem rl_loadA3 {t : Nat} {zs : List Value} {x : Operand} {b off : Nat} {u v s : Value} (hA : AgT P t 3 zs) (hg : want N ops σ g = true) (hx : ev N σ x = .pointer (some ⟨b, off, none⟩)) (hc : w.cell? ⟨b, off, none⟩ = some u) (hc1 : w.cell? ⟨b, off + 1, none⟩ = some v) (hc2 : w.cell? ⟨b, off + 2, none⟩ = some s)
    (k : RL P N ops Q rest (upd σ d (.agg #[u, v, s])) w) : RL P N ops Q (⟨some d, .load t x, ty, pos, af, g⟩ :: rest) σ w :=
  rl_loadA [u, v, s] hA hg hx rfl (fun j r hj => by
    match j, hj with
    | 0, hj => simp at hj; subst hj; exact hc
    | 1, hj => simp at hj; subst hj; exact hc1
    | 2, hj => simp at hj; subst hj; exact hc2) k
/-- A store of a struct into cells of a block of the call's own. -/
theorem rl_storeA {t t' n : Nat} {zs vs cs : List Value} {x y : Operand} {b off : Nat} (hA : AgT P t n zs) (hg : want N ops σ g = true) (hx : ev N σ x = .pointer (some ⟨b, off, none⟩)) (hy : ev N σ y = .agg vs.toArray) (hl : vs.length = n) (h1 : ∀ v ∈ vs, v.oneCell' = true)
    (hB : Blk w b cs t') (hfit : off + n ≤ cs.length)
    (k : ∀ w', Blk w' b (cs.take off ++ vs ++ cs.drop (off + vs.length)) t' → Chg b w w' → w'.heap.size = w.heap.size → RL P N ops Q rest σ w') : RL P N ops Q (⟨none, .store t x y, ty, pos, af, g⟩ :: rest) σ w := by
  obtain ⟨i, h2, h3, h4⟩ := hA.info
  have hst := run_storeCells_at P b off t' vs 0 cs.toArray w hB (by simp only [List.size_toArray, Nat.add_zero]; omega) h1
  simp only [Nat.add_zero] at hst
  refine rl_unit hg ?_ (k _ (blk_row hB) (chg_row _ _ _) (by simp))
  simp [execOp, hx, hy, Instr.storeAt, Instr.sureAddr, storeVar, sizeOf, typeInfo, h2, h4, Value.cells, hl]
  simp [hl] at hst
  rw [hst]
  rfl
/-- The same, where the struct is the whole block. -/
theorem rl_storeW {t t' n : Nat} {zs vs cs : List Value} {x y : Operand} {b : Nat} (hA : AgT P t n zs) (hg : want N ops σ g = true) (hx : ev N σ x = .pointer (some ⟨b, 0, none⟩)) (hy : ev N σ y = .agg vs.toArray) (hl : vs.length = n) (h1 : vs.all (·.oneCell') = true)
    (hB : Blk w b cs t') (hc : cs.length = n)
    (k : ∀ w', Blk w' b vs t' → Chg b w w' → w'.heap.size = w.heap.size → RL P N ops Q rest σ w') : RL P N ops Q (⟨none, .store t x y, ty, pos, af, g⟩ :: rest) σ w :=
  rl_storeA hA hg hx hy hl (by simpa using h1) hB (by omega) (fun w' h2 h3 h4 => k w' (by
    rw [List.take_zero, List.nil_append, List.drop_of_length_le (by omega), List.append_nil] at h2; exact h2) h3 h4)
theorem rl_boxA {t : TypeId} {x : Operand} {vs : List Value} (hg : want N ops σ g = true) (hx : ev N σ x = .agg vs.toArray)
    (k : ∀ w', Blk w' w.heap.size vs t → Below w.heap.size w w' → w'.heap.size = w.heap.size + 1 → RL P N ops Q rest (upd σ d (.pointer (some ⟨w.heap.size, 0, none⟩))) w') :
    RL P N ops Q (⟨some d, .box t x, ty, pos, af, g⟩ :: rest) σ w := by
  refine rl_val hg ?_ (k (w.alloc (.cells vs.toArray t)) (blk_alloc _ _ _) (ext_alloc _ _) (by simp))
  simp [execOp, hx, Instr.box, newVar, newRow, Value.cells]
theorem rl_allocA {t n : Nat} {zs : List Value} (hA : AgT P t n zs) (hg : want N ops σ g = true)
    (k : ∀ w', Blk w' w.heap.size zs t → Below w.heap.size w w' → w'.heap.size = w.heap.size + 1 → RL P N ops Q rest (upd σ d (.pointer (some ⟨w.heap.size, 0, none⟩))) w') :
    RL P N ops Q (⟨some d, .alloc t, ty, pos, af, g⟩ :: rest) σ w := by
  obtain ⟨i, h2, h3, h4⟩ := hA.info
  refine rl_val hg ?_ (k (w.alloc (.cells zs.toArray t)) (blk_alloc _ _ _) (ext_alloc _ _) (by simp))
  simp [execOp, Instr.alloc, zeroValue, typeInfo, h2, h3, newVar, newRow, Value.cells]
/-- What is laid over the zero value. -/
def fillL (places : List (Nat × Nat)) : List Value → List (Nat × Value) → Option (List Value)
  | cs, [] => some cs
  | cs, (i, v) :: r => match places[i]? with
    | none => none
    | some (off, size) => if v.cells.toList.length = size ∧ off + size ≤ cs.length then fillL places (cs.take off ++ v.cells.toList ++ cs.drop (off + size)) r else none
theorem foldl_set (off : Nat) : ∀ (vs : List Value) (j : Nat) (cs : List Value), off + j + vs.length ≤ cs.length →
    ((vs.zipIdx j).foldl (fun cs (p : Value × Nat) => cs.setIfInBounds (off + p.2) p.1) cs.toArray).toList = cs.take (off + j) ++ vs ++ cs.drop (off + j + vs.length)
  | [], j, cs, _ => by simp
  | v :: vs, j, cs, h => by
    simp only [List.length_cons] at h
    have ih := foldl_set off vs (j + 1) (cs.set (off + j) v) (by simp; omega)
    simp only [List.zipIdx_cons, List.foldl_cons, List.setIfInBounds_toArray, ih]
    have hlt : off + j < cs.length := by omega
    rw [show off + (j + 1) = (off + j) + 1 by omega, List.take_add_one, List.getElem?_set_self hlt, List.take_set_of_le (Nat.le_refl _), List.drop_set_of_lt (by omega)]
    simp [Nat.add_assoc, Nat.add_comm, Nat.add_left_comm]
theorem fill_eq (places : Array (Nat × Nat)) : ∀ (parts : List (Nat × Value)) (cs out : List Value), fillL places.toList cs parts = some out → Instr.fill (places[·]?) cs.toArray parts = some out.toArray
  | [], cs, out, h => by simp [fillL] at h; subst h; rfl
  | (i, v) :: r, cs, out, h => by
    simp only [fillL, Array.getElem?_toList] at h
    simp only [Instr.fill]
    cases hp : places[i]? with
    | none => rw [hp] at h; cases h
    | some q =>
      obtain ⟨off, size⟩ := q
      rw [hp] at h
      simp only at h
      split at h
      · rename_i hc
        obtain ⟨h1, h2⟩ := hc
        have h1' : v.cells.size = size := by simpa using h1
        have hcond : ¬ (v.cells.size ≠ size ∨ cs.toArray.size < off + v.cells.size) := by simp [h1']; omega
        have hf := foldl_set off v.cells.toList 0 cs (by simp; omega)
        simp only [Nat.add_zero] at hf
        have hz : (v.cells.zipIdx.foldl (fun cs (p : Value × Nat) => cs.setIfInBounds (off + p.2) p.1) cs.toArray) = (cs.take off ++ v.cells.toList ++ cs.drop (off + size)).toArray := by
          apply Array.ext'
          rw [← Array.foldl_toList, Array.toList_zipIdx, hf]
          simp [h1']
        have ih := fill_eq places r _ out h
        rw [← hz] at ih
        simp only [h1', ne_eq, not_true_eq_false, gt_iff_lt, Bool.or_eq_true, decide_eq_true_eq, List.size_toArray]
        rw [if_neg (by simp; omega)]
        exact ih
      · cases h
/-- The places of a struct's fields. -/
def PlT (P : Program) (t : Nat) (places : List (Nat × Nat)) : Prop :=
  (match P.underlying t with | some (.struct fs) => some (fs.toList.map fun f => (P.info? f.type).map fun i => (f.offset, i.size)) | _ => none) = some (places.map some)
theorem mapM_places {fs : List Field} {places : List (Nat × Nat)} (w : World) (h : (fs.map fun f => (P.info? f.type).map fun i => (f.offset, i.size)) = places.map some) :
    (fs.mapM fun f => (do pure (f.offset, ← sizeOf f.type) : Sem (Nat × Nat))).run P w = .ok places w := by
  induction fs generalizing places with
  | nil => cases places with
    | nil => simp
    | cons p ps => simp at h
  | cons f fs ih => cases places with
    | nil => simp at h
    | cons p ps =>
      simp only [List.map_cons, List.cons.injEq, Option.map_eq_some_iff] at h
      obtain ⟨⟨i, h1, h2⟩, h3⟩ := h
      have := ih h3
      simp [List.mapM_cons, sizeOf, typeInfo, h1]
      simp [sizeOf, typeInfo] at this
      rw [this]
      simp [← h2]
theorem rl_build {t n : Nat} {zs : List Value} {places : List (Nat × Nat)} {ps : List (Nat × Operand)} {pv : List (Nat × Value)} (cs : List Value) (hA : AgT P t n zs) (hP : PlT P t places) (hg : want N ops σ g = true)
    (hv : ps.map (fun p => (p.1, ev N σ p.2)) = pv) (hf : fillL places zs pv = some cs)
    (k : RL P N ops Q rest (upd σ d (.agg cs.toArray)) w) : RL P N ops Q (⟨some d, .build t ps.toArray, ty, pos, af, g⟩ :: rest) σ w :=
  rl_val hg (by
    obtain ⟨i, h2, h3, h4⟩ := hA.info
    unfold PlT at hP
    split at hP
    · rename_i fs hu
      simp only [Option.some.injEq] at hP
      have hm := mapM_places (P := P) w hP
      have hfe := fill_eq places.toArray pv zs cs (by simpa using hf)
      subst hv
      have hm' : (fs.mapM fun f => (do pure (f.offset, ← sizeOf f.type) : Sem (Nat × Nat))).run P w = .ok places.toArray w := by
        rw [Array.mapM_eq_mapM_toList]
        simp at hm ⊢
        rw [hm]
        rfl
      simp [execOp, Instr.build, zeroValue, typeInfo, h2, h3, run_underlying hu, Value.cells]
      simp at hm'
      rw [hm']
      simp at hfe
      simp [hfe]
    · cases hP) k

/-- A slice that is written out: the cells of its elements, one behind the other. -/
theorem fill_all (size : Nat) : ∀ (vs : List Value) (k : Nat) (pre rest : List Value), (∀ v ∈ vs, v.cells.size = size) → pre.length = k * size → rest.length = vs.length * size →
    Instr.fill (fun i => some (i * size, size)) (pre ++ rest).toArray ((vs.zipIdx k).map fun p => (p.2, p.1)) = some (pre ++ vs.flatMap (·.cells.toList)).toArray
  | [], k, pre, rest, _, _, hr => by
    have : rest = [] := List.eq_nil_of_length_eq_zero (by simpa using hr)
    subst this
    simp [Instr.fill]
  | v :: vs, k, pre, rest, hv, hp, hr => by
    have h1 := hv v (by simp)
    have hr' : rest.length = vs.length * size + size := by rw [hr, List.length_cons, Nat.succ_mul]
    have hf := foldl_set (k * size) v.cells.toList 0 (pre ++ rest) (by simp; omega)
    simp only [Nat.add_zero] at hf
    have hz : (v.cells.zipIdx.foldl (fun cs (p : Value × Nat) => cs.setIfInBounds (k * size + p.2) p.1) (pre ++ rest).toArray) = ((pre ++ v.cells.toList) ++ rest.drop size).toArray := by
      apply Array.ext'
      rw [← Array.foldl_toList, Array.toList_zipIdx, hf]
      rw [← hp, List.take_left, show v.cells.toList.length = size by simpa using h1, ← List.drop_drop, List.drop_left]
    simp only [List.zipIdx_cons, List.map_cons, Instr.fill]
    rw [if_neg (by simp [h1]; omega), hz]
    have ih := fill_all size vs (k + 1) (pre ++ v.cells.toList) (rest.drop size) (fun u hu => hv u (by simp [hu])) (by simp [hp, h1, Nat.succ_mul]) (by simp; omega)
    rw [ih]
    simp
theorem rl_bsliceN {t e sz by_ n : Nat} {z : Value} {ps : List (Nat × Operand)} (vs : List Value) (hT : SlT P t e sz by_ z) (hz : z.cells.size = sz) (hg : want N ops σ g = true)
    (hv : ps.map (fun p => (p.1, ev N σ p.2)) = vs.zipIdx.map fun p => (p.2, p.1)) (hs : vs.all (fun v => v.cells.size == sz) = true) (hn : vs.length = n) (hb : n * sz ≤ 16777216) (h0 : 0 < n * sz)
    (k : ∀ w', Blk w' w.heap.size (vs.flatMap (·.cells.toList)) e → Below w.heap.size w w' → w'.heap.size = w.heap.size + 1 →
      RL P N ops Q rest (upd σ d (.slice (some ⟨w.heap.size, 0, none⟩) n n)) w') : RL P N ops Q (⟨some d, .buildSlice t n ps.toArray, ty, pos, af, g⟩ :: rest) σ w := by
  obtain ⟨inf, hi1, hi2, hi3, hi4⟩ := hT.info
  refine rl_val hg ?_ (k (w.alloc (.cells (vs.flatMap (·.cells.toList)).toArray e)) (blk_alloc _ _ _) (ext_alloc _ _) (by simp))
  subst hn
  have hv1 : ∀ v ∈ vs, v.cells.size = sz := by simpa using hs
  have hfa := fill_all sz vs 0 [] (((Array.range (vs.length * sz)).map (z.cells[· % z.cells.size]!)).toList) hv1 (by simp) (by simp)
  simp only [List.nil_append, Array.toArray_toList] at hfa
  have hbig : ¬ (16777216 < vs.length * sz) := by omega
  have hne : ¬ (vs.length * sz = 0) := by omega
  simp only [execOp, Instr.buildSlice]
  simp [run_underlying hT.und, typeInfo, hi1, hi3, sizeOf, hbig]
  rw [if_neg (by simpa using hne)]
  have hzv : (zeroValue e).run P w = .ok z w := by simp [zeroValue, typeInfo, hi1, hi2]
  rw [hzv]
  simp only [Result.andThen_ok]
  rw [hv, hfa]
  simp [newRow]

/-! ## Tuples -/
theorem rl_extract {x : Operand} {i : Nat} {vs : List Value} {v : Value} (hg : want N ops σ g = true) (hx : ev N σ x = .tuple vs.toArray) (hi : vs[i]? = some v)
    (k : RL P N ops Q rest (upd σ d v) w) : RL P N ops Q (⟨some d, .extract x i, ty, pos, af, g⟩ :: rest) σ w :=
  rl_val hg (by simp [execOp, hx, Instr.extract, hi]) k

/-! ## Results -/
/-- What result variable r yields. -/
def resV (ρ : Operand → Value) : ResultVar → Sem Value
  | .tmp t => pure (ρ (.tmp t))
  | .cell a t => do loadVar t (← asAddr (ρ (.tmp a)))
def ResOk (P : Program) (N : NN) (σ : Env) (w : World) (r : ResultVar) (v : Value) : Prop :=
  match r with
  | .tmp t => ev N σ (.tmp t) = v
  | .cell a t => ∃ A, ev N σ (.tmp a) = .pointer (some A) ∧ (loadVar t A).run P w = .ok v w
theorem res_tmp {t : Tmp} {v : Value} (h : ev N σ (.tmp t) = v) : ResOk P N σ w (.tmp t) v := h
theorem res_cellA {a t n b off : Nat} {zs cs : List Value} (hA : AgT P t n zs) (hx : ev N σ (.tmp a) = .pointer (some ⟨b, off, none⟩)) (hl : cs.length = n) (hc : ∀ j u, cs[j]? = some u → w.cell? ⟨b, off + j, none⟩ = some u) : ResOk P N σ w (.cell a t) (.agg cs.toArray) :=
  ⟨_, hx, run_loadAg hA hl hc⟩
theorem res_blkA {a t n b : Nat} {zs cs : List Value} {t' : TypeId} (hA : AgT P t n zs) (hx : ev N σ (.tmp a) = .pointer (some ⟨b, 0, none⟩)) (hB : Blk w b cs t') (hl : cs.length = n) : ResOk P N σ w (.cell a t) (.agg cs.toArray) :=
  res_cellA hA hx hl (fun j u hj => by rw [Nat.zero_add]; exact hB.cell_some hj)
theorem res_run {r : ResultVar} {v : Value} (h : ResOk P N σ w r v) : (resV (ev N σ) r).run P w = .ok v w := by
  cases r with
  | tmp t =>
    have h' : ev N σ (.tmp t) = v := h
    simp [resV, h']
  | cell a t =>
    obtain ⟨A, h1, h2⟩ := h
    simp [resV, h1, asAddr, h2]
theorem results_eq (fn : Func) : results fn (Fr N σ).tmps = (do
    let vs ← fn.results.mapM (resV (ev N σ))
    pure (if h : vs.size = 1 then vs[0] else .tuple vs)) := by
  unfold results
  congr 1
  congr 1
  funext r
  cases r with
  | tmp t => simp only [resV]; rw [← eval_Fr]; rfl
  | cell a t => simp only [resV]; rw [← eval_Fr]; rfl
theorem results_1 {fn : Func} {r : ResultVar} {v : Value} (hr : fn.results = #[r]) (h : ResOk P N σ w r v) : (results fn (Fr N σ).tmps).run P w = .ok v w := by
  have := res_run h
  rw [results_eq, hr]
  simp [this]
theorem results_2 {fn : Func} {r1 r2 : ResultVar} {v1 v2 : Value} (hr : fn.results = #[r1, r2]) (h1 : ResOk P N σ w r1 v1) (h2 : ResOk P N σ w r2 v2) : (results fn (Fr N σ).tmps).run P w = .ok (.tuple #[v1, v2]) w := by
  have e1 := res_run h1
  have e2 := res_run h2
  rw [results_eq, hr]
  simp [e1, e2]
theorem results_3 {fn : Func} {r1 r2 r3 : ResultVar} {v1 v2 v3 : Value} (hr : fn.results = #[r1, r2, r3]) (h1 : ResOk P N σ w r1 v1) (h2 : ResOk P N σ w r2 v2) (h3 : ResOk P N σ w r3 v3) : (results fn (Fr N σ).tmps).run P w = .ok (.tuple #[v1, v2, v3]) w := by
  have e1 := res_run h1
  have e2 := res_run h2
  have e3 := res_run h3
  rw [results_eq, hr]
  simp [e1, e2, e3]
section
variable {M : Nat} {fn : Func} {Post : Value → World → Prop} {r1 r2 r3 : ResultVar} {v1 v2 v3 : Value}
theorem bp_r1 (hr : fn.results = #[r1]) (h1 : ResOk P ⟨M, []⟩ σ w r1 v1) (h : Post v1 w) : BP P fn Post .ret (Fr ⟨M, []⟩ σ) w := bp_res rfl (results_1 hr h1) h
theorem bp_e1 (hr : fn.results = #[r1]) (h1 : ResOk P ⟨M, []⟩ σ w r1 v1) (h : Post v1 w) : BP P fn Post .normal (Fr ⟨M, []⟩ σ) w := bp_res rfl (results_1 hr h1) h
theorem bp_r2 (hr : fn.results = #[r1, r2]) (h1 : ResOk P ⟨M, []⟩ σ w r1 v1) (h2 : ResOk P ⟨M, []⟩ σ w r2 v2) (h : Post (.tuple #[v1, v2]) w) : BP P fn Post .ret (Fr ⟨M, []⟩ σ) w := bp_res rfl (results_2 hr h1 h2) h
theorem bp_e2 (hr : fn.results = #[r1, r2]) (h1 : ResOk P ⟨M, []⟩ σ w r1 v1) (h2 : ResOk P ⟨M, []⟩ σ w r2 v2) (h : Post (.tuple #[v1, v2]) w) : BP P fn Post .normal (Fr ⟨M, []⟩ σ) w := bp_res rfl (results_2 hr h1 h2) h
theorem bp_r3 (hr : fn.results = #[r1, r2, r3]) (h1 : ResOk P ⟨M, []⟩ σ w r1 v1) (h2 : ResOk P ⟨M, []⟩ σ w r2 v2) (h3 : ResOk P ⟨M, []⟩ σ w r3 v3) (h : Post (.tuple #[v1, v2, v3]) w) : BP P fn Post .ret (Fr ⟨M, []⟩ σ) w := bp_res rfl (results_3 hr h1 h2 h3) h
theorem bp_e3 (hr : fn.results = #[r1, r2, r3]) (h1 : ResOk P ⟨M, []⟩ σ w r1 v1) (h2 : ResOk P ⟨M, []⟩ σ w r2 v2) (h3 : ResOk P ⟨M, []⟩ σ w r3 v3) (h : Post (.tuple #[v1, v2, v3]) w) : BP P fn Post .normal (Fr ⟨M, []⟩ σ) w := bp_res rfl (results_3 hr h1 h2 h3) h
end
theorem cell_chg2 {b1 o b : Nat} {v : Value} (h : w.cell? ⟨b1, o, none⟩ = some v) (hc : Chg b w w') (hne : b1 ≠ b) : w'.cell? ⟨b1, o, none⟩ = some v := cell_chg h hc hne
theorem rl_peqnil {t t' e : TypeId} {x y : Operand} {p : Option Addr} (hT : P.underlying t = some (.pointer e)) (hg : want N ops σ g = true) (hx : ev N σ x = .pointer p) (hy : ev N σ y = .pointer none)
    (k : RL P N ops Q rest (upd σ d (.bool p.isNone)) w) : RL P N ops Q (⟨some d, .binOp .eql t x y t', ty, pos, af, g⟩ :: rest) σ w :=
  rl_val hg (by
    have h : ∀ d : Nat, (Op.equalIn (d + 1) t (.pointer p) (.pointer none)).run P w = .ok p.isNone w := fun d => by
      cases p <;> simp [Op.equalIn, run_underlying hT]
    unfold execOp; simp only [hx, hy]
    simp [eqGuard, binOp, Op.equal, Op.maxDepth, h 9999]) k
theorem rl_pneqnil {t t' e : TypeId} {x y : Operand} {p : Option Addr} (hT : P.underlying t = some (.pointer e)) (hg : want N ops σ g = true) (hx : ev N σ x = .pointer p) (hy : ev N σ y = .pointer none)
    (k : RL P N ops Q rest (upd σ d (.bool (!p.isNone))) w) : RL P N ops Q (⟨some d, .binOp .neq t x y t', ty, pos, af, g⟩ :: rest) σ w :=
  rl_val hg (by
    have h : ∀ d : Nat, (Op.equalIn (d + 1) t (.pointer p) (.pointer none)).run P w = .ok p.isNone w := fun d => by
      cases p <;> simp [Op.equalIn, run_underlying hT]
    unfold execOp; simp only [hx, hy]
    simp [eqGuard, binOp, Op.equal, Op.maxDepth, h 9999]) k
theorem rl_eqbool {t t' : TypeId} {x y : Operand} {a b : Bool} (hT : P.underlying t = some .bool) (hg : want N ops σ g = true) (hx : ev N σ x = .bool a) (hy : ev N σ y = .bool b)
    (k : RL P N ops Q rest (upd σ d (.bool (a == b))) w) : RL P N ops Q (⟨some d, .binOp .eql t x y t', ty, pos, af, g⟩ :: rest) σ w :=
  rl_val hg (by
    unfold execOp
    simp only [hx, hy]
    simp [eqGuard, run_eql_bool w t a b hT]) k
/-! ## What stands from block B on -/
def From (B : Nat) (w : World) : Addr → Option Value := fun a => if B ≤ a.block then w.cell? a else none
theorem from_of {B : Nat} {a : Addr} {v : Value} (h : w.cell? a = some v) (hB : B ≤ a.block) : From B w a = some v := by unfold From; rw [if_pos hB]; exact h
theorem from_iff {B : Nat} {a : Addr} {v : Value} (h : From B w a = some v) : B ≤ a.block ∧ w.cell? a = some v := by
  unfold From at h
  split at h
  · exact ⟨‹_›, h⟩
  · cases h
theorem from_cell {B : Nat} {a : Addr} {v : Value} (h : From B w a = some v) : w.cell? a = some v := (from_iff h).2
theorem from_ext {B : Nat} {a : Addr} {v : Value} (h : From B w a = some v) (hb : Below w.heap.size w w') : From B w' a = some v := from_of (cell_ext (from_iff h).2 hb) (from_iff h).1
theorem from_chg {B b : Nat} {a : Addr} {v : Value} (h : From B w a = some v) (hc : Chg b w w') (hb : b < B) : From B w' a = some v :=
  from_of (cell_chg (from_iff h).2 hc (by have := (from_iff h).1; omega)) (from_iff h).1
theorem from_le {B B' : Nat} {a : Addr} {v : Value} (h : From B' w a = some v) (hB : B ≤ B') : From B w a = some v := from_of (from_iff h).2 (Nat.le_trans hB (from_iff h).1)
theorem from_blk {B b i : Nat} {cs : List Value} {t : TypeId} {v : Value} (h : Blk w b cs t) (hi : cs[i]? = some v) (hB : B ≤ b) : From B w ⟨b, i, none⟩ = some v := from_of (h.cell_some hi) hB
end Go.Eng
set_option linter.unusedVariables false
set_option linter.unusedSimpArgs false
namespace Go.Eng
open Go Go.RowKit
variable {P : Program} {N : NN} {Q : Exit → Act → World → Prop} {S : World → Prop} {σ : Env} {w w' : World} {ops rest : List Oper} {r : List (Nat × Bool)}
  {d : Tmp} {ty : TypeId} {pos : String} {af : Array Edge} {g : Option (Nat × Bool)} {io nt : Nat}
theorem rx_sadd {x y : Operand} {t t' : TypeId} {a b : List UInt8} (ho : ops[io]? = some ⟨some d, .binOp .add t x y t', ty, pos, af, g⟩) (hg : want N ops σ g = true) (hx : ev N σ x = St a) (hy : ev N σ y = St b) (hl : a.length + b.length ≤ 9223372036854775807)
    (k : RX P N ops Q S nt r (upd σ d (St (a ++ b))) w) : RX P N ops Q S nt ((io, false) :: r) σ w :=
  rx_val ho hg (fun w _ => by
    unfold execOp
    simp only [hx, hy]
    have h := run_string_add_sum (P := P) w (ByteArray.mk a.toArray) (ByteArray.mk b.toArray) (by rw [st_size, st_size]; exact hl)
    rw [ByteArray.mk_append_mk] at h
    simp [eqGuard, binOp_string_add, h]) k
theorem rx_seql {x y : Operand} {t t' : TypeId} {a b : List UInt8} (ho : ops[io]? = some ⟨some d, .binOp .eql t x y t', ty, pos, af, g⟩) (hg : want N ops σ g = true) (hx : ev N σ x = St a) (hy : ev N σ y = St b)
    (k : RX P N ops Q S nt r (upd σ d (.bool (decide (a = b)))) w) : RX P N ops Q S nt ((io, false) :: r) σ w :=
  rx_val ho hg (fun w _ => by
    unfold execOp
    simp only [hx, hy]
    have h := st_beq a b
    simp only [binOp_string_eql, h]
    simp [eqGuard]) k
theorem rx_sneq {x y : Operand} {t t' : TypeId} {a b : List UInt8} (ho : ops[io]? = some ⟨some d, .binOp .neq t x y t', ty, pos, af, g⟩) (hg : want N ops σ g = true) (hx : ev N σ x = St a) (hy : ev N σ y = St b)
    (k : RX P N ops Q S nt r (upd σ d (.bool (!decide (a = b)))) w) : RX P N ops Q S nt ((io, false) :: r) σ w :=
  rx_val ho hg (fun w _ => by
    unfold execOp
    simp only [hx, hy]
    have h := st_beq a b
    simp only [binOp_string_neq, h]
    simp [eqGuard]) k
theorem rx_seql_t {x y : Operand} {t t' : TypeId} {a b : List UInt8} (ho : ops[io]? = some ⟨some d, .binOp .eql t x y t', ty, pos, af, g⟩) (hg : want N ops σ g = true) (hx : ev N σ x = St a) (hy : ev N σ y = St b) (h : a = b)
    (k : RX P N ops Q S nt r (upd σ d (.bool true)) w) : RX P N ops Q S nt ((io, false) :: r) σ w :=
  rx_seql ho hg hx hy (by rw [decide_eq_true h]; exact k)
theorem rx_seql_f {x y : Operand} {t t' : TypeId} {a b : List UInt8} (ho : ops[io]? = some ⟨some d, .binOp .eql t x y t', ty, pos, af, g⟩) (hg : want N ops σ g = true) (hx : ev N σ x = St a) (hy : ev N σ y = St b) (h : a ≠ b)
    (k : RX P N ops Q S nt r (upd σ d (.bool false)) w) : RX P N ops Q S nt ((io, false) :: r) σ w :=
  rx_seql ho hg hx hy (by rw [decide_eq_false h]; exact k)
theorem rx_sneq_t {x y : Operand} {t t' : TypeId} {a b : List UInt8} (ho : ops[io]? = some ⟨some d, .binOp .neq t x y t', ty, pos, af, g⟩) (hg : want N ops σ g = true) (hx : ev N σ x = St a) (hy : ev N σ y = St b) (h : a ≠ b)
    (k : RX P N ops Q S nt r (upd σ d (.bool true)) w) : RX P N ops Q S nt ((io, false) :: r) σ w :=
  rx_sneq ho hg hx hy (by rw [decide_eq_false h]; exact k)
theorem rx_sneq_f {x y : Operand} {t t' : TypeId} {a b : List UInt8} (ho : ops[io]? = some ⟨some d, .binOp .neq t x y t', ty, pos, af, g⟩) (hg : want N ops σ g = true) (hx : ev N σ x = St a) (hy : ev N σ y = St b) (h : a = b)
    (k : RX P N ops Q S nt r (upd σ d (.bool false)) w) : RX P N ops Q S nt ((io, false) :: r) σ w :=
  rx_sneq ho hg hx hy (by rw [decide_eq_true h]; exact k)
theorem rx_slen {x : Operand} {t : TypeId} {a : List UInt8} (ho : ops[io]? = some ⟨some d, .call ⟨.builtin .len, #[x], #[t]⟩, ty, pos, af, g⟩) (hT : P.underlying t = some .string) (hg : want N ops σ g = true) (hx : ev N σ x = St a)
    (k : RX P N ops Q S nt r (upd σ d (.int .i64 a.length)) w) : RX P N ops Q S nt ((io, false) :: r) σ w :=
  rx_val ho hg (fun w _ => by simp [execOp, resolve, invoke, builtin, hx, Builtin.len_, run_underlying hT, goInt, st_size]) k
theorem rx_sslice_h {x : Operand} {t : TypeId} {a : List UInt8} {hi : Operand} {h : Int} (ho : ops[io]? = some ⟨some d, .slice t x none (some hi) none, ty, pos, af, g⟩) (hT : P.underlying t = some .string) (hg : want N ops σ g = true) (hx : ev N σ x = St a) (hh : ev N σ hi = .int .i64 h) (h0 : 0 ≤ h) (h1 : h ≤ a.length)
    (k : RX P N ops Q S nt r (upd σ d (St (a.take h.toNat))) w) : RX P N ops Q S nt ((io, false) :: r) σ w :=
  rx_val ho hg (fun w _ => by
    have e := st_extract a 0 h.toNat
    simp only [List.drop_zero, Nat.sub_zero] at e
    simp [execOp, hx, hh, Instr.sliceAt, Instr.slice, Instr.sliceBounds, Instr.sliceBound, asIntOf, run_underlying hT, h0, h1, st_size, e]) k
theorem rx_sslice_l {x : Operand} {t : TypeId} {a : List UInt8} {lo : Operand} {l : Int} (ho : ops[io]? = some ⟨some d, .slice t x (some lo) none none, ty, pos, af, g⟩) (hT : P.underlying t = some .string) (hg : want N ops σ g = true) (hx : ev N σ x = St a) (hh : ev N σ lo = .int .i64 l) (h0 : 0 ≤ l) (h1 : l ≤ a.length)
    (k : RX P N ops Q S nt r (upd σ d (St (a.drop l.toNat))) w) : RX P N ops Q S nt ((io, false) :: r) σ w :=
  rx_val ho hg (fun w _ => by
    have e := st_extract a l.toNat a.length
    rw [List.take_of_length_le (by simp)] at e
    simp [execOp, hx, hh, Instr.sliceAt, Instr.slice, Instr.sliceBounds, Instr.sliceBound, asIntOf, run_underlying hT, h0, h1, st_size, e]) k
theorem rx_sslice_lh {x : Operand} {t : TypeId} {a : List UInt8} {lo hi : Operand} {l h : Int} (ho : ops[io]? = some ⟨some d, .slice t x (some lo) (some hi) none, ty, pos, af, g⟩) (hT : P.underlying t = some .string) (hg : want N ops σ g = true) (hx : ev N σ x = St a) (hlo : ev N σ lo = .int .i64 l) (hhi : ev N σ hi = .int .i64 h) (h0 : 0 ≤ l) (h1 : l ≤ h) (h2 : h ≤ a.length)
    (k : RX P N ops Q S nt r (upd σ d (St ((a.take h.toNat).drop l.toNat))) w) : RX P N ops Q S nt ((io, false) :: r) σ w :=
  rx_val ho hg (fun w _ => by
    have e := st_extract a l.toNat h.toNat
    rw [← List.drop_take] at e
    have e2 : 0 ≤ h := by omega
    have e3 : l ≤ max h 0 := by omega
    simp [execOp, hx, hlo, hhi, Instr.sliceAt, Instr.slice, Instr.sliceBounds, Instr.sliceBound, asIntOf, run_underlying hT, h0, h2, e2, e3, st_size, e]) k
theorem rx_sindex {x y : Operand} {t : TypeId} {a : List UInt8} {i : Int} {c : UInt8} (ho : ops[io]? = some ⟨some d, .index t x y, ty, pos, af, g⟩) (hT : P.underlying t = some .string) (hg : want N ops σ g = true) (hx : ev N σ x = St a) (hy : ev N σ y = .int .i64 i) (h0 : 0 ≤ i) (hc : a[i.toNat]? = some c)
    (k : RX P N ops Q S nt r (upd σ d (.int .u8 c.toNat)) w) : RX P N ops Q S nt ((io, false) :: r) σ w :=
  rx_val ho hg (fun w _ => by
    obtain ⟨hlt, he⟩ := List.getElem?_eq_some_iff.1 hc
    have h := run_index_string (P := P) w t (ByteArray.mk a.toArray) .i64 i hT
    have hsz : i < ((ByteArray.mk a.toArray).size : Int) := by rw [st_size]; omega
    have hlt' : i.toNat < (ByteArray.mk a.toArray).size := by rw [st_size]; omega
    have he' : (ByteArray.mk a.toArray)[i.toNat]'hlt' = c := by
      rw [← he]; rfl
    rw [dif_pos ⟨h0, hsz⟩, he'] at h
    simp [execOp, hx, hy, h]) k
theorem rx_fld {s f o b off : Nat} {x : Operand} (ho : ops[io]? = some ⟨some d, .fieldAddr s x f, ty, pos, af, g⟩) (hF : FldT P s f o) (hg : want N ops σ g = true) (hx : ev N σ x = .pointer (some ⟨b, off, none⟩))
    (k : RX P N ops Q S nt r (upd σ d (.pointer (some ⟨b, off + o, none⟩))) w) : RX P N ops Q S nt ((io, false) :: r) σ w :=
  rx_val ho hg (fun w _ => by
    unfold FldT at hF
    split at hF
    · rename_i fs hu
      simp only [Option.map_eq_some_iff, Prod.mk.injEq, beq_eq_false_iff_ne] at hF
      obtain ⟨fd, h1, h2, h3⟩ := hF
      cases hi : P.info? fd.type with
      | none => rw [hi] at h3; exact absurd rfl h3
      | some i =>
        rw [hi] at h3
        simp at h3
        simp [execOp, hx, Instr.fieldAt, run_underlying hu, h1, Instr.sureAddr, fieldPlace, sizeOf, typeInfo, hi, h3, h2, Addr.add_lit]
    · cases hF) k
theorem rx_build {t n : Nat} {zs : List Value} {places : List (Nat × Nat)} {ps : List (Nat × Operand)} {pv : List (Nat × Value)} (cs : List Value) (ho : ops[io]? = some ⟨some d, .build t ps.toArray, ty, pos, af, g⟩) (hA : AgT P t n zs) (hP : PlT P t places) (hg : want N ops σ g = true)
    (hv : ps.map (fun p => (p.1, ev N σ p.2)) = pv) (hf : fillL places zs pv = some cs)
    (k : RX P N ops Q S nt r (upd σ d (.agg cs.toArray)) w) : RX P N ops Q S nt ((io, false) :: r) σ w :=
  rx_val ho hg (fun w _ => by
    obtain ⟨i, h2, h3, h4⟩ := hA.info
    unfold PlT at hP
    split at hP
    · rename_i fs hu
      simp only [Option.some.injEq] at hP
      have hm := mapM_places (P := P) w hP
      have hfe := fill_eq places.toArray pv zs cs (by simpa using hf)
      subst hv
      have hm' : (fs.mapM fun f => (do pure (f.offset, ← sizeOf f.type) : Sem (Nat × Nat))).run P w = .ok places.toArray w := by
        rw [Array.mapM_eq_mapM_toList]
        simp at hm ⊢
        rw [hm]
        rfl
      simp [execOp, Instr.build, zeroValue, typeInfo, h2, h3, run_underlying hu, Value.cells]
      simp at hm'
      rw [hm']
      simp at hfe
      simp [hfe]
    · cases hP) k

theorem rx_extract {x : Operand} {i : Nat} {vs : List Value} {v : Value} (ho : ops[io]? = some ⟨some d, .extract x i, ty, pos, af, g⟩) (hg : want N ops σ g = true) (hx : ev N σ x = .tuple vs.toArray) (hi : vs[i]? = some v)
    (k : RX P N ops Q S nt r (upd σ d v) w) : RX P N ops Q S nt ((io, false) :: r) σ w :=
  rx_val ho hg (fun w _ => by simp [execOp, hx, Instr.extract, hi]) k

theorem rx_peqnil {t t' e : TypeId} {x y : Operand} {p : Option Addr} (ho : ops[io]? = some ⟨some d, .binOp .eql t x y t', ty, pos, af, g⟩) (hT : P.underlying t = some (.pointer e)) (hg : want N ops σ g = true) (hx : ev N σ x = .pointer p) (hy : ev N σ y = .pointer none)
    (k : RX P N ops Q S nt r (upd σ d (.bool p.isNone)) w) : RX P N ops Q S nt ((io, false) :: r) σ w :=
  rx_val ho hg (fun w _ => by
    have h : ∀ d : Nat, (Op.equalIn (d + 1) t (.pointer p) (.pointer none)).run P w = .ok p.isNone w := fun d => by
      cases p <;> simp [Op.equalIn, run_underlying hT]
    unfold execOp; simp only [hx, hy]
    simp [eqGuard, binOp, Op.equal, Op.maxDepth, h 9999]) k
theorem rx_pneqnil {t t' e : TypeId} {x y : Operand} {p : Option Addr} (ho : ops[io]? = some ⟨some d, .binOp .neq t x y t', ty, pos, af, g⟩) (hT : P.underlying t = some (.pointer e)) (hg : want N ops σ g = true) (hx : ev N σ x = .pointer p) (hy : ev N σ y = .pointer none)
    (k : RX P N ops Q S nt r (upd σ d (.bool (!p.isNone))) w) : RX P N ops Q S nt ((io, false) :: r) σ w :=
  rx_val ho hg (fun w _ => by
    have h : ∀ d : Nat, (Op.equalIn (d + 1) t (.pointer p) (.pointer none)).run P w = .ok p.isNone w := fun d => by
      cases p <;> simp [Op.equalIn, run_underlying hT]
    unfold execOp; simp only [hx, hy]
    simp [eqGuard, binOp, Op.equal, Op.maxDepth, h 9999]) k
theorem rx_eqbool {t t' : TypeId} {x y : Operand} {a b : Bool} (ho : ops[io]? = some ⟨some d, .binOp .eql t x y t', ty, pos, af, g⟩) (hT : P.underlying t = some .bool) (hg : want N ops σ g = true) (hx : ev N σ x = .bool a) (hy : ev N σ y = .bool b)
    (k : RX P N ops Q S nt r (upd σ d (.bool (a == b))) w) : RX P N ops Q S nt ((io, false) :: r) σ w :=
  rx_val ho hg (fun w _ => by
    unfold execOp
    simp only [hx, hy]
    simp [eqGuard, run_eql_bool w t a b hT]) k
theorem rx_loadA1 {t : Nat} {zs : List Value} {x : Operand} {b off : Nat} {u : Value} (ho : ops[io]? = some ⟨some d, .load t x, ty, pos, af, g⟩) (hA : AgT P t 1 zs) (hg : want N ops σ g = true) (hx : ev N σ x = .pointer (some ⟨b, off, none⟩)) (hc : ∀ w, S w → w.cell? ⟨b, off, none⟩ = some u)
    (k : RX P N ops Q S nt r (upd σ d (.agg #[u])) w) : RX P N ops Q S nt ((io, false) :: r) σ w :=
  rx_val ho hg (fun w hS => by
    have h := run_loadAg (w := w) (cs := [u]) hA rfl (fun j v hj => by
      match j, hj with
      | 0, hj => simp at hj; subst hj; exact hc w hS)
    simp [execOp, hx, Instr.loadAt, Instr.sureAddr, h]) k
theorem rx_loadA2 {t : Nat} {zs : List Value} {x : Operand} {b off : Nat} {u v : Value} (ho : ops[io]? = some ⟨some d, .load t x, ty, pos, af, g⟩) (hA : AgT P t 2 zs) (hg : want N ops σ g = true) (hx : ev N σ x = .pointer (some ⟨b, off, none⟩)) (hc : ∀ w, S w → w.cell? ⟨b, off, none⟩ = some u) (hc1 : ∀ w, S w → w.cell? ⟨b, off + 1, none⟩ = some v)
    (k : RX P N ops Q S nt r (upd σ d (.agg #[u, v])) w) : RX P N ops Q S nt ((io, false) :: r) σ w :=
  rx_val ho hg (fun w hS => by
    have h := run_loadAg (w := w) (cs := [u, v]) hA rfl (fun j s hj => by
      match j, hj with
      | 0, hj => simp at hj; subst hj; exact hc w hS
      | 1, hj => simp at hj; subst hj; exact hc1 w hS)
    simp [execOp, hx, Instr.loadAt, Instr.sureAddr, h]) k
theorem rx_loadA3 {t : Nat} {zs : List Value} {x : Operand} {b off : Nat} {u v s : Value} (ho : ops[io]? = some ⟨some d, .load t x, ty, pos, af, g⟩) (hA : AgT P t 3 zs) (hg : want N ops σ g = true) (hx : ev N σ x = .pointer (some ⟨b, off, none⟩)) (hc : ∀ w, S w → w.cell? ⟨b, off, none⟩ = some u) (hc1 : ∀ w, S w → w.cell? ⟨b, off + 1, none⟩ = some v) (hc2 : ∀ w, S w → w.cell? ⟨b, off + 2, none⟩ = some s)
    (k : RX P N ops Q S nt r (upd σ d (.agg #[u, v, s])) w) : RX P N ops Q S nt ((io, false) :: r) σ w :=
  rx_val ho hg (fun w hS => by
    have h := run_loadAg (w := w) (cs := [u, v, s]) hA rfl (fun j q hj => by
      match j, hj with
      | 0, hj => simp at hj; subst hj; exact hc w hS
      | 1, hj => simp at hj; subst hj; exact hc1 w hS
      | 2, hj => simp at hj; subst hj; exact hc2 w hS)
    simp [execOp, hx, Instr.loadAt, Instr.sureAddr, h]) k
end Go.Eng
set_option linter.unusedVariables false
set_option linter.unusedSimpArgs false
namespace Go.Eng
open Go Go.RowKit
variable {P : Program} {N : NN} {Q : Exit → Act → World → Prop} {S : World → Prop} {σ : Env} {w w' : World} {ops rest : List Oper} {r : List (Nat × Bool)}
  {d : Tmp} {ty : TypeId} {pos : String} {af : Array Edge} {g : Option (Nat × Bool)} {io nt : Nat}
def by8 (l : List UInt8) : List Value := l.map fun b => Value.int .u8 b.toNat
theorem by8_len (l : List UInt8) : (by8 l).length = l.length := by simp [by8]
theorem by8_append (a b : List UInt8) : by8 (a ++ b) = by8 a ++ by8 b := by simp [by8]
theorem strCells_mk (l : List UInt8) : Lib.strCells ⟨l.toArray⟩ = by8 l := by simp [Lib.strCells, by8]
theorem run_append_OwnS {t u ty e b : Nat} {v : Value} (hT : SlT P t e 1 1 (.int .u8 0)) (hu : P.underlying u = some .string) {n : Nat} {xs : List Value} (l : List UInt8)
    (hown : Own w e 1 v n xs b) (h63 : n + l.length ≤ maxLen) (hby : n + l.length ≤ 140737488355328) :
    ∃ v' w' b', (Builtin.append_ #[t, u] ty #[v, St l]).run P w = .ok v' w' ∧ Own w' e 1 v' (n + l.length) (xs ++ by8 l) b' ∧ (b' = b ∨ w.heap.size ≤ b') ∧ Chg b w w' := by
  obtain ⟨i, hi, hz, hisz, hiby⟩ := hT.info
  have ht := hT.und
  have hsz : (ByteArray.mk l.toArray).size = l.length := st_size l
  have hsmall : n + l.length ≤ 9223372036854775807 := by simp only [maxLen] at h63; omega
  have hxl : xs.length = n := by simpa using hown.1
  have hlen : (xs ++ by8 l).length = (n + l.length) * 1 := by rw [List.length_append, hxl, by8_len, Nat.mul_one]
  have grown : ∀ (old : Nat), old < n + l.length →
      Own (w.drew.alloc (.cells (xs.toArray ++ (by8 l).toArray ++ Builtin.zeroCells (Value.int .u8 0).cells (grownCap w (n + l.length) old e - (n + l.length))) e)) e 1
        (.slice (some ⟨w.heap.size, 0, none⟩) (n + l.length) (grownCap w (n + l.length) old e)) (n + l.length) (xs ++ by8 l) w.heap.size ∧
      Chg b w (w.drew.alloc (.cells (xs.toArray ++ (by8 l).toArray ++ Builtin.zeroCells (Value.int .u8 0).cells (grownCap w (n + l.length) old e - (n + l.length))) e)) := by
    intro old ho
    have hge := grownCap_ge w (n + l.length) old e
    have hcm : grownCap w (n + l.length) old e ≤ maxLen := grownCap_le_maxLen w (n + l.length) old e h63
    refine ⟨⟨hlen, .inr ⟨_, (Builtin.zeroCells (Value.int .u8 0).cells (grownCap w (n + l.length) old e - (n + l.length))).toList, rfl, hge, hcm, ?_, ?_⟩⟩, ⟨rfl, rfl, rfl, by simp, fun k hk _ => heap_alloc_old w.drew _ hk⟩⟩
    · have hz1 : (Value.int IntKind.u8 0).cells.size = 1 := rfl
      simp only [List.length_append, Array.length_toList, size_zeroCells, hz1, hxl, by8_len]
      omega
    · have : xs.toArray ++ (by8 l).toArray ++ Builtin.zeroCells (Value.int .u8 0).cells (grownCap w (n + l.length) old e - (n + l.length)) = (xs ++ by8 l ++ (Builtin.zeroCells (Value.int .u8 0).cells (grownCap w (n + l.length) old e - (n + l.length))).toList).toArray := by
        apply Array.ext'; simp
      rw [this]
      exact blk_alloc w.drew _ _
  rcases hown.2 with ⟨rfl, rfl⟩ | ⟨cap, spare, rfl, hnc, hcm, hcs, hB⟩
  · have hx : xs = [] := List.eq_nil_of_length_eq_zero hxl
    subst hx
    by_cases hm : l.length = 0
    · have hl : l = [] := List.eq_nil_of_length_eq_zero hm
      subst hl
      refine ⟨.slice none 0 0, w, b, ?_, Own.nil _ _ _ _, .inl rfl, Chg.refl _ _⟩
      have hf := Lib.run_firstCells_string (P := P) w 1 ⟨#[]⟩
      have h0 : (ByteArray.mk #[]).size = 0 := rfl
      rw [h0] at hf
      simp [Builtin.append_, run_underlying ht, run_underlying hu, sizeOf, typeInfo, hi, hisz, Builtin.lenOf, h0, hf]
    · have hr := run_append_nil_string (P := P) w t u ty e i (.int .u8 0) ht hu hi hz ⟨l.toArray⟩ (by rw [hsz]; omega) (by rw [hsz]; omega) (by rw [hsz, hiby]; omega)
      have hgr := grown 0 (by omega)
      have e1 : (ByteArray.mk l.toArray).data.map (fun b => Value.int .u8 (b.toNat : Int)) = (by8 l).toArray := by
        apply Array.ext'; simp [by8]
      rw [e1, hsz] at hr
      simp only [Nat.zero_add, List.nil_append, Array.empty_append] at hgr ⊢
      exact ⟨_, _, _, hr, hgr.1, .inr (Nat.le_refl _), hgr.2⟩
  · by_cases hroom : n + l.length ≤ cap
    · have hcs' : (xs ++ spare).length = cap := by simpa using hcs
      have hr := Lib.run_append_room_string (P := P) w t u ty e i ht hu hi hisz b n cap (xs ++ spare).toArray hB ⟨l.toArray⟩ (by rw [hsz]; exact hroom) (by rw [hsz, List.size_toArray]; omega)
      rw [strCells_mk, hsz] at hr
      have e1 : ((xs ++ spare).toArray.toList.take n ++ by8 l ++ (xs ++ spare).toArray.toList.drop (n + l.length)) = (xs ++ by8 l) ++ (xs ++ spare).drop (n + l.length) := by
        simp only [← hxl, List.take_left]
      rw [e1] at hr
      refine ⟨_, _, b, hr, ⟨hlen, .inr ⟨cap, (xs ++ spare).drop (n + l.length), rfl, hroom, hcm, ?_, blk_row hB⟩⟩, .inl rfl, chg_row _ _ _⟩
      simp only [List.length_append, List.length_drop, by8_len, Nat.mul_one] at hcs' ⊢
      omega
    · have holds : ∀ j u, xs[j]? = some u → w.cell? ((⟨b, 0, none⟩ : Addr).add j) = some u := fun j u h => by rw [Addr.add_lit, Nat.zero_add]; exact hown.cell h
      have hr := Lib.run_append_grow_string (P := P) w t u ty e i (.int .u8 0) ht hu hi hz ⟨b, 0, none⟩ n cap xs (by rw [hisz]; simpa using hxl) holds ⟨l.toArray⟩ (by rw [hsz]; omega) (by rw [hsz]; omega) (by rw [hiby, hsz]; exact growslice_fits (by omega) (by omega))
      rw [strCells_mk, hsz] at hr
      have hgr := grown cap (by omega)
      exact ⟨_, _, _, hr, hgr.1, .inr (Nat.le_refl _), hgr.2⟩
theorem rl_appendS {t u e b : Nat} {x y : Operand} {v : Value} {n : Nat} {xs : List Value} {l : List UInt8} (hT : SlT P t e 1 1 (.int .u8 0)) (hu : P.underlying u = some .string)
    (hown : Own w e 1 v n xs b) (hg : want N ops σ g = true) (hx : ev N σ x = v) (hy : ev N σ y = St l) (h63 : n + l.length ≤ maxLen) (hby : n + l.length ≤ 140737488355328)
    (k : ∀ v' w' b', Own w' e 1 v' (n + l.length) (xs ++ by8 l) b' → (b' = b ∨ w.heap.size ≤ b') → Chg b w w' → RL P N ops Q rest (upd σ d v') w') :
    RL P N ops Q (⟨some d, .call ⟨.builtin .append, #[x, y], #[t, u]⟩, ty, pos, af, g⟩ :: rest) σ w := by
  obtain ⟨v', w', b', hr, h2, h3, h4⟩ := run_append_OwnS (ty := ty) hT hu l hown h63 hby
  exact rl_val hg (by simp [execOp, resolve, invoke, builtin, hx, hy, hr]) (k v' w' b' h2 h3 h4)
theorem rl_pneqsame {t t' e : TypeId} {x y : Operand} {A : Addr} (hT : P.underlying t = some (.pointer e)) (he : (P.info? e).isSome = true) (hg : want N ops σ g = true) (hx : ev N σ x = .pointer (some A)) (hy : ev N σ y = .pointer (some A))
    (k : RL P N ops Q rest (upd σ d (.bool false)) w) : RL P N ops Q (⟨some d, .binOp .neq t x y t', ty, pos, af, g⟩ :: rest) σ w :=
  rl_val hg (by
    obtain ⟨j, hj⟩ := Option.isSome_iff_exists.1 he
    have h := Lib.run_neq_ptr_same (P := P) w A hT hj
    unfold execOp; simp only [hx, hy]
    simp [eqGuard, h]) k
theorem rl_toUns {src dst t e b off : Nat} {x : Operand} {cs : List Value} (hs : P.underlying src = some (.pointer t)) (hd : P.underlying dst = some .unsafePointer) (ht : (P.info? t).map (fun i => i.size == 0) = some false)
    (hg : want N ops σ g = true) (hx : ev N σ x = .pointer (some ⟨b, off, none⟩)) (hB : Blk w b cs e) (ho : off < cs.length)
    (k : RL P N ops Q rest (upd σ d (.pointer (some ⟨b, off, none⟩))) w) : RL P N ops Q (⟨some d, .convert src dst x, ty, pos, af, g⟩ :: rest) σ w :=
  rl_val hg (by
    simp only [Option.map_eq_some_iff, beq_eq_false_iff_ne] at ht
    obtain ⟨j, hj, hne⟩ := ht
    have hsh : w.shape? b = some (e, cs.length) := by unfold Blk at hB; simp [World.shape?, hB]
    have h := Lib.run_to_unsafe (P := P) w ⟨b, off, none⟩ hs hd hj hne hsh ho
    simp [execOp, hx, h]) k
theorem rl_fromUns {src dst u e b off : Nat} {x : Operand} {cs : List Value} (hs : P.underlying src = some .unsafePointer) (hd : P.underlying dst = some (.pointer u)) (hu : (P.info? u).isSome = true)
    (hg : want N ops σ g = true) (hx : ev N σ x = .pointer (some ⟨b, off, none⟩)) (hB : Blk w b cs e) (hl : liesAt P P.depth e (cs.length / P.cellsOf e) off u 1 = true)
    (k : RL P N ops Q rest (upd σ d (.pointer (some ⟨b, off, none⟩))) w) : RL P N ops Q (⟨some d, .convert src dst x, ty, pos, af, g⟩ :: rest) σ w :=
  rl_val hg (by
    obtain ⟨j, hj⟩ := Option.isSome_iff_exists.1 hu
    have hsh : w.shape? b = some (e, cs.length) := by unfold Blk at hB; simp [World.shape?, hB]
    have h := Lib.run_from_unsafe (P := P) w ⟨b, off, none⟩ hs hd hj hsh hl
    simp [execOp, hx, h]) k
/-- A call of a function of the runtime's own, that has no body. -/
theorem rl_extern {f : FuncId} {fn : Func} {e : Array Value → Sem Value} {ts : Array TypeId} {args : List Operand} {as : List Value} {v : Value} (hf : P.funcs[f]? = some fn) (hname : (fn.name == "runtime.NumGoroutine") = false) (hb : fn.body.isNone = true) (hn : Extern.findNext fn = none) (he : Extern.find fn = some e)
    (hg : want N ops σ g = true) (ha : args.map (ev N σ) = as) (hr : (e as.toArray).run P w = .ok v w')
    (k : RL P N ops Q rest (upd σ d v) w') : RL P N ops Q (⟨some d, .call ⟨.value (.func f), args.toArray, ts⟩, ty, pos, af, g⟩ :: rest) σ w :=
  rl_val hg (by
    subst ha
    have h := run_callFunc_extern (P := P) hf hname hb hn he (args.map (ev N σ)).toArray w
    simp [execOp, resolve, ev, Deferred.ofValue, invoke]
    rw [show (args.map (ev N σ)).toArray = (args.toArray.map (ev N σ)) by simp] at h hr
    simp at h hr
    rw [h, hr]; rfl) k
/-- unsafe.String over a buffer of the call's own. -/
theorem rl_ustring {pt it e b : Nat} {x y : Operand} {v : Value} {l : List UInt8} (hp : P.underlying pt = some (.pointer e)) (hc : P.cellsOf e = 1) (hg : want N ops σ g = true)
    (hown : Own w e 1 v l.length (by8 l) b) (hx0 : ∃ A, ev N σ x = .pointer A) (hx : l ≠ [] → ev N σ x = .pointer (some ⟨b, 0, none⟩)) (hy : ev N σ y = .int .i64 l.length)
    (k : ∀ w', Chg b w w' → w'.heap.size = w.heap.size → RL P N ops Q rest (upd σ d (St l)) w') :
    RL P N ops Q (⟨some d, .call ⟨.builtin .unsafeString, #[x, y], #[pt, it]⟩, ty, pos, af, g⟩ :: rest) σ w := by
  by_cases hl : l = []
  · subst hl
    obtain ⟨A, hA⟩ := hx0
    refine rl_val hg (w' := w) ?_ (k w (Chg.refl _ _) rfl)
    have h := Lib.run_unsafeString_none (P := P) w pt it ty A
    have hy' : ev N σ y = .int .i64 0 := hy
    simp [execOp, resolve, invoke, builtin, hA, hy', h]
    rfl
  · have hA := hx hl
    rcases hown.2 with ⟨_, h0⟩ | ⟨cap, spare, rfl, hnc, hcm, hcs, hB⟩
    · exact absurd (List.eq_nil_of_length_eq_zero h0) hl
    · have hsh : w.shape? b = some (e, (by8 l ++ spare).length) := by unfold Blk at hB; simp [World.shape?, hB]
      have h := Lib.run_unsafeString_row (P := P) w pt it ty e hp hc b _ hsh l hl (by simp [by8_len]) (by have := maxLen_le; omega) (fun j x hj => by
        rw [Addr.add_lit, Nat.zero_add]
        refine hown.cell ?_
        simp [by8, hj])
      have hn : ¬ l.length = 0 := fun h => hl (List.eq_nil_of_length_eq_zero h)
      have hcg : Chg b w (w.freeze ⟨b, 0, none⟩ l.length) ∧ (w.freeze ⟨b, 0, none⟩ l.length).heap.size = w.heap.size := by
        unfold World.freeze
        rw [if_neg hn]
        exact ⟨⟨rfl, rfl, rfl, by simp, fun k hk hne => by simp [Array.getElem?_modify, Ne.symm hne]⟩, by simp⟩
      refine rl_val hg (w' := w.freeze ⟨b, 0, none⟩ l.length) ?_ (k _ hcg.1 hcg.2)
      simp [execOp, resolve, invoke, builtin, hA, hy, h]
end Go.Eng
set_option linter.unusedVariables false
set_option linter.unusedSimpArgs false
namespace Go.Eng
open Go Go.RowKit
variable {P : Program} {N : NN} {Q : Exit → Act → World → Prop} {S : World → Prop} {σ : Env} {w w' : World} {ops rest : List Oper} {r : List (Nat × Bool)}
  {d : Tmp} {ty : TypeId} {pos : String} {af : Array Edge} {g : Option (Nat × Bool)} {io nt : Nat}
/-- copy(x, y), x a block of the call's own, y no longer than x. -/
theorem rl_copy {t t' e sz by_ : Nat} {x y : Operand} {z : Value} {n c m c' b B off : Nat} {a : Option Addr} {cs news : List Value} (hT : SlT P t e sz by_ z) (hg : want N ops σ g = true) (hx : ev N σ x = .slice (some ⟨b, 0, none⟩) n c) (hy : ev N σ y = .slice a m c')
    (ha : 0 < m → a = some ⟨B, off, none⟩) (hl : news.length = m * sz) (hnews : ∀ j u, news[j]? = some u → w.cell? ⟨B, off + j, none⟩ = some u) (h1 : ∀ u ∈ news, u.oneCell' = true) (hmn : m ≤ n) (hB : Blk w b cs t') (hfit : n * sz ≤ cs.length)
    (k : ∀ w', Blk w' b (news ++ cs.drop news.length) t' → Chg b w w' → w'.heap.size = w.heap.size → RL P N ops Q rest (upd σ d (.int .i64 m)) w') :
    RL P N ops Q (⟨some d, .call ⟨.builtin .copy, #[x, y], #[t, t]⟩, ty, pos, af, g⟩ :: rest) σ w := by
  obtain ⟨inf, hi1, hi2, hi3, hi4⟩ := hT.info
  have hmin : Nat.min m n = m := Nat.min_eq_left hmn
  have hms : m * sz ≤ n * sz := Nat.mul_le_mul_right _ hmn
  have hst := run_storeCells_at P b 0 t' news 0 cs.toArray w hB (by simp only [List.size_toArray]; omega) h1
  simp only [Nat.zero_add, List.take_zero, List.nil_append] at hst
  have hf : (Builtin.firstCells sz m (.slice a m c')).run P w = .ok news.toArray w := by
    rcases Nat.eq_zero_or_pos m with rfl | hm
    · have : news = [] := List.eq_nil_of_length_eq_zero (by simpa using hl)
      subst this
      cases a <;> simp [Builtin.firstCells, loadCells, loadCellsFrom]
    · rw [ha hm]
      exact run_firstCells_some (P := P) w sz m ⟨B, off, none⟩ m c' news hl (fun j v hj => by rw [Addr.add_lit]; exact hnews j v hj)
  refine rl_val hg (w' := w.setRow b (news ++ cs.drop news.length).toArray) ?_ (k _ (blk_row hB) (chg_row _ _ _) (by simp))
  simp [execOp, resolve, invoke, builtin, hx, hy, Builtin.copy_, run_underlying hT.und, Builtin.lenOf, hmin, sizeOf, typeInfo, hi1, hi3, hf, goInt]
  rw [hst]
  rfl
end Go.Eng
set_option linter.unusedVariables false
set_option linter.unusedSimpArgs false
namespace Go.Eng
open Go Go.RowKit
/-- An own thing: an object in a block; a slice with the n elements xs (cells), in a block that is nobody else's, or nil. -/
inductive Ent
  | obj (b : Nat) (o : Obj)
  | own (v : Value) (e sz n : Nat) (xs : List Value)
abbrev Ent.blk (b : Nat) (cs : List Value) (t : TypeId) : Ent := .obj b (.cells cs.toArray t (0, 0))
def Ent.here (w : World) : Ent → Option Nat → Prop
  | .obj b o, f => f = some b ∧ w.heap[b]? = some o
  | .own v e sz n xs, f => (f = none ∧ v = .slice none 0 0 ∧ n = 0 ∧ xs = []) ∨ ∃ b, f = some b ∧ Own w e sz v n xs b
structure MemF (w0 w : World) (L : List Ent) (F : List (Option Nat)) (V : Vw) : Prop where
  below : Below w0.heap.size w0 w
  len : L.length = F.length
  all : ∀ (i : Nat) e f, L[i]? = some e → F[i]? = some f → e.here w f
  apart : ∀ (i j : Nat) b, F[i]? = some (some b) → F[j]? = some (some b) → i = j
  low : ∀ (i : Nat) b, F[i]? = some (some b) → w0.heap.size ≤ b ∧ b < w.heap.size
  view : ∀ a v, V a = some v → w.cell? a = some v ∧ ∀ i : Nat, F[i]? ≠ some (some a.block)
def Mem (w0 w : World) (L : List Ent) (V : Vw) : Prop := ∃ F, MemF w0 w L F V
def VLe (V V' : Vw) : Prop := ∀ a v, V a = some v → V' a = some v
theorem VLe.refl (V : Vw) : VLe V V := fun _ _ h => h
theorem VLe.trans {V V' V'' : Vw} (h : VLe V V') (h' : VLe V' V'') : VLe V V'' := fun a v e => h' a v (h a v e)
variable {w0 w w' : World} {L : List Ent} {V : Vw}
theorem Mem.init (w : World) : Mem w w [] w.cell? := ⟨[], Below.refl _ _, rfl, fun i e f h => by simp at h, fun i j b h => by simp at h, fun i b h => by simp at h, fun a v h => ⟨h, fun i h => by simp at h⟩⟩
theorem Mem.below (h : Mem w0 w L V) : Below w0.heap.size w0 w := by obtain ⟨F, h⟩ := h; exact h.below
theorem Mem.view (h : Mem w0 w L V) {a : Addr} {v : Value} (hv : V a = some v) : w.cell? a = some v := by obtain ⟨F, h⟩ := h; exact (h.view a v hv).1
theorem Mem.vle (h : Mem w0 w L V) : VLe V w.cell? := fun a v hv => h.view hv
theorem Mem.le {V' : Vw} (h : Mem w0 w L V) (hv : VLe V' V) : Mem w0 w L V' := by
  obtain ⟨F, h⟩ := h
  exact ⟨F, h.below, h.len, h.all, h.apart, h.low, fun a v e => h.view a v (hv a v e)⟩
theorem Ent.here_keep {e : Ent} {f : Option Nat} (h : e.here w f) (hk : ∀ b, f = some b → w'.heap[b]? = w.heap[b]?) : e.here w' f := by
  cases e with
  | obj b o => exact ⟨h.1, (hk b h.1).trans h.2⟩
  | own v e sz n xs =>
    rcases h with h | ⟨b, hf, h⟩
    · exact .inl h
    · refine .inr ⟨b, hf, h.1, ?_⟩
      rcases h.2 with h1 | ⟨cap, spare, h1, h2, h3, h4, h5⟩
      · exact .inl h1
      · refine .inr ⟨cap, spare, h1, h2, h3, h4, ?_⟩
        unfold Blk at h5 ⊢
        rw [hk b hf]; exact h5
theorem getF {L : List Ent} {F : List (Option Nat)} {i : Nat} {e : Ent} (hl : L.length = F.length) (hi : L[i]? = some e) : ∃ f, F[i]? = some f := by
  have := (List.getElem?_eq_some_iff.1 hi).1
  exact ⟨F[i]'(by omega), by simp⟩
/-- Nothing that was there has turned. -/
theorem Mem.ext (h : Mem w0 w L V) (hb : Below w.heap.size w w') : Mem w0 w' L V := by
  obtain ⟨F, h⟩ := h
  have hs := hb.size
  refine ⟨F, below_ext h.below hb h.below.size, h.len, fun i e f h1 h2 => ?_, h.apart, fun i b h1 => ⟨(h.low i b h1).1, by have := (h.low i b h1).2; omega⟩, fun a v hv => ⟨cell_ext (h.view a v hv).1 hb, (h.view a v hv).2⟩⟩
  refine Ent.here_keep (h.all i e f h1 h2) fun b hf => ?_
  subst hf
  exact hb.block b (h.low i b h2).2
/-- A new thing ahead. -/
theorem Mem.push {e : Ent} {f : Option Nat} (h : Mem w0 w L V) (hb : Below w.heap.size w w') (he : e.here w' f) (hf : ∀ b, f = some b → w.heap.size ≤ b ∧ b < w'.heap.size) : Mem w0 w' (e :: L) V := by
  obtain ⟨F, h⟩ := h
  have hs := hb.size
  have h0 := h.below.size
  have hnew : ∀ (i : Nat) b, F[i]? = some (some b) → f ≠ some b := fun i b h1 h2 => by
    have := (h.low i b h1).2
    have := (hf b h2).1
    omega
  obtain ⟨F', h'⟩ := Mem.ext (⟨F, h⟩ : Mem w0 w L V) hb
  refine ⟨f :: F, below_ext h.below hb h0, by simp [h.len], fun i e' f' h1 h2 => ?_, fun i j b h1 h2 => ?_, fun i b h1 => ?_, fun a v hv => ⟨cell_ext (h.view a v hv).1 hb, fun i h1 => ?_⟩⟩
  · cases i with
    | zero => simp at h1 h2; subst h1; subst h2; exact he
    | succ i =>
      simp at h1 h2
      refine Ent.here_keep (h.all i e' f' h1 h2) fun b hf' => ?_
      subst hf'
      exact hb.block b (h.low i b h2).2
  · cases i with
    | zero =>
      cases j with
      | zero => rfl
      | succ j => simp at h1 h2; exact absurd h1 (hnew j b h2)
    | succ i =>
      cases j with
      | zero => simp at h1 h2; exact absurd h2 (hnew i b h1)
      | succ j => simp at h1 h2; rw [h.apart i j b h1 h2]
  · cases i with
    | zero => simp at h1; have := hf b h1; omega
    | succ i => simp at h1; have := h.low i b h1; omega
  · cases i with
    | zero =>
      simp at h1
      have h2 := (hf _ h1).1
      have h3 := cell_lt (h.view a v hv).1
      omega
    | succ i => simp at h1; exact (h.view a v hv).2 i h1
theorem Mem.newOwn (h : Mem w0 w L V) (e sz : Nat) : Mem w0 w (.own (.slice none 0 0) e sz 0 [] :: L) V :=
  h.push (f := none) (Below.refl _ _) (.inl ⟨rfl, rfl, rfl, rfl⟩) (fun b h => by cases h)
theorem Mem.newObj {o : Obj} (h : Mem w0 w L V) : Mem w0 (w.alloc o) (.obj w.heap.size o :: L) V :=
  h.push (f := some w.heap.size) (ext_alloc _ _) ⟨rfl, heap_alloc_new w o⟩ (fun b h => by cases h; simp)
theorem Mem.newBlk {cs : List Value} {t : TypeId} (h : Mem w0 w L V) (hb : Below w.heap.size w w') (hB : Blk w' w.heap.size cs t) : Mem w0 w' (.blk w.heap.size cs t :: L) V :=
  h.push (f := some w.heap.size) hb ⟨rfl, by unfold Blk at hB; exact hB⟩ (fun b h => by cases h; exact ⟨Nat.le_refl _, hB.lt⟩)
/-- Thing i has turned. -/
theorem Mem.put {i : Nat} {e e' : Ent} {F : List (Option Nat)} {f f' : Option Nat} (h : MemF w0 w L F V) (hi : L[i]? = some e) (hf : F[i]? = some f) (ho : w'.os = w.os ∧ w'.tape = w.tape ∧ w'.output = w.output) (hs : w.heap.size ≤ w'.heap.size)
    (hk : ∀ k, k < w.heap.size → f ≠ some k → w'.heap[k]? = w.heap[k]?) (he : e'.here w' f') (hf' : f' = f ∨ f' = none ∨ ∃ b, f' = some b ∧ w.heap.size ≤ b ∧ b < w'.heap.size) : MemF w0 w' (L.set i e') (F.set i f') V := by
  have h0 := h.below.size
  have hil := (List.getElem?_eq_some_iff.1 hf).1
  have hnew : ∀ (j : Nat) b, j ≠ i → F[j]? = some (some b) → f' ≠ some b := fun j b hj h1 h2 => by
    have h3 := (h.low j b h1).2
    rcases hf' with rfl | rfl | ⟨c, rfl, h4, h5⟩
    · subst h2; exact hj (h.apart j i b h1 hf)
    · cases h2
    · cases h2; omega
  refine ⟨?_, by simp [h.len], fun j e2 f2 h1 h2 => ?_, fun j k b h1 h2 => ?_, fun j b h1 => ?_, fun a v hv => ⟨?_, fun j h1 => ?_⟩⟩
  · refine h.below.trans ⟨ho.1, ho.2.1, ho.2.2, by omega, fun k hk1 => hk k (by omega) fun hfk => ?_⟩
    subst hfk
    have := (h.low i k hf).1
    omega
  · by_cases hij : i = j
    · subst hij
      rw [List.getElem?_set_self (by have := h.len; omega)] at h1
      rw [List.getElem?_set_self hil] at h2
      cases h1; cases h2
      exact he
    · rw [List.getElem?_set_ne hij] at h1 h2
      refine Ent.here_keep (h.all j e2 f2 h1 h2) fun b hb => ?_
      subst hb
      refine hk b (h.low j b h2).2 fun hfb => ?_
      subst hfb
      exact hij (h.apart i j b hf h2)
  · by_cases hij : i = j
    · by_cases hik : i = k
      · omega
      · subst hij
        rw [List.getElem?_set_self hil] at h1
        rw [List.getElem?_set_ne hik] at h2
        cases h1
        exact absurd rfl (hnew k b (Ne.symm hik) h2)
    · by_cases hik : i = k
      · subst hik
        rw [List.getElem?_set_self hil] at h2
        rw [List.getElem?_set_ne hij] at h1
        cases h2
        exact absurd rfl (hnew j b (Ne.symm hij) h1)
      · rw [List.getElem?_set_ne hij] at h1
        rw [List.getElem?_set_ne hik] at h2
        exact h.apart j k b h1 h2
  · by_cases hij : i = j
    · subst hij
      rw [List.getElem?_set_self hil] at h1
      cases h1
      rcases hf' with h4 | h4 | ⟨c, h4, h5, h6⟩
      · subst h4; have := h.low i b hf; omega
      · cases h4
      · cases h4; omega
    · rw [List.getElem?_set_ne hij] at h1
      have := h.low j b h1; omega
  · have hlt := cell_lt (h.view a v hv).1
    rw [World.cell?_of_block (hk a.block hlt fun hfa => (h.view a v hv).2 i (by rw [hf, hfa]))]
    exact (h.view a v hv).1
  · by_cases hij : i = j
    · subst hij
      rw [List.getElem?_set_self hil] at h1
      cases h1
      have hlt := cell_lt (h.view a v hv).1
      rcases hf' with h4 | h4 | ⟨c, h4, h5, h6⟩
      · exact (h.view a v hv).2 i (by rw [hf, ← h4])
      · cases h4
      · simp only [Option.some.injEq] at h4; omega
    · rw [List.getElem?_set_ne hij] at h1
      exact (h.view a v hv).2 j h1
theorem Mem.getObj {i b : Nat} {o : Obj} (h : Mem w0 w L V) (hi : L[i]? = some (.obj b o)) : w.heap[b]? = some o := by
  obtain ⟨F, h⟩ := h
  obtain ⟨f, hf⟩ := getF h.len hi
  exact (h.all i _ f hi hf).2
theorem Mem.get {i b : Nat} {cs : List Value} {t : TypeId} (h : Mem w0 w L V) (hi : L[i]? = some (.blk b cs t)) : Blk w b cs t := by
  unfold Blk; exact h.getObj hi
theorem Mem.cell {i b o : Nat} {cs : List Value} {t : TypeId} {v : Value} (h : Mem w0 w L V) (hi : L[i]? = some (.blk b cs t)) (ho : cs[o]? = some v) : w.cell? ⟨b, o, none⟩ = some v := (h.get hi).cell_some ho
theorem Mem.setObj {i b : Nat} {o o' : Obj} (h : Mem w0 w L V) (hi : L[i]? = some (.obj b o)) (hc : Chg b w w') (hB : w'.heap[b]? = some o') : Mem w0 w' (L.set i (.obj b o')) V := by
  obtain ⟨F, h⟩ := h
  obtain ⟨f, hf⟩ := getF h.len hi
  have hh := h.all i _ f hi hf
  exact ⟨_, Mem.put h hi hf ⟨hc.os, hc.tape, hc.output⟩ hc.size (fun k hk hne => hc.block k hk (fun e => hne (by rw [hh.1, e]))) ⟨hh.1, hB⟩ (.inl rfl)⟩
theorem Mem.set {i b : Nat} {cs cs' : List Value} {t : TypeId} (h : Mem w0 w L V) (hi : L[i]? = some (.blk b cs t)) (hc : Chg b w w') (hB : Blk w' b cs' t) : Mem w0 w' (L.set i (.blk b cs' t)) V :=
  h.setObj hi hc (by unfold Blk at hB; exact hB)
/-- A slice of the call's own, and the block that may be written. -/
theorem Mem.own {i : Nat} {v : Value} {e sz n : Nat} {xs : List Value} (h : Mem w0 w L V) (hi : L[i]? = some (.own v e sz n xs)) :
    ∃ b, Own w e sz v n xs b ∧ ∀ (w' : World) (v' : Value) (n' : Nat) (xs' : List Value) (b' : Nat), Own w' e sz v' n' xs' b' → (b' = b ∨ w.heap.size ≤ b') → Chg b w w' → Mem w0 w' (L.set i (.own v' e sz n' xs')) V := by
  obtain ⟨F, h⟩ := h
  obtain ⟨f, hf⟩ := getF h.len hi
  have new : ∀ (w' : World) (v' : Value) (n' : Nat) (xs' : List Value) (b' : Nat), Own w' e sz v' n' xs' b' → ∃ f', Ent.here w' (.own v' e sz n' xs') f' ∧ (f' = none ∨ (f' = some b' ∧ b' < w'.heap.size)) := by
    intro w' v' n' xs' b' hO
    rcases hO.nil_or with ⟨h1, h2, h3⟩ | hlt
    · exact ⟨none, .inl ⟨rfl, h1, h2, h3⟩, .inl rfl⟩
    · exact ⟨some b', .inr ⟨b', rfl, hO⟩, .inr ⟨rfl, hlt⟩⟩
  rcases h.all i _ f hi hf with ⟨rfl, rfl, rfl, rfl⟩ | ⟨b, rfl, hO⟩
  · refine ⟨w.heap.size, Own.nil _ _ _ _, fun w' v' n' xs' b' hO hb' hc => ?_⟩
    obtain ⟨f', h1, h2⟩ := new w' v' n' xs' b' hO
    refine ⟨_, Mem.put h hi hf ⟨hc.os, hc.tape, hc.output⟩ hc.size (fun k hk _ => hc.block k hk (by omega)) h1 ?_⟩
    rcases h2 with rfl | ⟨rfl, h3⟩
    · exact .inl rfl
    · exact .inr (.inr ⟨b', rfl, by omega, h3⟩)
  · refine ⟨b, hO, fun w' v' n' xs' b' hO' hb' hc => ?_⟩
    obtain ⟨f', h1, h2⟩ := new w' v' n' xs' b' hO'
    refine ⟨_, Mem.put h hi hf ⟨hc.os, hc.tape, hc.output⟩ hc.size (fun k hk hne => hc.block k hk (fun e => hne (by rw [e]))) h1 ?_⟩
    rcases h2 with rfl | ⟨rfl, h3⟩
    · exact .inr (.inl rfl)
    · rcases hb' with rfl | hb'
      · exact .inl rfl
      · exact .inr (.inr ⟨b', rfl, hb', h3⟩)
/-- Fewer things, in another row. -/
theorem Mem.pick {L' : List Ent} (g : Nat → Nat) (h : Mem w0 w L V) (hg : ∀ (i : Nat) e, L'[i]? = some e → L[g i]? = some e) (hinj : ∀ i j : Nat, i < L'.length → j < L'.length → g i = g j → i = j) : Mem w0 w L' V := by
  obtain ⟨F, h⟩ := h
  have hF : ∀ (i : Nat) f, ((List.range L'.length).map fun i => (F[g i]?).getD none)[i]? = some f → i < L'.length ∧ ∃ e, L'[i]? = some e ∧ F[g i]? = some f := by
    intro i f hf
    rw [List.getElem?_map, Option.map_eq_some_iff] at hf
    obtain ⟨k, hk, rfl⟩ := hf
    obtain ⟨hlt, he⟩ := List.getElem?_eq_some_iff.1 hk
    rw [List.length_range] at hlt
    rw [List.getElem_range] at he
    subst he
    have h1 := hg i _ (List.getElem?_eq_getElem hlt)
    obtain ⟨f, hf⟩ := getF h.len h1
    exact ⟨hlt, _, List.getElem?_eq_getElem hlt, by simp [hf]⟩
  refine ⟨(List.range L'.length).map fun i => (F[g i]?).getD none, h.below, by simp, fun i e f h1 h2 => ?_, fun i j b h1 h2 => ?_, fun i b h1 => ?_, fun a v hv => ⟨(h.view a v hv).1, fun i h1 => ?_⟩⟩
  · obtain ⟨hl, e', he, hf⟩ := hF i f h2
    rw [h1] at he; cases he
    exact h.all _ _ _ (hg i e h1) hf
  · obtain ⟨hl, e', he, hf⟩ := hF i _ h1
    obtain ⟨hl2, e2, he2, hf2⟩ := hF j _ h2
    exact hinj i j hl hl2 (h.apart _ _ b hf hf2)
  · obtain ⟨hl, e', he, hf⟩ := hF i _ h1
    exact h.low _ b hf
  · obtain ⟨hl, e', he, hf⟩ := hF i _ h1
    exact (h.view a v hv).2 _ hf
theorem Mem.dropn (n : Nat) (h : Mem w0 w L V) : Mem w0 w (L.drop n) V :=
  h.pick (fun i => n + i) (fun i e hi => by rwa [List.getElem?_drop] at hi) (fun i j _ _ h => by omega)
theorem Mem.erase (n : Nat) (h : Mem w0 w L V) : Mem w0 w (L.eraseIdx n) V :=
  h.pick (fun i => if i < n then i else i + 1) (fun i e hi => by
    rw [List.getElem?_eraseIdx] at hi
    split <;> rename_i hc
    · rwa [if_pos hc] at hi
    · rwa [if_neg hc] at hi) (fun i j _ _ h => by split at h <;> split at h <;> omega)
theorem Mem.front (n : Nat) {e : Ent} (h : Mem w0 w L V) (he : L[n]? = some e) : Mem w0 w (e :: L.eraseIdx n) V := by
  have hn := (List.getElem?_eq_some_iff.1 he).1
  refine h.pick (fun i => match i with | 0 => n | i + 1 => if i < n then i else i + 1) (fun i e' hi => ?_) (fun i j _ _ h => ?_)
  · cases i with
    | zero => simp at hi; subst hi; exact he
    | succ i =>
      simp only [List.getElem?_cons_succ] at hi
      rw [List.getElem?_eraseIdx] at hi
      show L[if i < n then i else i + 1]? = some e'
      split <;> rename_i hc
      · rwa [if_pos hc] at hi
      · rwa [if_neg hc] at hi
  · cases i with
    | zero =>
      cases j with
      | zero => rfl
      | succ j => simp only at h; split at h <;> omega
    | succ i =>
      cases j with
      | zero => simp only at h; split at h <;> omega
      | succ j => simp only at h; split at h <;> split at h <;> omega
/-! ## What is built may be read from then on -/
def vblk (V : Vw) (w : World) (b : Nat) : Vw := fun a => if a.block = b then w.cell? a else V a
theorem Mem.freezeAt {e : Ent} {F : List (Option Nat)} {b : Nat} (h : MemF w0 w (e :: L) F V) (hf : F[0]? = some (some b)) : Mem w0 w L (vblk V w b) ∧ VLe V (vblk V w b) := by
  refine ⟨⟨F.drop 1, h.below, ?_, fun i e f h1 h2 => ?_, fun i j c h1 h2 => ?_, fun i c h1 => ?_, fun a v hv => ?_⟩, fun a v hv => ?_⟩
  · have := h.len; simp at this ⊢; omega
  · rw [List.getElem?_drop] at h2
    exact h.all (i + 1) e f (by simpa using h1) (by rwa [Nat.add_comm] at h2)
  · rw [List.getElem?_drop] at h1 h2
    have := h.apart _ _ c h1 h2
    omega
  · rw [List.getElem?_drop] at h1
    exact h.low _ c h1
  · unfold vblk at hv
    split at hv
    · rename_i hab
      refine ⟨hv, fun i h1 => ?_⟩
      rw [List.getElem?_drop, hab] at h1
      have := h.apart _ _ b h1 hf
      omega
    · exact ⟨(h.view a v hv).1, fun i h1 => by rw [List.getElem?_drop] at h1; exact (h.view a v hv).2 _ h1⟩
  · unfold vblk
    split
    · exact (h.view a v hv).1
    · exact hv
theorem Mem.freezeBlk {b : Nat} {cs : List Value} {t : TypeId} (h : Mem w0 w (.blk b cs t :: L) V) : ∃ V', VLe V V' ∧ Mem w0 w L V' ∧ ∀ i v, cs[i]? = some v → V' ⟨b, i, none⟩ = some v := by
  have hB := h.get (i := 0) rfl
  obtain ⟨F, h⟩ := h
  obtain ⟨f, hf⟩ := getF h.len (i := 0) rfl
  have hh := h.all 0 _ f rfl hf
  have h1 := hh.1
  subst h1
  obtain ⟨h2, h3⟩ := Mem.freezeAt h hf
  exact ⟨_, h3, h2, fun i v hi => by unfold vblk; rw [if_pos rfl]; exact hB.cell_some hi⟩
theorem Mem.freezeOwn {v : Value} {e sz n : Nat} {xs : List Value} (h : Mem w0 w (.own v e sz n xs :: L) V) :
    ∃ V', VLe V V' ∧ Mem w0 w L V' ∧ ∃ a c b, v = .slice a n c ∧ n ≤ c ∧ c ≤ maxLen ∧ (0 < n → a = some ⟨b, 0, none⟩) ∧ ∀ (i : Nat) u, xs[i]? = some u → V' ⟨b, 0 + i, none⟩ = some u := by
  obtain ⟨F, h⟩ := h
  obtain ⟨f, hf⟩ := getF h.len (i := 0) rfl
  rcases h.all 0 _ f rfl hf with ⟨rfl, rfl, rfl, rfl⟩ | ⟨b, rfl, hO⟩
  · exact ⟨V, VLe.refl _, Mem.dropn 1 ⟨F, h⟩, none, 0, 0, rfl, Nat.le_refl _, Nat.zero_le _, fun h => absurd h (by omega), fun i u h => by simp at h⟩
  · obtain ⟨h2, h3⟩ := Mem.freezeAt h hf
    obtain ⟨a, c, e1, e2, e3, e4⟩ := hO.shape
    exact ⟨_, h3, h2, a, c, b, e1, e2, e3, e4, fun i u hi => by unfold vblk; rw [if_pos rfl, Nat.zero_add]; exact hO.cell hi⟩
theorem Mem.ownShape {i : Nat} {v : Value} {e sz n : Nat} {xs : List Value} (h : Mem w0 w L V) (hi : L[i]? = some (.own v e sz n xs)) : ∃ a c, v = .slice a n c ∧ n ≤ c ∧ c ≤ maxLen := by
  obtain ⟨b, hO, _⟩ := h.own hi
  obtain ⟨a, c, h1, h2, h3, _⟩ := hO.shape
  exact ⟨a, c, h1, h2, h3⟩
end Go.Eng
set_option linter.unusedVariables false
set_option linter.unusedSimpArgs false
namespace Go.Eng
open Go Go.RowKit
variable {P : Program} {N : NN} {Q : Exit → Act → World → Prop} {S : World → Prop} {σ : Env} {w0 w w' : World} {ops rest : List Oper} {r : List (Nat × Bool)}
  {d : Tmp} {ty : TypeId} {pos : String} {af : Array Edge} {g : Option (Nat × Bool)} {io nt : Nat} {L : List Ent} {V : Vw}
/-- From place o of block b on stand these cells. -/
def VRow (V : Vw) (b o : Nat) (vs : List Value) : Prop := ∀ (j : Nat) u, vs[j]? = some u → V ⟨b, o + j, none⟩ = some u
theorem VRow.get {b o j : Nat} {vs : List Value} {u : Value} (h : VRow V b o vs) (hj : vs[j]? = some u) : V ⟨b, o + j, none⟩ = some u := h j u hj
theorem VRow.get0 {b o : Nat} {vs : List Value} {u : Value} (h : VRow V b o vs) (hj : vs[0]? = some u) : V ⟨b, o, none⟩ = some u := h 0 u hj
theorem VRow.le {V' : Vw} {b o : Nat} {vs : List Value} (h : VRow V b o vs) (hv : VLe V V') : VRow V' b o vs := fun j u hj => hv _ _ (h j u hj)
theorem VRow.one {b o : Nat} {u : Value} (h : V ⟨b, o, none⟩ = some u) : VRow V b o [u] := fun j v hj => by
  match j, hj with
  | 0, hj => simp at hj; subst hj; exact h
theorem VRow.two {b o : Nat} {u v : Value} (h : V ⟨b, o, none⟩ = some u) (h1 : V ⟨b, o + 1, none⟩ = some v) : VRow V b o [u, v] := fun j s hj => by
  match j, hj with
  | 0, hj => simp at hj; subst hj; exact h
  | 1, hj => simp at hj; subst hj; exact h1
theorem VRow.three {b o : Nat} {u v s : Value} (h : V ⟨b, o, none⟩ = some u) (h1 : V ⟨b, o + 1, none⟩ = some v) (h2 : V ⟨b, o + 2, none⟩ = some s) : VRow V b o [u, v, s] := fun j q hj => by
  match j, hj with
  | 0, hj => simp at hj; subst hj; exact h
  | 1, hj => simp at hj; subst hj; exact h1
  | 2, hj => simp at hj; subst hj; exact h2
theorem Mem.row {i b : Nat} {cs : List Value} {t : TypeId} (h : Mem w0 w L V) (hi : L[i]? = some (.blk b cs t)) : ∀ (j : Nat) u, cs[j]? = some u → w.cell? ⟨b, 0 + j, none⟩ = some u :=
  fun j u hj => by rw [Nat.zero_add]; exact h.cell hi hj
theorem isInts_of {a : Option Addr} {n c b off : Nat} {xs : List Int} (hn : n = xs.length) (h2 : xs.length ≤ c) (h3 : c ≤ maxLen) (h4 : 0 < xs.length → a = some ⟨b, off, none⟩)
    (h5 : ∀ (i : Nat) u, (xs.map (Value.int .i64))[i]? = some u → V ⟨b, off + i, none⟩ = some u) (h6 : ∀ x ∈ xs, I64 x) : IsInts V (.slice a n c) xs := by
  subst hn
  exact ⟨⟨a, c, b, off, by simp, by simpa using h2, h3, by simpa using h4, h5⟩, h6⟩
theorem IsInts.le {V' : Vw} {v : Value} {xs : List Int} (h : IsInts V v xs) (hv : VLe V V') : IsInts V' v xs := h.mono hv
theorem IsRows.le {V' : Vw} {v : Value} {xs : List (List Int)} (h : IsRows V v xs) (hv : VLe V V') : IsRows V' v xs := h.mono hv
/-! ## Loads -/
theorem rl_loadV {t : TypeId} {x : Operand} {A : Addr} {v : Value} (hM : Mem w0 w L V) (hT : VarT P t) (hg : want N ops σ g = true) (hx : ev N σ x = .pointer (some A)) (hc : V A = some v)
    (k : RL P N ops Q rest (upd σ d v) w) : RL P N ops Q (⟨some d, .load t x, ty, pos, af, g⟩ :: rest) σ w := rl_load hT hg hx (hM.view hc) k
theorem rl_loadM {t t' : TypeId} {x : Operand} {b o : Nat} {cs : List Value} {v : Value} (i : Nat) (hM : Mem w0 w L V) (hT : VarT P t) (hg : want N ops σ g = true) (hx : ev N σ x = .pointer (some ⟨b, o, none⟩)) (hi : L[i]? = some (.blk b cs t')) (hc : cs[o]? = some v)
    (k : RL P N ops Q rest (upd σ d v) w) : RL P N ops Q (⟨some d, .load t x, ty, pos, af, g⟩ :: rest) σ w := rl_load hT hg hx (hM.cell hi hc) k
theorem rl_loadAV {t n : Nat} {zs vs : List Value} {x : Operand} {b o : Nat} (hM : Mem w0 w L V) (hA : AgT P t n zs) (hg : want N ops σ g = true) (hx : ev N σ x = .pointer (some ⟨b, o, none⟩)) (hc : VRow V b o vs) (hl : vs.length = n)
    (k : RL P N ops Q rest (upd σ d (.agg vs.toArray)) w) : RL P N ops Q (⟨some d, .load t x, ty, pos, af, g⟩ :: rest) σ w :=
  rl_loadA vs hA hg hx hl (fun j u hj => hM.view (hc j u hj)) k
theorem rl_loadAM {t t' n : Nat} {zs vs cs : List Value} {x : Operand} {b o : Nat} (i : Nat) (hM : Mem w0 w L V) (hA : AgT P t n zs) (hg : want N ops σ g = true) (hx : ev N σ x = .pointer (some ⟨b, o, none⟩)) (hi : L[i]? = some (.blk b cs t')) (hc : (cs.drop o).take n = vs) (hl : vs.length = n)
    (k : RL P N ops Q rest (upd σ d (.agg vs.toArray)) w) : RL P N ops Q (⟨some d, .load t x, ty, pos, af, g⟩ :: rest) σ w :=
  rl_loadA vs hA hg hx hl (fun j u hj => hM.cell hi (by
    subst hc
    rw [List.getElem?_take] at hj
    split at hj
    · rwa [List.getElem?_drop] at hj
    · cases hj)) k
/-! ## Stores -/
theorem rl_storeM {t t' : TypeId} {x y : Operand} {b o : Nat} {v : Value} {cs : List Value} (i : Nat) (hM : Mem w0 w L V) (hT : VarT P t) (hg : want N ops σ g = true) (hx : ev N σ x = .pointer (some ⟨b, o, none⟩)) (hy : ev N σ y = v) (h1 : v.oneCell' = true)
    (hi : L[i]? = some (.blk b cs t')) (ho : o < cs.length)
    (k : ∀ w', Mem w0 w' (L.set i (.blk b (cs.set o v) t')) V → RL P N ops Q rest σ w') : RL P N ops Q (⟨none, .store t x y, ty, pos, af, g⟩ :: rest) σ w :=
  rl_store hT hg hx hy h1 (hM.get hi) ho (fun w' hB hc _ => k w' (hM.set hi hc hB))
theorem rl_storeAM {t t' n : Nat} {zs vs cs : List Value} {x y : Operand} {b o : Nat} (i : Nat) (hM : Mem w0 w L V) (hA : AgT P t n zs) (hg : want N ops σ g = true) (hx : ev N σ x = .pointer (some ⟨b, o, none⟩)) (hy : ev N σ y = .agg vs.toArray) (hl : vs.length = n) (h1 : vs.all (·.oneCell') = true)
    (hi : L[i]? = some (.blk b cs t')) (ho : o + n ≤ cs.length)
    (k : ∀ w', Mem w0 w' (L.set i (.blk b (cs.take o ++ vs ++ cs.drop (o + vs.length)) t')) V → RL P N ops Q rest σ w') : RL P N ops Q (⟨none, .store t x y, ty, pos, af, g⟩ :: rest) σ w :=
  rl_storeA hA hg hx hy hl (by simpa using h1) (hM.get hi) ho (fun w' hB hc _ => k w' (hM.set hi hc hB))
/-- .. over the whole block. -/
theorem rl_storeWM {t t' n : Nat} {zs vs cs : List Value} {x y : Operand} {b : Nat} (i : Nat) (hM : Mem w0 w L V) (hA : AgT P t n zs) (hg : want N ops σ g = true) (hx : ev N σ x = .pointer (some ⟨b, 0, none⟩)) (hy : ev N σ y = .agg vs.toArray) (hl : vs.length = n) (h1 : vs.all (·.oneCell') = true)
    (hi : L[i]? = some (.blk b cs t')) (ho : cs.length = n)
    (k : ∀ w', Mem w0 w' (L.set i (.blk b vs t')) V → RL P N ops Q rest σ w') : RL P N ops Q (⟨none, .store t x y, ty, pos, af, g⟩ :: rest) σ w :=
  rl_storeW hA hg hx hy hl h1 (hM.get hi) ho (fun w' hB hc _ => k w' (hM.set hi hc hB))
/-! ## New memory -/
theorem rl_allocM {t : TypeId} {z : Value} (hM : Mem w0 w L V) (hz : (P.info? t).map (·.zero) = some (some z)) (h1 : z.oneCell' = true) (hg : want N ops σ g = true)
    (k : ∀ w' b, Mem w0 w' (.blk b [z] t :: L) V → RL P N ops Q rest (upd σ d (.pointer (some ⟨b, 0, none⟩))) w') : RL P N ops Q (⟨some d, .alloc t, ty, pos, af, g⟩ :: rest) σ w :=
  rl_alloc hz h1 hg (fun w' hB hb _ => k w' _ (hM.newBlk hb hB))
theorem rl_allocAM {t n : Nat} {zs : List Value} (hM : Mem w0 w L V) (hA : AgT P t n zs) (hg : want N ops σ g = true)
    (k : ∀ w' b, Mem w0 w' (.blk b zs t :: L) V → RL P N ops Q rest (upd σ d (.pointer (some ⟨b, 0, none⟩))) w') : RL P N ops Q (⟨some d, .alloc t, ty, pos, af, g⟩ :: rest) σ w :=
  rl_allocA hA hg (fun w' hB hb _ => k w' _ (hM.newBlk hb hB))
theorem rl_boxM {t : TypeId} {x : Operand} {v : Value} (hM : Mem w0 w L V) (hg : want N ops σ g = true) (hx : ev N σ x = v) (hv : v.oneCell' = true)
    (k : ∀ w' b, Mem w0 w' (.blk b [v] t :: L) V → RL P N ops Q rest (upd σ d (.pointer (some ⟨b, 0, none⟩))) w') : RL P N ops Q (⟨some d, .box t x, ty, pos, af, g⟩ :: rest) σ w :=
  rl_box hg hx hv (fun w' hB hb _ => k w' _ (hM.newBlk hb hB))
theorem rl_boxAM {t : TypeId} {x : Operand} {vs : List Value} (hM : Mem w0 w L V) (hg : want N ops σ g = true) (hx : ev N σ x = .agg vs.toArray)
    (k : ∀ w' b, Mem w0 w' (.blk b vs t :: L) V → RL P N ops Q rest (upd σ d (.pointer (some ⟨b, 0, none⟩))) w') : RL P N ops Q (⟨some d, .box t x, ty, pos, af, g⟩ :: rest) σ w :=
  rl_boxA hg hx (fun w' hB hb _ => k w' _ (hM.newBlk hb hB))
theorem rl_bsliceM {t e sz by_ n : Nat} {z : Value} {ps : List (Nat × Operand)} (vs : List Value) (hM : Mem w0 w L V) (hT : SlT P t e sz by_ z) (hz : z.cells.size = sz) (hg : want N ops σ g = true)
    (hv : ps.map (fun p => (p.1, ev N σ p.2)) = vs.zipIdx.map fun p => (p.2, p.1)) (hs : vs.all (fun v => v.cells.size == sz) = true) (hn : vs.length = n) (hb : n * sz ≤ 16777216) (h0 : 0 < n * sz)
    (k : ∀ w' b, Mem w0 w' (.blk b (vs.flatMap (·.cells.toList)) e :: L) V → RL P N ops Q rest (upd σ d (.slice (some ⟨b, 0, none⟩) n n)) w') : RL P N ops Q (⟨some d, .buildSlice t n ps.toArray, ty, pos, af, g⟩ :: rest) σ w :=
  rl_bsliceN vs hT hz hg hv hs hn hb h0 (fun w' hB hb _ => k w' _ (hM.newBlk hb hB))
theorem rl_bslice0M {t e sz by_ : Nat} {z : Value} (hM : Mem w0 w L V) (hT : SlT P t e sz by_ z) (hg : want N ops σ g = true)
    (k : ∀ w' b, Mem w0 w' (.blk b [] e :: L) V → RL P N ops Q rest (upd σ d (.slice (some ⟨b, 0, none⟩) 0 0)) w') : RL P N ops Q (⟨some d, .buildSlice t 0 #[], ty, pos, af, g⟩ :: rest) σ w :=
  rl_bslice0 hT hg (fun w' hB hb _ => k w' _ (hM.newBlk hb hB))
theorem made_mapA (n : Nat) (z0 : Value) (cs : Array Value) (h : cs = #[z0]) : ((Array.range (n * 1)).map fun i => cs[i % cs.size]!) = (List.replicate n z0).toArray := by
  subst h; exact made_map n z0
/-- make: elements of one cell each, z0 where nothing is said. -/
theorem rl_makeM {t : TypeId} {x : Operand} {n : Int} {e by_ : Nat} {z z0 : Value} (hM : Mem w0 w L V) (hT : SlT P t e 1 by_ z) (hz : z.cells = #[z0]) (hg : want N ops σ g = true) (hx : ev N σ x = .int .i64 n)
    (h0 : 0 ≤ n) (h1 : n ≤ 1000000000) (h2 : by_ ≤ 1000)
    (k : ∀ w' b, Mem w0 w' (.blk b (List.replicate n.toNat z0) e :: L) V → RL P N ops Q rest (upd σ d (.slice (some ⟨b, 0, none⟩) n.toNat n.toNat)) w') : RL P N ops Q (⟨some d, .makeSlice t x x, ty, pos, af, g⟩ :: rest) σ w := by
  obtain ⟨inf, hi1, hi2, hi3, hi4⟩ := hT.info
  refine rl_val hg ?_ (k (w.alloc (.cells (List.replicate n.toNat z0).toArray e)) _ (hM.newBlk (ext_alloc _ _) (blk_alloc _ _ _)))
  have hw : IntKind.i64.wrap n = n := wrap_id (by omega) (by omega)
  have hm : (by_ : Int) * n ≤ 1000 * 1000000000 := Int.mul_le_mul (by omega) h1 h0 (by omega)
  have hbig : ¬ (281474976710656 < (by_ : Int) * n) := by omega
  have hn0 : ¬ n < 0 := by omega
  by_cases hn : n.toNat = 0
  · have : n = 0 := by omega
    subst this
    simp [execOp, hx, Instr.makeSlice, asInt, asIntOf, run_underlying hT.und, typeInfo, hi1, hi4, hw, sizeOf, hi3, newRow]
    rw [map_range0]
  · simp [execOp, hx, Instr.makeSlice, asInt, asIntOf, run_underlying hT.und, typeInfo, hi1, hi4, hw, sizeOf, hi3, newRow, hbig, hn0, hn, zeroValue, hi2]
    have := made_mapA n.toNat z0 z.cells hz
    simp at this
    rw [this]
/-! ## Appends -/
theorem rl_appendM {t e sz by_ : Nat} {x y : Operand} {z v : Value} {n m c : Nat} {xs news : List Value} {a : Option Addr} {B off : Nat} (i : Nat) (hM : Mem w0 w L V) (hT : SlT P t e sz by_ z) (hzc : z.cells.size = sz) (hsz : 0 < sz)
    (hi : L[i]? = some (.own v e sz n xs)) (hnews : ∀ j u, news[j]? = some u → w.cell? ⟨B, off + j, none⟩ = some u) (hg : want N ops σ g = true) (hx : ev N σ x = v) (hy : ev N σ y = .slice a m c)
    (ha : 0 < m → a = some ⟨B, off, none⟩) (hl : news.length = m * sz) (h1 : ∀ u ∈ news, u.oneCell' = true)
    (h63 : n + m ≤ maxLen) (hby : (n + m) * by_ ≤ 140737488355328)
    (k : ∀ w' a' c', n + m ≤ c' → c' ≤ maxLen → Mem w0 w' (L.set i (.own (.slice a' (n + m) c') e sz (n + m) (xs ++ news))) V → RL P N ops Q rest (upd σ d (.slice a' (n + m) c')) w') :
    RL P N ops Q (⟨some d, .call ⟨.builtin .append, #[x, y], #[t, t]⟩, ty, pos, af, g⟩ :: rest) σ w := by
  obtain ⟨b, hO, hput⟩ := hM.own hi
  refine rl_append hT hzc hsz hO hnews hg hx hy ha hl h1 h63 hby (fun v' w' b' hO' hb' hc _ => ?_)
  obtain ⟨a', c', rfl, h2, h3, _⟩ := hO'.shape
  exact k w' a' c' h2 h3 (hput w' _ _ _ b' hO' hb' hc)
theorem rl_appendSM {t u e : Nat} {x y : Operand} {v : Value} {n : Nat} {xs : List Value} {l : List UInt8} (i : Nat) (hM : Mem w0 w L V) (hT : SlT P t e 1 1 (.int .u8 0)) (hu : P.underlying u = some .string)
    (hi : L[i]? = some (.own v e 1 n xs)) (hg : want N ops σ g = true) (hx : ev N σ x = v) (hy : ev N σ y = St l) (h63 : n + l.length ≤ maxLen) (hby : n + l.length ≤ 140737488355328)
    (k : ∀ w' a' c', n + l.length ≤ c' → c' ≤ maxLen → Mem w0 w' (L.set i (.own (.slice a' (n + l.length) c') e 1 (n + l.length) (xs ++ by8 l))) V → RL P N ops Q rest (upd σ d (.slice a' (n + l.length) c')) w') :
    RL P N ops Q (⟨some d, .call ⟨.builtin .append, #[x, y], #[t, u]⟩, ty, pos, af, g⟩ :: rest) σ w := by
  obtain ⟨b, hO, hput⟩ := hM.own hi
  refine rl_appendS hT hu hO hg hx hy h63 hby (fun v' w' b' hO' hb' hc => ?_)
  obtain ⟨a', c', rfl, h2, h3, _⟩ := hO'.shape
  exact k w' a' c' h2 h3 (hput w' _ _ _ b' hO' hb' hc)
theorem rl_copyM {t t' e sz by_ : Nat} {x y : Operand} {z : Value} {n c m c' b B off : Nat} {a : Option Addr} {cs news : List Value} (i : Nat) (hM : Mem w0 w L V) (hT : SlT P t e sz by_ z) (hg : want N ops σ g = true) (hx : ev N σ x = .slice (some ⟨b, 0, none⟩) n c) (hy : ev N σ y = .slice a m c')
    (ha : 0 < m → a = some ⟨B, off, none⟩) (hl : news.length = m * sz) (hnews : ∀ j u, news[j]? = some u → w.cell? ⟨B, off + j, none⟩ = some u) (h1 : ∀ u ∈ news, u.oneCell' = true) (hmn : m ≤ n) (hi : L[i]? = some (.blk b cs t')) (hfit : n * sz ≤ cs.length)
    (k : ∀ w', Mem w0 w' (L.set i (.blk b (news ++ cs.drop news.length) t')) V → RL P N ops Q rest (upd σ d (.int .i64 m)) w') :
    RL P N ops Q (⟨some d, .call ⟨.builtin .copy, #[x, y], #[t, t]⟩, ty, pos, af, g⟩ :: rest) σ w :=
  rl_copy hT hg hx hy ha hl hnews h1 hmn (hM.get hi) hfit (fun w' hB hc _ => k w' (hM.set hi hc hB))
theorem eraseIdx_set' {α : Type} : ∀ (l : List α) (i : Nat) (a : α), (l.set i a).eraseIdx i = l.eraseIdx i
  | [], i, a => by simp
  | b :: l, 0, a => by simp
  | b :: l, i + 1, a => by simp [eraseIdx_set' l i a]
/-- unsafe.String over a slice of the call's own, which is given up. -/
theorem rl_ustringM {pt it e : Nat} {x y : Operand} {v : Value} {l : List UInt8} (i : Nat) (hM : Mem w0 w L V) (hp : P.underlying pt = some (.pointer e)) (hc : P.cellsOf e = 1) (hi : L[i]? = some (.own v e 1 l.length (by8 l))) (hg : want N ops σ g = true)
    {a : Option Addr} {n c : Nat} (hv : v = .slice a n c) (hx : ev N σ x = .pointer a) (hy : ev N σ y = .int .i64 l.length)
    (k : ∀ w', Mem w0 w' (L.eraseIdx i) V → RL P N ops Q rest (upd σ d (St l)) w') :
    RL P N ops Q (⟨some d, .call ⟨.builtin .unsafeString, #[x, y], #[pt, it]⟩, ty, pos, af, g⟩ :: rest) σ w := by
  obtain ⟨b, hO, hput⟩ := hM.own hi
  refine rl_ustring hp hc hg hO ⟨_, hx⟩ (fun hl => ?_) hy (fun w' hc' hs => k w' ?_)
  · obtain ⟨a', c', h1, _, _, h2⟩ := hO.shape
    rw [hv] at h1
    cases h1
    rw [hx, h2 (List.length_pos_iff.2 hl)]
  · have := (hput w' (.slice none 0 0) 0 [] b (Own.nil _ _ _ _) (.inl rfl) hc').erase i
    rwa [eraseIdx_set'] at this
theorem rx_usd {ts : Array TypeId} {x : Operand} {a : Option Addr} {n c : Nat} (ho : ops[io]? = some ⟨some d, .call ⟨.builtin .unsafeSliceData, #[x], ts⟩, ty, pos, af, g⟩) (hg : want N ops σ g = true) (hx : ev N σ x = .slice a n c) (hac : a = none ∨ c ≠ 0)
    (k : RX P N ops Q S nt r (upd σ d (.pointer a)) w) : RX P N ops Q S nt ((io, false) :: r) σ w :=
  rx_val ho hg (fun w _ => by
    cases a with
    | none => simp [execOp, resolve, invoke, builtin, hx, Lib.run_unsafeSliceData_nil]
    | some A =>
      have hc : c ≠ 0 := by
        rcases hac with h | h
        · cases h
        · exact h
      simp [execOp, resolve, invoke, builtin, hx, Lib.run_unsafeSliceData_row _ _ _ _ _ _ hc]) k
/-- A block as a slice that may be appended to. -/
theorem Mem.asOwn {b n sz : Nat} {cs : List Value} {t : TypeId} (i : Nat) (h : Mem w0 w L V) (hi : L[i]? = some (.blk b cs t)) (hl : cs.length = n * sz) (hn : n ≤ maxLen) : Mem w0 w (L.set i (.own (.slice (some ⟨b, 0, none⟩) n n) t sz n cs)) V := by
  have hB := h.get hi
  obtain ⟨F, h⟩ := h
  obtain ⟨f, hf⟩ := getF h.len hi
  have hh := (h.all i _ f hi hf).1
  exact ⟨_, Mem.put h hi hf ⟨rfl, rfl, rfl⟩ (Nat.le_refl _) (fun _ _ _ => rfl) (.inr ⟨b, hh, Own.of_blk hB hl hn⟩) (.inl rfl)⟩
/-! ## Results -/
theorem res_M {a t n b : Nat} {zs cs : List Value} {t' : TypeId} (i : Nat) (hM : Mem w0 w L V) (hA : AgT P t n zs) (hx : ev N σ (.tmp a) = .pointer (some ⟨b, 0, none⟩)) (hi : L[i]? = some (.blk b cs t')) (hl : cs.length = n) : ResOk P N σ w (.cell a t) (.agg cs.toArray) :=
  res_blkA hA hx (hM.get hi) hl
section
variable {M : Nat} {fn : Func} {Post : Value → World → Prop} {r1 r2 r3 : ResultVar} {v1 v2 v3 : Value} {e : Exit}
theorem bp_x1 (hr : fn.results = #[r1]) (he : isEnd e = true) (h1 : ResOk P ⟨M, []⟩ σ w r1 v1) (h : Post v1 w) : BP P fn Post e (Fr ⟨M, []⟩ σ) w := bp_res he (results_1 hr h1) h
theorem bp_x2 (hr : fn.results = #[r1, r2]) (he : isEnd e = true) (h1 : ResOk P ⟨M, []⟩ σ w r1 v1) (h2 : ResOk P ⟨M, []⟩ σ w r2 v2) (h : Post (.tuple #[v1, v2]) w) : BP P fn Post e (Fr ⟨M, []⟩ σ) w := bp_res he (results_2 hr h1 h2) h
theorem bp_x3 (hr : fn.results = #[r1, r2, r3]) (he : isEnd e = true) (h1 : ResOk P ⟨M, []⟩ σ w r1 v1) (h2 : ResOk P ⟨M, []⟩ σ w r2 v2) (h3 : ResOk P ⟨M, []⟩ σ w r3 v3) (h : Post (.tuple #[v1, v2, v3]) w) : BP P fn Post e (Fr ⟨M, []⟩ σ) w := bp_res he (results_3 hr h1 h2 h3) h
theorem bp_x0 (hr : fn.results = #[]) (he : isEnd e = true) (h : Post (.tuple #[]) w) : BP P fn Post e (Fr ⟨M, []⟩ σ) w := by
  cases e <;> first | exact bp_end0 hr h | exact bp_ret0 hr h | cases he
theorem bpm_x1 {D : Nat} (hr : fn.results = #[r1]) (he : isEnd e = true) (hD : w.heap[D]? = some (.deferred (some [])))
    (h1 : ResOk P ⟨M, [{ target := .collected D, args := #[] }]⟩ σ (w.putObj D (.deferred none)) r1 v1) (h : Post v1 (w.putObj D (.deferred none))) :
    BP P fn Post e (Fr ⟨M, [{ target := .collected D, args := #[] }]⟩ σ) w := bp_mark he hD (results_1 hr h1) h
end
theorem cut_seq1 {c y : Code} (ms : List (Nat × Nat)) (s1 : Nat) (R : Value → World → Prop) (h : c.wp P (KQ N (fun σ' w' => Agree ms σ σ' ∧ R (σ' s1) w') Q) (Fr N σ) w)
    (k : ∀ τ v1 w', R v1 w' → y.wp P Q (Fr N (upd (ov ms τ σ) s1 v1)) w') : c.wp P (SQ P y Q) (Fr N σ) w := by
  refine Code.wp_mono ?_ h
  intro e a w' hq
  cases e with
  | normal =>
    obtain ⟨σ', rfl, h1, h2⟩ := hq
    have := k σ' _ w' h2
    rw [ov_self h1, upd_self rfl] at this
    exact this
  | _ => exact hq
/-! ## Regions whose order is drawn -/
theorem drawnM_ {id : Nat} {l : List Oper} (n : Nat) (order : List (Nat × Bool)) (S : World → Prop) (hM : Mem w0 w L V) (hm : P.follows .mixedOrders = true) (hB : heldB .any l.toArray n order = true) (hS : ∀ w, Mem w0 w L V → S w)
    (h : ∀ w', Mem w0 w' L V → RX P N l (NP Q) S n order σ w') : (Code.region id l.toArray true).wp P Q (Fr N σ) w := by
  have hw : ∀ w', w' = { w with drawn := w.drawn + 1 } → Mem w0 w' L V := by
    rintro _ rfl
    exact hM.ext ⟨rfl, rfl, rfl, Nat.le_refl _, fun _ _ => rfl⟩
  exact draw_ n order S hm hB (fun w' e => hS w' (hw w' e)) (fun w' e => h w' (hw w' e))
theorem rx_loadV {t : TypeId} {x : Operand} {A : Addr} {v : Value} (ho : ops[io]? = some ⟨some d, .load t x, ty, pos, af, g⟩) (hS : ∀ w, S w → Mem w0 w L V) (hT : VarT P t) (hg : want N ops σ g = true) (hx : ev N σ x = .pointer (some A)) (hc : V A = some v)
    (k : RX P N ops Q S nt r (upd σ d v) w) : RX P N ops Q S nt ((io, false) :: r) σ w := rx_load ho hT hg hx (fun w h => (hS w h).view hc) k
theorem rx_loadM {t t' : TypeId} {x : Operand} {b o : Nat} {cs : List Value} {v : Value} (i : Nat) (ho : ops[io]? = some ⟨some d, .load t x, ty, pos, af, g⟩) (hS : ∀ w, S w → Mem w0 w L V) (hT : VarT P t) (hg : want N ops σ g = true) (hx : ev N σ x = .pointer (some ⟨b, o, none⟩)) (hi : L[i]? = some (.blk b cs t')) (hc : cs[o]? = some v)
    (k : RX P N ops Q S nt r (upd σ d v) w) : RX P N ops Q S nt ((io, false) :: r) σ w := rx_load ho hT hg hx (fun w h => (hS w h).cell hi hc) k
theorem rx_loadAV {t n : Nat} {zs vs : List Value} {x : Operand} {b o : Nat} (ho : ops[io]? = some ⟨some d, .load t x, ty, pos, af, g⟩) (hS : ∀ w, S w → Mem w0 w L V) (hA : AgT P t n zs) (hg : want N ops σ g = true) (hx : ev N σ x = .pointer (some ⟨b, o, none⟩)) (hc : VRow V b o vs) (hl : vs.length = n)
    (k : RX P N ops Q S nt r (upd σ d (.agg vs.toArray)) w) : RX P N ops Q S nt ((io, false) :: r) σ w :=
  rx_val ho hg (fun w h => by
    have h2 := run_loadAg (w := w) hA hl (fun j u hj => (hS w h).view (hc j u hj))
    simp [execOp, hx, Instr.loadAt, Instr.sureAddr, h2]) k
theorem rx_loadAM {t t' n : Nat} {zs vs cs : List Value} {x : Operand} {b o : Nat} (i : Nat) (ho : ops[io]? = some ⟨some d, .load t x, ty, pos, af, g⟩) (hS : ∀ w, S w → Mem w0 w L V) (hA : AgT P t n zs) (hg : want N ops σ g = true) (hx : ev N σ x = .pointer (some ⟨b, o, none⟩)) (hi : L[i]? = some (.blk b cs t')) (hc : (cs.drop o).take n = vs) (hl : vs.length = n)
    (k : RX P N ops Q S nt r (upd σ d (.agg vs.toArray)) w) : RX P N ops Q S nt ((io, false) :: r) σ w :=
  rx_val ho hg (fun w h => by
    have h2 := run_loadAg (w := w) (cs := vs) hA hl (fun j u hj => (hS w h).cell hi (by
      subst hc
      rw [List.getElem?_take] at hj
      split at hj
      · rwa [List.getElem?_drop] at hj
      · cases hj))
    simp [execOp, hx, Instr.loadAt, Instr.sureAddr, h2]) k
end Go.Eng
