/- Bytes of a string in memory, and back. Nothing here names a program. How arguments that are handed in read. Nothing here names a program. More rules: copy of nothing, a buffer of bytes that is made. Nothing here names a program. Numbers of any kind, conversions, struct equality, a range over a string, IndexByte. Nothing here names a program. A region whose order is drawn, in whose head two operations that act may come up at once: both orders are walked. Nothing here names a program. A range over a function: the statement, the iterator's call of yield in a region whose order is drawn, a round. Nothing here names a program. A round of a range over a function, its code walked as everywhere. Nothing here names a program. Reading and writing inside a slice of the call's own; maps whose keys are plainly compared; rows of own things in another order. Nothing here names a program. What lets nothing out. Nothing here names a program. What holds where a block ends is named, with two values. Nothing here names a program. What holds behind a part is named, with two values. Nothing here names a program. Numbers of the unsigned kinds, conversions among kinds, texts sliced and indexed by numbers of any kind. Written by gen32.py. Nothing here names a program. A region whose order is drawn and that has no forced tail: all its operations in the order that is handed in; two that act may come up at once. Nothing here names a program. What holds behind a part is named, with three values. Nothing here names a program. A region whose order is drawn, where behind the second of two operations that act and come up at once two come up at once again: the three orders are walked. Nothing here names a program. A region whose order is drawn, walked state by state: what yields the same in all worlds at once, of what acts each that may come up. Nothing here names a program. -/
import Derived.Test.YtadbinckjmdokaaDoorEnB
import Derived.Laws.IdiomStrings
import Derived.Deep.Matrix
import Derived.ChangeSlices
import Derived.Lib.MakeNoZero
import Derived.Laws.StructEq
import Derived.Laws.RangeAny
import Derived.Laws.Externs
import Derived.OrdersIn
import Derived.MapKept
import Derived.Carry
set_option linter.unusedVariables false
set_option linter.unusedSimpArgs false
namespace Go.Eng
open Go Go.RowKit
variable {P : Program} {N : NN} {Q : Exit → Act → World → Prop} {S : World → Prop} {σ : Env} {w0 w w' : World} {ops rest : List Oper} {r : List (Nat × Bool)}
  {d : Tmp} {ty : TypeId} {pos : String} {af : Array Edge} {g : Option (Nat × Bool)} {io nt : Nat} {L : List Ent} {V : Vw}
/-- A row of cells, some of which may be no longer written. -/
abbrev Ent.row (b : Nat) (cs : List Value) (t : TypeId) (fr : Nat × Nat) : Ent := .obj b (.cells cs.toArray t fr)
theorem Mem.cellR {i b o : Nat} {cs : List Value} {t : TypeId} {fr : Nat × Nat} {v : Value} (h : Mem w0 w L V) (hi : L[i]? = some (.row b cs t fr)) (ho : cs[o]? = some v) : w.cell? ⟨b, o, none⟩ = some v := by
  have := h.getObj hi
  simp [World.cell?, this, ho]
theorem bytesRow_mk (l : List UInt8) (cap : Nat) : bytesRow ⟨l.toArray⟩ cap = (by8 l ++ List.replicate (cap - l.length) (Value.int .u8 0)).toArray := by
  apply Array.ext'
  have : (ByteArray.mk l.toArray).size = l.length := st_size l
  simp [bytesRow, by8, this]
/-- Bytes of a string, in a row of their own. -/
theorem rl_s2b {src dst e : TypeId} {x : Operand} {l : List UInt8} (hM : Mem w0 w L V) (hs : P.underlying src = some .string) (hd : P.underlying dst = some (.slice e)) (he : P.underlying e = some (.int .u8)) (hg : want N ops σ g = true) (hx : ev N σ x = St l) (hl : l.length ≤ maxLen)
    (k : ∀ w' b sp, (by8 l ++ sp).length ≤ maxLen → Mem w0 w' (.row b (by8 l ++ sp) e ((by8 l ++ sp).length, (by8 l ++ sp).length + 1) :: L) V → RL P N ops Q rest (upd σ d (.slice (some ⟨b, 0, none⟩) l.length (by8 l ++ sp).length)) w') :
    RL P N ops Q (⟨some d, .convert src dst x, ty, pos, af, g⟩ :: rest) σ w := by
  have hsz : (ByteArray.mk l.toArray).size = l.length := st_size l
  have h := run_bytes_of_string (P := P) w src dst e ⟨l.toArray⟩ hs hd he
  rw [bytesRow_mk, hsz] at h
  obtain ⟨sp, hsp⟩ : ∃ sp, sp = List.replicate (grownCap w l.length 0 e - l.length) (Value.int .u8 0) := ⟨_, rfl⟩
  rw [← hsp] at h
  have hge : l.length ≤ grownCap w l.length 0 e := grownCap_ge w l.length 0 e
  have hcm : grownCap w l.length 0 e ≤ maxLen := grownCap_le_maxLen w l.length 0 e hl
  have hlen : (by8 l ++ sp).length = grownCap w l.length 0 e := by rw [List.length_append, by8_len, hsp, List.length_replicate]; omega
  have hlen' : (by8 l ++ sp).toArray.size = grownCap w l.length 0 e := by rw [List.size_toArray, hlen]
  rw [hlen'] at h
  have hdr : Mem w0 w.drew L V := hM.ext ⟨rfl, rfl, rfl, Nat.le_refl _, fun _ _ => rfl⟩
  have hn := hdr.newObj (o := .cells (by8 l ++ sp).toArray e (grownCap w l.length 0 e, grownCap w l.length 0 e + 1))
  have k' := k _ _ sp (by omega) (by rw [hlen]; exact hn)
  rw [hlen] at k'
  exact rl_val hg (by simp [execOp, hx, h]) k'
/-- A string of bytes that stand in memory. -/
theorem run_b2s {src dst e b off n c : Nat} {l : List UInt8} (hs : P.underlying src = some (.slice e)) (he : P.underlying e = some (.int .u8)) (hd : P.underlying dst = some .string) (hn : n = l.length)
    (hc : ∀ (j : Nat) u, l[j]? = some u → w.cell? ⟨b, off + j, none⟩ = some (.int .u8 u.toNat)) : (convert src dst (.slice (some ⟨b, off, none⟩) n c)).run P w = .ok (St l) w := by
  subst hn
  exact run_convert_bytes_back w src dst e ⟨b, off, none⟩ c l hs he hd (fun j hj => by rw [Addr.add_lit]; exact hc j _ (List.getElem?_eq_getElem hj))
theorem rl_b2s {src dst e b off n c : Nat} {x : Operand} (l : List UInt8) (hs : P.underlying src = some (.slice e)) (he : P.underlying e = some (.int .u8)) (hd : P.underlying dst = some .string) (hg : want N ops σ g = true) (hx : ev N σ x = .slice (some ⟨b, off, none⟩) n c) (hn : n = l.length)
    (hc : ∀ (j : Nat) u, l[j]? = some u → w.cell? ⟨b, off + j, none⟩ = some (.int .u8 u.toNat))
    (k : RL P N ops Q rest (upd σ d (St l)) w) : RL P N ops Q (⟨some d, .convert src dst x, ty, pos, af, g⟩ :: rest) σ w :=
  rl_val hg (by simp [execOp, hx, run_b2s (P := P) hs he hd hn hc]) k
theorem rx_b2s {src dst e b off n c : Nat} {x : Operand} (l : List UInt8) (ho : ops[io]? = some ⟨some d, .convert src dst x, ty, pos, af, g⟩) (hs : P.underlying src = some (.slice e)) (he : P.underlying e = some (.int .u8)) (hd : P.underlying dst = some .string) (hg : want N ops σ g = true) (hx : ev N σ x = .slice (some ⟨b, off, none⟩) n c) (hn : n = l.length)
    (hc : ∀ w, S w → ∀ (j : Nat) u, l[j]? = some u → w.cell? ⟨b, off + j, none⟩ = some (.int .u8 u.toNat))
    (k : RX P N ops Q S nt r (upd σ d (St l)) w) : RX P N ops Q S nt ((io, false) :: r) σ w :=
  rx_val ho hg (fun w hS => by simp [execOp, hx, run_b2s (P := P) hs he hd hn (hc w hS)]) k
/-- A store of one cell into such a row. -/
theorem rl_storeR {t t' : TypeId} {x y : Operand} {b o : Nat} {v : Value} {cs : List Value} {lo hi : Nat} (i : Nat) (hM : Mem w0 w L V) (hT : VarT P t) (hg : want N ops σ g = true) (hx : ev N σ x = .pointer (some ⟨b, o, none⟩)) (hy : ev N σ y = v) (h1 : v.oneCell' = true)
    (hi' : L[i]? = some (.row b cs t' (lo, hi))) (ho : o < cs.length) (hlo : o < lo)
    (k : ∀ w', Mem w0 w' (L.set i (.row b (cs.set o v) t' (lo, hi))) V → RL P N ops Q rest σ w') : RL P N ops Q (⟨none, .store t x y, ty, pos, af, g⟩ :: rest) σ w := by
  have hob := hM.getObj hi'
  refine rl_unit hg (w' := w.setCell ⟨b, o, none⟩ v) ?_ (k _ (hM.setObj hi' (chg_set b o v w) ?_))
  · obtain ⟨inf, hi1, hi2⟩ := hT.size
    have hcell : w.cell? ⟨b, o, none⟩ = some cs[o] := hM.cellR hi' (by simp [ho])
    have hfz : w.frozen? ⟨b, o, none⟩ = false := by
      simp only [World.frozen?, hob]
      have : ¬ lo ≤ o := by omega
      simp [this]
    have hcells : v.cells = #[v] := by cases v <;> first | rfl | (cases h1; done)
    have hst := run_store P w ⟨b, o, none⟩ v .plain h1
    simp [execOp, hx, hy, Instr.storeAt, Instr.sureAddr, storeVar, sizeOf, typeInfo, hi1, hi2, hcells, storeCells, Addr.add, hst, hcell, hfz]
  · simp [World.setCell, Array.getElem?_modify, hob]
end Go.Eng
set_option linter.unusedVariables false
set_option linter.unusedSimpArgs false
namespace Go.Eng
open Go Go.RowKit
variable {P : Program} {w w' : World}
theorem i64_of_wf {n : Int} (h : (Lit.int .i64 n).wf = true) : I64 n := by
  have : -9223372036854775808 ≤ n ∧ n ≤ 9223372036854775807 := by simpa [Lit.wf, IntKind.min, IntKind.max, IntKind.signed, IntKind.bits] using h
  exact this
theorem u8_of_wf {n : Int} (h : (Lit.int .u8 n).wf = true) : 0 ≤ n ∧ n ≤ 255 := by
  simpa [Lit.wf, IntKind.min, IntKind.max, IntKind.signed, IntKind.bits] using h
theorem spot_none {a : Addr} {v : Value} (h : w.cell? a = some v) : a.spot = none := by
  unfold World.cell? at h
  split at h
  · cases hs : a.spot with
    | none => rfl
    | some s => simp [hs] at h
  · cases h
theorem isSl_addr {a : Option Addr} {n c : Nat} {us : List Value} (hl : us.length = n) (hnc : n ≤ c) (hcm : c ≤ maxLen) (h : ∀ i u, us[i]? = some u → ∃ A, a = some A ∧ w.cell? (A.add i) = some u) :
    IsSl w.cell? (.slice a n c) us := by
  subst hl
  cases us with
  | nil => exact ⟨a, c, 0, 0, rfl, hnc, hcm, fun h => absurd h (by simp), fun i u hu => by simp at hu⟩
  | cons u us =>
    obtain ⟨A, hA, h0⟩ := h 0 u rfl
    subst hA
    have hs : A.spot = none := by
      have := spot_none h0
      simpa [Addr.add] using this
    obtain ⟨b, o, s⟩ := A
    simp only at hs
    subst hs
    refine ⟨_, c, b, o, rfl, hnc, hcm, fun _ => rfl, fun i v hv => ?_⟩
    obtain ⟨A', hA', hc⟩ := h i v hv
    cases hA'
    rwa [Addr.add_lit] at hc
theorem all2_range {α β : Type} {R : α → β → Prop} {f : Nat → α} {g : Nat → β} {n : Nat} (h : ∀ i, i < n → R (f i) (g i)) : All2 R ((List.range n).map f) ((List.range n).map g) := by
  have key : ∀ l : List Nat, (∀ i ∈ l, R (f i) (g i)) → All2 R (l.map f) (l.map g) := by
    intro l
    induction l with
    | nil => intro _; trivial
    | cons i l ih => intro h; exact ⟨h i (by simp), ih fun j hj => h j (by simp [hj])⟩
  exact key _ fun i hi => h i (by simpa using hi)
theorem rows_mk' {V : Vw} {v : Value} {ls : List (List Int)} (us : List Value) (h1 : IsSl V v us) (h2 : All2 (IsInts V) us ls) : IsRows V v ls := ⟨us, h1, h2⟩
theorem ints_open {H : Type} {enc : TypeId × Value → H} {W : World} {a : Option Addr} {len cap : Nat} {d : DataW H} {ps : List MemPlace} {base : Nat} {t e : TypeId} (ht : P.underlying t = some (.slice e)) (he : P.underlying e = some (.int .i64)) (hc : P.cellsOf e = 1)
    (h : DataW.Trod enc P W base (fun _ => true) true t (.slice a len cap) d ps) : ∃ xs, IsInts W.cell? (.slice a len cap) xs := by
  obtain ⟨fuel, hf⟩ := h
  rcases ChangeShapes.open_ints ht he hc hf with ⟨hcs, _⟩ | ⟨x, l, c, zs, hcs, _, hl, hm, hzl, _, hcell, hwf⟩
  · simp [Value.cells] at hcs
    obtain ⟨rfl, rfl, rfl⟩ := hcs
    exact ⟨[], isSl_addr rfl (Nat.le_refl _) (Nat.zero_le _) (fun i u hu => by simp at hu), fun x hx => by simp at hx⟩
  · simp [Value.cells] at hcs
    obtain ⟨rfl, rfl, rfl⟩ := hcs
    simp only [if_true] at hzl
    refine ⟨zs.take len, isSl_addr (by simp; omega) hl hm ?_, fun n hn => i64_of_wf (hwf n (List.mem_of_mem_take hn))⟩
    intro i u hu
    rw [List.getElem?_map, Option.map_eq_some_iff] at hu
    obtain ⟨n, hn, rfl⟩ := hu
    rw [List.getElem?_take] at hn
    split at hn
    · have hi := (List.getElem?_eq_some_iff.1 hn).1
      refine ⟨x, rfl, ?_⟩
      rw [hcell i hi, List.getD_eq_getElem?_getD, hn]; rfl
    · cases hn
theorem rows_openP {H : Type} {enc : TypeId × Value → H} {W : World} {a : Option Addr} {len cap : Nat} {d : DataW H} {ps : List MemPlace} {base : Nat} {t e q : TypeId} (ht : P.underlying t = some (.slice e)) (he : P.underlying e = some (.slice q)) (hq : P.underlying q = some (.int .i64)) (ce : P.cellsOf e = 1) (cq : P.cellsOf q = 1)
    (h : DataW.Trod enc P W base (fun _ => true) true t (.slice a len cap) d ps) : ∃ ls, IsRows W.cell? (.slice a len cap) ls := by
  obtain ⟨fuel, hf⟩ := h
  rcases Deep.open_int_rows ht he hq ce cq hf with ⟨hcs, _⟩ | ⟨x, l, c, A, L, C, Z, hcs, _, hl, hm, _, hrow⟩
  · simp [Value.cells] at hcs
    obtain ⟨rfl, rfl, rfl⟩ := hcs
    exact ⟨[], rows_mk' [] (isSl_addr rfl (Nat.le_refl _) (Nat.zero_le _) (fun i u hu => by simp at hu)) trivial⟩
  · simp [Value.cells] at hcs
    obtain ⟨rfl, rfl, rfl⟩ := hcs
    refine ⟨(List.range len).map fun r => (Z r).take (L r), rows_mk' ((List.range len).map fun r => Value.slice (A r) (L r) (C r)) (isSl_addr (by simp) hl hm ?_) (all2_range ?_)⟩
    · intro i u hu
      rw [List.getElem?_map, Option.map_eq_some_iff] at hu
      obtain ⟨r, hr, rfl⟩ := hu
      obtain ⟨hlt, he⟩ := List.getElem?_eq_some_iff.1 hr
      rw [List.length_range] at hlt
      rw [List.getElem_range] at he
      subst he
      exact ⟨x, rfl, (hrow i (by omega)).1⟩
    · intro r hr
      obtain ⟨h1, h2, h3, h4, h5, h6, h7⟩ := hrow r (by omega)
      have hlen : ((Z r).take (L r)).length = L r := by simp; omega
      refine ⟨isSl_addr (by simp; omega) h2 h3 ?_, fun n hn => i64_of_wf (h5 n (List.mem_of_mem_take hn))⟩
      intro i u hu
      rw [List.getElem?_map, Option.map_eq_some_iff] at hu
      obtain ⟨n, hn, rfl⟩ := hu
      have hi : i < L r := by
        have := (List.getElem?_eq_some_iff.1 hn).1
        omega
      rw [List.getElem?_take, if_pos hi] at hn
      cases hA : A r with
      | none => have := h6 hA; omega
      | some a' =>
        refine ⟨a', rfl, ?_⟩
        have := (h7 a' hA).2 i (by omega)
        rw [this]
        simp [hn]
end Go.Eng
set_option linter.unusedVariables false
set_option linter.unusedSimpArgs false
namespace Go.Eng
open Go Go.RowKit
variable {P : Program} {N : NN} {Q : Exit → Act → World → Prop} {S : World → Prop} {σ : Env} {w0 w w' : World} {ops rest : List Oper} {r : List (Nat × Bool)}
  {d : Tmp} {ty : TypeId} {pos : String} {af : Array Edge} {g : Option (Nat × Bool)} {io nt : Nat} {L : List Ent} {V : Vw}
theorem rl_copy0 {t e sz by_ : Nat} {x y : Operand} {z : Value} {n c : Nat} {A : Option Addr} (hT : SlT P t e sz by_ z) (hg : want N ops σ g = true) (hx : ev N σ x = .slice A n c) (hy : ev N σ y = .slice none 0 0)
    (k : RL P N ops Q rest (upd σ d (.int .i64 0)) w) :
    RL P N ops Q (⟨some d, .call ⟨.builtin .copy, #[x, y], #[t, t]⟩, ty, pos, af, g⟩ :: rest) σ w := by
  obtain ⟨inf, hi1, hi2, hi3, hi4⟩ := hT.info
  have hf : (Builtin.firstCells sz 0 (.slice none 0 0)).run P w = .ok #[] w := by simp [Builtin.firstCells, loadCells, loadCellsFrom]
  refine rl_val hg (w' := w) ?_ k
  cases A <;> simp [execOp, resolve, invoke, builtin, hx, hy, Builtin.copy_, run_underlying hT.und, Builtin.lenOf, sizeOf, typeInfo, hi1, hi3, hf, goInt, storeCells]
theorem rl_cap {t : TypeId} {x : Operand} {a : Option Addr} {n c e sz by_ : Nat} {z : Value} (hT : SlT P t e sz by_ z) (hg : want N ops σ g = true) (hx : ev N σ x = .slice a n c)
    (k : RL P N ops Q rest (upd σ d (.int .i64 c)) w) : RL P N ops Q (⟨some d, .call ⟨.builtin .cap, #[x], #[t]⟩, ty, pos, af, g⟩ :: rest) σ w :=
  rl_val hg (by simp [execOp, resolve, invoke, builtin, hx, Builtin.cap_, run_underlying hT.und, goInt]) k
theorem rx_cap {t : TypeId} {x : Operand} {a : Option Addr} {n c e sz by_ : Nat} {z : Value} (ho : ops[io]? = some ⟨some d, .call ⟨.builtin .cap, #[x], #[t]⟩, ty, pos, af, g⟩) (hT : SlT P t e sz by_ z) (hg : want N ops σ g = true) (hx : ev N σ x = .slice a n c)
    (k : RX P N ops Q S nt r (upd σ d (.int .i64 c)) w) : RX P N ops Q S nt ((io, false) :: r) σ w :=
  rx_val ho hg (fun w _ => by simp [execOp, resolve, invoke, builtin, hx, Builtin.cap_, run_underlying hT.und, goInt]) k
/-- A buffer of bytes with room for n, empty. -/
theorem Mem.newBuf {cs : Array Value} {e : TypeId} (hM : Mem w0 w L V) (hc : cs.size ≤ maxLen) :
    Mem w0 (w.drew.drew.alloc (.cells cs e)) (.own (.slice (some ⟨w.heap.size, 0, none⟩) 0 cs.size) e 1 0 [] :: L) V := by
  refine hM.push (f := some w.heap.size) ⟨rfl, rfl, rfl, by simp, fun k hk => heap_alloc_old w.drew.drew _ hk⟩ (.inr ⟨w.heap.size, rfl, rfl, .inr ⟨cs.size, cs.toList, rfl, Nat.zero_le _, hc, by simp, ?_⟩⟩) (fun b h => by cases h; simp)
  have := blk_alloc w.drew.drew cs.toList e
  simpa using this
end Go.Eng
set_option linter.unusedVariables false
set_option linter.unusedSimpArgs false
namespace Go.Eng
open Go Go.RowKit
variable {P : Program} {N : NN} {Q : Exit → Act → World → Prop} {S : World → Prop} {σ : Env} {w0 w w' : World} {ops rest : List Oper} {r : List (Nat × Bool)}
  {d : Tmp} {ty : TypeId} {pos : String} {af : Array Edge} {g : Option (Nat × Bool)} {io nt : Nat} {L : List Ent} {V : Vw}
/-! ## Numbers of any kind -/
section
variable {x y : Operand} {m n : Int} {t t' : TypeId} {kd : IntKind}
theorem run_intK (op : BinOp) (hx : ev N σ x = .int kd m) (hy : ev N σ y = .int kd n) (o : Oper) (ho : o.op = .binOp op t x y ty) :
    (execOp (ev N σ) o).run P w = ((do pure (.value (← binOp op t (.int kd m) (.int kd n))) : Sem Next)).run P w := by
  unfold execOp
  rw [ho]
  simp only [hx, hy]
  simp [eqGuard]
theorem rl_kcmp {b : Bool} (op : BinOp) (hg : want N ops σ g = true) (hx : ev N σ x = .int kd m) (hy : ev N σ y = .int kd n)
    (hb : ∀ w : World, (binOp op t (.int kd m) (.int kd n)).run P w = .ok (.bool b) w)
    (k : RL P N ops Q rest (upd σ d (.bool b)) w) : RL P N ops Q (⟨some d, .binOp op t x y t', ty, pos, af, g⟩ :: rest) σ w :=
  rl_val hg (by rw [run_intK op hx hy _ rfl]; simp [hb]) k
theorem rl_klss_t (hg : want N ops σ g = true) (hx : ev N σ x = .int kd m) (hy : ev N σ y = .int kd n) (h : m < n)
    (k : RL P N ops Q rest (upd σ d (.bool true)) w) : RL P N ops Q (⟨some d, .binOp .lss t x y t', ty, pos, af, g⟩ :: rest) σ w :=
  rl_kcmp .lss hg hx hy (fun _ => by simp [binOp, Op.intCmp, h]) k
theorem rl_klss_f (hg : want N ops σ g = true) (hx : ev N σ x = .int kd m) (hy : ev N σ y = .int kd n) (h : n ≤ m)
    (k : RL P N ops Q rest (upd σ d (.bool false)) w) : RL P N ops Q (⟨some d, .binOp .lss t x y t', ty, pos, af, g⟩ :: rest) σ w :=
  rl_kcmp .lss hg hx hy (fun _ => by simp [binOp, Op.intCmp]; omega) k
theorem rl_kleq_t (hg : want N ops σ g = true) (hx : ev N σ x = .int kd m) (hy : ev N σ y = .int kd n) (h : m ≤ n)
    (k : RL P N ops Q rest (upd σ d (.bool true)) w) : RL P N ops Q (⟨some d, .binOp .leq t x y t', ty, pos, af, g⟩ :: rest) σ w :=
  rl_kcmp .leq hg hx hy (fun _ => by simp [binOp, Op.intCmp, h]) k
theorem rl_kleq_f (hg : want N ops σ g = true) (hx : ev N σ x = .int kd m) (hy : ev N σ y = .int kd n) (h : n < m)
    (k : RL P N ops Q rest (upd σ d (.bool false)) w) : RL P N ops Q (⟨some d, .binOp .leq t x y t', ty, pos, af, g⟩ :: rest) σ w :=
  rl_kcmp .leq hg hx hy (fun _ => by simp [binOp, Op.intCmp]; omega) k
theorem rl_kgtr_t (hg : want N ops σ g = true) (hx : ev N σ x = .int kd m) (hy : ev N σ y = .int kd n) (h : n < m)
    (k : RL P N ops Q rest (upd σ d (.bool true)) w) : RL P N ops Q (⟨some d, .binOp .gtr t x y t', ty, pos, af, g⟩ :: rest) σ w :=
  rl_kcmp .gtr hg hx hy (fun _ => by simp [binOp, Op.intCmp, h]) k
theorem rl_kgtr_f (hg : want N ops σ g = true) (hx : ev N σ x = .int kd m) (hy : ev N σ y = .int kd n) (h : m ≤ n)
    (k : RL P N ops Q rest (upd σ d (.bool false)) w) : RL P N ops Q (⟨some d, .binOp .gtr t x y t', ty, pos, af, g⟩ :: rest) σ w :=
  rl_kcmp .gtr hg hx hy (fun _ => by simp [binOp, Op.intCmp]; omega) k
theorem rl_kgeq_t (hg : want N ops σ g = true) (hx : ev N σ x = .int kd m) (hy : ev N σ y = .int kd n) (h : n ≤ m)
    (k : RL P N ops Q rest (upd σ d (.bool true)) w) : RL P N ops Q (⟨some d, .binOp .geq t x y t', ty, pos, af, g⟩ :: rest) σ w :=
  rl_kcmp .geq hg hx hy (fun _ => by simp [binOp, Op.intCmp, h]) k
theorem rl_kgeq_f (hg : want N ops σ g = true) (hx : ev N σ x = .int kd m) (hy : ev N σ y = .int kd n) (h : m < n)
    (k : RL P N ops Q rest (upd σ d (.bool false)) w) : RL P N ops Q (⟨some d, .binOp .geq t x y t', ty, pos, af, g⟩ :: rest) σ w :=
  rl_kcmp .geq hg hx hy (fun _ => by simp [binOp, Op.intCmp]; omega) k
theorem rl_keql_t (hg : want N ops σ g = true) (hx : ev N σ x = .int kd m) (hy : ev N σ y = .int kd n) (h : m = n)
    (k : RL P N ops Q rest (upd σ d (.bool true)) w) : RL P N ops Q (⟨some d, .binOp .eql t x y t', ty, pos, af, g⟩ :: rest) σ w :=
  rl_kcmp .eql hg hx hy (fun _ => by simp [binOp, Op.intCmp, h]) k
theorem rl_keql_f (hg : want N ops σ g = true) (hx : ev N σ x = .int kd m) (hy : ev N σ y = .int kd n) (h : m ≠ n)
    (k : RL P N ops Q rest (upd σ d (.bool false)) w) : RL P N ops Q (⟨some d, .binOp .eql t x y t', ty, pos, af, g⟩ :: rest) σ w :=
  rl_kcmp .eql hg hx hy (fun _ => by simp [binOp, Op.intCmp, h]) k
theorem rl_kneq_t (hg : want N ops σ g = true) (hx : ev N σ x = .int kd m) (hy : ev N σ y = .int kd n) (h : m ≠ n)
    (k : RL P N ops Q rest (upd σ d (.bool true)) w) : RL P N ops Q (⟨some d, .binOp .neq t x y t', ty, pos, af, g⟩ :: rest) σ w :=
  rl_kcmp .neq hg hx hy (fun _ => by simp [binOp, Op.intCmp, h]) k
theorem rl_kneq_f (hg : want N ops σ g = true) (hx : ev N σ x = .int kd m) (hy : ev N σ y = .int kd n) (h : m = n)
    (k : RL P N ops Q rest (upd σ d (.bool false)) w) : RL P N ops Q (⟨some d, .binOp .neq t x y t', ty, pos, af, g⟩ :: rest) σ w :=
  rl_kcmp .neq hg hx hy (fun _ => by simp [binOp, Op.intCmp, h]) k
theorem wrap_u8 {z : Int} (h1 : 0 ≤ z) (h2 : z ≤ 255) : IntKind.u8.wrap z = z := by
  have : z % 256 = z := Int.emod_eq_of_lt h1 (by omega)
  simp [IntKind.wrap, IntKind.bits, IntKind.signed, this]
theorem rl_usub (hg : want N ops σ g = true) (hx : ev N σ x = .int .u8 m) (hy : ev N σ y = .int .u8 n) (h1 : 0 ≤ m - n) (h2 : m - n ≤ 255)
    (k : RL P N ops Q rest (upd σ d (.int .u8 (m - n))) w) : RL P N ops Q (⟨some d, .binOp .sub t x y t', ty, pos, af, g⟩ :: rest) σ w :=
  rl_val hg (by rw [run_intK .sub hx hy _ rfl]; simp [binOp, Op.intArith, wrap_u8 h1 h2]) k
theorem rl_neqbool {t t' : TypeId} {x y : Operand} {a b : Bool} (hT : P.underlying t = some .bool) (hg : want N ops σ g = true) (hx : ev N σ x = .bool a) (hy : ev N σ y = .bool b)
    (k : RL P N ops Q rest (upd σ d (.bool (!(a == b)))) w) : RL P N ops Q (⟨some d, .binOp .neq t x y t', ty, pos, af, g⟩ :: rest) σ w :=
  rl_val hg (by
    unfold execOp
    simp only [hx, hy]
    simp [eqGuard, run_neq_bool (w := w) t a b hT]) k
/-! ## Conversions -/
theorem rl_conv {src dst u : TypeId} {k' : IntKind} {z : Int} (hs : (P.underlying src).isSome = true) (hd : P.underlying dst = some (.int k')) (hg : want N ops σ g = true) (hx : ev N σ x = .int kd m) (hz : k'.wrap m = z)
    (k : RL P N ops Q rest (upd σ d (.int k' z)) w) : RL P N ops Q (⟨some d, .convert src dst x, ty, pos, af, g⟩ :: rest) σ w :=
  rl_val hg (by
    obtain ⟨s, hs⟩ := Option.isSome_iff_exists.1 hs
    subst hz
    simp [execOp, hx, convert, run_underlying hs, run_underlying hd, Conv.intToInt]) k
theorem rl_conv64 {src dst : TypeId} (hs : (P.underlying src).isSome = true) (hd : P.underlying dst = some (.int .i64)) (hg : want N ops σ g = true) (hx : ev N σ x = .int kd m) (h1 : -9223372036854775808 ≤ m) (h2 : m ≤ 9223372036854775807)
    (k : RL P N ops Q rest (upd σ d (.int .i64 m)) w) : RL P N ops Q (⟨some d, .convert src dst x, ty, pos, af, g⟩ :: rest) σ w :=
  rl_conv (u := 0) hs hd hg hx (wrap_id h1 h2) k
theorem rl_conv8 {src dst : TypeId} (hs : (P.underlying src).isSome = true) (hd : P.underlying dst = some (.int .u8)) (hg : want N ops σ g = true) (hx : ev N σ x = .int kd m) (h1 : 0 ≤ m) (h2 : m ≤ 255)
    (k : RL P N ops Q rest (upd σ d (.int .u8 m)) w) : RL P N ops Q (⟨some d, .convert src dst x, ty, pos, af, g⟩ :: rest) σ w :=
  rl_conv (u := 0) hs hd hg hx (wrap_u8 h1 h2) k
/-- A number as the text of its sign. -/
theorem rl_convS {src dst : TypeId} {k' : IntKind} (hs : P.underlying src = some (.int k')) (hd : P.underlying dst = some .string) (hg : want N ops σ g = true) (hx : ev N σ x = .int kd m) {l : List UInt8} (hl : (Utf8.encode m).data.toList = l)
    (k : RL P N ops Q rest (upd σ d (St l)) w) : RL P N ops Q (⟨some d, .convert src dst x, ty, pos, af, g⟩ :: rest) σ w :=
  rl_val hg (by
    subst hl
    simp [execOp, hx, convert, run_underlying hs, run_underlying hd, Conv.intToString]) k
end
/-! ## Structs that are compared -/
/-- What a cell of a struct is: a number of a kind, or a text. -/
def cellFit : Option IntKind → Value → Bool
  | some k, .int k' _ => k == k'
  | none, .string _ => true
  | _, _ => false
def cellsFit : List (Option IntKind) → List Value → Bool
  | [], [] => true
  | k :: ks, v :: vs => cellFit k v && cellsFit ks vs
  | _, _ => false
def EqF (P : Program) : Nat → List Field → List (Option IntKind) → Bool
  | _, [], [] => true
  | i, f :: fs, k :: ks => (f.name != "_") && (f.offset == i) && (match P.underlying f.type, k with | some (.int k'), some k => k == k' | some .string, none => true | _, _ => false) && EqF P (i + 1) fs ks
  | _, _, _ => false
structure EqT (P : Program) (t : TypeId) (ks : List (Option IntKind)) : Prop where
  und : P.underlying t = some (.struct (P.fieldsOf t))
  own : P.stoodInHeld t = false
  grd : P.eqGuardType P.depth t = false
  fs : EqF P 0 (P.fieldsOf t).toList ks = true
theorem eqFields_ok (D : Nat) : ∀ (fs : List Field) (ks : List (Option IntKind)) (i : Nat) (p q xs ys : List Value) (w : World), EqF P i fs ks = true → p.length = i → q.length = i → cellsFit ks xs = true → cellsFit ks ys = true →
    ∃ b : Bool, (Op.eqFields (D + 1) (p ++ xs).toArray (q ++ ys).toArray fs).run P w = .ok b w ∧ (b = true ↔ xs = ys)
  | [], [], i, p, q, xs, ys, w, _, _, _, hx, hy => by
    have hx' : xs = [] := by cases xs with | nil => rfl | cons a b => cases hx
    have hy' : ys = [] := by cases ys with | nil => rfl | cons a b => cases hy
    subst hx' hy'
    exact ⟨true, by simp [Op.eqFields], by simp⟩
  | [], _ :: _, i, p, q, xs, ys, w, h, _, _, _, _ => by cases h
  | _ :: _, [], i, p, q, xs, ys, w, h, _, _, _, _ => by cases h
  | f :: fs, k :: ks, i, p, q, xs, ys, w, h, hp, hq, hx, hy => by
    cases xs with
    | nil => cases hx
    | cons u xs =>
    cases ys with
    | nil => cases hy
    | cons v ys =>
    simp only [cellsFit, Bool.and_eq_true] at hx hy
    simp only [EqF, Bool.and_eq_true, bne_iff_ne, ne_eq, beq_iff_eq] at h
    obtain ⟨⟨⟨h1, h2⟩, h3⟩, h4⟩ := h
    obtain ⟨b, hb1, hb2⟩ := eqFields_ok D fs ks (i + 1) (p ++ [u]) (q ++ [v]) xs ys w h4 (by simp [hp]) (by simp [hq]) hx.2 hy.2
    have hpu : (p ++ u :: xs).toArray[f.offset]? = some u := by subst hp; rw [h2]; simp
    have hqv : (q ++ v :: ys).toArray[f.offset]? = some v := by subst hq; rw [h2]; simp
    rw [show p ++ [u] ++ xs = p ++ u :: xs by simp, show q ++ [v] ++ ys = q ++ v :: ys by simp] at hb1
    have key : ∃ c : Bool, (∀ w : World, (part f.type (p ++ u :: xs).toArray f.offset).run P w = .ok u w) ∧ (∀ w : World, (part f.type (q ++ v :: ys).toArray f.offset).run P w = .ok v w) ∧ (∀ w : World, (Op.equalIn (D + 1) f.type u v).run P w = .ok c w) ∧ (c = true ↔ u = v) := by
      cases hu : P.underlying f.type with
      | none => rw [hu] at h3; cases h3
      | some ud =>
        rw [hu] at h3
        cases k with
        | none =>
          cases ud with
          | string =>
            cases u <;> first | (cases hx.1; done) | skip
            cases v <;> first | (cases hy.1; done) | skip
            rename_i a b
            refine ⟨a == b, fun w => by simp [part, isAgg, run_underlying hu, hpu], fun w => by simp [part, isAgg, run_underlying hu, hqv], fun w => ?_, ?_⟩
            rotate_left
            · obtain ⟨⟨a⟩⟩ := a
              obtain ⟨⟨b⟩⟩ := b
              have := st_beq a b
              rw [beq_toListBytes, show ((ByteArray.mk ⟨a⟩).toList == (ByteArray.mk ⟨b⟩).toList) = decide (a = b) from this]
              simp
            rw [run_equalIn_string w D f.type a b hu, beq_toListBytes]
          | _ => cases h3
        | some k =>
          cases ud with
          | int k' =>
            cases u <;> first | (cases hx.1; done) | skip
            cases v <;> first | (cases hy.1; done) | skip
            rename_i ka a kb b
            have e1 : k = ka := by simpa [cellFit] using hx.1
            have e2 : k = kb := by simpa [cellFit] using hy.1
            subst e1 e2
            exact ⟨a == b, fun w => by simp [part, isAgg, run_underlying hu, hpu], fun w => by simp [part, isAgg, run_underlying hu, hqv], fun w => run_equalIn_int w D f.type k k' a b hu, by simp⟩
          | _ => cases h3
    obtain ⟨c, k1, k2, k3, k4⟩ := key
    cases c with
    | false =>
      refine ⟨false, ?_, ?_⟩
      · simp [Op.eqFields, h1, k1, k2, k3]
      · constructor
        · intro h; cases h
        · intro h; simp only [List.cons.injEq] at h; exact k4.2 h.1
    | true =>
      refine ⟨b, ?_, ?_⟩
      · simp [Op.eqFields, h1, k1, k2, k3, hb1]
      · rw [hb2]
        have := k4.1 rfl
        simp [this]
theorem run_eqT {t : TypeId} {ks : List (Option IntKind)} {xs ys : List Value} (hT : EqT P t ks) (hx : cellsFit ks xs = true) (hy : cellsFit ks ys = true) :
    ∃ b : Bool, (∀ w : World, (Op.equalIn 10000 t (.agg xs.toArray) (.agg ys.toArray)).run P w = .ok b w) ∧ (b = true ↔ xs = ys) := by
  have h : ∀ w : World, ∃ b : Bool, (Op.equalIn 10000 t (.agg xs.toArray) (.agg ys.toArray)).run P w = .ok b w ∧ (b = true ↔ xs = ys) := fun w => by
    obtain ⟨b, h1, h2⟩ := eqFields_ok (P := P) 9998 (P.fieldsOf t).toList ks 0 [] [] xs ys w hT.fs rfl rfl hx hy
    exact ⟨b, by rw [run_equalIn_struct w 9999 t _ _ hT.und hT.own]; exact h1, h2⟩
  by_cases he : xs = ys
  · refine ⟨true, fun w => ?_, by simp [he]⟩
    obtain ⟨b, h1, h2⟩ := h w
    rw [h1, h2.2 he]
  · refine ⟨false, fun w => ?_, by simp [he]⟩
    obtain ⟨b, h1, h2⟩ := h w
    cases b with
    | false => exact h1
    | true => exact absurd (h2.1 rfl) he
section
variable {x y : Operand} {t t' : TypeId} {ks : List (Option IntKind)} {xs ys : List Value}
theorem exec_eqT (o : Oper) (hx : ev N σ x = .agg xs.toArray) (hy : ev N σ y = .agg ys.toArray) (hT : EqT P t ks) (hfx : cellsFit ks xs = true) (hfy : cellsFit ks ys = true) {b : Bool} (hb : b = true ↔ xs = ys) :
    (o.op = .binOp .eql t x y t' → (execOp (ev N σ) o).run P w = .ok (.value (.bool b)) w) ∧ (o.op = .binOp .neq t x y t' → (execOp (ev N σ) o).run P w = .ok (.value (.bool (!b))) w) := by
  obtain ⟨c, h1, h2⟩ := run_eqT hT hfx hfy
  have hcb : c = b := by
    cases c <;> cases b <;> simp_all
  subst hcb
  constructor
  · intro ho
    unfold execOp
    rw [ho]
    simp only [hx, hy]
    have h3 := run_eqGuard_agg (P := P) w .eql t x y xs.toArray ys.toArray hT.grd
    have h4 := run_eql_struct (P := P) w t xs.toArray ys.toArray
    simp [h3, h4, h1]
  · intro ho
    unfold execOp
    rw [ho]
    simp only [hx, hy]
    have h3 := run_eqGuard_agg (P := P) w .neq t x y xs.toArray ys.toArray hT.grd
    have h4 := run_neq_struct (P := P) w t xs.toArray ys.toArray
    simp [h3, h4, h1]
theorem rl_aeql_t (hT : EqT P t ks) (hg : want N ops σ g = true) (hx : ev N σ x = .agg xs.toArray) (hy : ev N σ y = .agg ys.toArray) (hfx : cellsFit ks xs = true) (hfy : cellsFit ks ys = true) (h : xs = ys)
    (k : RL P N ops Q rest (upd σ d (.bool true)) w) : RL P N ops Q (⟨some d, .binOp .eql t x y t', ty, pos, af, g⟩ :: rest) σ w :=
  rl_val hg ((exec_eqT (b := true) _ hx hy hT hfx hfy (by simp [h])).1 rfl) k
theorem rl_aeql_f (hT : EqT P t ks) (hg : want N ops σ g = true) (hx : ev N σ x = .agg xs.toArray) (hy : ev N σ y = .agg ys.toArray) (hfx : cellsFit ks xs = true) (hfy : cellsFit ks ys = true) (h : xs ≠ ys)
    (k : RL P N ops Q rest (upd σ d (.bool false)) w) : RL P N ops Q (⟨some d, .binOp .eql t x y t', ty, pos, af, g⟩ :: rest) σ w :=
  rl_val hg ((exec_eqT (b := false) _ hx hy hT hfx hfy (by simp [h])).1 rfl) k
theorem rl_aneq_t (hT : EqT P t ks) (hg : want N ops σ g = true) (hx : ev N σ x = .agg xs.toArray) (hy : ev N σ y = .agg ys.toArray) (hfx : cellsFit ks xs = true) (hfy : cellsFit ks ys = true) (h : xs ≠ ys)
    (k : RL P N ops Q rest (upd σ d (.bool true)) w) : RL P N ops Q (⟨some d, .binOp .neq t x y t', ty, pos, af, g⟩ :: rest) σ w :=
  rl_val hg ((exec_eqT (b := false) _ hx hy hT hfx hfy (by simp [h])).2 rfl) k
theorem rl_aneq_f (hT : EqT P t ks) (hg : want N ops σ g = true) (hx : ev N σ x = .agg xs.toArray) (hy : ev N σ y = .agg ys.toArray) (hfx : cellsFit ks xs = true) (hfy : cellsFit ks ys = true) (h : xs = ys)
    (k : RL P N ops Q rest (upd σ d (.bool false)) w) : RL P N ops Q (⟨some d, .binOp .neq t x y t', ty, pos, af, g⟩ :: rest) σ w :=
  rl_val hg ((exec_eqT (b := true) _ hx hy hT hfx hfy (by simp [h])).2 rfl) k
theorem rx_aneq_t (ho : ops[io]? = some ⟨some d, .binOp .neq t x y t', ty, pos, af, g⟩) (hT : EqT P t ks) (hg : want N ops σ g = true) (hx : ev N σ x = .agg xs.toArray) (hy : ev N σ y = .agg ys.toArray) (hfx : cellsFit ks xs = true) (hfy : cellsFit ks ys = true) (h : xs ≠ ys)
    (k : RX P N ops Q S nt r (upd σ d (.bool true)) w) : RX P N ops Q S nt ((io, false) :: r) σ w :=
  rx_val ho hg (fun w _ => (exec_eqT (b := false) _ hx hy hT hfx hfy (by simp [h])).2 rfl) k
theorem rx_aneq_f (ho : ops[io]? = some ⟨some d, .binOp .neq t x y t', ty, pos, af, g⟩) (hT : EqT P t ks) (hg : want N ops σ g = true) (hx : ev N σ x = .agg xs.toArray) (hy : ev N σ y = .agg ys.toArray) (hfx : cellsFit ks xs = true) (hfy : cellsFit ks ys = true) (h : xs = ys)
    (k : RX P N ops Q S nt r (upd σ d (.bool false)) w) : RX P N ops Q S nt ((io, false) :: r) σ w :=
  rx_val ho hg (fun w _ => (exec_eqT (b := true) _ hx hy hT hfx hfy (by simp [h])).2 rfl) k
end
/-! ## A range over a string -/
abbrev Ent.iter (b : Nat) (l : List UInt8) (p : Nat) : Ent := .obj b (.stringIter ⟨l.toArray⟩ p)
theorem rl_rangeM {t : TypeId} {x : Operand} {l : List UInt8} (hM : Mem w0 w L V) (ht : P.underlying t = some .string) (hg : want N ops σ g = true) (hx : ev N σ x = St l)
    (k : ∀ w' b, Mem w0 w' (.iter b l 0 :: L) V → RL P N ops Q rest (upd σ d (.pointer (some ⟨b, 0, none⟩))) w') : RL P N ops Q (⟨some d, .range t x, ty, pos, af, g⟩ :: rest) σ w :=
  rl_val hg (by simp [execOp, hx, run_range_string (P := P) w t ⟨l.toArray⟩ ht]) (k (w.iter ⟨l.toArray⟩ 0) _ hM.newObj)
theorem rl_nextM {x : Operand} {l : List UInt8} {p b : Nat} (i : Nat) (hM : Mem w0 w L V) (hg : want N ops σ g = true) (hx : ev N σ x = .pointer (some ⟨b, 0, none⟩)) (hi : L[i]? = some (.iter b l p)) (hp : p < l.length)
    (k : ∀ w', Mem w0 w' (L.set i (.iter b l (p + (Utf8.decode ⟨l.toArray⟩ p).2))) V → RL P N ops Q rest (upd σ d (.tuple #[.bool true, .int .i64 p, .int .i32 (Utf8.decode ⟨l.toArray⟩ p).1])) w') : RL P N ops Q (⟨some d, .next x true, ty, pos, af, g⟩ :: rest) σ w := by
  have hob := hM.getObj hi
  have hlt : b < w.heap.size := by
    rcases Nat.lt_or_ge b w.heap.size with h | h
    · exact h
    · rw [Array.getElem?_eq_none h] at hob; cases hob
  have hsz : p < (ByteArray.mk l.toArray).size := by rw [st_size]; exact hp
  refine rl_val hg (w' := { w with heap := w.heap.setIfInBounds b (.stringIter ⟨l.toArray⟩ (p + (Utf8.decode ⟨l.toArray⟩ p).2)) }) ?_ (k _ (hM.setObj hi ⟨rfl, rfl, rfl, by simp, fun k hk hne => by simp [Array.getElem?_setIfInBounds, Ne.symm hne]⟩ (by simp [Array.getElem?_setIfInBounds, hlt])))
  simp [execOp, hx, Instr.next, getObj, setObj, Sem.run, hob, hsz, goInt]
theorem rl_nextE {x : Operand} {l : List UInt8} {p b : Nat} (i : Nat) (hM : Mem w0 w L V) (hg : want N ops σ g = true) (hx : ev N σ x = .pointer (some ⟨b, 0, none⟩)) (hi : L[i]? = some (.iter b l p)) (hp : l.length ≤ p)
    (k : RL P N ops Q rest (upd σ d (.tuple #[.bool false])) w) : RL P N ops Q (⟨some d, .next x true, ty, pos, af, g⟩ :: rest) σ w := by
  have hob := hM.getObj hi
  have hsz : ¬ p < (ByteArray.mk l.toArray).size := by rw [st_size]; omega
  refine rl_val hg ?_ k
  simp [execOp, hx, Instr.next, getObj, Sem.run, hob, hsz]
theorem decode_lo {l : List UInt8} {p : Nat} {c : UInt8} (h : l[p]? = some c) (hc : c.toNat < 128) : Utf8.decode ⟨l.toArray⟩ p = (c.toNat, 1) := by
  obtain ⟨hlt, he⟩ := List.getElem?_eq_some_iff.1 h
  have hsz : p < (ByteArray.mk l.toArray).size := by rw [st_size]; exact hlt
  have e : (ByteArray.mk l.toArray)[p]'hsz = c := he
  have := decode_ascii ⟨l.toArray⟩ p hsz (by rw [e]; exact hc)
  rw [e] at this
  exact this
theorem decode_hi {l : List UInt8} {p : Nat} {c : UInt8} (h : l[p]? = some c) (hc : 128 ≤ c.toNat) : 128 ≤ (Utf8.decode ⟨l.toArray⟩ p).1 := by
  obtain ⟨hlt, he⟩ := List.getElem?_eq_some_iff.1 h
  have hsz : p < (ByteArray.mk l.toArray).size := by rw [st_size]; exact hlt
  have e : (ByteArray.mk l.toArray)[p]'hsz = c := he
  exact (decode_high ⟨l.toArray⟩ p hsz (by rw [e]; exact hc)).1
theorem rl_nextLo {x : Operand} {l : List UInt8} {p b : Nat} {c : UInt8} (i : Nat) (hM : Mem w0 w L V) (hg : want N ops σ g = true) (hx : ev N σ x = .pointer (some ⟨b, 0, none⟩)) (hi : L[i]? = some (.iter b l p)) (hp : l[p]? = some c) (hc : c.toNat < 128)
    (k : ∀ w', Mem w0 w' (L.set i (.iter b l (p + 1))) V → RL P N ops Q rest (upd σ d (.tuple #[.bool true, .int .i64 p, .int .i32 c.toNat])) w') : RL P N ops Q (⟨some d, .next x true, ty, pos, af, g⟩ :: rest) σ w :=
  rl_nextM i hM hg hx hi (List.getElem?_eq_some_iff.1 hp).1 (by rw [decode_lo hp hc]; exact k)
theorem rl_nextHi {x : Operand} {l : List UInt8} {p b : Nat} {c : UInt8} (i : Nat) (hM : Mem w0 w L V) (hg : want N ops σ g = true) (hx : ev N σ x = .pointer (some ⟨b, 0, none⟩)) (hi : L[i]? = some (.iter b l p)) (hp : l[p]? = some c) (hc : 128 ≤ c.toNat)
    (k : ∀ w' (q n : Nat), 128 ≤ n → Mem w0 w' (L.set i (.iter b l q)) V → RL P N ops Q rest (upd σ d (.tuple #[.bool true, .int .i64 p, .int .i32 n])) w') : RL P N ops Q (⟨some d, .next x true, ty, pos, af, g⟩ :: rest) σ w :=
  rl_nextM i hM hg hx hi (List.getElem?_eq_some_iff.1 hp).1 (fun w' h => k w' _ _ (decode_hi hp hc) h)
/-! ## IndexByte -/
theorem firstIdx_nn (l : List UInt8) (c : UInt8) : firstIdx ⟨l.toArray⟩ c = -1 ∧ c ∉ l ∨ 0 ≤ firstIdx ⟨l.toArray⟩ c ∧ firstIdx ⟨l.toArray⟩ c ≤ l.length ∧ c ∈ l := by
  unfold firstIdx
  have hsz : (ByteArray.mk l.toArray).size = l.length := st_size l
  cases h : (List.range (ByteArray.mk l.toArray).size).find? fun i => (ByteArray.mk l.toArray)[i]! == c with
  | none =>
    left
    refine ⟨rfl, fun hm => ?_⟩
    obtain ⟨i, hi, he⟩ := List.mem_iff_getElem.1 hm
    rw [List.find?_eq_none] at h
    have h2 := h i (by rw [List.mem_range, hsz]; exact hi)
    apply h2
    have : (ByteArray.mk l.toArray)[i]! = (ByteArray.mk l.toArray)[i]'(by rw [hsz]; exact hi) := getElem!_pos _ _ _
    rw [this]
    have e2 : (ByteArray.mk l.toArray)[i]'(by rw [hsz]; exact hi) = c := he
    simp [e2]
  | some i =>
    right
    have h1 := List.find?_some h
    have h2 : i < l.length := by
      have := List.mem_of_find?_eq_some h
      rw [List.mem_range, hsz] at this
      exact this
    refine ⟨Int.natCast_nonneg i, by show (i : Int) ≤ l.length; omega, ?_⟩
    have : (ByteArray.mk l.toArray)[i]! = (ByteArray.mk l.toArray)[i]'(by rw [hsz]; exact h2) := getElem!_pos _ _ _
    rw [this] at h1
    have e2 : (ByteArray.mk l.toArray)[i]'(by rw [hsz]; exact h2) = l[i] := rfl
    rw [e2] at h1
    have : l[i] = c := by simpa using h1
    rw [← this]; simp
theorem rl_indexByte {f : FuncId} {fn : Func} {ts : Array TypeId} {x y : Operand} {l : List UInt8} {c : UInt8} (hf : P.funcs[f]? = some fn) (hname : (fn.name == "runtime.NumGoroutine") = false) (hb : fn.body.isNone = true) (hn : Extern.findNext fn = none) (he : Extern.find fn = some Extern.BytealgIndexByte.indexByte)
    (hg : want N ops σ g = true) (hx : ev N σ x = St l) (hy : ev N σ y = .int .u8 c.toNat)
    (k : RL P N ops Q rest (upd σ d (.int .i64 (firstIdx ⟨l.toArray⟩ c))) w) : RL P N ops Q (⟨some d, .call ⟨.value (.func f), #[x, y], ts⟩, ty, pos, af, g⟩ :: rest) σ w :=
  rl_extern (args := [x, y]) (as := [St l, .int .u8 c.toNat]) hf hname hb hn he hg (by simp [hx, hy]) (by
    have h := run_indexByte_string (P := P) ⟨l.toArray⟩ c.toNat w
    simpa using h) k
end Go.Eng
set_option linter.unusedVariables false
set_option linter.unusedSimpArgs false
namespace Go.Eng
open Go Go.RowKit
section
variable {P : Program} {ops : Array Oper} {md : Region.Mode} {Q : Exit → Act → World → Prop} {S : World → Prop}
def head2B (md : Region.Mode) (ops : Array Oper) (n g : Nat) (i j : Nat) (r1 r2 : List (Nat × Bool)) : List (Nat × Bool) → Array Bool → Bool
  | [], listed => decide (i < n) && decide (j < n) && decide (Region.ready md ops listed = [i, j]) && decide (r1.length = r2.length) && headB md ops n g r1 (listed.setIfInBounds i true) && headB md ops n g r2 (listed.setIfInBounds j true)
  | (k, false) :: r, listed => decide (k < n) && (Region.ready md ops listed).contains k && Region.free md ops listed k && head2B md ops n g i j r1 r2 r (listed.setIfInBounds k true)
  | (k, true) :: r, listed => false
theorem yieldsIf_det {o : Oper} {v v' : Value} {a : Act} {w : World} (h : YieldsIf P ops S o v a) (h' : YieldsIf P ops S o v' a) (hS : S w) : v = v' := by
  rcases h with ⟨h1, h2⟩ | ⟨h1, h2⟩ <;> rcases h' with ⟨h3, h4⟩ | ⟨h3, h4⟩
  · have e1 := h2 w hS
    rw [h4 w hS] at e1
    injection e1 with e2
    injection e2 with e3
    exact e3.symm
  · rw [h1] at h3; cases h3
  · rw [h1] at h3; cases h3
  · rw [h2, h4]
theorem wpAnyLS_order2 {n g : Nat} {Lq : Act → World → Prop} {i j : Nat} {r1 r2 : List (Nat × Bool)} (hsel : Region.noSelect ops = true) (hQ : ∀ c a w, ¬ Q (.panic c) a w) (hs : Region.sinkB md ops n = true) (hc : Region.chainB md ops n = true) (hn : n < ops.size) :
    ∀ (p : List (Nat × Bool)) (listed : Array Bool) (a : Act) (w : World), HeadInv md ops n listed → head2B md ops n g i j r1 r2 p listed = true → S w → HW P ops Q S Lq (p ++ (i, true) :: r1) a w → HW P ops Q S Lq (p ++ (j, true) :: r2) a w →
    wpAnyLS P md ops Q S n (fun listed' a' w' => Region.seqB md ops g n listed' = true ∧ Lq a' w') (p.length + (r1.length + 1)) listed a w
  | [], listed, a, w, inv, hB, hS, h1, h2 => by
    simp only [head2B, Bool.and_eq_true, decide_eq_true_eq] at hB
    obtain ⟨⟨⟨⟨⟨hi, hj⟩, hr⟩, hl⟩, hB1⟩, hB2⟩ := hB
    rw [show ([] : List (Nat × Bool)).length + (r1.length + 1) = r1.length + 1 by simp]
    refine ⟨fun h0 => (by rw [h0] at hr; cases hr), fun k hk => ?_⟩
    have hri : i ∈ Region.ready md ops listed := by rw [hr]; simp
    have hrj : j ∈ Region.ready md ops listed := by rw [hr]; simp
    rw [hr] at hk
    have hkk : k = i ∨ k = j := by simpa using hk
    by_cases hki : k = i
    · subst hki
      exact ⟨hi, wpOp_mono (fun a' w' h' => by
        obtain ⟨S', hsub, hS', hK⟩ := h'
        exact ⟨hsub _ hS', wpAnyLS_mono hsub _ _ _ _ (wpAnyLS_order hsel hQ hs hc hn r1 S' _ _ _ (inv.set hri hi) hB1 hS' hK)⟩) h1⟩
    · have hkj : k = j := hkk.resolve_left hki
      subst hkj
      rw [hl]
      exact ⟨hj, wpOp_mono (fun a' w' h' => by
        obtain ⟨S', hsub, hS', hK⟩ := h'
        exact ⟨hsub _ hS', wpAnyLS_mono hsub _ _ _ _ (wpAnyLS_order hsel hQ hs hc hn r2 S' _ _ _ (inv.set hrj hj) hB2 hS' hK)⟩) h2⟩
  | (k, false) :: p, listed, a, w, inv, hB, hS, h1, h2 => by
    simp only [head2B, Bool.and_eq_true, decide_eq_true_eq] at hB
    obtain ⟨⟨⟨hin, hr⟩, hf⟩, hB'⟩ := hB
    have hr' : k ∈ Region.ready md ops listed := by simpa using hr
    obtain ⟨o, v, ho, hy, hK⟩ := h1
    obtain ⟨o', v', ho', hy', hK'⟩ := h2
    rw [ho] at ho'
    cases ho'
    have := yieldsIf_det hy hy' hS
    subst this
    rw [show ((k, false) :: p).length + (r1.length + 1) = (p.length + (r1.length + 1)) + 1 by simp; omega]
    exact wpAnyLS_first ho (Region.noSelect_spec hsel) (fun c a w hh => absurd hh (hQ _ _ _)) hs hc hn hin (fun listed' a' w' hL => seqB_ready hL.1) _ listed a w inv (Region.free_spec ho hf) hr' hy hS
      (wpAnyLS_order2 hsel hQ hs hc hn p _ _ _ (inv.set hr' hin) hB' hS hK hK')
  | (k, true) :: p, listed, a, w, inv, hB, hS, h1, h2 => by cases hB
def held2B (md : Region.Mode) (ops : Array Oper) (n : Nat) (p : List (Nat × Bool)) (i j : Nat) (r1 r2 : List (Nat × Bool)) : Bool :=
  Region.noSelect ops && decide (n < ops.size) && decide (p.length + (r1.length + 1) = n) && Region.sinkB md ops n && Region.chainB md ops n && head2B md ops n (ops.size - n) i j r1 r2 p (Array.replicate ops.size false)
theorem wp_region_held2 {id : Nat} {a : Act} {w : World} {l : List Oper} (n : Nat) (p : List (Nat × Bool)) (i j : Nat) (r1 r2 : List (Nat × Bool)) (S : World → Prop) (hm : P.follows .mixedOrders = true) (hB : held2B .any l.toArray n p i j r1 r2 = true)
    (hS : S { w with drawn := w.drawn + 1 })
    (h1 : HW P l.toArray (NP Q) S (fun a' w' => wpList P l.toArray (NP Q) (l.drop n) a' w') (p ++ (i, true) :: r1) a { w with drawn := w.drawn + 1 })
    (h2 : HW P l.toArray (NP Q) S (fun a' w' => wpList P l.toArray (NP Q) (l.drop n) a' w') (p ++ (j, true) :: r2) a { w with drawn := w.drawn + 1 }) : (Code.region id l.toArray true).wp P Q a w := by
  refine Code.wp_mono NP.weak ?_
  simp only [held2B, Bool.and_eq_true, decide_eq_true_eq] at hB
  obtain ⟨⟨⟨⟨⟨hsel, hn⟩, hol⟩, hs⟩, hc⟩, hlex⟩ := hB
  have hn' : n < l.length := by simpa using hn
  have hdl : (l.drop n).length = l.toArray.size - n := by simp
  have inv0 : HeadInv .any l.toArray n (Array.replicate l.toArray.size false) :=
    ⟨by simp, fun j oj _ hl => (by rw [getD_replicate_false] at hl; cases hl), fun t _ ht => getD_in (by simpa using ht) (getD_replicate_false _ _)⟩
  have H := wpAnyLS_order2 (md := .any) (Q := NP Q) (g := l.toArray.size - n) hsel (fun c a w hh => hh) hs hc hn p _ a _ inv0 hlex hS h1 h2
  refine wp_region_any hm ?_
  have := wpAny_of_headS (Q := NP Q) (g := l.toArray.size - n) (fun listed a' w' hL => by
    have := wpAny_of_seq (md := .any) (Q' := NP Q) (l.drop n) n listed a' w' (fun j => by simp [List.getElem?_drop]) (by rw [hdl]; exact hL.1) hL.2
    rwa [hdl] at this) _ _ _ _ H
  rw [hol, show n + (l.toArray.size - n) = l.toArray.size by omega] at this
  exact this
end
variable {P : Program} {N : NN} {Q : Exit → Act → World → Prop} {σ : Env} {w0 w : World} {L : List Ent} {V : Vw}
theorem drawn2M_ {id : Nat} {l : List Oper} (n : Nat) (p : List (Nat × Bool)) (i j : Nat) (r1 r2 o1 o2 : List (Nat × Bool)) (e1 : p ++ (i, true) :: r1 = o1) (e2 : p ++ (j, true) :: r2 = o2) (hM : Mem w0 w L V) (hm : P.follows .mixedOrders = true) (hB : held2B .any l.toArray n p i j r1 r2 = true)
    (h1 : ∀ w', Mem w0 w' L V → RX P N l (NP Q) (fun w => Mem w0 w L V) n o1 σ w') (h2 : ∀ w', Mem w0 w' L V → RX P N l (NP Q) (fun w => Mem w0 w L V) n o2 σ w') : (Code.region id l.toArray true).wp P Q (Fr N σ) w := by
  subst e1 e2
  have hw : Mem w0 { w with drawn := w.drawn + 1 } L V := hM.ext ⟨rfl, rfl, rfl, Nat.le_refl _, fun _ _ => rfl⟩
  exact wp_region_held2 n p i j r1 r2 _ hm hB hw (h1 _ hw) (h2 _ hw)
end Go.Eng
set_option linter.unusedVariables false
set_option linter.unusedSimpArgs false
namespace Go.Eng
open Go Go.RowKit
variable {P : Program} {ops : Array Oper} {md : Region.Mode} {Q : Exit → Act → World → Prop} {S : World → Prop} {n : Nat}
theorem oper_wide {o : Oper} {a : Act} {w : World} {K : Act → World → Prop} (h : o.wp P a w K Q) : o.wpIn Fence.wide n P a w K Q := by
  unfold Oper.wp at h
  refine ⟨fun _ _ => trivial, ?_⟩
  show Oper.uponIn Fence.wide n P o a K Q ((execOp a.eval o).run P w)
  generalize (execOp a.eval o).run P w = r at h ⊢
  cases r with
  | ok x w' =>
    cases x <;> simp only [Oper.upon, Oper.uponIn] at h ⊢ <;>
      first
        | exact h
        | exact ⟨fun h => by simp [Fence.wide] at h, callsIn_wide.2 h⟩
        | exact ⟨fun h => by simp [Fence.wide] at h, fun c cs _ => let ⟨v, w', r, s⟩ := h c cs; ⟨v, w', r, stepsIn_wide.2 s⟩⟩
        | exact h.elim
  | halt x w' => cases x <;> simp only [Oper.upon, Oper.uponIn] at h ⊢ <;> first | exact h | exact h.elim
theorem wpOp_wide (hno : ¬ LetsOut Q) {i : Nat} {a : Act} {w : World} {K : Act → World → Prop} (h : wpOp P ops Q i K a w) : wpOpIn Fence.wide n P ops Q i K a w := by
  unfold wpOp at h
  unfold wpOpIn
  split
  · rename_i ho; simp only [ho] at h; exact h
  · rename_i o ho
    simp only [ho] at h
    split
    · rename_i hw; simp only [hw, if_true] at h; exact h.elim oper_wide (fun h => absurd h.2 hno)
    · rename_i hw; simp only [hw] at h; exact ⟨fun _ _ => trivial, h⟩
theorem wpAny_wide (hno : ¬ LetsOut Q) : ∀ (f : Nat) (listed : Array Bool) (a : Act) (w : World), wpAny P md ops Q f listed a w → wpAnyIn Fence.wide n P md ops Q f listed a w
  | 0, _, _, _, h => h
  | f + 1, _, _, _, h => ⟨h.1, fun i hi => wpOpIn_mono (fun a w => wpAny_wide hno f _ a w) (wpOp_wide hno (h.2 i hi))⟩
/-- The held head, from some operations on that are listed already. -/
theorem wpAny_from {l : List Oper} {n : Nat} {order : List (Nat × Bool)} {listed : Array Bool} {a : Act} {w : World} (hsel : Region.noSelect l.toArray = true) (hn : n < l.toArray.size) (hs : Region.sinkB .any l.toArray n = true) (hc : Region.chainB .any l.toArray n = true)
    (hB : headB .any l.toArray n (l.toArray.size - n) order listed = true) (inv : HeadInv .any l.toArray n listed) (hS : S w)
    (h : HW P l.toArray (NP Q) S (fun a' w' => wpList P l.toArray (NP Q) (l.drop n) a' w') order a w) : wpAny P .any l.toArray (NP Q) (order.length + (l.toArray.size - n)) listed a w := by
  have hn' : n < l.length := by simpa using hn
  have hdl : (l.drop n).length = l.toArray.size - n := by simp
  have H := wpAnyLS_order (md := .any) (Q := NP Q) (g := l.toArray.size - n) hsel (fun c a w hh => hh) hs hc hn order S listed a w inv hB hS h
  exact wpAny_of_headS (Q := NP Q) (g := l.toArray.size - n) (fun listed a' w' hL => by
    have := wpAny_of_seq (md := .any) (Q' := NP Q) (l.drop n) n listed a' w' (fun j => by simp [List.getElem?_drop]) (by rw [hdl]; exact hL.1) hL.2
    rwa [hdl] at this) _ _ _ _ H
variable {N : NN} {σ : Env} {w w' : World}
theorem upd_comm {d e : Nat} {u v : Value} (h : d ≠ e) : upd (upd σ d u) e v = upd (upd σ e v) d u := by
  funext j
  by_cases h1 : j = d
  · subst h1
    rw [upd_ne _ _ _ _ h, upd_same, upd_same]
  · by_cases h2 : j = e
    · subst h2
      rw [upd_same, upd_ne _ _ _ _ h1, upd_same]
    · rw [upd_ne _ _ _ _ h2, upd_ne _ _ _ _ h1, upd_ne _ _ _ _ h1, upd_ne _ _ _ _ h2]
def yieldB (ops : Array Oper) (n : Nat) (order : List (Nat × Bool)) : Bool :=
  decide (Region.ready .any ops (Array.replicate ops.size false) = [0, 1]) && decide (Region.ready .any ops ((Array.replicate ops.size false).setIfInBounds 0 true) = [1]) &&
  decide (Region.ready .any ops ((Array.replicate ops.size false).setIfInBounds 1 true) = [0]) && decide (Region.ready .any ops (((Array.replicate ops.size false).setIfInBounds 0 true).setIfInBounds 1 true) = [2]) &&
  Region.noSelect ops && decide (n < ops.size) && decide (2 < n) && decide (order.length + 3 = n) && Region.sinkB .any ops n && Region.chainB .any ops n &&
  headB .any ops n (ops.size - n) order ((((Array.replicate ops.size false).setIfInBounds 0 true).setIfInBounds 1 true).setIfInBounds 2 true)
theorem wpOpIn_val {F : Fence} (hro : F.round = none) (hF : ∀ f, F.fn f) {l : List Oper} {i d : Nat} {op : Op} {ty : TypeId} {pos : String} {af : Array Edge} {v : Value} {K : Act → World → Prop} (ho : l.toArray[i]? = some ⟨some d, op, ty, pos, af, none⟩)
    (h : (execOp (ev N σ) ⟨some d, op, ty, pos, af, none⟩).run P w = .ok (.value v) w) (k : K (Fr N (upd σ d v)) w) : wpOpIn F n P l.toArray Q i K (Fr N σ) w := by
  unfold wpOpIn
  simp only [ho]
  have hw : Region.wanted (⟨some d, op, ty, pos, af, none⟩ : Oper) (yielded l.toArray (Fr N σ).tmps) = true := rfl
  rw [if_pos hw]
  refine ⟨fun _ _ => hF _, ?_⟩
  rw [hro, Oper.semAt_none, eval_Fr', h]
  show K ((Fr N σ).put (some d) v) w
  rw [put_some]; exact k
/-- A region of an iterator: a function value, an argument, the call of yield; then the rest. -/
theorem drawnY_ {id : Nat} {l : List Oper} {d0 d1 d2 : Tmp} {x0 x1 : Operand} {t ty0 ty1 ty2 lp : Nat} {p0 p1 p2 : String} {a0 a1 a2 : Array Edge} {ts : Array TypeId} {A : Addr} {v : Value} {fn : FuncId} {tmps : Array Value} {assign body : Code} {Post : Value → World → Prop}
    (n : Nat) (order : List (Nat × Bool)) (S : World → Prop) (hno : ¬ LetsOut Q) (hm : P.follows .mixedOrders = true)
    (h0 : l[0]? = some ⟨some d0, .move x0, ty0, p0, a0, none⟩) (h1 : l[1]? = some ⟨some d1, .load t x1, ty1, p1, a1, none⟩) (h2 : l[2]? = some ⟨some d2, .call ⟨.value (.tmp d0), #[.tmp d1], ts⟩, ty2, p2, a2, none⟩)
    (hB : yieldB l.toArray n order = true) (hd0 : Nat.blt d0 N.n = true) (hd1 : Nat.blt d1 N.n = true) (hd : Nat.beq d0 d1 = false)
    (hx0 : ev N σ x0 = .func (.yield lp) #[] #[]) (hT : VarT P t) (hx1 : ev N (upd σ d0 (.func (.yield lp) #[] #[])) x1 = .pointer (some A)) (hx1' : ev N σ x1 = .pointer (some A)) (hx0' : ev N (upd σ d1 v) x0 = .func (.yield lp) #[] #[])
    (hc : ({ w with drawn := w.drawn + 1 } : World).cell? A = some v)
    (hy : (Instr.yield lp #[v]).run P { w with drawn := w.drawn + 1 } = .ok (.round lp fn tmps assign body) { w with drawn := w.drawn + 1 })
    (hR : RoundIn Fence.wide 0 P lp fn tmps assign body { w with drawn := w.drawn + 1 } fun e w' => ∃ u, e = .returned u ∧ Post u w')
    (k : ∀ u w', Post u w' → S w' ∧ RX P N l (NP Q) S n order (upd (upd (upd σ d0 (.func (.yield lp) #[] #[])) d1 v) d2 u) w') : (Code.region id l.toArray true).wp P Q (Fr N σ) w := by
  refine Code.wp_mono NP.weak ?_
  refine (wpIn_wide (n := 1)).1 (wpIn_region_any hm ?_)
  obtain ⟨w1, hw1⟩ : ∃ w1, w1 = ({ w with drawn := w.drawn + 1 } : World) := ⟨_, rfl⟩
  rw [← hw1] at hc hy hR ⊢
  simp only [yieldB, Bool.and_eq_true, decide_eq_true_eq] at hB
  obtain ⟨⟨⟨⟨⟨⟨⟨⟨⟨⟨r0, r1⟩, r2⟩, r3⟩, hsel⟩, hn⟩, hn2⟩, hol⟩, hs⟩, hch⟩, hB'⟩ := hB
  have hne : d0 ≠ d1 := fun h => by rw [h] at hd; simp at hd
  obtain ⟨f, hf⟩ : ∃ f, l.toArray.size = f + 3 := ⟨l.toArray.size - 3, by omega⟩
  have hf' : f = order.length + (l.toArray.size - n) := by omega
  have inv0 : HeadInv .any l.toArray n (Array.replicate l.toArray.size false) :=
    ⟨by simp, fun j oj _ hl => (by rw [getD_replicate_false] at hl; cases hl), fun t _ ht => getD_in (by simpa using ht) (getD_replicate_false _ _)⟩
  have inv1 := inv0.set (i := 0) (by rw [r0]; simp) (by omega)
  have inv2 := inv1.set (i := 1) (by rw [r1]; simp) (by omega)
  have inv3 := inv2.set (i := 2) (by rw [r3]; simp) (by omega)
  have e0 : l.toArray[0]? = some ⟨some d0, .move x0, ty0, p0, a0, none⟩ := by simpa using h0
  have e1 : l.toArray[1]? = some ⟨some d1, .load t x1, ty1, p1, a1, none⟩ := by simpa using h1
  have e2 : l.toArray[2]? = some ⟨some d2, .call ⟨.value (.tmp d0), #[.tmp d1], ts⟩, ty2, p2, a2, none⟩ := by simpa using h2
  obtain ⟨τ, hτ⟩ : ∃ τ, τ = upd (upd σ d0 (.func (.yield lp) #[] #[])) d1 v := ⟨_, rfl⟩
  have fin : wpAnyIn Fence.wide 1 P .any l.toArray (NP Q) (f + 1) (((Array.replicate l.toArray.size false).setIfInBounds 0 true).setIfInBounds 1 true) (Fr N τ) w1 := by
    refine wpAnyIn_all r3 (by simp) fun i hi => ?_
    have hi : i = 2 := by simpa using hi
    subst hi
    unfold wpOpIn
    simp only [e2]
    have hw : Region.wanted (⟨some d2, .call ⟨.value (.tmp d0), #[.tmp d1], ts⟩, ty2, p2, a2, none⟩ : Oper) (yielded l.toArray (Fr N τ).tmps) = true := rfl
    rw [if_pos hw]
    have t0 : ev N τ (.tmp d0) = .func (.yield lp) #[] #[] := by
      show (bif Nat.blt d0 N.n then τ d0 else undef) = _
      rw [hd0, hτ, upd_ne _ _ _ _ hne, upd_same]; rfl
    have t1 : ev N τ (.tmp d1) = v := by
      show (bif Nat.blt d1 N.n then τ d1 else undef) = _
      rw [hd1, hτ, upd_same]; rfl
    refine ⟨fun _ _ => trivial, ?_⟩
    have hex : (execOp (ev N τ) ⟨some d2, .call ⟨.value (.tmp d0), #[.tmp d1], ts⟩, ty2, p2, a2, none⟩).run P w1 = .ok (.round lp fn tmps assign body) w1 := by
      simp [execOp, resolve, t0, t1, Deferred.ofValue, invoke]
      exact hy
    rw [show Fence.wide.round = none from rfl, Oper.semAt_none, eval_Fr', hex]
    refine ⟨fun h => by simp [Fence.wide] at h, hR.mono ?_⟩
    rintro e w' ⟨u, rfl, hp⟩
    obtain ⟨hS, hK⟩ := k u w' hp
    show wpAnyIn _ _ _ _ _ _ _ _ ((Fr N τ).put (some d2) u) w'
    rw [put_some, hτ, hf']
    exact wpAny_wide (Q := NP Q) (fun h => hno h) _ _ _ _ (wpAny_from hsel hn hs hch hB' inv3 hS hK)
  rw [hf]
  refine wpAnyIn_all (rs := [0, 1]) (by rw [← hf]; exact r0) (by simp) fun i hi => ?_
  have hi : i = 0 ∨ i = 1 := by simpa using hi
  rw [← hf]
  rcases hi with rfl | rfl
  · refine wpOpIn_val rfl (fun _ => trivial) e0 (v := .func (.yield lp) #[] #[]) (by simp [execOp, hx0]) ?_
    refine wpAnyIn_all r1 (by simp) fun i hi => ?_
    have hi : i = 1 := by simpa using hi
    subst hi
    refine wpOpIn_val rfl (fun _ => trivial) e1 (v := v) (by simp [execOp, hx1, Instr.loadAt, Instr.sureAddr, loadVar, hT.noAgg, hc]) ?_
    rw [← hτ]; exact fin
  · refine wpOpIn_val rfl (fun _ => trivial) e1 (v := v) (by simp [execOp, hx1', Instr.loadAt, Instr.sureAddr, loadVar, hT.noAgg, hc]) ?_
    refine wpAnyIn_all r2 (by simp) fun i hi => ?_
    have hi : i = 0 := by simpa using hi
    subst hi
    refine wpOpIn_val rfl (fun _ => trivial) e0 (v := .func (.yield lp) #[] #[]) (by simp [execOp, hx0']) ?_
    rw [upd_comm (Ne.symm hne), ← hτ, Array.setIfInBounds_comm _ _ (by omega)]; exact fin
/-! ## The statement -/
/-- What the one call of a range over a function must lead to: the record is not busy; the pending jump is what is done next. -/
def RangeP (P : Program) (lp : Nat) (Q : Exit → Act → World → Prop) (a : Act) (w : World) : Prop :=
  ∃ r w', w.heap[lp]? = some (.loop r) ∧ r.state ≠ .busy ∧ w' = w.putObj lp (.loop { r with state := .exhausted }) ∧
    (match r.pending with
     | none => Q .normal a w'
     | some c => c.wp P Q a w')
theorem rangeFunc_ {M : Nat} {g : Operand} {ps : Array Tmp} {assign body : Code} {gf : FuncId} {lb : List Value} (hf : FnT P gf) (hx : ev ⟨M, []⟩ σ g = .func (.func gf) #[] lb.toArray)
    (h : ∀ fn : FuncId, CallsOk P gf ((.func (.yield (w.heap.size + 1)) #[] #[] :: lb).toArray)
      ((w.alloc (.deferred (some []))).alloc (.loop { state := .ready, pending := none, fn, tmps := (Fr ⟨M, []⟩ σ).tmps, params := ps, assign, body, defers := w.heap.size }))
      fun _ w' => RangeP P (w.heap.size + 1) Q (Fr ⟨M, [{ target := .collected w.heap.size, args := #[] }]⟩ σ) w') :
    (Code.rangeFunc g ps assign body).wp P Q (Fr ⟨M, []⟩ σ) w := by
  refine (wpIn_wide (n := 1)).1 (wpIn_rangeFunc ?_)
  intro fn _
  have h := h fn
  have hent := run_enterLoop_outer (P := P) (w := w) fn (Fr ⟨M, []⟩ σ).tmps ps assign body
  obtain ⟨W1, hW1⟩ : ∃ W1, W1 = ((w.alloc (.deferred (some []))).alloc (.loop { state := .ready, pending := none, fn, tmps := (Fr ⟨M, []⟩ σ).tmps, params := ps, assign, body, defers := w.heap.size })) := ⟨_, rfl⟩
  rw [← hW1] at h hent
  refine ⟨w.heap.size + 1, [{ target := .collected w.heap.size, args := #[] }], W1, { target := .fn (.func gf) lb.toArray, args := #[.func (.yield (w.heap.size + 1)) #[] #[]] }, W1, gf,
    #[.func (.yield (w.heap.size + 1)) #[] #[]] ++ lb.toArray, W1, hent, ?_, fun _ _ => trivial, ?_, fun h => by simp [Fence.wide] at h, ?_⟩
  · simp only [resolve, rangeCall]
    rw [eval_Fr', hx]
    simp [Deferred.ofValue, ev]
  · simp [invoke, run_callFn hf]
  · refine callsIn_wide.2 ?_
    have e : (#[.func (.yield (w.heap.size + 1)) #[] #[]] ++ lb.toArray : Array Value) = (.func (.yield (w.heap.size + 1)) #[] #[] :: lb).toArray := by simp
    rw [e]
    refine Calls.mono h ?_
    rintro e w' ⟨v, rfl, r, w'', h1, h2, rfl, h3⟩
    refine ⟨r.pending, _, run_endLoop h1 h2, ?_⟩
    cases hp : r.pending with
    | none => rw [hp] at h3; exact h3
    | some c => rw [hp] at h3; exact wpIn_wide.2 h3
end Go.Eng
set_option linter.unusedVariables false
set_option linter.unusedSimpArgs false
namespace Go.Eng
open Go Go.RowKit
variable {P : Program} {ops : Array Oper} {Q : Exit → Act → World → Prop} {n lp : Nat} {N : NN} {σ : Env} {w w' : World}
def noDefer (o : Oper) : Bool := match o.op with | .defer _ => false | _ => true
theorem oper_round {o : Oper} {a : Act} {w : World} {K : Act → World → Prop} (hd : noDefer o = true) (h : o.wp P a w K Q) : o.wpIn (Fence.wide.inRound lp) n P a w K Q := by
  have h := oper_wide (n := n) h
  refine ⟨fun _ _ => trivial, ?_⟩
  have hnd : ∀ c, o.op ≠ .defer c := fun c hc => by unfold noDefer at hd; rw [hc] at hd; cases hd
  rw [show (Fence.wide.inRound lp).round = some lp from rfl, Oper.semAt_some _ _ _ hnd]
  exact h.2
theorem list_round (hno : ¬ LetsOut Q) : ∀ (l : List Oper) (a : Act) (w : World), l.all noDefer = true → wpList P ops Q l a w → wpListIn (Fence.wide.inRound lp) n P ops Q l a w
  | [], _, _, _, h => h
  | o :: l, a, w, hd, h => by
    simp only [List.all_cons, Bool.and_eq_true] at hd
    unfold wpList at h
    unfold wpListIn
    split
    · rename_i hw
      rw [if_pos hw] at h
      rcases h with h | h
      · exact Oper.wpIn_mono (fun a w => list_round hno l a w hd.2) (oper_round hd.1 h)
      · exact absurd h.2 hno
    · rename_i hw
      rw [if_neg hw] at h
      exact ⟨fun _ _ => trivial, list_round hno l _ _ hd.2 h⟩
/-- Code in a round. -/
abbrev WR (P : Program) (lp : Nat) (c : Code) (Q : Exit → Act → World → Prop) (a : Act) (w : World) : Prop := c.wpIn (Fence.wide.inRound lp) 0 P Q a w
theorem regionR {id : Nat} {l : List Oper} (hno : ¬ LetsOut Q) (hd : l.all noDefer = true) (h : RL P N l Q l σ w) : WR P lp (Code.region id l.toArray false) Q (Fr N σ) w :=
  wpIn_region_lit (list_round hno _ _ _ hd h)
def SR (P : Program) (lp : Nat) (y : Code) (Q : Exit → Act → World → Prop) : Exit → Act → World → Prop := Exit.then (WR P lp y Q) Q
theorem seqR {x y : Code} (h : WR P lp x (SR P lp y Q) (Fr N σ) w) : WR P lp (Code.seq x y) Q (Fr N σ) w := wpIn_seq h
theorem sr_normal {y : Code} {a : Act} (h : WR P lp y Q a w) : SR P lp y Q .normal a w := h
theorem sr_ret {y : Code} {a : Act} (h : Q .ret a w) : SR P lp y Q .ret a w := h
theorem condR_t {c : Operand} {x y : Code} (hc : ev N σ c = .bool true) (h : WR P lp x Q (Fr N σ) w) : WR P lp (Code.cond c x y) Q (Fr N σ) w := wpIn_cond_true (by rw [eval_Fr]; exact hc) h
theorem condR_f {c : Operand} {x y : Code} (hc : ev N σ c = .bool false) (h : WR P lp y Q (Fr N σ) w) : WR P lp (Code.cond c x y) Q (Fr N σ) w := wpIn_cond_false (by rw [eval_Fr]; exact hc) h
theorem skipR (h : Q .normal (Fr N σ) w) : WR P lp Code.skip Q (Fr N σ) w := wpIn_skip h
theorem retR (h : Q .ret (Fr N σ) w) : WR P lp Code.ret Q (Fr N σ) w := wpIn_ret h
theorem blockR {id : Nat} {c : Code} (h : WR P lp c (Exit.inBlock id Q) (Fr N σ) w) : WR P lp (Code.block id c) Q (Fr N σ) w := wpIn_block h
/-- One round: what yield hands in is put into the loop's slot; the record is busy while the body runs. -/
theorem round_ {M : Nat} {fn : FuncId} {assign body : Code} {R : Ending → World → Prop} {r : Loop} (hl : w.heap[lp]? = some (.loop r)) (hr : r.state = .ready)
    (ha : ∀ K : Env → World → Prop, (∀ σ', (w.putObj lp (.loop { r with state := .busy })).heap[lp]? = some (.loop { r with state := .busy }) →
        (WR P lp body (roundPost P lp R) (Fr ⟨M, []⟩ σ') (w.putObj lp (.loop { r with state := .busy }))) → K σ' w) → WR P lp assign (KQ ⟨M, []⟩ K (fun _ _ _ => False)) (Fr ⟨M, []⟩ σ) w) :
    RoundIn Fence.wide 0 P lp fn (Fr ⟨M, []⟩ σ).tmps assign body w R := by
  refine roundIn_of_wpIn trivial ?_
  have hlt : lp < w.heap.size := (Array.getElem?_eq_some_iff.1 hl).1
  have h := ha (fun σ' w' => w' = w ∧ WR P lp body (roundPost P lp R) (Fr ⟨M, []⟩ σ') (w.putObj lp (.loop { r with state := .busy }))) (fun σ' _ h => ⟨rfl, h⟩)
  refine wpIn_mono h ?_
  rintro e a w' hq
  cases e with
  | normal =>
    obtain ⟨σ', rfl, rfl, h2⟩ := hq
    exact ⟨_, run_beginRound hl hr, h2⟩
  | _ => exact hq
theorem putObj_chg (w : World) (b : Nat) (o : Obj) : Chg b w (w.putObj b o) := ⟨rfl, rfl, rfl, by simp, fun k _ hne => World.putObj_heap_other hne⟩
theorem Mem.putObj {w0 : World} {L : List Ent} {V : Vw} {i b : Nat} {o : Obj} (o' : Obj) (h : Mem w0 w L V) (hi : L[i]? = some (.obj b o)) : Mem w0 (w.putObj b o') (L.set i (.obj b o')) V :=
  h.setObj hi (putObj_chg _ _ _) (World.putObj_heap_same (Array.getElem?_eq_some_iff.1 (h.getObj hi)).1)
/-- How a round's body may end: the record is turned, yield tells whether to go on. -/
theorem rp_normal {R : Ending → World → Prop} {a : Act} {r : Loop} (hl : w.heap[lp]? = some (.loop r)) (h : R (.returned (.bool true)) (w.putObj lp (.loop { r with state := .ready, pending := none }))) : roundPost P lp R .normal a w :=
  ⟨_, _, run_endRound none hl, h⟩
theorem rp_ret {R : Ending → World → Prop} {a : Act} {r : Loop} (hl : w.heap[lp]? = some (.loop r)) (h : R (.returned (.bool false)) (w.putObj lp (.loop { r with state := .done, pending := some .ret }))) : roundPost P lp R .ret a w :=
  ⟨_, _, run_endRound (some .ret) hl, h⟩
/-- What yield's argument makes of the record's slots. -/
theorem run_yield1 {M : Nat} {r : Loop} {p : Tmp} {v : Value} (hl : w.heap[lp]? = some (.loop r)) (hp : r.params = #[p]) (ht : r.tmps = (Fr ⟨M, []⟩ σ).tmps) :
    (Instr.yield lp #[v]).run P w = .ok (.round lp r.fn (Fr ⟨M, []⟩ (upd σ p v)).tmps r.assign r.body) w := by
  have h := run_yield (P := P) (args := #[v]) hl (by rw [hp]; rfl)
  rw [h, hp, ht]
  have e := put_some ⟨M, []⟩ σ p v
  have e2 : ((Fr ⟨M, []⟩ σ).put (some p) v).tmps = (Fr ⟨M, []⟩ (upd σ p v)).tmps := by rw [e]
  rw [← e2]
  simp [Act.put]
end Go.Eng
set_option linter.unusedVariables false
set_option linter.unusedSimpArgs false
namespace Go.Eng
open Go Go.RowKit Go.MapKept
variable {P : Program} {N : NN} {Q : Exit → Act → World → Prop} {S : World → Prop} {σ : Env} {w0 w w' : World} {ops rest : List Oper} {r : List (Nat × Bool)}
  {d : Tmp} {ty : TypeId} {pos : String} {af : Array Edge} {g : Option (Nat × Bool)} {io nt : Nat} {L : List Ent} {V : Vw}
/-- From place o of a row stand these cells. -/
def ORow (xs : List Value) (o : Nat) (vs : List Value) : Prop := ∀ (j : Nat) u, vs[j]? = some u → xs[o + j]? = some u
theorem ORow.get {xs vs : List Value} {o j : Nat} {u : Value} (h : ORow xs o vs) (hj : vs[j]? = some u) : xs[o + j]? = some u := h j u hj
theorem ORow.get0 {xs vs : List Value} {o : Nat} {u : Value} (h : ORow xs o vs) (hj : vs[0]? = some u) : xs[o]? = some u := h 0 u hj
theorem ORow.one {xs : List Value} {o : Nat} {u : Value} (h : xs[o]? = some u) : ORow xs o [u] := fun j v hj => by
  match j, hj with
  | 0, hj => simp at hj; subst hj; exact h
theorem ORow.fit {xs vs : List Value} {o : Nat} (h : ORow xs o vs) (h0 : 0 < vs.length) : o + vs.length ≤ xs.length := by
  have h1 : vs[vs.length - 1]? = some vs[vs.length - 1] := List.getElem?_eq_getElem (by omega)
  have := (List.getElem?_eq_some_iff.1 (h _ _ h1)).1
  omega
theorem Mem.cellO {i n e sz c b o : Nat} {xs : List Value} {v : Value} (h : Mem w0 w L V) (hi : L[i]? = some (.own (.slice (some ⟨b, 0, none⟩) n c) e sz n xs)) (ho : xs[o]? = some v) : w.cell? ⟨b, o, none⟩ = some v := by
  obtain ⟨b', hO, _⟩ := h.own hi
  have hc := hO.cell ho
  rcases hO.2 with ⟨h1, _⟩ | ⟨cap, spare, h1, _⟩
  · cases h1
  · cases h1; exact hc
theorem Mem.ownA {i n e sz : Nat} {xs : List Value} {v : Value} (h : Mem w0 w L V) (hi : L[i]? = some (.own v e sz n xs)) (h0 : 0 < n) : ∃ b c, v = .slice (some ⟨b, 0, none⟩) n c ∧ n ≤ c ∧ c ≤ maxLen := by
  obtain ⟨b, hO, _⟩ := h.own hi
  obtain ⟨a, c, h1, h2, h3, h4⟩ := hO.shape
  exact ⟨b, c, by rw [h1, h4 h0], h2, h3⟩
theorem Mem.ownLen {i n e sz : Nat} {xs : List Value} {v : Value} (h : Mem w0 w L V) (hi : L[i]? = some (.own v e sz n xs)) : xs.length = n * sz := by
  obtain ⟨b, hO, _⟩ := h.own hi
  exact hO.1
theorem rl_loadO {t : TypeId} {x : Operand} {b o n c e sz : Nat} {xs : List Value} {v : Value} (i : Nat) (hM : Mem w0 w L V) (hT : VarT P t) (hg : want N ops σ g = true) (hx : ev N σ x = .pointer (some ⟨b, o, none⟩)) (hi : L[i]? = some (.own (.slice (some ⟨b, 0, none⟩) n c) e sz n xs)) (hc : xs[o]? = some v)
    (k : RL P N ops Q rest (upd σ d v) w) : RL P N ops Q (⟨some d, .load t x, ty, pos, af, g⟩ :: rest) σ w := rl_load hT hg hx (hM.cellO hi hc) k
theorem rx_loadO {t : TypeId} {x : Operand} {b o n c e sz : Nat} {xs : List Value} {v : Value} (i : Nat) (ho : ops[io]? = some ⟨some d, .load t x, ty, pos, af, g⟩) (hS : ∀ w, S w → Mem w0 w L V) (hT : VarT P t) (hg : want N ops σ g = true) (hx : ev N σ x = .pointer (some ⟨b, o, none⟩)) (hi : L[i]? = some (.own (.slice (some ⟨b, 0, none⟩) n c) e sz n xs)) (hc : xs[o]? = some v)
    (k : RX P N ops Q S nt r (upd σ d v) w) : RX P N ops Q S nt ((io, false) :: r) σ w := rx_load ho hT hg hx (fun w h => (hS w h).cellO hi hc) k
theorem rl_loadAO {t m : Nat} {zs vs : List Value} {x : Operand} {b o n c e sz : Nat} {xs : List Value} (i : Nat) (hM : Mem w0 w L V) (hA : AgT P t m zs) (hg : want N ops σ g = true) (hx : ev N σ x = .pointer (some ⟨b, o, none⟩)) (hi : L[i]? = some (.own (.slice (some ⟨b, 0, none⟩) n c) e sz n xs)) (hc : ORow xs o vs) (hl : vs.length = m)
    (k : RL P N ops Q rest (upd σ d (.agg vs.toArray)) w) : RL P N ops Q (⟨some d, .load t x, ty, pos, af, g⟩ :: rest) σ w :=
  rl_loadA vs hA hg hx hl (fun j u hj => hM.cellO hi (hc j u hj)) k
theorem rx_loadAO {t m : Nat} {zs vs : List Value} {x : Operand} {b o n c e sz : Nat} {xs : List Value} (i : Nat) (ho : ops[io]? = some ⟨some d, .load t x, ty, pos, af, g⟩) (hS : ∀ w, S w → Mem w0 w L V) (hA : AgT P t m zs) (hg : want N ops σ g = true) (hx : ev N σ x = .pointer (some ⟨b, o, none⟩)) (hi : L[i]? = some (.own (.slice (some ⟨b, 0, none⟩) n c) e sz n xs)) (hc : ORow xs o vs) (hl : vs.length = m)
    (k : RX P N ops Q S nt r (upd σ d (.agg vs.toArray)) w) : RX P N ops Q S nt ((io, false) :: r) σ w :=
  rx_val ho hg (fun w h => by
    have h2 := run_loadAg (w := w) hA hl (fun j u hj => (hS w h).cellO hi (hc j u hj))
    simp [execOp, hx, Instr.loadAt, Instr.sureAddr, h2]) k
theorem Own.storeA {e sz n b o : Nat} {v : Value} {xs vs : List Value} (h : Own w e sz v n xs b) (ho : o + vs.length ≤ xs.length) (h0 : 0 < vs.length) :
    ∃ cs, Blk w b cs e ∧ o + vs.length ≤ cs.length ∧ ∀ (w' : World), Blk w' b (cs.take o ++ vs ++ cs.drop (o + vs.length)) e → Own w' e sz v n (xs.take o ++ vs ++ xs.drop (o + vs.length)) b := by
  obtain ⟨h1, h2⟩ := h
  rcases h2 with ⟨rfl, rfl⟩ | ⟨cap, spare, rfl, h3, h4, h5, h6⟩
  · simp at h1; subst h1; simp at ho; obtain ⟨_, rfl⟩ := ho; simp at h0
  · have e1 : (xs ++ spare).take o = xs.take o := by rw [List.take_append_of_le_length (by omega)]
    have e2 : (xs ++ spare).drop (o + vs.length) = xs.drop (o + vs.length) ++ spare := by rw [List.drop_append_of_le_length (by omega)]
    refine ⟨xs ++ spare, h6, by simp; omega, fun w' hB => ⟨by simp at h1 ⊢; omega, .inr ⟨cap, spare, rfl, h3, h4, ?_, ?_⟩⟩⟩
    · simp at h5 ⊢; omega
    · rw [e1, e2, ← List.append_assoc] at hB; exact hB
theorem rl_storeAO {t m : Nat} {zs vs xs : List Value} {x y : Operand} {b o n c e sz : Nat} (i : Nat) (hM : Mem w0 w L V) (hA : AgT P t m zs) (hg : want N ops σ g = true) (hx : ev N σ x = .pointer (some ⟨b, o, none⟩)) (hy : ev N σ y = .agg vs.toArray) (hl : vs.length = m) (h1 : vs.all (·.oneCell') = true)
    (hi : L[i]? = some (.own (.slice (some ⟨b, 0, none⟩) n c) e sz n xs)) (ho : o + m ≤ xs.length) (h0 : 0 < m)
    (k : ∀ w', Mem w0 w' (L.set i (.own (.slice (some ⟨b, 0, none⟩) n c) e sz n (xs.take o ++ vs ++ xs.drop (o + vs.length)))) V → RL P N ops Q rest σ w') : RL P N ops Q (⟨none, .store t x y, ty, pos, af, g⟩ :: rest) σ w := by
  subst hl
  obtain ⟨b', hO, hput⟩ := hM.own hi
  have hb : b' = b := by
    rcases hO.2 with ⟨h1, _⟩ | ⟨cap, spare, h1, _⟩
    · cases h1
    · cases h1; rfl
  subst hb
  obtain ⟨cs, hB, hfit, hnew⟩ := hO.storeA ho h0
  exact rl_storeA hA hg hx hy rfl (by simpa using h1) hB hfit (fun w' hB' hc _ => k w' (hput w' _ _ _ _ (hnew w' hB') (.inl rfl) hc))
theorem rl_storeO {t : Nat} {xs : List Value} {v : Value} {x y : Operand} {b o n c e sz : Nat} (i : Nat) (hM : Mem w0 w L V) (hT : VarT P t) (hg : want N ops σ g = true) (hx : ev N σ x = .pointer (some ⟨b, o, none⟩)) (hy : ev N σ y = v) (h1 : v.oneCell' = true)
    (hi : L[i]? = some (.own (.slice (some ⟨b, 0, none⟩) n c) e sz n xs)) (ho : o < xs.length)
    (k : ∀ w', Mem w0 w' (L.set i (.own (.slice (some ⟨b, 0, none⟩) n c) e sz n (xs.set o v))) V → RL P N ops Q rest σ w') : RL P N ops Q (⟨none, .store t x y, ty, pos, af, g⟩ :: rest) σ w := by
  obtain ⟨b', hO, hput⟩ := hM.own hi
  rcases hO.2 with ⟨h2, _⟩ | ⟨cap, spare, h2, h3, h4, h5, h6⟩
  · cases h2
  · cases h2
    refine rl_store hT hg hx hy h1 h6 (by simp; omega) (fun w' hB' hc _ => k w' (hput w' _ _ _ _ ⟨by have := hO.1; simpa using this, .inr ⟨c, spare, rfl, h3, h4, by simpa using h5, ?_⟩⟩ (.inl rfl) hc))
    rwa [List.set_append_left _ _ ho] at hB'
/-! ## Own things in another row -/
theorem Mem.perm' : ∀ {L L' : List Ent}, L.Perm L' → ∀ pre, Mem w0 w (pre ++ L) V → Mem w0 w (pre ++ L') V := by
  intro L L' hp
  induction hp with
  | nil => exact fun _ h => h
  | cons x _ ih => intro pre h; have := ih (pre ++ [x]) (by simpa using h); simpa using this
  | swap x y l =>
    intro pre h
    have h1 : (pre ++ y :: x :: l)[pre.length + 1]? = some x := by rw [List.getElem?_append_right (by omega)]; simp
    refine h.pick (fun i => if i = pre.length then pre.length + 1 else if i = pre.length + 1 then pre.length else i) (fun i e hi => ?_) (fun i j _ _ hij => ?_)
    · split
      · rename_i he; subst he
        rw [List.getElem?_append_right (by omega)] at hi ⊢
        simp at hi ⊢; exact hi
      · split
        · rename_i he; subst he
          rw [List.getElem?_append_right (by omega)] at hi ⊢
          simp at hi ⊢; exact hi
        · rename_i h2 h3
          rcases Nat.lt_or_ge i pre.length with hlt | hge
          · rw [List.getElem?_append_left hlt] at hi ⊢; exact hi
          · rw [List.getElem?_append_right hge] at hi ⊢
            obtain ⟨m, hm⟩ : ∃ m, i - pre.length = m + 2 := ⟨i - pre.length - 2, by omega⟩
            rw [hm] at hi ⊢
            simpa using hi
    · split at hij <;> split at hij <;> try split at hij
      all_goals (try split at hij)
      all_goals omega
  | trans _ _ ih1 ih2 => exact fun pre h => ih2 pre (ih1 pre h)
theorem Mem.perm {L L' : List Ent} (h : Mem w0 w L V) (hp : L.Perm L') : Mem w0 w L' V := h.perm' hp []
/-- What is ahead is put behind. -/
theorem Mem.behind {A B : List Ent} (h : Mem w0 w (A ++ B) V) : Mem w0 w (B ++ A) V := h.perm List.perm_append_comm
theorem Mem.newLoop {r : Loop} (h : Mem w0 w L V) : Mem w0 ((w.alloc (.deferred (some []))).alloc (.loop r)) (.obj (w.heap.size + 1) (.loop r) :: .obj w.heap.size (.deferred (some [])) :: L) V := by
  have := (h.newObj (o := .deferred (some []))).newObj (o := .loop r)
  simpa using this
/-! ## Maps -/
/-- The object of a map, its entries by the row in which they were laid. -/
def MapIs (o : Obj) (m : List (Value × Value)) : Prop := ∃ es c, o = .map es c ∧ es.toList.map (fun e => (e.key, e.val)) = m
theorem rl_makeMapM {t : TypeId} (hM : Mem w0 w L V) (hg : want N ops σ g = true)
    (k : ∀ w' b o, MapIs o [] → Mem w0 w' (.obj b o :: L) V → RL P N ops Q rest (upd σ d (.map (some b))) w') : RL P N ops Q (⟨some d, .makeMap t none, ty, pos, af, g⟩ :: rest) σ w :=
  rl_val hg (by simp [execOp, run_makeMap]) (k _ _ _ ⟨#[], 0, rfl, rfl⟩ hM.newObj)
variable {t kt et : TypeId} {kd : TypeDesc} {m : List (Value × Value)} {o : Obj} {b : Nat} {key val z : Value} {x y u : Operand}
theorem mapIs_keys {es : Array MapEntry} (h : es.toList.map (fun e => (e.key, e.val)) = m) (hk : ∀ p ∈ m, IsKey kd p.1) : ∀ e ∈ es.toList, IsKey kd e.key := fun e he => hk _ (h ▸ List.mem_map.2 ⟨e, he, rfl⟩)
theorem findNow_t {es : Array MapEntry} {j : Nat} (h : es.toList.map (fun e => (e.key, e.val)) = m) (hk : ∀ p ∈ m, IsKey kd p.1) (hkey : IsKey kd key) (hj : m[j]? = some (key, val)) (hfirst : ∀ i v, i < j → m[i]? ≠ some (key, v)) :
    ∃ e, Instr.findNow kd key es.toList 0 = some (some (j, val)) ∧ es.toList[j]? = some e ∧ e.key = key ∧ e.val = val := by
  subst h
  rw [List.getElem?_map, Option.map_eq_some_iff] at hj
  obtain ⟨e, he, hee⟩ := hj
  simp only [Prod.mk.injEq] at hee
  rcases findNow_spec hkey es.toList 0 (mapIs_keys rfl hk) with ⟨h1, h2⟩ | ⟨j', e', h1, h2, h3⟩
  · exact absurd hee.1 (h2 e (List.mem_of_getElem? he))
  · -- the first one that is found is the first one that is there
    have hmin : ∀ (l : List MapEntry) (i j' : Nat) (e' : MapEntry), (∀ x ∈ l, IsKey kd x.key) → Instr.findNow kd key l i = some (some (i + j', e'.val)) → l[j']? = some e' → ∀ q e2, q < j' → l[q]? = some e2 → e2.key ≠ key := by
      intro l
      induction l with
      | nil => intro i j' e' _ _ h; simp at h
      | cons a l ih =>
        intro i j' e' hks hf hj q e2 hq hqe heq
        obtain ⟨r, hr, hiff⟩ := sameNow_of_keys hkey (hks a (.head _))
        cases j' with
        | zero => omega
        | succ j' =>
          cases r with
          | true =>
            simp [Instr.findNow, hr] at hf
          | false =>
            simp [Instr.findNow, hr] at hf
            cases q with
            | zero =>
              simp at hqe; subst hqe
              have := hiff.2 heq.symm; cases this
            | succ q => exact ih (i + 1) j' e' (fun x hx => hks x (.tail _ hx)) (by rw [hf]; congr 3; omega) (by simpa using hj) q e2 (by omega) (by simpa using hqe) heq
    have hj' : j' = j := by
      rcases Nat.lt_trichotomy j' j with hlt | heq | hgt
      · exact absurd (by rw [List.getElem?_map, h2]; simp [h3]) (hfirst j' e'.val hlt)
      · exact heq
      · exact absurd hee.1 (hmin es.toList 0 j' e' (mapIs_keys rfl hk) h1 h2 j e hgt he)
    subst hj'
    rw [h2] at he; cases he
    exact ⟨e, by rw [h1, hee.2]; simp, h2, h3, hee.2⟩
theorem findNow_f {es : Array MapEntry} (h : es.toList.map (fun e => (e.key, e.val)) = m) (hk : ∀ p ∈ m, IsKey kd p.1) (hkey : IsKey kd key) (hno : ∀ p ∈ m, p.1 ≠ key) : Instr.findNow kd key es.toList 0 = some none := by
  subst h
  rcases findNow_spec hkey es.toList 0 (mapIs_keys rfl hk) with ⟨h1, h2⟩ | ⟨j', e', h1, h2, h3⟩
  · exact h1
  · exact absurd h3 (hno (e'.key, e'.val) (List.mem_map.2 ⟨e', List.mem_of_getElem? h2, rfl⟩))
theorem rl_lookup_t {j : Nat} (i : Nat) (hM : Mem w0 w L V) (ht : P.underlying t = some (.map kt et)) (hkt : P.underlying kt = some kd) (hg : want N ops σ g = true) (hx : ev N σ x = .map (some b)) (hy : ev N σ y = key) (hi : L[i]? = some (.obj b o)) (ho : MapIs o m)
    (hk : ∀ p ∈ m, IsKey kd p.1) (hkey : IsKey kd key) (hj : m[j]? = some (key, val)) (hfirst : ∀ i v, i < j → m[i]? ≠ some (key, v))
    (k : RL P N ops Q rest (upd σ d (.tuple #[val, .bool true])) w) : RL P N ops Q (⟨some d, .lookup t x y true, ty, pos, af, g⟩ :: rest) σ w := by
  obtain ⟨es, c, rfl, hm⟩ := ho
  obtain ⟨e, h1, _, _, _⟩ := findNow_t hm hk hkey hj hfirst
  have hb := hM.getObj hi
  exact rl_val hg (by simp [execOp, hx, hy, Instr.lookup, run_underlying ht, MapKept.run_getObj_map hb, run_checkKey hkt hkey, run_findKey hkt h1, Result.andThen]) k
theorem rl_lookup_f (i : Nat) (hM : Mem w0 w L V) (ht : P.underlying t = some (.map kt et)) (hkt : P.underlying kt = some kd) (hz : (P.info? et).map (·.zero) = some (some z)) (hg : want N ops σ g = true) (hx : ev N σ x = .map (some b)) (hy : ev N σ y = key) (hi : L[i]? = some (.obj b o)) (ho : MapIs o m)
    (hk : ∀ p ∈ m, IsKey kd p.1) (hkey : IsKey kd key) (hno : ∀ p ∈ m, p.1 ≠ key)
    (k : RL P N ops Q rest (upd σ d (.tuple #[z, .bool false])) w) : RL P N ops Q (⟨some d, .lookup t x y true, ty, pos, af, g⟩ :: rest) σ w := by
  obtain ⟨es, c, rfl, hm⟩ := ho
  have h1 := findNow_f hm hk hkey hno
  have hb := hM.getObj hi
  simp only [Option.map_eq_some_iff] at hz
  obtain ⟨inf, hi1, hi2⟩ := hz
  exact rl_val hg (by simp [execOp, hx, hy, Instr.lookup, run_underlying ht, MapKept.run_getObj_map hb, run_checkKey hkt hkey, run_findKey hkt h1, Result.andThen, zeroValue, typeInfo, hi1, hi2]) k
theorem rl_mapPut (i : Nat) (hM : Mem w0 w L V) (ht : P.underlying t = some (.map kt et)) (hkt : P.underlying kt = some kd) (hg : want N ops σ g = true) (hx : ev N σ x = .map (some b)) (hy : ev N σ y = key) (hu : ev N σ u = val) (hi : L[i]? = some (.obj b o)) (ho : MapIs o m)
    (hk : ∀ p ∈ m, IsKey kd p.1) (hkey : IsKey kd key) (hno : ∀ p ∈ m, p.1 ≠ key)
    (k : ∀ w' o', MapIs o' (m ++ [(key, val)]) → Mem w0 w' (L.set i (.obj b o')) V → RL P N ops Q rest σ w') : RL P N ops Q (⟨none, .mapUpdate t x y u, ty, pos, af, g⟩ :: rest) σ w := by
  obtain ⟨es, c, rfl, hm⟩ := ho
  have h1 := findNow_f hm hk hkey hno
  have hb := hM.getObj hi
  have hlt : b < w.heap.size := (Array.getElem?_eq_some_iff.1 hb).1
  refine rl_unit hg (w' := { w with heap := w.heap.setIfInBounds b (.map (es.push { key, val, born := c }) (c + 1)) }) (by simp [execOp, hx, hy, hu, Instr.mapUpdate, run_underlying ht, MapKept.run_getObj_map hb, run_checkKey hkt hkey, run_findKey hkt h1, MapKept.run_setObj_map _ hb, Result.andThen]) (k _ _ ⟨_, _, rfl, ?_⟩ (hM.setObj hi ⟨rfl, rfl, rfl, by simp, fun k _ hne => (heap_set hb).2 k hne⟩ (heap_set hb).1))
  simp [hm]
/-! ## What a function value has captured -/
theorem rl_mkfunc1 {f : FuncId} {c1 : Operand} {v1 : Value} (hg : want N ops σ g = true) (h1 : ev N σ c1 = v1)
    (k : RL P N ops Q rest (upd σ d (.func (.func f) #[] [v1].toArray)) w) : RL P N ops Q (⟨some d, .makeFunc (.func f) #[] #[c1], ty, pos, af, g⟩ :: rest) σ w := rl_mkfunc (cap := [c1]) hg (by simp [h1]) k
theorem rl_mkfunc2 {f : FuncId} {c1 c2 : Operand} {v1 v2 : Value} (hg : want N ops σ g = true) (h1 : ev N σ c1 = v1) (h2 : ev N σ c2 = v2)
    (k : RL P N ops Q rest (upd σ d (.func (.func f) #[] [v1, v2].toArray)) w) : RL P N ops Q (⟨some d, .makeFunc (.func f) #[] #[c1, c2], ty, pos, af, g⟩ :: rest) σ w := rl_mkfunc (cap := [c1, c2]) hg (by simp [h1, h2]) k
theorem rl_mkfunc3 {f : FuncId} {c1 c2 c3 : Operand} {v1 v2 v3 : Value} (hg : want N ops σ g = true) (h1 : ev N σ c1 = v1) (h2 : ev N σ c2 = v2) (h3 : ev N σ c3 = v3)
    (k : RL P N ops Q rest (upd σ d (.func (.func f) #[] [v1, v2, v3].toArray)) w) : RL P N ops Q (⟨some d, .makeFunc (.func f) #[] #[c1, c2, c3], ty, pos, af, g⟩ :: rest) σ w := rl_mkfunc (cap := [c1, c2, c3]) hg (by simp [h1, h2, h3]) k
end Go.Eng
set_option linter.unusedVariables false
namespace Go.Eng
open Go Go.RowKit
variable {P : Program} {N : NN} {Q : Exit → Act → World → Prop}
theorem no_bp {fn : Func} {Post : Value → World → Prop} : ¬ LetsOut (BP P fn Post) := fun ⟨_, _, h⟩ => by
  obtain ⟨v, hv, _⟩ := h
  cases hv
theorem no_kq {K : Env → World → Prop} (h : ¬ LetsOut Q) : ¬ LetsOut (KQ N K Q) := h
theorem no_sq {y : Code} (h : ¬ LetsOut Q) : ¬ LetsOut (SQ P y Q) := h
theorem no_blk {id : Nat} (h : ¬ LetsOut Q) : ¬ LetsOut (Exit.inBlock id Q) := h
theorem no_sr {lp : Nat} {y : Code} (h : ¬ LetsOut Q) : ¬ LetsOut (SR P lp y Q) := h
theorem no_rp {lp : Nat} {R : Ending → World → Prop} : ¬ LetsOut (roundPost P lp R) := fun ⟨_, _, h⟩ => h
theorem no_false {K : Env → World → Prop} : ¬ LetsOut (KQ N K (fun _ _ _ => False)) := fun ⟨_, _, h⟩ => h
theorem kqf_normal {K : Env → World → Prop} {σ : Env} {w : World} (h : K σ w) : KQ N K (fun _ _ _ => False) .normal (Fr N σ) w := ⟨σ, rfl, h⟩
/-! ## Rounds over own things -/
variable {w0 w : World} {L : List Ent} {V : Vw} {lp : Nat} {r : Loop} {R : Ending → World → Prop}
theorem round_M {M : Nat} {fn : FuncId} {assign body : Code} {σ : Env} (hM : Mem w0 w (.obj lp (.loop r) :: L) V) (hr : r.state = .ready)
    (h : ∀ K : Env → World → Prop, (∀ σ', (∀ w', Mem w0 w' (.obj lp (.loop { r with state := .busy }) :: L) V → WR P lp body (roundPost P lp R) (Fr ⟨M, []⟩ σ') w') → K σ' w) →
      WR P lp assign (KQ ⟨M, []⟩ K (fun _ _ _ => False)) (Fr ⟨M, []⟩ σ) w) : RoundIn Fence.wide 0 P lp fn (Fr ⟨M, []⟩ σ).tmps assign body w R :=
  round_ (hM.getObj (i := 0) rfl) hr fun K hK => h K fun σ' hσ => hK σ' ((hM.putObj (.loop { r with state := .busy }) (i := 0) rfl).getObj (i := 0) rfl) (hσ _ (hM.putObj (.loop { r with state := .busy }) (i := 0) rfl))
theorem rpM_normal {a : Act} (hM : Mem w0 w (.obj lp (.loop r) :: L) V) (h : ∀ w', Mem w0 w' (.obj lp (.loop { r with state := .ready, pending := none }) :: L) V → R (.returned (.bool true)) w') : roundPost P lp R .normal a w :=
  rp_normal (hM.getObj (i := 0) rfl) (h _ (hM.putObj (.loop { r with state := .ready, pending := none }) (i := 0) rfl))
theorem rpM_ret {a : Act} (hM : Mem w0 w (.obj lp (.loop r) :: L) V) (h : ∀ w', Mem w0 w' (.obj lp (.loop { r with state := .done, pending := some .ret }) :: L) V → R (.returned (.bool false)) w') : roundPost P lp R .ret a w :=
  rp_ret (hM.getObj (i := 0) rfl) (h _ (hM.putObj (.loop { r with state := .done, pending := some .ret }) (i := 0) rfl))
theorem rangeP_M {a : Act} (hM : Mem w0 w (.obj lp (.loop r) :: L) V) (hr : r.state ≠ .busy)
    (h : ∀ w', Mem w0 w' (.obj lp (.loop { r with state := .exhausted }) :: L) V → match r.pending with | none => Q .normal a w' | some c => c.wp P Q a w') : RangeP P lp Q a w :=
  ⟨r, _, hM.getObj (i := 0) rfl, hr, rfl, h _ (hM.putObj (.loop { r with state := .exhausted }) (i := 0) rfl)⟩
theorem res_M1 {σ : Env} {a t b : Nat} {t' : TypeId} {v : Value} (i : Nat) (hM : Mem w0 w L V) (hT : VarT P t) (hx : ev N σ (.tmp a) = .pointer (some ⟨b, 0, none⟩)) (hi : L[i]? = some (.blk b [v] t')) : ResOk P N σ w (.cell a t) v :=
  ⟨_, hx, by simp [loadVar, hT.noAgg, hM.cell hi (o := 0) rfl]⟩
theorem bpM_x1 {M D i : Nat} {fn : Func} {σ : Env} {Post : Value → World → Prop} {r1 : ResultVar} {v1 : Value} {e : Exit} (hr : fn.results = #[r1]) (he : isEnd e = true) (hM : Mem w0 w L V) (hi : L[i]? = some (.obj D (.deferred (some []))))
    (h1 : ∀ w', Mem w0 w' (L.set i (.obj D (.deferred none))) V → ResOk P ⟨M, [{ target := .collected D, args := #[] }]⟩ σ w' r1 v1)
    (h : ∀ w', Mem w0 w' (L.set i (.obj D (.deferred none))) V → Post v1 w') :
    BP P fn Post e (Fr ⟨M, [{ target := .collected D, args := #[] }]⟩ σ) w :=
  bpm_x1 hr he (hM.getObj hi) (h1 _ (hM.putObj (.deferred none) hi)) (h _ (hM.putObj (.deferred none) hi))
end Go.Eng
set_option linter.unusedVariables false
namespace Go.Eng
open Go Go.RowKit
variable {P : Program} {N : NN} {Q : Exit → Act → World → Prop} {σ : Env} {w w' : World}
theorem cut_blk2 {id : Nat} {c y : Code} (ms : List (Nat × Nat)) (s1 s2 : Nat) (R : Value → Value → World → Prop) (h : c.wp P (Exit.inBlock id (KQ N (fun σ' w' => Agree ms σ σ' ∧ R (σ' s1) (σ' s2) w') Q)) (Fr N σ) w)
    (k : ∀ τ v1 v2 w', R v1 v2 w' → y.wp P Q (Fr N (upd (upd (ov ms τ σ) s1 v1) s2 v2)) w') : c.wp P (Exit.inBlock id (SQ P y Q)) (Fr N σ) w := by
  have key : ∀ (a : Act) (w : World), KQ N (fun σ' w' => Agree ms σ σ' ∧ R (σ' s1) (σ' s2) w') Q .normal a w → SQ P y Q .normal a w := by
    rintro a w ⟨σ', rfl, h1, h2⟩
    have := k σ' _ _ w h2
    rwa [ov_self h1, upd_self rfl, upd_self rfl] at this
  refine Code.wp_mono ?_ h
  intro e a w' hq
  cases e with
  | normal => exact key a w' hq
  | exit i =>
    simp only [Exit.inBlock] at hq ⊢
    split at hq
    · rename_i hi; rw [if_pos hi]; exact key a w' hq
    · rename_i hi; rw [if_neg hi]; exact hq
  | _ => exact hq
end Go.Eng
set_option linter.unusedVariables false
namespace Go.Eng
open Go Go.RowKit
variable {P : Program} {N : NN} {Q : Exit → Act → World → Prop} {σ : Env} {w w' : World}
theorem cut_seq2 {c y : Code} (ms : List (Nat × Nat)) (s1 s2 : Nat) (R : Value → Value → World → Prop) (h : c.wp P (KQ N (fun σ' w' => Agree ms σ σ' ∧ R (σ' s1) (σ' s2) w') Q) (Fr N σ) w)
    (k : ∀ τ v1 v2 w', R v1 v2 w' → y.wp P Q (Fr N (upd (upd (ov ms τ σ) s1 v1) s2 v2)) w') : c.wp P (SQ P y Q) (Fr N σ) w := by
  refine Code.wp_mono ?_ h
  intro e a w' hq
  cases e with
  | normal =>
    obtain ⟨σ', rfl, h1, h2⟩ := hq
    have := k σ' _ _ w' h2
    rw [ov_self h1, upd_self rfl, upd_self rfl] at this
    exact this
  | _ => exact hq
end Go.Eng
set_option linter.unusedVariables false
set_option linter.unusedSimpArgs false
namespace Go.Eng
open Go Go.RowKit
variable {P : Program} {N : NN} {Q : Exit → Act → World → Prop} {S : World → Prop} {σ : Env} {w0 w w' : World} {ops rest : List Oper} {r : List (Nat × Bool)}
  {d : Tmp} {ty : TypeId} {pos : String} {af : Array Edge} {g : Option (Nat × Bool)} {io nt : Nat} {L : List Ent} {V : Vw}
variable {x y : Operand} {m n : Int} {t t' : TypeId} {kd k' : IntKind}
theorem wrap_u32 {z : Int} (h1 : 0 ≤ z) (h2 : z ≤ 4294967295) : IntKind.u32.wrap z = z := by
  have : z % 4294967296 = z := Int.emod_eq_of_lt h1 (by omega)
  simp [IntKind.wrap, IntKind.bits, IntKind.signed, this]
theorem wrap_u64 {z : Int} (h1 : 0 ≤ z) (h2 : z ≤ 18446744073709551615) : IntKind.u64.wrap z = z := by
  have : z % 18446744073709551616 = z := Int.emod_eq_of_lt h1 (by omega)
  simp [IntKind.wrap, IntKind.bits, IntKind.signed, this]
theorem wrap_i32 {z : Int} (h1 : -2147483648 ≤ z) (h2 : z ≤ 2147483647) : IntKind.i32.wrap z = z := by
  simp only [IntKind.wrap, IntKind.bits, IntKind.signed]
  simp
  omega
theorem rl_kadd (hg : want N ops σ g = true) (hx : ev N σ x = .int kd m) (hy : ev N σ y = .int kd n) (hw : kd.wrap (m + n) = m + n)
    (k : RL P N ops Q rest (upd σ d (.int kd (m + n))) w) : RL P N ops Q (⟨some d, .binOp .add t x y t', ty, pos, af, g⟩ :: rest) σ w :=
  rl_val hg (by
    rw [run_intK .add hx hy _ rfl]; simp [binOp, Op.intArith, hw]) k
theorem rx_kadd (ho : ops[io]? = some ⟨some d, .binOp .add t x y t', ty, pos, af, g⟩) (hg : want N ops σ g = true) (hx : ev N σ x = .int kd m) (hy : ev N σ y = .int kd n) (hw : kd.wrap (m + n) = m + n)
    (k : RX P N ops Q S nt r (upd σ d (.int kd (m + n))) w) : RX P N ops Q S nt ((io, false) :: r) σ w :=
  rx_val ho hg (fun w _ => by
    rw [run_intK .add hx hy _ rfl]; simp [binOp, Op.intArith, hw]) k
theorem rl_ksub (hg : want N ops σ g = true) (hx : ev N σ x = .int kd m) (hy : ev N σ y = .int kd n) (hw : kd.wrap (m - n) = m - n)
    (k : RL P N ops Q rest (upd σ d (.int kd (m - n))) w) : RL P N ops Q (⟨some d, .binOp .sub t x y t', ty, pos, af, g⟩ :: rest) σ w :=
  rl_val hg (by
    rw [run_intK .sub hx hy _ rfl]; simp [binOp, Op.intArith, hw]) k
theorem rx_ksub (ho : ops[io]? = some ⟨some d, .binOp .sub t x y t', ty, pos, af, g⟩) (hg : want N ops σ g = true) (hx : ev N σ x = .int kd m) (hy : ev N σ y = .int kd n) (hw : kd.wrap (m - n) = m - n)
    (k : RX P N ops Q S nt r (upd σ d (.int kd (m - n))) w) : RX P N ops Q S nt ((io, false) :: r) σ w :=
  rx_val ho hg (fun w _ => by
    rw [run_intK .sub hx hy _ rfl]; simp [binOp, Op.intArith, hw]) k
theorem rl_kmul (hg : want N ops σ g = true) (hx : ev N σ x = .int kd m) (hy : ev N σ y = .int kd n) (hw : kd.wrap (m * n) = m * n)
    (k : RL P N ops Q rest (upd σ d (.int kd (m * n))) w) : RL P N ops Q (⟨some d, .binOp .mul t x y t', ty, pos, af, g⟩ :: rest) σ w :=
  rl_val hg (by
    rw [run_intK .mul hx hy _ rfl]; simp [binOp, Op.intArith, hw]) k
theorem rx_kmul (ho : ops[io]? = some ⟨some d, .binOp .mul t x y t', ty, pos, af, g⟩) (hg : want N ops σ g = true) (hx : ev N σ x = .int kd m) (hy : ev N σ y = .int kd n) (hw : kd.wrap (m * n) = m * n)
    (k : RX P N ops Q S nt r (upd σ d (.int kd (m * n))) w) : RX P N ops Q S nt ((io, false) :: r) σ w :=
  rx_val ho hg (fun w _ => by
    rw [run_intK .mul hx hy _ rfl]; simp [binOp, Op.intArith, hw]) k
theorem rl_krem (hg : want N ops σ g = true) (hx : ev N σ x = .int kd m) (hy : ev N σ y = .int kd n) (h1 : 0 ≤ m) (h2 : 0 < n)
    (k : RL P N ops Q rest (upd σ d (.int kd (m % n))) w) : RL P N ops Q (⟨some d, .binOp .rem t x y t', ty, pos, af, g⟩ :: rest) σ w :=
  rl_val hg (by
    rw [run_intK .rem hx hy _ rfl]
    have : n ≠ 0 := by omega
    simp [binOp, Op.intDiv, this, Int.tmod_eq_emod_of_nonneg h1]) k
theorem rx_krem (ho : ops[io]? = some ⟨some d, .binOp .rem t x y t', ty, pos, af, g⟩) (hg : want N ops σ g = true) (hx : ev N σ x = .int kd m) (hy : ev N σ y = .int kd n) (h1 : 0 ≤ m) (h2 : 0 < n)
    (k : RX P N ops Q S nt r (upd σ d (.int kd (m % n))) w) : RX P N ops Q S nt ((io, false) :: r) σ w :=
  rx_val ho hg (fun w _ => by
    rw [run_intK .rem hx hy _ rfl]
    have : n ≠ 0 := by omega
    simp [binOp, Op.intDiv, this, Int.tmod_eq_emod_of_nonneg h1]) k
theorem rl_kquo (hg : want N ops σ g = true) (hx : ev N σ x = .int kd m) (hy : ev N σ y = .int kd n) (h1 : 0 ≤ m) (h2 : 0 < n) (hw : kd.wrap (m / n) = m / n)
    (k : RL P N ops Q rest (upd σ d (.int kd (m / n))) w) : RL P N ops Q (⟨some d, .binOp .quo t x y t', ty, pos, af, g⟩ :: rest) σ w :=
  rl_val hg (by
    rw [run_intK .quo hx hy _ rfl]
    have : n ≠ 0 := by omega
    simp [binOp, Op.intDiv, this, Int.tdiv_eq_ediv_of_nonneg h1, hw]) k
theorem rx_kquo (ho : ops[io]? = some ⟨some d, .binOp .quo t x y t', ty, pos, af, g⟩) (hg : want N ops σ g = true) (hx : ev N σ x = .int kd m) (hy : ev N σ y = .int kd n) (h1 : 0 ≤ m) (h2 : 0 < n) (hw : kd.wrap (m / n) = m / n)
    (k : RX P N ops Q S nt r (upd σ d (.int kd (m / n))) w) : RX P N ops Q S nt ((io, false) :: r) σ w :=
  rx_val ho hg (fun w _ => by
    rw [run_intK .quo hx hy _ rfl]
    have : n ≠ 0 := by omega
    simp [binOp, Op.intDiv, this, Int.tdiv_eq_ediv_of_nonneg h1, hw]) k
theorem rl_kconv (hg : want N ops σ g = true) (hs : (P.underlying t).isSome = true) (hd : P.underlying t' = some (.int k')) (hx : ev N σ x = .int kd m) (hw : k'.wrap m = m)
    (k : RL P N ops Q rest (upd σ d (.int k' m)) w) : RL P N ops Q (⟨some d, .convert t t' x, ty, pos, af, g⟩ :: rest) σ w :=
  rl_val hg (by
    obtain ⟨s, hs⟩ := Option.isSome_iff_exists.1 hs
    simp [execOp, hx, convert, run_underlying hs, run_underlying hd, Conv.intToInt, hw]) k
theorem rx_kconv (ho : ops[io]? = some ⟨some d, .convert t t' x, ty, pos, af, g⟩) (hg : want N ops σ g = true) (hs : (P.underlying t).isSome = true) (hd : P.underlying t' = some (.int k')) (hx : ev N σ x = .int kd m) (hw : k'.wrap m = m)
    (k : RX P N ops Q S nt r (upd σ d (.int k' m)) w) : RX P N ops Q S nt ((io, false) :: r) σ w :=
  rx_val ho hg (fun w _ => by
    obtain ⟨s, hs⟩ := Option.isSome_iff_exists.1 hs
    simp [execOp, hx, convert, run_underlying hs, run_underlying hd, Conv.intToInt, hw]) k
theorem rl_ksslice {a : List UInt8} {lo hi : Operand} {k1 k2 : IntKind} {l h : Int} (hg : want N ops σ g = true) (hT : P.underlying t = some .string) (hx : ev N σ x = St a) (hlo : ev N σ lo = .int k1 l) (hhi : ev N σ hi = .int k2 h) (h0 : 0 ≤ l) (h1 : l ≤ h) (h2 : h ≤ a.length)
    (k : RL P N ops Q rest (upd σ d (St ((a.take h.toNat).drop l.toNat))) w) : RL P N ops Q (⟨some d, .slice t x (some lo) (some hi) none, ty, pos, af, g⟩ :: rest) σ w :=
  rl_val hg (by
    have e := st_extract a l.toNat h.toNat
    rw [← List.drop_take] at e
    have e2 : 0 ≤ h := by omega
    have e3 : l ≤ max h 0 := by omega
    simp [execOp, hx, hlo, hhi, Instr.sliceAt, Instr.slice, Instr.sliceBounds, Instr.sliceBound, asIntOf, run_underlying hT, h0, h2, e2, e3, st_size, e]) k
theorem rx_ksslice {a : List UInt8} {lo hi : Operand} {k1 k2 : IntKind} {l h : Int} (ho : ops[io]? = some ⟨some d, .slice t x (some lo) (some hi) none, ty, pos, af, g⟩) (hg : want N ops σ g = true) (hT : P.underlying t = some .string) (hx : ev N σ x = St a) (hlo : ev N σ lo = .int k1 l) (hhi : ev N σ hi = .int k2 h) (h0 : 0 ≤ l) (h1 : l ≤ h) (h2 : h ≤ a.length)
    (k : RX P N ops Q S nt r (upd σ d (St ((a.take h.toNat).drop l.toNat))) w) : RX P N ops Q S nt ((io, false) :: r) σ w :=
  rx_val ho hg (fun w _ => by
    have e := st_extract a l.toNat h.toNat
    rw [← List.drop_take] at e
    have e2 : 0 ≤ h := by omega
    have e3 : l ≤ max h 0 := by omega
    simp [execOp, hx, hlo, hhi, Instr.sliceAt, Instr.slice, Instr.sliceBounds, Instr.sliceBound, asIntOf, run_underlying hT, h0, h2, e2, e3, st_size, e]) k
theorem rl_ksindex {a : List UInt8} {i : Int} {c : UInt8} (hg : want N ops σ g = true) (hT : P.underlying t = some .string) (hx : ev N σ x = St a) (hy : ev N σ y = .int kd i) (h0 : 0 ≤ i) (hc : a[i.toNat]? = some c)
    (k : RL P N ops Q rest (upd σ d (.int .u8 c.toNat)) w) : RL P N ops Q (⟨some d, .index t x y, ty, pos, af, g⟩ :: rest) σ w :=
  rl_val hg (by
    obtain ⟨hlt, he⟩ := List.getElem?_eq_some_iff.1 hc
    have h := run_index_string (P := P) w t (ByteArray.mk a.toArray) kd i hT
    have hsz : i < ((ByteArray.mk a.toArray).size : Int) := by rw [st_size]; omega
    have hlt' : i.toNat < (ByteArray.mk a.toArray).size := by rw [st_size]; omega
    have he' : (ByteArray.mk a.toArray)[i.toNat]'hlt' = c := by
      rw [← he]; rfl
    rw [dif_pos ⟨h0, hsz⟩, he'] at h
    simp [execOp, hx, hy, h]) k
theorem rx_ksindex {a : List UInt8} {i : Int} {c : UInt8} (ho : ops[io]? = some ⟨some d, .index t x y, ty, pos, af, g⟩) (hg : want N ops σ g = true) (hT : P.underlying t = some .string) (hx : ev N σ x = St a) (hy : ev N σ y = .int kd i) (h0 : 0 ≤ i) (hc : a[i.toNat]? = some c)
    (k : RX P N ops Q S nt r (upd σ d (.int .u8 c.toNat)) w) : RX P N ops Q S nt ((io, false) :: r) σ w :=
  rx_val ho hg (fun w _ => by
    obtain ⟨hlt, he⟩ := List.getElem?_eq_some_iff.1 hc
    have h := run_index_string (P := P) w t (ByteArray.mk a.toArray) kd i hT
    have hsz : i < ((ByteArray.mk a.toArray).size : Int) := by rw [st_size]; omega
    have hlt' : i.toNat < (ByteArray.mk a.toArray).size := by rw [st_size]; omega
    have he' : (ByteArray.mk a.toArray)[i.toNat]'hlt' = c := by
      rw [← he]; rfl
    rw [dif_pos ⟨h0, hsz⟩, he'] at h
    simp [execOp, hx, hy, h]) k
theorem rx_neqbool {a b : Bool} (ho : ops[io]? = some ⟨some d, .binOp .neq t x y t', ty, pos, af, g⟩) (hT : P.underlying t = some .bool) (hg : want N ops σ g = true) (hx : ev N σ x = .bool a) (hy : ev N σ y = .bool b)
    (k : RX P N ops Q S nt r (upd σ d (.bool (!(a == b)))) w) : RX P N ops Q S nt ((io, false) :: r) σ w :=
  rx_val ho hg (fun w _ => by
    unfold execOp
    simp only [hx, hy]
    simp [eqGuard, run_neq_bool (w := w) t a b hT]) k
theorem by8_set (l : List UInt8) (i : Nat) (c : UInt8) : (by8 l).set i (.int .u8 c.toNat) = by8 (l.set i c) := by
  simp [by8, List.map_set]
theorem by8_get {l : List UInt8} {j : Nat} {u : UInt8} (h : l[j]? = some u) : (by8 l)[j]? = some (.int .u8 u.toNat) := by simp [by8, h]
end Go.Eng
set_option linter.unusedVariables false
set_option linter.unusedSimpArgs false
namespace Go.Eng
open Go Go.RowKit
section
variable {P : Program} {ops : Array Oper} {md : Region.Mode} {Q : Exit → Act → World → Prop} {S : World → Prop}
theorem ready_lt {listed : Array Bool} {j : Nat} (h : j ∈ Region.ready md ops listed) : j < ops.size := by
  obtain ⟨_, oj, hoj, _⟩ := mem_ready.1 h
  rcases Nat.lt_or_ge j ops.size with h1 | h1
  · exact h1
  · rw [Array.getElem?_eq_none h1] at hoj; cases hoj
def DoneF (md : Region.Mode) (ops : Array Oper) (Lq : Act → World → Prop) (listed : Array Bool) (a : Act) (w : World) : Prop := Region.ready md ops listed = [] ∧ Lq a w
theorem wpAnyLS_firstF {i : Nat} {oi : Oper} {v : Value} {Lq : Act → World → Prop} (hi : ops[i]? = some oi) (hsel : ∀ (j : Nat) (o : Oper) cs b, ops[j]? = some o → o.op ≠ .select cs b)
    (hQ : ∀ c a w, Q (.panic c) (a.put oi.dst v) w → Q (.panic c) a w) :
    ∀ (f : Nat) (listed : Array Bool) (a : Act) (w : World),
      (∀ j oj, ops[j]? = some oj → j ≠ i → listed.getD j true = false → (∀ e ∈ oj.after, Region.binds md e = true → e.on ≠ i) → oi.apart ops oj = true) →
      i ∈ Region.ready md ops listed → YieldsIf P ops S oi v a → S w →
      wpAnyLS P md ops Q S ops.size (DoneF md ops Lq) f (listed.setIfInBounds i true) (a.put oi.dst v) w → wpAnyLS P md ops Q S ops.size (DoneF md ops Lq) (f + 1) listed a w := by
  intro f
  induction f with
  | zero =>
    intro listed a w _ hr hy hS H
    refine ⟨fun h => (by rw [h] at hr; cases hr), fun j hj => ⟨ready_lt hj, ?_⟩⟩
    by_cases hji : j = i
    · subst hji; exact hy.wpOp hi hS ⟨hS, H⟩
    · have := ready_mono hj hji
      rw [H.1] at this; cases this
  | succ f ih =>
    intro listed a w hfree hr hy hS H
    have hun := (mem_ready.1 hr).1
    refine ⟨fun h => (by rw [h] at hr; cases hr), fun j hj => ⟨ready_lt hj, ?_⟩⟩
    by_cases hji : j = i
    · subst hji; exact hy.wpOp hi hS ⟨hS, H⟩
    · have h1 := (H.2 j (ready_mono hj hji)).2
      obtain ⟨hjun, oj, hoj, hall⟩ := mem_ready.1 hj
      have hnot : ∀ e ∈ oj.after, Region.binds md e = true → e.on ≠ i := fun e he hb heq => by
        have h1 := hall e he hb
        rw [heq, getD_both hun] at h1
        cases h1
      have h2 := wpOp_putIf hoj (hfree j oj hoj hji hjun hnot) (fun cs b => hsel i oi cs b hi) (fun cs b => hsel j oj cs b hoj) hQ hy h1
      have hfree' : ∀ k ok, ops[k]? = some ok → k ≠ i → (listed.setIfInBounds j true).getD k true = false →
          (∀ e ∈ ok.after, Region.binds md e = true → e.on ≠ i) → oi.apart ops ok = true := fun k ok hk hki hun hno => by
        refine hfree k ok hk hki ?_ hno
        by_cases hjk : j = k
        · subst hjk; exact hjun
        · rw [getD_set_ne true hjk] at hun; exact hun
      refine wpOp_mono (fun a' w' h3 => ⟨h3.2.1, ih (listed.setIfInBounds j true) a' w' hfree' (ready_mono hr (Ne.symm hji)) h3.1 h3.2.1 ?_⟩) h2
      rw [Array.setIfInBounds_comm _ _ hji]
      exact h3.2.2
def headF (md : Region.Mode) (ops : Array Oper) : List (Nat × Bool) → Array Bool → Bool
  | [], listed => decide (Region.ready md ops listed = [])
  | (i, false) :: r, listed => (Region.ready md ops listed).contains i && Region.free md ops listed i && headF md ops r (listed.setIfInBounds i true)
  | (i, true) :: r, listed => decide (Region.ready md ops listed = [i]) && headF md ops r (listed.setIfInBounds i true)
theorem wpAnyLS_orderF {Lq : Act → World → Prop} (hsel : Region.noSelect ops = true) (hQ : ∀ c a w, ¬ Q (.panic c) a w) :
    ∀ (order : List (Nat × Bool)) (S : World → Prop) (listed : Array Bool) (a : Act) (w : World), headF md ops order listed = true → S w → HW P ops Q S Lq order a w →
    wpAnyLS P md ops Q S ops.size (DoneF md ops Lq) order.length listed a w
  | [], _, listed, a, w, hB, _, h => ⟨by simpa [headF] using hB, h⟩
  | (i, false) :: r, S, listed, a, w, hB, hS, h => by
    simp only [headF, Bool.and_eq_true, decide_eq_true_eq] at hB
    obtain ⟨⟨hr, hf⟩, hB'⟩ := hB
    have hr' : i ∈ Region.ready md ops listed := by simpa using hr
    obtain ⟨o, v, ho, hy, hK⟩ := h
    exact wpAnyLS_firstF ho (Region.noSelect_spec hsel) (fun c a w hh => absurd hh (hQ _ _ _)) r.length listed a w (Region.free_spec ho hf) hr' hy hS
      (wpAnyLS_orderF hsel hQ r _ _ _ _ hB' hS hK)
  | (i, true) :: r, S, listed, a, w, hB, hS, h => by
    simp only [headF, Bool.and_eq_true, decide_eq_true_eq] at hB
    obtain ⟨hr, hB'⟩ := hB
    refine ⟨fun h0 => (by rw [hr] at h0; cases h0), fun j hj => ?_⟩
    have hjl := ready_lt hj
    rw [hr] at hj
    have : j = i := by simpa using hj
    subst this
    refine ⟨hjl, wpOp_mono (fun a' w' h' => ?_) h⟩
    obtain ⟨S', hsub, hS', hK⟩ := h'
    exact ⟨hsub _ hS', wpAnyLS_mono hsub _ _ _ _ (wpAnyLS_orderF hsel hQ r S' _ _ _ hB' hS' hK)⟩
def head2F (md : Region.Mode) (ops : Array Oper) (i j : Nat) (r1 r2 : List (Nat × Bool)) : List (Nat × Bool) → Array Bool → Bool
  | [], listed => decide (Region.ready md ops listed = [i, j]) && decide (r1.length = r2.length) && headF md ops r1 (listed.setIfInBounds i true) && headF md ops r2 (listed.setIfInBounds j true)
  | (k, false) :: r, listed => (Region.ready md ops listed).contains k && Region.free md ops listed k && head2F md ops i j r1 r2 r (listed.setIfInBounds k true)
  | (k, true) :: r, listed => false
theorem wpAnyLS_order2F {Lq : Act → World → Prop} {i j : Nat} {r1 r2 : List (Nat × Bool)} (hsel : Region.noSelect ops = true) (hQ : ∀ c a w, ¬ Q (.panic c) a w) :
    ∀ (p : List (Nat × Bool)) (listed : Array Bool) (a : Act) (w : World), head2F md ops i j r1 r2 p listed = true → S w → HW P ops Q S Lq (p ++ (i, true) :: r1) a w → HW P ops Q S Lq (p ++ (j, true) :: r2) a w →
    wpAnyLS P md ops Q S ops.size (DoneF md ops Lq) (p.length + (r1.length + 1)) listed a w
  | [], listed, a, w, hB, hS, h1, h2 => by
    simp only [head2F, Bool.and_eq_true, decide_eq_true_eq] at hB
    obtain ⟨⟨⟨hr, hl⟩, hB1⟩, hB2⟩ := hB
    rw [show ([] : List (Nat × Bool)).length + (r1.length + 1) = r1.length + 1 by simp]
    refine ⟨fun h0 => (by rw [h0] at hr; cases hr), fun k hk => ?_⟩
    have hkl := ready_lt hk
    rw [hr] at hk
    have hkk : k = i ∨ k = j := by simpa using hk
    by_cases hki : k = i
    · subst hki
      exact ⟨hkl, wpOp_mono (fun a' w' h' => by
        obtain ⟨S', hsub, hS', hK⟩ := h'
        exact ⟨hsub _ hS', wpAnyLS_mono hsub _ _ _ _ (wpAnyLS_orderF hsel hQ r1 S' _ _ _ hB1 hS' hK)⟩) h1⟩
    · have hkj : k = j := hkk.resolve_left hki
      subst hkj
      rw [hl]
      exact ⟨hkl, wpOp_mono (fun a' w' h' => by
        obtain ⟨S', hsub, hS', hK⟩ := h'
        exact ⟨hsub _ hS', wpAnyLS_mono hsub _ _ _ _ (wpAnyLS_orderF hsel hQ r2 S' _ _ _ hB2 hS' hK)⟩) h2⟩
  | (k, false) :: p, listed, a, w, hB, hS, h1, h2 => by
    simp only [head2F, Bool.and_eq_true, decide_eq_true_eq] at hB
    obtain ⟨⟨hr, hf⟩, hB'⟩ := hB
    have hr' : k ∈ Region.ready md ops listed := by simpa using hr
    obtain ⟨o, v, ho, hy, hK⟩ := h1
    obtain ⟨o', v', ho', hy', hK'⟩ := h2
    rw [ho] at ho'
    cases ho'
    have := yieldsIf_det hy hy' hS
    subst this
    rw [show ((k, false) :: p).length + (r1.length + 1) = (p.length + (r1.length + 1)) + 1 by simp; omega]
    exact wpAnyLS_firstF ho (Region.noSelect_spec hsel) (fun c a w hh => absurd hh (hQ _ _ _)) _ listed a w (Region.free_spec ho hf) hr' hy hS
      (wpAnyLS_order2F hsel hQ p _ _ _ hB' hS hK hK')
  | (k, true) :: p, listed, a, w, hB, hS, h1, h2 => by cases hB
end
variable {P : Program} {N : NN} {Q : Exit → Act → World → Prop} {σ : Env} {w0 w : World} {L : List Ent} {V : Vw}
def held2FB (ops : Array Oper) (p : List (Nat × Bool)) (i j : Nat) (r1 r2 : List (Nat × Bool)) : Bool :=
  Region.noSelect ops && decide (p.length + (r1.length + 1) = ops.size) && head2F .any ops i j r1 r2 p (Array.replicate ops.size false)
theorem drawn2F_ {id : Nat} {l : List Oper} (p : List (Nat × Bool)) (i j : Nat) (r1 r2 o1 o2 : List (Nat × Bool)) (e1 : p ++ (i, true) :: r1 = o1) (e2 : p ++ (j, true) :: r2 = o2) (hM : Mem w0 w L V) (hm : P.follows .mixedOrders = true) (hB : held2FB l.toArray p i j r1 r2 = true)
    (h1 : ∀ w', Mem w0 w' L V → RX P N l (NP Q) (fun w => Mem w0 w L V) l.length o1 σ w') (h2 : ∀ w', Mem w0 w' L V → RX P N l (NP Q) (fun w => Mem w0 w L V) l.length o2 σ w') : (Code.region id l.toArray true).wp P Q (Fr N σ) w := by
  subst e1 e2
  have hw : Mem w0 { w with drawn := w.drawn + 1 } L V := hM.ext ⟨rfl, rfl, rfl, Nat.le_refl _, fun _ _ => rfl⟩
  refine Code.wp_mono NP.weak ?_
  simp only [held2FB, Bool.and_eq_true, decide_eq_true_eq] at hB
  obtain ⟨⟨hsel, hol⟩, hlex⟩ := hB
  have H := wpAnyLS_order2F (md := .any) (Q := NP Q) (P := P) hsel (fun c a w hh => hh) p _ _ _ hlex hw (h1 _ hw) (h2 _ hw)
  refine wp_region_any hm ?_
  have := wpAny_of_headS (Q := NP Q) (g := 0) (fun listed a' w' hL => by
    have h3 := hL.2
    have hd : l.drop l.length = [] := List.drop_length
    rw [hd] at h3
    exact ⟨hL.1, h3⟩) _ _ _ _ H
  rw [Nat.add_zero, hol] at this
  exact this
end Go.Eng
set_option linter.unusedVariables false
namespace Go.Eng
open Go Go.RowKit
variable {P : Program} {N : NN} {Q : Exit → Act → World → Prop} {σ : Env} {w w' : World}
theorem cut_seq3 {c y : Code} (ms : List (Nat × Nat)) (s1 s2 s3 : Nat) (R : Value → Value → Value → World → Prop) (h : c.wp P (KQ N (fun σ' w' => Agree ms σ σ' ∧ R (σ' s1) (σ' s2) (σ' s3) w') Q) (Fr N σ) w)
    (k : ∀ τ v1 v2 v3 w', R v1 v2 v3 w' → y.wp P Q (Fr N (upd (upd (upd (ov ms τ σ) s1 v1) s2 v2) s3 v3)) w') : c.wp P (SQ P y Q) (Fr N σ) w := by
  refine Code.wp_mono ?_ h
  intro e a w' hq
  cases e with
  | normal =>
    obtain ⟨σ', rfl, h1, h2⟩ := hq
    have := k σ' _ _ _ w' h2
    rw [ov_self h1, upd_self rfl, upd_self rfl, upd_self rfl] at this
    exact this
  | _ => exact hq
end Go.Eng
set_option linter.unusedVariables false
set_option linter.unusedSimpArgs false
namespace Go.Eng
open Go Go.RowKit
section
variable {P : Program} {N : NN} {ops : Array Oper} {md : Region.Mode} {Q : Exit → Act → World → Prop} {S : World → Prop}
theorem wpOp_kq {K : Env → World → Prop} {i : Nat} {a : Act} {w : World} {next : Act → World → Prop} (h : wpOp P ops (KQ N K Q) i next a w) : wpOp P ops Q i next a w := by
  unfold wpOp at *
  split
  · rename_i hn
    simpa [hn] using h
  · rename_i o ho
    simp only [ho] at h
    split at h
    · rename_i hw
      rw [if_pos hw]
      rcases h with h1 | h1
      · exact .inl (wp_kq h1)
      · exact .inr h1
    · rename_i hw
      rw [if_neg hw]
      exact h
theorem hw_join {K : Env → World → Prop} {j : Nat} : ∀ (p : List (Nat × Bool)) (S : World → Prop) (a : Act) (w : World), HW P ops (KQ N K Q) S (fun a' w' => wpList P ops (KQ N K Q) [] a' w') (p ++ [(j, true)]) a w →
    HW P ops Q S (fun a' w' => ∃ σ', a' = Fr N σ' ∧ K σ' w') (p ++ [(j, true)]) a w
  | [], S, a, w, h => wpOp_mono (fun a' w' h' => h') (wpOp_kq h)
  | (k, false) :: p, S, a, w, h => by
    obtain ⟨o, v, ho, hy, hK⟩ := h
    exact ⟨o, v, ho, hy, hw_join p S _ _ hK⟩
  | (k, true) :: p, S, a, w, h => wpOp_mono (fun a' w' h' => by
      obtain ⟨S', h1, h2, h3⟩ := h'
      exact ⟨S', h1, h2, hw_join p S' _ _ h3⟩) (wpOp_kq h)
def head3B (md : Region.Mode) (ops : Array Oper) (n g : Nat) (i j : Nat) (r1 p2 : List (Nat × Bool)) (i2 j2 : Nat) (r21 r22 : List (Nat × Bool)) : List (Nat × Bool) → Array Bool → Bool
  | [], listed => decide (i < n) && decide (j < n) && decide (Region.ready md ops listed = [i, j]) && decide (r1.length = p2.length + (r21.length + 1)) && headB md ops n g r1 (listed.setIfInBounds i true) && head2B md ops n g i2 j2 r21 r22 p2 (listed.setIfInBounds j true)
  | (k, false) :: r, listed => decide (k < n) && (Region.ready md ops listed).contains k && Region.free md ops listed k && head3B md ops n g i j r1 p2 i2 j2 r21 r22 r (listed.setIfInBounds k true)
  | (k, true) :: r, listed => false
theorem wpAnyLS_order3 {n g : Nat} {Lq : Act → World → Prop} {i j i2 j2 : Nat} {r1 p2 r21 r22 : List (Nat × Bool)} (hsel : Region.noSelect ops = true) (hQ : ∀ c a w, ¬ Q (.panic c) a w) (hs : Region.sinkB md ops n = true) (hc : Region.chainB md ops n = true) (hn : n < ops.size) :
    ∀ (p : List (Nat × Bool)) (listed : Array Bool) (a : Act) (w : World), HeadInv md ops n listed → head3B md ops n g i j r1 p2 i2 j2 r21 r22 p listed = true → S w → HW P ops Q S Lq (p ++ (i, true) :: r1) a w →
    HW P ops Q S (fun a' w' => S w' ∧ HW P ops Q S Lq (p2 ++ (i2, true) :: r21) a' w' ∧ HW P ops Q S Lq (p2 ++ (j2, true) :: r22) a' w') (p ++ [(j, true)]) a w →
    wpAnyLS P md ops Q S n (fun listed' a' w' => Region.seqB md ops g n listed' = true ∧ Lq a' w') (p.length + (r1.length + 1)) listed a w
  | [], listed, a, w, inv, hB, hS, h1, h2 => by
    simp only [head3B, Bool.and_eq_true, decide_eq_true_eq] at hB
    obtain ⟨⟨⟨⟨⟨hi, hj⟩, hr⟩, hl⟩, hB1⟩, hB2⟩ := hB
    rw [show ([] : List (Nat × Bool)).length + (r1.length + 1) = r1.length + 1 by simp]
    refine ⟨fun h0 => (by rw [h0] at hr; cases hr), fun k hk => ?_⟩
    have hri : i ∈ Region.ready md ops listed := by rw [hr]; simp
    have hrj : j ∈ Region.ready md ops listed := by rw [hr]; simp
    rw [hr] at hk
    have hkk : k = i ∨ k = j := by simpa using hk
    by_cases hki : k = i
    · subst hki
      exact ⟨hi, wpOp_mono (fun a' w' h' => by
        obtain ⟨S', hsub, hS', hK⟩ := h'
        exact ⟨hsub _ hS', wpAnyLS_mono hsub _ _ _ _ (wpAnyLS_order hsel hQ hs hc hn r1 S' _ _ _ (inv.set hri hi) hB1 hS' hK)⟩) h1⟩
    · have hkj : k = j := hkk.resolve_left hki
      subst hkj
      rw [hl]
      exact ⟨hj, wpOp_mono (fun a' w' h' => by
        obtain ⟨S', hsub, hS', hK1, hK2, hK3⟩ := h'
        exact ⟨hK1, wpAnyLS_order2 hsel hQ hs hc hn p2 _ _ _ (inv.set hrj hj) hB2 hK1 hK2 hK3⟩) h2⟩
  | (k, false) :: p, listed, a, w, inv, hB, hS, h1, h2 => by
    simp only [head3B, Bool.and_eq_true, decide_eq_true_eq] at hB
    obtain ⟨⟨⟨hin, hr⟩, hf⟩, hB'⟩ := hB
    have hr' : k ∈ Region.ready md ops listed := by simpa using hr
    obtain ⟨o, v, ho, hy, hK⟩ := h1
    obtain ⟨o', v', ho', hy', hK'⟩ := h2
    rw [ho] at ho'
    cases ho'
    have := yieldsIf_det hy hy' hS
    subst this
    rw [show ((k, false) :: p).length + (r1.length + 1) = (p.length + (r1.length + 1)) + 1 by simp; omega]
    exact wpAnyLS_first ho (Region.noSelect_spec hsel) (fun c a w hh => absurd hh (hQ _ _ _)) hs hc hn hin (fun listed' a' w' hL => seqB_ready hL.1) _ listed a w inv (Region.free_spec ho hf) hr' hy hS
      (wpAnyLS_order3 hsel hQ hs hc hn p _ _ _ (inv.set hr' hin) hB' hS hK hK')
  | (k, true) :: p, listed, a, w, inv, hB, hS, h1, h2 => by cases hB
def held3B (md : Region.Mode) (ops : Array Oper) (n : Nat) (p : List (Nat × Bool)) (i j : Nat) (r1 p2 : List (Nat × Bool)) (i2 j2 : Nat) (r21 r22 : List (Nat × Bool)) : Bool :=
  Region.noSelect ops && decide (n < ops.size) && decide (p.length + (r1.length + 1) = n) && Region.sinkB md ops n && Region.chainB md ops n && head3B md ops n (ops.size - n) i j r1 p2 i2 j2 r21 r22 p (Array.replicate ops.size false)
end
variable {P : Program} {N : NN} {Q : Exit → Act → World → Prop} {σ : Env} {w0 w : World} {L : List Ent} {V : Vw}
theorem drawn3M_ {id : Nat} {l : List Oper} (n : Nat) (p : List (Nat × Bool)) (i j : Nat) (r1 p2 : List (Nat × Bool)) (i2 j2 : Nat) (r21 r22 o1 o2 o3 o4 : List (Nat × Bool)) (e1 : p ++ (i, true) :: r1 = o1) (e2 : p ++ [(j, true)] = o2) (e3 : p2 ++ (i2, true) :: r21 = o3) (e4 : p2 ++ (j2, true) :: r22 = o4)
    (hM : Mem w0 w L V) (hm : P.follows .mixedOrders = true) (hB : held3B .any l.toArray n p i j r1 p2 i2 j2 r21 r22 = true)
    (h1 : ∀ w', Mem w0 w' L V → RX P N l (NP Q) (fun w => Mem w0 w L V) n o1 σ w')
    (h2 : ∀ w', Mem w0 w' L V → ∀ K : Env → World → Prop, (∀ σ' w', Mem w0 w' L V → RX P N l (NP Q) (fun w => Mem w0 w L V) n o3 σ' w' → RX P N l (NP Q) (fun w => Mem w0 w L V) n o4 σ' w' → K σ' w') → RX P N l (KQ N K (NP Q)) (fun w => Mem w0 w L V) l.length o2 σ w') :
    (Code.region id l.toArray true).wp P Q (Fr N σ) w := by
  subst e1 e2 e3 e4
  have hw : Mem w0 { w with drawn := w.drawn + 1 } L V := hM.ext ⟨rfl, rfl, rfl, Nat.le_refl _, fun _ _ => rfl⟩
  refine Code.wp_mono NP.weak ?_
  simp only [held3B, Bool.and_eq_true, decide_eq_true_eq] at hB
  obtain ⟨⟨⟨⟨⟨hsel, hn⟩, hol⟩, hs⟩, hc⟩, hlex⟩ := hB
  have hn' : n < l.length := by simpa using hn
  have hdl : (l.drop n).length = l.toArray.size - n := by simp
  have inv0 : HeadInv .any l.toArray n (Array.replicate l.toArray.size false) :=
    ⟨by simp, fun j oj _ hl => (by rw [getD_replicate_false] at hl; cases hl), fun t _ ht => getD_in (by simpa using ht) (getD_replicate_false _ _)⟩
  have g2 := h2 _ hw (fun σ' w' => Mem w0 w' L V ∧ RX P N l (NP Q) (fun w => Mem w0 w L V) n (p2 ++ (i2, true) :: r21) σ' w' ∧ RX P N l (NP Q) (fun w => Mem w0 w L V) n (p2 ++ (j2, true) :: r22) σ' w') (fun _ _ a b c => ⟨a, b, c⟩)
  have g3 := g2
  unfold RX at g3
  rw [List.drop_length] at g3
  have g4 := hw_join p _ _ _ g3
  have g5 : ∀ (p : List (Nat × Bool)) (S : World → Prop) (a : Act) (w : World) (C D : Act → World → Prop), (∀ a w, C a w → D a w) → HW P l.toArray (NP Q) S C p a w → HW P l.toArray (NP Q) S D p a w := by
    intro p
    induction p with
    | nil => intro S a w C D h h'; exact h _ _ h'
    | cons k p ih =>
      obtain ⟨k, b⟩ := k
      intro S a w C D h h'
      cases b with
      | false =>
        obtain ⟨o, v, ho, hy, hK⟩ := h'
        exact ⟨o, v, ho, hy, ih _ _ _ _ _ h hK⟩
      | true => exact wpOp_mono (fun a' w' h' => by
          obtain ⟨S', q1, q2, q3⟩ := h'
          exact ⟨S', q1, q2, ih _ _ _ _ _ h q3⟩) h'
  have H := wpAnyLS_order3 (md := .any) (Q := NP Q) (P := P) (g := l.toArray.size - n) (Lq := fun a' w' => wpList P l.toArray (NP Q) (l.drop n) a' w') hsel (fun c a w hh => hh) hs hc hn p _ _ _ inv0 hlex hw (h1 _ hw)
    (g5 _ _ _ _ _ _ (fun a w h => by
      obtain ⟨σ', rfl, q1, q2, q3⟩ := h
      exact ⟨q1, q2, q3⟩) g4)
  refine wp_region_any hm ?_
  have := wpAny_of_headS (Q := NP Q) (g := l.toArray.size - n) (fun listed a' w' hL => by
    have := wpAny_of_seq (md := .any) (Q' := NP Q) (l.drop n) n listed a' w' (fun j => by simp [List.getElem?_drop]) (by rw [hdl]; exact hL.1) hL.2
    rwa [hdl] at this) _ _ _ _ H
  rw [hol, show n + (l.toArray.size - n) = l.toArray.size by omega] at this
  exact this
end Go.Eng
set_option linter.unusedVariables false
set_option linter.unusedSimpArgs false
namespace Go.Eng
open Go Go.RowKit
variable {P : Program} {N : NN} {Q : Exit → Act → World → Prop} {S : World → Prop} {l : List Oper} {σ : Env} {w w0 : World} {L : List Ent} {V : Vw} {n f : Nat} {listed : Array Bool}
def staticB (l : List Oper) (n : Nat) : Bool := Region.noSelect l.toArray && decide (n < l.toArray.size) && Region.sinkB .any l.toArray n && Region.chainB .any l.toArray n
/-- What is left of the head, where these have been carried out. -/
def WA (P : Program) (N : NN) (l : List Oper) (Q : Exit → Act → World → Prop) (S : World → Prop) (n f : Nat) (listed : Array Bool) (σ : Env) (w : World) : Prop :=
  staticB l n = true → HeadInv .any l.toArray n listed → S w → wpAnyLS P .any l.toArray (NP Q) S n (fun listed' a' w' => Region.seqB .any l.toArray (l.toArray.size - n) n listed' = true ∧ wpList P l.toArray (NP Q) (l.drop n) a' w') f listed (Fr N σ) w
theorem wa_done (hB : Region.seqB .any l.toArray (l.toArray.size - n) n listed = true) (h : RL P N l (NP Q) (l.drop n) σ w) : WA P N l Q S n 0 listed σ w := fun _ _ _ => ⟨hB, h⟩
def preB (l : List Oper) (n : Nat) : List Nat → Array Bool → Bool
  | [], _ => true
  | i :: p, listed => decide (i < n) && (Region.ready .any l.toArray listed).contains i && Region.free .any l.toArray listed i && preB l n p (listed.setIfInBounds i true)
def setAll (p : List Nat) (listed : Array Bool) : Array Bool := p.foldl (fun x i => x.setIfInBounds i true) listed
theorem wa_pre' {K : Env → World → Prop} (hst : staticB l n = true) : ∀ (p : List Nat) (listed : Array Bool) (a : Act), preB l n p listed = true → HeadInv .any l.toArray n listed → S w →
    HW P l.toArray (KQ N K (NP Q)) S (fun a' w' => wpList P l.toArray (KQ N K (NP Q)) [] a' w') (p.map (·, false)) a w → (∀ σ', K σ' w → WA P N l Q S n f (setAll p listed) σ' w) →
    wpAnyLS P .any l.toArray (NP Q) S n (fun listed' a' w' => Region.seqB .any l.toArray (l.toArray.size - n) n listed' = true ∧ wpList P l.toArray (NP Q) (l.drop n) a' w') (f + p.length) listed a w
  | [], listed, a, _, inv, hS, h, hK => by
    obtain ⟨σ', rfl, h1⟩ := h
    exact hK σ' h1 hst inv hS
  | i :: p, listed, a, hB, inv, hS, h, hK => by
    have hst' := hst
    simp only [staticB, Bool.and_eq_true, decide_eq_true_eq] at hst'
    obtain ⟨⟨⟨hsel, hn⟩, hs⟩, hc⟩ := hst'
    simp only [preB, Bool.and_eq_true, decide_eq_true_eq] at hB
    obtain ⟨⟨⟨hin, hr⟩, hf⟩, hB'⟩ := hB
    have hr' : i ∈ Region.ready .any l.toArray listed := by simpa using hr
    obtain ⟨o, v, ho, hy, hH⟩ := h
    exact wpAnyLS_first ho (Region.noSelect_spec hsel) (fun c a w hh => absurd hh (fun h => h)) hs hc hn hin (fun listed' a' w' hL => seqB_ready hL.1) (f + p.length) listed a w inv (Region.free_spec ho hf) hr' hy hS
      (wa_pre' hst p _ _ hB' (inv.set hr' hin) hS hH hK)
/-- What yields the same in all worlds is carried out at once. -/
theorem wa_pre (p : List Nat) (hB : preB l n p listed = true) (h : ∀ K : Env → World → Prop, (∀ σ', WA P N l Q S n f (setAll p listed) σ' w → K σ' w) → RX P N l (KQ N K (NP Q)) S l.length (p.map (·, false)) σ w) : WA P N l Q S n (f + p.length) listed σ w := by
  intro hst inv hS
  have g := h (fun σ' w' => ∀ w'', w'' = w' → WA P N l Q S n f (setAll p listed) σ' w'') (fun σ' hh w'' e => by subst e; exact hh)
  unfold RX at g
  rw [List.drop_length] at g
  exact wa_pre' hst p listed _ hB inv hS g (fun σ' hh => hh w rfl)
theorem wpOp_of_RL {K : Env → World → Prop} {i : Nat} {o : Oper} (ho : l[i]? = some o) (this : RL P N l (KQ N K Q) [o] σ w) : wpOp P l.toArray Q i (fun a' w' => ∃ σ', a' = Fr N σ' ∧ K σ' w') (Fr N σ) w := by
  unfold RL wpList at this
  have h2 : wpOp P l.toArray Q i (wpList P l.toArray (KQ N K Q) []) (Fr N σ) w := by
    unfold wpOp
    simp only [List.getElem?_toArray, ho]
    split
    · rename_i hw
      rw [if_pos hw] at this
      rcases this with h1 | h1
      · exact .inl (wp_kq h1)
      · exact .inr h1
    · rename_i hw
      rw [if_neg hw] at this
      exact this
  refine wpOp_mono ?_ h2
  rintro a w ⟨σ', rfl, h3⟩
  exact ⟨σ', rfl, h3⟩
def effB (l : List Oper) (n : Nat) (listed : Array Bool) (js : List Nat) : Bool := decide (Region.ready .any l.toArray listed = js) && js.all (fun j => decide (j < n)) && !js.isEmpty
theorem wa_eff (js : List Nat) (hB : effB l n listed js = true)
    (h : ∀ j ∈ js, ∀ K : Env → World → Prop, (∀ σ' w', S w' → WA P N l Q S n f (listed.setIfInBounds j true) σ' w' → K σ' w') → ∃ o, l[j]? = some o ∧ RL P N l (KQ N K (NP Q)) [o] σ w) : WA P N l Q S n (f + 1) listed σ w := by
  intro hst inv hS
  simp only [effB, Bool.and_eq_true, decide_eq_true_eq, List.all_eq_true, Bool.not_eq_true'] at hB
  obtain ⟨⟨hr, hlt⟩, hne⟩ := hB
  refine ⟨fun h0 => ?_, fun j hj => ?_⟩
  · rw [hr] at h0; subst h0; cases hne
  · have hj' : j ∈ js := by rw [← hr]; exact hj
    have hjn := hlt j hj'
    refine ⟨hjn, ?_⟩
    obtain ⟨o, ho, hR⟩ := h j hj' (fun σ' w' => S w' ∧ WA P N l Q S n f (listed.setIfInBounds j true) σ' w') (fun _ _ a b => ⟨a, b⟩)
    refine wpOp_mono (fun a' w' h' => ?_) (wpOp_of_RL ho hR)
    obtain ⟨σ', rfl, h1, h2⟩ := h'
    exact ⟨h1, h2 hst (inv.set hj hjn) h1⟩
theorem wa_eff1 {o1 : Oper} (j1 : Nat) (hB : effB l n listed [j1] = true) (e1 : l[j1]? = some o1)
    (h1 : ∀ K : Env → World → Prop, (∀ σ' w', S w' → WA P N l Q S n f (listed.setIfInBounds j1 true) σ' w' → K σ' w') → RL P N l (KQ N K (NP Q)) [o1] σ w) : WA P N l Q S n (f + 1) listed σ w :=
  wa_eff [j1] hB fun j hj K hK => by
    simp only [List.mem_cons, List.not_mem_nil, or_false] at hj
    subst hj
    exact ⟨o1, e1, h1 K hK⟩
theorem wa_eff2 {o1 o2 : Oper} (j1 j2 : Nat) (hB : effB l n listed [j1, j2] = true) (e1 : l[j1]? = some o1) (e2 : l[j2]? = some o2)
    (h1 : ∀ K : Env → World → Prop, (∀ σ' w', S w' → WA P N l Q S n f (listed.setIfInBounds j1 true) σ' w' → K σ' w') → RL P N l (KQ N K (NP Q)) [o1] σ w)
    (h2 : ∀ K : Env → World → Prop, (∀ σ' w', S w' → WA P N l Q S n f (listed.setIfInBounds j2 true) σ' w' → K σ' w') → RL P N l (KQ N K (NP Q)) [o2] σ w) : WA P N l Q S n (f + 1) listed σ w :=
  wa_eff [j1, j2] hB fun j hj K hK => by
    simp only [List.mem_cons, List.not_mem_nil, or_false] at hj
    by_cases h : j = j1
    · subst h; exact ⟨o1, e1, h1 K hK⟩
    · have := hj.resolve_left h
      subst this; exact ⟨o2, e2, h2 K hK⟩
theorem wa_eff3 {o1 o2 o3 : Oper} (j1 j2 j3 : Nat) (hB : effB l n listed [j1, j2, j3] = true) (e1 : l[j1]? = some o1) (e2 : l[j2]? = some o2) (e3 : l[j3]? = some o3)
    (h1 : ∀ K : Env → World → Prop, (∀ σ' w', S w' → WA P N l Q S n f (listed.setIfInBounds j1 true) σ' w' → K σ' w') → RL P N l (KQ N K (NP Q)) [o1] σ w)
    (h2 : ∀ K : Env → World → Prop, (∀ σ' w', S w' → WA P N l Q S n f (listed.setIfInBounds j2 true) σ' w' → K σ' w') → RL P N l (KQ N K (NP Q)) [o2] σ w)
    (h3 : ∀ K : Env → World → Prop, (∀ σ' w', S w' → WA P N l Q S n f (listed.setIfInBounds j3 true) σ' w' → K σ' w') → RL P N l (KQ N K (NP Q)) [o3] σ w) : WA P N l Q S n (f + 1) listed σ w :=
  wa_eff [j1, j2, j3] hB fun j hj K hK => by
    simp only [List.mem_cons, List.not_mem_nil, or_false] at hj
    by_cases h : j = j1
    · subst h; exact ⟨o1, e1, h1 K hK⟩
    · by_cases h' : j = j2
      · subst h'; exact ⟨o2, e2, h2 K hK⟩
      · have := (hj.resolve_left h).resolve_left h'
        subst this; exact ⟨o3, e3, h3 K hK⟩
theorem drawnT_ {id : Nat} (n : Nat) (hM : Mem w0 w L V) (hm : P.follows .mixedOrders = true) (hB : staticB l n = true)
    (h : ∀ w', Mem w0 w' L V → WA P N l Q (fun w => Mem w0 w L V) n n (Array.replicate l.length false) σ w') : (Code.region id l.toArray true).wp P Q (Fr N σ) w := by
  have hw : Mem w0 { w with drawn := w.drawn + 1 } L V := hM.ext ⟨rfl, rfl, rfl, Nat.le_refl _, fun _ _ => rfl⟩
  refine Code.wp_mono NP.weak ?_
  have hst := hB
  simp only [staticB, Bool.and_eq_true, decide_eq_true_eq] at hB
  obtain ⟨⟨⟨hsel, hn⟩, hs⟩, hc⟩ := hB
  have hn' : n < l.length := by simpa using hn
  have hdl : (l.drop n).length = l.toArray.size - n := by simp
  have inv0 : HeadInv .any l.toArray n (Array.replicate l.length false) :=
    ⟨by simp, fun j oj _ hl => (by rw [getD_replicate_false] at hl; cases hl), fun t _ ht => getD_in (by simpa using ht) (getD_replicate_false _ _)⟩
  have H := h _ hw hst inv0 hw
  refine wp_region_any hm ?_
  have := wpAny_of_headS (Q := NP Q) (g := l.toArray.size - n) (fun listed a' w' hL => by
    have := wpAny_of_seq (md := .any) (Q' := NP Q) (l.drop n) n listed a' w' (fun j => by simp [List.getElem?_drop]) (by rw [hdl]; exact hL.1) hL.2
    rwa [hdl] at this) _ _ _ _ H
  rw [show n + (l.toArray.size - n) = l.toArray.size by omega] at this
  have e : l.toArray.size = l.length := by simp
  rw [e] at this ⊢
  exact this
end Go.Eng
