/- Rules over the frame of Eng1 for memory: blocks of cells, slices, calls. Nothing here names a program. -/
import Derived.Test.YtoekjhalcjhegaaEng2
set_option linter.unusedVariables false
set_option linter.unusedSimpArgs false
namespace Go.Eng
open Go Go.RowKit
variable {P : Program} {N : NN} {Q : Exit → Act → World → Prop} {σ : Env} {w w' : World} {ops rest : List Oper}
  {d : Tmp} {ty : TypeId} {pos : String} {af : Array Edge} {g : Option (Nat × Bool)}

/-! ## Blocks -/
/-- Block b holds the cells cs, of element type t, none of them frozen. -/
def Blk (w : World) (b : Nat) (cs : List Value) (t : TypeId) : Prop := w.heap[b]? = some (.cells cs.toArray t (0, 0))
/-- Block b alone may have turned. -/
structure Chg (b : Nat) (w w' : World) : Prop where
  os : w'.os = w.os
  tape : w'.tape = w.tape
  output : w'.output = w.output
  size : w.heap.size ≤ w'.heap.size
  block : ∀ k, k < w.heap.size → k ≠ b → w'.heap[k]? = w.heap[k]?
theorem Blk.lt {b : Nat} {cs : List Value} {t : TypeId} (h : Blk w b cs t) : b < w.heap.size := by
  unfold Blk at h
  rcases Nat.lt_or_ge b w.heap.size with hlt | hge
  · exact hlt
  · rw [Array.getElem?_eq_none hge] at h; cases h
theorem Blk.cell {b : Nat} {cs : List Value} {t : TypeId} (h : Blk w b cs t) (i : Nat) : w.cell? ⟨b, i, none⟩ = cs[i]? := by
  unfold Blk at h
  simp [World.cell?, h]
theorem Blk.cell_some {b i : Nat} {cs : List Value} {t : TypeId} {v : Value} (h : Blk w b cs t) (hi : cs[i]? = some v) : w.cell? ⟨b, i, none⟩ = some v := by
  rw [h.cell, hi]
theorem Blk.frozen {b : Nat} {cs : List Value} {t : TypeId} (h : Blk w b cs t) (i : Nat) : w.frozen? ⟨b, i, none⟩ = false := by
  unfold Blk at h
  simp [World.frozen?, h]
theorem Blk.below {b B : Nat} {cs : List Value} {t : TypeId} (h : Blk w b cs t) (hb : Below B w w') (hB : b < B) : Blk w' b cs t := by
  unfold Blk; rw [hb.block b hB]; exact h
theorem Blk.ext {b : Nat} {cs : List Value} {t : TypeId} (h : Blk w b cs t) (hb : Below w.heap.size w w') : Blk w' b cs t := h.below hb h.lt
theorem Blk.chg {b c : Nat} {cs : List Value} {t : TypeId} (h : Blk w c cs t) (hc : Chg b w w') (hne : c ≠ b) : Blk w' c cs t := by
  unfold Blk; rw [hc.block c h.lt hne]; exact h
theorem Blk.inj {b : Nat} {cs cs' : List Value} {t t' : TypeId} (h : Blk w b cs t) (h' : Blk w b cs' t') : cs = cs' := by
  unfold Blk at h h'
  rw [h] at h'
  simp at h'
  exact h'.1
theorem Chg.of_ext (b : Nat) (h : Below w.heap.size w w') : Chg b w w' := ⟨h.os, h.tape, h.output, h.size, fun k hk _ => h.block k hk⟩
theorem Chg.trans {b : Nat} {w'' : World} (h : Chg b w w') (h' : Chg b w' w'') : Chg b w w'' :=
  ⟨h'.os.trans h.os, h'.tape.trans h.tape, h'.output.trans h.output, Nat.le_trans h.size h'.size, fun k hk hne => (h'.block k (Nat.lt_of_lt_of_le hk h.size) hne).trans (h.block k hk hne)⟩
theorem Chg.refl (b : Nat) (w : World) : Chg b w w := ⟨rfl, rfl, rfl, Nat.le_refl _, fun _ _ _ => rfl⟩
theorem below_chg {B b : Nat} {w0 : World} (h : Below B w0 w) (hc : Chg b w w') (hB : B ≤ b) (hs : B ≤ w.heap.size) : Below B w0 w' :=
  h.trans ⟨hc.os, hc.tape, hc.output, hc.size, fun k hk => hc.block k (by omega) (by omega)⟩
theorem below_ext {B : Nat} {w0 : World} (h : Below B w0 w) (he : Below w.heap.size w w') (hs : B ≤ w.heap.size) : Below B w0 w' := h.trans (he.mono hs)
theorem cell_lt {a : Addr} {v : Value} (h : w.cell? a = some v) : a.block < w.heap.size := by
  unfold World.cell? at h
  rcases Nat.lt_or_ge a.block w.heap.size with hlt | hge
  · exact hlt
  · rw [Array.getElem?_eq_none hge] at h; cases h
theorem cell_ext {a : Addr} {v : Value} (h : w.cell? a = some v) (hb : Below w.heap.size w w') : w'.cell? a = some v := by
  rw [hb.cell (cell_lt h)]; exact h
theorem cell_below {a : Addr} {v : Value} {B : Nat} (h : w.cell? a = some v) (hb : Below B w w') (hB : w.heap.size ≤ B) : w'.cell? a = some v := by
  rw [hb.cell (Nat.lt_of_lt_of_le (cell_lt h) hB)]; exact h
theorem cell_chg {a : Addr} {v : Value} {b : Nat} (h : w.cell? a = some v) (hc : Chg b w w') (hne : a.block ≠ b) : w'.cell? a = some v := by
  rw [World.cell?_of_block (hc.block _ (cell_lt h) hne)]; exact h

/-- What reads in w reads so in w'. -/
def Keeps (w w' : World) : Prop := ∀ a v, w.cell? a = some v → w'.cell? a = some v
theorem Keeps.of (hb : Below w.heap.size w w') : Keeps w w' := fun _ _ h => cell_ext h hb

theorem ext_alloc (w : World) (o : Obj) : Below w.heap.size w (w.alloc o) := (Below.refl _ _).alloc (Nat.le_refl _) _
theorem blk_alloc (w : World) (cs : List Value) (t : TypeId) : Blk (w.alloc (.cells cs.toArray t)) w.heap.size cs t := by
  unfold Blk
  rw [heap_alloc_new]
theorem blk_set {b i : Nat} {cs : List Value} {t : TypeId} {v : Value} (h : Blk w b cs t) : Blk (w.setCell ⟨b, i, none⟩ v) b (cs.set i v) t := by
  unfold Blk at h ⊢
  simp [World.setCell, Array.getElem?_modify, h]
theorem chg_set (b i : Nat) (v : Value) (w : World) : Chg b w (w.setCell ⟨b, i, none⟩ v) :=
  ⟨rfl, rfl, rfl, by simp, fun k _ hne => Below.heap_setCell _ _ _ _ hne⟩

/-! ## Types -/
/-- Type t is a slice of type e, whose values have sz cells and by bytes, and are z where nothing is said. -/
structure SlT (P : Program) (t e sz by_ : Nat) (z : Value) : Prop where
  und : P.underlying t = some (.slice e)
  inf : (P.info? e).map (fun i => (i.zero, i.size, i.bytes)) = some (some z, sz, by_)
theorem SlT.info {t e sz by_ : Nat} {z : Value} (h : SlT P t e sz by_ z) : ∃ i, P.info? e = some i ∧ i.zero = some z ∧ i.size = sz ∧ i.bytes = by_ := by
  have := h.inf
  simp only [Option.map_eq_some_iff, Prod.mk.injEq] at this
  obtain ⟨i, h1, h2, h3, h4⟩ := this
  exact ⟨i, h1, h2, h3, h4⟩
/-- A variable of type t is one cell. -/
structure VarT (P : Program) (t : TypeId) : Prop where
  agg : (match P.underlying t with | some (.struct _) => true | some (.array _ _) => true | none => true | _ => false) = false
  inf : (P.info? t).map (·.size) = some 1
theorem VarT.noAgg {t : TypeId} (h : VarT P t) (w : World) : (isAgg t).run P w = .ok false w := by
  have := h.agg
  cases hu : P.underlying t with
  | none => rw [hu] at this; cases this
  | some u =>
    rw [hu] at this
    cases u <;> first | (cases this; done) | (unfold isAgg; simp only [Sem.run_bind, run_underlying hu, Result.andThen_ok]; rfl)
theorem VarT.size {t : TypeId} (h : VarT P t) : ∃ i, P.info? t = some i ∧ i.size = 1 := by
  have := h.inf
  simp only [Option.map_eq_some_iff] at this
  exact this

/-! ## Loads and stores of one cell -/
theorem rl_load {t : TypeId} {x : Operand} {A : Addr} {v : Value} (hT : VarT P t) (hg : want N ops σ g = true) (hx : ev N σ x = .pointer (some A)) (hc : w.cell? A = some v)
    (k : RL P N ops Q rest (upd σ d v) w) : RL P N ops Q (⟨some d, .load t x, ty, pos, af, g⟩ :: rest) σ w :=
  rl_val hg (by simp [execOp, hx, Instr.loadAt, Instr.sureAddr, loadVar, hT.noAgg, hc]) k
theorem rl_store {t t' : TypeId} {x y : Operand} {b i : Nat} {v : Value} {cs : List Value} (hT : VarT P t) (hg : want N ops σ g = true) (hx : ev N σ x = .pointer (some ⟨b, i, none⟩)) (hy : ev N σ y = v) (h1 : v.oneCell' = true)
    (hB : Blk w b cs t') (hi : i < cs.length)
    (k : ∀ w', Blk w' b (cs.set i v) t' → Chg b w w' → w'.heap.size = w.heap.size → RL P N ops Q rest σ w') : RL P N ops Q (⟨none, .store t x y, ty, pos, af, g⟩ :: rest) σ w := by
  refine rl_unit hg ?_ (k _ (blk_set hB) (chg_set _ _ _ _) (by simp))
  obtain ⟨inf, hi1, hi2⟩ := hT.size
  have hcell : w.cell? ⟨b, i, none⟩ = some cs[i] := hB.cell_some (by simp [hi])
  have hfz := hB.frozen i
  have hcells : v.cells = #[v] := by cases v <;> first | rfl | (cases h1; done)
  have hst := run_store P w ⟨b, i, none⟩ v .plain h1
  simp [execOp, hx, hy, Instr.storeAt, Instr.sureAddr, storeVar, sizeOf, typeInfo, hi1, hi2, hcells, storeCells, Addr.add, hst, hcell, hfz]

/-! ## Slices -/
theorem rl_len {t : TypeId} {x : Operand} {a : Option Addr} {n c e sz by_ : Nat} {z : Value} (hT : SlT P t e sz by_ z) (hg : want N ops σ g = true) (hx : ev N σ x = .slice a n c)
    (k : RL P N ops Q rest (upd σ d (.int .i64 n)) w) : RL P N ops Q (⟨some d, .call ⟨.builtin .len, #[x], #[t]⟩, ty, pos, af, g⟩ :: rest) σ w :=
  rl_val hg (by simp [execOp, resolve, invoke, builtin, hx, Builtin.len_, run_underlying hT.und, goInt]) k
theorem rl_idx {t : TypeId} {x y : Operand} {a : Option Addr} {n c e sz by_ b off : Nat} {i : Int} {z : Value} (hT : SlT P t e sz by_ z) (hg : want N ops σ g = true) (hx : ev N σ x = .slice a n c) (hy : ev N σ y = .int .i64 i)
    (ha : a = some ⟨b, off, none⟩) (h0 : 0 ≤ i) (h1 : i < n)
    (k : RL P N ops Q rest (upd σ d (.pointer (some ⟨b, off + i.toNat * sz, none⟩))) w) : RL P N ops Q (⟨some d, .indexAddr t x y, ty, pos, af, g⟩ :: rest) σ w := by
  obtain ⟨inf, hi1, hi2, hi3, hi4⟩ := hT.info
  refine rl_val hg ?_ k
  subst ha
  simp [execOp, hx, hy, Instr.indexAt, asIntOf, run_underlying hT.und, h0, h1, sizeOf, typeInfo, hi1, hi3, Addr.add_lit]
theorem rl_idx1 {t : TypeId} {x y : Operand} {a : Option Addr} {n c e by_ b off : Nat} {i : Int} {z : Value} (hT : SlT P t e 1 by_ z) (hg : want N ops σ g = true) (hx : ev N σ x = .slice a n c) (hy : ev N σ y = .int .i64 i)
    (ha : a = some ⟨b, off, none⟩) (h0 : 0 ≤ i) (h1 : i < n)
    (k : RL P N ops Q rest (upd σ d (.pointer (some ⟨b, off + i.toNat, none⟩))) w) : RL P N ops Q (⟨some d, .indexAddr t x y, ty, pos, af, g⟩ :: rest) σ w :=
  rl_idx hT hg hx hy ha h0 h1 (by rw [Nat.mul_one]; exact k)
theorem rl_slice_lh {t : TypeId} {x lo hi : Operand} {a : Option Addr} {n c e sz by_ b off : Nat} {l h : Int} {z : Value} (hT : SlT P t e sz by_ z) (hg : want N ops σ g = true) (hx : ev N σ x = .slice a n c)
    (hlo : ev N σ lo = .int .i64 l) (hhi : ev N σ hi = .int .i64 h) (ha : 0 < n → a = some ⟨b, off, none⟩) (h0 : 0 ≤ l) (h1 : l ≤ h) (h2 : h ≤ n) (h3 : n ≤ c)
    (k : ∀ a', (l < h → a' = some ⟨b, off + l.toNat * sz, none⟩) → RL P N ops Q rest (upd σ d (.slice a' (h.toNat - l.toNat) (c - l.toNat))) w) : RL P N ops Q (⟨some d, .slice t x (some lo) (some hi) none, ty, pos, af, g⟩ :: rest) σ w := by
  obtain ⟨inf, hi1, hi2, hi3, hi4⟩ := hT.info
  refine rl_val hg (v := .slice (if c = l.toNat then a else a.map (·.add (l.toNat * sz))) (h.toNat - l.toNat) (c - l.toNat)) ?_ (k _ ?_)
  · have e1 : h ≤ (c : Int) := by omega
    have e2 : 0 ≤ h := by omega
    have e3 : l ≤ max h 0 := by omega
    simp [execOp, hx, hlo, hhi, Instr.sliceAt, Instr.slice, Instr.sliceBounds, Instr.sliceBound, asIntOf, run_underlying hT.und, h0, e1, e2, e3, sizeOf, typeInfo, hi1, hi3]
  · intro hlt
    have : ¬ c = l.toNat := by omega
    rw [if_neg this, ha (by omega)]
    simp [Addr.add_lit]
theorem rl_slice_h {t : TypeId} {x hi : Operand} {a : Option Addr} {n c e sz by_ : Nat} {h : Int} {z : Value} (hT : SlT P t e sz by_ z) (hg : want N ops σ g = true) (hx : ev N σ x = .slice a n c)
    (hhi : ev N σ hi = .int .i64 h) (h1 : 0 ≤ h) (h2 : h ≤ n) (h3 : n ≤ c)
    (k : RL P N ops Q rest (upd σ d (.slice a h.toNat c)) w) : RL P N ops Q (⟨some d, .slice t x none (some hi) none, ty, pos, af, g⟩ :: rest) σ w := by
  obtain ⟨inf, hi1, hi2, hi3, hi4⟩ := hT.info
  refine rl_val hg (v := .slice a h.toNat c) ?_ (k)
  have e1 : h ≤ (c : Int) := by omega
  have e2 : (if c = 0 then a else a.map (·.add 0)) = a := by
    cases a <;> simp [Addr.add]
  simp [execOp, hx, hhi, Instr.sliceAt, Instr.slice, Instr.sliceBounds, Instr.sliceBound, asIntOf, run_underlying hT.und, h1, e1, sizeOf, typeInfo, hi1, hi3]
  cases a <;> simp [Addr.add]
theorem rl_slice_l {t : TypeId} {x lo : Operand} {a : Option Addr} {n c e sz by_ b off : Nat} {l : Int} {z : Value} (hT : SlT P t e sz by_ z) (hg : want N ops σ g = true) (hx : ev N σ x = .slice a n c)
    (hlo : ev N σ lo = .int .i64 l) (ha : 0 < n → a = some ⟨b, off, none⟩) (h0 : 0 ≤ l) (h1 : l ≤ n) (h3 : n ≤ c)
    (k : ∀ a', (l < n → a' = some ⟨b, off + l.toNat * sz, none⟩) → RL P N ops Q rest (upd σ d (.slice a' (n - l.toNat) (c - l.toNat))) w) : RL P N ops Q (⟨some d, .slice t x (some lo) none none, ty, pos, af, g⟩ :: rest) σ w := by
  obtain ⟨inf, hi1, hi2, hi3, hi4⟩ := hT.info
  refine rl_val hg (v := .slice (if c = l.toNat then a else a.map (·.add (l.toNat * sz))) (n - l.toNat) (c - l.toNat)) ?_ (k _ ?_)
  · simp [execOp, hx, hlo, Instr.sliceAt, Instr.slice, Instr.sliceBounds, Instr.sliceBound, asIntOf, run_underlying hT.und, h0, h1, sizeOf, typeInfo, hi1, hi3]
  · intro hlt
    have : ¬ c = l.toNat := by omega
    rw [if_neg this, ha (by omega)]
    simp [Addr.add_lit]

/-! ## New memory -/
theorem map_range0 (f : Nat → Value) : Array.map f (Array.range 0) = #[] := by apply Array.ext <;> simp
theorem map_range1_set (f : Nat → Value) (v : Value) : (Array.map f (Array.range 1)).setIfInBounds 0 v = #[v] := by
  apply Array.ext
  · simp
  · intro i h1 h2
    have : i = 0 := by simp at h2; omega
    subst this; simp
theorem made_map (n : Nat) (z : Value) : ((Array.range (n * 1)).map fun i => (#[z] : Array Value)[i % 1]!) = (List.replicate n z).toArray := by
  apply Array.ext
  · simp
  · intro i h1 h2
    simp [Nat.mod_one]
theorem rl_make1 {t : TypeId} {x : Operand} {n : Int} {e by_ : Nat} {z : Value} (hT : SlT P t e 1 by_ z) (hz : z.oneCell' = true) (hg : want N ops σ g = true) (hx : ev N σ x = .int .i64 n)
    (h0 : 0 ≤ n) (h1 : n ≤ 1000000000) (h2 : by_ ≤ 1000)
    (k : ∀ w', Blk w' w.heap.size (List.replicate n.toNat z) e → Below w.heap.size w w' → w'.heap.size = w.heap.size + 1 →
      RL P N ops Q rest (upd σ d (.slice (some ⟨w.heap.size, 0, none⟩) n.toNat n.toNat)) w') : RL P N ops Q (⟨some d, .makeSlice t x x, ty, pos, af, g⟩ :: rest) σ w := by
  obtain ⟨inf, hi1, hi2, hi3, hi4⟩ := hT.info
  refine rl_val hg ?_ (k (w.alloc (.cells (List.replicate n.toNat z).toArray e)) (blk_alloc _ _ _) (ext_alloc _ _) (by simp))
  have hw : IntKind.i64.wrap n = n := wrap_id (by omega) (by omega)
  have hcells : z.cells = #[z] := by cases z <;> first | rfl | (cases hz; done)
  have hm : (by_ : Int) * n ≤ 1000 * 1000000000 := Int.mul_le_mul (by omega) h1 h0 (by omega)
  have hbig : ¬ (281474976710656 < (by_ : Int) * n) := by omega
  have hn0 : ¬ n < 0 := by omega
  by_cases hn : n.toNat = 0
  · have : n = 0 := by omega
    subst this
    simp [execOp, hx, Instr.makeSlice, asInt, asIntOf, run_underlying hT.und, typeInfo, hi1, hi4, hw, sizeOf, hi3, newRow]
    rw [map_range0]
  · simp [execOp, hx, Instr.makeSlice, asInt, asIntOf, run_underlying hT.und, typeInfo, hi1, hi4, hw, sizeOf, hi3, newRow, hbig, hn0, hn, zeroValue, hi2, hcells]
    have := made_map n.toNat z
    simp at this
    rw [this]
theorem rl_bslice0 {t : TypeId} {e sz by_ : Nat} {z : Value} (hT : SlT P t e sz by_ z) (hg : want N ops σ g = true)
    (k : ∀ w', Blk w' w.heap.size [] e → Below w.heap.size w w' → w'.heap.size = w.heap.size + 1 →
      RL P N ops Q rest (upd σ d (.slice (some ⟨w.heap.size, 0, none⟩) 0 0)) w') : RL P N ops Q (⟨some d, .buildSlice t 0 #[], ty, pos, af, g⟩ :: rest) σ w := by
  obtain ⟨inf, hi1, hi2, hi3, hi4⟩ := hT.info
  refine rl_val hg ?_ (k (w.alloc (.cells ([] : List Value).toArray e)) (blk_alloc _ _ _) (ext_alloc _ _) (by simp))
  simp [execOp, Instr.buildSlice, run_underlying hT.und, typeInfo, hi1, sizeOf, Instr.fill, newRow]
  rw [map_range0]
theorem rl_bslice1 {t : TypeId} {x : Operand} {e by_ : Nat} {z v : Value} (hT : SlT P t e 1 by_ z) (hz : z.oneCell' = true) (hg : want N ops σ g = true) (hx : ev N σ x = v) (hv : v.oneCell' = true)
    (k : ∀ w', Blk w' w.heap.size [v] e → Below w.heap.size w w' → w'.heap.size = w.heap.size + 1 →
      RL P N ops Q rest (upd σ d (.slice (some ⟨w.heap.size, 0, none⟩) 1 1)) w') : RL P N ops Q (⟨some d, .buildSlice t 1 #[(0, x)], ty, pos, af, g⟩ :: rest) σ w := by
  obtain ⟨inf, hi1, hi2, hi3, hi4⟩ := hT.info
  refine rl_val hg ?_ (k (w.alloc (.cells [v].toArray e)) (blk_alloc _ _ _) (ext_alloc _ _) (by simp))
  have hcz : z.cells = #[z] := by cases z <;> first | rfl | (cases hz; done)
  have hcv : v.cells = #[v] := by cases v <;> first | rfl | (cases hv; done)
  simp [execOp, hx, Instr.buildSlice, run_underlying hT.und, typeInfo, hi1, hi3, sizeOf, zeroValue, hi2, hcz, Instr.fill, hcv, newRow]
  rw [map_range1_set]

/-! ## A slice that the call itself made, and may append to -/
/-- v holds the n elements with the cells xs, in block b (of its own), or is nil and empty. -/
def Own (w : World) (e sz : Nat) (v : Value) (n : Nat) (xs : List Value) (b : Nat) : Prop :=
  xs.length = n * sz ∧ ((v = .slice none 0 0 ∧ n = 0) ∨ ∃ cap spare, v = .slice (some ⟨b, 0, none⟩) n cap ∧ n ≤ cap ∧ cap ≤ maxLen ∧ (xs ++ spare).length = cap * sz ∧ Blk w b (xs ++ spare) e)
theorem Own.nil (w : World) (e sz b : Nat) : Own w e sz (.slice none 0 0) 0 [] b := ⟨by simp, .inl ⟨rfl, rfl⟩⟩
theorem Own.shape {e sz n b : Nat} {v : Value} {xs : List Value} (h : Own w e sz v n xs b) : ∃ a c, v = .slice a n c ∧ n ≤ c ∧ c ≤ maxLen ∧ (0 < n → a = some ⟨b, 0, none⟩) := by
  rcases h.2 with ⟨rfl, rfl⟩ | ⟨cap, spare, rfl, h1, h2, _, _⟩
  · exact ⟨none, 0, rfl, Nat.le_refl _, Nat.zero_le _, fun h => absurd h (by omega)⟩
  · exact ⟨_, cap, rfl, h1, h2, fun _ => rfl⟩
theorem Own.cell {e sz n b i : Nat} {v u : Value} {xs : List Value} (h : Own w e sz v n xs b) (hi : xs[i]? = some u) : w.cell? ⟨b, i, none⟩ = some u := by
  rcases h.2 with ⟨rfl, rfl⟩ | ⟨cap, spare, rfl, h1, h2, h3, h4⟩
  · have : xs = [] := List.eq_nil_of_length_eq_zero (by simpa using h.1)
    subst this; simp at hi
  · refine h4.cell_some ?_
    have hlt : i < xs.length := by
      rcases Nat.lt_or_ge i xs.length with h | h
      · exact h
      · rw [List.getElem?_eq_none h] at hi; cases hi
    rw [List.getElem?_append_left hlt]; exact hi
theorem Own.blk {e sz n b : Nat} {v : Value} {xs : List Value} (h : Own w e sz v n xs b) (hn : 0 < n) : ∃ spare, Blk w b (xs ++ spare) e := by
  rcases h.2 with ⟨_, rfl⟩ | ⟨cap, spare, rfl, h1, h2, h3, h4⟩
  · omega
  · exact ⟨spare, h4⟩
theorem Own.ext {e sz n b : Nat} {v : Value} {xs : List Value} (h : Own w e sz v n xs b) (hb : Below w.heap.size w w') : Own w' e sz v n xs b := by
  refine ⟨h.1, ?_⟩
  rcases h.2 with h1 | ⟨cap, spare, h1, h2, h3, h4, h5⟩
  · exact .inl h1
  · exact .inr ⟨cap, spare, h1, h2, h3, h4, h5.ext hb⟩
theorem Own.chg {e sz n b c : Nat} {v : Value} {xs : List Value} (h : Own w e sz v n xs b) (hc : Chg c w w') (hne : b ≠ c) : Own w' e sz v n xs b := by
  refine ⟨h.1, ?_⟩
  rcases h.2 with h1 | ⟨cap, spare, h1, h2, h3, h4, h5⟩
  · exact .inl h1
  · exact .inr ⟨cap, spare, h1, h2, h3, h4, h5.chg hc hne⟩
theorem Own.of_blk {e sz n b : Nat} {xs : List Value} (h : Blk w b xs e) (hl : xs.length = n * sz) (hn : n ≤ maxLen) : Own w e sz (.slice (some ⟨b, 0, none⟩) n n) n xs b :=
  ⟨hl, .inr ⟨n, [], rfl, Nat.le_refl _, hn, by simpa using hl, by simpa using h⟩⟩

theorem blk_row {b : Nat} {cs cs' : List Value} {t : TypeId} (h : Blk w b cs t) : Blk (w.setRow b cs'.toArray) b cs' t := setRow_heap w b _ _ _ _ h
theorem chg_row (b : Nat) (cs : Array Value) (w : World) : Chg b w (w.setRow b cs) := ⟨rfl, rfl, rfl, by simp, fun k _ hne => setRow_other w b k _ hne⟩

/-- append(v, elements of x..): where it ends, and what it leaves. -/
theorem run_append_Own {t ty e sz by_ b : Nat} {z v : Value} (hT : SlT P t e sz by_ z) (hzc : z.cells.size = sz) (hsz : 0 < sz) {n m c : Nat} {xs news : List Value} {a : Option Addr} {B off : Nat}
    (hown : Own w e sz v n xs b) (ha : 0 < m → a = some ⟨B, off, none⟩) (hl : news.length = m * sz) (hnews : ∀ j u, news[j]? = some u → w.cell? ⟨B, off + j, none⟩ = some u) (h1 : ∀ u ∈ news, u.oneCell' = true)
    (h63 : n + m ≤ maxLen) (hby : (n + m) * by_ ≤ 140737488355328) :
    ∃ v' w' b', (Builtin.append_ #[t, t] ty #[v, .slice a m c]).run P w = .ok v' w' ∧ Own w' e sz v' (n + m) (xs ++ news) b' ∧ (b' = b ∨ w.heap.size ≤ b') ∧ Chg b w w' ∧ (m = 0 → v' = v ∧ w' = w) := by
  obtain ⟨i, hi, hz, hisz, hiby⟩ := hT.info
  subst hisz; subst hiby
  have ht := hT.und
  have hsmall : n + m ≤ 9223372036854775807 := by simp only [maxLen] at h63; omega
  have hlen : (xs ++ news).length = (n + m) * i.size := by rw [List.length_append, hown.1, hl, Nat.add_mul]
  by_cases hm : m = 0
  · subst hm
    have hn : news = [] := List.eq_nil_of_length_eq_zero (by simpa using hl)
    subst hn
    simp only [List.append_nil, Nat.add_zero]
    rcases hown.2 with ⟨rfl, rfl⟩ | ⟨cap, spare, rfl, hnc, hcm, hcs, hB⟩
    · refine ⟨.slice none 0 0, w, b, ?_, hown, .inl rfl, Chg.refl _ _, fun _ => ⟨rfl, rfl⟩⟩
      cases a <;> simp [Builtin.append_, run_underlying ht, sizeOf, typeInfo, hi, Builtin.lenOf, Builtin.firstCells, loadCells, loadCellsFrom]
    · refine ⟨.slice (some ⟨b, 0, none⟩) n cap, w, b, ?_, hown, .inl rfl, Chg.refl _ _, fun _ => ⟨rfl, rfl⟩⟩
      cases a <;> simp [Builtin.append_, run_underlying ht, sizeOf, typeInfo, hi, Builtin.lenOf, Builtin.firstCells, loadCells, loadCellsFrom, hnc, storeCells]
  · have haa := ha (by omega)
    subst haa
    have hnews' : ∀ j u, news[j]? = some u → w.cell? ((⟨B, off, none⟩ : Addr).add j) = some u := fun j u h => by rw [Addr.add_lit]; exact hnews j u h
    have grown : ∀ (old : Nat), old < n + m →
        Own (w.drew.alloc (.cells (xs.toArray ++ news.toArray ++ Builtin.zeroCells z.cells (grownCap w (n + m) old e - (n + m))) e)) e i.size
          (.slice (some ⟨w.heap.size, 0, none⟩) (n + m) (grownCap w (n + m) old e)) (n + m) (xs ++ news) w.heap.size ∧
        Chg b w (w.drew.alloc (.cells (xs.toArray ++ news.toArray ++ Builtin.zeroCells z.cells (grownCap w (n + m) old e - (n + m))) e)) := by
      intro old ho
      have hge := grownCap_ge w (n + m) old e
      have hcm : grownCap w (n + m) old e ≤ maxLen := grownCap_le_maxLen w (n + m) old e h63
      refine ⟨⟨hlen, .inr ⟨_, (Builtin.zeroCells z.cells (grownCap w (n + m) old e - (n + m))).toList, rfl, hge, hcm, ?_, ?_⟩⟩, ⟨rfl, rfl, rfl, by simp, fun k hk _ => heap_alloc_old w.drew _ hk⟩⟩
      · simp only [List.length_append, Array.length_toList, size_zeroCells, hzc, hown.1, hl, ← Nat.add_mul]
        congr 1
        omega
      · have : xs.toArray ++ news.toArray ++ Builtin.zeroCells z.cells (grownCap w (n + m) old e - (n + m)) = (xs ++ news ++ (Builtin.zeroCells z.cells (grownCap w (n + m) old e - (n + m))).toList).toArray := by
          apply Array.ext'; simp
        rw [this]
        exact blk_alloc w.drew _ _
    rcases hown.2 with ⟨rfl, rfl⟩ | ⟨cap, spare, rfl, hnc, hcm, hcs, hB⟩
    · have hx : xs = [] := List.eq_nil_of_length_eq_zero (by simpa using hown.1)
      subst hx
      have hr := run_append_nil (P := P) w t ty e i z ht hi hz _ m c news hl hnews' (by omega) (by omega) (by have hb := hby; simp only [Nat.zero_add] at hb; omega)
      have hgr := grown 0 (by omega)
      simp only [Nat.zero_add, List.nil_append, Array.empty_append] at hgr ⊢
      exact ⟨_, _, _, hr, hgr.1, .inr (Nat.le_refl _), hgr.2, fun h => absurd h hm⟩
    · by_cases hroom : n + m ≤ cap
      · have hfit : n * i.size + news.length ≤ (xs ++ spare).toArray.size := by simp only [List.size_toArray]; rw [hl, hcs, ← Nat.add_mul]; exact Nat.mul_le_mul_right _ hroom
        have hr := run_append_room (P := P) w t ty e i ht hi b n cap (xs ++ spare).toArray hB _ m c news hl hnews' h1 hroom hfit
        have e1 : ((xs ++ spare).toArray.toList.take (n * i.size) ++ news ++ (xs ++ spare).toArray.toList.drop (n * i.size + news.length)) = (xs ++ news) ++ (xs ++ spare).drop (n * i.size + news.length) := by
          simp only [← hown.1, List.take_left]
        rw [e1] at hr
        refine ⟨_, _, b, hr, ⟨hlen, .inr ⟨cap, (xs ++ spare).drop (n * i.size + news.length), rfl, hroom, hcm, ?_, blk_row hB⟩⟩, .inl rfl, chg_row _ _ _, fun h => absurd h hm⟩
        simp only [List.size_toArray] at hfit
        simp only [List.length_append, List.length_drop, hown.1] at *
        omega
      · have holds : ∀ j u, xs[j]? = some u → w.cell? ((⟨b, 0, none⟩ : Addr).add j) = some u := fun j u h => by rw [Addr.add_lit, Nat.zero_add]; exact hown.cell h
        have hr := run_append_grow (P := P) w t ty e i z ht hi hz ⟨b, 0, none⟩ n cap xs hown.1 holds _ m c news hl hnews' (by omega) (by omega) (growslice_fits (by omega) hby)
        have hgr := grown cap (by omega)
        exact ⟨_, _, _, hr, hgr.1, .inr (Nat.le_refl _), hgr.2, fun h => absurd h hm⟩
theorem rl_append {t e sz by_ b : Nat} {x y : Operand} {z v : Value} {n m c : Nat} {xs news : List Value} {a : Option Addr} {B off : Nat} (hT : SlT P t e sz by_ z) (hzc : z.cells.size = sz) (hsz : 0 < sz)
    (hown : Own w e sz v n xs b) (hnews : ∀ j u, news[j]? = some u → w.cell? ⟨B, off + j, none⟩ = some u) (hg : want N ops σ g = true) (hx : ev N σ x = v) (hy : ev N σ y = .slice a m c)
    (ha : 0 < m → a = some ⟨B, off, none⟩) (hl : news.length = m * sz) (h1 : ∀ u ∈ news, u.oneCell' = true)
    (h63 : n + m ≤ maxLen) (hby : (n + m) * by_ ≤ 140737488355328)
    (k : ∀ v' w' b', Own w' e sz v' (n + m) (xs ++ news) b' → (b' = b ∨ w.heap.size ≤ b') → Chg b w w' → (m = 0 → v' = v ∧ w' = w) → RL P N ops Q rest (upd σ d v') w') :
    RL P N ops Q (⟨some d, .call ⟨.builtin .append, #[x, y], #[t, t]⟩, ty, pos, af, g⟩ :: rest) σ w := by
  obtain ⟨v', w', b', hr, h2, h3, h4, h5⟩ := run_append_Own (ty := ty) (c := c) hT hzc hsz hown ha hl hnews h1 h63 hby
  exact rl_val hg (by simp [execOp, resolve, invoke, builtin, hx, hy, hr]) (k v' w' b' h2 h3 h4 h5)

/-! ## Calls -/
/-- Function f has a body, and is none of the runtime's own. -/
structure FnT (P : Program) (f : FuncId) : Prop where
  is : ∃ fn, P.funcs[f]? = some fn ∧ (fn.name == "runtime.NumGoroutine") = false ∧ fn.body.isNone = false
theorem FnT.mk' {f : FuncId} {fn : Func} (h : P.funcs[f]? = some fn) (h1 : (fn.name == "runtime.NumGoroutine") = false) (h2 : fn.body.isNone = false) : FnT P f := ⟨fn, h, h1, h2⟩
theorem run_callFn {f : FuncId} (hf : FnT P f) (args : Array Value) (w : World) : (callFunc f args).run P w = .ok (.enter f args) w := by
  obtain ⟨fn, h1, h2, h3⟩ := hf.is
  have h4 : ¬ fn.name = "runtime.NumGoroutine" := by simpa using h2
  have h5 : ¬ fn.body = none := by intro h; rw [h] at h3; cases h3
  simp [callFunc, h1, h4, h5]
theorem run_call {f : FuncId} {ts : Array TypeId} {args : List Operand} {as : List Value} (hf : FnT P f) (ha : args.map (ev N σ) = as) (o : Oper) (ho : o.op = .call ⟨.value (.func f), args.toArray, ts⟩) (w : World) :
    (execOp (ev N σ) o).run P w = .ok (.enter f as.toArray) w := by
  subst ha
  simp [execOp, ho, resolve, ev, Deferred.ofValue, invoke, run_callFn hf]
theorem rl_callf {f : FuncId} {ts : Array TypeId} {args : List Operand} {as : List Value} {Post : Value → World → Prop} (hf : FnT P f) (hc : CallsOk P f as.toArray w Post) (hg : want N ops σ g = true) (ha : args.map (ev N σ) = as)
    (k : ∀ v w', Post v w' → RL P N ops Q rest (upd σ d v) w') : RL P N ops Q (⟨some d, .call ⟨.value (.func f), args.toArray, ts⟩, ty, pos, af, g⟩ :: rest) σ w :=
  rl_call hg (run_call hf ha _ rfl w) hc k
theorem rl_callf_none {f : FuncId} {ts : Array TypeId} {args : List Operand} {as : List Value} {Post : Value → World → Prop} (hf : FnT P f) (hc : CallsOk P f as.toArray w Post) (hg : want N ops σ g = true) (ha : args.map (ev N σ) = as)
    (k : ∀ v w', Post v w' → RL P N ops Q rest σ w') : RL P N ops Q (⟨none, .call ⟨.value (.func f), args.toArray, ts⟩, ty, pos, af, g⟩ :: rest) σ w :=
  rl_call_none hg (run_call hf ha _ rfl w) hc k
/-- A call of a function value: its first arguments ahead, what it captured behind. -/
theorem rl_callv {f : FuncId} {x : Operand} {ts : Array TypeId} {args : List Operand} {as cap : List Value} {Post : Value → World → Prop} (hf : FnT P f) (hc : CallsOk P f (as ++ cap).toArray w Post) (hg : want N ops σ g = true)
    (hx : ev N σ x = .func (.func f) #[] cap.toArray) (ha : args.map (ev N σ) = as)
    (k : ∀ v w', Post v w' → RL P N ops Q rest (upd σ d v) w') : RL P N ops Q (⟨some d, .call ⟨.value x, args.toArray, ts⟩, ty, pos, af, g⟩ :: rest) σ w := by
  refine rl_call hg ?_ hc k
  subst ha
  simp [execOp, resolve, hx, Deferred.ofValue, invoke, run_callFn hf]
theorem rl_mkfunc {f : FuncId} {cap : List Operand} {vs : List Value} (hg : want N ops σ g = true) (ha : cap.map (ev N σ) = vs)
    (k : RL P N ops Q rest (upd σ d (.func (.func f) #[] vs.toArray)) w) : RL P N ops Q (⟨some d, .makeFunc (.func f) #[] cap.toArray, ty, pos, af, g⟩ :: rest) σ w :=
  rl_val hg (by subst ha; simp [execOp, Instr.makeFunc]) k
theorem rl_box {t : TypeId} {x : Operand} {v : Value} (hg : want N ops σ g = true) (hx : ev N σ x = v) (hv : v.oneCell' = true)
    (k : ∀ w', Blk w' w.heap.size [v] t → Below w.heap.size w w' → w'.heap.size = w.heap.size + 1 → RL P N ops Q rest (upd σ d (.pointer (some ⟨w.heap.size, 0, none⟩))) w') :
    RL P N ops Q (⟨some d, .box t x, ty, pos, af, g⟩ :: rest) σ w := by
  refine rl_val hg ?_ (k (w.alloc (.cells [v].toArray t)) (blk_alloc _ _ _) (ext_alloc _ _) (by simp))
  have hcv : v.cells = #[v] := by cases v <;> first | rfl | (cases hv; done)
  simp [execOp, hx, Instr.box, newVar, newRow, hcv]
theorem rl_alloc {t : TypeId} {z : Value} (hz : (P.info? t).map (·.zero) = some (some z)) (h1 : z.oneCell' = true) (hg : want N ops σ g = true)
    (k : ∀ w', Blk w' w.heap.size [z] t → Below w.heap.size w w' → w'.heap.size = w.heap.size + 1 → RL P N ops Q rest (upd σ d (.pointer (some ⟨w.heap.size, 0, none⟩))) w') :
    RL P N ops Q (⟨some d, .alloc t, ty, pos, af, g⟩ :: rest) σ w := by
  refine rl_val hg ?_ (k (w.alloc (.cells [z].toArray t)) (blk_alloc _ _ _) (ext_alloc _ _) (by simp))
  have hcv : z.cells = #[z] := by cases z <;> first | rfl | (cases h1; done)
  simp only [Option.map_eq_some_iff] at hz
  obtain ⟨i, hi, hz⟩ := hz
  simp [execOp, Instr.alloc, zeroValue, typeInfo, hi, hz, newVar, newRow, hcv]
theorem rl_nilck {x : Operand} {A : Addr} (hg : want N ops σ g = true) (hx : ev N σ x = .pointer (some A))
    (k : RL P N ops Q rest (upd σ d (.pointer (some A))) w) : RL P N ops Q (⟨some d, .nilCheck x, ty, pos, af, g⟩ :: rest) σ w :=
  rl_val hg (by simp [execOp, hx]) k
end Go.Eng
