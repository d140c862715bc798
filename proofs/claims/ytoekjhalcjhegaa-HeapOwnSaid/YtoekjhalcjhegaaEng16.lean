/- The rules of the frame over what a call has of its own. Nothing here names a program. -/
import Derived.Test.YtoekjhalcjhegaaEng15
set_option linter.unusedVariables false
set_option linter.unusedSimpArgs false
namespace Go.Eng
open Go Go.RowKit
variable {P : Program} {N : NN} {Q : Exit → Act → World → Prop} {S : World → Prop} {σ : Env} {w0 w w' : World} {ops rest : List Oper} {r : List (Nat × Bool)}
  {d : Tmp} {ty : TypeId} {pos : String} {af : Array Edge} {g : Option (Nat × Bool)} {io nt : Nat} {L : List Ent} {V : Vw}
/-- From place o of block b on stand these cells. -/
def VRow (V : Vw) (b o : Nat) (vs : List Value) : Prop := ∀ (j : Nat) u, vs[j]? = some u → V ⟨b, o + j, none⟩ = some u
theorem VRow.get {b o j : Nat} {vs : List Value} {u : Value} (h : VRow V b o vs) (hj : vs[j]? = some u) : V ⟨b, o + j, none⟩ = some u := h j u hj
theorem VRow.get0 {b o : Nat} {vs : List Value} {u : Value} (h : VRow V b o vs) (hj : vs[0]? = some u) : V ⟨b, o, none⟩ = some u := h 0 u hj
theorem VRow.le {V' : Vw} {b o : Nat} {vs : List Value} (h : VRow V b o vs) (hv : VLe V V') : VRow V' b o vs := fun j u hj => hv _ _ (h j u hj)
theorem VRow.one {b o : Nat} {u : Value} (h : V ⟨b, o, none⟩ = some u) : VRow V b o [u] := fun j v hj => by
  match j, hj with
  | 0, hj => simp at hj; subst hj; exact h
theorem VRow.two {b o : Nat} {u v : Value} (h : V ⟨b, o, none⟩ = some u) (h1 : V ⟨b, o + 1, none⟩ = some v) : VRow V b o [u, v] := fun j s hj => by
  match j, hj with
  | 0, hj => simp at hj; subst hj; exact h
  | 1, hj => simp at hj; subst hj; exact h1
theorem VRow.three {b o : Nat} {u v s : Value} (h : V ⟨b, o, none⟩ = some u) (h1 : V ⟨b, o + 1, none⟩ = some v) (h2 : V ⟨b, o + 2, none⟩ = some s) : VRow V b o [u, v, s] := fun j q hj => by
  match j, hj with
  | 0, hj => simp at hj; subst hj; exact h
  | 1, hj => simp at hj; subst hj; exact h1
  | 2, hj => simp at hj; subst hj; exact h2
theorem Mem.row {i b : Nat} {cs : List Value} {t : TypeId} (h : Mem w0 w L V) (hi : L[i]? = some (.blk b cs t)) : ∀ (j : Nat) u, cs[j]? = some u → w.cell? ⟨b, 0 + j, none⟩ = some u :=
  fun j u hj => by rw [Nat.zero_add]; exact h.cell hi hj
theorem isInts_of {a : Option Addr} {n c b off : Nat} {xs : List Int} (hn : n = xs.length) (h2 : xs.length ≤ c) (h3 : c ≤ maxLen) (h4 : 0 < xs.length → a = some ⟨b, off, none⟩)
    (h5 : ∀ (i : Nat) u, (xs.map (Value.int .i64))[i]? = some u → V ⟨b, off + i, none⟩ = some u) (h6 : ∀ x ∈ xs, I64 x) : IsInts V (.slice a n c) xs := by
  subst hn
  exact ⟨⟨a, c, b, off, by simp, by simpa using h2, h3, by simpa using h4, h5⟩, h6⟩
theorem IsInts.le {V' : Vw} {v : Value} {xs : List Int} (h : IsInts V v xs) (hv : VLe V V') : IsInts V' v xs := h.mono hv
theorem IsRows.le {V' : Vw} {v : Value} {xs : List (List Int)} (h : IsRows V v xs) (hv : VLe V V') : IsRows V' v xs := h.mono hv
/-! ## Loads -/
theorem rl_loadV {t : TypeId} {x : Operand} {A : Addr} {v : Value} (hM : Mem w0 w L V) (hT : VarT P t) (hg : want N ops σ g = true) (hx : ev N σ x = .pointer (some A)) (hc : V A = some v)
    (k : RL P N ops Q rest (upd σ d v) w) : RL P N ops Q (⟨some d, .load t x, ty, pos, af, g⟩ :: rest) σ w := rl_load hT hg hx (hM.view hc) k
theorem rl_loadM {t t' : TypeId} {x : Operand} {b o : Nat} {cs : List Value} {v : Value} (i : Nat) (hM : Mem w0 w L V) (hT : VarT P t) (hg : want N ops σ g = true) (hx : ev N σ x = .pointer (some ⟨b, o, none⟩)) (hi : L[i]? = some (.blk b cs t')) (hc : cs[o]? = some v)
    (k : RL P N ops Q rest (upd σ d v) w) : RL P N ops Q (⟨some d, .load t x, ty, pos, af, g⟩ :: rest) σ w := rl_load hT hg hx (hM.cell hi hc) k
theorem rl_loadAV {t n : Nat} {zs vs : List Value} {x : Operand} {b o : Nat} (hM : Mem w0 w L V) (hA : AgT P t n zs) (hg : want N ops σ g = true) (hx : ev N σ x = .pointer (some ⟨b, o, none⟩)) (hc : VRow V b o vs) (hl : vs.length = n)
    (k : RL P N ops Q rest (upd σ d (.agg vs.toArray)) w) : RL P N ops Q (⟨some d, .load t x, ty, pos, af, g⟩ :: rest) σ w :=
  rl_loadA vs hA hg hx hl (fun j u hj => hM.view (hc j u hj)) k
theorem rl_loadAM {t t' n : Nat} {zs vs cs : List Value} {x : Operand} {b o : Nat} (i : Nat) (hM : Mem w0 w L V) (hA : AgT P t n zs) (hg : want N ops σ g = true) (hx : ev N σ x = .pointer (some ⟨b, o, none⟩)) (hi : L[i]? = some (.blk b cs t')) (hc : (cs.drop o).take n = vs) (hl : vs.length = n)
    (k : RL P N ops Q rest (upd σ d (.agg vs.toArray)) w) : RL P N ops Q (⟨some d, .load t x, ty, pos, af, g⟩ :: rest) σ w :=
  rl_loadA vs hA hg hx hl (fun j u hj => hM.cell hi (by
    subst hc
    rw [List.getElem?_take] at hj
    split at hj
    · rwa [List.getElem?_drop] at hj
    · cases hj)) k
/-! ## Stores -/
theorem rl_storeM {t t' : TypeId} {x y : Operand} {b o : Nat} {v : Value} {cs : List Value} (i : Nat) (hM : Mem w0 w L V) (hT : VarT P t) (hg : want N ops σ g = true) (hx : ev N σ x = .pointer (some ⟨b, o, none⟩)) (hy : ev N σ y = v) (h1 : v.oneCell' = true)
    (hi : L[i]? = some (.blk b cs t')) (ho : o < cs.length)
    (k : ∀ w', Mem w0 w' (L.set i (.blk b (cs.set o v) t')) V → RL P N ops Q rest σ w') : RL P N ops Q (⟨none, .store t x y, ty, pos, af, g⟩ :: rest) σ w :=
  rl_store hT hg hx hy h1 (hM.get hi) ho (fun w' hB hc _ => k w' (hM.set hi hc hB))
theorem rl_storeAM {t t' n : Nat} {zs vs cs : List Value} {x y : Operand} {b o : Nat} (i : Nat) (hM : Mem w0 w L V) (hA : AgT P t n zs) (hg : want N ops σ g = true) (hx : ev N σ x = .pointer (some ⟨b, o, none⟩)) (hy : ev N σ y = .agg vs.toArray) (hl : vs.length = n) (h1 : vs.all (·.oneCell') = true)
    (hi : L[i]? = some (.blk b cs t')) (ho : o + n ≤ cs.length)
    (k : ∀ w', Mem w0 w' (L.set i (.blk b (cs.take o ++ vs ++ cs.drop (o + vs.length)) t')) V → RL P N ops Q rest σ w') : RL P N ops Q (⟨none, .store t x y, ty, pos, af, g⟩ :: rest) σ w :=
  rl_storeA hA hg hx hy hl (by simpa using h1) (hM.get hi) ho (fun w' hB hc _ => k w' (hM.set hi hc hB))
/-- .. over the whole block. -/
theorem rl_storeWM {t t' n : Nat} {zs vs cs : List Value} {x y : Operand} {b : Nat} (i : Nat) (hM : Mem w0 w L V) (hA : AgT P t n zs) (hg : want N ops σ g = true) (hx : ev N σ x = .pointer (some ⟨b, 0, none⟩)) (hy : ev N σ y = .agg vs.toArray) (hl : vs.length = n) (h1 : vs.all (·.oneCell') = true)
    (hi : L[i]? = some (.blk b cs t')) (ho : cs.length = n)
    (k : ∀ w', Mem w0 w' (L.set i (.blk b vs t')) V → RL P N ops Q rest σ w') : RL P N ops Q (⟨none, .store t x y, ty, pos, af, g⟩ :: rest) σ w :=
  rl_storeW hA hg hx hy hl h1 (hM.get hi) ho (fun w' hB hc _ => k w' (hM.set hi hc hB))
/-! ## New memory -/
theorem rl_allocM {t : TypeId} {z : Value} (hM : Mem w0 w L V) (hz : (P.info? t).map (·.zero) = some (some z)) (h1 : z.oneCell' = true) (hg : want N ops σ g = true)
    (k : ∀ w' b, Mem w0 w' (.blk b [z] t :: L) V → RL P N ops Q rest (upd σ d (.pointer (some ⟨b, 0, none⟩))) w') : RL P N ops Q (⟨some d, .alloc t, ty, pos, af, g⟩ :: rest) σ w :=
  rl_alloc hz h1 hg (fun w' hB hb _ => k w' _ (hM.newBlk hb hB))
theorem rl_allocAM {t n : Nat} {zs : List Value} (hM : Mem w0 w L V) (hA : AgT P t n zs) (hg : want N ops σ g = true)
    (k : ∀ w' b, Mem w0 w' (.blk b zs t :: L) V → RL P N ops Q rest (upd σ d (.pointer (some ⟨b, 0, none⟩))) w') : RL P N ops Q (⟨some d, .alloc t, ty, pos, af, g⟩ :: rest) σ w :=
  rl_allocA hA hg (fun w' hB hb _ => k w' _ (hM.newBlk hb hB))
theorem rl_boxM {t : TypeId} {x : Operand} {v : Value} (hM : Mem w0 w L V) (hg : want N ops σ g = true) (hx : ev N σ x = v) (hv : v.oneCell' = true)
    (k : ∀ w' b, Mem w0 w' (.blk b [v] t :: L) V → RL P N ops Q rest (upd σ d (.pointer (some ⟨b, 0, none⟩))) w') : RL P N ops Q (⟨some d, .box t x, ty, pos, af, g⟩ :: rest) σ w :=
  rl_box hg hx hv (fun w' hB hb _ => k w' _ (hM.newBlk hb hB))
theorem rl_boxAM {t : TypeId} {x : Operand} {vs : List Value} (hM : Mem w0 w L V) (hg : want N ops σ g = true) (hx : ev N σ x = .agg vs.toArray)
    (k : ∀ w' b, Mem w0 w' (.blk b vs t :: L) V → RL P N ops Q rest (upd σ d (.pointer (some ⟨b, 0, none⟩))) w') : RL P N ops Q (⟨some d, .box t x, ty, pos, af, g⟩ :: rest) σ w :=
  rl_boxA hg hx (fun w' hB hb _ => k w' _ (hM.newBlk hb hB))
theorem rl_bsliceM {t e sz by_ n : Nat} {z : Value} {ps : List (Nat × Operand)} (vs : List Value) (hM : Mem w0 w L V) (hT : SlT P t e sz by_ z) (hz : z.cells.size = sz) (hg : want N ops σ g = true)
    (hv : ps.map (fun p => (p.1, ev N σ p.2)) = vs.zipIdx.map fun p => (p.2, p.1)) (hs : vs.all (fun v => v.cells.size == sz) = true) (hn : vs.length = n) (hb : n * sz ≤ 16777216) (h0 : 0 < n * sz)
    (k : ∀ w' b, Mem w0 w' (.blk b (vs.flatMap (·.cells.toList)) e :: L) V → RL P N ops Q rest (upd σ d (.slice (some ⟨b, 0, none⟩) n n)) w') : RL P N ops Q (⟨some d, .buildSlice t n ps.toArray, ty, pos, af, g⟩ :: rest) σ w :=
  rl_bsliceN vs hT hz hg hv hs hn hb h0 (fun w' hB hb _ => k w' _ (hM.newBlk hb hB))
theorem rl_bslice0M {t e sz by_ : Nat} {z : Value} (hM : Mem w0 w L V) (hT : SlT P t e sz by_ z) (hg : want N ops σ g = true)
    (k : ∀ w' b, Mem w0 w' (.blk b [] e :: L) V → RL P N ops Q rest (upd σ d (.slice (some ⟨b, 0, none⟩) 0 0)) w') : RL P N ops Q (⟨some d, .buildSlice t 0 #[], ty, pos, af, g⟩ :: rest) σ w :=
  rl_bslice0 hT hg (fun w' hB hb _ => k w' _ (hM.newBlk hb hB))
theorem made_mapA (n : Nat) (z0 : Value) (cs : Array Value) (h : cs = #[z0]) : ((Array.range (n * 1)).map fun i => cs[i % cs.size]!) = (List.replicate n z0).toArray := by
  subst h; exact made_map n z0
/-- make: elements of one cell each, z0 where nothing is said. -/
theorem rl_makeM {t : TypeId} {x : Operand} {n : Int} {e by_ : Nat} {z z0 : Value} (hM : Mem w0 w L V) (hT : SlT P t e 1 by_ z) (hz : z.cells = #[z0]) (hg : want N ops σ g = true) (hx : ev N σ x = .int .i64 n)
    (h0 : 0 ≤ n) (h1 : n ≤ 1000000000) (h2 : by_ ≤ 1000)
    (k : ∀ w' b, Mem w0 w' (.blk b (List.replicate n.toNat z0) e :: L) V → RL P N ops Q rest (upd σ d (.slice (some ⟨b, 0, none⟩) n.toNat n.toNat)) w') : RL P N ops Q (⟨some d, .makeSlice t x x, ty, pos, af, g⟩ :: rest) σ w := by
  obtain ⟨inf, hi1, hi2, hi3, hi4⟩ := hT.info
  refine rl_val hg ?_ (k (w.alloc (.cells (List.replicate n.toNat z0).toArray e)) _ (hM.newBlk (ext_alloc _ _) (blk_alloc _ _ _)))
  have hw : IntKind.i64.wrap n = n := wrap_id (by omega) (by omega)
  have hm : (by_ : Int) * n ≤ 1000 * 1000000000 := Int.mul_le_mul (by omega) h1 h0 (by omega)
  have hbig : ¬ (281474976710656 < (by_ : Int) * n) := by omega
  have hn0 : ¬ n < 0 := by omega
  by_cases hn : n.toNat = 0
  · have : n = 0 := by omega
    subst this
    simp [execOp, hx, Instr.makeSlice, asInt, asIntOf, run_underlying hT.und, typeInfo, hi1, hi4, hw, sizeOf, hi3, newRow]
    rw [map_range0]
  · simp [execOp, hx, Instr.makeSlice, asInt, asIntOf, run_underlying hT.und, typeInfo, hi1, hi4, hw, sizeOf, hi3, newRow, hbig, hn0, hn, zeroValue, hi2]
    have := made_mapA n.toNat z0 z.cells hz
    simp at this
    rw [this]
/-! ## Appends -/
theorem rl_appendM {t e sz by_ : Nat} {x y : Operand} {z v : Value} {n m c : Nat} {xs news : List Value} {a : Option Addr} {B off : Nat} (i : Nat) (hM : Mem w0 w L V) (hT : SlT P t e sz by_ z) (hzc : z.cells.size = sz) (hsz : 0 < sz)
    (hi : L[i]? = some (.own v e sz n xs)) (hnews : ∀ j u, news[j]? = some u → w.cell? ⟨B, off + j, none⟩ = some u) (hg : want N ops σ g = true) (hx : ev N σ x = v) (hy : ev N σ y = .slice a m c)
    (ha : 0 < m → a = some ⟨B, off, none⟩) (hl : news.length = m * sz) (h1 : ∀ u ∈ news, u.oneCell' = true)
    (h63 : n + m ≤ maxLen) (hby : (n + m) * by_ ≤ 140737488355328)
    (k : ∀ w' a' c', n + m ≤ c' → c' ≤ maxLen → Mem w0 w' (L.set i (.own (.slice a' (n + m) c') e sz (n + m) (xs ++ news))) V → RL P N ops Q rest (upd σ d (.slice a' (n + m) c')) w') :
    RL P N ops Q (⟨some d, .call ⟨.builtin .append, #[x, y], #[t, t]⟩, ty, pos, af, g⟩ :: rest) σ w := by
  obtain ⟨b, hO, hput⟩ := hM.own hi
  refine rl_append hT hzc hsz hO hnews hg hx hy ha hl h1 h63 hby (fun v' w' b' hO' hb' hc _ => ?_)
  obtain ⟨a', c', rfl, h2, h3, _⟩ := hO'.shape
  exact k w' a' c' h2 h3 (hput w' _ _ _ b' hO' hb' hc)
theorem rl_appendSM {t u e : Nat} {x y : Operand} {v : Value} {n : Nat} {xs : List Value} {l : List UInt8} (i : Nat) (hM : Mem w0 w L V) (hT : SlT P t e 1 1 (.int .u8 0)) (hu : P.underlying u = some .string)
    (hi : L[i]? = some (.own v e 1 n xs)) (hg : want N ops σ g = true) (hx : ev N σ x = v) (hy : ev N σ y = St l) (h63 : n + l.length ≤ maxLen) (hby : n + l.length ≤ 140737488355328)
    (k : ∀ w' a' c', n + l.length ≤ c' → c' ≤ maxLen → Mem w0 w' (L.set i (.own (.slice a' (n + l.length) c') e 1 (n + l.length) (xs ++ by8 l))) V → RL P N ops Q rest (upd σ d (.slice a' (n + l.length) c')) w') :
    RL P N ops Q (⟨some d, .call ⟨.builtin .append, #[x, y], #[t, u]⟩, ty, pos, af, g⟩ :: rest) σ w := by
  obtain ⟨b, hO, hput⟩ := hM.own hi
  refine rl_appendS hT hu hO hg hx hy h63 hby (fun v' w' b' hO' hb' hc => ?_)
  obtain ⟨a', c', rfl, h2, h3, _⟩ := hO'.shape
  exact k w' a' c' h2 h3 (hput w' _ _ _ b' hO' hb' hc)
theorem rl_copyM {t t' e sz by_ : Nat} {x y : Operand} {z : Value} {n c m c' b B off : Nat} {a : Option Addr} {cs news : List Value} (i : Nat) (hM : Mem w0 w L V) (hT : SlT P t e sz by_ z) (hg : want N ops σ g = true) (hx : ev N σ x = .slice (some ⟨b, 0, none⟩) n c) (hy : ev N σ y = .slice a m c')
    (ha : 0 < m → a = some ⟨B, off, none⟩) (hl : news.length = m * sz) (hnews : ∀ j u, news[j]? = some u → w.cell? ⟨B, off + j, none⟩ = some u) (h1 : ∀ u ∈ news, u.oneCell' = true) (hmn : m ≤ n) (hi : L[i]? = some (.blk b cs t')) (hfit : n * sz ≤ cs.length)
    (k : ∀ w', Mem w0 w' (L.set i (.blk b (news ++ cs.drop news.length) t')) V → RL P N ops Q rest (upd σ d (.int .i64 m)) w') :
    RL P N ops Q (⟨some d, .call ⟨.builtin .copy, #[x, y], #[t, t]⟩, ty, pos, af, g⟩ :: rest) σ w :=
  rl_copy hT hg hx hy ha hl hnews h1 hmn (hM.get hi) hfit (fun w' hB hc _ => k w' (hM.set hi hc hB))
theorem eraseIdx_set' {α : Type} : ∀ (l : List α) (i : Nat) (a : α), (l.set i a).eraseIdx i = l.eraseIdx i
  | [], i, a => by simp
  | b :: l, 0, a => by simp
  | b :: l, i + 1, a => by simp [eraseIdx_set' l i a]
/-- unsafe.String over a slice of the call's own, which is given up. -/
theorem rl_ustringM {pt it e : Nat} {x y : Operand} {v : Value} {l : List UInt8} (i : Nat) (hM : Mem w0 w L V) (hp : P.underlying pt = some (.pointer e)) (hc : P.cellsOf e = 1) (hi : L[i]? = some (.own v e 1 l.length (by8 l))) (hg : want N ops σ g = true)
    {a : Option Addr} {n c : Nat} (hv : v = .slice a n c) (hx : ev N σ x = .pointer a) (hy : ev N σ y = .int .i64 l.length)
    (k : ∀ w', Mem w0 w' (L.eraseIdx i) V → RL P N ops Q rest (upd σ d (St l)) w') :
    RL P N ops Q (⟨some d, .call ⟨.builtin .unsafeString, #[x, y], #[pt, it]⟩, ty, pos, af, g⟩ :: rest) σ w := by
  obtain ⟨b, hO, hput⟩ := hM.own hi
  refine rl_ustring hp hc hg hO ⟨_, hx⟩ (fun hl => ?_) hy (fun w' hc' hs => k w' ?_)
  · obtain ⟨a', c', h1, _, _, h2⟩ := hO.shape
    rw [hv] at h1
    cases h1
    rw [hx, h2 (List.length_pos_iff.2 hl)]
  · have := (hput w' (.slice none 0 0) 0 [] b (Own.nil _ _ _ _) (.inl rfl) hc').erase i
    rwa [eraseIdx_set'] at this
theorem rx_usd {ts : Array TypeId} {x : Operand} {a : Option Addr} {n c : Nat} (ho : ops[io]? = some ⟨some d, .call ⟨.builtin .unsafeSliceData, #[x], ts⟩, ty, pos, af, g⟩) (hg : want N ops σ g = true) (hx : ev N σ x = .slice a n c) (hac : a = none ∨ c ≠ 0)
    (k : RX P N ops Q S nt r (upd σ d (.pointer a)) w) : RX P N ops Q S nt ((io, false) :: r) σ w :=
  rx_val ho hg (fun w _ => by
    cases a with
    | none => simp [execOp, resolve, invoke, builtin, hx, Lib.run_unsafeSliceData_nil]
    | some A =>
      have hc : c ≠ 0 := by
        rcases hac with h | h
        · cases h
        · exact h
      simp [execOp, resolve, invoke, builtin, hx, Lib.run_unsafeSliceData_row _ _ _ _ _ _ hc]) k
/-- A block as a slice that may be appended to. -/
theorem Mem.asOwn {b n sz : Nat} {cs : List Value} {t : TypeId} (i : Nat) (h : Mem w0 w L V) (hi : L[i]? = some (.blk b cs t)) (hl : cs.length = n * sz) (hn : n ≤ maxLen) : Mem w0 w (L.set i (.own (.slice (some ⟨b, 0, none⟩) n n) t sz n cs)) V := by
  have hB := h.get hi
  obtain ⟨F, h⟩ := h
  obtain ⟨f, hf⟩ := getF h.len hi
  have hh := (h.all i _ f hi hf).1
  exact ⟨_, Mem.put h hi hf ⟨rfl, rfl, rfl⟩ (Nat.le_refl _) (fun _ _ _ => rfl) (.inr ⟨b, hh, Own.of_blk hB hl hn⟩) (.inl rfl)⟩
/-! ## Results -/
theorem res_M {a t n b : Nat} {zs cs : List Value} {t' : TypeId} (i : Nat) (hM : Mem w0 w L V) (hA : AgT P t n zs) (hx : ev N σ (.tmp a) = .pointer (some ⟨b, 0, none⟩)) (hi : L[i]? = some (.blk b cs t')) (hl : cs.length = n) : ResOk P N σ w (.cell a t) (.agg cs.toArray) :=
  res_blkA hA hx (hM.get hi) hl
section
variable {M : Nat} {fn : Func} {Post : Value → World → Prop} {r1 r2 r3 : ResultVar} {v1 v2 v3 : Value} {e : Exit}
theorem bp_x1 (hr : fn.results = #[r1]) (he : isEnd e = true) (h1 : ResOk P ⟨M, []⟩ σ w r1 v1) (h : Post v1 w) : BP P fn Post e (Fr ⟨M, []⟩ σ) w := bp_res he (results_1 hr h1) h
theorem bp_x2 (hr : fn.results = #[r1, r2]) (he : isEnd e = true) (h1 : ResOk P ⟨M, []⟩ σ w r1 v1) (h2 : ResOk P ⟨M, []⟩ σ w r2 v2) (h : Post (.tuple #[v1, v2]) w) : BP P fn Post e (Fr ⟨M, []⟩ σ) w := bp_res he (results_2 hr h1 h2) h
theorem bp_x3 (hr : fn.results = #[r1, r2, r3]) (he : isEnd e = true) (h1 : ResOk P ⟨M, []⟩ σ w r1 v1) (h2 : ResOk P ⟨M, []⟩ σ w r2 v2) (h3 : ResOk P ⟨M, []⟩ σ w r3 v3) (h : Post (.tuple #[v1, v2, v3]) w) : BP P fn Post e (Fr ⟨M, []⟩ σ) w := bp_res he (results_3 hr h1 h2 h3) h
theorem bp_x0 (hr : fn.results = #[]) (he : isEnd e = true) (h : Post (.tuple #[]) w) : BP P fn Post e (Fr ⟨M, []⟩ σ) w := by
  cases e <;> first | exact bp_end0 hr h | exact bp_ret0 hr h | cases he
theorem bpm_x1 {D : Nat} (hr : fn.results = #[r1]) (he : isEnd e = true) (hD : w.heap[D]? = some (.deferred (some [])))
    (h1 : ResOk P ⟨M, [{ target := .collected D, args := #[] }]⟩ σ (w.putObj D (.deferred none)) r1 v1) (h : Post v1 (w.putObj D (.deferred none))) :
    BP P fn Post e (Fr ⟨M, [{ target := .collected D, args := #[] }]⟩ σ) w := bp_mark he hD (results_1 hr h1) h
end
theorem cut_seq1 {c y : Code} (ms : List (Nat × Nat)) (s1 : Nat) (R : Value → World → Prop) (h : c.wp P (KQ N (fun σ' w' => Agree ms σ σ' ∧ R (σ' s1) w') Q) (Fr N σ) w)
    (k : ∀ τ v1 w', R v1 w' → y.wp P Q (Fr N (upd (ov ms τ σ) s1 v1)) w') : c.wp P (SQ P y Q) (Fr N σ) w := by
  refine Code.wp_mono ?_ h
  intro e a w' hq
  cases e with
  | normal =>
    obtain ⟨σ', rfl, h1, h2⟩ := hq
    have := k σ' _ w' h2
    rw [ov_self h1, upd_self rfl] at this
    exact this
  | _ => exact hq
/-! ## Regions whose order is drawn -/
theorem drawnM_ {id : Nat} {l : List Oper} (n : Nat) (order : List (Nat × Bool)) (S : World → Prop) (hM : Mem w0 w L V) (hm : P.follows .mixedOrders = true) (hB : heldB .any l.toArray n order = true) (hS : ∀ w, Mem w0 w L V → S w)
    (h : ∀ w', Mem w0 w' L V → RX P N l (NP Q) S n order σ w') : (Code.region id l.toArray true).wp P Q (Fr N σ) w := by
  have hw : ∀ w', w' = { w with drawn := w.drawn + 1 } → Mem w0 w' L V := by
    rintro _ rfl
    exact hM.ext ⟨rfl, rfl, rfl, Nat.le_refl _, fun _ _ => rfl⟩
  exact draw_ n order S hm hB (fun w' e => hS w' (hw w' e)) (fun w' e => h w' (hw w' e))
theorem rx_loadV {t : TypeId} {x : Operand} {A : Addr} {v : Value} (ho : ops[io]? = some ⟨some d, .load t x, ty, pos, af, g⟩) (hS : ∀ w, S w → Mem w0 w L V) (hT : VarT P t) (hg : want N ops σ g = true) (hx : ev N σ x = .pointer (some A)) (hc : V A = some v)
    (k : RX P N ops Q S nt r (upd σ d v) w) : RX P N ops Q S nt ((io, false) :: r) σ w := rx_load ho hT hg hx (fun w h => (hS w h).view hc) k
theorem rx_loadM {t t' : TypeId} {x : Operand} {b o : Nat} {cs : List Value} {v : Value} (i : Nat) (ho : ops[io]? = some ⟨some d, .load t x, ty, pos, af, g⟩) (hS : ∀ w, S w → Mem w0 w L V) (hT : VarT P t) (hg : want N ops σ g = true) (hx : ev N σ x = .pointer (some ⟨b, o, none⟩)) (hi : L[i]? = some (.blk b cs t')) (hc : cs[o]? = some v)
    (k : RX P N ops Q S nt r (upd σ d v) w) : RX P N ops Q S nt ((io, false) :: r) σ w := rx_load ho hT hg hx (fun w h => (hS w h).cell hi hc) k
theorem rx_loadAV {t n : Nat} {zs vs : List Value} {x : Operand} {b o : Nat} (ho : ops[io]? = some ⟨some d, .load t x, ty, pos, af, g⟩) (hS : ∀ w, S w → Mem w0 w L V) (hA : AgT P t n zs) (hg : want N ops σ g = true) (hx : ev N σ x = .pointer (some ⟨b, o, none⟩)) (hc : VRow V b o vs) (hl : vs.length = n)
    (k : RX P N ops Q S nt r (upd σ d (.agg vs.toArray)) w) : RX P N ops Q S nt ((io, false) :: r) σ w :=
  rx_val ho hg (fun w h => by
    have h2 := run_loadAg (w := w) hA hl (fun j u hj => (hS w h).view (hc j u hj))
    simp [execOp, hx, Instr.loadAt, Instr.sureAddr, h2]) k
theorem rx_loadAM {t t' n : Nat} {zs vs cs : List Value} {x : Operand} {b o : Nat} (i : Nat) (ho : ops[io]? = some ⟨some d, .load t x, ty, pos, af, g⟩) (hS : ∀ w, S w → Mem w0 w L V) (hA : AgT P t n zs) (hg : want N ops σ g = true) (hx : ev N σ x = .pointer (some ⟨b, o, none⟩)) (hi : L[i]? = some (.blk b cs t')) (hc : (cs.drop o).take n = vs) (hl : vs.length = n)
    (k : RX P N ops Q S nt r (upd σ d (.agg vs.toArray)) w) : RX P N ops Q S nt ((io, false) :: r) σ w :=
  rx_val ho hg (fun w h => by
    have h2 := run_loadAg (w := w) (cs := vs) hA hl (fun j u hj => (hS w h).cell hi (by
      subst hc
      rw [List.getElem?_take] at hj
      split at hj
      · rwa [List.getElem?_drop] at hj
      · cases hj))
    simp [execOp, hx, Instr.loadAt, Instr.sureAddr, h2]) k
end Go.Eng
