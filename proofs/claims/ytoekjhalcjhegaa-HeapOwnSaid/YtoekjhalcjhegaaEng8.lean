/- A slice of the call's own that may begin within its block (a queue): taken from the front, appended to at the back. Nothing here names a program. -/
import Derived.Test.YtoekjhalcjhegaaEng7
set_option linter.unusedVariables false
set_option linter.unusedSimpArgs false
namespace Go.Eng
open Go Go.RowKit
variable {P : Program} {N : NN} {Q : Exit → Act → World → Prop} {σ : Env} {w w' : World} {ops rest : List Oper}
  {d : Tmp} {ty : TypeId} {pos : String} {af : Array Edge} {g : Option (Nat × Bool)}
/-- v holds the n elements with the cells xs, from place off of block b on, with room behind them. -/
def OwnO (w : World) (e sz : Nat) (v : Value) (n : Nat) (xs : List Value) (b off : Nat) : Prop :=
  xs.length = n * sz ∧ ∃ a cap, v = .slice a n cap ∧ n ≤ cap ∧ cap ≤ maxLen ∧ (0 < cap → a = some ⟨b, off, none⟩ ∧ ∃ pre spare post, pre.length = off ∧ (xs ++ spare).length = cap * sz ∧ Blk w b (pre ++ (xs ++ spare) ++ post) e)
theorem Own.o {e sz n b : Nat} {v : Value} {xs : List Value} (h : Own w e sz v n xs b) : OwnO w e sz v n xs b 0 := by
  unfold Own at h
  obtain ⟨h1, h2⟩ := h
  refine ⟨h1, ?_⟩
  rcases h2 with ⟨rfl, rfl⟩ | ⟨cap, sp, rfl, h3, h4, h5, h6⟩
  · exact ⟨none, 0, rfl, Nat.le_refl _, Nat.zero_le _, fun h => absurd h (by omega)⟩
  · exact ⟨_, cap, rfl, h3, h4, fun _ => ⟨rfl, [], sp, [], rfl, h5, by simpa using h6⟩⟩
theorem OwnO.shape {e sz n b off : Nat} {v : Value} {xs : List Value} (h : OwnO w e sz v n xs b off) : ∃ a c, v = .slice a n c ∧ n ≤ c ∧ c ≤ maxLen ∧ (0 < n → a = some ⟨b, off, none⟩) ∧ (0 < c → a = some ⟨b, off, none⟩) := by
  obtain ⟨h1, a, cap, rfl, h3, h4, h5⟩ := h
  exact ⟨a, cap, rfl, h3, h4, fun h => (h5 (by omega)).1, fun h => (h5 h).1⟩
theorem OwnO.cell {e sz n b off i : Nat} {v u : Value} {xs : List Value} (h : OwnO w e sz v n xs b off) (hi : xs[i]? = some u) : w.cell? ⟨b, off + i, none⟩ = some u := by
  obtain ⟨h1, a, cap, rfl, h3, h4, h5⟩ := h
  have hlt := (List.getElem?_eq_some_iff.1 hi).1
  have hc : 0 < cap := by
    rcases Nat.eq_zero_or_pos cap with h0 | h0
    · have : n = 0 := by omega
      subst this
      simp at h1; subst h1; simp at hlt
    · exact h0
  obtain ⟨_, pre, sp, post, e1, e2, e3⟩ := h5 hc
  refine e3.cell_some ?_
  rw [List.append_assoc, List.getElem?_append_right (by omega), List.append_assoc, List.getElem?_append_left (by omega), e1, Nat.add_sub_cancel_left]
  exact hi
theorem OwnO.ext {e sz n b off : Nat} {v : Value} {xs : List Value} (h : OwnO w e sz v n xs b off) (hb : Below w.heap.size w w') : OwnO w' e sz v n xs b off := by
  obtain ⟨h1, a, cap, h2, h3, h4, h5⟩ := h
  refine ⟨h1, a, cap, h2, h3, h4, fun hc => ?_⟩
  obtain ⟨e0, pre, sp, post, e1, e2, e3⟩ := h5 hc
  exact ⟨e0, pre, sp, post, e1, e2, e3.ext hb⟩
theorem OwnO.lt {e sz n b off : Nat} {v : Value} {xs : List Value} (h : OwnO w e sz v n xs b off) : (∃ a, v = .slice a 0 0 ∧ n = 0 ∧ xs = []) ∨ b < w.heap.size := by
  obtain ⟨h1, a, cap, rfl, h3, h4, h5⟩ := h
  rcases Nat.eq_zero_or_pos cap with h0 | h0
  · have : n = 0 := by omega
    subst this; subst h0
    exact .inl ⟨a, rfl, rfl, List.eq_nil_of_length_eq_zero (by simpa using h1)⟩
  · obtain ⟨_, pre, sp, post, e1, e2, e3⟩ := h5 h0
    exact .inr e3.lt
theorem OwnO.chg {e sz n b c off : Nat} {v : Value} {xs : List Value} (h : OwnO w e sz v n xs b off) (hc : Chg c w w') (hne : b < w.heap.size → b ≠ c) : OwnO w' e sz v n xs b off := by
  obtain ⟨h1, a, cap, h2, h3, h4, h5⟩ := h
  refine ⟨h1, a, cap, h2, h3, h4, fun hcap => ?_⟩
  obtain ⟨e0, pre, sp, post, e1, e2, e3⟩ := h5 hcap
  exact ⟨e0, pre, sp, post, e1, e2, e3.chg hc (hne e3.lt)⟩
/-- The block that may be written, where there is none yet: none that was. -/
theorem OwnO.fresh {e sz n b off : Nat} {v : Value} {xs : List Value} (h : OwnO w e sz v n xs b off) : ∃ b' off', OwnO w e sz v n xs b' off' ∧ ((b' = b ∧ b < w.heap.size) ∨ b' = w.heap.size) := by
  rcases h.lt with ⟨a, rfl, rfl, rfl⟩ | hlt
  · exact ⟨w.heap.size, 0, ⟨by simp, a, 0, rfl, Nat.le_refl _, Nat.zero_le _, fun h => absurd h (by omega)⟩, .inr rfl⟩
  · exact ⟨b, off, h, .inl ⟨rfl, hlt⟩⟩
theorem OwnO.fresh2 {e sz n b off : Nat} {v : Value} {xs : List Value} (h : OwnO w e sz v n xs b off) (h' : OwnO w' e sz v n xs b off) : ∃ b' off', OwnO w' e sz v n xs b' off' ∧ ((b' = b ∧ b < w.heap.size) ∨ b' = w'.heap.size) := by
  rcases h.lt with ⟨a, rfl, rfl, rfl⟩ | hlt
  · exact ⟨w'.heap.size, 0, ⟨by simp, a, 0, rfl, Nat.le_refl _, Nat.zero_le _, fun h => absurd h (by omega)⟩, .inr rfl⟩
  · exact ⟨b, off, h', .inl ⟨rfl, hlt⟩⟩
theorem OwnO.isSl {e n b off : Nat} {v : Value} {xs : List Value} (h : OwnO w e 1 v n xs b off) : IsSl w.cell? v xs := by
  have hl : xs.length = n := by simpa using h.1
  obtain ⟨a, c, h1, h2, h3, h4, _⟩ := h.shape
  subst hl
  exact ⟨a, c, b, off, h1, h2, h3, h4, fun i u hu => h.cell hu⟩
theorem rl_slice_l' {t : TypeId} {x lo : Operand} {a : Option Addr} {n c e sz by_ b off : Nat} {l : Int} {z : Value} (hT : SlT P t e sz by_ z) (hg : want N ops σ g = true) (hx : ev N σ x = .slice a n c)
    (hlo : ev N σ lo = .int .i64 l) (ha : 0 < c → a = some ⟨b, off, none⟩) (h0 : 0 ≤ l) (h1 : l ≤ n) (h3 : n ≤ c)
    (k : ∀ a', (l < c → a' = some ⟨b, off + l.toNat * sz, none⟩) → RL P N ops Q rest (upd σ d (.slice a' (n - l.toNat) (c - l.toNat))) w) : RL P N ops Q (⟨some d, .slice t x (some lo) none none, ty, pos, af, g⟩ :: rest) σ w := by
  obtain ⟨inf, hi1, hi2, hi3, hi4⟩ := hT.info
  refine rl_val hg (v := .slice (if c = l.toNat then a else a.map (·.add (l.toNat * sz))) (n - l.toNat) (c - l.toNat)) ?_ (k _ ?_)
  · simp [execOp, hx, hlo, Instr.sliceAt, Instr.slice, Instr.sliceBounds, Instr.sliceBound, asIntOf, run_underlying hT.und, h0, h1, sizeOf, typeInfo, hi1, hi3]
  · intro hlt
    have : ¬ c = l.toNat := by omega
    rw [if_neg this, ha (by omega)]
    simp [Addr.add_lit]
theorem OwnO.tail {e n b off cap : Nat} {a : Option Addr} {x : Value} {xs : List Value} (h : OwnO w e 1 (.slice a (n + 1) cap) (n + 1) (x :: xs) b off) {a' : Option Addr} (ha' : (1 : Int) < cap → a' = some ⟨b, off + 1, none⟩) :
    OwnO w e 1 (.slice a' n (cap - 1)) n xs b (off + 1) := by
  obtain ⟨h1, a0, cap0, h2, h3, h4, h5⟩ := h
  simp only [Value.slice.injEq] at h2
  obtain ⟨rfl, _, rfl⟩ := h2
  refine ⟨by simpa using h1, a', cap - 1, rfl, by omega, by omega, fun hc => ⟨ha' (by omega), ?_⟩⟩
  obtain ⟨_, pre, sp, post, e1, e2, e3⟩ := h5 (by omega)
  refine ⟨pre ++ [x], sp, post, by simp [e1], ?_, by simpa using e3⟩
  simp only [List.length_append, List.length_cons] at e2 ⊢
  omega

theorem run_append_room' {t ty e g off sLen sCap : Nat} {i : TypeInfo} (ht : P.underlying t = some (.slice e)) (hi : P.info? e = some i)
    (cur : Array Value) (hg : w.heap[g]? = some (.cells cur e (0, 0)))
    (a : Addr) (m c : Nat) (news : List Value) (hl : news.length = m * i.size) (hnews : ∀ j u, news[j]? = some u → w.cell? (a.add j) = some u) (h1 : ∀ u ∈ news, u.oneCell' = true)
    (hroom : sLen + m ≤ sCap) (hfit : off + sLen * i.size + news.length ≤ cur.size) :
    (Builtin.append_ #[t, t] ty #[.slice (some ⟨g, off, none⟩) sLen sCap, .slice (some a) m c]).run P w =
      .ok (.slice (some ⟨g, off, none⟩) (sLen + m) sCap) (w.setRow g (cur.toList.take (off + sLen * i.size) ++ news ++ cur.toList.drop (off + sLen * i.size + news.length)).toArray) := by
  have hf := run_firstCells_some (P := P) w i.size m a m c news hl hnews
  have hst := run_storeCells_at P g (off + sLen * i.size) e news 0 cur w hg (by simpa using hfit) h1
  simp only [Nat.add_zero] at hst
  simp [Builtin.append_, run_underlying ht, sizeOf, typeInfo, hi, Builtin.lenOf, hroom, hf, Addr.add_lit, hst]

theorem run_append_OwnO {t ty e sz by_ b off : Nat} {z v : Value} (hT : SlT P t e sz by_ z) (hzc : z.cells.size = sz) (hsz : 0 < sz) {n m c : Nat} {xs news : List Value} {a : Option Addr} {B o2 : Nat}
    (hown : OwnO w e sz v n xs b off) (ha : 0 < m → a = some ⟨B, o2, none⟩) (hl : news.length = m * sz) (hnews : ∀ j u, news[j]? = some u → w.cell? ⟨B, o2 + j, none⟩ = some u) (h1 : ∀ u ∈ news, u.oneCell' = true)
    (h63 : n + m ≤ maxLen) (hby : (n + m) * by_ ≤ 140737488355328) :
    ∃ v' w' b' off', (Builtin.append_ #[t, t] ty #[v, .slice a m c]).run P w = .ok v' w' ∧ OwnO w' e sz v' (n + m) (xs ++ news) b' off' ∧ (b' = b ∨ w.heap.size ≤ b') ∧ Chg b w w' ∧ (m = 0 → v' = v ∧ w' = w) := by
  obtain ⟨i, hi, hz, hisz, hiby⟩ := hT.info
  subst hisz; subst hiby
  have ht := hT.und
  have hsmall : n + m ≤ 9223372036854775807 := by simp only [maxLen] at h63; omega
  have hown0 := hown
  obtain ⟨hxl, a0, cap, rfl, hnc, hcm, hrest⟩ := hown
  have hlen : (xs ++ news).length = (n + m) * i.size := by rw [List.length_append, hxl, hl, Nat.add_mul]
  by_cases hm : m = 0
  · subst hm
    have hn : news = [] := List.eq_nil_of_length_eq_zero (by simpa using hl)
    subst hn
    simp only [List.append_nil, Nat.add_zero]
    refine ⟨.slice a0 n cap, w, b, off, ?_, hown0, .inl rfl, Chg.refl _ _, fun _ => ⟨rfl, rfl⟩⟩
    cases a <;> cases a0 <;> simp [Builtin.append_, run_underlying ht, sizeOf, typeInfo, hi, Builtin.lenOf, Builtin.firstCells, loadCells, loadCellsFrom, hnc, storeCells]
  · have haa := ha (by omega)
    subst haa
    have hnews' : ∀ j u, news[j]? = some u → w.cell? ((⟨B, o2, none⟩ : Addr).add j) = some u := fun j u h => by rw [Addr.add_lit]; exact hnews j u h
    have grown : ∀ (old : Nat), old < n + m →
        OwnO (w.drew.alloc (.cells (xs.toArray ++ news.toArray ++ Builtin.zeroCells z.cells (grownCap w (n + m) old e - (n + m))) e)) e i.size
          (.slice (some ⟨w.heap.size, 0, none⟩) (n + m) (grownCap w (n + m) old e)) (n + m) (xs ++ news) w.heap.size 0 ∧
        Chg b w (w.drew.alloc (.cells (xs.toArray ++ news.toArray ++ Builtin.zeroCells z.cells (grownCap w (n + m) old e - (n + m))) e)) := by
      intro old ho
      have hge := grownCap_ge w (n + m) old e
      have hcm : grownCap w (n + m) old e ≤ maxLen := grownCap_le_maxLen w (n + m) old e h63
      refine ⟨⟨hlen, _, _, rfl, hge, hcm, fun _ => ⟨rfl, [], (Builtin.zeroCells z.cells (grownCap w (n + m) old e - (n + m))).toList, [], rfl, ?_, ?_⟩⟩, ⟨rfl, rfl, rfl, by simp, fun k hk _ => heap_alloc_old w.drew _ hk⟩⟩
      · simp only [List.length_append, Array.length_toList, size_zeroCells, hzc, hxl, hl, ← Nat.add_mul]
        congr 1
        omega
      · have : xs.toArray ++ news.toArray ++ Builtin.zeroCells z.cells (grownCap w (n + m) old e - (n + m)) = ([] ++ (xs ++ news ++ (Builtin.zeroCells z.cells (grownCap w (n + m) old e - (n + m))).toList) ++ []).toArray := by
          apply Array.ext'; simp
        rw [this]
        exact blk_alloc w.drew _ _
    cases a0 with
    | none =>
      have hc0 : cap = 0 := by
        rcases Nat.eq_zero_or_pos cap with h | h
        · exact h
        · have := (hrest h).1; cases this
      have hn0 : n = 0 := by omega
      subst hn0; subst hc0
      have hx : xs = [] := List.eq_nil_of_length_eq_zero (by simpa using hxl)
      subst hx
      have hr := run_append_nil (P := P) w t ty e i z ht hi hz _ m c news hl hnews' (by omega) (by omega) (by have hb := hby; simp only [Nat.zero_add] at hb; omega)
      have hgr := grown 0 (by omega)
      simp only [Nat.zero_add, List.nil_append, Array.empty_append] at hgr ⊢
      exact ⟨_, _, _, _, hr, hgr.1, .inr (Nat.le_refl _), hgr.2, fun h => absurd h hm⟩
    | some A =>
      by_cases hroom : n + m ≤ cap
      · obtain ⟨h2, pre, sp, post, e1, e2, e3⟩ := hrest (by omega)
        cases h2
        have hm2 := Nat.mul_le_mul_right i.size hroom
        rw [Nat.add_mul] at hm2
        have e2' := e2
        simp only [List.length_append] at e2'
        have hfit : off + n * i.size + news.length ≤ (pre ++ (xs ++ sp) ++ post).toArray.size := by
          simp only [List.size_toArray, List.length_append, e1, hl]
          omega
        have hr := run_append_room' (P := P) (ty := ty) ht hi (pre ++ (xs ++ sp) ++ post).toArray e3 _ m c news hl hnews' h1 hroom hfit
        have t1 : (pre ++ (xs ++ sp) ++ post).take (off + n * i.size) = pre ++ xs := by
          rw [show pre ++ (xs ++ sp) ++ post = (pre ++ xs) ++ (sp ++ post) by simp]
          rw [List.take_left' (by simp [e1, hxl])]
        have t2 : (pre ++ (xs ++ sp) ++ post).drop (off + n * i.size + news.length) = sp.drop news.length ++ post := by
          rw [show pre ++ (xs ++ sp) ++ post = (pre ++ xs) ++ (sp ++ post) by simp]
          rw [show off + n * i.size + news.length = (pre ++ xs).length + news.length by simp [e1, hxl], ← List.drop_drop, List.drop_left, List.drop_append_of_le_length (by rw [hl]; omega)]
        have e5 : (pre ++ (xs ++ sp) ++ post).toArray.toList.take (off + n * i.size) ++ news ++ (pre ++ (xs ++ sp) ++ post).toArray.toList.drop (off + n * i.size + news.length) = pre ++ (xs ++ news ++ sp.drop news.length) ++ post := by
          simp only [t1, t2]; simp
        rw [e5] at hr
        refine ⟨_, _, b, off, hr, ⟨hlen, _, cap, rfl, hroom, hcm, fun _ => ⟨rfl, pre, sp.drop news.length, post, e1, ?_, blk_row e3⟩⟩, .inl rfl, chg_row _ _ _, fun h => absurd h hm⟩
        simp only [List.length_append, List.length_drop] at e2 ⊢
        rw [hl]; omega
      · have holds : ∀ j u, xs[j]? = some u → w.cell? (A.add j) = some u := by
          intro j u h
          have hcp : 0 < cap := by
            rcases Nat.eq_zero_or_pos cap with h0 | h0
            · have : n = 0 := by omega
              subst this
              have hx : xs = [] := List.eq_nil_of_length_eq_zero (by simpa using hxl)
              subst hx; simp at h
            · exact h0
          have hA := (hrest hcp).1
          cases hA
          rw [Addr.add_lit]; exact hown0.cell h
        have hr := run_append_grow (P := P) w t ty e i z ht hi hz A n cap xs hxl holds _ m c news hl hnews' (by omega) (by omega) (growslice_fits (by omega) hby)
        have hgr := grown cap (by omega)
        exact ⟨_, _, _, _, hr, hgr.1, .inr (Nat.le_refl _), hgr.2, fun h => absurd h hm⟩
theorem rl_appendO {t e sz by_ b off : Nat} {x y : Operand} {z v : Value} {n m c : Nat} {xs news : List Value} {a : Option Addr} {B o2 : Nat} (hT : SlT P t e sz by_ z) (hzc : z.cells.size = sz) (hsz : 0 < sz)
    (hown : OwnO w e sz v n xs b off) (hnews : ∀ j u, news[j]? = some u → w.cell? ⟨B, o2 + j, none⟩ = some u) (hg : want N ops σ g = true) (hx : ev N σ x = v) (hy : ev N σ y = .slice a m c)
    (ha : 0 < m → a = some ⟨B, o2, none⟩) (hl : news.length = m * sz) (h1 : ∀ u ∈ news, u.oneCell' = true)
    (h63 : n + m ≤ maxLen) (hby : (n + m) * by_ ≤ 140737488355328)
    (k : ∀ v' w' b' off', OwnO w' e sz v' (n + m) (xs ++ news) b' off' → (b' = b ∨ w.heap.size ≤ b') → Chg b w w' → (m = 0 → v' = v ∧ w' = w) → RL P N ops Q rest (upd σ d v') w') :
    RL P N ops Q (⟨some d, .call ⟨.builtin .append, #[x, y], #[t, t]⟩, ty, pos, af, g⟩ :: rest) σ w := by
  obtain ⟨v', w', b', off', hr, h2, h3, h4, h5⟩ := run_append_OwnO (ty := ty) (c := c) hT hzc hsz hown ha hl hnews h1 h63 hby
  exact rl_val hg (by simp [execOp, resolve, invoke, builtin, hx, hy, hr]) (k v' w' b' off' h2 h3 h4 h5)
end Go.Eng
