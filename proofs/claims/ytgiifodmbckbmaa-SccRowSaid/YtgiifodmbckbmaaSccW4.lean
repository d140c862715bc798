/- The walk of fugueref07.Few: the first ten lists, of eight numbers each, in memory of their own. -/
import Derived.Test.YtgiifodmbckbmaaSccW3
set_option linter.unusedVariables false
set_option linter.unusedSimpArgs false
namespace Go.Proofs.Ytgiifodmbckbmaa.Scc
open Go Go.Eng Go.RowKit
attribute [local irreducible] RL RX KQ SQ Exit.inBlock Exit.then BP NP CallsOk IsSl IsRows IsInts IsBools Own Blk Code.wp Calls wpList
/-- Row i of what is held: a list of its own, in a block of its own. -/
def Rw (w : World) (B b : Nat) (us : List Value) (bs : List Nat) (i : Nat) (xs : List Int) : Prop :=
  ∃ u c, us[i]? = some u ∧ bs[i]? = some c ∧ Own w 3 1 u xs.length (xs.map (Value.int .i64)) c ∧ (∀ x ∈ xs, I64 x) ∧ (xs ≠ [] → B ≤ c ∧ c ≠ b) ∧ (xs = [] → u = .slice none 0 0)
/-- Lists of lists in memory of their own, above B. -/
structure Rws (w : World) (B : Nat) (v : Value) (ls : List (List Int)) (us : List Value) (bs : List Nat) (b : Nat) : Prop where
  own : Own w 29 1 v ls.length us b
  low : B ≤ b
  ul : us.length = ls.length
  bl : bs.length = ls.length
  row : ∀ (i : Nat) (xs : List Int), ls[i]? = some xs → Rw w B b us bs i xs
  apart : ∀ (i j : Nat) (xs ys : List Int) (c d : Nat), i ≠ j → ls[i]? = some xs → ls[j]? = some ys → bs[i]? = some c → bs[j]? = some d → xs ≠ [] → ys ≠ [] → c ≠ d
theorem Rws.rows {w : World} {B b : Nat} {v : Value} {ls : List (List Int)} {us : List Value} {bs : List Nat} (h : Rws w B v ls us bs b) : IsRows w.cell? v ls := by
  unfold IsRows
  refine ⟨us, h.own.isSl, ?_⟩
  have key : ∀ (us : List Value) (ls : List (List Int)), us.length = ls.length → (∀ (i : Nat) xs, ls[i]? = some xs → ∃ u, us[i]? = some u ∧ IsInts w.cell? u xs) → All2 (IsInts w.cell?) us ls := by
    intro us
    induction us with
    | nil => intro ls hl _; cases ls with
      | nil => trivial
      | cons a l => simp at hl
    | cons u us ih => intro ls hl hr; cases ls with
      | nil => simp at hl
      | cons a l =>
        obtain ⟨u', hu', hi⟩ := hr 0 a (by simp)
        simp at hu'; subst hu'
        exact ⟨hi, ih l (by simpa using hl) (fun i xs hx => by simpa using hr (i + 1) xs (by simpa using hx))⟩
  refine key us ls h.ul fun i xs hx => ?_
  obtain ⟨u, c, h1, _, h3, h4, _⟩ := h.row i xs hx
  exact ⟨u, h1, h3.isInts h4⟩
def few (ls : List (List Int)) : List (List Int) := (ls.take 10).map (·.take 8)
theorem few_snoc (ls : List (List Int)) (i : Nat) (xs : List Int) (h : ls[i]? = some xs) : (ls.take (i + 1)).map (·.take 8) = (ls.take i).map (·.take 8) ++ [xs.take 8] := by
  rw [List.take_add_one, h]; simp
theorem chg_ext_own {w w' : World} {b : Nat} (h : Below w.heap.size w w') : Chg b w w' := Chg.of_ext b h
theorem Rw.chg {w w' : World} {B b c0 : Nat} {us : List Value} {bs : List Nat} {i : Nat} {xs : List Int} (h : Rw w B b us bs i xs) (hc : Chg c0 w w') (hne : ∀ c, bs[i]? = some c → xs ≠ [] → c ≠ c0) : Rw w' B b us bs i xs := by
  obtain ⟨u, c, h1, h2, h3, h4, h5, h6⟩ := h
  refine ⟨u, c, h1, h2, ?_, h4, h5, h6⟩
  by_cases hx : xs = []
  · subst hx
    rw [h6 rfl]
    exact Own.nil _ _ _ _
  · exact h3.chg hc (hne c h2 hx)
theorem Rws.snoc {w1 w4 w5 : World} {B b b4 b5 c3 : Nat} {v1 v5 u : Value} {ls : List (List Int)} {xs : List Int} {us : List Value} {bs : List Nat} (hR : Rws w1 B v1 ls us bs b) (hB : B ≤ w1.heap.size)
    (hk : ∀ (i : Nat) ys c, ls[i]? = some ys → bs[i]? = some c → ys ≠ [] → ∀ u, Own w1 3 1 u ys.length (ys.map (Value.int .i64)) c → Own w4 3 1 u ys.length (ys.map (Value.int .i64)) c) (h14 : w1.heap.size ≤ w4.heap.size)
    (hO3 : Own w4 3 1 u xs.length (xs.map (Value.int .i64)) c3) (hc3 : w1.heap.size ≤ c3) (hx : ∀ x ∈ xs, I64 x) (hnil : xs = [] → u = .slice none 0 0)
    (hb4 : (b4 = b ∧ b < w1.heap.size) ∨ b4 = w4.heap.size) (hO5 : Own w5 29 1 v5 (ls.length + 1) (us ++ [u]) b5) (hc5 : b5 = b4 ∨ w4.heap.size ≤ b5) (hg5 : Chg b4 w4 w5) :
    Rws w5 B v5 (ls ++ [xs]) (us ++ [u]) (bs ++ [c3]) b5 := by
  have hlow := hR.low
  have hc3lt : xs ≠ [] → c3 < w4.heap.size := fun h => hO3.lt (List.length_pos_iff.2 h)
  have hold : ∀ (i : Nat) ys c, ls[i]? = some ys → bs[i]? = some c → ys ≠ [] → c < w1.heap.size ∧ B ≤ c ∧ c ≠ b := by
    intro i ys c h1 h2 h3
    obtain ⟨u', c', e1, e2, e3, e4, e5, e6⟩ := hR.row i ys h1
    rw [h2] at e2; cases e2
    exact ⟨e3.lt (by simpa using List.length_pos_iff.2 h3), (e5 h3).1, (e5 h3).2⟩
  have hget : ∀ {α : Type} (l : List α) (a : α) (i : Nat) (x : α), (l ++ [a])[i]? = some x → (i < l.length ∧ l[i]? = some x) ∨ (i = l.length ∧ x = a) := by
    intro α l a i x h
    by_cases hi : i < l.length
    · rw [List.getElem?_append_left hi] at h; exact .inl ⟨hi, h⟩
    · rw [List.getElem?_append_right (by omega)] at h
      have : i - l.length = 0 := by
        rcases Nat.eq_zero_or_pos (i - l.length) with h0 | h0
        · exact h0
        · rw [List.getElem?_eq_none (by simp; omega)] at h; cases h
      rw [this] at h; simp at h
      exact .inr ⟨by omega, h.symm⟩
  refine ⟨by simpa using hO5, by omega, by simp [hR.ul], by simp [hR.bl], ?_, ?_⟩
  · intro i ys hy
    rcases hget _ _ _ _ hy with ⟨hi, h⟩ | ⟨rfl, rfl⟩
    · obtain ⟨u', c', e1, e2, e3, e4, e5, e6⟩ := hR.row i ys h
      refine ⟨u', c', by rw [List.getElem?_append_left (by rw [hR.ul]; exact hi)]; exact e1, by rw [List.getElem?_append_left (by rw [hR.bl]; exact hi)]; exact e2, ?_, e4, ?_, e6⟩
      · by_cases hys : ys = []
        · rw [e6 hys, hys]; exact Own.nil _ _ _ _
        · have := hold i ys c' h e2 hys
          exact (hk i ys c' h e2 hys u' e3).chg hg5 (by omega)
      · intro hys
        have := hold i ys c' h e2 hys
        exact ⟨this.2.1, by omega⟩
    · refine ⟨u, c3, by rw [← hR.ul]; simp, by rw [← hR.bl]; simp, ?_, hx, ?_, hnil⟩
      · by_cases hys : ys = []
        · rw [hnil hys, hys]; exact Own.nil _ _ _ _
        · have := hc3lt hys
          exact hO3.chg hg5 (by omega)
      · intro hys
        have := hc3lt hys
        exact ⟨by omega, by omega⟩
  · intro i j ys zs c d hij h1 h2 h3 h4 hy hz
    rcases hget _ _ _ _ h1 with ⟨hi, e1⟩ | ⟨rfl, rfl⟩
    · rw [List.getElem?_append_left (by rw [hR.bl]; exact hi)] at h3
      have hc := hold i ys c e1 h3 hy
      rcases hget _ _ _ _ h2 with ⟨hj, e2⟩ | ⟨rfl, rfl⟩
      · rw [List.getElem?_append_left (by rw [hR.bl]; exact hj)] at h4
        exact hR.apart i j ys zs c d hij e1 e2 h3 h4 hy hz
      · rw [← hR.bl] at h4; simp at h4; omega
    · rcases hget _ _ _ _ h2 with ⟨hj, e2⟩ | ⟨rfl, rfl⟩
      · rw [List.getElem?_append_left (by rw [hR.bl]; exact hj)] at h4
        have hd := hold j zs d e2 h4 hz
        rw [← hR.bl] at h3; simp at h3; omega
      · exact absurd rfl hij
set_option maxHeartbeats 4000000 in
theorem few_ok (v : Value) (ls : List (List Int)) (w : World) (hl : IsRows w.cell? v ls) :
    CallsOk Try.prog 10 #[v] w fun v' w' => Below w.heap.size w w' ∧ ∃ us bs b, Rws w' w.heap.size v' (few ls) us bs b := by
  obtain ⟨aa, ac, ab, ao, rfl, halc, hac, haa, hacell⟩ := hl.open
  have hml := maxLen_le
  refine enter_ (N := 33) Try.func10 rfl rfl rfl ?_
  (repeat (first | refine seq_ ?_ | refine sq_normal ?_ | refine rl_nil ?_ | refine block_ ?_ | (refine region_ (id := 0) ?_; (try (refine rl_assign (v := (Value.slice _ _ _ : Value)) rfl rfl ?_))) | (refine region_ (id := 1) ?_; (try (refine rl_assign (v := (Value.slice _ _ _ : Value)) rfl rfl ?_))) | (refine region_ (id := 2) ?_; (try (refine rl_assign (v := (Value.int _ _ : Value)) rfl rfl ?_)))))
  refine loop2 [(3, 32)] 3 4 (fun m v1 v2 wr => ∃ (i : Int) (us : List Value) (bs : List Nat) (b : Nat), v2 = .int .i64 i ∧ 0 ≤ i ∧ i ≤ ls.length ∧ i ≤ 10 ∧ m = (10 - i).toNat ∧ Below w.heap.size w wr ∧ Rws wr w.heap.size v1 ((ls.take i.toNat).map (·.take 8)) us bs b) _
    ⟨0, [], [], w.heap.size, rfl, by omega, by omega, by omega, rfl, Below.refl _ _, ⟨Own.nil _ _ _ _, Nat.le_refl _, rfl, rfl, fun i xs h => by simp at h, fun i j xs ys c d _ h => by simp at h⟩⟩ ?_
  rintro m τ v1 v2 w1 ⟨i, us, bs, b, rfl, hi0, hil, hi10, rfl, hb1, hR⟩ K0 hL0
  have hRl : ((ls.take i.toNat).map (·.take 8)).length = i.toNat := by simp; omega
  obtain ⟨va, vc, rfl, hvc, hvm, hva⟩ := hR.own.shape
  by_cases hi : i < ls.length
  · have haa' := haa (by omega)
    subst haa'
    by_cases hi2 : i < 10
    · obtain ⟨ra, hra⟩ : ∃ r, ls[i.toNat]? = some r := ⟨ls[i.toNat]'(by omega), by simp⟩
      obtain ⟨u, hu, hui⟩ := hacell _ _ hra
      have hI := hui
      unfold IsInts at hI
      obtain ⟨pa, pc, pb, po, rfl, hplc, hpc, hpa, hpcell⟩ := hui.open
      have c1 : w1.cell? ⟨ab, ao + i.toNat, none⟩ = some (.slice pa ra.length pc) := cell_below hu hb1 (Nat.le_refl _)
      (repeat (first | refine seq_ ?_ | refine sq_normal ?_ | refine rl_nil ?_ | refine cond_t rfl ?_ | refine skip_ ?_ | refine block_ ?_ | (refine region_ (id := 3) ?_; (try (refine rl_move (v := (Value.int _ _ : Value)) rfl rfl ?_; (try (refine rl_move (v := (Value.slice _ _ _ : Value)) rfl rfl ?_; (try (refine rl_len sl22 rfl rfl ?_; (try ((first | (refine rl_lss_t rfl rfl rfl ?_ ?_; omega) | (refine rl_lss_f rfl rfl rfl ?_ ?_; omega)); (try (refine rl_move (v := (Value.bool _ : Value)) rfl rfl ?_; (try ((first | refine rl_off rfl ?_ | refine rl_move (v := (Value.int _ _ : Value)) rfl rfl ?_); (try ((first | refine rl_off rfl ?_ | (refine rl_lss_t rfl rfl rfl ?_ ?_; omega) | (refine rl_lss_f rfl rfl rfl ?_ ?_; omega)); (try (refine rl_pick (v := (Value.bool _ : Value)) rfl rfl rfl ?_))))))))))))))))) | (refine region_ (id := 5) ?_; (try (refine rl_assign (v := (Value.slice _ _ _ : Value)) rfl rfl ?_)))))
      (refine drawn_ 15 [(0, false), (1, false), (2, false), (3, false), (4, false), (5, false), (6, false), (7, false), (8, false), (9, false), (10, false), (11, false), (12, false), (13, true), (14, true)] mo (by kernel_rfl) ?_; intro w2 hb2 hs2 hk2; (try (refine rx_move (v := (Value.slice _ _ _ : Value)) rfl rfl rfl ?_; (try (refine rx_move (v := (Value.slice _ _ _ : Value)) rfl rfl rfl ?_; (try (refine rx_move (v := (Value.slice _ _ _ : Value)) rfl rfl rfl ?_; (try (refine rx_move (v := (Value.int _ _ : Value)) rfl rfl rfl ?_; (try ((first | (refine rx_idx1 rfl sl22 rfl rfl rfl rfl ?_ ?_ ?_; omega; omega) | (apply rx_idx1 rfl sl22 rfl rfl rfl; assumption; omega; omega)); (try ((apply rx_load rfl vt29 rfl rfl; (intro _ hS; apply hS; assumption)); (try (refine rx_move (v := (Value.slice _ _ _ : Value)) rfl rfl rfl ?_; (try (refine rx_move (v := (Value.int _ _ : Value)) rfl rfl rfl ?_; (try ((first | (refine rx_idx1 rfl sl22 rfl rfl rfl rfl ?_ ?_ ?_; omega; omega) | (apply rx_idx1 rfl sl22 rfl rfl rfl; assumption; omega; omega)); (try ((apply rx_load rfl vt29 rfl rfl; (intro _ hS; apply hS; assumption)); (try (refine rx_len rfl sl29 rfl rfl ?_; (try (refine rx_min rfl rfl rfl rfl ?_)))))))))))))))))))))))))
      refine rx_slice_h rfl sl29 rfl rfl rfl ?_ ?_ hplc ?_
      · omega
      · omega
      -- the list's own copy
      obtain ⟨m8, hm8⟩ : ∃ m8 : Nat, m8 = (min (ra.length : Int) 8).toNat := ⟨_, rfl⟩
      have hm8' : m8 = min ra.length 8 := by omega
      have hlen8 : (ra.take 8).length = m8 := by simp; omega
      refine rx_eff rfl (fun K hK => ?_)
      refine rl_append (news := (ra.take 8).map (Value.int .i64)) (b := w2.heap.size) (B := pb) (off := po) sl29 rfl (by decide) (Own.nil _ _ _ _) ?_ rfl rfl rfl ?_ ?_ ?_ ?_ ?_ ?_
      · intro j u hu
        rw [List.getElem?_map, Option.map_eq_some_iff] at hu
        obtain ⟨x, hx, rfl⟩ := hu
        rw [List.getElem?_take] at hx
        split at hx
        · exact hk2 _ _ (cell_below (hpcell _ _ hx) hb1 (Nat.le_refl _))
        · cases hx
      · intro h; exact hpa (by omega)
      · rw [List.length_map, hlen8, ← hm8]; omega
      · intro u hu
        obtain ⟨x, _, rfl⟩ := List.mem_map.1 hu
        rfl
      · unfold maxLen; omega
      · omega
      intro u3 w3 c3 hO3 hc3 hg3 hz3
      rw [← hm8, Nat.zero_add, List.nil_append] at hO3
      rw [← hm8] at hz3
      have hk3 : Keeps w2 w3 := by
        intro A x hx
        rcases Nat.eq_zero_or_pos m8 with h0 | h0
        · rw [(hz3 h0).2]; exact hx
        · exact cell_chg hx hg3 (by have := cell_lt hx; omega)
      refine rl_nil (kq_normal (hK _ _ (hk2.trans hk3) ?_))
      obtain ⟨ua, uc, rfl, huc, hum, hua⟩ := hO3.shape
      refine rx_eff rfl (fun K hK => ?_)
      refine rl_bslice1 (v := Value.slice ua m8 uc) sl22 rfl rfl rfl rfl ?_
      intro w4 hB4 hb4 hs4
      refine rl_nil (kq_normal (hK _ _ ((hk2.trans hk3).trans (Keeps.of hb4)) ?_))
      refine rx_nil rfl ?_
      have hc3' : w2.heap.size ≤ c3 := by omega
      have hs3 : w2.heap.size ≤ w3.heap.size := hg3.size
      have hb21 : Below w.heap.size w w2 := below_ext hb1 hb2 hb1.size
      have hb31 : Below w.heap.size w w3 := below_chg hb21 hg3 hb21.size hb21.size
      have hb41 : Below w.heap.size w w4 := below_ext hb31 hb4 hb31.size
      have hkeep : ∀ {e n c : Nat} {u : Value} {xs : List Value}, Own w1 e 1 u n xs c → Own w4 e 1 u n xs c := fun h => ((h.ext hb2).keep hg3 (Nat.le_refl _)).ext hb4
      obtain ⟨b4, hown4, hb4c⟩ := Own.fresh hR.own (hkeep hR.own)
      have hO34 := hO3.ext hb4
      refine rl_append (news := [Value.slice ua m8 uc]) (B := w3.heap.size) (off := 0) sl22 rfl (by decide) hown4 ?_ rfl rfl rfl (fun _ => rfl) rfl ?_ ?_ ?_ ?_
      · intro j u hu
        rw [Nat.zero_add]; exact hB4.cell_some hu
      · intro u hu; simp at hu; subst hu; rfl
      · unfold maxLen; omega
      · omega
      intro v5 w5 b5 hO5 hc5 hg5 _
      obtain ⟨wa, wc, rfl, _, _, _⟩ := hO5.shape
      (repeat (first | refine sq_normal ?_ | refine rl_nil ?_ | refine inBlock_normal ?_ | refine np_normal ?_ | (refine region_ (id := 4) ?_; (try (refine rl_move (v := (Value.int _ _ : Value)) rfl rfl ?_; (try ((refine rl_add rfl rfl rfl ?_ ?_ ?_; omega; omega); (try (refine rl_assign (v := (Value.int _ _ : Value)) rfl rfl ?_))))))) | refine rl_assign (v := (Value.slice _ _ _ : Value)) rfl rfl ?_))
      have h12 : w1.heap.size ≤ w2.heap.size := by omega
      have h34 : w3.heap.size ≤ w4.heap.size := hb4.size
      have hR5 := Rws.snoc (xs := ra.take 8) hR hb1.size (fun i ys c _ _ _ u h => hkeep h) (by omega) (by rw [hlen8]; exact hO34) (by omega) (fun x hx => hui.rng x (List.mem_of_mem_take hx)) (fun h => by
        have h0 : m8 = 0 := by rw [← hlen8, h]; rfl
        rw [(hz3 h0).1]) hb4c hO5 hc5 hg5
      refine kq_normal (hL0 (10 - (i + 1)).toNat _ _ (by omega) (by (repeat (first | with_reducible exact Agree.ov | with_reducible exact Agree.refl _ _ | refine Agree.upd rfl ?_ | refine Agree.ovs rfl ?_))) ⟨i + 1, us ++ [Value.slice ua m8 uc], bs ++ [c3], b5, rfl, by omega, by omega, by omega, rfl, below_chg hb41 hg5 (by have h9 := hR.low; have h8 := hb41.size; omega) hb41.size, ?_⟩)
      rw [show (i + 1).toNat = i.toNat + 1 by omega, few_snoc ls i.toNat ra hra]
      exact hR5
    · (repeat (first | refine seq_ ?_ | refine sq_normal ?_ | refine sq_exit ?_ | refine rl_nil ?_ | refine cond_f rfl ?_ | refine ret_ ?_ | refine exit_ ?_ | refine inBlock_exit ?_ | refine kq_exit ?_ | (refine region_ (id := 3) ?_; (try (refine rl_move (v := (Value.int _ _ : Value)) rfl rfl ?_; (try (refine rl_move (v := (Value.slice _ _ _ : Value)) rfl rfl ?_; (try (refine rl_len sl22 rfl rfl ?_; (try ((first | (refine rl_lss_t rfl rfl rfl ?_ ?_; omega) | (refine rl_lss_f rfl rfl rfl ?_ ?_; omega)); (try (refine rl_move (v := (Value.bool _ : Value)) rfl rfl ?_; (try ((first | refine rl_off rfl ?_ | refine rl_move (v := (Value.int _ _ : Value)) rfl rfl ?_); (try ((first | refine rl_off rfl ?_ | (refine rl_lss_t rfl rfl rfl ?_ ?_; omega) | (refine rl_lss_f rfl rfl rfl ?_ ?_; omega)); (try (refine rl_pick (v := (Value.bool _ : Value)) rfl rfl rfl ?_))))))))))))))))) | (refine region_ (id := 7) ?_; (try (refine rl_move (v := (Value.slice _ _ _ : Value)) rfl rfl ?_; (try (refine rl_assign (v := (Value.slice _ _ _ : Value)) rfl rfl ?_)))))))
      refine bp_ret1 (v := Value.slice _ _ _) rfl rfl ⟨hb1, us, bs, b, ?_⟩
      have e : few ls = (ls.take i.toNat).map (·.take 8) := by
        have : i.toNat = 10 := by omega
        rw [this]; rfl
      rw [e]; exact hR
  · (repeat (first | refine seq_ ?_ | refine sq_normal ?_ | refine sq_exit ?_ | refine rl_nil ?_ | refine cond_f rfl ?_ | refine ret_ ?_ | refine exit_ ?_ | refine inBlock_exit ?_ | refine kq_exit ?_ | (refine region_ (id := 3) ?_; (try (refine rl_move (v := (Value.int _ _ : Value)) rfl rfl ?_; (try (refine rl_move (v := (Value.slice _ _ _ : Value)) rfl rfl ?_; (try (refine rl_len sl22 rfl rfl ?_; (try ((first | (refine rl_lss_t rfl rfl rfl ?_ ?_; omega) | (refine rl_lss_f rfl rfl rfl ?_ ?_; omega)); (try (refine rl_move (v := (Value.bool _ : Value)) rfl rfl ?_; (try ((first | refine rl_off rfl ?_ | refine rl_move (v := (Value.int _ _ : Value)) rfl rfl ?_); (try ((first | refine rl_off rfl ?_ | (refine rl_lss_t rfl rfl rfl ?_ ?_; omega) | (refine rl_lss_f rfl rfl rfl ?_ ?_; omega)); (try (refine rl_pick (v := (Value.bool _ : Value)) rfl rfl rfl ?_))))))))))))))))) | (refine region_ (id := 7) ?_; (try (refine rl_move (v := (Value.slice _ _ _ : Value)) rfl rfl ?_; (try (refine rl_assign (v := (Value.slice _ _ _ : Value)) rfl rfl ?_)))))))
    refine bp_ret1 (v := Value.slice _ _ _) rfl rfl ⟨hb1, us, bs, b, ?_⟩
    have h1 : ls.take i.toNat = ls := List.take_of_length_le (by omega)
    have h2 : ls.take 10 = ls := List.take_of_length_le (by omega)
    have e : few ls = (ls.take i.toNat).map (·.take 8) := by unfold few; rw [h1, h2]
    rw [e]; exact hR
end Go.Proofs.Ytgiifodmbckbmaa.Scc
