/- The walk of fuguelaw07.SccOwns: it returns true, and nothing that was there has turned. -/
import Derived.Test.YtgiifodmbckbmaaSccU
import Derived.Test.YtgiifodmbckbmaaSccV
set_option linter.unusedVariables false
set_option linter.unusedSimpArgs false
namespace Go.Scc
theorem star_sub {E E' : Int → Int → Prop} (h : ∀ p q, E p q → Star E' p q) {a b : Int} (hs : Star E a b) : Star E' a b := by
  induction hs with
  | refl => exact .refl _
  | tail _ e ih => exact ih.trans (h _ _ e)
/-- What is said twice, or leads to itself, or nowhere, changes nothing. -/
theorem rB_more {n : Int} {ls : List (List Int)} {i : Nat} {row extra : List Int} (hi : ls[i]? = some row) (hx : ∀ x ∈ extra, 0 ≤ x → x < n → x ∈ row ∨ x = (i : Int)) (a b : Int) : rB n (ls.set i (row ++ extra)) a b = rB n ls a b := by
  have hil := (List.getElem?_eq_some_iff.1 hi).1
  rw [Bool.eq_iff_iff, rB_iff, rB_iff]
  refine and_congr_right fun _ => and_congr_right fun _ => and_congr_right fun _ => and_congr_right fun _ => ⟨star_sub ?_, star_sub ?_⟩
  · rintro p q ⟨h1, h2, h3, h4, r, hr, hq⟩
    by_cases hp : i = p.toNat
    · subst hp
      rw [List.getElem?_set_self hil] at hr
      cases hr
      rcases List.mem_append.1 hq with h | h
      · exact .tail (.refl _) ⟨h1, h2, h3, h4, row, hi, h⟩
      · rcases hx q h h3 h4 with h' | h'
        · exact .tail (.refl _) ⟨h1, h2, h3, h4, row, hi, h'⟩
        · have : q = p := by omega
          subst this; exact .refl _
    · rw [List.getElem?_set_ne hp] at hr
      exact .tail (.refl _) ⟨h1, h2, h3, h4, r, hr, hq⟩
  · rintro p q ⟨h1, h2, h3, h4, r, hr, hq⟩
    by_cases hp : i = p.toNat
    · subst hp
      rw [hi] at hr; cases hr
      exact .tail (.refl _) ⟨h1, h2, h3, h4, _, List.getElem?_set_self hil, by simp [hq]⟩
    · exact .tail (.refl _) ⟨h1, h2, h3, h4, r, by rw [List.getElem?_set_ne hp]; exact hr, hq⟩
end Go.Scc
namespace Go.Proofs.Ytgiifodmbckbmaa.Scc
open Go Go.Eng Go.RowKit Go.Scc
attribute [local irreducible] RL RX KQ SQ Exit.inBlock Exit.then BP NP CallsOk IsSl IsRows IsInts IsBools Own Blk Code.wp Calls wpList
/-- What stands in blocks from B on. -/
def From (B : Nat) (w : World) : Vw := fun a => if B ≤ a.block then w.cell? a else none
theorem From.of {B : Nat} {w : World} {a : Addr} {v : Value} (hB : B ≤ a.block) (h : w.cell? a = some v) : From B w a = some v := by unfold From; rw [if_pos hB]; exact h
theorem From.iff {B : Nat} {w : World} {a : Addr} {v : Value} (h : From B w a = some v) : B ≤ a.block ∧ w.cell? a = some v := by
  unfold From at h
  split at h
  · exact ⟨‹_›, h⟩
  · cases h
theorem Own.from {w : World} {B e n b : Nat} {v : Value} {xs : List Value} (h : Own w e 1 v n xs b) (hB : n = 0 ∨ B ≤ b) : IsSl (From B w) v xs := by
  have hl : xs.length = n := by unfold Own at h; simpa using h.1
  obtain ⟨a, c, h1, h2, h3, h4⟩ := h.shape
  subst hl
  unfold IsSl
  refine ⟨a, c, b, 0, h1, h2, h3, h4, fun i u hu => ?_⟩
  have hlt := (List.getElem?_eq_some_iff.1 hu).1
  refine From.of (by show B ≤ b; omega) ?_
  rw [Nat.zero_add]; exact h.cell hu
theorem Rws.from {w : World} {B b : Nat} {v : Value} {ls : List (List Int)} {us : List Value} {bs : List Nat} (h : Rws w B v ls us bs b) : IsRows (From B w) v ls := by
  unfold IsRows
  refine ⟨us, Own.from h.own (.inr h.low), ?_⟩
  have key : ∀ (us : List Value) (ls : List (List Int)), us.length = ls.length → (∀ (i : Nat) xs, ls[i]? = some xs → ∃ u, us[i]? = some u ∧ IsInts (From B w) u xs) → All2 (IsInts (From B w)) us ls := by
    intro us
    induction us with
    | nil => intro ls hl _; cases ls with
      | nil => trivial
      | cons a l => simp at hl
    | cons u us ih => intro ls hl hr; cases ls with
      | nil => simp at hl
      | cons a l =>
        obtain ⟨u', hu', hi⟩ := hr 0 a (by simp)
        simp at hu'; subst hu'
        exact ⟨hi, ih l (by simpa using hl) (fun i xs hx => by simpa using hr (i + 1) xs (by simpa using hx))⟩
  refine key us ls h.ul fun i xs hx => ?_
  obtain ⟨u, c, h1, _, h3, h4, h5, _⟩ := h.row i xs hx
  refine ⟨u, h1, ?_⟩
  unfold IsInts
  refine ⟨Own.from h3 ?_, h4⟩
  by_cases hx : xs = []
  · left; simp [hx]
  · exact .inr (h5 hx).1
theorem From.le {B B' : Nat} {w : World} {a : Addr} {v : Value} (h : From B' w a = some v) (hB : B ≤ B') : From B w a = some v := by
  obtain ⟨h1, h2⟩ := From.iff h
  exact From.of (by omega) h2
set_option maxHeartbeats 4000000 in
theorem law5 (n a : Int) (uv : Value) (ls : List (List Int)) (w : World) (hn : I64 n) (ha : I64 a) (hu : IsRows w.cell? uv ls) :
    CallsOk Try.prog 5 #[.int .i64 n, uv, .int .i64 a] w fun v w' => v = .bool true ∧ Below w.heap.size w w' := by
  have hu0 := hu
  obtain ⟨ua, uc, ub, uo, rfl, hulc, huc, hua, hucell⟩ := hu.open
  have hml := maxLen_le
  refine enter_ (N := 72) Try.func5 rfl rfl rfl ?_
  (repeat (first | refine seq_ ?_ | refine sq_normal ?_ | refine rl_nil ?_ | (refine region_ (id := 0) ?_; (try (refine rl_assign (v := (Value.bool _ : Value)) rfl rfl ?_))) | (refine region_ (id := 1) ?_; (try (refine rl_move (v := (Value.int _ _ : Value)) rfl rfl ?_)))))
  refine rl_callf fn9 (around_ok n 11 w hn.1 hn.2 (by omega) (by omega)) rfl rfl ?_
  rintro _ _ ⟨rfl, rfl⟩
  have hk := around_lt n 11 (by omega)
  (repeat (first | refine seq_ ?_ | refine sq_normal ?_ | refine rl_nil ?_ | (refine region_ (id := 2) ?_; (try (refine rl_move (v := (Value.slice _ _ _ : Value)) rfl rfl ?_))) | refine rl_assign (v := (Value.int _ _ : Value)) rfl rfl ?_))
  refine rl_callf fn10 (few_ok _ ls w hu0) rfl rfl ?_
  rintro v1 w1 ⟨hb1, us, bs, b0, hR⟩
  have a1 := hb1.size
  obtain ⟨va, vc, rfl, hvl, hvc, hva⟩ := hR.own.shape
  (repeat (first | refine seq_ ?_ | refine sq_normal ?_ | refine rl_nil ?_ | (refine region_ (id := 3) ?_; (try (refine rl_move (v := (Value.slice _ _ _ : Value)) rfl rfl ?_))) | refine rl_assign (v := (Value.slice _ _ _ : Value)) rfl rfl ?_))
  refine rl_callf fn10 (few_ok _ ls w1 (hu0.mono (Keeps.of hb1))) rfl rfl ?_
  rintro v2 w2 ⟨hb2, us2, bs2, b2, hR2⟩
  have a2 := hb2.size
  obtain ⟨va2, vc2, rfl, _, _, _⟩ := hR2.own.shape
  obtain ⟨k, hkd⟩ : ∃ k, k = around n 11 := ⟨_, rfl⟩
  rw [← hkd] at hk
  rw [← hkd]
  have hk1 : 0 ≤ k := hk.1
  have hk2 : k < 11 := hk.2
  clear hk hkd
  have hfl : (few ls).length ≤ 10 := by unfold few; simp; omega
  have hLl0 := few_len ls
  have hLs : ∀ xs ∈ few ls, xs.length ≤ 8 := by
    intro xs hx
    unfold few at hx
    obtain ⟨ys, _, rfl⟩ := List.mem_map.1 hx
    simp; omega
  obtain ⟨L, hLd⟩ : ∃ L, L = few ls := ⟨_, rfl⟩
  rw [← hLd] at hfl hR hR2 hLs hLl0 hva hvl
  rw [← hLd]
  clear hLd
  (repeat (first | refine seq_ ?_ | refine sq_normal ?_ | refine rl_nil ?_ | (refine region_ (id := 4) ?_; (try (refine rl_move (v := (Value.int _ _ : Value)) rfl rfl ?_; (try (refine rl_move (v := (Value.slice _ _ _ : Value)) rfl rfl ?_))))) | refine rl_assign (v := (Value.slice _ _ _ : Value)) rfl rfl ?_))
  refine rl_callf fn12 (groups_ok k _ L w2 (by omega) (by omega) (hR.rows.mono (Keeps.of hb2)) hLl0) rfl rfl ?_
  rintro v3 w3 ⟨hb3, B3, us3, bs3, b3, hB3, hR3⟩
  have a3 := hb3.size
  obtain ⟨va3, vc3, rfl, _, _, _⟩ := hR3.own.shape
  have hk13 : Keeps w1 w3 := (Keeps.of hb2).trans (Keeps.of hb3)
  (repeat (first | refine seq_ ?_ | refine sq_normal ?_ | refine rl_nil ?_ | (refine region_ (id := 5) ?_; (try (refine rl_move (v := (Value.slice _ _ _ : Value)) rfl rfl ?_; (try (refine rl_move (v := (Value.slice _ _ _ : Value)) rfl rfl ?_))))) | refine rl_assign (v := (Value.slice _ _ _ : Value)) rfl rfl ?_))
  refine rl_callf fn11 (same_ok _ _ _ _ w3 (hR.rows.mono hk13) (hR2.rows.mono (Keeps.of hb3))) rfl rfl ?_
  rintro _ w4 ⟨rfl, hb4⟩
  have a4 := hb4.size
  rw [decide_eq_true rfl]
  -- what is kept from here on
  have hwas : IsRows (From w1.heap.size w4) (.slice va2 L.length vc2) L := (Rws.from ((hR2.ext hb3).ext hb4))
  have hgrp : IsRows (From w1.heap.size w4) (.slice va3 (groups k L).length vc3) (groups k L) := (Rws.from (hR3.ext hb4)).mono fun a x h => From.le h (by omega)
  have hR4 := ((hR.ext hb2).ext hb3).ext hb4
  have hw4 : Below w.heap.size w w4 := below_ext (below_ext (below_ext hb1 hb2 (by omega)) hb3 (by omega)) hb4 (by omega)
  have hold : ∀ (i : Nat) xs, L[i]? = some xs → b0 < w1.heap.size ∧ (xs ≠ [] → ∀ c, bs[i]? = some c → c < w1.heap.size) := by
    intro i xs h
    refine ⟨hR.tab_lt h, fun hx c hc => ?_⟩
    obtain ⟨u, c', e1, e2, e3, _⟩ := hR.row i xs h
    rw [hc] at e2; cases e2
    exact e3.lt (List.length_pos_iff.2 hx)
  clear hR hR2 hR3 hb1 hb2 hb3 hb4 hk13
  (repeat (first | refine seq_ ?_ | refine sq_normal ?_ | refine rl_nil ?_ | refine cond_f rfl ?_ | refine skip_ ?_ | (refine region_ (id := 7) ?_; (try (refine rl_move (v := (Value.slice _ _ _ : Value)) rfl rfl ?_; (try (refine rl_len sl22 rfl rfl ?_; (try ((first | (refine rl_gtr_t rfl rfl rfl ?_ ?_; omega) | (refine rl_gtr_f rfl rfl rfl ?_ ?_; omega))))))))) | refine rl_not rfl rfl ?_))
  refine rl_gtr rfl rfl rfl ?_
  (repeat (first | refine sq_normal ?_ | refine rl_nil ?_))
  refine cut_seq [(11, 64)] (fun wr => ∃ L', (∀ a b : Int, rB k L' a b = rB k L a b) ∧ IsRows wr.cell? (.slice va L.length vc) L' ∧ (∀ xs ∈ L', xs.length ≤ 1000000) ∧ (∀ a x, From w1.heap.size w4 a = some x → wr.cell? a = some x) ∧ Below w.heap.size w wr) ?_ ?_
  · refine cond_b rfl (fun hpos => ?_) (fun hpos => ?_)
    · have hpos' : 0 < (L.length : Int) := of_decide_eq_true hpos
      have hva' := hva (by omega)
      subst hva'
      (repeat (first | refine seq_ ?_ | (refine region_ (id := 8) ?_; (try (refine rl_move (v := (Value.int _ _ : Value)) rfl rfl ?_; (try (refine rl_move (v := (Value.slice _ _ _ : Value)) rfl rfl ?_; (try (refine rl_len sl22 rfl rfl ?_)))))))))
      refine rl_callf fn9 (around_ok a L.length w4 ha.1 ha.2 (by omega) (by omega)) rfl rfl ?_
      rintro _ _ ⟨rfl, rfl⟩
      have hi := around_lt a L.length (by omega)
      obtain ⟨i, hid⟩ : ∃ i, i = around a L.length := ⟨_, rfl⟩
      rw [← hid] at hi
      rw [← hid]
      have hi0 : 0 ≤ i := hi.1
      have hil : i < L.length := hi.2
      clear hi hid
      obtain ⟨row, hrow⟩ : ∃ row, L[i.toNat]? = some row := ⟨L[i.toNat]'(by omega), by simp⟩
      obtain ⟨hb0, hcold⟩ := hold _ _ hrow
      obtain ⟨ru, c, hru, hO4, hx64, hcc⟩ := hR4.at hrow
      have hrow8 := hLs row (List.mem_of_getElem? hrow)
      have hc1 : w4.cell? ⟨b0, 0 + i.toNat, none⟩ = some ru := by rw [Nat.zero_add]; exact hR4.own.cell hru
      have hcB : w.heap.size ≤ c ∧ c ≠ b0 ∧ (c < w1.heap.size ∨ w4.heap.size ≤ c) := by
        rcases hcc with ⟨e1, e2, e3, e4, e5⟩ | ⟨_, _, e⟩
        · exact ⟨e3, e4, .inl (hcold e1 c e2)⟩
        · exact ⟨by omega, by omega, .inr (by omega)⟩
      have hlow := hR4.low
      (repeat (first | refine seq_ ?_ | refine sq_normal ?_ | refine rl_nil ?_ | (refine region_ (id := 9) ?_; (try (refine rl_move (v := (Value.slice _ _ _ : Value)) rfl rfl ?_; (try (refine rl_move (v := (Value.int _ _ : Value)) rfl rfl ?_; (try (refine rl_move (v := (Value.slice _ _ _ : Value)) rfl rfl ?_; (try (refine rl_move (v := (Value.int _ _ : Value)) rfl rfl ?_; (try ((first | (refine rl_idx1 sl22 rfl rfl rfl rfl ?_ ?_ ?_; omega; omega) | (apply rl_idx1 sl22 rfl rfl rfl; assumption; omega; omega)); (try ((apply rl_load vt29 rfl rfl; assumption); (try (refine rl_move (v := (Value.int _ _ : Value)) rfl rfl ?_; (try (refine rl_move (v := (Value.int _ _ : Value)) rfl rfl ?_))))))))))))))))) | refine rl_assign (v := (Value.int _ _ : Value)) rfl rfl ?_))
      refine rl_bslice3 (u := .int .i64 (-1)) (v := .int .i64 k) (s := .int .i64 i) sl29 rfl rfl rfl rfl rfl rfl rfl rfl ?_
      intro w5 hB5 hb5 hs5
      have hR5 := hR4.ext hb5
      obtain ⟨ru', c5, hru', hO5, _, hcc5⟩ := hR5.at hrow
      have : ru' = ru := by rw [hru] at hru'; cases hru'; rfl
      subst this
      have hcB5 : w.heap.size ≤ c5 ∧ c5 ≠ b0 ∧ (c5 < w1.heap.size ∨ w4.heap.size ≤ c5) := by
        rcases hcc5 with ⟨e1, e2, e3, e4, e5⟩ | ⟨_, _, e⟩
        · exact ⟨e3, e4, .inl (hcold e1 c5 e2)⟩
        · exact ⟨by omega, by omega, .inr (by omega)⟩
      have hwl : ∀ A x, From w1.heap.size w4 A = some x → w1.heap.size ≤ A.block ∧ A.block < w4.heap.size ∧ w4.cell? A = some x := fun A x h => ⟨(From.iff h).1, cell_lt (From.iff h).2, (From.iff h).2⟩
      refine rl_append (news := [Value.int .i64 (-1), .int .i64 k, .int .i64 i]) (B := w4.heap.size) (off := 0) sl29 rfl (by decide) hO5 ?_ rfl rfl rfl (fun _ => rfl) rfl ?_ ?_ ?_ ?_
      · intro j u hu; rw [Nat.zero_add]; exact hB5.cell_some hu
      · intro u hu; simp at hu; rcases hu with rfl | rfl | rfl <;> rfl
      · unfold maxLen; omega
      · omega
      intro v6 w6 b6 hO6 hc6 hg6 _
      have hs6 := hg6.size
      (repeat (first | (first | (refine rl_idx1 sl22 rfl rfl rfl rfl ?_ ?_ ?_; omega; omega) | (apply rl_idx1 sl22 rfl rfl rfl; assumption; omega; omega) | (refine rl_idx1 sl29 rfl rfl rfl rfl ?_ ?_ ?_; omega; omega) | (apply rl_idx1 sl29 rfl rfl rfl; assumption; omega; omega) | (refine rl_idx1 sl33 rfl rfl rfl rfl ?_ ?_ ?_; omega; omega) | (apply rl_idx1 sl33 rfl rfl rfl; assumption; omega; omega) | (refine rl_idx1 sl34 rfl rfl rfl rfl ?_ ?_ ?_; omega; omega) | (apply rl_idx1 sl34 rfl rfl rfl; assumption; omega; omega))))
      obtain ⟨cs, hT1, hT2, hT3⟩ := (hR5.own.chg hg6 (Ne.symm hcB5.2.1)).store (i := i.toNat) (by omega)
      have hv6 : v6.oneCell' = true := by obtain ⟨a, c, rfl, _⟩ := hO6.shape; rfl
      refine rl_store (v := v6) vt29 rfl rfl rfl hv6 hT1 ?_ ?_
      · omega
      intro w7 hB7 hc7 hs7
      (repeat (first | refine seq_ ?_ | refine sq_normal ?_ | refine rl_nil ?_ | (refine region_ (id := 10) ?_; (try (refine rl_move (v := (Value.slice _ _ _ : Value)) rfl rfl ?_; (try (refine rl_move (v := (Value.int _ _ : Value)) rfl rfl ?_; (try ((first | (refine rl_idx1 sl22 rfl rfl rfl rfl ?_ ?_ ?_; omega; omega) | (apply rl_idx1 sl22 rfl rfl rfl; assumption; omega; omega)); (try ((apply rl_load vt29 rfl rfl; assumption); (try (refine rl_len sl29 rfl rfl ?_; (try ((first | (refine rl_gtr_t rfl rfl rfl ?_ ?_; omega) | (refine rl_gtr_f rfl rfl rfl ?_ ?_; omega)))))))))))))))))
      rw [Nat.zero_add] at hB7
      have hx3 : ∀ x ∈ row ++ [-1, k, i], I64 x := by
        intro x hx
        rcases List.mem_append.1 hx with h | h
        · exact hx64 x h
        · simp at h
          rcases h with rfl | rfl | rfl <;> exact ⟨by omega, by omega⟩
      have hR7 := hR5.upd (xs' := row ++ [-1, k, i]) (c := c5) (by omega) hrow (hcc5.imp (fun h => h) (fun h => by omega)) hg6 (by simpa using hO6) hc6 hx3 (by simp) (hT3 _ _ hB7) hc7
      have hrow7 : (L.set i.toNat (row ++ [-1, k, i]))[i.toNat]? = some (row ++ [-1, k, i]) := List.getElem?_set_self (by omega)
      have hrB7 : ∀ a b : Int, rB k (L.set i.toNat (row ++ [-1, k, i])) a b = rB k L a b := rB_more hrow fun x hx h0 h1 => by
        simp at hx
        rcases hx with rfl | rfl | rfl
        · omega
        · omega
        · right; omega
      have hfrom7 : ∀ A x, From w1.heap.size w4 A = some x → w7.cell? A = some x := fun A x h => by
        obtain ⟨h1, h2, h3⟩ := hwl A x h
        have := hcB5.2.2
        refine cell_chg (cell_chg (cell_ext h3 hb5) hg6 ?_) hc7 (by omega)
        rcases hcc5 with ⟨e1, e2, e3, e4, e5⟩ | ⟨_, _, e⟩
        · have := hcold e1 c5 e2; omega
        · omega
      have hw7 : Below w.heap.size w w7 := below_chg (below_chg (below_ext hw4 hb5 (by omega)) hg6 hcB5.1 (by omega)) hc7 (by omega) (by omega)
      have hrl7 : ∀ xs ∈ L.set i.toNat (row ++ [-1, k, i]), xs.length ≤ 1000000 := by
        intro xs hx
        rcases List.mem_or_eq_of_mem_set hx with h | rfl
        · exact hLl0 xs h
        · simp; omega
      have hLlen : (L.set i.toNat (row ++ [-1, k, i])).length = L.length := by simp
      -- the second list
      obtain ⟨wa, wc, wb, wo, hwq, hwlc, hwc, hwa, hwcell⟩ := hwas.open
      simp only [Value.slice.injEq] at hwq
      obtain ⟨rfl, _, rfl⟩ := hwq
      have hwa' := hwa (by omega)
      subst hwa'
      obtain ⟨qv, hqv, hqi⟩ := hwcell _ _ hrow
      obtain ⟨qa, qc, qb, qo, rfl, hqlc, hqc, hqa, hqcell⟩ := hqi.open
      have hc2 := hfrom7 _ _ hqv
      cases row with
      | nil =>
        have hq0 : ((([] : List Int).length : Nat) : Int) = 0 := rfl
        (repeat (first | refine sq_normal ?_ | refine rl_nil ?_ | refine cond_f rfl ?_ | refine skip_ ?_ | (refine rl_gtr_f rfl rfl rfl ?_ ?_; omega) | refine rl_len sl29 rfl rfl ?_ | (first | (refine rl_idx1 sl22 rfl rfl rfl rfl ?_ ?_ ?_; omega; omega) | (apply rl_idx1 sl22 rfl rfl rfl; assumption; omega; omega) | (refine rl_idx1 sl29 rfl rfl rfl rfl ?_ ?_ ?_; omega; omega) | (apply rl_idx1 sl29 rfl rfl rfl; assumption; omega; omega) | (refine rl_idx1 sl33 rfl rfl rfl rfl ?_ ?_ ?_; omega; omega) | (apply rl_idx1 sl33 rfl rfl rfl; assumption; omega; omega) | (refine rl_idx1 sl34 rfl rfl rfl rfl ?_ ?_ ?_; omega; omega) | (apply rl_idx1 sl34 rfl rfl rfl; assumption; omega; omega)) | (first | (apply rl_load vt3 rfl rfl; assumption) | (apply rl_load vt4 rfl rfl; assumption) | (apply rl_load vt29 rfl rfl; assumption) | (apply rl_load vt34 rfl rfl; assumption) | (apply rl_load vt33 rfl rfl; assumption))))
        refine kq_normal ⟨by (repeat (first | with_reducible exact Agree.ov | with_reducible exact Agree.refl _ _ | refine Agree.upd rfl ?_ | refine Agree.ovs rfl ?_)), _, hrB7, ?_, hrl7, hfrom7, hw7⟩
        exact hR7.rows
      | cons r0 row =>
        have hqa' := hqa (by simp)
        subst hqa'
        have hlen1 : (1 : Int) ≤ ((r0 :: row).length : Nat) := by simp only [List.length_cons]; omega
        have hc3 : w7.cell? ⟨qb, qo + (0 : Int).toNat, none⟩ = some (.int .i64 r0) := hfrom7 _ _ (hqcell 0 r0 (by simp))
        obtain ⟨nu, c7, hnu, hO7, hx7, hcc7⟩ := hR7.at hrow7
        have hc4 : w7.cell? ⟨b0, 0 + i.toNat, none⟩ = some nu := by rw [Nat.zero_add]; exact hR7.own.cell hnu
        have hq1 := (hwl _ _ (hqv)).1
        have hq2 := (hwl _ _ (hqcell 0 r0 (by simp))).1
        simp only at hq1 hq2
        have hq3 := (hwl _ _ (hqv)).2.1
        have hq4 := (hwl _ _ (hqcell 0 r0 (by simp))).2.1
        simp only at hq3 hq4
        obtain ⟨F, hF1, hF2, hF3, hFa⟩ : ∃ F : Addr → Value → Prop, F ⟨wb, wo + i.toNat, none⟩ (.slice (some ⟨qb, qo, none⟩) (r0 :: row).length qc) ∧ F ⟨qb, qo + (0 : Int).toNat, none⟩ (.int .i64 r0) ∧ F ⟨b0, 0 + i.toNat, none⟩ nu ∧
            ∀ a v, F a v → w7.cell? a = some v ∧ ((w1.heap.size ≤ a.block ∧ a.block < w4.heap.size) ∨ a.block = b0) :=
          ⟨fun a v => w7.cell? a = some v ∧ ((w1.heap.size ≤ a.block ∧ a.block < w4.heap.size) ∨ a.block = b0), ⟨hc2, .inl ⟨hq1, hq3⟩⟩, ⟨hc3, .inl ⟨hq2, hq4⟩⟩, ⟨hc4, .inr rfl⟩, fun _ _ h => h⟩
        have hF : ∀ a v, F a v → w7.cell? a = some v := fun a v h => (hFa a v h).1
        -- where the row stands by now
        have hc7w : w.heap.size ≤ c7 ∧ c7 ≠ b0 ∧ (c7 < w1.heap.size ∨ w4.heap.size ≤ c7) := by
          rcases hcc7 with ⟨e1, e2, e3, e4, e5⟩ | ⟨h, _, e⟩
          · refine ⟨e3, e4, ?_⟩
            rw [List.getElem?_set_self (by have := hR5.bl; omega)] at e2
            cases e2
            rcases hc6 with rfl | h
            · exact hcB5.2.2
            · omega
          · simp at h
        (repeat (first | refine sq_normal ?_ | refine rl_nil ?_ | refine cond_t rfl ?_ | (refine rl_gtr_t rfl rfl rfl ?_ ?_; omega) | refine rl_len sl29 rfl rfl ?_ | (first | (refine rl_idx1 sl22 rfl rfl rfl rfl ?_ ?_ ?_; omega; omega) | (apply rl_idx1 sl22 rfl rfl rfl; assumption; omega; omega) | (refine rl_idx1 sl29 rfl rfl rfl rfl ?_ ?_ ?_; omega; omega) | (apply rl_idx1 sl29 rfl rfl rfl; assumption; omega; omega) | (refine rl_idx1 sl33 rfl rfl rfl rfl ?_ ?_ ?_; omega; omega) | (apply rl_idx1 sl33 rfl rfl rfl; assumption; omega; omega) | (refine rl_idx1 sl34 rfl rfl rfl rfl ?_ ?_ ?_; omega; omega) | (apply rl_idx1 sl34 rfl rfl rfl; assumption; omega; omega)) | (first | (apply rl_load vt3 rfl rfl; assumption) | (apply rl_load vt4 rfl rfl; assumption) | (apply rl_load vt29 rfl rfl; assumption) | (apply rl_load vt34 rfl rfl; assumption) | (apply rl_load vt33 rfl rfl; assumption))))
        (refine drawnF_ 14 [(0, false), (1, false), (2, false), (3, false), (4, false), (5, false), (6, false), (7, false), (8, false), (9, false), (10, false), (11, false), (12, true), (13, true)] F mo (by kernel_rfl) hF ?_; intro w8 hb8 hs8 hk8; (try (refine rx_move (v := (Value.slice _ _ _ : Value)) rfl rfl rfl ?_; (try (refine rx_move (v := (Value.int _ _ : Value)) rfl rfl rfl ?_; (try (refine rx_move (v := (Value.slice _ _ _ : Value)) rfl rfl rfl ?_; (try (refine rx_move (v := (Value.int _ _ : Value)) rfl rfl rfl ?_; (try ((first | (refine rx_idx1 rfl sl22 rfl rfl rfl rfl ?_ ?_ ?_; omega; omega) | (apply rx_idx1 rfl sl22 rfl rfl rfl; assumption; omega; omega)); (try ((apply rx_load rfl vt29 rfl rfl; (intro _ hS; apply hS; assumption)); (try (refine rx_move (v := (Value.slice _ _ _ : Value)) rfl rfl rfl ?_; (try (refine rx_move (v := (Value.int _ _ : Value)) rfl rfl rfl ?_; (try ((first | (refine rx_idx1 rfl sl22 rfl rfl rfl rfl ?_ ?_ ?_; omega; omega) | (apply rx_idx1 rfl sl22 rfl rfl rfl; assumption; omega; omega)); (try ((apply rx_load rfl vt29 rfl rfl; (intro _ hS; apply hS; assumption)); (try ((first | (refine rx_idx1 rfl sl29 rfl rfl rfl rfl ?_ ?_ ?_; omega; omega) | (apply rx_idx1 rfl sl29 rfl rfl rfl; assumption; omega; omega)); (try ((apply rx_load rfl vt3 rfl rfl; (intro _ hS; apply hS; assumption)))))))))))))))))))))))))))
        refine rx_eff rfl (fun K2 hK2 => ?_)
        refine rl_bslice1 (v := .int .i64 r0) sl29 rfl rfl rfl rfl ?_
        intro w9 hB9 hb9 hs9
        refine rl_nil (kq_normal (hK2 _ _ (fun a v h => cell_ext (cell_ext (hF a v h) hb8) hb9) ?_))
        refine rx_eff rfl (fun K3 hK3 => ?_)
        have hR9 := (hR7.ext hb8).ext hb9
        have hO9 := (hO7.ext hb8).ext hb9
        refine rl_append (news := [Value.int .i64 r0]) (B := w8.heap.size) (off := 0) sl29 rfl (by decide) hO9 ?_ rfl rfl rfl (fun _ => rfl) rfl ?_ ?_ ?_ ?_
        · intro j u hu; rw [Nat.zero_add]; exact hB9.cell_some hu
        · intro u hu; simp at hu; subst hu; rfl
        · simp only [List.length_append, List.length_cons, List.length_nil] at hrow8 ⊢; unfold maxLen; omega
        · simp only [List.length_append, List.length_cons, List.length_nil] at hrow8 ⊢; omega
        intro v10 w10 b10 hO10 hc10 hg10 _
        have hs10 := hg10.size
        refine rl_nil (kq_normal (hK3 _ _ (fun a v h => cell_chg (cell_ext (cell_ext (hF a v h) hb8) hb9) hg10 (by have := (hFa a v h).2; omega)) ?_))
        refine rx_nil rfl ?_
        (repeat (first | (first | (refine rl_idx1 sl22 rfl rfl rfl rfl ?_ ?_ ?_; omega; omega) | (apply rl_idx1 sl22 rfl rfl rfl; assumption; omega; omega) | (refine rl_idx1 sl29 rfl rfl rfl rfl ?_ ?_ ?_; omega; omega) | (apply rl_idx1 sl29 rfl rfl rfl; assumption; omega; omega) | (refine rl_idx1 sl33 rfl rfl rfl rfl ?_ ?_ ?_; omega; omega) | (apply rl_idx1 sl33 rfl rfl rfl; assumption; omega; omega) | (refine rl_idx1 sl34 rfl rfl rfl rfl ?_ ?_ ?_; omega; omega) | (apply rl_idx1 sl34 rfl rfl rfl; assumption; omega; omega))))
        obtain ⟨cs, hT1, hT2, hT3⟩ := (hR9.own.chg hg10 (Ne.symm hc7w.2.1)).store (i := i.toNat) (by omega)
        have hv10 : v10.oneCell' = true := by obtain ⟨a, c, rfl, _⟩ := hO10.shape; rfl
        refine rl_store (v := v10) vt29 rfl rfl rfl hv10 hT1 ?_ ?_
        · omega
        intro w11 hB11 hc11 hs11
        (repeat (first | refine rl_nil ?_ | refine np_normal ?_))
        rw [Nat.zero_add] at hB11
        have hr0 : I64 r0 := hx64 r0 (by simp)
        have hR11 := hR9.upd (xs' := (r0 :: row ++ [-1, k, i]) ++ [r0]) (c := c7) (by omega) hrow7 (hcc7.elim (fun ⟨e1, e2, e3, e4, e5⟩ => .inl ⟨e1, e2, e3, e4, by omega⟩) (fun h => by simp at h)) hg10 (by simpa using hO10) (hc10.imp (fun h => h) (fun h => by omega)) (fun x hx => by
          rcases List.mem_append.1 hx with h | h
          · exact hx3 x h
          · rw [List.mem_singleton.1 h]; exact hr0) (by simp) (hT3 _ _ hB11) hc11
        refine kq_normal ⟨by (repeat (first | with_reducible exact Agree.ov | with_reducible exact Agree.refl _ _ | refine Agree.upd rfl ?_ | refine Agree.ovs rfl ?_)), _, fun a b => (rB_more (extra := [r0]) hrow7 (fun x hx _ _ => ?_) a b).trans (hrB7 a b), ?_, ?_, fun A x h => ?_, ?_⟩
        · rw [List.mem_singleton.1 hx]; left; simp
        · exact hR11.rows
        · intro xs hx
          rcases List.mem_or_eq_of_mem_set hx with h | rfl
          · exact hrl7 xs h
          · simp only [List.length_append, List.length_cons, List.length_nil] at hrow8 ⊢; omega
        · obtain ⟨h1, h2, h3⟩ := hwl A x h
          refine cell_chg (cell_chg (cell_ext (cell_ext (hfrom7 A x h) hb8) hb9) hg10 (by omega)) hc11 (by omega)
        · exact below_chg (below_chg (below_ext (below_ext hw7 hb8 (by omega)) hb9 (by omega)) hg10 hc7w.1 (by omega)) hc11 (by omega) (by omega)
    · have hpos' : ¬ 0 < (L.length : Int) := of_decide_eq_false hpos
      (repeat (first | refine skip_ ?_))
      exact kq_normal ⟨by (repeat (first | with_reducible exact Agree.ov | with_reducible exact Agree.refl _ _ | refine Agree.upd rfl ?_ | refine Agree.ovs rfl ?_)), L, fun _ _ => rfl, hR4.rows, hLl0, fun A x h => (From.iff h).2, hw4⟩
  · rintro τ w5 ⟨L', hrB, hrows, hrl, hfrom, hw5⟩
    have a5 := hw5.size
    (repeat (first | refine seq_ ?_ | (refine region_ (id := 12) ?_; (try (refine rl_move (v := (Value.int _ _ : Value)) rfl rfl ?_; (try (refine rl_move (v := (Value.slice _ _ _ : Value)) rfl rfl ?_)))))))
    refine rl_callf fn12 (groups_ok k _ L' w5 (by omega) (by omega) hrows hrl) rfl rfl ?_
    rintro v6 w6 ⟨hb6, B6, us6, bs6, b6, hB6, hR6⟩
    have a6 := hb6.size
    rw [groups_congr hrB] at hR6
    have hr6 := hR6.rows
    obtain ⟨va6, vc6, rfl, _, _, _⟩ := hR6.own.shape
    (repeat (first | refine rl_move (v := (Value.slice _ _ _ : Value)) rfl rfl ?_))
    refine rl_callf fn11 (same_ok _ _ _ _ w6 hr6 (hgrp.mono fun A x h => cell_ext (hfrom A x h) hb6)) rfl rfl ?_
    rintro _ w7 ⟨rfl, hb7⟩
    have a7 := hb7.size
    rw [decide_eq_true rfl]
    (repeat (first | refine rl_move (v := (Value.bool _ : Value)) rfl rfl ?_))
    refine rl_callf fn14 (lives_ok w7) rfl rfl ?_
    rintro _ w8 ⟨rfl, hb8⟩
    (repeat (first | refine sq_normal ?_ | refine rl_nil ?_ | refine ret_ ?_ | refine rl_assign (v := (Value.bool _ : Value)) rfl rfl ?_ | refine rl_pick (v := (Value.bool _ : Value)) rfl rfl rfl ?_))
    exact bp_ret1 (v := Value.bool _) rfl rfl ⟨rfl, below_ext (below_ext (below_ext hw5 hb6 (by omega)) hb7 (by omega)) hb8 (by omega)⟩
end Go.Proofs.Ytgiifodmbckbmaa.Scc
