/- The walk of fuguelaw07.SccTurned: it returns true, and nothing that was there has turned. -/
import Derived.Test.YtgiifodmbckbmaaSccW13
import Derived.Test.YtgiifodmbckbmaaSccU
import Derived.Test.YtgiifodmbckbmaaSccV
set_option linter.unusedVariables false
set_option linter.unusedSimpArgs false
namespace Go.Proofs.Ytgiifodmbckbmaa.Scc
open Go Go.Eng Go.RowKit Go.Scc
attribute [local irreducible] RL RX KQ SQ Exit.inBlock Exit.then BP NP CallsOk IsSl IsRows IsInts IsBools Own Blk Code.wp Calls wpList
theorem rws_none {w : World} {b n : Nat} (h : Blk w b (List.replicate n (.slice none 0 0)) 29) (hn : n ≤ maxLen) : Rws w b (.slice (some ⟨b, 0, none⟩) n n) (List.replicate n []) (List.replicate n (.slice none 0 0)) (List.replicate n 0) b := by
  refine ⟨?_, Nat.le_refl _, by simp, by simp, fun i xs hx => ?_, fun i j xs ys c d _ h1 h2 _ _ hx => ?_⟩
  · have := Own.of_blk (sz := 1) (n := n) h (by simp) hn
    simpa using this
  · rw [List.getElem?_replicate] at hx
    split at hx
    · cases hx
      rename_i hi
      refine ⟨.slice none 0 0, 0, by simp [hi], by simp [hi], Own.nil _ _ _ _, fun x hx => by simp at hx, fun h => absurd rfl h, fun _ => rfl⟩
    · cases hx
  · rw [List.getElem?_replicate] at h1
    split at h1
    · cases h1; exact absurd rfl hx
    · cases h1
set_option maxHeartbeats 4000000 in
theorem law6 (n : Int) (uv : Value) (ls : List (List Int)) (w : World) (hn : I64 n) (hu : IsRows w.cell? uv ls) :
    CallsOk Try.prog 6 #[.int .i64 n, uv] w fun v w' => v = .bool true ∧ Below w.heap.size w w' := by
  have hu0 := hu
  obtain ⟨ua, uc, ub, uo, rfl, hulc, huc, hua, hucell⟩ := hu.open
  have hml := maxLen_le
  refine enter_ (N := 130) Try.func6 rfl rfl rfl ?_
  (repeat (first | refine seq_ ?_ | refine sq_normal ?_ | refine rl_nil ?_ | (refine region_ (id := 0) ?_; (try (refine rl_assign (v := (Value.bool _ : Value)) rfl rfl ?_))) | (refine region_ (id := 1) ?_; (try (refine rl_move (v := (Value.int _ _ : Value)) rfl rfl ?_)))))
  refine rl_callf fn9 (around_ok n 11 w hn.1 hn.2 (by omega) (by omega)) rfl rfl ?_
  rintro _ _ ⟨rfl, rfl⟩
  have hk := around_lt n 11 (by omega)
  (repeat (first | refine seq_ ?_ | refine sq_normal ?_ | refine rl_nil ?_ | (refine region_ (id := 2) ?_; (try (refine rl_move (v := (Value.slice _ _ _ : Value)) rfl rfl ?_))) | refine rl_assign (v := (Value.int _ _ : Value)) rfl rfl ?_))
  refine rl_callf fn10 (few_ok _ ls w hu0) rfl rfl ?_
  rintro v1 w1 ⟨hb1, us, bs, b0, hR⟩
  have hr1 := hR.rows
  obtain ⟨va, vc, rfl, _, _, _⟩ := hR.own.shape
  obtain ⟨k, hkd⟩ : ∃ k, k = around n 11 := ⟨_, rfl⟩
  rw [← hkd] at hk
  rw [← hkd]
  have hk1 : 0 ≤ k := hk.1
  have hk2 : k < 11 := hk.2
  clear hk hkd
  have hfl : (few ls).length ≤ 10 := by unfold few; simp; omega
  obtain ⟨L, hLd⟩ : ∃ L, L = few ls := ⟨_, rfl⟩
  rw [← hLd] at hr1 hfl hR
  have hLl : ∀ xs ∈ L, xs.length ≤ 1000000 := by rw [hLd]; exact few_len ls
  rw [← hLd]
  clear hLd hR
  have hr1o := hr1
  obtain ⟨la, lc, lb, lo, hlq, hllc, hlc, hla, hlcell⟩ := hr1o.open
  simp only [Value.slice.injEq] at hlq
  obtain ⟨rfl, _, rfl⟩ := hlq
  (repeat (first | refine seq_ ?_ | refine sq_normal ?_ | refine rl_nil ?_ | (refine region_ (id := 3) ?_; (try (refine rl_move (v := (Value.int _ _ : Value)) rfl rfl ?_))) | refine rl_assign (v := (Value.slice _ _ _ : Value)) rfl rfl ?_))
  refine rl_make1 sl22 rfl rfl rfl ?_ ?_ ?_ ?_
  · omega
  · omega
  · omega
  intro w2 hB2 hb2 hs2
  (repeat (first | refine seq_ ?_ | refine sq_normal ?_ | refine rl_nil ?_ | refine block_ ?_ | (refine region_ (id := 4) ?_; (try (refine rl_assign (v := (Value.int _ _ : Value)) rfl rfl ?_))) | refine rl_assign (v := (Value.slice _ _ _ : Value)) rfl rfl ?_))
  have hR2 := rws_none hB2 (by unfold maxLen; omega)
  rw [← turnTo_zero k L] at hR2
  refine cut_blk [(8, 10), (20, 84)] (fun wr => ∃ T, (∀ a b : Int, rB k T (k - 1 - a) (k - 1 - b) = rB k L a b) ∧ IsRows wr.cell? (.slice (some ⟨w1.heap.size, 0, none⟩) k.toNat k.toNat) T ∧ (∀ xs ∈ T, xs.length ≤ 1000000) ∧ Below w1.heap.size w1 wr) ?_ ?_
  · refine loop1 [(8, 10), (20, 84)] 8 (fun m v wr => ∃ (i : Int) (us : List Value) (bs : List Nat), v = .int .i64 i ∧ 0 ≤ i ∧ i ≤ k ∧ m = (k - i).toNat ∧ Rws wr w1.heap.size (.slice (some ⟨w1.heap.size, 0, none⟩) k.toNat k.toNat) (turnTo k L i.toNat 0) us bs w1.heap.size ∧ Below w1.heap.size w1 wr ∧ w1.heap.size < wr.heap.size) _
      ⟨0, _, _, rfl, by omega, by omega, rfl, hR2, hb2, by omega⟩ ?_
    clear hR2 hB2 hb2 hs2 us bs
    rintro m τ v w3 ⟨i, us, bs, rfl, hi0, hik, rfl, hR3, hb3, hs3⟩ K0 hL0
    by_cases hrun : i < k ∧ i < L.length
    · obtain ⟨hi, hiL⟩ := hrun
      have hla' := hla (by omega)
      subst hla'
      obtain ⟨row, hrow⟩ : ∃ row, L[i.toNat]? = some row := ⟨L[i.toNat]'(by omega), by simp⟩
      obtain ⟨u, huc1, hui⟩ := hlcell _ _ hrow
      obtain ⟨ra, rc, rb, ro, rfl, hrl', hrc, hra, hrcell⟩ := hui.open
      have hrow64 := hui.rng
      have hrowl := hLl row (List.mem_of_getElem? hrow)
      have hlb := cell_lt huc1
      simp only at hlb
      (repeat (first | refine seq_ ?_ | refine sq_normal ?_ | refine rl_nil ?_ | refine cond_t rfl ?_ | refine skip_ ?_ | refine block_ ?_ | (refine region_ (id := 5) ?_; (try (refine rl_move (v := (Value.int _ _ : Value)) rfl rfl ?_; (try (refine rl_move (v := (Value.int _ _ : Value)) rfl rfl ?_; (try ((first | (refine rl_lss_t rfl rfl rfl ?_ ?_; omega) | (refine rl_lss_f rfl rfl rfl ?_ ?_; omega)); (try (refine rl_move (v := (Value.bool _ : Value)) rfl rfl ?_; (try ((first | refine rl_off rfl ?_ | refine rl_move (v := (Value.int _ _ : Value)) rfl rfl ?_); (try ((first | refine rl_off rfl ?_ | refine rl_move (v := (Value.slice _ _ _ : Value)) rfl rfl ?_); (try ((first | refine rl_off rfl ?_ | refine rl_len sl22 rfl rfl ?_); (try ((first | refine rl_off rfl ?_ | (refine rl_lss_t rfl rfl rfl ?_ ?_; omega) | (refine rl_lss_f rfl rfl rfl ?_ ?_; omega)); (try (refine rl_pick (v := (Value.bool _ : Value)) rfl rfl rfl ?_))))))))))))))))))) | (refine region_ (id := 7) ?_; (try (refine rl_assign (v := (Value.int _ _ : Value)) rfl rfl ?_)))))
      refine loop1 [(9, 10), (31, 84)] 9 (fun m v wr => ∃ (j : Int) (us : List Value) (bs : List Nat), v = .int .i64 j ∧ 0 ≤ j ∧ j ≤ row.length ∧ m = (row.length - j).toNat ∧ Rws wr w1.heap.size (.slice (some ⟨w1.heap.size, 0, none⟩) k.toNat k.toNat) (turnTo k L i.toNat j.toNat) us bs w1.heap.size ∧ Below w1.heap.size w1 wr ∧ w1.heap.size < wr.heap.size) _
        ⟨0, us, bs, rfl, by omega, by omega, rfl, hR3, hb3, hs3⟩ ?_
      clear hR3 hb3 hs3 us bs
      rintro m τ1 v w4 ⟨j, us, bs, rfl, hj0, hjl, rfl, hR4, hb4, hs4⟩ K1 hL1
      have hc1 : w4.cell? ⟨lb, lo + i.toNat, none⟩ = some (.slice ra row.length rc) := cell_below huc1 hb4 (Nat.le_refl _)
      by_cases hj : j < row.length
      · have hra' := hra (by omega)
        subst hra'
        obtain ⟨u, hu1⟩ : ∃ u, row[j.toNat]? = some u := ⟨row[j.toNat]'(by omega), by simp⟩
        have hrb := cell_lt (hrcell _ _ hu1)
        simp only at hrb
        have hc2 : w4.cell? ⟨rb, ro + j.toNat, none⟩ = some (.int .i64 u) := cell_below (hrcell _ _ hu1) hb4 (Nat.le_refl _)
        have hstep := turnTo_step (n := k) (i := i.toNat) (by omega) hrow hu1
        rw [← show (j + 1).toNat = j.toNat + 1 by omega] at hstep
        by_cases hu0 : 0 ≤ u
        · by_cases huk : u < k
          · rw [show inR k u = true by unfold inR; simp [hu0, huk], if_pos rfl] at hstep
            have hrowT := turnTo_row (n := k) (i := i.toNat) (j := j.toNat) (by omega) hrow
            have ht : k.toNat - 1 - i.toNat = (k - 1 - i).toNat := by omega
            rw [ht] at hrowT hstep
            obtain ⟨ru, _, hru1, _⟩ := hR4.at hrowT
            have hc3 : w4.cell? ⟨w1.heap.size, 0 + (k - 1 - i).toNat, none⟩ = some ru := by rw [Nat.zero_add]; exact hR4.own.cell hru1
            obtain ⟨F, hF1, hF2, hF3, hFa⟩ : ∃ F : Addr → Value → Prop, F ⟨lb, lo + i.toNat, none⟩ (.slice (some ⟨rb, ro, none⟩) row.length rc) ∧ F ⟨rb, ro + j.toNat, none⟩ (.int .i64 u) ∧ F ⟨w1.heap.size, 0 + (k - 1 - i).toNat, none⟩ ru ∧
                ∀ a v, F a v → w4.cell? a = some v ∧ (a.block < w1.heap.size ∨ a.block = w1.heap.size) :=
              ⟨fun a v => w4.cell? a = some v ∧ (a.block < w1.heap.size ∨ a.block = w1.heap.size), ⟨hc1, .inl hlb⟩, ⟨hc2, .inl hrb⟩, ⟨hc3, .inr rfl⟩, fun _ _ h => h⟩
            have hF : ∀ a v, F a v → w4.cell? a = some v := fun a v h => (hFa a v h).1
            (repeat (first | refine seq_ ?_ | refine sq_normal ?_ | refine rl_nil ?_ | refine cond_t rfl ?_ | refine skip_ ?_ | refine block_ ?_ | (refine region_ (id := 8) ?_; (try (refine rl_move (v := (Value.int _ _ : Value)) rfl rfl ?_; (try (refine rl_move (v := (Value.slice _ _ _ : Value)) rfl rfl ?_; (try (refine rl_move (v := (Value.int _ _ : Value)) rfl rfl ?_; (try ((first | (refine rl_idx1 sl22 rfl rfl rfl rfl ?_ ?_ ?_; omega; omega) | (apply rl_idx1 sl22 rfl rfl rfl; assumption; omega; omega)); (try ((apply rl_load vt29 rfl rfl; assumption); (try (refine rl_len sl29 rfl rfl ?_; (try ((first | (refine rl_lss_t rfl rfl rfl ?_ ?_; omega) | (refine rl_lss_f rfl rfl rfl ?_ ?_; omega))))))))))))))))) | (refine region_ (id := 10) ?_; (try (refine rl_move (v := (Value.slice _ _ _ : Value)) rfl rfl ?_; (try (refine rl_move (v := (Value.int _ _ : Value)) rfl rfl ?_; (try ((first | (refine rl_idx1 sl22 rfl rfl rfl rfl ?_ ?_ ?_; omega; omega) | (apply rl_idx1 sl22 rfl rfl rfl; assumption; omega; omega)); (try ((apply rl_load vt29 rfl rfl; assumption); (try (refine rl_move (v := (Value.int _ _ : Value)) rfl rfl ?_; (try ((first | (refine rl_idx1 sl29 rfl rfl rfl rfl ?_ ?_ ?_; omega; omega) | (apply rl_idx1 sl29 rfl rfl rfl; assumption; omega; omega)); (try ((apply rl_load vt3 rfl rfl; assumption); (try ((first | (refine rl_geq_t rfl rfl rfl ?_ ?_; omega) | (refine rl_geq_f rfl rfl rfl ?_ ?_; omega)); (try (refine rl_move (v := (Value.bool _ : Value)) rfl rfl ?_; (try ((first | refine rl_off rfl ?_ | refine rl_move (v := (Value.slice _ _ _ : Value)) rfl rfl ?_); (try ((first | refine rl_off rfl ?_ | refine rl_move (v := (Value.int _ _ : Value)) rfl rfl ?_); (try ((first | refine rl_off rfl ?_ | (refine rl_idx1 sl22 rfl rfl rfl rfl ?_ ?_ ?_; omega; omega) | (apply rl_idx1 sl22 rfl rfl rfl; assumption; omega; omega)); (try ((first | refine rl_off rfl ?_ | (apply rl_load vt29 rfl rfl; assumption)); (try ((first | refine rl_off rfl ?_ | refine rl_move (v := (Value.int _ _ : Value)) rfl rfl ?_); (try ((first | refine rl_off rfl ?_ | (refine rl_idx1 sl29 rfl rfl rfl rfl ?_ ?_ ?_; omega; omega) | (apply rl_idx1 sl29 rfl rfl rfl; assumption; omega; omega)); (try ((first | refine rl_off rfl ?_ | (apply rl_load vt3 rfl rfl; assumption)); (try ((first | refine rl_off rfl ?_ | refine rl_move (v := (Value.int _ _ : Value)) rfl rfl ?_); (try ((first | refine rl_off rfl ?_ | (refine rl_lss_t rfl rfl rfl ?_ ?_; omega) | (refine rl_lss_f rfl rfl rfl ?_ ?_; omega)); (try (refine rl_pick (v := (Value.bool _ : Value)) rfl rfl rfl ?_)))))))))))))))))))))))))))))))))))))))))
            (refine drawnF_ 24 [(0, false), (1, false), (2, false), (3, false), (4, false), (5, false), (6, false), (7, false), (8, false), (9, false), (10, false), (11, false), (12, false), (13, false), (14, false), (15, false), (16, false), (17, false), (18, false), (19, false), (20, false), (21, false), (22, true), (23, true)] F mo (by kernel_rfl) hF ?_; intro w5 hb5 hs5 hk5; (try (refine rx_move (v := (Value.slice _ _ _ : Value)) rfl rfl rfl ?_; (try (refine rx_move (v := (Value.int _ _ : Value)) rfl rfl rfl ?_; (try ((refine rx_sub rfl rfl rfl rfl ?_ ?_ ?_; omega; omega); (try (refine rx_move (v := (Value.int _ _ : Value)) rfl rfl rfl ?_; (try ((refine rx_sub rfl rfl rfl rfl ?_ ?_ ?_; omega; omega); (try (refine rx_move (v := (Value.slice _ _ _ : Value)) rfl rfl rfl ?_; (try (refine rx_move (v := (Value.int _ _ : Value)) rfl rfl rfl ?_; (try ((refine rx_sub rfl rfl rfl rfl ?_ ?_ ?_; omega; omega); (try (refine rx_move (v := (Value.int _ _ : Value)) rfl rfl rfl ?_; (try ((refine rx_sub rfl rfl rfl rfl ?_ ?_ ?_; omega; omega); (try ((first | (refine rx_idx1 rfl sl22 rfl rfl rfl rfl ?_ ?_ ?_; omega; omega) | (apply rx_idx1 rfl sl22 rfl rfl rfl; assumption; omega; omega)); (try ((apply rx_load rfl vt29 rfl rfl; (intro _ hS; apply hS; assumption)); (try (refine rx_move (v := (Value.int _ _ : Value)) rfl rfl rfl ?_; (try ((refine rx_sub rfl rfl rfl rfl ?_ ?_ ?_; omega; omega); (try (refine rx_move (v := (Value.slice _ _ _ : Value)) rfl rfl rfl ?_; (try (refine rx_move (v := (Value.int _ _ : Value)) rfl rfl rfl ?_; (try ((first | (refine rx_idx1 rfl sl22 rfl rfl rfl rfl ?_ ?_ ?_; omega; omega) | (apply rx_idx1 rfl sl22 rfl rfl rfl; assumption; omega; omega)); (try ((apply rx_load rfl vt29 rfl rfl; (intro _ hS; apply hS; assumption)); (try (refine rx_move (v := (Value.int _ _ : Value)) rfl rfl rfl ?_; (try ((first | (refine rx_idx1 rfl sl29 rfl rfl rfl rfl ?_ ?_ ?_; omega; omega) | (apply rx_idx1 rfl sl29 rfl rfl rfl; assumption; omega; omega)); (try ((apply rx_load rfl vt3 rfl rfl; (intro _ hS; apply hS; assumption)); (try ((refine rx_sub rfl rfl rfl rfl ?_ ?_ ?_; omega; omega))))))))))))))))))))))))))))))))))))))))))))))
            refine rx_eff rfl (fun K2 hK2 => ?_)
            refine rl_bslice1 (v := .int .i64 (k - 1 - u)) sl29 rfl rfl rfl rfl ?_
            intro w6 hB6 hb6 hs6
            refine rl_nil (kq_normal (hK2 _ _ (fun a v h => cell_ext (cell_ext (hF a v h) hb5) hb6) ?_))
            refine rx_eff rfl (fun K3 hK3 => ?_)
            have hR6 := (hR4.ext hb5).ext hb6
            obtain ⟨ru', c, hru', hO6, hx64, hcc⟩ := hR6.at hrowT
            have : ru' = ru := by rw [hru1] at hru'; cases hru'; rfl
            subst this
            have htl : (trow k (row.take j.toNat)).length ≤ row.length := by
              unfold trow; rw [List.length_map]
              exact Nat.le_trans (List.length_filter_le _ _) (by rw [List.length_take]; omega)
            have hcB : c ≠ w1.heap.size ∧ w1.heap.size ≤ c := by
              rcases hcc with ⟨_, _, h1, h2, _⟩ | ⟨_, _, h1⟩ <;> omega
            refine rl_append (news := [Value.int .i64 (k - 1 - u)]) (B := w5.heap.size) (off := 0) sl29 rfl (by decide) hO6 ?_ rfl rfl rfl (fun _ => rfl) rfl ?_ ?_ ?_ ?_
            · intro j u hu; rw [Nat.zero_add]; exact hB6.cell_some hu
            · intro u hu; simp at hu; subst hu; rfl
            · unfold maxLen; omega
            · omega
            intro v7 w7 b7 hO7 hc7 hg7 _
            refine rl_nil (kq_normal (hK3 _ _ (fun a v h => cell_chg (cell_ext (cell_ext (hF a v h) hb5) hb6) hg7 (by have := (hFa a v h).2; omega)) ?_))
            refine rx_nil rfl ?_
            (repeat (first | (first | (refine rl_idx1 sl22 rfl rfl rfl rfl ?_ ?_ ?_; omega; omega) | (apply rl_idx1 sl22 rfl rfl rfl; assumption; omega; omega) | (refine rl_idx1 sl29 rfl rfl rfl rfl ?_ ?_ ?_; omega; omega) | (apply rl_idx1 sl29 rfl rfl rfl; assumption; omega; omega) | (refine rl_idx1 sl33 rfl rfl rfl rfl ?_ ?_ ?_; omega; omega) | (apply rl_idx1 sl33 rfl rfl rfl; assumption; omega; omega) | (refine rl_idx1 sl34 rfl rfl rfl rfl ?_ ?_ ?_; omega; omega) | (apply rl_idx1 sl34 rfl rfl rfl; assumption; omega; omega))))
            obtain ⟨cs, hT1, hT2, hT3⟩ := (hR6.own.chg hg7 (Ne.symm hcB.1)).store (i := (k - 1 - i).toNat) (by rw [turnTo_len]; omega)
            have hv7 : v7.oneCell' = true := by obtain ⟨a, c, rfl, _⟩ := hO7.shape; rfl
            refine rl_store (v := v7) vt29 rfl rfl rfl hv7 hT1 ?_ ?_
            · omega
            intro w8 hB8 hc8 hs8
            (repeat (first | refine sq_normal ?_ | refine rl_nil ?_ | refine inBlock_normal ?_ | refine np_normal ?_ | (refine region_ (id := 9) ?_; (try (refine rl_move (v := (Value.int _ _ : Value)) rfl rfl ?_; (try ((refine rl_add rfl rfl rfl ?_ ?_ ?_; omega; omega); (try (refine rl_assign (v := (Value.int _ _ : Value)) rfl rfl ?_)))))))))
            rw [Nat.zero_add] at hB8
            have hs7 := hg7.size
            have hu64 : I64 (k - 1 - u) := ⟨by omega, by omega⟩
            have hR8 := hR6.upd (xs' := trow k (row.take j.toNat) ++ [k - 1 - u]) (c := c) (by omega) hrowT (hcc.imp (fun h => h) (fun h => by omega)) hg7 (by simpa using hO7) hc7 (fun x hx => by
              rcases List.mem_append.1 hx with h | h
              · exact hx64 x h
              · rw [List.mem_singleton.1 h]; exact hu64) (by simp) (hT3 _ _ hB8) hc8
            rw [← hstep] at hR8
            refine kq_normal (hL1 (row.length - (j + 1)).toNat _ _ (by omega) (by (repeat (first | with_reducible exact Agree.ov | with_reducible exact Agree.refl _ _ | refine Agree.upd rfl ?_ | refine Agree.ovs rfl ?_))) ⟨j + 1, _, _, rfl, by omega, by omega, rfl, hR8, ?_, by omega⟩)
            exact below_chg (below_chg (below_ext (below_ext hb4 hb5 (by omega)) hb6 (by omega)) hg7 hcB.2 (by omega)) hc8 (Nat.le_refl _) (by omega)
          · rw [show inR k u = false by unfold inR; simp [huk]] at hstep
            simp only [Bool.false_eq_true, if_false] at hstep
            rw [← hstep] at hR4
            (repeat (first | refine seq_ ?_ | refine sq_normal ?_ | refine rl_nil ?_ | refine cond_t rfl ?_ | refine cond_f rfl ?_ | refine skip_ ?_ | refine block_ ?_ | refine inBlock_normal ?_ | (refine region_ (id := 8) ?_; (try (refine rl_move (v := (Value.int _ _ : Value)) rfl rfl ?_; (try (refine rl_move (v := (Value.slice _ _ _ : Value)) rfl rfl ?_; (try (refine rl_move (v := (Value.int _ _ : Value)) rfl rfl ?_; (try ((first | (refine rl_idx1 sl22 rfl rfl rfl rfl ?_ ?_ ?_; omega; omega) | (apply rl_idx1 sl22 rfl rfl rfl; assumption; omega; omega)); (try ((apply rl_load vt29 rfl rfl; assumption); (try (refine rl_len sl29 rfl rfl ?_; (try ((first | (refine rl_lss_t rfl rfl rfl ?_ ?_; omega) | (refine rl_lss_f rfl rfl rfl ?_ ?_; omega))))))))))))))))) | (refine region_ (id := 9) ?_; (try (refine rl_move (v := (Value.int _ _ : Value)) rfl rfl ?_; (try ((refine rl_add rfl rfl rfl ?_ ?_ ?_; omega; omega); (try (refine rl_assign (v := (Value.int _ _ : Value)) rfl rfl ?_))))))) | (refine region_ (id := 10) ?_; (try (refine rl_move (v := (Value.slice _ _ _ : Value)) rfl rfl ?_; (try (refine rl_move (v := (Value.int _ _ : Value)) rfl rfl ?_; (try ((first | (refine rl_idx1 sl22 rfl rfl rfl rfl ?_ ?_ ?_; omega; omega) | (apply rl_idx1 sl22 rfl rfl rfl; assumption; omega; omega)); (try ((apply rl_load vt29 rfl rfl; assumption); (try (refine rl_move (v := (Value.int _ _ : Value)) rfl rfl ?_; (try ((first | (refine rl_idx1 sl29 rfl rfl rfl rfl ?_ ?_ ?_; omega; omega) | (apply rl_idx1 sl29 rfl rfl rfl; assumption; omega; omega)); (try ((apply rl_load vt3 rfl rfl; assumption); (try ((first | (refine rl_geq_t rfl rfl rfl ?_ ?_; omega) | (refine rl_geq_f rfl rfl rfl ?_ ?_; omega)); (try (refine rl_move (v := (Value.bool _ : Value)) rfl rfl ?_; (try ((first | refine rl_off rfl ?_ | refine rl_move (v := (Value.slice _ _ _ : Value)) rfl rfl ?_); (try ((first | refine rl_off rfl ?_ | refine rl_move (v := (Value.int _ _ : Value)) rfl rfl ?_); (try ((first | refine rl_off rfl ?_ | (refine rl_idx1 sl22 rfl rfl rfl rfl ?_ ?_ ?_; omega; omega) | (apply rl_idx1 sl22 rfl rfl rfl; assumption; omega; omega)); (try ((first | refine rl_off rfl ?_ | (apply rl_load vt29 rfl rfl; assumption)); (try ((first | refine rl_off rfl ?_ | refine rl_move (v := (Value.int _ _ : Value)) rfl rfl ?_); (try ((first | refine rl_off rfl ?_ | (refine rl_idx1 sl29 rfl rfl rfl rfl ?_ ?_ ?_; omega; omega) | (apply rl_idx1 sl29 rfl rfl rfl; assumption; omega; omega)); (try ((first | refine rl_off rfl ?_ | (apply rl_load vt3 rfl rfl; assumption)); (try ((first | refine rl_off rfl ?_ | refine rl_move (v := (Value.int _ _ : Value)) rfl rfl ?_); (try ((first | refine rl_off rfl ?_ | (refine rl_lss_t rfl rfl rfl ?_ ?_; omega) | (refine rl_lss_f rfl rfl rfl ?_ ?_; omega)); (try (refine rl_pick (v := (Value.bool _ : Value)) rfl rfl rfl ?_)))))))))))))))))))))))))))))))))))))))))
            exact kq_normal (hL1 (row.length - (j + 1)).toNat _ _ (by omega) (by (repeat (first | with_reducible exact Agree.ov | with_reducible exact Agree.refl _ _ | refine Agree.upd rfl ?_ | refine Agree.ovs rfl ?_))) ⟨j + 1, us, bs, rfl, by omega, by omega, rfl, hR4, hb4, hs4⟩)
        · rw [show inR k u = false by unfold inR; simp [hu0]] at hstep
          simp only [Bool.false_eq_true, if_false] at hstep
          rw [← hstep] at hR4
          (repeat (first | refine seq_ ?_ | refine sq_normal ?_ | refine rl_nil ?_ | refine cond_t rfl ?_ | refine cond_f rfl ?_ | refine skip_ ?_ | refine block_ ?_ | refine inBlock_normal ?_ | (refine region_ (id := 8) ?_; (try (refine rl_move (v := (Value.int _ _ : Value)) rfl rfl ?_; (try (refine rl_move (v := (Value.slice _ _ _ : Value)) rfl rfl ?_; (try (refine rl_move (v := (Value.int _ _ : Value)) rfl rfl ?_; (try ((first | (refine rl_idx1 sl22 rfl rfl rfl rfl ?_ ?_ ?_; omega; omega) | (apply rl_idx1 sl22 rfl rfl rfl; assumption; omega; omega)); (try ((apply rl_load vt29 rfl rfl; assumption); (try (refine rl_len sl29 rfl rfl ?_; (try ((first | (refine rl_lss_t rfl rfl rfl ?_ ?_; omega) | (refine rl_lss_f rfl rfl rfl ?_ ?_; omega))))))))))))))))) | (refine region_ (id := 9) ?_; (try (refine rl_move (v := (Value.int _ _ : Value)) rfl rfl ?_; (try ((refine rl_add rfl rfl rfl ?_ ?_ ?_; omega; omega); (try (refine rl_assign (v := (Value.int _ _ : Value)) rfl rfl ?_))))))) | (refine region_ (id := 10) ?_; (try (refine rl_move (v := (Value.slice _ _ _ : Value)) rfl rfl ?_; (try (refine rl_move (v := (Value.int _ _ : Value)) rfl rfl ?_; (try ((first | (refine rl_idx1 sl22 rfl rfl rfl rfl ?_ ?_ ?_; omega; omega) | (apply rl_idx1 sl22 rfl rfl rfl; assumption; omega; omega)); (try ((apply rl_load vt29 rfl rfl; assumption); (try (refine rl_move (v := (Value.int _ _ : Value)) rfl rfl ?_; (try ((first | (refine rl_idx1 sl29 rfl rfl rfl rfl ?_ ?_ ?_; omega; omega) | (apply rl_idx1 sl29 rfl rfl rfl; assumption; omega; omega)); (try ((apply rl_load vt3 rfl rfl; assumption); (try ((first | (refine rl_geq_t rfl rfl rfl ?_ ?_; omega) | (refine rl_geq_f rfl rfl rfl ?_ ?_; omega)); (try (refine rl_move (v := (Value.bool _ : Value)) rfl rfl ?_; (try ((first | refine rl_off rfl ?_ | refine rl_move (v := (Value.slice _ _ _ : Value)) rfl rfl ?_); (try ((first | refine rl_off rfl ?_ | refine rl_move (v := (Value.int _ _ : Value)) rfl rfl ?_); (try ((first | refine rl_off rfl ?_ | (refine rl_idx1 sl22 rfl rfl rfl rfl ?_ ?_ ?_; omega; omega) | (apply rl_idx1 sl22 rfl rfl rfl; assumption; omega; omega)); (try ((first | refine rl_off rfl ?_ | (apply rl_load vt29 rfl rfl; assumption)); (try ((first | refine rl_off rfl ?_ | refine rl_move (v := (Value.int _ _ : Value)) rfl rfl ?_); (try ((first | refine rl_off rfl ?_ | (refine rl_idx1 sl29 rfl rfl rfl rfl ?_ ?_ ?_; omega; omega) | (apply rl_idx1 sl29 rfl rfl rfl; assumption; omega; omega)); (try ((first | refine rl_off rfl ?_ | (apply rl_load vt3 rfl rfl; assumption)); (try ((first | refine rl_off rfl ?_ | refine rl_move (v := (Value.int _ _ : Value)) rfl rfl ?_); (try ((first | refine rl_off rfl ?_ | (refine rl_lss_t rfl rfl rfl ?_ ?_; omega) | (refine rl_lss_f rfl rfl rfl ?_ ?_; omega)); (try (refine rl_pick (v := (Value.bool _ : Value)) rfl rfl rfl ?_)))))))))))))))))))))))))))))))))))))))))
          exact kq_normal (hL1 (row.length - (j + 1)).toNat _ _ (by omega) (by (repeat (first | with_reducible exact Agree.ov | with_reducible exact Agree.refl _ _ | refine Agree.upd rfl ?_ | refine Agree.ovs rfl ?_))) ⟨j + 1, us, bs, rfl, by omega, by omega, rfl, hR4, hb4, hs4⟩)
      · have hjl' : j.toNat = row.length := by omega
        rw [hjl', turnTo_next hrow, ← show (i + 1).toNat = i.toNat + 1 by omega] at hR4
        (repeat (first | refine seq_ ?_ | refine sq_normal ?_ | refine sq_exit ?_ | refine rl_nil ?_ | refine cond_f rfl ?_ | refine exit_ ?_ | refine inBlock_normal ?_ | refine inBlock_exit ?_ | refine kq_exit ?_ | (refine region_ (id := 6) ?_; (try (refine rl_move (v := (Value.int _ _ : Value)) rfl rfl ?_; (try ((refine rl_add rfl rfl rfl ?_ ?_ ?_; omega; omega); (try (refine rl_assign (v := (Value.int _ _ : Value)) rfl rfl ?_))))))) | (refine region_ (id := 8) ?_; (try (refine rl_move (v := (Value.int _ _ : Value)) rfl rfl ?_; (try (refine rl_move (v := (Value.slice _ _ _ : Value)) rfl rfl ?_; (try (refine rl_move (v := (Value.int _ _ : Value)) rfl rfl ?_; (try ((first | (refine rl_idx1 sl22 rfl rfl rfl rfl ?_ ?_ ?_; omega; omega) | (apply rl_idx1 sl22 rfl rfl rfl; assumption; omega; omega)); (try ((apply rl_load vt29 rfl rfl; assumption); (try (refine rl_len sl29 rfl rfl ?_; (try ((first | (refine rl_lss_t rfl rfl rfl ?_ ?_; omega) | (refine rl_lss_f rfl rfl rfl ?_ ?_; omega)))))))))))))))))))
        exact kq_normal (hL0 (k - (i + 1)).toNat _ _ (by omega) (by (repeat (first | with_reducible exact Agree.ov | with_reducible exact Agree.refl _ _ | refine Agree.upd rfl ?_ | refine Agree.ovs rfl ?_))) ⟨i + 1, us, bs, rfl, by omega, by omega, rfl, hR4, hb4, hs4⟩)
    · have hend : ∀ i', i.toNat ≤ i' → i' < k.toNat → L[i']? = none := fun i' h1 h2 => List.getElem?_eq_none (by omega)
      have hturn := rB_turn (n := k) hend
      have hrT := hR3.rows
      have hTl := turnTo_rl (n := k) hLl i.toNat 0
      by_cases hi : i < k
      · (repeat (first | refine seq_ ?_ | refine sq_normal ?_ | refine sq_exit ?_ | refine rl_nil ?_ | refine cond_f rfl ?_ | refine exit_ ?_ | refine inBlock_exit ?_ | refine kq_exit ?_ | (refine region_ (id := 5) ?_; (try (refine rl_move (v := (Value.int _ _ : Value)) rfl rfl ?_; (try (refine rl_move (v := (Value.int _ _ : Value)) rfl rfl ?_; (try ((first | (refine rl_lss_t rfl rfl rfl ?_ ?_; omega) | (refine rl_lss_f rfl rfl rfl ?_ ?_; omega)); (try (refine rl_move (v := (Value.bool _ : Value)) rfl rfl ?_; (try ((first | refine rl_off rfl ?_ | refine rl_move (v := (Value.int _ _ : Value)) rfl rfl ?_); (try ((first | refine rl_off rfl ?_ | refine rl_move (v := (Value.slice _ _ _ : Value)) rfl rfl ?_); (try ((first | refine rl_off rfl ?_ | refine rl_len sl22 rfl rfl ?_); (try ((first | refine rl_off rfl ?_ | (refine rl_lss_t rfl rfl rfl ?_ ?_; omega) | (refine rl_lss_f rfl rfl rfl ?_ ?_; omega)); (try (refine rl_pick (v := (Value.bool _ : Value)) rfl rfl rfl ?_)))))))))))))))))))))
        exact kq_normal ⟨by (repeat (first | with_reducible exact Agree.ov | with_reducible exact Agree.refl _ _ | refine Agree.upd rfl ?_ | refine Agree.ovs rfl ?_)), _, hturn, hrT, hTl, hb3⟩
      · (repeat (first | refine seq_ ?_ | refine sq_normal ?_ | refine sq_exit ?_ | refine rl_nil ?_ | refine cond_f rfl ?_ | refine exit_ ?_ | refine inBlock_exit ?_ | refine kq_exit ?_ | (refine region_ (id := 5) ?_; (try (refine rl_move (v := (Value.int _ _ : Value)) rfl rfl ?_; (try (refine rl_move (v := (Value.int _ _ : Value)) rfl rfl ?_; (try ((first | (refine rl_lss_t rfl rfl rfl ?_ ?_; omega) | (refine rl_lss_f rfl rfl rfl ?_ ?_; omega)); (try (refine rl_move (v := (Value.bool _ : Value)) rfl rfl ?_; (try ((first | refine rl_off rfl ?_ | refine rl_move (v := (Value.int _ _ : Value)) rfl rfl ?_); (try ((first | refine rl_off rfl ?_ | refine rl_move (v := (Value.slice _ _ _ : Value)) rfl rfl ?_); (try ((first | refine rl_off rfl ?_ | refine rl_len sl22 rfl rfl ?_); (try ((first | refine rl_off rfl ?_ | (refine rl_lss_t rfl rfl rfl ?_ ?_; omega) | (refine rl_lss_f rfl rfl rfl ?_ ?_; omega)); (try (refine rl_pick (v := (Value.bool _ : Value)) rfl rfl rfl ?_)))))))))))))))))))))
        exact kq_normal ⟨by (repeat (first | with_reducible exact Agree.ov | with_reducible exact Agree.refl _ _ | refine Agree.upd rfl ?_ | refine Agree.ovs rfl ?_)), _, hturn, hrT, hTl, hb3⟩
  clear hR2 hB2 hb2 hs2
  rintro τ w3 ⟨T, hturn, hrT, hTl, hb3⟩
  have a1 := hb1.size
  have hw3 : Below w.heap.size w w3 := hb1.trans (hb3.mono a1)
  have a3 := hb3.size
  (repeat (first | refine seq_ ?_ | (refine region_ (id := 12) ?_; (try (refine rl_move (v := (Value.int _ _ : Value)) rfl rfl ?_; (try (refine rl_move (v := (Value.slice _ _ _ : Value)) rfl rfl ?_)))))))
  refine rl_callf fn12 (groups_ok k _ L w3 (by omega) (by omega) (hr1.mono (Keeps.of hb3)) hLl) rfl rfl ?_
  rintro v4 w4 ⟨hb4, B4, us4, bs4, b4, hB4, hR4⟩
  have hg4 := hR4.rows
  obtain ⟨xa, xc, rfl, _, _, _⟩ := hR4.own.shape
  have a4 := hb4.size
  (repeat (first | refine rl_move (v := (Value.int _ _ : Value)) rfl rfl ?_))
  refine rl_callf fn15 (of_ok k _ L w4 (by omega) (by omega) hg4) rfl rfl ?_
  rintro v5 w5 ⟨hb5, p, hp, hpl, hP⟩
  have a5 := hb5.size
  have hp' := hp
  obtain ⟨pa, pc, pb, po, rfl, hplc, hpc, hpa, hpcell⟩ := hp'.open
  (repeat (first | refine seq_ ?_ | refine sq_normal ?_ | refine rl_nil ?_ | (refine region_ (id := 13) ?_; (try (refine rl_move (v := (Value.int _ _ : Value)) rfl rfl ?_; (try (refine rl_move (v := (Value.slice _ _ _ : Value)) rfl rfl ?_))))) | refine rl_assign (v := (Value.slice _ _ _ : Value)) rfl rfl ?_))
  have hk35 : Keeps w3 w5 := (Keeps.of hb4).trans (Keeps.of hb5)
  refine rl_callf fn12 (groups_ok k _ T w5 (by omega) (by omega) (hrT.mono hk35) hTl) rfl rfl ?_
  rintro v6 w6 ⟨hb6, B6, us6, bs6, b6, hB6, hR6⟩
  have hg6 := hR6.rows
  obtain ⟨ya, yc, rfl, _, _, _⟩ := hR6.own.shape
  have a6 := hb6.size
  (repeat (first | refine rl_move (v := (Value.int _ _ : Value)) rfl rfl ?_))
  refine rl_callf fn15 (of_ok k _ T w6 (by omega) (by omega) hg6) rfl rfl ?_
  rintro v7 w7 ⟨hb7, q, hq, hql, hP'⟩
  have a7 := hb7.size
  obtain ⟨qa, qc, qb, qo, rfl, hqlc, hqc, hqa, hqcell⟩ := hq.open
  have hk57 : Keeps w5 w7 := (Keeps.of hb6).trans (Keeps.of hb7)
  have hw7 : Below w.heap.size w w7 := below_ext (below_ext (below_ext (below_ext hw3 hb4 (by omega)) hb5 (by omega)) hb6 (by omega)) hb7 (by omega)
  (repeat (first | refine seq_ ?_ | refine sq_normal ?_ | refine rl_nil ?_ | refine block_ ?_ | (refine region_ (id := 14) ?_; (try (refine rl_assign (v := (Value.int _ _ : Value)) rfl rfl ?_))) | refine rl_assign (v := (Value.slice _ _ _ : Value)) rfl rfl ?_))
  refine loop1 [(4, 5), (12, 14), (94, 129)] 12 (fun m v wr => ∃ (i : Int), v = .int .i64 i ∧ 0 ≤ i ∧ i ≤ k ∧ m = (k - i).toNat ∧ Below w7.heap.size w7 wr) _
    ⟨0, rfl, by omega, by omega, rfl, Below.refl _ _⟩ ?_
  rintro m τ1 v w8 ⟨i, rfl, hi0, hik, rfl, hb8⟩ K0 hL0
  by_cases hi : i < k
  · (repeat (first | refine seq_ ?_ | refine sq_normal ?_ | refine rl_nil ?_ | refine cond_t rfl ?_ | refine skip_ ?_ | refine block_ ?_ | (refine region_ (id := 15) ?_; (try (refine rl_move (v := (Value.int _ _ : Value)) rfl rfl ?_; (try (refine rl_move (v := (Value.int _ _ : Value)) rfl rfl ?_; (try ((first | (refine rl_lss_t rfl rfl rfl ?_ ?_; omega) | (refine rl_lss_f rfl rfl rfl ?_ ?_; omega))))))))) | (refine region_ (id := 17) ?_; (try (refine rl_assign (v := (Value.int _ _ : Value)) rfl rfl ?_)))))
    refine loop1 [(4, 5), (13, 14), (99, 129)] 13 (fun m v wr => ∃ (j : Int), v = .int .i64 j ∧ 0 ≤ j ∧ j ≤ k ∧ m = (k - j).toNat ∧ Below w7.heap.size w7 wr) _
      ⟨0, rfl, by omega, by omega, rfl, hb8⟩ ?_
    clear hb8
    rintro m τ2 v w9 ⟨j, rfl, hj0, hjk, rfl, hb9⟩ K1 hL1
    by_cases hj : j < k
    · have hpa' := hpa (by omega)
      have hqa' := hqa (by omega)
      subst hpa' hqa'
      have hi' : 0 ≤ k - 1 - i := by omega
      have hj' : 0 ≤ k - 1 - j := by omega
      obtain ⟨e1, he1⟩ := hP.get hpl hi0 hi
      obtain ⟨e2, he2⟩ := hP.get hpl hj0 hj
      obtain ⟨e3, he3⟩ := hP'.get (x := k - 1 - i) hql (by omega) (by omega)
      obtain ⟨e4, he4⟩ := hP'.get (x := k - 1 - j) hql (by omega) (by omega)
      have s1 := hP.same hi0 hi hj0 hj he1 he2
      have s2 := hP'.same (x := k - 1 - i) (y := k - 1 - j) (by omega) (by omega) (by omega) (by omega) he3 he4
      rw [hturn, hturn, ← s1] at s2
      have kp : Keeps w5 w9 := hk57.trans (Keeps.of hb9)
      have c1 : w9.cell? ⟨pb, po + i.toNat, none⟩ = some (.int .i64 e1) := kp _ _ (hpcell _ _ he1)
      have c2 : w9.cell? ⟨pb, po + j.toNat, none⟩ = some (.int .i64 e2) := kp _ _ (hpcell _ _ he2)
      have c3 : w9.cell? ⟨qb, qo + (k - 1 - i).toNat, none⟩ = some (.int .i64 e3) := Keeps.of hb9 _ _ (hqcell _ _ he3)
      have c4 : w9.cell? ⟨qb, qo + (k - 1 - j).toNat, none⟩ = some (.int .i64 e4) := Keeps.of hb9 _ _ (hqcell _ _ he4)
      clear hturn hP hP' hrT hTl hg4 hg6 hR4 hR6 s1 hpcell hqcell hpa hqa
      by_cases h12 : e1 = e2
      · have h34 : e3 = e4 := s2.2 h12
        clear s2
        (repeat (first | refine seq_ ?_ | refine sq_normal ?_ | refine rl_nil ?_ | refine cond_t rfl ?_ | refine skip_ ?_ | refine block_ ?_ | (refine region_ (id := 18) ?_; (try (refine rl_move (v := (Value.int _ _ : Value)) rfl rfl ?_; (try (refine rl_move (v := (Value.int _ _ : Value)) rfl rfl ?_; (try ((first | (refine rl_lss_t rfl rfl rfl ?_ ?_; omega) | (refine rl_lss_f rfl rfl rfl ?_ ?_; omega)))))))))))
        (refine drawn_ 24 [(0, false), (1, false), (2, false), (3, false), (4, false), (5, false), (6, false), (7, false), (8, false), (9, false), (10, false), (11, false), (12, false), (13, false), (14, false), (15, false), (16, false), (17, false), (18, false), (19, false), (20, false), (21, false), (22, false), (23, false)] mo (by kernel_rfl) ?_; intro w10 hb10 hs10 hk10; (try (refine rx_move (v := (Value.slice _ _ _ : Value)) rfl rfl rfl ?_; (try (refine rx_move (v := (Value.int _ _ : Value)) rfl rfl rfl ?_; (try ((first | (refine rx_idx1 rfl sl29 rfl rfl rfl rfl ?_ ?_ ?_; omega; omega) | (apply rx_idx1 rfl sl29 rfl rfl rfl; assumption; omega; omega)); (try ((apply rx_load rfl vt3 rfl rfl; (intro _ hS; apply hS; assumption)); (try (refine rx_move (v := (Value.slice _ _ _ : Value)) rfl rfl rfl ?_; (try (refine rx_move (v := (Value.int _ _ : Value)) rfl rfl rfl ?_; (try ((first | (refine rx_idx1 rfl sl29 rfl rfl rfl rfl ?_ ?_ ?_; omega; omega) | (apply rx_idx1 rfl sl29 rfl rfl rfl; assumption; omega; omega)); (try ((apply rx_load rfl vt3 rfl rfl; (intro _ hS; apply hS; assumption)); (try ((first | (refine rx_eql_t rfl rfl rfl rfl ?_ ?_; omega) | (refine rx_eql_f rfl rfl rfl rfl ?_ ?_; omega)); (try (refine rx_move (v := (Value.slice _ _ _ : Value)) rfl rfl rfl ?_; (try (refine rx_move (v := (Value.int _ _ : Value)) rfl rfl rfl ?_; (try ((refine rx_sub rfl rfl rfl rfl ?_ ?_ ?_; omega; omega); (try (refine rx_move (v := (Value.int _ _ : Value)) rfl rfl rfl ?_; (try ((refine rx_sub rfl rfl rfl rfl ?_ ?_ ?_; omega; omega); (try ((first | (refine rx_idx1 rfl sl29 rfl rfl rfl rfl ?_ ?_ ?_; omega; omega) | (apply rx_idx1 rfl sl29 rfl rfl rfl; assumption; omega; omega)); (try ((apply rx_load rfl vt3 rfl rfl; (intro _ hS; apply hS; assumption)); (try (refine rx_move (v := (Value.slice _ _ _ : Value)) rfl rfl rfl ?_; (try (refine rx_move (v := (Value.int _ _ : Value)) rfl rfl rfl ?_; (try ((refine rx_sub rfl rfl rfl rfl ?_ ?_ ?_; omega; omega); (try (refine rx_move (v := (Value.int _ _ : Value)) rfl rfl rfl ?_; (try ((refine rx_sub rfl rfl rfl rfl ?_ ?_ ?_; omega; omega); (try ((first | (refine rx_idx1 rfl sl29 rfl rfl rfl rfl ?_ ?_ ?_; omega; omega) | (apply rx_idx1 rfl sl29 rfl rfl rfl; assumption; omega; omega)); (try ((apply rx_load rfl vt3 rfl rfl; (intro _ hS; apply hS; assumption)); (try ((first | (refine rx_eql_t rfl rfl rfl rfl ?_ ?_; omega) | (refine rx_eql_f rfl rfl rfl rfl ?_ ?_; omega)))))))))))))))))))))))))))))))))))))))))))))))))))
        refine rx_nil rfl ?_
        refine rl_neqb (a := true) (b := true) Try.underlying4 rfl rfl rfl ?_
        (repeat (first | refine sq_normal ?_ | refine rl_nil ?_ | refine cond_f rfl ?_ | refine skip_ ?_ | refine inBlock_normal ?_ | refine np_normal ?_ | (refine region_ (id := 19) ?_; (try (refine rl_move (v := (Value.int _ _ : Value)) rfl rfl ?_; (try ((refine rl_add rfl rfl rfl ?_ ?_ ?_; omega; omega); (try (refine rl_assign (v := (Value.int _ _ : Value)) rfl rfl ?_)))))))))
        exact kq_normal (hL1 (k - (j + 1)).toNat _ _ (by omega) (by (repeat (first | with_reducible exact Agree.ov | with_reducible exact Agree.refl _ _ | refine Agree.upd rfl ?_ | refine Agree.ovs rfl ?_))) ⟨j + 1, rfl, by omega, by omega, rfl, below_ext hb9 hb10 hb9.size⟩)
      · have h34 : e3 ≠ e4 := fun h => h12 (s2.1 h)
        clear s2
        (repeat (first | refine seq_ ?_ | refine sq_normal ?_ | refine rl_nil ?_ | refine cond_t rfl ?_ | refine skip_ ?_ | refine block_ ?_ | (refine region_ (id := 18) ?_; (try (refine rl_move (v := (Value.int _ _ : Value)) rfl rfl ?_; (try (refine rl_move (v := (Value.int _ _ : Value)) rfl rfl ?_; (try ((first | (refine rl_lss_t rfl rfl rfl ?_ ?_; omega) | (refine rl_lss_f rfl rfl rfl ?_ ?_; omega)))))))))))
        (refine drawn_ 24 [(0, false), (1, false), (2, false), (3, false), (4, false), (5, false), (6, false), (7, false), (8, false), (9, false), (10, false), (11, false), (12, false), (13, false), (14, false), (15, false), (16, false), (17, false), (18, false), (19, false), (20, false), (21, false), (22, false), (23, false)] mo (by kernel_rfl) ?_; intro w10 hb10 hs10 hk10; (try (refine rx_move (v := (Value.slice _ _ _ : Value)) rfl rfl rfl ?_; (try (refine rx_move (v := (Value.int _ _ : Value)) rfl rfl rfl ?_; (try ((first | (refine rx_idx1 rfl sl29 rfl rfl rfl rfl ?_ ?_ ?_; omega; omega) | (apply rx_idx1 rfl sl29 rfl rfl rfl; assumption; omega; omega)); (try ((apply rx_load rfl vt3 rfl rfl; (intro _ hS; apply hS; assumption)); (try (refine rx_move (v := (Value.slice _ _ _ : Value)) rfl rfl rfl ?_; (try (refine rx_move (v := (Value.int _ _ : Value)) rfl rfl rfl ?_; (try ((first | (refine rx_idx1 rfl sl29 rfl rfl rfl rfl ?_ ?_ ?_; omega; omega) | (apply rx_idx1 rfl sl29 rfl rfl rfl; assumption; omega; omega)); (try ((apply rx_load rfl vt3 rfl rfl; (intro _ hS; apply hS; assumption)); (try ((first | (refine rx_eql_t rfl rfl rfl rfl ?_ ?_; omega) | (refine rx_eql_f rfl rfl rfl rfl ?_ ?_; omega)); (try (refine rx_move (v := (Value.slice _ _ _ : Value)) rfl rfl rfl ?_; (try (refine rx_move (v := (Value.int _ _ : Value)) rfl rfl rfl ?_; (try ((refine rx_sub rfl rfl rfl rfl ?_ ?_ ?_; omega; omega); (try (refine rx_move (v := (Value.int _ _ : Value)) rfl rfl rfl ?_; (try ((refine rx_sub rfl rfl rfl rfl ?_ ?_ ?_; omega; omega); (try ((first | (refine rx_idx1 rfl sl29 rfl rfl rfl rfl ?_ ?_ ?_; omega; omega) | (apply rx_idx1 rfl sl29 rfl rfl rfl; assumption; omega; omega)); (try ((apply rx_load rfl vt3 rfl rfl; (intro _ hS; apply hS; assumption)); (try (refine rx_move (v := (Value.slice _ _ _ : Value)) rfl rfl rfl ?_; (try (refine rx_move (v := (Value.int _ _ : Value)) rfl rfl rfl ?_; (try ((refine rx_sub rfl rfl rfl rfl ?_ ?_ ?_; omega; omega); (try (refine rx_move (v := (Value.int _ _ : Value)) rfl rfl rfl ?_; (try ((refine rx_sub rfl rfl rfl rfl ?_ ?_ ?_; omega; omega); (try ((first | (refine rx_idx1 rfl sl29 rfl rfl rfl rfl ?_ ?_ ?_; omega; omega) | (apply rx_idx1 rfl sl29 rfl rfl rfl; assumption; omega; omega)); (try ((apply rx_load rfl vt3 rfl rfl; (intro _ hS; apply hS; assumption)); (try ((first | (refine rx_eql_t rfl rfl rfl rfl ?_ ?_; omega) | (refine rx_eql_f rfl rfl rfl rfl ?_ ?_; omega)))))))))))))))))))))))))))))))))))))))))))))))))))
        refine rx_nil rfl ?_
        refine rl_neqb (a := false) (b := false) Try.underlying4 rfl rfl rfl ?_
        (repeat (first | refine sq_normal ?_ | refine rl_nil ?_ | refine cond_f rfl ?_ | refine skip_ ?_ | refine inBlock_normal ?_ | refine np_normal ?_ | (refine region_ (id := 19) ?_; (try (refine rl_move (v := (Value.int _ _ : Value)) rfl rfl ?_; (try ((refine rl_add rfl rfl rfl ?_ ?_ ?_; omega; omega); (try (refine rl_assign (v := (Value.int _ _ : Value)) rfl rfl ?_)))))))))
        exact kq_normal (hL1 (k - (j + 1)).toNat _ _ (by omega) (by (repeat (first | with_reducible exact Agree.ov | with_reducible exact Agree.refl _ _ | refine Agree.upd rfl ?_ | refine Agree.ovs rfl ?_))) ⟨j + 1, rfl, by omega, by omega, rfl, below_ext hb9 hb10 hb9.size⟩)
    · (repeat (first | refine seq_ ?_ | refine sq_normal ?_ | refine sq_exit ?_ | refine rl_nil ?_ | refine cond_f rfl ?_ | refine exit_ ?_ | refine inBlock_normal ?_ | refine inBlock_exit ?_ | refine kq_exit ?_ | (refine region_ (id := 16) ?_; (try (refine rl_move (v := (Value.int _ _ : Value)) rfl rfl ?_; (try ((refine rl_add rfl rfl rfl ?_ ?_ ?_; omega; omega); (try (refine rl_assign (v := (Value.int _ _ : Value)) rfl rfl ?_))))))) | (refine region_ (id := 18) ?_; (try (refine rl_move (v := (Value.int _ _ : Value)) rfl rfl ?_; (try (refine rl_move (v := (Value.int _ _ : Value)) rfl rfl ?_; (try ((first | (refine rl_lss_t rfl rfl rfl ?_ ?_; omega) | (refine rl_lss_f rfl rfl rfl ?_ ?_; omega)))))))))))
      exact kq_normal (hL0 (k - (i + 1)).toNat _ _ (by omega) (by (repeat (first | with_reducible exact Agree.ov | with_reducible exact Agree.refl _ _ | refine Agree.upd rfl ?_ | refine Agree.ovs rfl ?_))) ⟨i + 1, rfl, by omega, by omega, rfl, hb9⟩)
  · (repeat (first | refine seq_ ?_ | refine sq_normal ?_ | refine sq_exit ?_ | refine rl_nil ?_ | refine cond_f rfl ?_ | refine exit_ ?_ | refine inBlock_exit ?_ | refine kq_exit ?_ | (refine region_ (id := 15) ?_; (try (refine rl_move (v := (Value.int _ _ : Value)) rfl rfl ?_; (try (refine rl_move (v := (Value.int _ _ : Value)) rfl rfl ?_; (try ((first | (refine rl_lss_t rfl rfl rfl ?_ ?_; omega) | (refine rl_lss_f rfl rfl rfl ?_ ?_; omega))))))))) | (refine region_ (id := 22) ?_)))
    refine rl_callf fn14 (lives_ok w8) rfl rfl ?_
    rintro _ w9 ⟨rfl, hb9⟩
    (repeat (first | refine sq_normal ?_ | refine rl_nil ?_ | refine ret_ ?_ | refine rl_assign (v := (Value.bool _ : Value)) rfl rfl ?_))
    have a8 := hb8.size
    exact bp_ret1 (v := Value.bool _) rfl rfl ⟨rfl, below_ext (hw7.trans (hb8.mono (by omega))) hb9 (by omega)⟩
end Go.Proofs.Ytgiifodmbckbmaa.Scc
