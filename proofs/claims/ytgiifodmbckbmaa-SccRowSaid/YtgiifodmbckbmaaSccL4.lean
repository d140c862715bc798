/- The walk of fuguelaw07.SccRow: it returns true, and nothing that was there has turned. -/
import Derived.Test.YtgiifodmbckbmaaSccP0
import Derived.Test.YtgiifodmbckbmaaSccPL
set_option linter.unusedVariables false
set_option linter.unusedSimpArgs false
namespace Go.Proofs.Ytgiifodmbckbmaa.Scc
open Go Go.Eng Go.RowKit Go.Scc
attribute [local irreducible] RL RX KQ SQ Exit.inBlock Exit.then BP NP CallsOk IsSl IsRows IsInts IsBools Own Blk Code.wp Calls wpList
theorem few_rows {ls : List (List Int)} : (few ls).length ≤ 10 := by unfold few; simp; omega
set_option maxHeartbeats 4000000 in
theorem law4 (n : Int) (uv : Value) (ls : List (List Int)) (w : World) (hn : I64 n) (hu : IsRows w.cell? uv ls) :
    CallsOk Try.prog 4 #[.int .i64 n, uv] w fun v w' => v = .bool true ∧ Below w.heap.size w w' := by
  have hu0 := hu
  obtain ⟨ua, uc, ub, uo, rfl, hulc, huc, hua, hucell⟩ := hu.open
  have hml := maxLen_le
  refine enter_ (N := 115) Try.func4 rfl rfl rfl ?_
  (repeat (first | refine seq_ ?_ | refine sq_normal ?_ | refine rl_nil ?_ | (refine region_ (id := 0) ?_; (try (refine rl_assign (v := (Value.bool _ : Value)) rfl rfl ?_))) | (refine region_ (id := 1) ?_; (try (refine rl_move (v := (Value.int _ _ : Value)) rfl rfl ?_)))))
  refine rl_callf fn9 (around_ok n 11 w hn.1 hn.2 (by omega) (by omega)) rfl rfl ?_
  rintro _ _ ⟨rfl, rfl⟩
  have hk := around_lt n 11 (by omega)
  (repeat (first | refine seq_ ?_ | refine sq_normal ?_ | refine rl_nil ?_ | (refine region_ (id := 2) ?_; (try (refine rl_move (v := (Value.slice _ _ _ : Value)) rfl rfl ?_))) | refine rl_assign (v := (Value.int _ _ : Value)) rfl rfl ?_))
  refine rl_callf fn10 (few_ok _ ls w hu0) rfl rfl ?_
  rintro v1 w1 ⟨hb1, us, bs, b0, hR⟩
  have hr1 := hR.rows
  obtain ⟨va, vc, rfl, _, _, _⟩ := hR.own.shape
  obtain ⟨k, hkd⟩ : ∃ k, k = around n 11 := ⟨_, rfl⟩
  rw [← hkd] at hk
  rw [← hkd]
  have hk1 : 0 ≤ k := hk.1
  have hk2 : k < 11 := hk.2
  clear hk hkd
  (repeat (first | refine seq_ ?_ | refine sq_normal ?_ | refine rl_nil ?_ | (refine region_ (id := 3) ?_; (try (refine rl_move (v := (Value.int _ _ : Value)) rfl rfl ?_; (try (refine rl_move (v := (Value.slice _ _ _ : Value)) rfl rfl ?_))))) | refine rl_assign (v := (Value.slice _ _ _ : Value)) rfl rfl ?_))
  refine rl_callf fn12 (groups_ok k _ (few ls) w1 (by omega) (by omega) hr1 (few_len ls)) rfl rfl ?_
  rintro v2 w2 ⟨hb2, B2, us2, bs2, b2, hB2, hR2⟩
  have hr2 := hR2.rows
  have hrl := hr1.mono (Keeps.of hb2)
  have hfl := few_rows (ls := ls)
  obtain ⟨L, hLd⟩ : ∃ L, L = few ls := ⟨_, rfl⟩
  rw [← hLd] at hr2 hrl hfl hR2 hR
  have hLl : ∀ xs ∈ L, xs.length ≤ 1000000 := by rw [hLd]; exact few_len ls
  rw [← hLd]
  clear hLd hr1 hR
  obtain ⟨ga, gc, gb, go, rfl, hglc, hgc, hga, hgcell⟩ := hr2.open
  obtain ⟨la, lc, lb, lo, hlq, hllc, hlc, hla, hlcell⟩ := hrl.open
  simp only [Value.slice.injEq] at hlq
  obtain ⟨rfl, _, rfl⟩ := hlq
  have hGl : (groups k L).length ≤ 1000000000 := by have := groups_len k L; omega
  (repeat (first | refine seq_ ?_ | refine sq_normal ?_ | refine rl_nil ?_ | (refine region_ (id := 4) ?_; (try (refine rl_move (v := (Value.int _ _ : Value)) rfl rfl ?_))) | refine rl_assign (v := (Value.slice _ _ _ : Value)) rfl rfl ?_))
  refine rl_make1 sl29 rfl rfl rfl ?_ ?_ ?_ ?_
  · omega
  · omega
  · omega
  intro w3 hB3 hb3 hs3
  have a1 := hb1.size; have a2 := hb2.size
  (repeat (first | refine seq_ ?_ | refine sq_normal ?_ | refine rl_nil ?_ | refine block_ ?_ | (refine region_ (id := 5) ?_; (try (refine rl_assign (v := (Value.int _ _ : Value)) rfl rfl ?_))) | (refine region_ (id := 6) ?_; (try (refine rl_assign (v := (Value.int _ _ : Value)) rfl rfl ?_))) | refine rl_assign (v := (Value.slice _ _ _ : Value)) rfl rfl ?_))
  refine loop2 [(4, 5), (9, 13), (25, 66)] 9 10 (fun m v1 v2 wr => ∃ (i : Int) (p : List Int), v1 = .int .i64 (p.countP nz : Nat) ∧ v2 = .int .i64 i ∧ 0 ≤ i ∧ i ≤ (groups k L).length ∧ m = ((groups k L).length - i).toNat ∧ Blk wr w2.heap.size (p.map (Value.int .i64)) 3 ∧ p.length = k.toNat ∧ PL (groups k L) i.toNat 0 p ∧ Below w2.heap.size w2 wr ∧ wr.heap.size = w2.heap.size + 1) _
    ⟨0, List.replicate k.toNat 0, by show Value.int _ 0 = _; simp [List.countP_replicate, nz], rfl, by omega, by omega, rfl, by simpa using hB3, by simp, PL.zero _ _, hb3, hs3⟩ ?_
  clear hB3 hb3
  rintro m τ v1 v2 w4 ⟨i, p, rfl, rfl, hi0, hil, rfl, hB4, hpl, hP, hb4, hs4⟩ K0 hL0
  by_cases hi : i < (groups k L).length
  · have hga' := hga (by omega)
    subst hga'
    obtain ⟨g, hg⟩ : ∃ g, (groups k L)[i.toNat]? = some g := ⟨(groups k L)[i.toNat]'(by omega), by simp⟩
    obtain ⟨u, huc1, hui⟩ := hgcell _ _ hg
    obtain ⟨ra, rc, rb, ro, rfl, hrl', hrc, hra, hrcell⟩ := hui.open
    (repeat (first | refine seq_ ?_ | refine sq_normal ?_ | refine rl_nil ?_ | refine cond_t rfl ?_ | refine skip_ ?_ | refine block_ ?_ | (refine region_ (id := 7) ?_; (try (refine rl_move (v := (Value.int _ _ : Value)) rfl rfl ?_; (try (refine rl_move (v := (Value.slice _ _ _ : Value)) rfl rfl ?_; (try (refine rl_len sl22 rfl rfl ?_; (try ((first | (refine rl_lss_t rfl rfl rfl ?_ ?_; omega) | (refine rl_lss_f rfl rfl rfl ?_ ?_; omega))))))))))) | (refine region_ (id := 9) ?_; (try (refine rl_assign (v := (Value.int _ _ : Value)) rfl rfl ?_)))))
    refine loop2 [(4, 5), (9, 10), (11, 13), (31, 66)] 9 11 (fun m v1 v2 wr => ∃ (j : Int) (p : List Int), v1 = .int .i64 (p.countP nz : Nat) ∧ v2 = .int .i64 j ∧ 0 ≤ j ∧ j ≤ g.length ∧ m = (g.length - j).toNat ∧ Blk wr w2.heap.size (p.map (Value.int .i64)) 3 ∧ p.length = k.toNat ∧ PL (groups k L) i.toNat j.toNat p ∧ Below w2.heap.size w2 wr ∧ wr.heap.size = w2.heap.size + 1) _
      ⟨0, p, rfl, rfl, by omega, by omega, rfl, hB4, hpl, hP, hb4, hs4⟩ ?_
    clear hB4 hpl hP hb4 hs4
    rintro m τ1 v1 v2 w5 ⟨j, p, rfl, rfl, hj0, hjl, rfl, hB5, hpl, hP, hb5, hs5⟩ K1 hL1
    have hc1 : w5.cell? ⟨gb, go + i.toNat, none⟩ = some (.slice ra g.length rc) := cell_below huc1 hb5 (Nat.le_refl _)
    have hcp : p.countP nz ≤ k.toNat := by rw [← hpl]; exact List.countP_le_length
    by_cases hj : j < g.length
    · have hra' := hra (by omega)
      subst hra'
      obtain ⟨u, hu1⟩ : ∃ u, g[j.toNat]? = some u := ⟨g[j.toNat]'(by omega), by simp⟩
      have hc2 : w5.cell? ⟨rb, ro + j.toNat, none⟩ = some (.int .i64 u) := cell_below (hrcell _ _ hu1) hb5 (Nat.le_refl _)
      have hu2 := groups_range hg (List.mem_of_getElem? hu1)
      have hu3 : 0 ≤ u := hu2.1
      have hu4 : u < k := hu2.2
      have hz := hP.free hpl hg hu1
      have hc3 : w5.cell? ⟨w2.heap.size, 0 + u.toNat, none⟩ = some (.int .i64 0) := hB5.cell_some (by simp [hz])
      (repeat (first | refine seq_ ?_ | refine sq_normal ?_ | refine rl_nil ?_ | refine cond_t rfl ?_ | refine cond_f rfl ?_ | refine skip_ ?_ | refine block_ ?_ | (refine region_ (id := 10) ?_; (try (refine rl_move (v := (Value.int _ _ : Value)) rfl rfl ?_; (try (refine rl_move (v := (Value.slice _ _ _ : Value)) rfl rfl ?_; (try (refine rl_move (v := (Value.int _ _ : Value)) rfl rfl ?_; (try ((first | (refine rl_idx1 sl22 rfl rfl rfl rfl ?_ ?_ ?_; omega; omega) | (apply rl_idx1 sl22 rfl rfl rfl; assumption; omega; omega)); (try ((apply rl_load vt29 rfl rfl; assumption); (try (refine rl_len sl29 rfl rfl ?_; (try ((first | (refine rl_lss_t rfl rfl rfl ?_ ?_; omega) | (refine rl_lss_f rfl rfl rfl ?_ ?_; omega))))))))))))))))) | (refine region_ (id := 12) ?_; (try (refine rl_move (v := (Value.slice _ _ _ : Value)) rfl rfl ?_; (try (refine rl_move (v := (Value.int _ _ : Value)) rfl rfl ?_; (try ((first | (refine rl_idx1 sl22 rfl rfl rfl rfl ?_ ?_ ?_; omega; omega) | (apply rl_idx1 sl22 rfl rfl rfl; assumption; omega; omega)); (try ((apply rl_load vt29 rfl rfl; assumption); (try (refine rl_move (v := (Value.int _ _ : Value)) rfl rfl ?_; (try ((first | (refine rl_idx1 sl29 rfl rfl rfl rfl ?_ ?_ ?_; omega; omega) | (apply rl_idx1 sl29 rfl rfl rfl; assumption; omega; omega)); (try ((apply rl_load vt3 rfl rfl; assumption); (try (refine rl_assign (v := (Value.int _ _ : Value)) rfl rfl ?_))))))))))))))))) | (refine region_ (id := 13) ?_; (try (refine rl_move (v := (Value.int _ _ : Value)) rfl rfl ?_; (try ((first | (refine rl_lss_t rfl rfl rfl ?_ ?_; omega) | (refine rl_lss_f rfl rfl rfl ?_ ?_; omega)); (try (refine rl_move (v := (Value.bool _ : Value)) rfl rfl ?_; (try ((first | refine rl_off rfl ?_ | refine rl_move (v := (Value.int _ _ : Value)) rfl rfl ?_); (try ((first | refine rl_off rfl ?_ | refine rl_move (v := (Value.int _ _ : Value)) rfl rfl ?_); (try ((first | refine rl_off rfl ?_ | (refine rl_geq_t rfl rfl rfl ?_ ?_; omega) | (refine rl_geq_f rfl rfl rfl ?_ ?_; omega)); (try (refine rl_pick (v := (Value.bool _ : Value)) rfl rfl rfl ?_))))))))))))))) | (refine region_ (id := 15) ?_; (try (refine rl_move (v := (Value.slice _ _ _ : Value)) rfl rfl ?_; (try (refine rl_move (v := (Value.int _ _ : Value)) rfl rfl ?_; (try ((first | (refine rl_idx1 sl29 rfl rfl rfl rfl ?_ ?_ ?_; omega; omega) | (apply rl_idx1 sl29 rfl rfl rfl; assumption; omega; omega)); (try ((apply rl_load vt3 rfl rfl; assumption); (try ((first | (refine rl_neq_t rfl rfl rfl ?_ ?_; omega) | (refine rl_neq_f rfl rfl rfl ?_ ?_; omega))))))))))))) | (refine region_ (id := 17) ?_; (try (refine rl_move (v := (Value.slice _ _ _ : Value)) rfl rfl ?_; (try (refine rl_move (v := (Value.int _ _ : Value)) rfl rfl ?_; (try (refine rl_move (v := (Value.int _ _ : Value)) rfl rfl ?_; (try ((refine rl_add rfl rfl rfl ?_ ?_ ?_; omega; omega); (try ((first | (refine rl_idx1 sl29 rfl rfl rfl rfl ?_ ?_ ?_; omega; omega) | (apply rl_idx1 sl29 rfl rfl rfl; assumption; omega; omega)))))))))))))))
      refine rl_store (v := Value.int .i64 (i + 1)) vt3 rfl rfl rfl rfl hB5 ?_ ?_
      · simp; omega
      intro w6 hB6 hc6 hs6
      (repeat (first | refine sq_normal ?_ | refine rl_nil ?_ | refine inBlock_normal ?_ | (refine region_ (id := 11) ?_; (try (refine rl_move (v := (Value.int _ _ : Value)) rfl rfl ?_; (try ((refine rl_add rfl rfl rfl ?_ ?_ ?_; omega; omega); (try (refine rl_assign (v := (Value.int _ _ : Value)) rfl rfl ?_))))))) | (refine region_ (id := 18) ?_; (try (refine rl_move (v := (Value.int _ _ : Value)) rfl rfl ?_; (try ((refine rl_add rfl rfl rfl ?_ ?_ ?_; omega; omega); (try (refine rl_assign (v := (Value.int _ _ : Value)) rfl rfl ?_)))))))))
      have hP' := hP.put hpl hg hu1
      rw [show ((i.toNat : Nat) : Int) + 1 = i + 1 by omega, ← show (j + 1).toNat = j.toNat + 1 by omega] at hP'
      have hcnt := countP_set0 (v := i + 1) hz (by omega)
      refine kq_normal (hL1 (g.length - (j + 1)).toNat _ _ (by omega) (by (repeat (first | with_reducible exact Agree.ov | with_reducible exact Agree.refl _ _ | refine Agree.upd rfl ?_ | refine Agree.ovs rfl ?_))) ⟨j + 1, p.set u.toNat (i + 1), ?_, rfl, by omega, by omega, rfl, by simpa [List.map_set] using hB6, by simpa using hpl, hP', below_chg hb5 hc6 (Nat.le_refl _) (by omega), by omega⟩)
      show Value.int .i64 ((p.countP nz : Nat) + 1) = _
      rw [hcnt]; simp
    · have hjl' : j.toNat = g.length := by omega
      rw [hjl'] at hP
      have hP' := hP.next hg
      rw [← show (i + 1).toNat = i.toNat + 1 by omega] at hP'
      (repeat (first | refine seq_ ?_ | refine sq_normal ?_ | refine sq_exit ?_ | refine rl_nil ?_ | refine cond_f rfl ?_ | refine exit_ ?_ | refine inBlock_normal ?_ | refine inBlock_exit ?_ | refine kq_exit ?_ | (refine region_ (id := 8) ?_; (try (refine rl_move (v := (Value.int _ _ : Value)) rfl rfl ?_; (try ((refine rl_add rfl rfl rfl ?_ ?_ ?_; omega; omega); (try (refine rl_assign (v := (Value.int _ _ : Value)) rfl rfl ?_))))))) | (refine region_ (id := 10) ?_; (try (refine rl_move (v := (Value.int _ _ : Value)) rfl rfl ?_; (try (refine rl_move (v := (Value.slice _ _ _ : Value)) rfl rfl ?_; (try (refine rl_move (v := (Value.int _ _ : Value)) rfl rfl ?_; (try ((first | (refine rl_idx1 sl22 rfl rfl rfl rfl ?_ ?_ ?_; omega; omega) | (apply rl_idx1 sl22 rfl rfl rfl; assumption; omega; omega)); (try ((apply rl_load vt29 rfl rfl; assumption); (try (refine rl_len sl29 rfl rfl ?_; (try ((first | (refine rl_lss_t rfl rfl rfl ?_ ?_; omega) | (refine rl_lss_f rfl rfl rfl ?_ ?_; omega)))))))))))))))))))
      exact kq_normal (hL0 ((groups k L).length - (i + 1)).toNat _ _ (by omega) (by (repeat (first | with_reducible exact Agree.ov | with_reducible exact Agree.refl _ _ | refine Agree.upd rfl ?_ | refine Agree.ovs rfl ?_))) ⟨i + 1, p, rfl, rfl, by omega, by omega, rfl, hB5, hpl, hP', hb5, hs5⟩)
  · rw [show i.toNat = (groups k L).length by omega] at hP
    have hall := hP.all hpl
    (repeat (first | refine seq_ ?_ | refine sq_normal ?_ | refine sq_exit ?_ | refine rl_nil ?_ | refine cond_f rfl ?_ | refine exit_ ?_ | refine block_ ?_ | refine inBlock_exit ?_ | refine kq_exit ?_ | (refine region_ (id := 7) ?_; (try (refine rl_move (v := (Value.int _ _ : Value)) rfl rfl ?_; (try (refine rl_move (v := (Value.slice _ _ _ : Value)) rfl rfl ?_; (try (refine rl_len sl22 rfl rfl ?_; (try ((first | (refine rl_lss_t rfl rfl rfl ?_ ?_; omega) | (refine rl_lss_f rfl rfl rfl ?_ ?_; omega))))))))))) | (refine region_ (id := 19) ?_; (try (refine rl_assign (v := (Value.int _ _ : Value)) rfl rfl ?_)))))
    refine loop1 [(4, 5), (13, 16), (66, 109)] 13 (fun m v wr => ∃ (i : Int), v = .int .i64 i ∧ 0 ≤ i ∧ i ≤ k ∧ m = (k - i).toNat ∧ Blk wr w2.heap.size (p.map (Value.int .i64)) 3 ∧ Below w2.heap.size w2 wr ∧ wr.heap.size = w2.heap.size + 1) _
      ⟨0, rfl, by omega, by omega, rfl, hB4, hb4, hs4⟩ ?_
    clear hB4 hb4 hs4 hi hi0 hil
    rintro m τ1 v w5 ⟨i, rfl, hi0, hik, rfl, hB5, hb5, hs5⟩ K1 hL1
    have fin : w5.heap.size = w2.heap.size + 1 → ∀ w6, Below w5.heap.size w5 w6 → Below w.heap.size w w6 := fun _ w6 h6 =>
      below_ext (below_ext hb1 hb2 a1 |>.trans (hb5.mono (by omega))) h6 (by omega)
    by_cases hi : i < k
    · by_cases hiL : i < L.length
      · have hla' := hla (by omega)
        subst hla'
        obtain ⟨row, hrow⟩ : ∃ row, L[i.toNat]? = some row := ⟨L[i.toNat]'(by omega), by simp⟩
        obtain ⟨u, huc1, hui⟩ := hlcell _ _ hrow
        obtain ⟨ra, rc, rb, ro, rfl, hrl', hrc, hra, hrcell⟩ := hui.open
        (repeat (first | refine seq_ ?_ | refine sq_normal ?_ | refine rl_nil ?_ | refine cond_t rfl ?_ | refine skip_ ?_ | refine block_ ?_ | (refine region_ (id := 20) ?_; (try (refine rl_move (v := (Value.int _ _ : Value)) rfl rfl ?_; (try (refine rl_move (v := (Value.int _ _ : Value)) rfl rfl ?_; (try ((first | (refine rl_lss_t rfl rfl rfl ?_ ?_; omega) | (refine rl_lss_f rfl rfl rfl ?_ ?_; omega)); (try (refine rl_move (v := (Value.bool _ : Value)) rfl rfl ?_; (try ((first | refine rl_off rfl ?_ | refine rl_move (v := (Value.int _ _ : Value)) rfl rfl ?_); (try ((first | refine rl_off rfl ?_ | refine rl_move (v := (Value.slice _ _ _ : Value)) rfl rfl ?_); (try ((first | refine rl_off rfl ?_ | refine rl_len sl22 rfl rfl ?_); (try ((first | refine rl_off rfl ?_ | (refine rl_lss_t rfl rfl rfl ?_ ?_; omega) | (refine rl_lss_f rfl rfl rfl ?_ ?_; omega)); (try (refine rl_pick (v := (Value.bool _ : Value)) rfl rfl rfl ?_))))))))))))))))))) | (refine region_ (id := 22) ?_; (try (refine rl_assign (v := (Value.int _ _ : Value)) rfl rfl ?_)))))
        refine loop1 [(4, 5), (14, 16), (77, 109)] 14 (fun m v wr => ∃ (j : Int), v = .int .i64 j ∧ 0 ≤ j ∧ j ≤ row.length ∧ m = (row.length - j).toNat ∧ Blk wr w2.heap.size (p.map (Value.int .i64)) 3 ∧ Below w2.heap.size w2 wr ∧ wr.heap.size = w2.heap.size + 1) _
          ⟨0, rfl, by omega, by omega, rfl, hB5, hb5, hs5⟩ ?_
        clear hB5 hb5 hs5 fin
        rintro m τ2 v w6 ⟨j, rfl, hj0, hjl, rfl, hB6, hb6, hs6⟩ K2 hL2
        have hc1 : w6.cell? ⟨lb, lo + i.toNat, none⟩ = some (.slice ra row.length rc) := cell_below huc1 hb6 (Nat.le_refl _)
        by_cases hj : j < row.length
        · have hra' := hra (by omega)
          subst hra'
          obtain ⟨u, hu1⟩ : ∃ u, row[j.toNat]? = some u := ⟨row[j.toNat]'(by omega), by simp⟩
          have hc2 : w6.cell? ⟨rb, ro + j.toNat, none⟩ = some (.int .i64 u) := cell_below (hrcell _ _ hu1) hb6 (Nat.le_refl _)
          by_cases hu0 : 0 ≤ u
          · by_cases huk : u < k
            · obtain ⟨x, y, hpx, hpy, hxy⟩ := hP.le (rB_edge hi0 hi hu0 huk hrow (List.mem_of_getElem? hu1))
              have hc3 : w6.cell? ⟨w2.heap.size, 0 + u.toNat, none⟩ = some (.int .i64 y) := hB6.cell_some (by simp [hpy])
              have hc4 : w6.cell? ⟨w2.heap.size, 0 + i.toNat, none⟩ = some (.int .i64 x) := hB6.cell_some (by simp [hpx])
              (repeat (first | refine seq_ ?_ | refine sq_normal ?_ | refine rl_nil ?_ | refine cond_t rfl ?_ | refine skip_ ?_ | refine block_ ?_ | (refine region_ (id := 23) ?_; (try (refine rl_move (v := (Value.int _ _ : Value)) rfl rfl ?_; (try (refine rl_move (v := (Value.slice _ _ _ : Value)) rfl rfl ?_; (try (refine rl_move (v := (Value.int _ _ : Value)) rfl rfl ?_; (try ((first | (refine rl_idx1 sl22 rfl rfl rfl rfl ?_ ?_ ?_; omega; omega) | (apply rl_idx1 sl22 rfl rfl rfl; assumption; omega; omega)); (try ((apply rl_load vt29 rfl rfl; assumption); (try (refine rl_len sl29 rfl rfl ?_; (try ((first | (refine rl_lss_t rfl rfl rfl ?_ ?_; omega) | (refine rl_lss_f rfl rfl rfl ?_ ?_; omega))))))))))))))))) | (refine region_ (id := 25) ?_; (try (refine rl_move (v := (Value.slice _ _ _ : Value)) rfl rfl ?_; (try (refine rl_move (v := (Value.int _ _ : Value)) rfl rfl ?_; (try ((first | (refine rl_idx1 sl22 rfl rfl rfl rfl ?_ ?_ ?_; omega; omega) | (apply rl_idx1 sl22 rfl rfl rfl; assumption; omega; omega)); (try ((apply rl_load vt29 rfl rfl; assumption); (try (refine rl_move (v := (Value.int _ _ : Value)) rfl rfl ?_; (try ((first | (refine rl_idx1 sl29 rfl rfl rfl rfl ?_ ?_ ?_; omega; omega) | (apply rl_idx1 sl29 rfl rfl rfl; assumption; omega; omega)); (try ((apply rl_load vt3 rfl rfl; assumption); (try (refine rl_assign (v := (Value.int _ _ : Value)) rfl rfl ?_))))))))))))))))) | (refine region_ (id := 26) ?_; (try (refine rl_move (v := (Value.int _ _ : Value)) rfl rfl ?_; (try ((first | (refine rl_geq_t rfl rfl rfl ?_ ?_; omega) | (refine rl_geq_f rfl rfl rfl ?_ ?_; omega)); (try (refine rl_move (v := (Value.bool _ : Value)) rfl rfl ?_; (try ((first | refine rl_off rfl ?_ | refine rl_move (v := (Value.int _ _ : Value)) rfl rfl ?_); (try ((first | refine rl_off rfl ?_ | refine rl_move (v := (Value.int _ _ : Value)) rfl rfl ?_); (try ((first | refine rl_off rfl ?_ | (refine rl_lss_t rfl rfl rfl ?_ ?_; omega) | (refine rl_lss_f rfl rfl rfl ?_ ?_; omega)); (try (refine rl_pick (v := (Value.bool _ : Value)) rfl rfl rfl ?_)))))))))))))))))
              (refine drawn_ 8 [(0, false), (1, false), (2, false), (3, false), (4, false), (5, false), (6, false), (7, false)] mo (by kernel_rfl) ?_; intro w7 hb7 hs7 hk7; (try (refine rx_move (v := (Value.slice _ _ _ : Value)) rfl rfl rfl ?_; (try (refine rx_move (v := (Value.int _ _ : Value)) rfl rfl rfl ?_; (try ((first | (refine rx_idx1 rfl sl29 rfl rfl rfl rfl ?_ ?_ ?_; omega; omega) | (apply rx_idx1 rfl sl29 rfl rfl rfl; assumption; omega; omega)); (try ((apply rx_load rfl vt3 rfl rfl; (intro _ hS; apply hS; assumption)); (try (refine rx_move (v := (Value.slice _ _ _ : Value)) rfl rfl rfl ?_; (try (refine rx_move (v := (Value.int _ _ : Value)) rfl rfl rfl ?_; (try ((first | (refine rx_idx1 rfl sl29 rfl rfl rfl rfl ?_ ?_ ?_; omega; omega) | (apply rx_idx1 rfl sl29 rfl rfl rfl; assumption; omega; omega)); (try ((apply rx_load rfl vt3 rfl rfl; (intro _ hS; apply hS; assumption)))))))))))))))))))
              refine rx_nil rfl ?_
              (repeat (first | refine sq_normal ?_ | refine rl_nil ?_ | refine cond_f rfl ?_ | refine skip_ ?_ | refine inBlock_normal ?_ | refine np_normal ?_ | (refine region_ (id := 24) ?_; (try (refine rl_move (v := (Value.int _ _ : Value)) rfl rfl ?_; (try ((refine rl_add rfl rfl rfl ?_ ?_ ?_; omega; omega); (try (refine rl_assign (v := (Value.int _ _ : Value)) rfl rfl ?_))))))) | (refine rl_gtr_f rfl rfl rfl ?_ ?_; omega)))
              exact kq_normal (hL2 (row.length - (j + 1)).toNat _ _ (by omega) (by (repeat (first | with_reducible exact Agree.ov | with_reducible exact Agree.refl _ _ | refine Agree.upd rfl ?_ | refine Agree.ovs rfl ?_))) ⟨j + 1, rfl, by omega, by omega, rfl, hB6.ext hb7, below_ext hb6 hb7 (by omega), by omega⟩)
            · (repeat (first | refine seq_ ?_ | refine sq_normal ?_ | refine rl_nil ?_ | refine cond_t rfl ?_ | refine cond_f rfl ?_ | refine skip_ ?_ | refine block_ ?_ | refine inBlock_normal ?_ | (refine region_ (id := 23) ?_; (try (refine rl_move (v := (Value.int _ _ : Value)) rfl rfl ?_; (try (refine rl_move (v := (Value.slice _ _ _ : Value)) rfl rfl ?_; (try (refine rl_move (v := (Value.int _ _ : Value)) rfl rfl ?_; (try ((first | (refine rl_idx1 sl22 rfl rfl rfl rfl ?_ ?_ ?_; omega; omega) | (apply rl_idx1 sl22 rfl rfl rfl; assumption; omega; omega)); (try ((apply rl_load vt29 rfl rfl; assumption); (try (refine rl_len sl29 rfl rfl ?_; (try ((first | (refine rl_lss_t rfl rfl rfl ?_ ?_; omega) | (refine rl_lss_f rfl rfl rfl ?_ ?_; omega))))))))))))))))) | (refine region_ (id := 24) ?_; (try (refine rl_move (v := (Value.int _ _ : Value)) rfl rfl ?_; (try ((refine rl_add rfl rfl rfl ?_ ?_ ?_; omega; omega); (try (refine rl_assign (v := (Value.int _ _ : Value)) rfl rfl ?_))))))) | (refine region_ (id := 25) ?_; (try (refine rl_move (v := (Value.slice _ _ _ : Value)) rfl rfl ?_; (try (refine rl_move (v := (Value.int _ _ : Value)) rfl rfl ?_; (try ((first | (refine rl_idx1 sl22 rfl rfl rfl rfl ?_ ?_ ?_; omega; omega) | (apply rl_idx1 sl22 rfl rfl rfl; assumption; omega; omega)); (try ((apply rl_load vt29 rfl rfl; assumption); (try (refine rl_move (v := (Value.int _ _ : Value)) rfl rfl ?_; (try ((first | (refine rl_idx1 sl29 rfl rfl rfl rfl ?_ ?_ ?_; omega; omega) | (apply rl_idx1 sl29 rfl rfl rfl; assumption; omega; omega)); (try ((apply rl_load vt3 rfl rfl; assumption); (try (refine rl_assign (v := (Value.int _ _ : Value)) rfl rfl ?_))))))))))))))))) | (refine region_ (id := 26) ?_; (try (refine rl_move (v := (Value.int _ _ : Value)) rfl rfl ?_; (try ((first | (refine rl_geq_t rfl rfl rfl ?_ ?_; omega) | (refine rl_geq_f rfl rfl rfl ?_ ?_; omega)); (try (refine rl_move (v := (Value.bool _ : Value)) rfl rfl ?_; (try ((first | refine rl_off rfl ?_ | refine rl_move (v := (Value.int _ _ : Value)) rfl rfl ?_); (try ((first | refine rl_off rfl ?_ | refine rl_move (v := (Value.int _ _ : Value)) rfl rfl ?_); (try ((first | refine rl_off rfl ?_ | (refine rl_lss_t rfl rfl rfl ?_ ?_; omega) | (refine rl_lss_f rfl rfl rfl ?_ ?_; omega)); (try (refine rl_pick (v := (Value.bool _ : Value)) rfl rfl rfl ?_)))))))))))))))))
              exact kq_normal (hL2 (row.length - (j + 1)).toNat _ _ (by omega) (by (repeat (first | with_reducible exact Agree.ov | with_reducible exact Agree.refl _ _ | refine Agree.upd rfl ?_ | refine Agree.ovs rfl ?_))) ⟨j + 1, rfl, by omega, by omega, rfl, hB6, hb6, hs6⟩)
          · (repeat (first | refine seq_ ?_ | refine sq_normal ?_ | refine rl_nil ?_ | refine cond_t rfl ?_ | refine cond_f rfl ?_ | refine skip_ ?_ | refine block_ ?_ | refine inBlock_normal ?_ | (refine region_ (id := 23) ?_; (try (refine rl_move (v := (Value.int _ _ : Value)) rfl rfl ?_; (try (refine rl_move (v := (Value.slice _ _ _ : Value)) rfl rfl ?_; (try (refine rl_move (v := (Value.int _ _ : Value)) rfl rfl ?_; (try ((first | (refine rl_idx1 sl22 rfl rfl rfl rfl ?_ ?_ ?_; omega; omega) | (apply rl_idx1 sl22 rfl rfl rfl; assumption; omega; omega)); (try ((apply rl_load vt29 rfl rfl; assumption); (try (refine rl_len sl29 rfl rfl ?_; (try ((first | (refine rl_lss_t rfl rfl rfl ?_ ?_; omega) | (refine rl_lss_f rfl rfl rfl ?_ ?_; omega))))))))))))))))) | (refine region_ (id := 24) ?_; (try (refine rl_move (v := (Value.int _ _ : Value)) rfl rfl ?_; (try ((refine rl_add rfl rfl rfl ?_ ?_ ?_; omega; omega); (try (refine rl_assign (v := (Value.int _ _ : Value)) rfl rfl ?_))))))) | (refine region_ (id := 25) ?_; (try (refine rl_move (v := (Value.slice _ _ _ : Value)) rfl rfl ?_; (try (refine rl_move (v := (Value.int _ _ : Value)) rfl rfl ?_; (try ((first | (refine rl_idx1 sl22 rfl rfl rfl rfl ?_ ?_ ?_; omega; omega) | (apply rl_idx1 sl22 rfl rfl rfl; assumption; omega; omega)); (try ((apply rl_load vt29 rfl rfl; assumption); (try (refine rl_move (v := (Value.int _ _ : Value)) rfl rfl ?_; (try ((first | (refine rl_idx1 sl29 rfl rfl rfl rfl ?_ ?_ ?_; omega; omega) | (apply rl_idx1 sl29 rfl rfl rfl; assumption; omega; omega)); (try ((apply rl_load vt3 rfl rfl; assumption); (try (refine rl_assign (v := (Value.int _ _ : Value)) rfl rfl ?_))))))))))))))))) | (refine region_ (id := 26) ?_; (try (refine rl_move (v := (Value.int _ _ : Value)) rfl rfl ?_; (try ((first | (refine rl_geq_t rfl rfl rfl ?_ ?_; omega) | (refine rl_geq_f rfl rfl rfl ?_ ?_; omega)); (try (refine rl_move (v := (Value.bool _ : Value)) rfl rfl ?_; (try ((first | refine rl_off rfl ?_ | refine rl_move (v := (Value.int _ _ : Value)) rfl rfl ?_); (try ((first | refine rl_off rfl ?_ | refine rl_move (v := (Value.int _ _ : Value)) rfl rfl ?_); (try ((first | refine rl_off rfl ?_ | (refine rl_lss_t rfl rfl rfl ?_ ?_; omega) | (refine rl_lss_f rfl rfl rfl ?_ ?_; omega)); (try (refine rl_pick (v := (Value.bool _ : Value)) rfl rfl rfl ?_)))))))))))))))))
            exact kq_normal (hL2 (row.length - (j + 1)).toNat _ _ (by omega) (by (repeat (first | with_reducible exact Agree.ov | with_reducible exact Agree.refl _ _ | refine Agree.upd rfl ?_ | refine Agree.ovs rfl ?_))) ⟨j + 1, rfl, by omega, by omega, rfl, hB6, hb6, hs6⟩)
        · (repeat (first | refine seq_ ?_ | refine sq_normal ?_ | refine sq_exit ?_ | refine rl_nil ?_ | refine cond_f rfl ?_ | refine exit_ ?_ | refine inBlock_normal ?_ | refine inBlock_exit ?_ | refine kq_exit ?_ | (refine region_ (id := 21) ?_; (try (refine rl_move (v := (Value.int _ _ : Value)) rfl rfl ?_; (try ((refine rl_add rfl rfl rfl ?_ ?_ ?_; omega; omega); (try (refine rl_assign (v := (Value.int _ _ : Value)) rfl rfl ?_))))))) | (refine region_ (id := 23) ?_; (try (refine rl_move (v := (Value.int _ _ : Value)) rfl rfl ?_; (try (refine rl_move (v := (Value.slice _ _ _ : Value)) rfl rfl ?_; (try (refine rl_move (v := (Value.int _ _ : Value)) rfl rfl ?_; (try ((first | (refine rl_idx1 sl22 rfl rfl rfl rfl ?_ ?_ ?_; omega; omega) | (apply rl_idx1 sl22 rfl rfl rfl; assumption; omega; omega)); (try ((apply rl_load vt29 rfl rfl; assumption); (try (refine rl_len sl29 rfl rfl ?_; (try ((first | (refine rl_lss_t rfl rfl rfl ?_ ?_; omega) | (refine rl_lss_f rfl rfl rfl ?_ ?_; omega)))))))))))))))))))
          exact kq_normal (hL1 (k - (i + 1)).toNat _ _ (by omega) (by (repeat (first | with_reducible exact Agree.ov | with_reducible exact Agree.refl _ _ | refine Agree.upd rfl ?_ | refine Agree.ovs rfl ?_))) ⟨i + 1, rfl, by omega, by omega, rfl, hB6, hb6, hs6⟩)
      · (repeat (first | refine seq_ ?_ | refine sq_normal ?_ | refine sq_exit ?_ | refine rl_nil ?_ | refine cond_f rfl ?_ | refine exit_ ?_ | refine inBlock_exit ?_ | refine kq_exit ?_ | (refine region_ (id := 20) ?_; (try (refine rl_move (v := (Value.int _ _ : Value)) rfl rfl ?_; (try (refine rl_move (v := (Value.int _ _ : Value)) rfl rfl ?_; (try ((first | (refine rl_lss_t rfl rfl rfl ?_ ?_; omega) | (refine rl_lss_f rfl rfl rfl ?_ ?_; omega)); (try (refine rl_move (v := (Value.bool _ : Value)) rfl rfl ?_; (try ((first | refine rl_off rfl ?_ | refine rl_move (v := (Value.int _ _ : Value)) rfl rfl ?_); (try ((first | refine rl_off rfl ?_ | refine rl_move (v := (Value.slice _ _ _ : Value)) rfl rfl ?_); (try ((first | refine rl_off rfl ?_ | refine rl_len sl22 rfl rfl ?_); (try ((first | refine rl_off rfl ?_ | (refine rl_lss_t rfl rfl rfl ?_ ?_; omega) | (refine rl_lss_f rfl rfl rfl ?_ ?_; omega)); (try (refine rl_pick (v := (Value.bool _ : Value)) rfl rfl rfl ?_))))))))))))))))))) | (refine region_ (id := 29) ?_; (try (refine rl_move (v := (Value.int _ _ : Value)) rfl rfl ?_; (try (refine rl_move (v := (Value.int _ _ : Value)) rfl rfl ?_; (try ((first | (refine rl_eql_t rfl rfl rfl ?_ ?_; omega) | (refine rl_eql_f rfl rfl rfl ?_ ?_; omega)); (try (refine rl_move (v := (Value.bool _ : Value)) rfl rfl ?_)))))))))))
        refine rl_callf fn14 (lives_ok w5) rfl rfl ?_
        rintro _ w6 ⟨rfl, hb6⟩
        (repeat (first | refine sq_normal ?_ | refine rl_nil ?_ | refine ret_ ?_ | refine rl_assign (v := (Value.bool _ : Value)) rfl rfl ?_ | refine rl_pick (v := (Value.bool _ : Value)) rfl rfl rfl ?_))
        exact bp_ret1 (v := Value.bool _) rfl rfl ⟨rfl, fin hs5 w6 hb6⟩
    · (repeat (first | refine seq_ ?_ | refine sq_normal ?_ | refine sq_exit ?_ | refine rl_nil ?_ | refine cond_f rfl ?_ | refine exit_ ?_ | refine inBlock_exit ?_ | refine kq_exit ?_ | (refine region_ (id := 20) ?_; (try (refine rl_move (v := (Value.int _ _ : Value)) rfl rfl ?_; (try (refine rl_move (v := (Value.int _ _ : Value)) rfl rfl ?_; (try ((first | (refine rl_lss_t rfl rfl rfl ?_ ?_; omega) | (refine rl_lss_f rfl rfl rfl ?_ ?_; omega)); (try (refine rl_move (v := (Value.bool _ : Value)) rfl rfl ?_; (try ((first | refine rl_off rfl ?_ | refine rl_move (v := (Value.int _ _ : Value)) rfl rfl ?_); (try ((first | refine rl_off rfl ?_ | refine rl_move (v := (Value.slice _ _ _ : Value)) rfl rfl ?_); (try ((first | refine rl_off rfl ?_ | refine rl_len sl22 rfl rfl ?_); (try ((first | refine rl_off rfl ?_ | (refine rl_lss_t rfl rfl rfl ?_ ?_; omega) | (refine rl_lss_f rfl rfl rfl ?_ ?_; omega)); (try (refine rl_pick (v := (Value.bool _ : Value)) rfl rfl rfl ?_))))))))))))))))))) | (refine region_ (id := 29) ?_; (try (refine rl_move (v := (Value.int _ _ : Value)) rfl rfl ?_; (try (refine rl_move (v := (Value.int _ _ : Value)) rfl rfl ?_; (try ((first | (refine rl_eql_t rfl rfl rfl ?_ ?_; omega) | (refine rl_eql_f rfl rfl rfl ?_ ?_; omega)); (try (refine rl_move (v := (Value.bool _ : Value)) rfl rfl ?_)))))))))))
      refine rl_callf fn14 (lives_ok w5) rfl rfl ?_
      rintro _ w6 ⟨rfl, hb6⟩
      (repeat (first | refine sq_normal ?_ | refine rl_nil ?_ | refine ret_ ?_ | refine rl_assign (v := (Value.bool _ : Value)) rfl rfl ?_ | refine rl_pick (v := (Value.bool _ : Value)) rfl rfl rfl ?_))
      exact bp_ret1 (v := Value.bool _) rfl rfl ⟨rfl, fin hs5 w6 hb6⟩
end Go.Proofs.Ytgiifodmbckbmaa.Scc
