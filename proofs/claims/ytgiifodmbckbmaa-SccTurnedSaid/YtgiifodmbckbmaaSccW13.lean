/- The walk of fuguelaw07.of. -/
import Derived.Test.YtgiifodmbckbmaaSccP0
import Derived.Test.YtgiifodmbckbmaaSccPL
set_option linter.unusedVariables false
set_option linter.unusedSimpArgs false
namespace Go.Proofs.Ytgiifodmbckbmaa.Scc
open Go Go.Eng Go.RowKit Go.Scc
attribute [local irreducible] RL RX KQ SQ Exit.inBlock Exit.then BP NP CallsOk IsSl IsRows IsInts IsBools Own Blk Code.wp Calls wpList
set_option maxHeartbeats 4000000 in
theorem of_ok (k : Int) (gv : Value) (L : List (List Int)) (w : World) (hk0 : 0 ≤ k) (hk : k ≤ 1000) (hg : IsRows w.cell? gv (groups k L)) :
    CallsOk Try.prog 15 #[gv, .int .i64 k] w fun v w' => Below w.heap.size w w' ∧ ∃ p, IsInts w'.cell? v p ∧ p.length = k.toNat ∧ PL (groups k L) (groups k L).length 0 p := by
  obtain ⟨ga, gc, gb, go, rfl, hglc, hgc, hga, hgcell⟩ := hg.open
  have hml := maxLen_le
  have hGl := groups_len k L
  refine enter_ (N := 46) Try.func15 rfl rfl rfl ?_
  (repeat (first | refine seq_ ?_ | refine sq_normal ?_ | refine rl_nil ?_ | (refine region_ (id := 0) ?_; (try (refine rl_assign (v := (Value.slice _ _ _ : Value)) rfl rfl ?_))) | (refine region_ (id := 1) ?_; (try (refine rl_move (v := (Value.int _ _ : Value)) rfl rfl ?_)))))
  refine rl_make1 sl29 rfl rfl rfl ?_ ?_ ?_ ?_
  · omega
  · omega
  · omega
  intro w3 hB3 hb3 hs3
  (repeat (first | refine seq_ ?_ | refine sq_normal ?_ | refine rl_nil ?_ | refine block_ ?_ | (refine region_ (id := 2) ?_; (try (refine rl_assign (v := (Value.int _ _ : Value)) rfl rfl ?_))) | refine rl_assign (v := (Value.slice _ _ _ : Value)) rfl rfl ?_))
  refine loop1 [(6, 9), (11, 45)] 6 (fun m v wr => ∃ (i : Int) (p : List Int), v = .int .i64 i ∧ 0 ≤ i ∧ i ≤ (groups k L).length ∧ m = ((groups k L).length - i).toNat ∧ Blk wr w.heap.size (p.map (Value.int .i64)) 3 ∧ p.length = k.toNat ∧ (∀ x ∈ p, I64 x) ∧ PL (groups k L) i.toNat 0 p ∧ Below w.heap.size w wr ∧ wr.heap.size = w.heap.size + 1) _
    ⟨0, List.replicate k.toNat 0, rfl, by omega, by omega, rfl, by simpa using hB3, by simp, fun x hx => by rw [(List.mem_replicate.1 hx).2]; exact ⟨by omega, by omega⟩, PL.zero _ _, hb3, hs3⟩ ?_
  clear hB3 hb3
  rintro m τ v w4 ⟨i, p, rfl, hi0, hil, rfl, hB4, hpl, hp64, hP, hb4, hs4⟩ K0 hL0
  by_cases hi : i < (groups k L).length
  · have hga' := hga (by omega)
    subst hga'
    obtain ⟨g, hg⟩ : ∃ g, (groups k L)[i.toNat]? = some g := ⟨(groups k L)[i.toNat]'(by omega), by simp⟩
    obtain ⟨u, huc1, hui⟩ := hgcell _ _ hg
    obtain ⟨ra, rc, rb, ro, rfl, hrl', hrc, hra, hrcell⟩ := hui.open
    (repeat (first | refine seq_ ?_ | refine sq_normal ?_ | refine rl_nil ?_ | refine cond_t rfl ?_ | refine skip_ ?_ | refine block_ ?_ | (refine region_ (id := 3) ?_; (try (refine rl_move (v := (Value.int _ _ : Value)) rfl rfl ?_; (try (refine rl_move (v := (Value.slice _ _ _ : Value)) rfl rfl ?_; (try (refine rl_len sl22 rfl rfl ?_; (try ((first | (refine rl_lss_t rfl rfl rfl ?_ ?_; omega) | (refine rl_lss_f rfl rfl rfl ?_ ?_; omega))))))))))) | (refine region_ (id := 5) ?_; (try (refine rl_assign (v := (Value.int _ _ : Value)) rfl rfl ?_)))))
    refine loop1 [(7, 9), (17, 45)] 7 (fun m v wr => ∃ (j : Int) (p : List Int), v = .int .i64 j ∧ 0 ≤ j ∧ j ≤ g.length ∧ m = (g.length - j).toNat ∧ Blk wr w.heap.size (p.map (Value.int .i64)) 3 ∧ p.length = k.toNat ∧ (∀ x ∈ p, I64 x) ∧ PL (groups k L) i.toNat j.toNat p ∧ Below w.heap.size w wr ∧ wr.heap.size = w.heap.size + 1) _
      ⟨0, p, rfl, by omega, by omega, rfl, hB4, hpl, hp64, hP, hb4, hs4⟩ ?_
    clear hB4 hpl hp64 hP hb4 hs4
    rintro m τ1 v w5 ⟨j, p, rfl, hj0, hjl, rfl, hB5, hpl, hp64, hP, hb5, hs5⟩ K1 hL1
    have hc1 : w5.cell? ⟨gb, go + i.toNat, none⟩ = some (.slice ra g.length rc) := cell_below huc1 hb5 (Nat.le_refl _)
    by_cases hj : j < g.length
    · have hra' := hra (by omega)
      subst hra'
      obtain ⟨u, hu1⟩ : ∃ u, g[j.toNat]? = some u := ⟨g[j.toNat]'(by omega), by simp⟩
      have hc2 : w5.cell? ⟨rb, ro + j.toNat, none⟩ = some (.int .i64 u) := cell_below (hrcell _ _ hu1) hb5 (Nat.le_refl _)
      have hu2 := groups_range hg (List.mem_of_getElem? hu1)
      have hu3 : 0 ≤ u := hu2.1
      have hu4 : u < k := hu2.2
      (repeat (first | refine seq_ ?_ | refine sq_normal ?_ | refine rl_nil ?_ | refine cond_t rfl ?_ | refine skip_ ?_ | refine block_ ?_ | (refine region_ (id := 6) ?_; (try (refine rl_move (v := (Value.int _ _ : Value)) rfl rfl ?_; (try (refine rl_move (v := (Value.slice _ _ _ : Value)) rfl rfl ?_; (try (refine rl_move (v := (Value.int _ _ : Value)) rfl rfl ?_; (try ((first | (refine rl_idx1 sl22 rfl rfl rfl rfl ?_ ?_ ?_; omega; omega) | (apply rl_idx1 sl22 rfl rfl rfl; assumption; omega; omega)); (try ((apply rl_load vt29 rfl rfl; assumption); (try (refine rl_len sl29 rfl rfl ?_; (try ((first | (refine rl_lss_t rfl rfl rfl ?_ ?_; omega) | (refine rl_lss_f rfl rfl rfl ?_ ?_; omega))))))))))))))))) | (refine region_ (id := 8) ?_; (try (refine rl_move (v := (Value.slice _ _ _ : Value)) rfl rfl ?_; (try (refine rl_move (v := (Value.int _ _ : Value)) rfl rfl ?_; (try ((first | (refine rl_idx1 sl22 rfl rfl rfl rfl ?_ ?_ ?_; omega; omega) | (apply rl_idx1 sl22 rfl rfl rfl; assumption; omega; omega)); (try ((apply rl_load vt29 rfl rfl; assumption); (try (refine rl_move (v := (Value.int _ _ : Value)) rfl rfl ?_; (try ((first | (refine rl_idx1 sl29 rfl rfl rfl rfl ?_ ?_ ?_; omega; omega) | (apply rl_idx1 sl29 rfl rfl rfl; assumption; omega; omega)); (try ((apply rl_load vt3 rfl rfl; assumption); (try (refine rl_assign (v := (Value.int _ _ : Value)) rfl rfl ?_))))))))))))))))) | (refine region_ (id := 9) ?_; (try (refine rl_move (v := (Value.int _ _ : Value)) rfl rfl ?_; (try ((first | (refine rl_geq_t rfl rfl rfl ?_ ?_; omega) | (refine rl_geq_f rfl rfl rfl ?_ ?_; omega)); (try (refine rl_move (v := (Value.bool _ : Value)) rfl rfl ?_; (try ((first | refine rl_off rfl ?_ | refine rl_move (v := (Value.int _ _ : Value)) rfl rfl ?_); (try ((first | refine rl_off rfl ?_ | refine rl_move (v := (Value.int _ _ : Value)) rfl rfl ?_); (try ((first | refine rl_off rfl ?_ | (refine rl_lss_t rfl rfl rfl ?_ ?_; omega) | (refine rl_lss_f rfl rfl rfl ?_ ?_; omega)); (try (refine rl_pick (v := (Value.bool _ : Value)) rfl rfl rfl ?_))))))))))))))) | (refine region_ (id := 10) ?_; (try (refine rl_move (v := (Value.slice _ _ _ : Value)) rfl rfl ?_; (try (refine rl_move (v := (Value.int _ _ : Value)) rfl rfl ?_; (try (refine rl_move (v := (Value.int _ _ : Value)) rfl rfl ?_; (try ((refine rl_add rfl rfl rfl ?_ ?_ ?_; omega; omega); (try ((first | (refine rl_idx1 sl29 rfl rfl rfl rfl ?_ ?_ ?_; omega; omega) | (apply rl_idx1 sl29 rfl rfl rfl; assumption; omega; omega)))))))))))))))
      refine rl_store (v := Value.int .i64 (i + 1)) vt3 rfl rfl rfl rfl hB5 ?_ ?_
      · simp; omega
      intro w6 hB6 hc6 hs6
      (repeat (first | refine sq_normal ?_ | refine rl_nil ?_ | refine inBlock_normal ?_ | (refine region_ (id := 7) ?_; (try (refine rl_move (v := (Value.int _ _ : Value)) rfl rfl ?_; (try ((refine rl_add rfl rfl rfl ?_ ?_ ?_; omega; omega); (try (refine rl_assign (v := (Value.int _ _ : Value)) rfl rfl ?_)))))))))
      have hP' := hP.put hpl hg hu1
      rw [show ((i.toNat : Nat) : Int) + 1 = i + 1 by omega, ← show (j + 1).toNat = j.toNat + 1 by omega] at hP'
      refine kq_normal (hL1 (g.length - (j + 1)).toNat _ _ (by omega) (by (repeat (first | with_reducible exact Agree.ov | with_reducible exact Agree.refl _ _ | refine Agree.upd rfl ?_ | refine Agree.ovs rfl ?_))) ⟨j + 1, p.set u.toNat (i + 1), rfl, by omega, by omega, rfl, by simpa [List.map_set] using hB6, by simpa using hpl, fun x hx => ?_, hP', below_chg hb5 hc6 (Nat.le_refl _) (by omega), by omega⟩)
      rcases List.mem_or_eq_of_mem_set hx with h | rfl
      · exact hp64 x h
      · exact ⟨by omega, by omega⟩
    · have hjl' : j.toNat = g.length := by omega
      rw [hjl'] at hP
      have hP' := hP.next hg
      rw [← show (i + 1).toNat = i.toNat + 1 by omega] at hP'
      (repeat (first | refine seq_ ?_ | refine sq_normal ?_ | refine sq_exit ?_ | refine rl_nil ?_ | refine cond_f rfl ?_ | refine exit_ ?_ | refine inBlock_normal ?_ | refine inBlock_exit ?_ | refine kq_exit ?_ | (refine region_ (id := 4) ?_; (try (refine rl_move (v := (Value.int _ _ : Value)) rfl rfl ?_; (try ((refine rl_add rfl rfl rfl ?_ ?_ ?_; omega; omega); (try (refine rl_assign (v := (Value.int _ _ : Value)) rfl rfl ?_))))))) | (refine region_ (id := 6) ?_; (try (refine rl_move (v := (Value.int _ _ : Value)) rfl rfl ?_; (try (refine rl_move (v := (Value.slice _ _ _ : Value)) rfl rfl ?_; (try (refine rl_move (v := (Value.int _ _ : Value)) rfl rfl ?_; (try ((first | (refine rl_idx1 sl22 rfl rfl rfl rfl ?_ ?_ ?_; omega; omega) | (apply rl_idx1 sl22 rfl rfl rfl; assumption; omega; omega)); (try ((apply rl_load vt29 rfl rfl; assumption); (try (refine rl_len sl29 rfl rfl ?_; (try ((first | (refine rl_lss_t rfl rfl rfl ?_ ?_; omega) | (refine rl_lss_f rfl rfl rfl ?_ ?_; omega)))))))))))))))))))
      exact kq_normal (hL0 ((groups k L).length - (i + 1)).toNat _ _ (by omega) (by (repeat (first | with_reducible exact Agree.ov | with_reducible exact Agree.refl _ _ | refine Agree.upd rfl ?_ | refine Agree.ovs rfl ?_))) ⟨i + 1, p, rfl, by omega, by omega, rfl, hB5, hpl, hp64, hP', hb5, hs5⟩)
  · rw [show i.toNat = (groups k L).length by omega] at hP
    (repeat (first | refine seq_ ?_ | refine sq_normal ?_ | refine sq_exit ?_ | refine rl_nil ?_ | refine cond_f rfl ?_ | refine ret_ ?_ | refine exit_ ?_ | refine inBlock_exit ?_ | refine kq_exit ?_ | (refine region_ (id := 3) ?_; (try (refine rl_move (v := (Value.int _ _ : Value)) rfl rfl ?_; (try (refine rl_move (v := (Value.slice _ _ _ : Value)) rfl rfl ?_; (try (refine rl_len sl22 rfl rfl ?_; (try ((first | (refine rl_lss_t rfl rfl rfl ?_ ?_; omega) | (refine rl_lss_f rfl rfl rfl ?_ ?_; omega))))))))))) | (refine region_ (id := 11) ?_; (try (refine rl_move (v := (Value.slice _ _ _ : Value)) rfl rfl ?_; (try (refine rl_assign (v := (Value.slice _ _ _ : Value)) rfl rfl ?_)))))))
    refine bp_ret1 (v := Value.slice _ _ _) rfl rfl ⟨hb4, p, ?_, hpl, hP⟩
    have := blk_ints hB4 (by unfold maxLen; omega) hp64
    rwa [hpl] at this
end Go.Proofs.Ytgiifodmbckbmaa.Scc
