/- The walk of fugueref07.Same: are two lists of lists the same. -/
import Derived.Test.YtgiifodmbckbmaaSccW1
set_option linter.unusedVariables false
set_option linter.unusedSimpArgs false
namespace Go.Proofs.Ytgiifodmbckbmaa.Scc
open Go Go.Eng Go.RowKit
attribute [local irreducible] RL RX KQ SQ Exit.inBlock Exit.then BP NP CallsOk IsSl IsRows IsInts IsBools Own Blk Code.wp Calls wpList
theorem mo : Try.prog.follows .mixedOrders = true := by kernel_rfl
theorem list_ext_int {α : Type} {la lb : List α} (hl : la.length = lb.length) (h : ∀ j : Int, 0 ≤ j → j < la.length → la[j.toNat]? = lb[j.toNat]?) : la = lb := by
  apply List.ext_getElem?
  intro i
  by_cases hi : i < la.length
  · exact h i (by omega) (by omega)
  · rw [List.getElem?_eq_none (by omega), List.getElem?_eq_none (by omega)]
set_option maxHeartbeats 4000000 in
theorem same_ok (va vb : Value) (la lb : List (List Int)) (w : World) (ha : IsRows w.cell? va la) (hb : IsRows w.cell? vb lb) :
    CallsOk Try.prog 11 #[va, vb] w fun v w' => v = .bool (decide (la = lb)) ∧ Below w.heap.size w w' := by
  obtain ⟨aa, ac, ab, ao, rfl, halc, hac, haa, hacell⟩ := ha.open
  obtain ⟨ba, bc, bb, bo, rfl, hblc, hbc, hba, hbcell⟩ := hb.open
  have hml := maxLen_le
  refine enter_ (N := 53) Try.func11 rfl rfl rfl ?_
  by_cases hl : (la.length : Int) = lb.length
  · (repeat (first | refine seq_ ?_ | refine sq_normal ?_ | refine rl_nil ?_ | refine cond_f rfl ?_ | refine skip_ ?_ | refine block_ ?_ | (refine region_ (id := 0) ?_; (try (refine rl_assign (v := (Value.bool _ : Value)) rfl rfl ?_))) | (refine region_ (id := 1) ?_; (try (refine rl_move (v := (Value.slice _ _ _ : Value)) rfl rfl ?_; (try (refine rl_len sl22 rfl rfl ?_; (try (refine rl_move (v := (Value.slice _ _ _ : Value)) rfl rfl ?_; (try (refine rl_len sl22 rfl rfl ?_; (try ((first | (refine rl_neq_t rfl rfl rfl ?_ ?_; omega) | (refine rl_neq_f rfl rfl rfl ?_ ?_; omega))))))))))))) | (refine region_ (id := 3) ?_; (try (refine rl_assign (v := (Value.int _ _ : Value)) rfl rfl ?_)))))
    have hl' : la.length = lb.length := by omega
    refine loop1 [(4, 7), (12, 53)] 5 (fun m v wr => ∃ (i : Int), v = .int .i64 i ∧ 0 ≤ i ∧ i ≤ la.length ∧ m = (la.length - i).toNat ∧ Below w.heap.size w wr ∧ (∀ j, 0 ≤ j → j < i → la[j.toNat]? = lb[j.toNat]?)) _
      ⟨0, rfl, by omega, by omega, rfl, Below.refl _ _, fun j h0 h1 => by omega⟩ ?_
    rintro m τ v w1 ⟨i, rfl, hi0, hil, rfl, hb1, hd⟩ K0 hL0
    by_cases hi : i < la.length
    · have haa' := haa (by omega)
      have hba' := hba (by omega)
      subst haa' hba'
      obtain ⟨ra, hra⟩ : ∃ r, la[i.toNat]? = some r := ⟨la[i.toNat]'(by omega), by simp⟩
      obtain ⟨rb, hrb⟩ : ∃ r, lb[i.toNat]? = some r := ⟨lb[i.toNat]'(by omega), by simp⟩
      obtain ⟨u, hu, hui⟩ := hacell _ _ hra
      obtain ⟨z, hz, hzi⟩ := hbcell _ _ hrb
      obtain ⟨pa, pc, pb, po, rfl, hplc, hpc, hpa, hpcell⟩ := hui.open
      obtain ⟨qa, qc, qb, qo, rfl, hqlc, hqc, hqa, hqcell⟩ := hzi.open
      have c1 : w1.cell? ⟨ab, ao + i.toNat, none⟩ = some (.slice pa ra.length pc) := cell_below hu hb1 (Nat.le_refl _)
      have c2 : w1.cell? ⟨bb, bo + i.toNat, none⟩ = some (.slice qa rb.length qc) := cell_below hz hb1 (Nat.le_refl _)
      by_cases hrl : (ra.length : Int) = rb.length
      · have hrl' : ra.length = rb.length := by omega
        (repeat (first | refine seq_ ?_ | refine sq_normal ?_ | refine rl_nil ?_ | refine cond_t rfl ?_ | refine skip_ ?_ | refine block_ ?_ | (refine region_ (id := 4) ?_; (try (refine rl_move (v := (Value.int _ _ : Value)) rfl rfl ?_; (try (refine rl_move (v := (Value.slice _ _ _ : Value)) rfl rfl ?_; (try (refine rl_len sl22 rfl rfl ?_; (try ((first | (refine rl_lss_t rfl rfl rfl ?_ ?_; omega) | (refine rl_lss_f rfl rfl rfl ?_ ?_; omega)))))))))))))
        (refine drawn_ 10 [(0, false), (1, false), (2, false), (3, false), (4, false), (5, false), (6, false), (7, false), (8, false), (9, false)] mo (by kernel_rfl) ?_; intro w2 hb2 hs2 hk2; (try (refine rx_move (v := (Value.slice _ _ _ : Value)) rfl rfl rfl ?_; (try (refine rx_move (v := (Value.int _ _ : Value)) rfl rfl rfl ?_; (try ((first | (refine rx_idx1 rfl sl22 rfl rfl rfl rfl ?_ ?_ ?_; omega; omega) | (apply rx_idx1 rfl sl22 rfl rfl rfl; assumption; omega; omega)); (try ((apply rx_load rfl vt29 rfl rfl; (intro _ hS; apply hS; assumption)); (try (refine rx_len rfl sl29 rfl rfl ?_; (try (refine rx_move (v := (Value.slice _ _ _ : Value)) rfl rfl rfl ?_; (try (refine rx_move (v := (Value.int _ _ : Value)) rfl rfl rfl ?_; (try ((first | (refine rx_idx1 rfl sl22 rfl rfl rfl rfl ?_ ?_ ?_; omega; omega) | (apply rx_idx1 rfl sl22 rfl rfl rfl; assumption; omega; omega)); (try ((apply rx_load rfl vt29 rfl rfl; (intro _ hS; apply hS; assumption)); (try (refine rx_len rfl sl29 rfl rfl ?_)))))))))))))))))))))
        refine rx_nil rfl ?_
        (repeat (first | refine seq_ ?_ | refine sq_normal ?_ | refine rl_nil ?_ | refine cond_f rfl ?_ | refine skip_ ?_ | refine block_ ?_ | refine np_normal ?_ | (refine region_ (id := 8) ?_; (try (refine rl_assign (v := (Value.int _ _ : Value)) rfl rfl ?_))) | (refine rl_neq_f rfl rfl rfl ?_ ?_; omega)))
        have hb2' : Below w.heap.size w w2 := below_ext hb1 hb2 hb1.size
        refine loop1 [(4, 5), (6, 7), (29, 53)] 6 (fun m v wr => ∃ (k : Int), v = .int .i64 k ∧ 0 ≤ k ∧ k ≤ ra.length ∧ m = (ra.length - k).toNat ∧ Below w.heap.size w wr ∧ (∀ j, 0 ≤ j → j < k → ra[j.toNat]? = rb[j.toNat]?)) _
          ⟨0, rfl, by omega, by omega, rfl, hb2', fun j h0 h1 => by omega⟩ ?_
        clear hb2' hb2 hk2 hs2 hb1 c1 c2
        rintro m τ1 v w3 ⟨k, rfl, hk0, hkl, rfl, hb3, he⟩ K1 hL1
        have c1 : w3.cell? ⟨ab, ao + i.toNat, none⟩ = some (.slice pa ra.length pc) := cell_below hu hb3 (Nat.le_refl _)
        have c2 : w3.cell? ⟨bb, bo + i.toNat, none⟩ = some (.slice qa rb.length qc) := cell_below hz hb3 (Nat.le_refl _)
        by_cases hk : k < ra.length
        · have hpa' := hpa (by omega)
          have hqa' := hqa (by omega)
          subst hpa' hqa'
          obtain ⟨x, hx⟩ : ∃ r, ra[k.toNat]? = some r := ⟨ra[k.toNat]'(by omega), by simp⟩
          obtain ⟨y, hy⟩ : ∃ r, rb[k.toNat]? = some r := ⟨rb[k.toNat]'(by omega), by simp⟩
          have c3 : w3.cell? ⟨pb, po + k.toNat, none⟩ = some (.int .i64 x) := cell_below (hpcell _ _ hx) hb3 (Nat.le_refl _)
          have c4 : w3.cell? ⟨qb, qo + k.toNat, none⟩ = some (.int .i64 y) := cell_below (hqcell _ _ hy) hb3 (Nat.le_refl _)
          by_cases hxy : x = y
          · (repeat (first | refine seq_ ?_ | refine sq_normal ?_ | refine rl_nil ?_ | refine cond_t rfl ?_ | refine skip_ ?_ | refine block_ ?_ | (refine region_ (id := 9) ?_; (try (refine rl_move (v := (Value.int _ _ : Value)) rfl rfl ?_; (try (refine rl_move (v := (Value.slice _ _ _ : Value)) rfl rfl ?_; (try (refine rl_move (v := (Value.int _ _ : Value)) rfl rfl ?_; (try ((first | (refine rl_idx1 sl22 rfl rfl rfl rfl ?_ ?_ ?_; omega; omega) | (apply rl_idx1 sl22 rfl rfl rfl; assumption; omega; omega)); (try ((apply rl_load vt29 rfl rfl; assumption); (try (refine rl_len sl29 rfl rfl ?_; (try ((first | (refine rl_lss_t rfl rfl rfl ?_ ?_; omega) | (refine rl_lss_f rfl rfl rfl ?_ ?_; omega)))))))))))))))))))
            (refine drawn_ 14 [(0, false), (1, false), (2, false), (3, false), (4, false), (5, false), (6, false), (7, false), (8, false), (9, false), (10, false), (11, false), (12, false), (13, false)] mo (by kernel_rfl) ?_; intro w4 hb4 hs4 hk4; (try (refine rx_move (v := (Value.slice _ _ _ : Value)) rfl rfl rfl ?_; (try (refine rx_move (v := (Value.int _ _ : Value)) rfl rfl rfl ?_; (try ((first | (refine rx_idx1 rfl sl22 rfl rfl rfl rfl ?_ ?_ ?_; omega; omega) | (apply rx_idx1 rfl sl22 rfl rfl rfl; assumption; omega; omega)); (try ((apply rx_load rfl vt29 rfl rfl; (intro _ hS; apply hS; assumption)); (try (refine rx_move (v := (Value.int _ _ : Value)) rfl rfl rfl ?_; (try ((first | (refine rx_idx1 rfl sl29 rfl rfl rfl rfl ?_ ?_ ?_; omega; omega) | (apply rx_idx1 rfl sl29 rfl rfl rfl; assumption; omega; omega)); (try ((apply rx_load rfl vt3 rfl rfl; (intro _ hS; apply hS; assumption)); (try (refine rx_move (v := (Value.slice _ _ _ : Value)) rfl rfl rfl ?_; (try (refine rx_move (v := (Value.int _ _ : Value)) rfl rfl rfl ?_; (try ((first | (refine rx_idx1 rfl sl22 rfl rfl rfl rfl ?_ ?_ ?_; omega; omega) | (apply rx_idx1 rfl sl22 rfl rfl rfl; assumption; omega; omega)); (try ((apply rx_load rfl vt29 rfl rfl; (intro _ hS; apply hS; assumption)); (try (refine rx_move (v := (Value.int _ _ : Value)) rfl rfl rfl ?_; (try ((first | (refine rx_idx1 rfl sl29 rfl rfl rfl rfl ?_ ?_ ?_; omega; omega) | (apply rx_idx1 rfl sl29 rfl rfl rfl; assumption; omega; omega)); (try ((apply rx_load rfl vt3 rfl rfl; (intro _ hS; apply hS; assumption)))))))))))))))))))))))))))))))
            refine rx_nil rfl ?_
            (repeat (first | refine sq_normal ?_ | refine rl_nil ?_ | refine cond_f rfl ?_ | refine skip_ ?_ | refine inBlock_normal ?_ | refine np_normal ?_ | (refine region_ (id := 10) ?_; (try (refine rl_move (v := (Value.int _ _ : Value)) rfl rfl ?_; (try ((refine rl_add rfl rfl rfl ?_ ?_ ?_; omega; omega); (try (refine rl_assign (v := (Value.int _ _ : Value)) rfl rfl ?_))))))) | (refine rl_neq_f rfl rfl rfl ?_ ?_; omega)))
            refine kq_normal (hL1 (ra.length - (k + 1)).toNat _ _ (by omega) (by (repeat (first | with_reducible exact Agree.ov | with_reducible exact Agree.refl _ _ | refine Agree.upd rfl ?_ | refine Agree.ovs rfl ?_))) ⟨k + 1, rfl, by omega, by omega, rfl, below_ext hb3 hb4 hb3.size, ?_⟩)
            intro j h0 h1
            by_cases hjk : j = k
            · subst hjk; rw [hx, hy, hxy]
            · exact he j h0 (by omega)
          · (repeat (first | refine seq_ ?_ | refine sq_normal ?_ | refine rl_nil ?_ | refine cond_t rfl ?_ | refine skip_ ?_ | refine block_ ?_ | (refine region_ (id := 9) ?_; (try (refine rl_move (v := (Value.int _ _ : Value)) rfl rfl ?_; (try (refine rl_move (v := (Value.slice _ _ _ : Value)) rfl rfl ?_; (try (refine rl_move (v := (Value.int _ _ : Value)) rfl rfl ?_; (try ((first | (refine rl_idx1 sl22 rfl rfl rfl rfl ?_ ?_ ?_; omega; omega) | (apply rl_idx1 sl22 rfl rfl rfl; assumption; omega; omega)); (try ((apply rl_load vt29 rfl rfl; assumption); (try (refine rl_len sl29 rfl rfl ?_; (try ((first | (refine rl_lss_t rfl rfl rfl ?_ ?_; omega) | (refine rl_lss_f rfl rfl rfl ?_ ?_; omega)))))))))))))))))))
            (refine drawn_ 14 [(0, false), (1, false), (2, false), (3, false), (4, false), (5, false), (6, false), (7, false), (8, false), (9, false), (10, false), (11, false), (12, false), (13, false)] mo (by kernel_rfl) ?_; intro w4 hb4 hs4 hk4; (try (refine rx_move (v := (Value.slice _ _ _ : Value)) rfl rfl rfl ?_; (try (refine rx_move (v := (Value.int _ _ : Value)) rfl rfl rfl ?_; (try ((first | (refine rx_idx1 rfl sl22 rfl rfl rfl rfl ?_ ?_ ?_; omega; omega) | (apply rx_idx1 rfl sl22 rfl rfl rfl; assumption; omega; omega)); (try ((apply rx_load rfl vt29 rfl rfl; (intro _ hS; apply hS; assumption)); (try (refine rx_move (v := (Value.int _ _ : Value)) rfl rfl rfl ?_; (try ((first | (refine rx_idx1 rfl sl29 rfl rfl rfl rfl ?_ ?_ ?_; omega; omega) | (apply rx_idx1 rfl sl29 rfl rfl rfl; assumption; omega; omega)); (try ((apply rx_load rfl vt3 rfl rfl; (intro _ hS; apply hS; assumption)); (try (refine rx_move (v := (Value.slice _ _ _ : Value)) rfl rfl rfl ?_; (try (refine rx_move (v := (Value.int _ _ : Value)) rfl rfl rfl ?_; (try ((first | (refine rx_idx1 rfl sl22 rfl rfl rfl rfl ?_ ?_ ?_; omega; omega) | (apply rx_idx1 rfl sl22 rfl rfl rfl; assumption; omega; omega)); (try ((apply rx_load rfl vt29 rfl rfl; (intro _ hS; apply hS; assumption)); (try (refine rx_move (v := (Value.int _ _ : Value)) rfl rfl rfl ?_; (try ((first | (refine rx_idx1 rfl sl29 rfl rfl rfl rfl ?_ ?_ ?_; omega; omega) | (apply rx_idx1 rfl sl29 rfl rfl rfl; assumption; omega; omega)); (try ((apply rx_load rfl vt3 rfl rfl; (intro _ hS; apply hS; assumption)))))))))))))))))))))))))))))))
            refine rx_nil rfl ?_
            (repeat (first | refine seq_ ?_ | refine sq_normal ?_ | refine sq_ret ?_ | refine rl_nil ?_ | refine cond_t rfl ?_ | refine ret_ ?_ | refine inBlock_ret ?_ | refine kq_ret ?_ | refine np_normal ?_ | (refine region_ (id := 12) ?_; (try (refine rl_assign (v := (Value.bool _ : Value)) rfl rfl ?_))) | (refine rl_neq_t rfl rfl rfl ?_ ?_; omega)))
            refine bp_ret1 (v := Value.bool _) rfl rfl ⟨?_, below_ext hb3 hb4 hb3.size⟩
            rw [decide_eq_false]
            rintro rfl
            rw [hra] at hrb; cases hrb
            rw [hx] at hy; cases hy
            exact hxy rfl
        · (repeat (first | refine seq_ ?_ | refine sq_normal ?_ | refine sq_exit ?_ | refine rl_nil ?_ | refine cond_f rfl ?_ | refine exit_ ?_ | refine inBlock_normal ?_ | refine inBlock_exit ?_ | refine kq_exit ?_ | (refine region_ (id := 5) ?_; (try (refine rl_move (v := (Value.int _ _ : Value)) rfl rfl ?_; (try ((refine rl_add rfl rfl rfl ?_ ?_ ?_; omega; omega); (try (refine rl_assign (v := (Value.int _ _ : Value)) rfl rfl ?_))))))) | (refine region_ (id := 9) ?_; (try (refine rl_move (v := (Value.int _ _ : Value)) rfl rfl ?_; (try (refine rl_move (v := (Value.slice _ _ _ : Value)) rfl rfl ?_; (try (refine rl_move (v := (Value.int _ _ : Value)) rfl rfl ?_; (try ((first | (refine rl_idx1 sl22 rfl rfl rfl rfl ?_ ?_ ?_; omega; omega) | (apply rl_idx1 sl22 rfl rfl rfl; assumption; omega; omega)); (try ((apply rl_load vt29 rfl rfl; assumption); (try (refine rl_len sl29 rfl rfl ?_; (try ((first | (refine rl_lss_t rfl rfl rfl ?_ ?_; omega) | (refine rl_lss_f rfl rfl rfl ?_ ?_; omega)))))))))))))))))))
          refine kq_normal (hL0 (la.length - (i + 1)).toNat _ _ (by omega) (by (repeat (first | with_reducible exact Agree.ov | with_reducible exact Agree.refl _ _ | refine Agree.upd rfl ?_ | refine Agree.ovs rfl ?_))) ⟨i + 1, rfl, by omega, by omega, rfl, hb3, ?_⟩)
          intro j h0 h1
          by_cases hji : j = i
          · subst hji
            rw [hra, hrb]
            congr 1
            exact list_ext_int hrl' fun p h0 h1 => he p h0 (by omega)
          · exact hd j h0 (by omega)
      · (repeat (first | refine seq_ ?_ | refine sq_normal ?_ | refine rl_nil ?_ | refine cond_t rfl ?_ | refine skip_ ?_ | refine block_ ?_ | (refine region_ (id := 4) ?_; (try (refine rl_move (v := (Value.int _ _ : Value)) rfl rfl ?_; (try (refine rl_move (v := (Value.slice _ _ _ : Value)) rfl rfl ?_; (try (refine rl_len sl22 rfl rfl ?_; (try ((first | (refine rl_lss_t rfl rfl rfl ?_ ?_; omega) | (refine rl_lss_f rfl rfl rfl ?_ ?_; omega)))))))))))))
        (refine drawn_ 10 [(0, false), (1, false), (2, false), (3, false), (4, false), (5, false), (6, false), (7, false), (8, false), (9, false)] mo (by kernel_rfl) ?_; intro w2 hb2 hs2 hk2; (try (refine rx_move (v := (Value.slice _ _ _ : Value)) rfl rfl rfl ?_; (try (refine rx_move (v := (Value.int _ _ : Value)) rfl rfl rfl ?_; (try ((first | (refine rx_idx1 rfl sl22 rfl rfl rfl rfl ?_ ?_ ?_; omega; omega) | (apply rx_idx1 rfl sl22 rfl rfl rfl; assumption; omega; omega)); (try ((apply rx_load rfl vt29 rfl rfl; (intro _ hS; apply hS; assumption)); (try (refine rx_len rfl sl29 rfl rfl ?_; (try (refine rx_move (v := (Value.slice _ _ _ : Value)) rfl rfl rfl ?_; (try (refine rx_move (v := (Value.int _ _ : Value)) rfl rfl rfl ?_; (try ((first | (refine rx_idx1 rfl sl22 rfl rfl rfl rfl ?_ ?_ ?_; omega; omega) | (apply rx_idx1 rfl sl22 rfl rfl rfl; assumption; omega; omega)); (try ((apply rx_load rfl vt29 rfl rfl; (intro _ hS; apply hS; assumption)); (try (refine rx_len rfl sl29 rfl rfl ?_)))))))))))))))))))))
        refine rx_nil rfl ?_
        (repeat (first | refine seq_ ?_ | refine sq_normal ?_ | refine sq_ret ?_ | refine rl_nil ?_ | refine cond_t rfl ?_ | refine ret_ ?_ | refine inBlock_ret ?_ | refine kq_ret ?_ | refine np_normal ?_ | (refine region_ (id := 7) ?_; (try (refine rl_assign (v := (Value.bool _ : Value)) rfl rfl ?_))) | (refine rl_neq_t rfl rfl rfl ?_ ?_; omega)))
        refine bp_ret1 (v := Value.bool _) rfl rfl ⟨?_, below_ext hb1 hb2 hb1.size⟩
        rw [decide_eq_false]
        rintro rfl
        rw [hra] at hrb; cases hrb
        exact hrl rfl
    · (repeat (first | refine seq_ ?_ | refine sq_normal ?_ | refine sq_exit ?_ | refine rl_nil ?_ | refine cond_f rfl ?_ | refine ret_ ?_ | refine exit_ ?_ | refine inBlock_exit ?_ | refine kq_exit ?_ | (refine region_ (id := 4) ?_; (try (refine rl_move (v := (Value.int _ _ : Value)) rfl rfl ?_; (try (refine rl_move (v := (Value.slice _ _ _ : Value)) rfl rfl ?_; (try (refine rl_len sl22 rfl rfl ?_; (try ((first | (refine rl_lss_t rfl rfl rfl ?_ ?_; omega) | (refine rl_lss_f rfl rfl rfl ?_ ?_; omega))))))))))) | (refine region_ (id := 13) ?_; (try (refine rl_assign (v := (Value.bool _ : Value)) rfl rfl ?_)))))
      refine bp_ret1 (v := Value.bool _) rfl rfl ⟨?_, hb1⟩
      rw [decide_eq_true (list_ext_int hl' fun j h0 h1 => hd j h0 (by omega))]
  · (repeat (first | refine seq_ ?_ | refine sq_normal ?_ | refine sq_ret ?_ | refine rl_nil ?_ | refine cond_t rfl ?_ | refine ret_ ?_ | (refine region_ (id := 0) ?_; (try (refine rl_assign (v := (Value.bool _ : Value)) rfl rfl ?_))) | (refine region_ (id := 1) ?_; (try (refine rl_move (v := (Value.slice _ _ _ : Value)) rfl rfl ?_; (try (refine rl_len sl22 rfl rfl ?_; (try (refine rl_move (v := (Value.slice _ _ _ : Value)) rfl rfl ?_; (try (refine rl_len sl22 rfl rfl ?_; (try ((first | (refine rl_neq_t rfl rfl rfl ?_ ?_; omega) | (refine rl_neq_f rfl rfl rfl ?_ ?_; omega))))))))))))) | (refine region_ (id := 2) ?_; (try (refine rl_assign (v := (Value.bool _ : Value)) rfl rfl ?_)))))
    refine bp_ret1 (v := Value.bool _) rfl rfl ⟨?_, Below.refl _ _⟩
    rw [decide_eq_false (by rintro rfl; exact hl rfl)]
end Go.Proofs.Ytgiifodmbckbmaa.Scc
