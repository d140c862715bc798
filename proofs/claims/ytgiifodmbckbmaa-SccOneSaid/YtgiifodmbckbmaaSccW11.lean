/- The walk of fugueref07.Groups. -/
import Derived.Test.YtgiifodmbckbmaaSccW9
import Derived.Test.YtgiifodmbckbmaaSccW2
set_option linter.unusedVariables false
set_option linter.unusedSimpArgs false
namespace Go.Proofs.Ytgiifodmbckbmaa.Scc
open Go Go.Eng Go.RowKit Go.Scc
attribute [local irreducible] RL RX KQ SQ Exit.inBlock Exit.then BP NP CallsOk IsSl IsRows IsInts IsBools Own Blk Code.wp Calls wpList
theorem fn17 : FnT Try.prog 17 := FnT.mk' Try.func17 (by kernel_rfl) rfl
/-- The rows that are made so far, in a table that is made whole at first. -/
def Tab (w : World) (n : Int) (ls : List (List Int)) (us : List Value) (b i : Nat) : Prop :=
  ∀ k : Nat, k < i → ∃ (c : Nat) (S : List Bool), us[k]? = some (.slice (some ⟨c, 0, none⟩) n.toNat n.toNat) ∧ Blk w c (S.map Value.bool) 4 ∧ S.length = n.toNat ∧ (∀ t : Nat, t < n.toNat → S[t]? = some (rB n ls k t)) ∧ b < c
theorem Tab.keep {w w' : World} {n : Int} {ls : List (List Int)} {us us' : List Value} {b i c : Nat} (h : Tab w n ls us b i) (hc : Chg c w w') (hcs : c = b ∨ w.heap.size ≤ c) (hu : ∀ k, k < i → us'[k]? = us[k]?) : Tab w' n ls us' b i := by
  intro k hk
  obtain ⟨c', S, e1, e2, e3, e4, e5⟩ := h k hk
  have := e2.lt
  exact ⟨c', S, by rw [hu k hk]; exact e1, e2.chg hc (by omega), e3, e4, e5⟩
set_option maxHeartbeats 4000000 in
theorem refgroups_ok (n : Int) (uv : Value) (ls : List (List Int)) (w : World) (hn0 : 0 ≤ n) (hn : n ≤ 1000) (hu : IsRows w.cell? uv ls) :
    CallsOk Try.prog 13 #[.int .i64 n, uv] w fun v w' => Below w.heap.size w w' ∧ ∃ B us bs b, w.heap.size ≤ B ∧ Rws w' B v (groups n ls) us bs b := by
  have hml := maxLen_le
  have hu0 := hu
  obtain ⟨aa, ac, ab, ao, rfl, halc, hac, haa, hacell⟩ := hu.open
  refine enter_ (N := 128) Try.func13 rfl rfl rfl ?_
  (repeat (first | refine seq_ ?_ | refine sq_normal ?_ | refine rl_nil ?_ | (refine region_ (id := 0) ?_; (try (refine rl_assign (v := (Value.slice _ _ _ : Value)) rfl rfl ?_))) | (refine region_ (id := 1) ?_; (try (refine rl_move (v := (Value.int _ _ : Value)) rfl rfl ?_)))))
  refine rl_make1 sl33 rfl rfl rfl ?_ ?_ ?_ ?_
  · omega
  · omega
  · omega
  intro w1 hB1 hb1 hs1
  (repeat (first | refine seq_ ?_ | refine sq_normal ?_ | refine rl_nil ?_ | refine block_ ?_ | (refine region_ (id := 2) ?_; (try (refine rl_assign (v := (Value.int _ _ : Value)) rfl rfl ?_))) | refine rl_assign (v := (Value.slice _ _ _ : Value)) rfl rfl ?_))
  refine loop1 [(6, 8), (18, 44)] 6 (fun m v wr => ∃ (i : Int) (us : List Value), v = .int .i64 i ∧ 0 ≤ i ∧ i ≤ n ∧ m = (n - i).toNat ∧ Blk wr w.heap.size us 34 ∧ us.length = n.toNat ∧ Tab wr n ls us w.heap.size i.toNat ∧ Below w.heap.size w wr) _
    ⟨0, List.replicate n.toNat (.slice none 0 0), rfl, by omega, by omega, rfl, hB1, by simp, fun k hk => absurd hk (by simp), hb1⟩ ?_
  clear hB1 hb1
  rintro m τ v w2 ⟨i, us, rfl, hi0, hin, rfl, hB2, hul, hT2, hb2⟩ K0 hL0
  have hlow := hB2.lt
  by_cases hi : i < n
  · (repeat (first | refine seq_ ?_ | refine sq_normal ?_ | refine rl_nil ?_ | refine cond_t rfl ?_ | refine skip_ ?_ | refine block_ ?_ | (refine region_ (id := 3) ?_; (try (refine rl_move (v := (Value.int _ _ : Value)) rfl rfl ?_; (try (refine rl_move (v := (Value.int _ _ : Value)) rfl rfl ?_; (try ((first | (refine rl_lss_t rfl rfl rfl ?_ ?_; omega) | (refine rl_lss_f rfl rfl rfl ?_ ?_; omega))))))))) | (refine region_ (id := 5) ?_; (try (refine rl_move (v := (Value.slice _ _ _ : Value)) rfl rfl ?_; (try (refine rl_move (v := (Value.int _ _ : Value)) rfl rfl ?_; (try (refine rl_move (v := (Value.int _ _ : Value)) rfl rfl ?_)))))))))
    refine rl_make1 sl34 rfl rfl rfl ?_ ?_ ?_ ?_
    · omega
    · omega
    · omega
    intro w3 hB3 hb3 hs3
    (repeat (first | (first | (refine rl_idx1 sl22 rfl rfl rfl rfl ?_ ?_ ?_; omega; omega) | (apply rl_idx1 sl22 rfl rfl rfl; assumption; omega; omega) | (refine rl_idx1 sl29 rfl rfl rfl rfl ?_ ?_ ?_; omega; omega) | (apply rl_idx1 sl29 rfl rfl rfl; assumption; omega; omega) | (refine rl_idx1 sl33 rfl rfl rfl rfl ?_ ?_ ?_; omega; omega) | (apply rl_idx1 sl33 rfl rfl rfl; assumption; omega; omega) | (refine rl_idx1 sl34 rfl rfl rfl rfl ?_ ?_ ?_; omega; omega) | (apply rl_idx1 sl34 rfl rfl rfl; assumption; omega; omega))))
    refine rl_store (v := Value.slice (some ⟨w2.heap.size, 0, none⟩) n.toNat n.toNat) vt34 rfl rfl rfl rfl (hB2.ext hb3) ?_ ?_
    · omega
    intro w4 hB4 hc4 hs4
    (repeat (first | refine seq_ ?_ | refine sq_normal ?_ | refine rl_nil ?_ | refine block_ ?_ | (refine region_ (id := 6) ?_; (try (refine rl_assign (v := (Value.int _ _ : Value)) rfl rfl ?_)))))
    have hus' : ∀ k, k < i.toNat → (us.set (0 + i.toNat) (Value.slice (some ⟨w2.heap.size, 0, none⟩) n.toNat n.toNat))[k]? = us[k]? := fun k hk => by rw [List.getElem?_set_ne (by omega)]
    have hc24 : Chg w.heap.size w2 w4 := (Chg.of_ext w.heap.size hb3).trans hc4
    have hr4 : Blk w4 w2.heap.size ((List.replicate n.toNat false).map Value.bool) 4 := by simpa using hB3.chg hc4 (by omega)
    have hb4 : Below w.heap.size w w4 := below_chg (below_ext hb2 hb3 hb2.size) hc4 (Nat.le_refl _) (by omega)
    obtain ⟨us4, hus4⟩ : ∃ us4, us4 = us.set (0 + i.toNat) (Value.slice (some ⟨w2.heap.size, 0, none⟩) n.toNat n.toNat) := ⟨_, rfl⟩
    have hul4 : us4.length = n.toNat := by rw [hus4]; simp [hul]
    have hui4 : us4[i.toNat]? = some (Value.slice (some ⟨w2.heap.size, 0, none⟩) n.toNat n.toNat) := by rw [hus4, Nat.zero_add, List.getElem?_set_self (by omega)]
    rw [← hus4] at hB4 hus'
    clear hus4 hB3 hc4 hB2
    obtain ⟨c, hcdef⟩ : ∃ c, c = w2.heap.size := ⟨_, rfl⟩
    rw [← hcdef] at hr4 hui4
    have hcb : w.heap.size < c := by omega
    have hc4 : c < w4.heap.size := hr4.lt
    refine loop1 [(7, 8), (28, 44)] 7 (fun m v wr => ∃ (k : Int) (S : List Bool), v = .int .i64 k ∧ 0 ≤ k ∧ k ≤ n ∧ m = (n - k).toNat ∧ Blk wr w.heap.size us4 34 ∧ Blk wr c (S.map Value.bool) 4 ∧ S.length = n.toNat ∧ (∀ t : Nat, (t : Int) < k → S[t]? = some (rB n ls i t)) ∧ Chg w.heap.size w2 wr ∧ Below w.heap.size w wr) _
      ⟨0, List.replicate n.toNat false, rfl, by omega, by omega, rfl, hB4, hr4, by simp, fun t ht => by omega, hc24, hb4⟩ ?_
    clear hB4 hr4 hc24 hb4
    rintro m τ1 v w5 ⟨k, S, rfl, hk0, hkn, rfl, hB5, hr5, hSl, hSr, hc5, hb5⟩ K1 hL1
    have c1 : w5.cell? ⟨w.heap.size, 0 + i.toNat, none⟩ = some (.slice (some ⟨c, 0, none⟩) n.toNat n.toNat) := hB5.cell_some (by simpa using hui4)
    by_cases hk : k < n
    · (repeat (first | refine seq_ ?_ | refine sq_normal ?_ | refine rl_nil ?_ | refine cond_t rfl ?_ | refine skip_ ?_ | refine block_ ?_ | (refine region_ (id := 7) ?_; (try (refine rl_move (v := (Value.int _ _ : Value)) rfl rfl ?_; (try (refine rl_move (v := (Value.int _ _ : Value)) rfl rfl ?_; (try ((first | (refine rl_lss_t rfl rfl rfl ?_ ?_; omega) | (refine rl_lss_f rfl rfl rfl ?_ ?_; omega)))))))))))
      (refine drawn_ 10 [(0, false), (1, false), (2, false), (3, false), (4, false), (5, false), (6, false), (7, false), (8, false), (9, true)] mo (by kernel_rfl) ?_; intro w6 hb6 hs6 hk6; (try (refine rx_move (v := (Value.slice _ _ _ : Value)) rfl rfl rfl ?_; (try (refine rx_move (v := (Value.int _ _ : Value)) rfl rfl rfl ?_; (try ((first | (refine rx_idx1 rfl sl33 rfl rfl rfl rfl ?_ ?_ ?_; omega; omega) | (apply rx_idx1 rfl sl33 rfl rfl rfl; assumption; omega; omega)); (try ((apply rx_load rfl vt34 rfl rfl; (intro _ hS; apply hS; assumption)); (try (refine rx_move (v := (Value.int _ _ : Value)) rfl rfl rfl ?_; (try (refine rx_move (v := (Value.int _ _ : Value)) rfl rfl rfl ?_; (try (refine rx_move (v := (Value.slice _ _ _ : Value)) rfl rfl rfl ?_; (try (refine rx_move (v := (Value.int _ _ : Value)) rfl rfl rfl ?_; (try (refine rx_move (v := (Value.int _ _ : Value)) rfl rfl rfl ?_)))))))))))))))))))
      refine rx_eff rfl (fun K2 hK2 => ?_)
      have hu6 : IsRows w6.cell? (.slice aa ls.length ac) ls := hu0.mono ((Keeps.below hb5 (Nat.le_refl _)).trans hk6)
      refine rl_callf fn17 (leads_ok n i k _ ls w6 hn0 hn hu6) rfl rfl ?_
      rintro _ w7 ⟨rfl, hb7⟩
      refine rl_nil (kq_normal (hK2 _ _ (hk6.trans (Keeps.of hb7)) ?_))
      refine rx_nil rfl ?_
      (repeat (first | (first | (refine rl_idx1 sl22 rfl rfl rfl rfl ?_ ?_ ?_; omega; omega) | (apply rl_idx1 sl22 rfl rfl rfl; assumption; omega; omega) | (refine rl_idx1 sl29 rfl rfl rfl rfl ?_ ?_ ?_; omega; omega) | (apply rl_idx1 sl29 rfl rfl rfl; assumption; omega; omega) | (refine rl_idx1 sl33 rfl rfl rfl rfl ?_ ?_ ?_; omega; omega) | (apply rl_idx1 sl33 rfl rfl rfl; assumption; omega; omega) | (refine rl_idx1 sl34 rfl rfl rfl rfl ?_ ?_ ?_; omega; omega) | (apply rl_idx1 sl34 rfl rfl rfl; assumption; omega; omega))))
      have hr7 := (hr5.ext hb6).ext hb7
      refine rl_store (v := Value.bool (rB n ls i k)) vt4 rfl rfl rfl rfl hr7 ?_ ?_
      · simp; omega
      intro w8 hr8 hc8 hs8
      (repeat (first | refine sq_normal ?_ | refine rl_nil ?_ | refine inBlock_normal ?_ | refine np_normal ?_ | (refine region_ (id := 8) ?_; (try (refine rl_move (v := (Value.int _ _ : Value)) rfl rfl ?_; (try ((refine rl_add rfl rfl rfl ?_ ?_ ?_; omega; omega); (try (refine rl_assign (v := (Value.int _ _ : Value)) rfl rfl ?_)))))))))
      have hsz7 := hb7.size
      refine kq_normal (hL1 (n - (k + 1)).toNat _ _ (by omega) (by (repeat (first | with_reducible exact Agree.ov | with_reducible exact Agree.refl _ _ | refine Agree.upd rfl ?_ | refine Agree.ovs rfl ?_))) ⟨k + 1, S.set k.toNat (rB n ls i k), rfl, by omega, by omega, rfl, ((hB5.ext hb6).ext hb7).chg hc8 (by omega), by simpa [List.map_set] using hr8, by simpa using hSl, ?_, ?_, ?_⟩)
      · intro t ht
        rw [List.getElem?_set]
        by_cases htk : k.toNat = t
        · subst htk
          rw [if_pos rfl, if_pos (by omega)]
          rw [show ((k.toNat : Nat) : Int) = k by omega]
        · rw [if_neg htk]; exact hSr t (by omega)
      · exact Chg.new ((hc5.trans (Chg.of_ext _ hb6)).trans (Chg.of_ext _ hb7)) hc8 (by omega)
      · exact below_chg (below_ext (below_ext hb5 hb6 hb5.size) hb7 (by have := hb5.size; omega)) hc8 (by omega) (by have := hb5.size; omega)
    · (repeat (first | refine seq_ ?_ | refine sq_normal ?_ | refine sq_exit ?_ | refine rl_nil ?_ | refine cond_f rfl ?_ | refine exit_ ?_ | refine inBlock_normal ?_ | refine inBlock_exit ?_ | refine kq_exit ?_ | (refine region_ (id := 4) ?_; (try (refine rl_move (v := (Value.int _ _ : Value)) rfl rfl ?_; (try ((refine rl_add rfl rfl rfl ?_ ?_ ?_; omega; omega); (try (refine rl_assign (v := (Value.int _ _ : Value)) rfl rfl ?_))))))) | (refine region_ (id := 7) ?_; (try (refine rl_move (v := (Value.int _ _ : Value)) rfl rfl ?_; (try (refine rl_move (v := (Value.int _ _ : Value)) rfl rfl ?_; (try ((first | (refine rl_lss_t rfl rfl rfl ?_ ?_; omega) | (refine rl_lss_f rfl rfl rfl ?_ ?_; omega)))))))))))
      refine kq_normal (hL0 (n - (i + 1)).toNat _ _ (by omega) (by (repeat (first | with_reducible exact Agree.ov | with_reducible exact Agree.refl _ _ | refine Agree.upd rfl ?_ | refine Agree.ovs rfl ?_))) ⟨i + 1, us4, rfl, by omega, by omega, rfl, hB5, hul4, ?_, hb5⟩)
      intro k' hk'
      by_cases hki : k' < i.toNat
      · exact (hT2.keep hc5 (.inl rfl) hus') k' hki
      · have : k' = i.toNat := by omega
        subst this
        refine ⟨c, S, hui4, hr5, hSl, fun t ht => ?_, hcb⟩
        rw [show ((i.toNat : Nat) : Int) = i by omega]
        exact hSr t (by omega)
  · have hni : i = n := by omega
    subst hni
    (repeat (first | refine seq_ ?_ | refine sq_normal ?_ | refine sq_exit ?_ | refine rl_nil ?_ | refine cond_f rfl ?_ | refine exit_ ?_ | refine inBlock_exit ?_ | refine kq_exit ?_ | (refine region_ (id := 3) ?_; (try (refine rl_move (v := (Value.int _ _ : Value)) rfl rfl ?_; (try (refine rl_move (v := (Value.int _ _ : Value)) rfl rfl ?_; (try ((first | (refine rl_lss_t rfl rfl rfl ?_ ?_; omega) | (refine rl_lss_f rfl rfl rfl ?_ ?_; omega))))))))) | (refine region_ (id := 10) ?_; (try (refine rl_move (v := (Value.int _ _ : Value)) rfl rfl ?_)))))
    refine rl_make1 sl34 rfl rfl rfl ?_ ?_ ?_ ?_
    · omega
    · omega
    · omega
    intro w3 hB3 hb3 hs3
    (repeat (first | refine seq_ ?_ | refine sq_normal ?_ | refine rl_nil ?_ | refine block_ ?_ | (refine region_ (id := 11) ?_; (try (refine rl_assign (v := (Value.slice _ _ _ : Value)) rfl rfl ?_))) | (refine region_ (id := 12) ?_; (try (refine rl_assign (v := (Value.int _ _ : Value)) rfl rfl ?_))) | refine rl_assign (v := (Value.slice _ _ _ : Value)) rfl rfl ?_))
    obtain ⟨tab, htab⟩ : ∃ tab, tab = Value.slice (some ⟨w.heap.size, 0, none⟩) i.toNat i.toNat := ⟨_, rfl⟩
    have hLd3 : LeadV w3 i ls (.slice (some ⟨w.heap.size, 0, none⟩) i.toNat i.toNat) w2.heap.size := by
      refine ⟨_, _, w.heap.size, rfl, Nat.le_refl _, fun _ => ⟨rfl, hlow⟩, fun k hk => ?_⟩
      obtain ⟨c, S, e1, e2, e3, e4, e5⟩ := hT2 k hk
      refine ⟨c, e2.lt, ?_, fun t ht => ?_⟩
      · rw [Nat.zero_add]; exact (hB2.ext hb3).cell_some e1
      · rw [Nat.zero_add]; exact (e2.ext hb3).cell_some (by simp [e4 t ht])
    have hT0 : Blk w3 w2.heap.size ((List.replicate i.toNat false).map Value.bool) 4 := by simpa using hB3
    have hcnt : (List.replicate i.toNat false).count true = 0 := by simp [List.count_replicate]
    refine loop2 [(4, 5), (9, 16), (46, 127)] 9 10 (fun m v9 v10 wr => ∃ (T : List Bool) (out : List (List Int)) (us : List Value) (bs : List Nat) (bo f : Nat), v10 = .int .i64 (T.count true : Nat) ∧ Rws wr w3.heap.size v9 out us bs bo ∧ LeadV wr i ls (.slice (some ⟨w.heap.size, 0, none⟩) i.toNat i.toNat) w2.heap.size ∧ Blk wr w2.heap.size (T.map Value.bool) 4 ∧ T.length = i.toNat ∧
        Below w.heap.size w wr ∧ w3.heap.size ≤ wr.heap.size ∧ out ++ gs i ls f T = groups i ls ∧ i.toNat - T.count true < f ∧ m = i.toNat - T.count true ∧ out.length ≤ T.count true ∧ Whole i ls T) _
      ⟨List.replicate i.toNat false, [], [], [], w3.heap.size, i.toNat + 1, by rw [hcnt]; rfl, ⟨Own.nil _ _ _ _, Nat.le_refl _, rfl, rfl, fun i xs h => by simp at h, fun i j xs ys c d _ h => by simp at h⟩, hLd3, hT0, by simp, below_ext hb2 hb3 hb2.size, Nat.le_refl _, rfl, by omega, rfl, by simp, fun a b ha hb _ => by simp [ha, hb]⟩ ?_
    rintro m τ1 v9 v10 w5 ⟨T, out, us5, bs, bo, f, rfl, hR, hLd, hBD, hTl, hb5, hsz5, hout, hf, rfl, hol, hW⟩ K1 hL1
    obtain ⟨oa, oc, rfl, hoc, hom, hoa⟩ := hR.own.shape
    have hcle := count_le T
    clear hT0 hLd3 hB3 hT2 hB2
    by_cases hmany : T.count true < i.toNat
    · (repeat (first | refine seq_ ?_ | refine sq_normal ?_ | refine rl_nil ?_ | refine cond_t rfl ?_ | refine skip_ ?_ | refine block_ ?_ | (refine region_ (id := 13) ?_; (try (refine rl_move (v := (Value.int _ _ : Value)) rfl rfl ?_; (try (refine rl_move (v := (Value.int _ _ : Value)) rfl rfl ?_; (try ((first | (refine rl_lss_t rfl rfl rfl ?_ ?_; omega) | (refine rl_lss_f rfl rfl rfl ?_ ?_; omega))))))))) | (refine region_ (id := 14) ?_; (try (refine rl_assign (v := (Value.int _ _ : Value)) rfl rfl ?_)))))
      refine loop1 [(11, 14), (49, 89)] 11 (fun m v wr => ∃ (j : Int), v = .int .i64 j ∧ 0 ≤ j ∧ j ≤ i ∧ m = (i - j).toNat ∧ w5 = wr ∧ (∀ p : Nat, (p : Int) < j → pickB i ls T p = false)) _
        ⟨0, rfl, by omega, by omega, rfl, rfl, fun j hj => by omega⟩ ?_
      rintro m τ2 v w6 ⟨j, rfl, hj0, hji, rfl, rfl, hd⟩ K2 hL2
      by_cases hj : j < i
      · have hjl : j.toNat < i.toNat := by omega
        obtain ⟨tb, htb⟩ : ∃ tb, T[j.toNat]? = some tb := ⟨T[j.toNat]'(by omega), by simp⟩
        have c2 : w5.cell? ⟨w2.heap.size, 0 + j.toNat, none⟩ = some (.bool tb) := hBD.cell_some (by simp [htb])
        have hpk : pickB i ls T j.toNat = (!tb && readyB i ls T j.toNat) := by
          unfold pickB; rw [List.getD_eq_getElem?_getD, htb]; rfl
        obtain ⟨la, lc, lb, hlq, hlc, hla, hlead⟩ := id hLd
        simp only [Value.slice.injEq] at hlq
        obtain ⟨rfl, _, rfl⟩ := hlq
        obtain ⟨hla', hlb⟩ := hla (by omega)
        have hlb' : lb = w.heap.size := by simpa using hla'.symm
        subst hlb'
        obtain ⟨cj, hcj, hrow, hcell⟩ := hlead j.toNat hjl
        (repeat (first | refine seq_ ?_ | refine sq_normal ?_ | refine rl_nil ?_ | refine cond_t rfl ?_ | refine skip_ ?_ | refine block_ ?_ | (refine region_ (id := 15) ?_; (try (refine rl_move (v := (Value.int _ _ : Value)) rfl rfl ?_; (try (refine rl_move (v := (Value.int _ _ : Value)) rfl rfl ?_; (try ((first | (refine rl_lss_t rfl rfl rfl ?_ ?_; omega) | (refine rl_lss_f rfl rfl rfl ?_ ?_; omega))))))))) | (refine region_ (id := 16) ?_; (try (refine rl_move (v := (Value.slice _ _ _ : Value)) rfl rfl ?_; (try (refine rl_move (v := (Value.int _ _ : Value)) rfl rfl ?_; (try ((first | (refine rl_idx1 sl34 rfl rfl rfl rfl ?_ ?_ ?_; omega; omega) | (apply rl_idx1 sl34 rfl rfl rfl; assumption; omega; omega)); (try ((apply rl_load vt4 rfl rfl; assumption); (try (refine rl_not rfl rfl ?_; (try (refine rl_assign (v := (Value.bool _ : Value)) rfl rfl ?_))))))))))))) | (refine region_ (id := 17) ?_; (try (refine rl_assign (v := (Value.int _ _ : Value)) rfl rfl ?_)))))
        refine loop2 [(12, 14), (57, 86)] 12 13 (fun m v1 v2 wr => ∃ (k : Int), v1 = .bool (!tb && okTo i ls T j.toNat k.toNat) ∧ v2 = .int .i64 k ∧ 0 ≤ k ∧ k ≤ i ∧ m = (i - k).toNat ∧ w5 = wr) _
          ⟨0, by show Value.bool (!tb) = _; simp [okTo], rfl, by omega, by omega, rfl, rfl⟩ ?_
        rintro m τ3 v1 v2 w6 ⟨k, rfl, rfl, hk0, hki, rfl, rfl⟩ K3 hL3
        by_cases hk : k < i
        · have hkl : k.toNat < i.toNat := by omega
          have d1 := hcell k.toNat hkl
          obtain ⟨ck, hck, hrk, hck2⟩ := hlead k.toNat hkl
          have d3 := hck2 j.toNat hjl
          obtain ⟨sb, hsb⟩ : ∃ sb, T[k.toNat]? = some sb := ⟨T[k.toNat]'(by omega), by simp⟩
          have d4 : w5.cell? ⟨w2.heap.size, 0 + k.toNat, none⟩ = some (.bool sb) := hBD.cell_some (by simp [hsb])
          have hkp : keeps i ls T j.toNat k.toNat = (rB i ls (j.toNat : Int) (k.toNat : Int) && !sb && !(rB i ls (k.toNat : Int) (j.toNat : Int))) := by
            unfold keeps; rw [List.getD_eq_getElem?_getD, hsb]; rfl
          have ek : (k + 1).toNat = k.toNat + 1 := by omega
          have hno : keeps i ls T j.toNat k.toNat = false → (!tb && okTo i ls T j.toNat k.toNat) = (!tb && okTo i ls T j.toNat (k + 1).toNat) := by
            intro h; rw [ek, okTo_succ, h]; simp
          cases h1 : rB i ls (j.toNat : Int) (k.toNat : Int) with
          | false =>
            rw [h1] at d1
            (repeat (first | refine seq_ ?_ | refine sq_normal ?_ | refine rl_nil ?_ | refine cond_t rfl ?_ | refine cond_f rfl ?_ | refine skip_ ?_ | refine block_ ?_ | refine inBlock_normal ?_ | (refine region_ (id := 18) ?_; (try (refine rl_move (v := (Value.int _ _ : Value)) rfl rfl ?_; (try (refine rl_move (v := (Value.int _ _ : Value)) rfl rfl ?_; (try ((first | (refine rl_lss_t rfl rfl rfl ?_ ?_; omega) | (refine rl_lss_f rfl rfl rfl ?_ ?_; omega))))))))) | (refine region_ (id := 19) ?_; (try (refine rl_move (v := (Value.int _ _ : Value)) rfl rfl ?_; (try ((refine rl_add rfl rfl rfl ?_ ?_ ?_; omega; omega); (try (refine rl_assign (v := (Value.int _ _ : Value)) rfl rfl ?_))))))) | (refine region_ (id := 20) ?_; (try (refine rl_move (v := (Value.slice _ _ _ : Value)) rfl rfl ?_; (try (refine rl_move (v := (Value.int _ _ : Value)) rfl rfl ?_; (try ((first | (refine rl_idx1 sl33 rfl rfl rfl rfl ?_ ?_ ?_; omega; omega) | (apply rl_idx1 sl33 rfl rfl rfl; assumption; omega; omega)); (try ((apply rl_load vt34 rfl rfl; assumption); (try (refine rl_move (v := (Value.int _ _ : Value)) rfl rfl ?_; (try ((first | (refine rl_idx1 sl34 rfl rfl rfl rfl ?_ ?_ ?_; omega; omega) | (apply rl_idx1 sl34 rfl rfl rfl; assumption; omega; omega)); (try ((apply rl_load vt4 rfl rfl; assumption); (try (refine rl_move (v := (Value.bool _ : Value)) rfl rfl ?_; (try ((first | refine rl_off rfl ?_ | refine rl_move (v := (Value.slice _ _ _ : Value)) rfl rfl ?_); (try ((first | refine rl_off rfl ?_ | refine rl_move (v := (Value.int _ _ : Value)) rfl rfl ?_); (try ((first | refine rl_off rfl ?_ | (refine rl_idx1 sl33 rfl rfl rfl rfl ?_ ?_ ?_; omega; omega) | (apply rl_idx1 sl33 rfl rfl rfl; assumption; omega; omega)); (try ((first | refine rl_off rfl ?_ | (apply rl_load vt34 rfl rfl; assumption)); (try ((first | refine rl_off rfl ?_ | refine rl_move (v := (Value.int _ _ : Value)) rfl rfl ?_); (try ((first | refine rl_off rfl ?_ | (refine rl_idx1 sl34 rfl rfl rfl rfl ?_ ?_ ?_; omega; omega) | (apply rl_idx1 sl34 rfl rfl rfl; assumption; omega; omega)); (try ((first | refine rl_off rfl ?_ | (apply rl_load vt4 rfl rfl; assumption)); (try ((first | refine rl_off rfl ?_ | refine rl_not rfl rfl ?_); (try (refine rl_pick (v := (Value.bool _ : Value)) rfl rfl rfl ?_; (try (refine rl_move (v := (Value.bool _ : Value)) rfl rfl ?_; (try ((first | refine rl_off rfl ?_ | refine rl_move (v := (Value.slice _ _ _ : Value)) rfl rfl ?_); (try ((first | refine rl_off rfl ?_ | refine rl_move (v := (Value.int _ _ : Value)) rfl rfl ?_); (try ((first | refine rl_off rfl ?_ | (refine rl_idx1 sl34 rfl rfl rfl rfl ?_ ?_ ?_; omega; omega) | (apply rl_idx1 sl34 rfl rfl rfl; assumption; omega; omega)); (try ((first | refine rl_off rfl ?_ | (apply rl_load vt4 rfl rfl; assumption)); (try ((first | refine rl_off rfl ?_ | refine rl_not rfl rfl ?_); (try (refine rl_pick (v := (Value.bool _ : Value)) rfl rfl rfl ?_)))))))))))))))))))))))))))))))))))))))))))))))))))
            exact kq_normal (hL3 (i - (k + 1)).toNat _ _ (by omega) (by (repeat (first | with_reducible exact Agree.ov | with_reducible exact Agree.refl _ _ | refine Agree.upd rfl ?_ | refine Agree.ovs rfl ?_))) ⟨k + 1, congrArg Value.bool (hno (by rw [hkp, h1]; rfl)), rfl, by omega, by omega, rfl, rfl⟩)
          | true =>
            rw [h1] at d1
            cases h3 : rB i ls (k.toNat : Int) (j.toNat : Int) with
            | true =>
              rw [h3] at d3
              (repeat (first | refine seq_ ?_ | refine sq_normal ?_ | refine rl_nil ?_ | refine cond_t rfl ?_ | refine cond_f rfl ?_ | refine skip_ ?_ | refine block_ ?_ | refine inBlock_normal ?_ | (refine region_ (id := 18) ?_; (try (refine rl_move (v := (Value.int _ _ : Value)) rfl rfl ?_; (try (refine rl_move (v := (Value.int _ _ : Value)) rfl rfl ?_; (try ((first | (refine rl_lss_t rfl rfl rfl ?_ ?_; omega) | (refine rl_lss_f rfl rfl rfl ?_ ?_; omega))))))))) | (refine region_ (id := 19) ?_; (try (refine rl_move (v := (Value.int _ _ : Value)) rfl rfl ?_; (try ((refine rl_add rfl rfl rfl ?_ ?_ ?_; omega; omega); (try (refine rl_assign (v := (Value.int _ _ : Value)) rfl rfl ?_))))))) | (refine region_ (id := 20) ?_; (try (refine rl_move (v := (Value.slice _ _ _ : Value)) rfl rfl ?_; (try (refine rl_move (v := (Value.int _ _ : Value)) rfl rfl ?_; (try ((first | (refine rl_idx1 sl33 rfl rfl rfl rfl ?_ ?_ ?_; omega; omega) | (apply rl_idx1 sl33 rfl rfl rfl; assumption; omega; omega)); (try ((apply rl_load vt34 rfl rfl; assumption); (try (refine rl_move (v := (Value.int _ _ : Value)) rfl rfl ?_; (try ((first | (refine rl_idx1 sl34 rfl rfl rfl rfl ?_ ?_ ?_; omega; omega) | (apply rl_idx1 sl34 rfl rfl rfl; assumption; omega; omega)); (try ((apply rl_load vt4 rfl rfl; assumption); (try (refine rl_move (v := (Value.bool _ : Value)) rfl rfl ?_; (try ((first | refine rl_off rfl ?_ | refine rl_move (v := (Value.slice _ _ _ : Value)) rfl rfl ?_); (try ((first | refine rl_off rfl ?_ | refine rl_move (v := (Value.int _ _ : Value)) rfl rfl ?_); (try ((first | refine rl_off rfl ?_ | (refine rl_idx1 sl33 rfl rfl rfl rfl ?_ ?_ ?_; omega; omega) | (apply rl_idx1 sl33 rfl rfl rfl; assumption; omega; omega)); (try ((first | refine rl_off rfl ?_ | (apply rl_load vt34 rfl rfl; assumption)); (try ((first | refine rl_off rfl ?_ | refine rl_move (v := (Value.int _ _ : Value)) rfl rfl ?_); (try ((first | refine rl_off rfl ?_ | (refine rl_idx1 sl34 rfl rfl rfl rfl ?_ ?_ ?_; omega; omega) | (apply rl_idx1 sl34 rfl rfl rfl; assumption; omega; omega)); (try ((first | refine rl_off rfl ?_ | (apply rl_load vt4 rfl rfl; assumption)); (try ((first | refine rl_off rfl ?_ | refine rl_not rfl rfl ?_); (try (refine rl_pick (v := (Value.bool _ : Value)) rfl rfl rfl ?_; (try (refine rl_move (v := (Value.bool _ : Value)) rfl rfl ?_; (try ((first | refine rl_off rfl ?_ | refine rl_move (v := (Value.slice _ _ _ : Value)) rfl rfl ?_); (try ((first | refine rl_off rfl ?_ | refine rl_move (v := (Value.int _ _ : Value)) rfl rfl ?_); (try ((first | refine rl_off rfl ?_ | (refine rl_idx1 sl34 rfl rfl rfl rfl ?_ ?_ ?_; omega; omega) | (apply rl_idx1 sl34 rfl rfl rfl; assumption; omega; omega)); (try ((first | refine rl_off rfl ?_ | (apply rl_load vt4 rfl rfl; assumption)); (try ((first | refine rl_off rfl ?_ | refine rl_not rfl rfl ?_); (try (refine rl_pick (v := (Value.bool _ : Value)) rfl rfl rfl ?_)))))))))))))))))))))))))))))))))))))))))))))))))))
              exact kq_normal (hL3 (i - (k + 1)).toNat _ _ (by omega) (by (repeat (first | with_reducible exact Agree.ov | with_reducible exact Agree.refl _ _ | refine Agree.upd rfl ?_ | refine Agree.ovs rfl ?_))) ⟨k + 1, congrArg Value.bool (hno (by rw [hkp, h1, h3]; simp)), rfl, by omega, by omega, rfl, rfl⟩)
            | false =>
              rw [h3] at d3
              cases sb with
              | true =>
                (repeat (first | refine seq_ ?_ | refine sq_normal ?_ | refine rl_nil ?_ | refine cond_t rfl ?_ | refine cond_f rfl ?_ | refine skip_ ?_ | refine block_ ?_ | refine inBlock_normal ?_ | (refine region_ (id := 18) ?_; (try (refine rl_move (v := (Value.int _ _ : Value)) rfl rfl ?_; (try (refine rl_move (v := (Value.int _ _ : Value)) rfl rfl ?_; (try ((first | (refine rl_lss_t rfl rfl rfl ?_ ?_; omega) | (refine rl_lss_f rfl rfl rfl ?_ ?_; omega))))))))) | (refine region_ (id := 19) ?_; (try (refine rl_move (v := (Value.int _ _ : Value)) rfl rfl ?_; (try ((refine rl_add rfl rfl rfl ?_ ?_ ?_; omega; omega); (try (refine rl_assign (v := (Value.int _ _ : Value)) rfl rfl ?_))))))) | (refine region_ (id := 20) ?_; (try (refine rl_move (v := (Value.slice _ _ _ : Value)) rfl rfl ?_; (try (refine rl_move (v := (Value.int _ _ : Value)) rfl rfl ?_; (try ((first | (refine rl_idx1 sl33 rfl rfl rfl rfl ?_ ?_ ?_; omega; omega) | (apply rl_idx1 sl33 rfl rfl rfl; assumption; omega; omega)); (try ((apply rl_load vt34 rfl rfl; assumption); (try (refine rl_move (v := (Value.int _ _ : Value)) rfl rfl ?_; (try ((first | (refine rl_idx1 sl34 rfl rfl rfl rfl ?_ ?_ ?_; omega; omega) | (apply rl_idx1 sl34 rfl rfl rfl; assumption; omega; omega)); (try ((apply rl_load vt4 rfl rfl; assumption); (try (refine rl_move (v := (Value.bool _ : Value)) rfl rfl ?_; (try ((first | refine rl_off rfl ?_ | refine rl_move (v := (Value.slice _ _ _ : Value)) rfl rfl ?_); (try ((first | refine rl_off rfl ?_ | refine rl_move (v := (Value.int _ _ : Value)) rfl rfl ?_); (try ((first | refine rl_off rfl ?_ | (refine rl_idx1 sl33 rfl rfl rfl rfl ?_ ?_ ?_; omega; omega) | (apply rl_idx1 sl33 rfl rfl rfl; assumption; omega; omega)); (try ((first | refine rl_off rfl ?_ | (apply rl_load vt34 rfl rfl; assumption)); (try ((first | refine rl_off rfl ?_ | refine rl_move (v := (Value.int _ _ : Value)) rfl rfl ?_); (try ((first | refine rl_off rfl ?_ | (refine rl_idx1 sl34 rfl rfl rfl rfl ?_ ?_ ?_; omega; omega) | (apply rl_idx1 sl34 rfl rfl rfl; assumption; omega; omega)); (try ((first | refine rl_off rfl ?_ | (apply rl_load vt4 rfl rfl; assumption)); (try ((first | refine rl_off rfl ?_ | refine rl_not rfl rfl ?_); (try (refine rl_pick (v := (Value.bool _ : Value)) rfl rfl rfl ?_; (try (refine rl_move (v := (Value.bool _ : Value)) rfl rfl ?_; (try ((first | refine rl_off rfl ?_ | refine rl_move (v := (Value.slice _ _ _ : Value)) rfl rfl ?_); (try ((first | refine rl_off rfl ?_ | refine rl_move (v := (Value.int _ _ : Value)) rfl rfl ?_); (try ((first | refine rl_off rfl ?_ | (refine rl_idx1 sl34 rfl rfl rfl rfl ?_ ?_ ?_; omega; omega) | (apply rl_idx1 sl34 rfl rfl rfl; assumption; omega; omega)); (try ((first | refine rl_off rfl ?_ | (apply rl_load vt4 rfl rfl; assumption)); (try ((first | refine rl_off rfl ?_ | refine rl_not rfl rfl ?_); (try (refine rl_pick (v := (Value.bool _ : Value)) rfl rfl rfl ?_)))))))))))))))))))))))))))))))))))))))))))))))))))
                exact kq_normal (hL3 (i - (k + 1)).toNat _ _ (by omega) (by (repeat (first | with_reducible exact Agree.ov | with_reducible exact Agree.refl _ _ | refine Agree.upd rfl ?_ | refine Agree.ovs rfl ?_))) ⟨k + 1, congrArg Value.bool (hno (by rw [hkp]; simp)), rfl, by omega, by omega, rfl, rfl⟩)
              | false =>
                have hy : (!tb && okTo i ls T j.toNat (k + 1).toNat) = false := by rw [ek, okTo_succ, hkp, h1, h3]; simp
                (repeat (first | refine seq_ ?_ | refine sq_normal ?_ | refine rl_nil ?_ | refine cond_t rfl ?_ | refine skip_ ?_ | refine block_ ?_ | refine inBlock_normal ?_ | (refine region_ (id := 18) ?_; (try (refine rl_move (v := (Value.int _ _ : Value)) rfl rfl ?_; (try (refine rl_move (v := (Value.int _ _ : Value)) rfl rfl ?_; (try ((first | (refine rl_lss_t rfl rfl rfl ?_ ?_; omega) | (refine rl_lss_f rfl rfl rfl ?_ ?_; omega))))))))) | (refine region_ (id := 19) ?_; (try (refine rl_move (v := (Value.int _ _ : Value)) rfl rfl ?_; (try ((refine rl_add rfl rfl rfl ?_ ?_ ?_; omega; omega); (try (refine rl_assign (v := (Value.int _ _ : Value)) rfl rfl ?_))))))) | (refine region_ (id := 20) ?_; (try (refine rl_move (v := (Value.slice _ _ _ : Value)) rfl rfl ?_; (try (refine rl_move (v := (Value.int _ _ : Value)) rfl rfl ?_; (try ((first | (refine rl_idx1 sl33 rfl rfl rfl rfl ?_ ?_ ?_; omega; omega) | (apply rl_idx1 sl33 rfl rfl rfl; assumption; omega; omega)); (try ((apply rl_load vt34 rfl rfl; assumption); (try (refine rl_move (v := (Value.int _ _ : Value)) rfl rfl ?_; (try ((first | (refine rl_idx1 sl34 rfl rfl rfl rfl ?_ ?_ ?_; omega; omega) | (apply rl_idx1 sl34 rfl rfl rfl; assumption; omega; omega)); (try ((apply rl_load vt4 rfl rfl; assumption); (try (refine rl_move (v := (Value.bool _ : Value)) rfl rfl ?_; (try ((first | refine rl_off rfl ?_ | refine rl_move (v := (Value.slice _ _ _ : Value)) rfl rfl ?_); (try ((first | refine rl_off rfl ?_ | refine rl_move (v := (Value.int _ _ : Value)) rfl rfl ?_); (try ((first | refine rl_off rfl ?_ | (refine rl_idx1 sl33 rfl rfl rfl rfl ?_ ?_ ?_; omega; omega) | (apply rl_idx1 sl33 rfl rfl rfl; assumption; omega; omega)); (try ((first | refine rl_off rfl ?_ | (apply rl_load vt34 rfl rfl; assumption)); (try ((first | refine rl_off rfl ?_ | refine rl_move (v := (Value.int _ _ : Value)) rfl rfl ?_); (try ((first | refine rl_off rfl ?_ | (refine rl_idx1 sl34 rfl rfl rfl rfl ?_ ?_ ?_; omega; omega) | (apply rl_idx1 sl34 rfl rfl rfl; assumption; omega; omega)); (try ((first | refine rl_off rfl ?_ | (apply rl_load vt4 rfl rfl; assumption)); (try ((first | refine rl_off rfl ?_ | refine rl_not rfl rfl ?_); (try (refine rl_pick (v := (Value.bool _ : Value)) rfl rfl rfl ?_; (try (refine rl_move (v := (Value.bool _ : Value)) rfl rfl ?_; (try ((first | refine rl_off rfl ?_ | refine rl_move (v := (Value.slice _ _ _ : Value)) rfl rfl ?_); (try ((first | refine rl_off rfl ?_ | refine rl_move (v := (Value.int _ _ : Value)) rfl rfl ?_); (try ((first | refine rl_off rfl ?_ | (refine rl_idx1 sl34 rfl rfl rfl rfl ?_ ?_ ?_; omega; omega) | (apply rl_idx1 sl34 rfl rfl rfl; assumption; omega; omega)); (try ((first | refine rl_off rfl ?_ | (apply rl_load vt4 rfl rfl; assumption)); (try ((first | refine rl_off rfl ?_ | refine rl_not rfl rfl ?_); (try (refine rl_pick (v := (Value.bool _ : Value)) rfl rfl rfl ?_))))))))))))))))))))))))))))))))))))))))))))))))) | (refine region_ (id := 21) ?_; (try (refine rl_assign (v := (Value.bool _ : Value)) rfl rfl ?_)))))
                exact kq_normal (hL3 (i - (k + 1)).toNat _ _ (by omega) (by (repeat (first | with_reducible exact Agree.ov | with_reducible exact Agree.refl _ _ | refine Agree.upd rfl ?_ | refine Agree.ovs rfl ?_))) ⟨k + 1, congrArg Value.bool hy.symm, rfl, by omega, by omega, rfl, rfl⟩)
        · have hok : (!tb && okTo i ls T j.toNat k.toNat) = pickB i ls T j.toNat := by
            rw [hpk, show k.toNat = i.toNat by omega]; rfl
          cases hp : pickB i ls T j.toNat with
          | false =>
            rw [hok, hp]
            (repeat (first | refine seq_ ?_ | refine sq_normal ?_ | refine sq_exit ?_ | refine rl_nil ?_ | refine cond_f rfl ?_ | refine skip_ ?_ | refine exit_ ?_ | refine inBlock_normal ?_ | refine inBlock_exit ?_ | refine kq_exit ?_ | (refine region_ (id := 18) ?_; (try (refine rl_move (v := (Value.int _ _ : Value)) rfl rfl ?_; (try (refine rl_move (v := (Value.int _ _ : Value)) rfl rfl ?_; (try ((first | (refine rl_lss_t rfl rfl rfl ?_ ?_; omega) | (refine rl_lss_f rfl rfl rfl ?_ ?_; omega))))))))) | (refine region_ (id := 22) ?_; (try (refine rl_move (v := (Value.bool _ : Value)) rfl rfl ?_))) | (refine region_ (id := 23) ?_; (try (refine rl_move (v := (Value.int _ _ : Value)) rfl rfl ?_; (try ((refine rl_add rfl rfl rfl ?_ ?_ ?_; omega; omega); (try (refine rl_assign (v := (Value.int _ _ : Value)) rfl rfl ?_)))))))))
            refine kq_normal (hL2 (i - (j + 1)).toNat _ _ (by omega) (by (repeat (first | with_reducible exact Agree.ov | with_reducible exact Agree.refl _ _ | refine Agree.upd rfl ?_ | refine Agree.ovs rfl ?_))) ⟨j + 1, rfl, by omega, by omega, rfl, rfl, ?_⟩)
            intro p hpj
            by_cases h : (p : Int) = j
            · have : p = j.toNat := by omega
              rw [this]; exact hp
            · exact hd p (by omega)
          | true =>
            rw [hok, hp]
            (repeat (first | refine seq_ ?_ | refine sq_normal ?_ | refine sq_exit ?_ | refine rl_nil ?_ | refine cond_t rfl ?_ | refine cond_f rfl ?_ | refine skip_ ?_ | refine exit_ ?_ | refine block_ ?_ | refine inBlock_exit ?_ | refine inBlock_exit_ne rfl ?_ | refine kq_exit ?_ | (refine region_ (id := 18) ?_; (try (refine rl_move (v := (Value.int _ _ : Value)) rfl rfl ?_; (try (refine rl_move (v := (Value.int _ _ : Value)) rfl rfl ?_; (try ((first | (refine rl_lss_t rfl rfl rfl ?_ ?_; omega) | (refine rl_lss_f rfl rfl rfl ?_ ?_; omega))))))))) | (refine region_ (id := 22) ?_; (try (refine rl_move (v := (Value.bool _ : Value)) rfl rfl ?_))) | (refine region_ (id := 24) ?_; (try (refine rl_move (v := (Value.int _ _ : Value)) rfl rfl ?_; (try (refine rl_move (v := (Value.int _ _ : Value)) rfl rfl ?_; (try ((first | (refine rl_eql_t rfl rfl rfl ?_ ?_; omega) | (refine rl_eql_f rfl rfl rfl ?_ ?_; omega))))))))) | (refine region_ (id := 26) ?_; (try (refine rl_assign (v := (Value.slice _ _ _ : Value)) rfl rfl ?_))) | (refine region_ (id := 27) ?_; (try (refine rl_assign (v := (Value.int _ _ : Value)) rfl rfl ?_)))))
            have hnext : nextG i ls T = some j.toNat := find_range hjl hp (fun p hpj => hd p (by omega))
            have htbf : tb = false := by
              rw [hpk] at hp
              cases tb <;> simp at hp ⊢
            subst htbf
            have hTb : T.getD j.toNat false = false := by rw [List.getD_eq_getElem?_getD, htb]; rfl
            have hmk0 : Blk w5 w2.heap.size ((markTo i ls j.toNat 0 T).map Value.bool) 4 := by rw [markTo_zero hTl]; exact hBD
            refine loop3 [(10, 11), (14, 16), (93, 123)] 10 14 15 (fun m v0 v1 v2 wr => ∃ (k : Int) (bg : Nat), v0 = .int .i64 ((markTo i ls j.toNat k.toNat T).count true : Nat) ∧ v2 = .int .i64 k ∧ 0 ≤ k ∧ k ≤ i ∧ m = (i - k).toNat ∧ Own wr 3 1 v1 (grpTo i ls j.toNat k.toNat).length ((grpTo i ls j.toNat k.toNat).map (Value.int .i64)) bg ∧ w5.heap.size ≤ bg ∧ Chg w2.heap.size w5 wr ∧ Blk wr w2.heap.size ((markTo i ls j.toNat k.toNat T).map Value.bool) 4 ∧ (grpTo i ls j.toNat k.toNat).length ≤ k.toNat ∧ (grpTo i ls j.toNat k.toNat = [] → v1 = .slice none 0 0)) _
              ⟨0, w5.heap.size, by rw [show (0 : Int).toNat = 0 from rfl, markTo_zero hTl]; rfl, rfl, by omega, by omega, rfl, Own.nil _ _ _ _, Nat.le_refl _, Chg.refl _ _, hmk0, by simp [grpTo], fun _ => rfl⟩ ?_
            clear hmk0
            rintro m τ4 v0 v1 v2 w6 ⟨p, bg, rfl, rfl, hp0, hpi, rfl, hO6, hbg, hc6, hB6, hgl, hgn⟩ K4 hL4
            obtain ⟨ga, gc, rfl, hgc, hgm, hga⟩ := hO6.shape
            have hLd6 := hLd.chg hc6 (Nat.le_refl _)
            have hsz6 := hc6.size
            have hmc := count_le (markTo i ls j.toNat p.toNat T)
            rw [markTo_len] at hmc
            by_cases hpl : p < i
            · have hkl : p.toNat < i.toNat := by omega
              have d1 : w6.cell? ⟨cj, 0 + p.toNat, none⟩ = some (.bool (rB i ls (j.toNat : Int) (p.toNat : Int))) := cell_chg (hcell p.toNat hkl) hc6 (by simp only; omega)
              obtain ⟨ck, hck, hrk, hck2⟩ := hlead p.toNat hkl
              have d2 : w6.cell? ⟨w.heap.size, 0 + p.toNat, none⟩ = some (.slice (some ⟨ck, 0, none⟩) i.toNat i.toNat) := cell_chg hrk hc6 (by simp only; omega)
              have d3 : w6.cell? ⟨ck, 0 + j.toNat, none⟩ = some (.bool (rB i ls (p.toNat : Int) (j.toNat : Int))) := cell_chg (hck2 j.toNat hjl) hc6 (by simp only; omega)
              have d4 : w6.cell? ⟨w.heap.size, 0 + j.toNat, none⟩ = some (.slice (some ⟨cj, 0, none⟩) i.toNat i.toNat) := cell_chg hrow hc6 (by simp only; omega)
              have hbo2 : both i ls j.toNat p.toNat = (rB i ls (j.toNat : Int) (p.toNat : Int) && rB i ls (p.toNat : Int) (j.toNat : Int)) := rfl
              have ek : (p + 1).toNat = p.toNat + 1 := by omega
              have hno : both i ls j.toNat p.toNat = false → grpTo i ls j.toNat (p + 1).toNat = grpTo i ls j.toNat p.toNat ∧ markTo i ls j.toNat (p + 1).toNat T = markTo i ls j.toNat p.toNat T := by
                intro h
                rw [ek, grpTo_succ, markTo_succ hkl, h]
                exact ⟨by simp, by simp⟩
              cases h1 : rB i ls (j.toNat : Int) (p.toNat : Int) with
              | false =>
                rw [h1] at d1
                have hh := hno (by rw [hbo2, h1]; rfl)
                (repeat (first | refine seq_ ?_ | refine sq_normal ?_ | refine rl_nil ?_ | refine cond_t rfl ?_ | refine cond_f rfl ?_ | refine skip_ ?_ | refine block_ ?_ | refine inBlock_normal ?_ | (refine region_ (id := 28) ?_; (try (refine rl_move (v := (Value.int _ _ : Value)) rfl rfl ?_; (try (refine rl_move (v := (Value.int _ _ : Value)) rfl rfl ?_; (try ((first | (refine rl_lss_t rfl rfl rfl ?_ ?_; omega) | (refine rl_lss_f rfl rfl rfl ?_ ?_; omega))))))))) | (refine region_ (id := 29) ?_; (try (refine rl_move (v := (Value.int _ _ : Value)) rfl rfl ?_; (try ((refine rl_add rfl rfl rfl ?_ ?_ ?_; omega; omega); (try (refine rl_assign (v := (Value.int _ _ : Value)) rfl rfl ?_))))))) | (refine region_ (id := 30) ?_; (try (refine rl_move (v := (Value.slice _ _ _ : Value)) rfl rfl ?_; (try (refine rl_move (v := (Value.int _ _ : Value)) rfl rfl ?_; (try ((first | (refine rl_idx1 sl33 rfl rfl rfl rfl ?_ ?_ ?_; omega; omega) | (apply rl_idx1 sl33 rfl rfl rfl; assumption; omega; omega)); (try ((apply rl_load vt34 rfl rfl; assumption); (try (refine rl_move (v := (Value.int _ _ : Value)) rfl rfl ?_; (try ((first | (refine rl_idx1 sl34 rfl rfl rfl rfl ?_ ?_ ?_; omega; omega) | (apply rl_idx1 sl34 rfl rfl rfl; assumption; omega; omega)); (try ((apply rl_load vt4 rfl rfl; assumption); (try (refine rl_move (v := (Value.bool _ : Value)) rfl rfl ?_; (try ((first | refine rl_off rfl ?_ | refine rl_move (v := (Value.slice _ _ _ : Value)) rfl rfl ?_); (try ((first | refine rl_off rfl ?_ | refine rl_move (v := (Value.int _ _ : Value)) rfl rfl ?_); (try ((first | refine rl_off rfl ?_ | (refine rl_idx1 sl33 rfl rfl rfl rfl ?_ ?_ ?_; omega; omega) | (apply rl_idx1 sl33 rfl rfl rfl; assumption; omega; omega)); (try ((first | refine rl_off rfl ?_ | (apply rl_load vt34 rfl rfl; assumption)); (try ((first | refine rl_off rfl ?_ | refine rl_move (v := (Value.int _ _ : Value)) rfl rfl ?_); (try ((first | refine rl_off rfl ?_ | (refine rl_idx1 sl34 rfl rfl rfl rfl ?_ ?_ ?_; omega; omega) | (apply rl_idx1 sl34 rfl rfl rfl; assumption; omega; omega)); (try ((first | refine rl_off rfl ?_ | (apply rl_load vt4 rfl rfl; assumption)); (try (refine rl_pick (v := (Value.bool _ : Value)) rfl rfl rfl ?_)))))))))))))))))))))))))))))))))))
                refine kq_normal (hL4 (i - (p + 1)).toNat _ _ (by omega) (by (repeat (first | with_reducible exact Agree.ov | with_reducible exact Agree.refl _ _ | refine Agree.upd rfl ?_ | refine Agree.ovs rfl ?_))) ⟨p + 1, bg, by rw [hh.2]; rfl, rfl, by omega, by omega, rfl, ?_, hbg, hc6, ?_, ?_, ?_⟩)
                · rw [hh.1]; exact hO6
                · rw [hh.2]; exact hB6
                · rw [hh.1]; omega
                · rw [hh.1]; exact hgn
              | true =>
                rw [h1] at d1
                cases h3 : rB i ls (p.toNat : Int) (j.toNat : Int) with
                | false =>
                  rw [h3] at d3
                  have hh := hno (by rw [hbo2, h1, h3]; rfl)
                  (repeat (first | refine seq_ ?_ | refine sq_normal ?_ | refine rl_nil ?_ | refine cond_t rfl ?_ | refine cond_f rfl ?_ | refine skip_ ?_ | refine block_ ?_ | refine inBlock_normal ?_ | (refine region_ (id := 28) ?_; (try (refine rl_move (v := (Value.int _ _ : Value)) rfl rfl ?_; (try (refine rl_move (v := (Value.int _ _ : Value)) rfl rfl ?_; (try ((first | (refine rl_lss_t rfl rfl rfl ?_ ?_; omega) | (refine rl_lss_f rfl rfl rfl ?_ ?_; omega))))))))) | (refine region_ (id := 29) ?_; (try (refine rl_move (v := (Value.int _ _ : Value)) rfl rfl ?_; (try ((refine rl_add rfl rfl rfl ?_ ?_ ?_; omega; omega); (try (refine rl_assign (v := (Value.int _ _ : Value)) rfl rfl ?_))))))) | (refine region_ (id := 30) ?_; (try (refine rl_move (v := (Value.slice _ _ _ : Value)) rfl rfl ?_; (try (refine rl_move (v := (Value.int _ _ : Value)) rfl rfl ?_; (try ((first | (refine rl_idx1 sl33 rfl rfl rfl rfl ?_ ?_ ?_; omega; omega) | (apply rl_idx1 sl33 rfl rfl rfl; assumption; omega; omega)); (try ((apply rl_load vt34 rfl rfl; assumption); (try (refine rl_move (v := (Value.int _ _ : Value)) rfl rfl ?_; (try ((first | (refine rl_idx1 sl34 rfl rfl rfl rfl ?_ ?_ ?_; omega; omega) | (apply rl_idx1 sl34 rfl rfl rfl; assumption; omega; omega)); (try ((apply rl_load vt4 rfl rfl; assumption); (try (refine rl_move (v := (Value.bool _ : Value)) rfl rfl ?_; (try ((first | refine rl_off rfl ?_ | refine rl_move (v := (Value.slice _ _ _ : Value)) rfl rfl ?_); (try ((first | refine rl_off rfl ?_ | refine rl_move (v := (Value.int _ _ : Value)) rfl rfl ?_); (try ((first | refine rl_off rfl ?_ | (refine rl_idx1 sl33 rfl rfl rfl rfl ?_ ?_ ?_; omega; omega) | (apply rl_idx1 sl33 rfl rfl rfl; assumption; omega; omega)); (try ((first | refine rl_off rfl ?_ | (apply rl_load vt34 rfl rfl; assumption)); (try ((first | refine rl_off rfl ?_ | refine rl_move (v := (Value.int _ _ : Value)) rfl rfl ?_); (try ((first | refine rl_off rfl ?_ | (refine rl_idx1 sl34 rfl rfl rfl rfl ?_ ?_ ?_; omega; omega) | (apply rl_idx1 sl34 rfl rfl rfl; assumption; omega; omega)); (try ((first | refine rl_off rfl ?_ | (apply rl_load vt4 rfl rfl; assumption)); (try (refine rl_pick (v := (Value.bool _ : Value)) rfl rfl rfl ?_)))))))))))))))))))))))))))))))))))
                  refine kq_normal (hL4 (i - (p + 1)).toNat _ _ (by omega) (by (repeat (first | with_reducible exact Agree.ov | with_reducible exact Agree.refl _ _ | refine Agree.upd rfl ?_ | refine Agree.ovs rfl ?_))) ⟨p + 1, bg, by rw [hh.2]; rfl, rfl, by omega, by omega, rfl, ?_, hbg, hc6, ?_, ?_, ?_⟩)
                  · rw [hh.1]; exact hO6
                  · rw [hh.2]; exact hB6
                  · rw [hh.1]; omega
                  · rw [hh.1]; exact hgn
                | true =>
                  rw [h3] at d3
                  (repeat (first | refine seq_ ?_ | refine sq_normal ?_ | refine rl_nil ?_ | refine cond_t rfl ?_ | refine skip_ ?_ | refine block_ ?_ | (refine region_ (id := 28) ?_; (try (refine rl_move (v := (Value.int _ _ : Value)) rfl rfl ?_; (try (refine rl_move (v := (Value.int _ _ : Value)) rfl rfl ?_; (try ((first | (refine rl_lss_t rfl rfl rfl ?_ ?_; omega) | (refine rl_lss_f rfl rfl rfl ?_ ?_; omega))))))))) | (refine region_ (id := 30) ?_; (try (refine rl_move (v := (Value.slice _ _ _ : Value)) rfl rfl ?_; (try (refine rl_move (v := (Value.int _ _ : Value)) rfl rfl ?_; (try ((first | (refine rl_idx1 sl33 rfl rfl rfl rfl ?_ ?_ ?_; omega; omega) | (apply rl_idx1 sl33 rfl rfl rfl; assumption; omega; omega)); (try ((apply rl_load vt34 rfl rfl; assumption); (try (refine rl_move (v := (Value.int _ _ : Value)) rfl rfl ?_; (try ((first | (refine rl_idx1 sl34 rfl rfl rfl rfl ?_ ?_ ?_; omega; omega) | (apply rl_idx1 sl34 rfl rfl rfl; assumption; omega; omega)); (try ((apply rl_load vt4 rfl rfl; assumption); (try (refine rl_move (v := (Value.bool _ : Value)) rfl rfl ?_; (try ((first | refine rl_off rfl ?_ | refine rl_move (v := (Value.slice _ _ _ : Value)) rfl rfl ?_); (try ((first | refine rl_off rfl ?_ | refine rl_move (v := (Value.int _ _ : Value)) rfl rfl ?_); (try ((first | refine rl_off rfl ?_ | (refine rl_idx1 sl33 rfl rfl rfl rfl ?_ ?_ ?_; omega; omega) | (apply rl_idx1 sl33 rfl rfl rfl; assumption; omega; omega)); (try ((first | refine rl_off rfl ?_ | (apply rl_load vt34 rfl rfl; assumption)); (try ((first | refine rl_off rfl ?_ | refine rl_move (v := (Value.int _ _ : Value)) rfl rfl ?_); (try ((first | refine rl_off rfl ?_ | (refine rl_idx1 sl34 rfl rfl rfl rfl ?_ ?_ ?_; omega; omega) | (apply rl_idx1 sl34 rfl rfl rfl; assumption; omega; omega)); (try ((first | refine rl_off rfl ?_ | (apply rl_load vt4 rfl rfl; assumption)); (try (refine rl_pick (v := (Value.bool _ : Value)) rfl rfl rfl ?_))))))))))))))))))))))))))))))))) | (refine region_ (id := 31) ?_; (try (refine rl_move (v := (Value.slice _ _ _ : Value)) rfl rfl ?_; (try (refine rl_move (v := (Value.int _ _ : Value)) rfl rfl ?_)))))))
                  refine rl_bslice1 (v := .int .i64 p) sl29 rfl rfl rfl rfl ?_
                  intro w7 hB7 hb7 hs7
                  refine rl_append (news := [Value.int .i64 p]) (B := w6.heap.size) (off := 0) sl29 rfl (by decide) (hO6.ext hb7) ?_ rfl rfl rfl (fun _ => rfl) rfl ?_ ?_ ?_ ?_
                  · intro j u hu; rw [Nat.zero_add]; exact hB7.cell_some hu
                  · intro u hu; simp at hu; subst hu; rfl
                  · unfold maxLen; omega
                  · omega
                  intro v8 w8 b8 hO8 hc8 hg8 _
                  obtain ⟨xa, xc, rfl, hxc, hxm, hxa⟩ := hO8.shape
                  have hsz7 := hb7.size
                  have hb8 : w5.heap.size ≤ b8 := by rcases hc8 with h | h <;> omega
                  have hB8 : Blk w8 w2.heap.size ((markTo i ls j.toNat p.toNat T).map Value.bool) 4 := (hB6.ext hb7).chg hg8 (by omega)
                  (repeat (first | refine seq_ ?_ | refine sq_normal ?_ | refine rl_nil ?_ | (refine region_ (id := 32) ?_; (try (refine rl_move (v := (Value.slice _ _ _ : Value)) rfl rfl ?_; (try (refine rl_move (v := (Value.int _ _ : Value)) rfl rfl ?_; (try ((first | (refine rl_idx1 sl34 rfl rfl rfl rfl ?_ ?_ ?_; omega; omega) | (apply rl_idx1 sl34 rfl rfl rfl; assumption; omega; omega))))))))) | refine rl_assign (v := (Value.slice _ _ _ : Value)) rfl rfl ?_))
                  refine rl_store (v := Value.bool true) vt4 rfl rfl rfl rfl hB8 ?_ ?_
                  · simp [markTo_len]; omega
                  intro w9 hB9 hc9 hs9
                  (repeat (first | refine sq_normal ?_ | refine rl_nil ?_ | refine inBlock_normal ?_ | (refine region_ (id := 29) ?_; (try (refine rl_move (v := (Value.int _ _ : Value)) rfl rfl ?_; (try ((refine rl_add rfl rfl rfl ?_ ?_ ?_; omega; omega); (try (refine rl_assign (v := (Value.int _ _ : Value)) rfl rfl ?_))))))) | (refine region_ (id := 33) ?_; (try (refine rl_move (v := (Value.int _ _ : Value)) rfl rfl ?_; (try ((refine rl_add rfl rfl rfl ?_ ?_ ?_; omega; omega); (try (refine rl_assign (v := (Value.int _ _ : Value)) rfl rfl ?_)))))))))
                  have hb : both i ls j.toNat p.toNat = true := by rw [hbo2, h1, h3]; rfl
                  have eg : grpTo i ls j.toNat (p + 1).toNat = grpTo i ls j.toNat p.toNat ++ [p] := by
                    rw [ek, grpTo_succ, hb, if_pos rfl]; congr 2; omega
                  have em : markTo i ls j.toNat (p + 1).toNat T = (markTo i ls j.toNat p.toNat T).set p.toNat true := by
                    rw [ek, markTo_succ hkl, hb, if_pos rfl]
                  have ec : (markTo i ls j.toNat (p + 1).toNat T).count true = (markTo i ls j.toNat p.toNat T).count true + 1 := by
                    rw [markTo_cnt hW hTl hjl hTb _ (by omega), markTo_cnt hW hTl hjl hTb _ (by omega), eg]; simp; omega
                  have hO9 : Own w9 3 1 (.slice xa ((grpTo i ls j.toNat p.toNat).length + 1) xc) (grpTo i ls j.toNat (p + 1).toNat).length ((grpTo i ls j.toNat (p + 1).toNat).map (Value.int .i64)) b8 := by
                    rw [eg]; simpa using hO8.chg hc9 (by omega)
                  refine kq_normal (hL4 (i - (p + 1)).toNat _ _ (by omega) (by (repeat (first | with_reducible exact Agree.ov | with_reducible exact Agree.refl _ _ | refine Agree.upd rfl ?_ | refine Agree.ovs rfl ?_))) ⟨p + 1, b8, by rw [ec]; rfl, rfl, by omega, by omega, rfl, hO9, hb8, ?_, ?_, ?_, ?_⟩)
                  · exact (Chg.new (Chg.new hc6 (Chg.of_ext w6.heap.size hb7) hsz6) hg8 hbg).trans hc9
                  · rw [em]; simpa [List.map_set] using hB9
                  · rw [eg]; simp; omega
                  · intro h; rw [eg] at h; simp at h
            · have hkn' : p.toNat = i.toNat := by omega
              rw [hkn'] at hO6 hgl hgn hB6 hgc
              rw [hkn']
              (repeat (first | refine seq_ ?_ | refine sq_normal ?_ | refine sq_exit ?_ | refine rl_nil ?_ | refine cond_f rfl ?_ | refine exit_ ?_ | refine inBlock_exit ?_ | refine kq_exit ?_ | (refine region_ (id := 28) ?_; (try (refine rl_move (v := (Value.int _ _ : Value)) rfl rfl ?_; (try (refine rl_move (v := (Value.int _ _ : Value)) rfl rfl ?_; (try ((first | (refine rl_lss_t rfl rfl rfl ?_ ?_; omega) | (refine rl_lss_f rfl rfl rfl ?_ ?_; omega))))))))) | (refine region_ (id := 34) ?_; (try (refine rl_move (v := (Value.slice _ _ _ : Value)) rfl rfl ?_; (try (refine rl_move (v := (Value.slice _ _ _ : Value)) rfl rfl ?_)))))))
              refine rl_bslice1 (v := Value.slice ga (grpTo i ls j.toNat i.toNat).length gc) sl22 rfl rfl rfl rfl ?_
              intro w7 hB7 hb7 hs7
              have hsz7 := hb7.size
              have hRo7 : Own w7 29 1 (.slice oa out.length oc) out.length us5 bo := by
                rcases hR.own.nil_or with ⟨h1, h2, h3⟩ | h
                · rw [h1, h2, h3]; exact Own.nil _ _ _ _
                · exact (hR.own.chg hc6 (by have := hR.low; omega)).ext hb7
              obtain ⟨b7, hO7, hb7c⟩ := Own.fresh hR.own hRo7
              have holen : out.length ≤ 1000 := by omega
              refine rl_append (news := [Value.slice ga (grpTo i ls j.toNat i.toNat).length gc]) (B := w6.heap.size) (off := 0) sl22 rfl (by decide) hO7 ?_ rfl rfl rfl (fun _ => rfl) rfl ?_ ?_ ?_ ?_
              · intro j u hu; rw [Nat.zero_add]; exact hB7.cell_some hu
              · intro u hu; simp at hu; subst hu; rfl
              · unfold maxLen; omega
              · omega
              intro v8 w8 b8 hO8 hc8 hg8 _
              obtain ⟨xa, xc, rfl, hxc, hxm, hxa⟩ := hO8.shape
              (repeat (first | refine rl_nil ?_ | refine inBlock_normal ?_ | refine rl_assign (v := (Value.slice _ _ _ : Value)) rfl rfl ?_))
              have hlow2 := hR.low
              have hb7B : w3.heap.size ≤ b7 := by rcases hb7c with ⟨h, _⟩ | h <;> omega
              have hR8 := Rws.snoc (xs := grpTo i ls j.toNat i.toNat) hR hsz5 (fun q ys c hj hc hne u h => by
                obtain ⟨u', c', e1, e2, e3, e4, e5, e6⟩ := hR.row q ys hj
                rw [hc] at e2; cases e2
                have := (e5 hne).1
                exact (h.chg hc6 (by omega)).ext hb7) (by omega) (hO6.ext hb7) hbg (grpTo_i64 (by omega)) hgn hb7c hO8 hc8 hg8
              have hcnt2 := markTo_count (n := i) (ls := ls) hTl hjl hTb
              rw [hkn'] at hmc
              obtain ⟨f', rfl⟩ : ∃ f', f = f' + 1 := ⟨f - 1, by omega⟩
              have hgs : gs i ls (f' + 1) T = grpTo i ls j.toNat i.toNat :: gs i ls f' (markTo i ls j.toNat i.toNat T) := by simp only [gs, hnext]
              rw [hgs] at hout
              refine kq_normal (hL1 (i.toNat - (markTo i ls j.toNat i.toNat T).count true) _ _ (by omega) (by (repeat (first | with_reducible exact Agree.ov | with_reducible exact Agree.refl _ _ | refine Agree.upd rfl ?_ | refine Agree.ovs rfl ?_))) ⟨markTo i ls j.toNat i.toNat T, out ++ [grpTo i ls j.toNat i.toNat], us5 ++ [Value.slice ga (grpTo i ls j.toNat i.toNat).length gc], bs ++ [bg], b8, f',
                rfl, hR8, (hLd6.ext hb7).chg hg8 (by omega), ?_, markTo_len _ _ _ _ _, ?_, by have := hg8.size; omega, by simpa using hout, by omega, rfl, by simp; omega, whole_mark hW hjl⟩)
              · exact (hB6.ext hb7).chg hg8 (by omega)
              · exact below_chg (below_ext (below_chg hb5 hc6 (by omega) (by omega)) hb7 (by omega)) hg8 (by omega) (by omega)
      · have hnone : nextG i ls T = none := find_range_none (fun p hp => hd p (by omega))
        have hg : gs i ls f T = [] := by
          cases f with
          | zero => rfl
          | succ f => simp only [gs, hnone]
        rw [hg, List.append_nil] at hout
        (repeat (first | refine seq_ ?_ | refine sq_normal ?_ | refine sq_exit ?_ | refine sq_ret ?_ | refine rl_nil ?_ | refine cond_t rfl ?_ | refine cond_f rfl ?_ | refine ret_ ?_ | refine exit_ ?_ | refine inBlock_ret ?_ | refine inBlock_exit ?_ | refine kq_ret ?_ | refine kq_exit ?_ | (refine region_ (id := 15) ?_; (try (refine rl_move (v := (Value.int _ _ : Value)) rfl rfl ?_; (try (refine rl_move (v := (Value.int _ _ : Value)) rfl rfl ?_; (try ((first | (refine rl_lss_t rfl rfl rfl ?_ ?_; omega) | (refine rl_lss_f rfl rfl rfl ?_ ?_; omega))))))))) | (refine region_ (id := 24) ?_; (try (refine rl_move (v := (Value.int _ _ : Value)) rfl rfl ?_; (try (refine rl_move (v := (Value.int _ _ : Value)) rfl rfl ?_; (try ((first | (refine rl_eql_t rfl rfl rfl ?_ ?_; omega) | (refine rl_eql_f rfl rfl rfl ?_ ?_; omega))))))))) | (refine region_ (id := 25) ?_; (try (refine rl_move (v := (Value.slice _ _ _ : Value)) rfl rfl ?_; (try (refine rl_assign (v := (Value.slice _ _ _ : Value)) rfl rfl ?_)))))))
        refine bp_ret1 (v := Value.slice _ _ _) rfl rfl ⟨hb5, w3.heap.size, us5, bs, bo, by have := hb2.size; have := hb3.size; omega, ?_⟩
        rw [← hout]; exact hR
    · have hnone : nextG i ls T = none := nextG_full hTl (by omega)
      have hg : gs i ls f T = [] := by
        cases f with
        | zero => rfl
        | succ f => simp only [gs, hnone]
      rw [hg, List.append_nil] at hout
      (repeat (first | refine seq_ ?_ | refine sq_normal ?_ | refine sq_exit ?_ | refine rl_nil ?_ | refine cond_f rfl ?_ | refine ret_ ?_ | refine exit_ ?_ | refine inBlock_exit ?_ | refine kq_exit ?_ | (refine region_ (id := 13) ?_; (try (refine rl_move (v := (Value.int _ _ : Value)) rfl rfl ?_; (try (refine rl_move (v := (Value.int _ _ : Value)) rfl rfl ?_; (try ((first | (refine rl_lss_t rfl rfl rfl ?_ ?_; omega) | (refine rl_lss_f rfl rfl rfl ?_ ?_; omega))))))))) | (refine region_ (id := 35) ?_; (try (refine rl_move (v := (Value.slice _ _ _ : Value)) rfl rfl ?_; (try (refine rl_assign (v := (Value.slice _ _ _ : Value)) rfl rfl ?_)))))))
      refine bp_ret1 (v := Value.slice _ _ _) rfl rfl ⟨hb5, w3.heap.size, us5, bs, bo, by have := hb2.size; have := hb3.size; omega, ?_⟩
      rw [← hout]; exact hR
end Go.Proofs.Ytgiifodmbckbmaa.Scc
