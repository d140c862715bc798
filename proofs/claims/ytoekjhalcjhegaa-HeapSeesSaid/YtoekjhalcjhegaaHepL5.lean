/- The walk of fuguelaw27.HeapSees. -/
import Derived.Test.YtoekjhalcjhegaaHepP4
set_option linter.unusedVariables false
set_option linter.unusedSimpArgs false
namespace Go.Proofs.Ytoekjhalcjhegaa.Hep
open Go Go.Eng Go.RowKit Go.Hp
attribute [local irreducible] RL RX KQ SQ Exit.inBlock Exit.then BP NP CallsOk IsSl IsRows IsInts IsBools Own Blk Code.wp Calls wpList
set_option maxRecDepth 4000 in
set_option maxHeartbeats 4000000 in
theorem law5 (v : Value) (xs : List Ac) (rv : Value) (rs : List Int) (d0 : Int) (w : World) (hx : IsActs w.cell? v xs) (hr : IsInts w.cell? rv rs) (h0 : I64 d0) : CallsOk Try.prog 5 #[v, rv, .int .i64 d0] w fun r w' => r = .bool true ∧ Below w.heap.size w w' := by
  have hM := Mem.init w
  obtain ⟨w0, hw0⟩ : ∃ w0, w0 = w := ⟨_, rfl⟩
  obtain ⟨V, hVd⟩ : ∃ V, V = w.cell? := ⟨_, rfl⟩
  rw [← hVd] at hM hx hr
  replace hM : Mem w0 w [] V := by rw [hw0]; exact hM
  have key : CallsOk Try.prog 5 #[v, rv, .int .i64 d0] w fun r w' => r = .bool true ∧ Below w0.heap.size w0 w' := by
    clear hVd hw0
    obtain ⟨va, vc, _, _, hvv, _⟩ := id hx
    obtain ⟨ra, rc, rb, roff, hrr, hrc, hrcm, hra, hrel⟩ := id hr.open
    refine enter_ (N := 90) Try.func5 rfl rfl rfl ?_
    subst hvv hrr
    (repeat (first | refine seq_ ?_ | refine sq_normal ?_ | refine rl_nil ?_ | (refine region_ (id := 0) ?_; (try (refine rl_assign (v := (Value.bool _ : Value)) rfl rfl ?_))) | (refine region_ (id := 1) ?_; (try (refine rl_move (v := (Value.slice _ _ _ : Value)) rfl rfl ?_)))))
    refine rl_callf fn28 (built_ok w0 w [] V _ xs hM hx) rfl rfl ?_
    clear hM
    rintro _ w ⟨V1, h, hV1, rfl, hv, hcs0, hM, hcs⟩
    (repeat (first | refine seq_ ?_ | refine sq_normal ?_ | refine rl_nil ?_ | (refine region_ (id := 2) ?_; (try (refine rl_move (v := (Value.slice _ _ _ : Value)) rfl rfl ?_))) | refine rl_assign (v := (Value.bool _ : Value)) rfl rfl ?_ | refine rl_move (v := (Value.tuple _ : Value)) rfl rfl ?_ | refine rl_extract rfl rfl rfl ?_ | refine rl_assign (v := (Value.pointer _ : Value)) rfl rfl ?_))
    refine rl_callf fn28 (built_ok w0 w _ V1 _ xs hM (hx.le hV1)) rfl rfl ?_
    clear hM
    rintro _ w ⟨V2, g, hV2, rfl, gv, gcs0, hM, hgs⟩
    replace hcs := hcs.le hV2
    have hO := builtN_ok xs
    have hl := builtN_len xs
    obtain ⟨l, hld⟩ : ∃ l, l = builtN xs := ⟨_, rfl⟩
    rw [← hld] at hM hcs hgs hO hl
    clear hld
    obtain ⟨gv, gcs, hv, hcs0, hM, hgs, hcs⟩ : H2 w0 w V2 h 40 l g 40 l [] := H2.swap ⟨gv, gcs0, hv, hcs0, hM, hgs, hcs⟩
    (repeat (first | refine seq_ ?_ | refine sq_normal ?_ | refine rl_nil ?_ | refine cond_f rfl ?_ | refine skip_ ?_ | (refine region_ (id := 3) ?_; (try (refine rl_move (v := (Value.bool _ : Value)) rfl rfl ?_; (try (refine rl_not rfl rfl ?_; (try (refine rl_move (v := (Value.bool _ : Value)) rfl rfl ?_; (try ((first | refine rl_off rfl ?_ | refine rl_move (v := (Value.bool _ : Value)) rfl rfl ?_); (try ((first | refine rl_off rfl ?_ | refine rl_not rfl rfl ?_); (try (refine rl_pick (v := (Value.bool _ : Value)) rfl rfl rfl ?_))))))))))))) | (refine region_ (id := 5) ?_; (try (refine rl_move (v := (Value.pointer _ : Value)) rfl rfl ?_))) | refine rl_assign (v := (Value.bool _ : Value)) rfl rfl ?_ | refine rl_move (v := (Value.tuple _ : Value)) rfl rfl ?_ | refine rl_extract rfl rfl rfl ?_ | refine rl_assign (v := (Value.pointer _ : Value)) rfl rfl ?_))
    refine rl_callf fn14 (len_ok w0 w _ V2 h 40 l ⟨_, _, hM, hgs⟩) rfl rfl ?_
    rintro _ w ⟨rfl, rfl⟩
    by_cases hz : (l.length : Int) = 0
    · have hl0 := emp_of hz
      subst hl0
      (repeat (first | refine seq_ ?_ | refine sq_normal ?_ | refine rl_nil ?_ | refine cond_t rfl ?_ | (refine region_ (id := 6) ?_; (try (refine rl_move (v := (Value.pointer _ : Value)) rfl rfl ?_))) | (first | (refine rl_eql_t rfl rfl rfl ?_ ?_; omega) | (refine rl_eql_f rfl rfl rfl ?_ ?_; omega))))
      refine rl_callf fn15 (collect_ok w0 w _ V2 h 40 [] (.slice none 0 0) [] ⟨_, _, hM, hgs⟩ hO (ints_nil V2) (by decide) (by decide)) rfl rfl ?_
      clear hM
      rintro tv w ⟨V3, hV3, hH, htv⟩
      rw [collect_nil] at htv
      obtain ⟨ta, tc, _, _, rfl, _⟩ := htv.open
      (repeat (first | refine rl_move (v := (Value.bool _ : Value)) rfl rfl ?_ | (first | (refine rl_eql_t rfl rfl rfl ?_ ?_; omega) | (refine rl_eql_f rfl rfl rfl ?_ ?_; omega)) | refine rl_len sl29 rfl rfl ?_))
      refine rl_callf fn17 (lives_ok w0 w _ V3 (HP.drop hH)) rfl rfl ?_
      rintro _ w ⟨V4, hV4, rfl, hM⟩
      (repeat (first | refine sq_normal ?_ | refine sq_ret ?_ | refine rl_nil ?_ | refine ret_ ?_ | refine rl_assign (v := (Value.bool _ : Value)) rfl rfl ?_ | refine rl_pick (v := (Value.bool _ : Value)) rfl rfl rfl ?_))
      exact bp_ret1 (v := Value.bool _) rfl rfl ⟨rfl, hM.below⟩
    · have hn0 : 0 < l.length := by omega
      replace hM := ((((hM.newOwn 3 1).front 4 rfl).front 4 rfl).front 4 rfl).front 4 rfl
      (repeat (first | refine seq_ ?_ | refine sq_normal ?_ | refine rl_nil ?_ | refine cond_f rfl ?_ | refine skip_ ?_ | refine block_ ?_ | (refine region_ (id := 7) ?_; (try (refine rl_assign (v := (Value.slice _ _ _ : Value)) rfl rfl ?_))) | (refine region_ (id := 8) ?_; (try (refine rl_assign (v := (Value.int _ _ : Value)) rfl rfl ?_))) | (first | (refine rl_eql_t rfl rfl rfl ?_ ?_; omega) | (refine rl_eql_f rfl rfl rfl ?_ ?_; omega))))
      refine cut_blk1 [(11, 13), (41, 61)] 11 (fun pv wr => Mem w0 wr (hp 67 31 h gv 40 l gcs (hp 67 31 g hv 40 l hcs0 [.own pv 3 1 (min rs.length 6) ((placesN rs l.length (min rs.length 6)).map (Value.int .i64))])) V2) ?_ ?_
      · refine loop2 [(11, 13), (41, 61)] 11 12 (fun m pv vi wr => ∃ (i : Nat), vi = .int .i64 i ∧ i ≤ rs.length ∧ i ≤ 6 ∧ m = 6 - i ∧ Mem w0 wr (hp 67 31 h gv 40 l gcs (hp 67 31 g hv 40 l hcs0 [.own pv 3 1 i ((placesN rs l.length i).map (Value.int .i64))])) V2) _
          ⟨0, rfl, Nat.zero_le _, Nat.zero_le _, rfl, hM⟩ ?_
        clear hM
        rintro m τ pv vi w ⟨i, rfl, hi, hi6, rfl, hM⟩ K0 hL0
        obtain ⟨pa, pc, rfl, _, _⟩ := hM.ownShape (i := 4) rfl
        by_cases hlt1 : i < rs.length
        · by_cases hlt2 : i < 6
          · obtain ⟨r, hri⟩ : ∃ r, rs[i]? = some r := ⟨_, List.getElem?_eq_getElem hlt1⟩
            have hra' := hra (by omega)
            subst hra'
            have hv0 : V2 ⟨rb, roff + (i : Int).toNat, none⟩ = some (.int .i64 r) := hV2 _ _ (hV1 _ _ (hrel i r hri))
            have hr64 := hr.rng r (List.mem_of_getElem? hri)
            have hpl := placesN_len (n := l.length) hi
            (repeat (first | refine seq_ ?_ | refine sq_normal ?_ | refine rl_nil ?_ | refine cond_t rfl ?_ | refine skip_ ?_ | refine block_ ?_ | (refine region_ (id := 9) ?_; (try (refine rl_move (v := (Value.int _ _ : Value)) rfl rfl ?_; (try (refine rl_move (v := (Value.slice _ _ _ : Value)) rfl rfl ?_; (try (refine rl_len sl29 rfl rfl ?_; (try ((first | (refine rl_lss_t rfl rfl rfl ?_ ?_; omega) | (refine rl_lss_f rfl rfl rfl ?_ ?_; omega)); (try (refine rl_move (v := (Value.bool _ : Value)) rfl rfl ?_; (try ((first | refine rl_off rfl ?_ | refine rl_move (v := (Value.int _ _ : Value)) rfl rfl ?_); (try ((first | refine rl_off rfl ?_ | (refine rl_lss_t rfl rfl rfl ?_ ?_; omega) | (refine rl_lss_f rfl rfl rfl ?_ ?_; omega)); (try (refine rl_pick (v := (Value.bool _ : Value)) rfl rfl rfl ?_)))))))))))))))))))
            refine drawnM_ 10 [(0, false), (1, false), (2, false), (3, false), (4, false), (5, false), (6, true), (7, true), (8, true), (9, true)] (fun w => Mem w0 w [] V2) hM mo (by kernel_rfl) (fun _ h => h.dropn 5) ?_
            clear hM
            intro w hM
            (try (refine rx_move (v := (Value.slice _ _ _ : Value)) rfl rfl rfl ?_; (try (refine rx_move (v := (Value.slice _ _ _ : Value)) rfl rfl rfl ?_; (try (refine rx_move (v := (Value.int _ _ : Value)) rfl rfl rfl ?_; (try ((first | (refine rx_idx1 rfl sl29 rfl rfl rfl rfl ?_ ?_ ?_; omega; omega) | (apply rx_idx1 rfl sl29 rfl rfl rfl; assumption; omega; omega)); (try ((first | refine rx_loadV rfl (fun _ h => h) vt3 rfl rfl (by first | assumption | exact VRow.get (by assumption) rfl | exact VRow.get0 (by assumption) rfl) ?_ | refine rx_loadM 0 rfl (fun _ h => h) vt3 rfl rfl rfl (by first | rfl | assumption) ?_ | refine rx_loadM 1 rfl (fun _ h => h) vt3 rfl rfl rfl (by first | rfl | assumption) ?_ | refine rx_loadM 2 rfl (fun _ h => h) vt3 rfl rfl rfl (by first | rfl | assumption) ?_ | refine rx_loadM 3 rfl (fun _ h => h) vt3 rfl rfl rfl (by first | rfl | assumption) ?_ | refine rx_loadM 4 rfl (fun _ h => h) vt3 rfl rfl rfl (by first | rfl | assumption) ?_ | refine rx_loadM 5 rfl (fun _ h => h) vt3 rfl rfl rfl (by first | rfl | assumption) ?_ | refine rx_loadM 6 rfl (fun _ h => h) vt3 rfl rfl rfl (by first | rfl | assumption) ?_ | refine rx_loadM 7 rfl (fun _ h => h) vt3 rfl rfl rfl (by first | rfl | assumption) ?_ | refine rx_loadM 8 rfl (fun _ h => h) vt3 rfl rfl rfl (by first | rfl | assumption) ?_ | refine rx_loadO 0 rfl (fun _ h => h) vt3 rfl rfl rfl (by first | assumption | exact ORow.get (by assumption) rfl | exact ORow.get0 (by assumption) rfl) ?_ | refine rx_loadO 1 rfl (fun _ h => h) vt3 rfl rfl rfl (by first | assumption | exact ORow.get (by assumption) rfl | exact ORow.get0 (by assumption) rfl) ?_ | refine rx_loadO 2 rfl (fun _ h => h) vt3 rfl rfl rfl (by first | assumption | exact ORow.get (by assumption) rfl | exact ORow.get0 (by assumption) rfl) ?_ | refine rx_loadO 3 rfl (fun _ h => h) vt3 rfl rfl rfl (by first | assumption | exact ORow.get (by assumption) rfl | exact ORow.get0 (by assumption) rfl) ?_ | refine rx_loadO 4 rfl (fun _ h => h) vt3 rfl rfl rfl (by first | assumption | exact ORow.get (by assumption) rfl | exact ORow.get0 (by assumption) rfl) ?_ | refine rx_loadO 5 rfl (fun _ h => h) vt3 rfl rfl rfl (by first | assumption | exact ORow.get (by assumption) rfl | exact ORow.get0 (by assumption) rfl) ?_ | refine rx_loadO 6 rfl (fun _ h => h) vt3 rfl rfl rfl (by first | assumption | exact ORow.get (by assumption) rfl | exact ORow.get0 (by assumption) rfl) ?_ | refine rx_loadO 7 rfl (fun _ h => h) vt3 rfl rfl rfl (by first | assumption | exact ORow.get (by assumption) rfl | exact ORow.get0 (by assumption) rfl) ?_ | refine rx_loadO 8 rfl (fun _ h => h) vt3 rfl rfl rfl (by first | assumption | exact ORow.get (by assumption) rfl | exact ORow.get0 (by assumption) rfl) ?_); (try (refine rx_move (v := (Value.pointer _ : Value)) rfl rfl rfl ?_))))))))))))
            refine rx_eff rfl (fun Kx hKx => ?_)
            refine rl_callf fn14 (len_ok w0 w _ V2 h 40 l ⟨_, _, hM, hgs⟩) rfl rfl ?_
            rintro _ w ⟨rfl, rfl⟩
            refine rl_nil (kq_normal (hKx _ _ (hM.dropn 5) ?_))
            refine rx_eff rfl (fun Kx hKx => ?_)
            refine rl_callf fn11 (around_ok r (l.length : Int) w hr64.1 hr64.2 (by omega) (by omega)) rfl rfl ?_
            rintro _ w ⟨rfl, rfl⟩
            refine rl_nil (kq_normal (hKx _ _ (hM.dropn 5) ?_))
            refine rx_eff rfl (fun Kx hKx => ?_)
            refine rl_bsliceM (d := 59) [.int .i64 (around r l.length)] hM sl29 rfl rfl rfl rfl rfl (by decide) (by decide) ?_
            clear hM
            intro w b59 hM
            refine rl_nil (kq_normal (hKx _ _ (hM.dropn 6) ?_))
            refine rx_eff rfl (fun Kx hKx => ?_)
            refine rl_appendM 5 (news := [.int .i64 (around r l.length)]) (B := b59) (off := 0) hM sl29 rfl (by decide) rfl (hM.row (i := 0) rfl) rfl rfl rfl (fun _ => rfl) rfl (by simp [Value.oneCell']) (by unfold maxLen; omega) (by omega) ?_
            clear hM
            intro w a' c' _ _ hM
            refine rl_nil (kq_normal (hKx _ _ (hM.dropn 6) ?_))
            refine rx_nil rfl ?_
            replace hM : Mem w0 w (hp 67 31 h gv 40 l gcs (hp 67 31 g hv 40 l hcs0 [.own (.slice a' (i + 1) c') 3 1 (i + 1) ((placesN rs l.length i).map (Value.int .i64) ++ [.int .i64 (around r l.length)])])) V2 := hM.dropn 1
            rw [show (placesN rs l.length i).map (Value.int .i64) ++ [Value.int .i64 (around r l.length)] = (placesN rs l.length (i + 1)).map (Value.int .i64) by rw [placesN_succ hri]; simp] at hM
            (repeat (first | refine sq_normal ?_ | refine rl_nil ?_ | refine inBlock_normal ?_ | refine np_normal ?_ | (refine region_ (id := 10) ?_; (try (refine rl_move (v := (Value.int _ _ : Value)) rfl rfl ?_; (try ((refine rl_add rfl rfl rfl ?_ ?_ ?_; omega; omega); (try (refine rl_assign (v := (Value.int _ _ : Value)) rfl rfl ?_))))))) | refine rl_assign (v := (Value.slice _ _ _ : Value)) rfl rfl ?_))
            exact kq_normal (hL0 (6 - (i + 1)) _ _ (by omega) (by (repeat (first | with_reducible exact Agree.ov | with_reducible exact Agree.refl _ _ | refine Agree.upd rfl ?_ | refine Agree.ovs rfl ?_))) ⟨i + 1, rfl, by omega, by omega, rfl, hM⟩)
          · obtain rfl : i = 6 := by omega
            (repeat (first | refine seq_ ?_ | refine sq_normal ?_ | refine sq_exit ?_ | refine rl_nil ?_ | refine cond_f rfl ?_ | refine exit_ ?_ | refine inBlock_exit ?_ | refine kq_exit ?_ | (refine region_ (id := 9) ?_; (try (refine rl_move (v := (Value.int _ _ : Value)) rfl rfl ?_; (try (refine rl_move (v := (Value.slice _ _ _ : Value)) rfl rfl ?_; (try (refine rl_len sl29 rfl rfl ?_; (try ((first | (refine rl_lss_t rfl rfl rfl ?_ ?_; omega) | (refine rl_lss_f rfl rfl rfl ?_ ?_; omega)); (try (refine rl_move (v := (Value.bool _ : Value)) rfl rfl ?_; (try ((first | refine rl_off rfl ?_ | refine rl_move (v := (Value.int _ _ : Value)) rfl rfl ?_); (try ((first | refine rl_off rfl ?_ | (refine rl_lss_t rfl rfl rfl ?_ ?_; omega) | (refine rl_lss_f rfl rfl rfl ?_ ?_; omega)); (try (refine rl_pick (v := (Value.bool _ : Value)) rfl rfl rfl ?_)))))))))))))))))))
            exact kq_normal ⟨by (repeat (first | with_reducible exact Agree.ov | with_reducible exact Agree.refl _ _ | refine Agree.upd rfl ?_ | refine Agree.ovs rfl ?_)), by rw [show min rs.length 6 = 6 by omega]; exact hM⟩
        · obtain rfl : i = rs.length := by omega
          (repeat (first | refine seq_ ?_ | refine sq_normal ?_ | refine sq_exit ?_ | refine rl_nil ?_ | refine cond_f rfl ?_ | refine exit_ ?_ | refine inBlock_exit ?_ | refine kq_exit ?_ | (refine region_ (id := 9) ?_; (try (refine rl_move (v := (Value.int _ _ : Value)) rfl rfl ?_; (try (refine rl_move (v := (Value.slice _ _ _ : Value)) rfl rfl ?_; (try (refine rl_len sl29 rfl rfl ?_; (try ((first | (refine rl_lss_t rfl rfl rfl ?_ ?_; omega) | (refine rl_lss_f rfl rfl rfl ?_ ?_; omega)); (try (refine rl_move (v := (Value.bool _ : Value)) rfl rfl ?_; (try ((first | refine rl_off rfl ?_ | refine rl_move (v := (Value.int _ _ : Value)) rfl rfl ?_); (try ((first | refine rl_off rfl ?_ | (refine rl_lss_t rfl rfl rfl ?_ ?_; omega) | (refine rl_lss_f rfl rfl rfl ?_ ?_; omega)); (try (refine rl_pick (v := (Value.bool _ : Value)) rfl rfl rfl ?_)))))))))))))))))))
          exact kq_normal ⟨by (repeat (first | with_reducible exact Agree.ov | with_reducible exact Agree.refl _ _ | refine Agree.upd rfl ?_ | refine Agree.ovs rfl ?_)), by rw [show min rs.length 6 = rs.length by omega]; exact hM⟩
      clear hM
      rintro τ pv w hM
      obtain ⟨n6, hn6⟩ : ∃ n6, n6 = min rs.length 6 := ⟨_, rfl⟩
      rw [← hn6] at hM
      obtain ⟨pa, pc, rfl, _, _⟩ := hM.ownShape (i := 4) rfl
      obtain ⟨ps, hps⟩ : ∃ ps, ps = placesN rs l.length n6 := ⟨_, rfl⟩
      have hpl : ps.length = n6 := by rw [hps]; exact placesN_len (by omega)
      have hpr : ∀ p ∈ ps, 0 ≤ p ∧ p < l.length := by rw [hps]; exact placesN_rng hn0
      rw [← hps] at hM
      clear hps
      obtain ⟨V3, hV3, hM3, pa', pc', pb, er, e5, e6, e7, e8⟩ := Mem.freezeOwn (hM.front 4 rfl)
      cases er
      replace hM3 : Mem w0 w (hp 67 31 h gv 40 l gcs (hp 67 31 g hv 40 l hcs0 [])) V3 := hM3
      have hpi : IsInts V3 (.slice pa n6 pc) ps := isInts_of hpl.symm (by rw [hpl]; exact e5) e6 (by rw [hpl]; exact e7) e8 (fun x hx => by have := hpr x hx; unfold I64; omega)
      clear hM e7 e8
      (repeat (first | refine seq_ ?_ | (refine region_ (id := 12) ?_; (try (refine rl_move (v := (Value.pointer _ : Value)) rfl rfl ?_; (try (refine rl_move (v := (Value.slice _ _ _ : Value)) rfl rfl ?_)))))))
      refine rl_callf fn15 (collect_ok w0 w _ V3 h 40 l _ ps ⟨_, _, hM3, hgs.le hV3⟩ hO hpi (by omega) (by omega)) rfl rfl ?_
      clear hM3 hgs
      rintro tv w ⟨V4, hV4, ⟨gv, gcs, hM, hgs⟩, htv⟩
      rw [col_out] at htv
      obtain ⟨ta, tc, tb, toff, rfl, _, _, hta, htel⟩ := htv.open
      have htl : (ps.map (outv l (kept l ps))).length = n6 := by rw [List.length_map, hpl]
      simp only [htl] at hta htel ⊢
      obtain ⟨_, _, pb2, poff, hpv, _, _, hpa, hpel⟩ := hpi.open
      obtain ⟨hpv1, hpv2, hpv3⟩ := Value.slice.inj hpv
      rw [← hpv1] at hpa
      rw [hpl] at hpa
      clear hpv hpv1 hpv2 hpv3
      replace hcs := (hcs.le hV3).le hV4
      (repeat (first | refine seq_ ?_ | refine sq_normal ?_ | refine rl_nil ?_ | refine cond_f rfl ?_ | refine skip_ ?_ | refine block_ ?_ | (refine region_ (id := 13) ?_; (try (refine rl_move (v := (Value.slice _ _ _ : Value)) rfl rfl ?_; (try (refine rl_len sl29 rfl rfl ?_; (try (refine rl_move (v := (Value.slice _ _ _ : Value)) rfl rfl ?_; (try (refine rl_len sl29 rfl rfl ?_; (try ((first | (refine rl_neq_t rfl rfl rfl ?_ ?_; omega) | (refine rl_neq_f rfl rfl rfl ?_ ?_; omega))))))))))))) | (refine region_ (id := 15) ?_; (try (refine rl_assign (v := (Value.int _ _ : Value)) rfl rfl ?_))) | refine rl_assign (v := (Value.slice _ _ _ : Value)) rfl rfl ?_))
      have hH2 := H2.swap ⟨gv, gcs, hv, hcs0, hM, hgs, hcs⟩
      clear hM hgs hcs
      have hdd := around_lt d0 5 (by decide)
      obtain ⟨dd, hddn⟩ : ∃ dd : Nat, around d0 5 = dd := ⟨(around d0 5).toNat, by omega⟩
      refine loop1 [(6, 7), (14, 15), (69, 89)] 14 (fun m vi wr => ∃ (i : Nat) (V5 : Vw), vi = .int .i64 i ∧ i ≤ n6 ∧ m = n6 - i ∧ VLe V4 V5 ∧ H2 w0 wr V5 g 40 l h 40 (collect l ps).1 []) _
        ⟨0, V4, rfl, Nat.zero_le _, rfl, VLe.refl _, hH2⟩ ?_
      clear hH2
      rintro m τ2 vi w ⟨i, V5, rfl, hi, rfl, hV5, hH2⟩ K0 hL0
      by_cases hlt : i < n6
      · obtain ⟨p, hp⟩ : ∃ p, ps[i]? = some p := ⟨_, List.getElem?_eq_getElem (by omega)⟩
        have hpp := hpr p (List.mem_of_getElem? hp)
        have hin := inB_iff.2 hpp
        have hkr := kept_root hO (List.mem_of_getElem? hp) hin
        have hq : (ps.map (outv l (kept l ps)))[i]? = some (((kept l ps).idxOf (fol l p) : Nat) : Int) := by
          rw [List.getElem?_map, hp]
          show some (outv l (kept l ps) p) = _
          unfold outv; rw [if_pos hin]
        have hta' := hta (by omega)
        have hpa' := hpa (by omega)
        subst hta' hpa'
        have hv1 : V5 ⟨tb, toff + (i : Int).toNat, none⟩ = some (.int .i64 (((kept l ps).idxOf (fol l p) : Nat) : Int)) := hV5 _ _ (htel i _ hq)
        have hv2 : V5 ⟨pb2, poff + (i : Int).toNat, none⟩ = some (.int .i64 p) := hV5 _ _ (hV4 _ _ (hpel i p hp))
        obtain ⟨gv, gcs, hv, hcs0, hM, hgs, hcs⟩ := hH2
        (repeat (first | refine seq_ ?_ | refine sq_normal ?_ | refine rl_nil ?_ | refine cond_t rfl ?_ | refine skip_ ?_ | refine block_ ?_ | (refine region_ (id := 16) ?_; (try (refine rl_move (v := (Value.int _ _ : Value)) rfl rfl ?_; (try (refine rl_move (v := (Value.slice _ _ _ : Value)) rfl rfl ?_; (try (refine rl_len sl29 rfl rfl ?_; (try ((first | (refine rl_lss_t rfl rfl rfl ?_ ?_; omega) | (refine rl_lss_f rfl rfl rfl ?_ ?_; omega)))))))))))))
        refine drawnM_ 13 [(0, false), (1, false), (2, false), (3, false), (4, false), (5, false), (6, false), (7, false), (8, false), (9, false), (10, false), (11, true), (12, true)] (fun w => Mem w0 w [] V5) hM mo (by kernel_rfl) (fun _ h => h.dropn 4) ?_
        clear hM
        intro w hM
        (try (refine rx_move (v := (Value.pointer _ : Value)) rfl rfl rfl ?_; (try (refine rx_move (v := (Value.slice _ _ _ : Value)) rfl rfl rfl ?_; (try (refine rx_move (v := (Value.int _ _ : Value)) rfl rfl rfl ?_; (try ((first | (refine rx_idx1 rfl sl29 rfl rfl rfl rfl ?_ ?_ ?_; omega; omega) | (apply rx_idx1 rfl sl29 rfl rfl rfl; assumption; omega; omega)); (try ((first | refine rx_loadV rfl (fun _ h => h) vt3 rfl rfl (by first | assumption | exact VRow.get (by assumption) rfl | exact VRow.get0 (by assumption) rfl) ?_ | refine rx_loadM 0 rfl (fun _ h => h) vt3 rfl rfl rfl (by first | rfl | assumption) ?_ | refine rx_loadM 1 rfl (fun _ h => h) vt3 rfl rfl rfl (by first | rfl | assumption) ?_ | refine rx_loadM 2 rfl (fun _ h => h) vt3 rfl rfl rfl (by first | rfl | assumption) ?_ | refine rx_loadM 3 rfl (fun _ h => h) vt3 rfl rfl rfl (by first | rfl | assumption) ?_ | refine rx_loadM 4 rfl (fun _ h => h) vt3 rfl rfl rfl (by first | rfl | assumption) ?_ | refine rx_loadM 5 rfl (fun _ h => h) vt3 rfl rfl rfl (by first | rfl | assumption) ?_ | refine rx_loadM 6 rfl (fun _ h => h) vt3 rfl rfl rfl (by first | rfl | assumption) ?_ | refine rx_loadM 7 rfl (fun _ h => h) vt3 rfl rfl rfl (by first | rfl | assumption) ?_ | refine rx_loadM 8 rfl (fun _ h => h) vt3 rfl rfl rfl (by first | rfl | assumption) ?_ | refine rx_loadO 0 rfl (fun _ h => h) vt3 rfl rfl rfl (by first | assumption | exact ORow.get (by assumption) rfl | exact ORow.get0 (by assumption) rfl) ?_ | refine rx_loadO 1 rfl (fun _ h => h) vt3 rfl rfl rfl (by first | assumption | exact ORow.get (by assumption) rfl | exact ORow.get0 (by assumption) rfl) ?_ | refine rx_loadO 2 rfl (fun _ h => h) vt3 rfl rfl rfl (by first | assumption | exact ORow.get (by assumption) rfl | exact ORow.get0 (by assumption) rfl) ?_ | refine rx_loadO 3 rfl (fun _ h => h) vt3 rfl rfl rfl (by first | assumption | exact ORow.get (by assumption) rfl | exact ORow.get0 (by assumption) rfl) ?_ | refine rx_loadO 4 rfl (fun _ h => h) vt3 rfl rfl rfl (by first | assumption | exact ORow.get (by assumption) rfl | exact ORow.get0 (by assumption) rfl) ?_ | refine rx_loadO 5 rfl (fun _ h => h) vt3 rfl rfl rfl (by first | assumption | exact ORow.get (by assumption) rfl | exact ORow.get0 (by assumption) rfl) ?_ | refine rx_loadO 6 rfl (fun _ h => h) vt3 rfl rfl rfl (by first | assumption | exact ORow.get (by assumption) rfl | exact ORow.get0 (by assumption) rfl) ?_ | refine rx_loadO 7 rfl (fun _ h => h) vt3 rfl rfl rfl (by first | assumption | exact ORow.get (by assumption) rfl | exact ORow.get0 (by assumption) rfl) ?_ | refine rx_loadO 8 rfl (fun _ h => h) vt3 rfl rfl rfl (by first | assumption | exact ORow.get (by assumption) rfl | exact ORow.get0 (by assumption) rfl) ?_); (try (refine rx_move (v := (Value.pointer _ : Value)) rfl rfl rfl ?_; (try (refine rx_move (v := (Value.slice _ _ _ : Value)) rfl rfl rfl ?_; (try (refine rx_move (v := (Value.int _ _ : Value)) rfl rfl rfl ?_; (try ((first | (refine rx_idx1 rfl sl29 rfl rfl rfl rfl ?_ ?_ ?_; omega; omega) | (apply rx_idx1 rfl sl29 rfl rfl rfl; assumption; omega; omega)); (try ((first | refine rx_loadV rfl (fun _ h => h) vt3 rfl rfl (by first | assumption | exact VRow.get (by assumption) rfl | exact VRow.get0 (by assumption) rfl) ?_ | refine rx_loadM 0 rfl (fun _ h => h) vt3 rfl rfl rfl (by first | rfl | assumption) ?_ | refine rx_loadM 1 rfl (fun _ h => h) vt3 rfl rfl rfl (by first | rfl | assumption) ?_ | refine rx_loadM 2 rfl (fun _ h => h) vt3 rfl rfl rfl (by first | rfl | assumption) ?_ | refine rx_loadM 3 rfl (fun _ h => h) vt3 rfl rfl rfl (by first | rfl | assumption) ?_ | refine rx_loadM 4 rfl (fun _ h => h) vt3 rfl rfl rfl (by first | rfl | assumption) ?_ | refine rx_loadM 5 rfl (fun _ h => h) vt3 rfl rfl rfl (by first | rfl | assumption) ?_ | refine rx_loadM 6 rfl (fun _ h => h) vt3 rfl rfl rfl (by first | rfl | assumption) ?_ | refine rx_loadM 7 rfl (fun _ h => h) vt3 rfl rfl rfl (by first | rfl | assumption) ?_ | refine rx_loadM 8 rfl (fun _ h => h) vt3 rfl rfl rfl (by first | rfl | assumption) ?_ | refine rx_loadO 0 rfl (fun _ h => h) vt3 rfl rfl rfl (by first | assumption | exact ORow.get (by assumption) rfl | exact ORow.get0 (by assumption) rfl) ?_ | refine rx_loadO 1 rfl (fun _ h => h) vt3 rfl rfl rfl (by first | assumption | exact ORow.get (by assumption) rfl | exact ORow.get0 (by assumption) rfl) ?_ | refine rx_loadO 2 rfl (fun _ h => h) vt3 rfl rfl rfl (by first | assumption | exact ORow.get (by assumption) rfl | exact ORow.get0 (by assumption) rfl) ?_ | refine rx_loadO 3 rfl (fun _ h => h) vt3 rfl rfl rfl (by first | assumption | exact ORow.get (by assumption) rfl | exact ORow.get0 (by assumption) rfl) ?_ | refine rx_loadO 4 rfl (fun _ h => h) vt3 rfl rfl rfl (by first | assumption | exact ORow.get (by assumption) rfl | exact ORow.get0 (by assumption) rfl) ?_ | refine rx_loadO 5 rfl (fun _ h => h) vt3 rfl rfl rfl (by first | assumption | exact ORow.get (by assumption) rfl | exact ORow.get0 (by assumption) rfl) ?_ | refine rx_loadO 6 rfl (fun _ h => h) vt3 rfl rfl rfl (by first | assumption | exact ORow.get (by assumption) rfl | exact ORow.get0 (by assumption) rfl) ?_ | refine rx_loadO 7 rfl (fun _ h => h) vt3 rfl rfl rfl (by first | assumption | exact ORow.get (by assumption) rfl | exact ORow.get0 (by assumption) rfl) ?_ | refine rx_loadO 8 rfl (fun _ h => h) vt3 rfl rfl rfl (by first | assumption | exact ORow.get (by assumption) rfl | exact ORow.get0 (by assumption) rfl) ?_); (try (refine rx_move (v := (Value.int _ _ : Value)) rfl rfl rfl ?_))))))))))))))))))))))
        refine rx_eff rfl (fun Kx hKx => ?_)
        refine rl_callf fn11 (around_ok d0 5 w h0.1 h0.2 (by decide) (by decide)) rfl rfl ?_
        rintro _ w ⟨rfl, rfl⟩
        rw [hddn]
        refine rl_nil (kq_normal (hKx _ _ (hM.dropn 4) ?_))
        refine rx_eff rfl (fun Kx hKx => ?_)
        refine rl_callf fn29 (seen_ok _ l (collect l ps).1 hO (col_ok hO ps) (col_alk hO ps) g h 40 40 dd (by omega) p _ w0 w [] V5 ⟨gv, gcs, hv, hcs0, hM, hgs, hcs⟩ ⟨hpp, hkr, rfl⟩) rfl rfl ?_
        clear hM hgs hcs
        rintro _ w ⟨rfl, V6, hV6, gv, gcs, hv, hcs0, hM, hgs, hcs⟩
        refine rl_nil (kq_normal (hKx _ _ ((hM.le hV6).dropn 4) ?_))
        refine rx_nil rfl ?_
        (repeat (first | refine sq_normal ?_ | refine rl_nil ?_ | refine cond_f rfl ?_ | refine skip_ ?_ | refine inBlock_normal ?_ | refine np_normal ?_ | (refine region_ (id := 17) ?_; (try (refine rl_move (v := (Value.int _ _ : Value)) rfl rfl ?_; (try ((refine rl_add rfl rfl rfl ?_ ?_ ?_; omega; omega); (try (refine rl_assign (v := (Value.int _ _ : Value)) rfl rfl ?_))))))) | refine rl_not rfl rfl ?_))
        exact kq_normal (hL0 (n6 - (i + 1)) _ _ (by omega) (by (repeat (first | with_reducible exact Agree.ov | with_reducible exact Agree.refl _ _ | refine Agree.upd rfl ?_ | refine Agree.ovs rfl ?_))) ⟨i + 1, V6, rfl, by omega, rfl, hV5.trans hV6, ⟨gv, gcs, hv, hcs0, hM, hgs, hcs⟩⟩)
      · (repeat (first | refine seq_ ?_ | refine sq_normal ?_ | refine sq_exit ?_ | refine rl_nil ?_ | refine cond_f rfl ?_ | refine exit_ ?_ | refine inBlock_exit ?_ | refine kq_exit ?_ | (refine region_ (id := 16) ?_; (try (refine rl_move (v := (Value.int _ _ : Value)) rfl rfl ?_; (try (refine rl_move (v := (Value.slice _ _ _ : Value)) rfl rfl ?_; (try (refine rl_len sl29 rfl rfl ?_; (try ((first | (refine rl_lss_t rfl rfl rfl ?_ ?_; omega) | (refine rl_lss_f rfl rfl rfl ?_ ?_; omega))))))))))) | (refine region_ (id := 20) ?_)))
        refine rl_callf fn17 (lives_ok w0 w [] V5 (by obtain ⟨gv, gcs, hv, hcs0, hM, hgs, hcs⟩ := hH2; exact hM.dropn 4)) rfl rfl ?_
        rintro _ w ⟨V6, hV6, rfl, hM⟩
        (repeat (first | refine sq_normal ?_ | refine rl_nil ?_ | refine ret_ ?_ | refine rl_assign (v := (Value.bool _ : Value)) rfl rfl ?_))
        exact bp_ret1 (v := Value.bool _) rfl rfl ⟨rfl, hM.below⟩
  rw [hw0] at key
  exact key
end Go.Proofs.Ytoekjhalcjhegaa.Hep
