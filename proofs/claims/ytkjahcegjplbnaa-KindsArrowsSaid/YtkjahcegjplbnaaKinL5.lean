/- The walk of fuguelaw03.KindsArrows. -/
import Derived.Test.YtkjahcegjplbnaaKinL3
set_option linter.unusedVariables false
set_option linter.unusedSimpArgs false
namespace Go.Proofs.Ytkjahcegjplbnaa.Kin
open Go Go.Eng Go.RowKit Go.Kn
attribute [local irreducible] RL RX KQ SQ Exit.inBlock Exit.then BP NP CallsOk IsSl IsRows IsInts IsBools Own Blk Code.wp Calls wpList
theorem prn_inj {a b : Kd} (h : a.prn = b.prn) : a = b := by
  have h1 := Kd.read_prn a
  rw [h, Kd.read_prn] at h1
  exact (Option.some.inj h1).symm
set_option maxHeartbeats 4000000 in
theorem law5 (v : Value) (l : List Int) (u : Value) (m : List Int) (w : World) (hI : IsInts w.cell? v l) (hJ : IsInts w.cell? u m) : CallsOk Try.prog 5 #[v, u] w fun r w' => r = .bool true ∧ Below w.heap.size w w' := by
  have hM := Mem.init w
  obtain ⟨w0, hw0⟩ : ∃ w0, w0 = w := ⟨_, rfl⟩
  obtain ⟨V, hVd⟩ : ∃ V, V = w.cell? := ⟨_, rfl⟩
  rw [← hVd] at hM hI hJ
  have hM : Mem w0 w [] V := by rw [hw0]; exact hM
  have key : CallsOk Try.prog 5 #[v, u] w fun r w' => r = .bool true ∧ Below w0.heap.size w0 w' := by
    obtain ⟨_, _, _, _, rfl, _⟩ := id hI.open
    obtain ⟨_, _, _, _, rfl, _⟩ := id hJ.open
    refine enter_ (N := 83) Try.func5 rfl rfl rfl ?_
    (repeat (first | refine seq_ ?_ | refine sq_normal ?_ | refine rl_nil ?_ | (refine region_ (id := 0) ?_; (try (refine rl_assign (v := (Value.bool _ : Value)) rfl rfl ?_))) | (refine region_ (id := 1) ?_; (try (refine rl_move (v := (Value.slice _ _ _ : Value)) rfl rfl ?_)))))
    refine rl_callf fn10 (kind_ok l w0 w _ V _ hM hI) rfl rfl ?_
    clear hM
    rintro _ w ⟨V1, v1, hV1, hM, rfl, hk1⟩
    obtain ⟨A1, c1, rfl⟩ := hk1.shape
    (repeat (first | refine seq_ ?_ | refine sq_normal ?_ | refine rl_nil ?_ | (refine region_ (id := 2) ?_; (try (refine rl_move (v := (Value.slice _ _ _ : Value)) rfl rfl ?_))) | (refine rl_allocAM (d := 5) hM ag25 rfl ?_; clear hM; intro w b5 hM) | (first | (refine rl_storeWM 0 hM ag25 rfl rfl rfl rfl rfl rfl rfl ?_; clear hM; intro w hM) | (refine rl_storeWM 1 hM ag25 rfl rfl rfl rfl rfl rfl rfl ?_; clear hM; intro w hM) | (refine rl_storeWM 2 hM ag25 rfl rfl rfl rfl rfl rfl rfl ?_; clear hM; intro w hM) | (refine rl_storeWM 3 hM ag25 rfl rfl rfl rfl rfl rfl rfl ?_; clear hM; intro w hM) | (refine rl_storeWM 4 hM ag25 rfl rfl rfl rfl rfl rfl rfl ?_; clear hM; intro w hM) | (refine rl_storeWM 5 hM ag25 rfl rfl rfl rfl rfl rfl rfl ?_; clear hM; intro w hM) | (refine rl_storeWM 6 hM ag25 rfl rfl rfl rfl rfl rfl rfl ?_; clear hM; intro w hM) | (refine rl_storeWM 7 hM ag25 rfl rfl rfl rfl rfl rfl rfl ?_; clear hM; intro w hM))))
    refine rl_callf fn10 (kind_ok m w0 w _ V1 _ hM (hJ.le hV1)) rfl rfl ?_
    clear hM
    rintro _ w ⟨V2, v2, hV2, hM, rfl, hk2⟩
    obtain ⟨A2, c2, rfl⟩ := hk2.shape
    have hk1 := hk1.le hV2
    have hsa := kindOf_sz l
    have hsb := kindOf_sz m
    obtain ⟨a, had⟩ : ∃ a, a = kindOf l := ⟨_, rfl⟩
    obtain ⟨b, hbd⟩ : ∃ b, b = kindOf m := ⟨_, rfl⟩
    rw [← had] at hk1 hsa hM ⊢
    rw [← hbd] at hk2 hsb ⊢
    have hpa := Kd.prn_len a
    have hpb := Kd.prn_len b
    clear had hbd
    (repeat (first | refine seq_ ?_ | refine sq_normal ?_ | refine rl_nil ?_ | (refine region_ (id := 3) ?_; (try ((first | refine rl_loadAV hM ag25 rfl rfl (by assumption) (by rfl) ?_ | refine rl_loadAM (vs := [_]) 0 hM ag25 rfl rfl rfl rfl rfl ?_ | refine rl_loadAM (vs := [_]) 1 hM ag25 rfl rfl rfl rfl rfl ?_ | refine rl_loadAM (vs := [_]) 2 hM ag25 rfl rfl rfl rfl rfl ?_ | refine rl_loadAM (vs := [_]) 3 hM ag25 rfl rfl rfl rfl rfl ?_ | refine rl_loadAM (vs := [_]) 4 hM ag25 rfl rfl rfl rfl rfl ?_ | refine rl_loadAM (vs := [_]) 5 hM ag25 rfl rfl rfl rfl rfl ?_ | refine rl_loadAM (vs := [_]) 6 hM ag25 rfl rfl rfl rfl rfl ?_ | refine rl_loadAM (vs := [_]) 7 hM ag25 rfl rfl rfl rfl rfl ?_); (try ((first | refine rl_loadAV hM ag25 rfl rfl (by assumption) (by rfl) ?_ | refine rl_loadAM (vs := [_]) 0 hM ag25 rfl rfl rfl rfl rfl ?_ | refine rl_loadAM (vs := [_]) 1 hM ag25 rfl rfl rfl rfl rfl ?_ | refine rl_loadAM (vs := [_]) 2 hM ag25 rfl rfl rfl rfl rfl ?_ | refine rl_loadAM (vs := [_]) 3 hM ag25 rfl rfl rfl rfl rfl ?_ | refine rl_loadAM (vs := [_]) 4 hM ag25 rfl rfl rfl rfl rfl ?_ | refine rl_loadAM (vs := [_]) 5 hM ag25 rfl rfl rfl rfl rfl ?_ | refine rl_loadAM (vs := [_]) 6 hM ag25 rfl rfl rfl rfl rfl ?_ | refine rl_loadAM (vs := [_]) 7 hM ag25 rfl rfl rfl rfl rfl ?_)))))) | (first | (refine rl_storeWM 0 hM ag25 rfl rfl rfl rfl rfl rfl rfl ?_; clear hM; intro w hM) | (refine rl_storeWM 1 hM ag25 rfl rfl rfl rfl rfl rfl rfl ?_; clear hM; intro w hM) | (refine rl_storeWM 2 hM ag25 rfl rfl rfl rfl rfl rfl rfl ?_; clear hM; intro w hM) | (refine rl_storeWM 3 hM ag25 rfl rfl rfl rfl rfl rfl rfl ?_; clear hM; intro w hM) | (refine rl_storeWM 4 hM ag25 rfl rfl rfl rfl rfl rfl rfl ?_; clear hM; intro w hM) | (refine rl_storeWM 5 hM ag25 rfl rfl rfl rfl rfl rfl rfl ?_; clear hM; intro w hM) | (refine rl_storeWM 6 hM ag25 rfl rfl rfl rfl rfl rfl rfl ?_; clear hM; intro w hM) | (refine rl_storeWM 7 hM ag25 rfl rfl rfl rfl rfl rfl rfl ?_; clear hM; intro w hM)) | (refine rl_allocAM (d := 6) hM ag25 rfl ?_; clear hM; intro w b6 hM)))
    refine rl_callf fn19 (arrow_ok a b w0 w _ V2 _ _ hM hk1 hk2 (by omega) (by omega)) rfl rfl ?_
    clear hM
    rintro _ w ⟨V3, v3, hV3, hM, rfl, hk3⟩
    obtain ⟨_, _, rfl⟩ := hk3.shape
    refine rl_callf fn18 (split_ok (.cons a b) w0 w _ V3 _ hM hk3 (by simp only [Kd.sz]; omega)) rfl rfl ?_
    clear hM
    rintro _ w ⟨V4, v4, v5, hV4, hM, rfl, hk4, hk5⟩
    obtain ⟨A4, c4, rfl⟩ := hk4.shape
    obtain ⟨A5, c5, rfl⟩ := hk5.shape
    (repeat (first | refine seq_ ?_ | refine sq_normal ?_ | refine rl_nil ?_ | (refine region_ (id := 4) ?_) | refine rl_assign (v := (Value.bool _ : Value)) rfl rfl ?_ | (first | (refine rl_storeWM 0 hM ag25 rfl rfl rfl rfl rfl rfl rfl ?_; clear hM; intro w hM) | (refine rl_storeWM 1 hM ag25 rfl rfl rfl rfl rfl rfl rfl ?_; clear hM; intro w hM) | (refine rl_storeWM 2 hM ag25 rfl rfl rfl rfl rfl rfl rfl ?_; clear hM; intro w hM) | (refine rl_storeWM 3 hM ag25 rfl rfl rfl rfl rfl rfl rfl ?_; clear hM; intro w hM) | (refine rl_storeWM 4 hM ag25 rfl rfl rfl rfl rfl rfl rfl ?_; clear hM; intro w hM) | (refine rl_storeWM 5 hM ag25 rfl rfl rfl rfl rfl rfl rfl ?_; clear hM; intro w hM) | (refine rl_storeWM 6 hM ag25 rfl rfl rfl rfl rfl rfl rfl ?_; clear hM; intro w hM) | (refine rl_storeWM 7 hM ag25 rfl rfl rfl rfl rfl rfl rfl ?_; clear hM; intro w hM)) | refine rl_move (v := (Value.tuple _ : Value)) rfl rfl ?_ | refine rl_extract rfl rfl rfl ?_ | (refine rl_allocAM (d := 7) hM ag25 rfl ?_; clear hM; intro w b7 hM) | (refine rl_allocAM (d := 8) hM ag25 rfl ?_; clear hM; intro w b8 hM)))
    refine rl_callf fn20 (star_ok w0 w _ V4 hM) rfl rfl ?_
    clear hM
    rintro _ w ⟨hM, rfl⟩
    refine rl_callf fn18 (split_ok .nil w0 w _ V4 _ hM (KSl.nil _ _ (Nat.zero_le _)) (by simp only [Kd.sz]; omega)) rfl rfl ?_
    clear hM
    rintro _ w ⟨V5, v6, v7, hV5, hM, rfl, hk6, hk7⟩
    obtain ⟨_, _, rfl⟩ := hk6.shape
    obtain ⟨_, _, rfl⟩ := hk7.shape
    have g1 := (hk1.le (hV3.trans (hV4.trans hV5)))
    have g2 := (hk2.le (hV3.trans (hV4.trans hV5)))
    have g4 := hk4.le hV5
    have g5 := hk5.le hV5
    clear hk1 hk2 hk3 hk4 hk5 hk6 hk7
    (repeat (first | refine seq_ ?_ | refine sq_normal ?_ | refine rl_nil ?_ | (refine region_ (id := 5) ?_; (try (refine rl_assign (v := (Value.string _ : Value)) rfl rfl ?_))) | (refine region_ (id := 6) ?_; (try (refine rl_fld fd25_0 rfl rfl ?_; (try ((first | refine rl_loadV hM vt23 rfl rfl (by first | assumption | exact VRow.get (by assumption) rfl | exact VRow.get0 (by assumption) rfl) ?_ | refine rl_loadM 0 hM vt23 rfl rfl rfl (by first | rfl | assumption) ?_ | refine rl_loadM 1 hM vt23 rfl rfl rfl (by first | rfl | assumption) ?_ | refine rl_loadM 2 hM vt23 rfl rfl rfl (by first | rfl | assumption) ?_ | refine rl_loadM 3 hM vt23 rfl rfl rfl (by first | rfl | assumption) ?_ | refine rl_loadM 4 hM vt23 rfl rfl rfl (by first | rfl | assumption) ?_ | refine rl_loadM 5 hM vt23 rfl rfl rfl (by first | rfl | assumption) ?_ | refine rl_loadM 6 hM vt23 rfl rfl rfl (by first | rfl | assumption) ?_ | refine rl_loadM 7 hM vt23 rfl rfl rfl (by first | rfl | assumption) ?_); (try (refine rl_len sl23 rfl rfl ?_; (try ((first | (refine rl_gtr_t rfl rfl rfl ?_ ?_; omega) | (refine rl_gtr_f rfl rfl rfl ?_ ?_; omega))))))))))) | refine rl_assign (v := (Value.bool _ : Value)) rfl rfl ?_ | (first | (refine rl_storeWM 0 hM ag25 rfl rfl rfl rfl rfl rfl rfl ?_; clear hM; intro w hM) | (refine rl_storeWM 1 hM ag25 rfl rfl rfl rfl rfl rfl rfl ?_; clear hM; intro w hM) | (refine rl_storeWM 2 hM ag25 rfl rfl rfl rfl rfl rfl rfl ?_; clear hM; intro w hM) | (refine rl_storeWM 3 hM ag25 rfl rfl rfl rfl rfl rfl rfl ?_; clear hM; intro w hM) | (refine rl_storeWM 4 hM ag25 rfl rfl rfl rfl rfl rfl rfl ?_; clear hM; intro w hM) | (refine rl_storeWM 5 hM ag25 rfl rfl rfl rfl rfl rfl rfl ?_; clear hM; intro w hM) | (refine rl_storeWM 6 hM ag25 rfl rfl rfl rfl rfl rfl rfl ?_; clear hM; intro w hM) | (refine rl_storeWM 7 hM ag25 rfl rfl rfl rfl rfl rfl rfl ?_; clear hM; intro w hM)) | refine rl_move (v := (Value.tuple _ : Value)) rfl rfl ?_ | refine rl_extract rfl rfl rfl ?_ | (refine rl_allocAM (d := 10) hM ag25 rfl ?_; clear hM; intro w b10 hM) | (refine rl_allocAM (d := 11) hM ag25 rfl ?_; clear hM; intro w b11 hM)))
    replace hM : Mem w0 w [.blk b8 [.slice A5 b.len c5] 25, .blk b7 [.slice A4 a.len c4] 25, .blk b6 [.slice A2 b.len c2] 25, .blk b5 [.slice A1 a.len c1] 25] V5 := hM.dropn 2
    refine rl_gtr rfl rfl rfl ?_
    (repeat (first | refine sq_normal ?_ | refine rl_nil ?_))
    refine cut_seq1 [(13, 14), (36, 42)] 13 (fun v w' => ∃ want : List UInt8, v = St want ∧ want.length ≤ 1000 ∧ want ++ [32, 45, 62, 32] ++ b.prn = (Kd.cons a b).prn ∧
        Mem w0 w' [.blk b8 [.slice A5 b.len c5] 25, .blk b7 [.slice A4 a.len c4] 25, .blk b6 [.slice A2 b.len c2] 25, .blk b5 [.slice A1 a.len c1] 25] V5) ?_ ?_
    · refine cond_b rfl (fun h => ?_) (fun h => ?_)
      · have h := of_decide_eq_true h
        have ha1 : a.isNil = false := by
          cases h2 : a.isNil with
          | false => rfl
          | true => have := (Kd.isNil_iff a).1 h2; omega
        (repeat (first | (refine region_ (id := 7) ?_; (try ((first | refine rl_loadAV hM ag25 rfl rfl (by assumption) (by rfl) ?_ | refine rl_loadAM (vs := [_]) 0 hM ag25 rfl rfl rfl rfl rfl ?_ | refine rl_loadAM (vs := [_]) 1 hM ag25 rfl rfl rfl rfl rfl ?_ | refine rl_loadAM (vs := [_]) 2 hM ag25 rfl rfl rfl rfl rfl ?_ | refine rl_loadAM (vs := [_]) 3 hM ag25 rfl rfl rfl rfl rfl ?_ | refine rl_loadAM (vs := [_]) 4 hM ag25 rfl rfl rfl rfl rfl ?_ | refine rl_loadAM (vs := [_]) 5 hM ag25 rfl rfl rfl rfl rfl ?_ | refine rl_loadAM (vs := [_]) 6 hM ag25 rfl rfl rfl rfl rfl ?_ | refine rl_loadAM (vs := [_]) 7 hM ag25 rfl rfl rfl rfl rfl ?_))))))
        refine rl_callf fn13 (refprint_ok 100 _ (by omega) w0 w _ V5 _ hM g1 (by omega)) rfl rfl ?_
        clear hM
        rintro _ w ⟨rfl, hM⟩
        (repeat (first | refine rl_nil ?_ | refine rl_assign (v := (Value.string _ : Value)) rfl rfl ?_ | (refine rl_sadd rfl rfl rfl (by (first | omega | (simp only [List.length_append, List.length_cons, List.length_nil, List.length_take, List.length_drop] at *; omega))) ?_)))
        refine kq_normal ⟨by (repeat (first | with_reducible exact Agree.ov | with_reducible exact Agree.refl _ _ | refine Agree.upd rfl ?_ | refine Agree.ovs rfl ?_)), [40] ++ a.prn ++ [41], rfl, by simp; omega, ?_, hM⟩
        unfold Kd.prn
        rw [Kd.prnE_cons, ha1]
        simp [Kd.paren, Kd.prn]
      · have h := of_decide_eq_false h
        have ha1 : a.isNil = true := (Kd.isNil_iff a).2 (by omega)
        (repeat (first | (refine region_ (id := 8) ?_; (try ((first | refine rl_loadAV hM ag25 rfl rfl (by assumption) (by rfl) ?_ | refine rl_loadAM (vs := [_]) 0 hM ag25 rfl rfl rfl rfl rfl ?_ | refine rl_loadAM (vs := [_]) 1 hM ag25 rfl rfl rfl rfl rfl ?_ | refine rl_loadAM (vs := [_]) 2 hM ag25 rfl rfl rfl rfl rfl ?_ | refine rl_loadAM (vs := [_]) 3 hM ag25 rfl rfl rfl rfl rfl ?_ | refine rl_loadAM (vs := [_]) 4 hM ag25 rfl rfl rfl rfl rfl ?_ | refine rl_loadAM (vs := [_]) 5 hM ag25 rfl rfl rfl rfl rfl ?_ | refine rl_loadAM (vs := [_]) 6 hM ag25 rfl rfl rfl rfl rfl ?_ | refine rl_loadAM (vs := [_]) 7 hM ag25 rfl rfl rfl rfl rfl ?_))))))
        refine rl_callf fn13 (refprint_ok 100 _ (by omega) w0 w _ V5 _ hM g1 (by omega)) rfl rfl ?_
        clear hM
        rintro _ w ⟨rfl, hM⟩
        (repeat (first | refine rl_nil ?_ | refine rl_assign (v := (Value.string _ : Value)) rfl rfl ?_))
        refine kq_normal ⟨by (repeat (first | with_reducible exact Agree.ov | with_reducible exact Agree.refl _ _ | refine Agree.upd rfl ?_ | refine Agree.ovs rfl ?_)), a.prn, rfl, by omega, ?_, hM⟩
        unfold Kd.prn
        rw [Kd.prnE_cons, ha1]
        simp [Kd.paren, Kd.prn]
    clear hM
    rintro τ _ w ⟨want, rfl, hwl, hweq, hM⟩
    have hpab := Kd.prn_len (Kd.cons a b)
    have hsab : (Kd.cons a b).sz = a.sz + b.sz + 1 := rfl
    (repeat (first | refine seq_ ?_))
    (refine drawnM_ 41 [(0, false), (1, false), (2, false), (3, false), (4, false), (5, false), (6, false), (7, false), (8, true), (9, false), (10, false), (11, false), (12, false), (13, true), (14, false), (15, false), (16, false), (17, false), (20, false), (21, false), (22, false), (18, true), (19, true), (23, true), (24, false), (25, false), (26, false), (27, false), (28, false), (29, false), (31, false), (33, false), (30, true), (32, true), (34, true), (35, false), (36, false), (37, false), (38, false), (39, true), (40, false)] (fun w => Mem w0 w _ _) hM mo (by kernel_rfl) (fun _ h => h) ?_; clear hM; intro w hM; (try (refine rx_move (v := (Value.bool _ : Value)) rfl rfl rfl ?_; (try (refine rx_move (v := (Value.bool _ : Value)) rfl rfl rfl ?_; (try ((first | refine rx_off rfl rfl ?_ | refine rx_move (v := (Value.bool _ : Value)) rfl rfl rfl ?_); (try ((first | refine rx_off rfl rfl ?_ | refine rx_not rfl rfl rfl ?_); (try (refine rx_pick (v := (Value.bool _ : Value)) rfl rfl rfl rfl ?_; (try (refine rx_move (v := (Value.bool _ : Value)) rfl rfl rfl ?_; (try ((first | refine rx_off rfl rfl ?_ | refine rx_loadAV rfl (fun _ h => h) ag25 rfl rfl (by assumption) (by rfl) ?_ | refine rx_loadAM (vs := [_]) 0 rfl (fun _ h => h) ag25 rfl rfl rfl rfl rfl ?_ | refine rx_loadAM (vs := [_]) 1 rfl (fun _ h => h) ag25 rfl rfl rfl rfl rfl ?_ | refine rx_loadAM (vs := [_]) 2 rfl (fun _ h => h) ag25 rfl rfl rfl rfl rfl ?_ | refine rx_loadAM (vs := [_]) 3 rfl (fun _ h => h) ag25 rfl rfl rfl rfl rfl ?_ | refine rx_loadAM (vs := [_]) 4 rfl (fun _ h => h) ag25 rfl rfl rfl rfl rfl ?_ | refine rx_loadAM (vs := [_]) 5 rfl (fun _ h => h) ag25 rfl rfl rfl rfl rfl ?_ | refine rx_loadAM (vs := [_]) 6 rfl (fun _ h => h) ag25 rfl rfl rfl rfl rfl ?_ | refine rx_loadAM (vs := [_]) 7 rfl (fun _ h => h) ag25 rfl rfl rfl rfl rfl ?_); (try ((first | refine rx_off rfl rfl ?_ | refine rx_loadAV rfl (fun _ h => h) ag25 rfl rfl (by assumption) (by rfl) ?_ | refine rx_loadAM (vs := [_]) 0 rfl (fun _ h => h) ag25 rfl rfl rfl rfl rfl ?_ | refine rx_loadAM (vs := [_]) 1 rfl (fun _ h => h) ag25 rfl rfl rfl rfl rfl ?_ | refine rx_loadAM (vs := [_]) 2 rfl (fun _ h => h) ag25 rfl rfl rfl rfl rfl ?_ | refine rx_loadAM (vs := [_]) 3 rfl (fun _ h => h) ag25 rfl rfl rfl rfl rfl ?_ | refine rx_loadAM (vs := [_]) 4 rfl (fun _ h => h) ag25 rfl rfl rfl rfl rfl ?_ | refine rx_loadAM (vs := [_]) 5 rfl (fun _ h => h) ag25 rfl rfl rfl rfl rfl ?_ | refine rx_loadAM (vs := [_]) 6 rfl (fun _ h => h) ag25 rfl rfl rfl rfl rfl ?_ | refine rx_loadAM (vs := [_]) 7 rfl (fun _ h => h) ag25 rfl rfl rfl rfl rfl ?_))))))))))))))))))
    refine rx_eff rfl (fun K hK => ?_)
    refine rl_callf fn14 (refsame_ok 100 _ _ (by omega) w0 w _ V5 _ _ hM g4 g1) rfl rfl ?_
    clear hM
    rintro _ w ⟨rfl, hM⟩
    rw [Kd.same_iff.2 rfl]
    refine rl_nil (kq_normal (hK _ _ hM ?_))
    (try (refine rx_pick (v := (Value.bool _ : Value)) rfl rfl rfl rfl ?_; (try (refine rx_move (v := (Value.bool _ : Value)) rfl rfl rfl ?_; (try ((first | refine rx_off rfl rfl ?_ | refine rx_loadAV rfl (fun _ h => h) ag25 rfl rfl (by assumption) (by rfl) ?_ | refine rx_loadAM (vs := [_]) 0 rfl (fun _ h => h) ag25 rfl rfl rfl rfl rfl ?_ | refine rx_loadAM (vs := [_]) 1 rfl (fun _ h => h) ag25 rfl rfl rfl rfl rfl ?_ | refine rx_loadAM (vs := [_]) 2 rfl (fun _ h => h) ag25 rfl rfl rfl rfl rfl ?_ | refine rx_loadAM (vs := [_]) 3 rfl (fun _ h => h) ag25 rfl rfl rfl rfl rfl ?_ | refine rx_loadAM (vs := [_]) 4 rfl (fun _ h => h) ag25 rfl rfl rfl rfl rfl ?_ | refine rx_loadAM (vs := [_]) 5 rfl (fun _ h => h) ag25 rfl rfl rfl rfl rfl ?_ | refine rx_loadAM (vs := [_]) 6 rfl (fun _ h => h) ag25 rfl rfl rfl rfl rfl ?_ | refine rx_loadAM (vs := [_]) 7 rfl (fun _ h => h) ag25 rfl rfl rfl rfl rfl ?_); (try ((first | refine rx_off rfl rfl ?_ | refine rx_loadAV rfl (fun _ h => h) ag25 rfl rfl (by assumption) (by rfl) ?_ | refine rx_loadAM (vs := [_]) 0 rfl (fun _ h => h) ag25 rfl rfl rfl rfl rfl ?_ | refine rx_loadAM (vs := [_]) 1 rfl (fun _ h => h) ag25 rfl rfl rfl rfl rfl ?_ | refine rx_loadAM (vs := [_]) 2 rfl (fun _ h => h) ag25 rfl rfl rfl rfl rfl ?_ | refine rx_loadAM (vs := [_]) 3 rfl (fun _ h => h) ag25 rfl rfl rfl rfl rfl ?_ | refine rx_loadAM (vs := [_]) 4 rfl (fun _ h => h) ag25 rfl rfl rfl rfl rfl ?_ | refine rx_loadAM (vs := [_]) 5 rfl (fun _ h => h) ag25 rfl rfl rfl rfl rfl ?_ | refine rx_loadAM (vs := [_]) 6 rfl (fun _ h => h) ag25 rfl rfl rfl rfl rfl ?_ | refine rx_loadAM (vs := [_]) 7 rfl (fun _ h => h) ag25 rfl rfl rfl rfl rfl ?_)))))))))
    refine rx_eff rfl (fun K hK => ?_)
    refine rl_callf fn14 (refsame_ok 100 _ _ (by omega) w0 w _ V5 _ _ hM g5 g2) rfl rfl ?_
    clear hM
    rintro _ w ⟨rfl, hM⟩
    rw [Kd.same_iff.2 rfl]
    refine rl_nil (kq_normal (hK _ _ hM ?_))
    (try (refine rx_pick (v := (Value.bool _ : Value)) rfl rfl rfl rfl ?_; (try (refine rx_move (v := (Value.bool _ : Value)) rfl rfl rfl ?_; (try ((first | refine rx_off rfl rfl ?_ | refine rx_loadAV rfl (fun _ h => h) ag25 rfl rfl (by assumption) (by rfl) ?_ | refine rx_loadAM (vs := [_]) 0 rfl (fun _ h => h) ag25 rfl rfl rfl rfl rfl ?_ | refine rx_loadAM (vs := [_]) 1 rfl (fun _ h => h) ag25 rfl rfl rfl rfl rfl ?_ | refine rx_loadAM (vs := [_]) 2 rfl (fun _ h => h) ag25 rfl rfl rfl rfl rfl ?_ | refine rx_loadAM (vs := [_]) 3 rfl (fun _ h => h) ag25 rfl rfl rfl rfl rfl ?_ | refine rx_loadAM (vs := [_]) 4 rfl (fun _ h => h) ag25 rfl rfl rfl rfl rfl ?_ | refine rx_loadAM (vs := [_]) 5 rfl (fun _ h => h) ag25 rfl rfl rfl rfl rfl ?_ | refine rx_loadAM (vs := [_]) 6 rfl (fun _ h => h) ag25 rfl rfl rfl rfl rfl ?_ | refine rx_loadAM (vs := [_]) 7 rfl (fun _ h => h) ag25 rfl rfl rfl rfl rfl ?_); (try ((first | refine rx_off rfl rfl ?_ | refine rx_loadAV rfl (fun _ h => h) ag25 rfl rfl (by assumption) (by rfl) ?_ | refine rx_loadAM (vs := [_]) 0 rfl (fun _ h => h) ag25 rfl rfl rfl rfl rfl ?_ | refine rx_loadAM (vs := [_]) 1 rfl (fun _ h => h) ag25 rfl rfl rfl rfl rfl ?_ | refine rx_loadAM (vs := [_]) 2 rfl (fun _ h => h) ag25 rfl rfl rfl rfl rfl ?_ | refine rx_loadAM (vs := [_]) 3 rfl (fun _ h => h) ag25 rfl rfl rfl rfl rfl ?_ | refine rx_loadAM (vs := [_]) 4 rfl (fun _ h => h) ag25 rfl rfl rfl rfl rfl ?_ | refine rx_loadAM (vs := [_]) 5 rfl (fun _ h => h) ag25 rfl rfl rfl rfl rfl ?_ | refine rx_loadAM (vs := [_]) 6 rfl (fun _ h => h) ag25 rfl rfl rfl rfl rfl ?_ | refine rx_loadAM (vs := [_]) 7 rfl (fun _ h => h) ag25 rfl rfl rfl rfl rfl ?_); (try ((first | refine rx_off rfl rfl ?_ | refine rx_move (v := (Value.string _ : Value)) rfl rfl rfl ?_); (try ((first | refine rx_off rfl rfl ?_ | (refine rx_sadd rfl rfl rfl rfl (by (first | omega | (simp only [List.length_append, List.length_cons, List.length_nil, List.length_take, List.length_drop] at *; omega))) ?_)); (try ((first | refine rx_off rfl rfl ?_ | refine rx_loadAV rfl (fun _ h => h) ag25 rfl rfl (by assumption) (by rfl) ?_ | refine rx_loadAM (vs := [_]) 0 rfl (fun _ h => h) ag25 rfl rfl rfl rfl rfl ?_ | refine rx_loadAM (vs := [_]) 1 rfl (fun _ h => h) ag25 rfl rfl rfl rfl rfl ?_ | refine rx_loadAM (vs := [_]) 2 rfl (fun _ h => h) ag25 rfl rfl rfl rfl rfl ?_ | refine rx_loadAM (vs := [_]) 3 rfl (fun _ h => h) ag25 rfl rfl rfl rfl rfl ?_ | refine rx_loadAM (vs := [_]) 4 rfl (fun _ h => h) ag25 rfl rfl rfl rfl rfl ?_ | refine rx_loadAM (vs := [_]) 5 rfl (fun _ h => h) ag25 rfl rfl rfl rfl rfl ?_ | refine rx_loadAM (vs := [_]) 6 rfl (fun _ h => h) ag25 rfl rfl rfl rfl rfl ?_ | refine rx_loadAM (vs := [_]) 7 rfl (fun _ h => h) ag25 rfl rfl rfl rfl rfl ?_)))))))))))))))
    refine rx_eff rfl (fun K hK => ?_)
    refine rl_callf fn19 (arrow_ok a b w0 w _ V5 _ _ hM g1 g2 (by omega) (by omega)) rfl rfl ?_
    clear hM
    rintro _ w ⟨V6, v8, hV6, hM, rfl, hk8⟩
    obtain ⟨_, _, rfl⟩ := hk8.shape
    refine rl_nil (kq_normal (hK _ _ (hM.le hV6) ?_))
    refine rx_eff rfl (fun K hK => ?_)
    refine rl_callf fn11 (print_ok 100 _ (by omega) w0 w _ V6 _ hM hk8 (by omega)) rfl rfl ?_
    clear hM
    rintro _ w ⟨rfl, hM⟩
    refine rl_nil (kq_normal (hK _ _ (hM.le hV6) ?_))
    refine rx_eff rfl (fun K hK => ?_)
    refine rl_callf fn13 (refprint_ok 100 _ (by omega) w0 w _ V6 _ hM (g2.le hV6) (by omega)) rfl rfl ?_
    clear hM
    rintro _ w ⟨rfl, hM⟩
    refine rl_nil (kq_normal (hK _ _ (hM.le hV6) ?_))
    have hweq' := hweq.symm
    (try ((first | refine rx_off rfl rfl ?_ | (refine rx_sadd rfl rfl rfl rfl (by (first | omega | (simp only [List.length_append, List.length_cons, List.length_nil, List.length_take, List.length_drop] at *; omega))) ?_)); (try ((first | refine rx_off rfl rfl ?_ | refine rx_seql_t rfl rfl rfl rfl (by first | rfl | assumption) ?_ | refine rx_seql_f rfl rfl rfl rfl (by first | assumption | decide) ?_); (try (refine rx_pick (v := (Value.bool _ : Value)) rfl rfl rfl rfl ?_; (try (refine rx_move (v := (Value.bool _ : Value)) rfl rfl rfl ?_; (try ((first | refine rx_off rfl rfl ?_ | refine rx_loadAV rfl (fun _ h => h) ag25 rfl rfl (by assumption) (by rfl) ?_ | refine rx_loadAM (vs := [_]) 0 rfl (fun _ h => h) ag25 rfl rfl rfl rfl rfl ?_ | refine rx_loadAM (vs := [_]) 1 rfl (fun _ h => h) ag25 rfl rfl rfl rfl rfl ?_ | refine rx_loadAM (vs := [_]) 2 rfl (fun _ h => h) ag25 rfl rfl rfl rfl rfl ?_ | refine rx_loadAM (vs := [_]) 3 rfl (fun _ h => h) ag25 rfl rfl rfl rfl rfl ?_ | refine rx_loadAM (vs := [_]) 4 rfl (fun _ h => h) ag25 rfl rfl rfl rfl rfl ?_ | refine rx_loadAM (vs := [_]) 5 rfl (fun _ h => h) ag25 rfl rfl rfl rfl rfl ?_ | refine rx_loadAM (vs := [_]) 6 rfl (fun _ h => h) ag25 rfl rfl rfl rfl rfl ?_ | refine rx_loadAM (vs := [_]) 7 rfl (fun _ h => h) ag25 rfl rfl rfl rfl rfl ?_); (try ((first | refine rx_off rfl rfl ?_ | refine rx_loadAV rfl (fun _ h => h) ag25 rfl rfl (by assumption) (by rfl) ?_ | refine rx_loadAM (vs := [_]) 0 rfl (fun _ h => h) ag25 rfl rfl rfl rfl rfl ?_ | refine rx_loadAM (vs := [_]) 1 rfl (fun _ h => h) ag25 rfl rfl rfl rfl rfl ?_ | refine rx_loadAM (vs := [_]) 2 rfl (fun _ h => h) ag25 rfl rfl rfl rfl rfl ?_ | refine rx_loadAM (vs := [_]) 3 rfl (fun _ h => h) ag25 rfl rfl rfl rfl rfl ?_ | refine rx_loadAM (vs := [_]) 4 rfl (fun _ h => h) ag25 rfl rfl rfl rfl rfl ?_ | refine rx_loadAM (vs := [_]) 5 rfl (fun _ h => h) ag25 rfl rfl rfl rfl rfl ?_ | refine rx_loadAM (vs := [_]) 6 rfl (fun _ h => h) ag25 rfl rfl rfl rfl rfl ?_ | refine rx_loadAM (vs := [_]) 7 rfl (fun _ h => h) ag25 rfl rfl rfl rfl rfl ?_); (try ((first | refine rx_off rfl rfl ?_ | refine rx_loadAV rfl (fun _ h => h) ag25 rfl rfl (by assumption) (by rfl) ?_ | refine rx_loadAM (vs := [_]) 0 rfl (fun _ h => h) ag25 rfl rfl rfl rfl rfl ?_ | refine rx_loadAM (vs := [_]) 1 rfl (fun _ h => h) ag25 rfl rfl rfl rfl rfl ?_ | refine rx_loadAM (vs := [_]) 2 rfl (fun _ h => h) ag25 rfl rfl rfl rfl rfl ?_ | refine rx_loadAM (vs := [_]) 3 rfl (fun _ h => h) ag25 rfl rfl rfl rfl rfl ?_ | refine rx_loadAM (vs := [_]) 4 rfl (fun _ h => h) ag25 rfl rfl rfl rfl rfl ?_ | refine rx_loadAM (vs := [_]) 5 rfl (fun _ h => h) ag25 rfl rfl rfl rfl rfl ?_ | refine rx_loadAM (vs := [_]) 6 rfl (fun _ h => h) ag25 rfl rfl rfl rfl rfl ?_ | refine rx_loadAM (vs := [_]) 7 rfl (fun _ h => h) ag25 rfl rfl rfl rfl rfl ?_); (try ((first | refine rx_off rfl rfl ?_ | refine rx_loadAV rfl (fun _ h => h) ag25 rfl rfl (by assumption) (by rfl) ?_ | refine rx_loadAM (vs := [_]) 0 rfl (fun _ h => h) ag25 rfl rfl rfl rfl rfl ?_ | refine rx_loadAM (vs := [_]) 1 rfl (fun _ h => h) ag25 rfl rfl rfl rfl rfl ?_ | refine rx_loadAM (vs := [_]) 2 rfl (fun _ h => h) ag25 rfl rfl rfl rfl rfl ?_ | refine rx_loadAM (vs := [_]) 3 rfl (fun _ h => h) ag25 rfl rfl rfl rfl rfl ?_ | refine rx_loadAM (vs := [_]) 4 rfl (fun _ h => h) ag25 rfl rfl rfl rfl rfl ?_ | refine rx_loadAM (vs := [_]) 5 rfl (fun _ h => h) ag25 rfl rfl rfl rfl rfl ?_ | refine rx_loadAM (vs := [_]) 6 rfl (fun _ h => h) ag25 rfl rfl rfl rfl rfl ?_ | refine rx_loadAM (vs := [_]) 7 rfl (fun _ h => h) ag25 rfl rfl rfl rfl rfl ?_)))))))))))))))))
    refine rx_eff rfl (fun K hK => ?_)
    refine rl_callf fn21 (same_ok 100 _ _ (by omega) w0 w _ V6 _ _ hM (g1.le hV6) (g2.le hV6)) rfl rfl ?_
    clear hM
    rintro _ w ⟨rfl, hM⟩
    refine rl_nil (kq_normal (hK _ _ (hM.le hV6) ?_))
    refine rx_eff rfl (fun K hK => ?_)
    refine rl_callf fn13 (refprint_ok 100 _ (by omega) w0 w _ V6 _ hM (g1.le hV6) (by omega)) rfl rfl ?_
    clear hM
    rintro _ w ⟨rfl, hM⟩
    refine rl_nil (kq_normal (hK _ _ (hM.le hV6) ?_))
    refine rx_eff rfl (fun K hK => ?_)
    refine rl_callf fn13 (refprint_ok 100 _ (by omega) w0 w _ V6 _ hM (g2.le hV6) (by omega)) rfl rfl ?_
    clear hM
    rintro _ w ⟨rfl, hM⟩
    refine rl_nil (kq_normal (hK _ _ (hM.le hV6) ?_))
    refine rx_seql rfl rfl rfl rfl ?_
    have hsm : a.same b = decide (a.prn = b.prn) := by
      by_cases h : a = b
      · subst h; rw [Kd.same_iff.2 rfl, decide_eq_true rfl]
      · rw [decide_eq_false (fun h2 => h (prn_inj h2))]
        cases h2 : a.same b with
        | false => rfl
        | true => exact absurd (Kd.same_iff.1 h2) h
    refine rx_eqbool (a := a.same b) (b := decide (a.prn = b.prn)) rfl ub4 rfl rfl rfl ?_
    rw [hsm, show (decide (a.prn = b.prn) == decide (a.prn = b.prn)) = true by simp]
    (try (refine rx_pick (v := (Value.bool _ : Value)) rfl rfl rfl rfl ?_; (try (refine rx_move (v := (Value.bool _ : Value)) rfl rfl rfl ?_))))
    refine rx_eff rfl (fun K hK => ?_)
    refine rl_callf fn15 (lives_ok w0 w _ V6 hM) rfl rfl ?_
    clear hM
    rintro _ w ⟨rfl, V7, hV7, hM⟩
    refine rl_nil (kq_normal (hK _ _ (hM.le (hV6.trans hV7)) ?_))
    (try (refine rx_pick (v := (Value.bool _ : Value)) rfl rfl rfl rfl ?_))
    refine rx_nil rfl ?_
    (repeat (first | refine sq_normal ?_ | refine rl_nil ?_ | refine ret_ ?_ | refine np_normal ?_ | refine rl_assign (v := (Value.bool _ : Value)) rfl rfl ?_))
    exact bp_ret1 (v := Value.bool _) rfl rfl ⟨rfl, hM.below⟩
  rw [hw0] at key
  exact key
end Go.Proofs.Ytkjahcegjplbnaa.Kin
