/- The walk of fuguelaw03.KindsOf. -/
import Derived.Test.YtkjahcegjplbnaaKinL3
import Derived.Test.YtkjahcegjplbnaaKinP
set_option linter.unusedVariables false
set_option linter.unusedSimpArgs false
namespace Go.Proofs.Ytkjahcegjplbnaa.Kin
open Go Go.Eng Go.RowKit Go.Kn
attribute [local irreducible] RL RX KQ SQ Exit.inBlock Exit.then BP NP CallsOk IsSl IsRows IsInts IsBools Own Blk Code.wp Calls wpList
set_option maxRecDepth 4000 in
set_option maxHeartbeats 4000000 in
theorem law9 (v : Value) (l : List Int) (u : Value) (m : List Int) (w : World) (hI : IsInts w.cell? v l) (hJ : IsInts w.cell? u m) : CallsOk Try.prog 9 #[v, u] w fun r w' => r = .bool true ∧ Below w.heap.size w w' := by
  have hM := Mem.init w
  obtain ⟨w0, hw0⟩ : ∃ w0, w0 = w := ⟨_, rfl⟩
  obtain ⟨V, hVd⟩ : ∃ V, V = w.cell? := ⟨_, rfl⟩
  rw [← hVd] at hM hI hJ
  have hM : Mem w0 w [] V := by rw [hw0]; exact hM
  have key : CallsOk Try.prog 9 #[v, u] w fun r w' => r = .bool true ∧ Below w0.heap.size w0 w' := by
    obtain ⟨_, _, _, _, rfl, _⟩ := id hI.open
    obtain ⟨_, _, _, _, rfl, _⟩ := id hJ.open
    refine enter_ (N := 74) Try.func9 rfl rfl rfl ?_
    (repeat (first | refine seq_ ?_ | refine sq_normal ?_ | refine rl_nil ?_ | (refine region_ (id := 0) ?_; (try (refine rl_assign (v := (Value.bool _ : Value)) rfl rfl ?_))) | (refine region_ (id := 1) ?_)))
    refine rl_callf fn22 (new_ok w0 w _ V hM) rfl rfl ?_
    clear hM
    rintro _ w ⟨s, mb, o, rfl, hM, hk⟩
    (repeat (first | refine seq_ ?_ | refine sq_normal ?_ | refine rl_nil ?_ | refine cond_f rfl ?_ | refine skip_ ?_ | (refine region_ (id := 2) ?_; (try (refine rl_move (v := (Value.pointer _ : Value)) rfl rfl ?_; (try (refine rl_peqnil up45 rfl rfl rfl ?_))))) | (refine region_ (id := 4) ?_; (try (refine rl_move (v := (Value.slice _ _ _ : Value)) rfl rfl ?_))) | refine rl_assign (v := (Value.pointer _ : Value)) rfl rfl ?_))
    refine rl_callf fn10 (kind_ok l w0 w _ V _ hM hI) rfl rfl ?_
    clear hM
    rintro _ w ⟨V1, v1, hV1, hM, rfl, hk1⟩
    obtain ⟨A1, c1, rfl⟩ := hk1.shape
    (repeat (first | refine seq_ ?_ | refine sq_normal ?_ | refine rl_nil ?_ | (refine region_ (id := 5) ?_; (try (refine rl_move (v := (Value.slice _ _ _ : Value)) rfl rfl ?_))) | (refine rl_allocAM (d := 6) hM ag25 rfl ?_; clear hM; intro w b6 hM) | (first | (refine rl_storeWM 0 hM ag25 rfl rfl rfl rfl rfl rfl rfl ?_; clear hM; intro w hM) | (refine rl_storeWM 1 hM ag25 rfl rfl rfl rfl rfl rfl rfl ?_; clear hM; intro w hM) | (refine rl_storeWM 2 hM ag25 rfl rfl rfl rfl rfl rfl rfl ?_; clear hM; intro w hM) | (refine rl_storeWM 3 hM ag25 rfl rfl rfl rfl rfl rfl rfl ?_; clear hM; intro w hM) | (refine rl_storeWM 4 hM ag25 rfl rfl rfl rfl rfl rfl rfl ?_; clear hM; intro w hM) | (refine rl_storeWM 5 hM ag25 rfl rfl rfl rfl rfl rfl rfl ?_; clear hM; intro w hM) | (refine rl_storeWM 6 hM ag25 rfl rfl rfl rfl rfl rfl rfl ?_; clear hM; intro w hM) | (refine rl_storeWM 7 hM ag25 rfl rfl rfl rfl rfl rfl rfl ?_; clear hM; intro w hM))))
    refine rl_callf fn10 (kind_ok m w0 w _ V1 _ hM (hJ.le hV1)) rfl rfl ?_
    clear hM
    rintro _ w ⟨V2, v2, hV2, hM, rfl, hk2⟩
    obtain ⟨A2, c2, rfl⟩ := hk2.shape
    have hk1 := hk1.le hV2
    have hk := hk.le (hV1.trans hV2)
    have hsa := kindOf_sz l
    have hsb := kindOf_sz m
    obtain ⟨a, had⟩ : ∃ a, a = kindOf l := ⟨_, rfl⟩
    obtain ⟨b, hbd⟩ : ∃ b, b = kindOf m := ⟨_, rfl⟩
    rw [← had] at hk1 hsa hM ⊢
    rw [← hbd] at hk2 hsb ⊢
    clear had hbd
    (repeat (first | refine seq_ ?_ | refine sq_normal ?_ | refine rl_nil ?_ | (first | (refine rl_storeWM 0 hM ag25 rfl rfl rfl rfl rfl rfl rfl ?_; clear hM; intro w hM) | (refine rl_storeWM 1 hM ag25 rfl rfl rfl rfl rfl rfl rfl ?_; clear hM; intro w hM) | (refine rl_storeWM 2 hM ag25 rfl rfl rfl rfl rfl rfl rfl ?_; clear hM; intro w hM) | (refine rl_storeWM 3 hM ag25 rfl rfl rfl rfl rfl rfl rfl ?_; clear hM; intro w hM) | (refine rl_storeWM 4 hM ag25 rfl rfl rfl rfl rfl rfl rfl ?_; clear hM; intro w hM) | (refine rl_storeWM 5 hM ag25 rfl rfl rfl rfl rfl rfl rfl ?_; clear hM; intro w hM) | (refine rl_storeWM 6 hM ag25 rfl rfl rfl rfl rfl rfl rfl ?_; clear hM; intro w hM) | (refine rl_storeWM 7 hM ag25 rfl rfl rfl rfl rfl rfl rfl ?_; clear hM; intro w hM)) | (refine rl_allocAM (d := 7) hM ag25 rfl ?_; clear hM; intro w b7 hM)))
    (refine drawnM_ 5 [(0, false), (1, false), (3, false), (2, true), (4, true)] (fun w => Mem w0 w _ _) hM mo (by kernel_rfl) (fun _ h => h) ?_; clear hM; intro w hM; (try (refine rx_move (v := (Value.pointer _ : Value)) rfl rfl rfl ?_; (try ((first | refine rx_loadAV rfl (fun _ h => h) ag25 rfl rfl (by assumption) (by rfl) ?_ | refine rx_loadAM (vs := [_]) 0 rfl (fun _ h => h) ag25 rfl rfl rfl rfl rfl ?_ | refine rx_loadAM (vs := [_]) 1 rfl (fun _ h => h) ag25 rfl rfl rfl rfl rfl ?_ | refine rx_loadAM (vs := [_]) 2 rfl (fun _ h => h) ag25 rfl rfl rfl rfl rfl ?_ | refine rx_loadAM (vs := [_]) 3 rfl (fun _ h => h) ag25 rfl rfl rfl rfl rfl ?_ | refine rx_loadAM (vs := [_]) 4 rfl (fun _ h => h) ag25 rfl rfl rfl rfl rfl ?_ | refine rx_loadAM (vs := [_]) 5 rfl (fun _ h => h) ag25 rfl rfl rfl rfl rfl ?_ | refine rx_loadAM (vs := [_]) 6 rfl (fun _ h => h) ag25 rfl rfl rfl rfl rfl ?_ | refine rx_loadAM (vs := [_]) 7 rfl (fun _ h => h) ag25 rfl rfl rfl rfl rfl ?_); (try ((first | refine rx_loadAV rfl (fun _ h => h) ag25 rfl rfl (by assumption) (by rfl) ?_ | refine rx_loadAM (vs := [_]) 0 rfl (fun _ h => h) ag25 rfl rfl rfl rfl rfl ?_ | refine rx_loadAM (vs := [_]) 1 rfl (fun _ h => h) ag25 rfl rfl rfl rfl rfl ?_ | refine rx_loadAM (vs := [_]) 2 rfl (fun _ h => h) ag25 rfl rfl rfl rfl rfl ?_ | refine rx_loadAM (vs := [_]) 3 rfl (fun _ h => h) ag25 rfl rfl rfl rfl rfl ?_ | refine rx_loadAM (vs := [_]) 4 rfl (fun _ h => h) ag25 rfl rfl rfl rfl rfl ?_ | refine rx_loadAM (vs := [_]) 5 rfl (fun _ h => h) ag25 rfl rfl rfl rfl rfl ?_ | refine rx_loadAM (vs := [_]) 6 rfl (fun _ h => h) ag25 rfl rfl rfl rfl rfl ?_ | refine rx_loadAM (vs := [_]) 7 rfl (fun _ h => h) ag25 rfl rfl rfl rfl rfl ?_))))))))
    refine rx_eff rfl (fun K hK => ?_)
    refine rl_callf fn33 (Of_ok _ a (Nat.lt_succ_self _) (by omega) w0 w _ V2 _ hM hk1) rfl rfl ?_
    clear hM
    rintro _ w ⟨V3, xs, hV3, hM, rfl, hx⟩
    refine rl_nil (kq_normal (hK _ _ (hM.le hV3) ?_))
    refine rx_eff rfl (fun K hK => ?_)
    refine rl_callf fn33 (Of_ok _ b (Nat.lt_succ_self _) (by omega) w0 w _ V3 _ hM (hk2.le hV3)) rfl rfl ?_
    clear hM
    rintro _ w ⟨V4, ys, hV4, hM, rfl, hy⟩
    refine rl_nil (kq_normal (hK _ _ (hM.le (hV3.trans hV4)) ?_))
    refine rx_nil rfl ?_
    obtain ⟨res, hsol, hst, hcd⟩ : ∃ res, Sol [] a.tm b.tm res ∧ upto res [] = [] ∧ ((a = b ∧ code res = 0) ∨ (a ≠ b ∧ code res = 30)) := by
      obtain ⟨s1, s2⟩ := Sol.ground [] a.tm b.tm a.tm_ground b.tm_ground
      by_cases hab : a = b
      · exact ⟨_, s1 (by rw [hab]), rfl, .inl ⟨hab, rfl⟩⟩
      · exact ⟨_, s2 (fun e => hab (Kd.tm_inj e)), rfl, .inr ⟨hab, rfl⟩⟩
    refine rl_callf fn24 (Equal_ok hsol _ _ w0 w _ V4 s mb 0 o (hM.rot (A := [_, _]) (S := [_, _])) (hk.le (hV3.trans hV4)) (hx.le hV4) hy) rfl rfl ?_
    clear hM hk
    rintro _ w ⟨V5, mb, o, rfl, hV5, hM, hk⟩
    rw [hst] at hk
    replace hM := hM.rot (A := [_, _]) (S := [_, _])
    (repeat (first | refine seq_ ?_ | refine sq_normal ?_ | refine rl_nil ?_ | refine np_normal ?_ | (refine region_ (id := 7) ?_; (try (refine rl_move (v := (Value.pointer _ : Value)) rfl rfl ?_))) | refine rl_assign (v := (Value.int _ _ : Value)) rfl rfl ?_))
    refine rl_callf fn30 (fresh_ok w0 w _ V5 s 0 _ (hM.rot (A := [_, _]) (S := [_])) (by omega) (by omega)) rfl rfl ?_
    clear hM
    rintro _ w ⟨cs, rfl, hv, hM⟩
    obtain ⟨f2, n2, a2, k2, c2, rfl, _⟩ := id hv.shape
    have hv : TmV V5 (.var 1) _ := hv
    replace hM := hM.rot (A := [_]) (S := [_, _])
    have hk1 := hk1.le (hV3.trans (hV4.trans hV5))
    have hk2 := hk2.le (hV3.trans (hV4.trans hV5))
    (repeat (first | refine seq_ ?_ | refine sq_normal ?_ | refine rl_nil ?_ | (refine rl_allocAM (d := 9) hM ag55 rfl ?_; clear hM; intro w b9 hM) | (first | (refine rl_storeWM 0 hM ag55 rfl rfl rfl rfl rfl rfl rfl ?_; clear hM; intro w hM) | (refine rl_storeWM 1 hM ag55 rfl rfl rfl rfl rfl rfl rfl ?_; clear hM; intro w hM) | (refine rl_storeWM 2 hM ag55 rfl rfl rfl rfl rfl rfl rfl ?_; clear hM; intro w hM) | (refine rl_storeWM 3 hM ag55 rfl rfl rfl rfl rfl rfl rfl ?_; clear hM; intro w hM) | (refine rl_storeWM 4 hM ag55 rfl rfl rfl rfl rfl rfl rfl ?_; clear hM; intro w hM) | (refine rl_storeWM 5 hM ag55 rfl rfl rfl rfl rfl rfl rfl ?_; clear hM; intro w hM) | (refine rl_storeWM 6 hM ag55 rfl rfl rfl rfl rfl rfl rfl ?_; clear hM; intro w hM) | (refine rl_storeWM 7 hM ag55 rfl rfl rfl rfl rfl rfl rfl ?_; clear hM; intro w hM))))
    (refine drawnM_ 4 [(0, false), (1, false), (2, false), (3, true)] (fun w => Mem w0 w _ _) hM mo (by kernel_rfl) (fun _ h => h) ?_; clear hM; intro w hM; (try (refine rx_move (v := (Value.pointer _ : Value)) rfl rfl rfl ?_; (try ((first | refine rx_loadAV rfl (fun _ h => h) ag55 rfl rfl (by assumption) (by rfl) ?_ | refine rx_loadAM (vs := [_, _, _]) 0 rfl (fun _ h => h) ag55 rfl rfl rfl rfl rfl ?_ | refine rx_loadAM (vs := [_, _, _]) 1 rfl (fun _ h => h) ag55 rfl rfl rfl rfl rfl ?_ | refine rx_loadAM (vs := [_, _, _]) 2 rfl (fun _ h => h) ag55 rfl rfl rfl rfl rfl ?_ | refine rx_loadAM (vs := [_, _, _]) 3 rfl (fun _ h => h) ag55 rfl rfl rfl rfl rfl ?_ | refine rx_loadAM (vs := [_, _, _]) 4 rfl (fun _ h => h) ag55 rfl rfl rfl rfl rfl ?_ | refine rx_loadAM (vs := [_, _, _]) 5 rfl (fun _ h => h) ag55 rfl rfl rfl rfl rfl ?_ | refine rx_loadAM (vs := [_, _, _]) 6 rfl (fun _ h => h) ag55 rfl rfl rfl rfl rfl ?_ | refine rx_loadAM (vs := [_, _, _]) 7 rfl (fun _ h => h) ag55 rfl rfl rfl rfl rfl ?_); (try ((first | refine rx_loadAV rfl (fun _ h => h) ag25 rfl rfl (by assumption) (by rfl) ?_ | refine rx_loadAM (vs := [_]) 0 rfl (fun _ h => h) ag25 rfl rfl rfl rfl rfl ?_ | refine rx_loadAM (vs := [_]) 1 rfl (fun _ h => h) ag25 rfl rfl rfl rfl rfl ?_ | refine rx_loadAM (vs := [_]) 2 rfl (fun _ h => h) ag25 rfl rfl rfl rfl rfl ?_ | refine rx_loadAM (vs := [_]) 3 rfl (fun _ h => h) ag25 rfl rfl rfl rfl rfl ?_ | refine rx_loadAM (vs := [_]) 4 rfl (fun _ h => h) ag25 rfl rfl rfl rfl rfl ?_ | refine rx_loadAM (vs := [_]) 5 rfl (fun _ h => h) ag25 rfl rfl rfl rfl rfl ?_ | refine rx_loadAM (vs := [_]) 6 rfl (fun _ h => h) ag25 rfl rfl rfl rfl rfl ?_ | refine rx_loadAM (vs := [_]) 7 rfl (fun _ h => h) ag25 rfl rfl rfl rfl rfl ?_))))))))
    refine rx_eff rfl (fun K hK => ?_)
    refine rl_callf fn33 (Of_ok _ a (Nat.lt_succ_self _) (by omega) w0 w _ V5 _ hM hk1) rfl rfl ?_
    clear hM
    rintro _ w ⟨V6, zs, hV6, hM, rfl, hz⟩
    refine rl_nil (kq_normal (hK _ _ (hM.le hV6) ?_))
    refine rx_nil rfl ?_
    have hsol2 : Sol [] (.var 1) a.tm (.ok ([] ++ [(1, a.tm)])) := .bindL rfl rfl (fun m h => by cases a <;> cases h) (by rw [a.tm_ground]; simp)
    refine rl_callf fn24 (Equal_ok hsol2 _ _ w0 w _ V6 s mb _ o (hM.rot (A := [_, _, _]) (S := [_, _])) (hk.le hV6) (hv.le hV6) hz) rfl rfl ?_
    clear hM hk
    rintro _ w ⟨V7, mb, o, rfl, hV7, hM, hk⟩
    replace hM := hM.rot (A := [_, _]) (S := [_, _, _])
    have hk : Knows V7 o [(1, a.tm)] := hk
    have hk1 := hk1.le (hV6.trans hV7)
    have hk2 := hk2.le (hV6.trans hV7)
    have hv := hv.le (hV6.trans hV7)
    have hapa : ap [(1, a.tm)] a.tm = a.tm := ap_ground a.tm_ground
    have hap1 : ap [(1, a.tm)] (.var 1) = a.tm := by show Tm.put 1 a.tm (.var 1) = _; simp [Tm.put]
    have hta := a.tm_kd
    have hth := a.tm_ht
    have hc2 : code (.ok ([] ++ [((1 : Int), a.tm)])) = 0 := rfl
    (repeat (first | refine seq_ ?_ | refine sq_normal ?_ | refine rl_nil ?_ | refine np_normal ?_ | refine rl_assign (v := (Value.int _ _ : Value)) rfl rfl ?_))
    (refine drawnM_ 38 [(0, false), (2, false), (1, true), (3, true), (4, true), (5, false), (6, false), (7, false), (10, false), (8, true), (9, true), (11, true), (12, false), (13, false), (14, false), (15, false), (16, false), (17, false), (18, true), (19, false), (20, false), (21, false), (22, false), (23, false), (24, false), (25, false), (26, false), (27, false), (28, false), (29, false), (30, false), (31, false), (32, false), (33, false), (34, false), (35, false), (37, false), (36, true)] (fun w => Mem w0 w _ _) hM mo (by kernel_rfl) (fun _ h => h) ?_; clear hM; intro w hM; (try ((first | refine rx_loadAV rfl (fun _ h => h) ag25 rfl rfl (by assumption) (by rfl) ?_ | refine rx_loadAM (vs := [_]) 0 rfl (fun _ h => h) ag25 rfl rfl rfl rfl rfl ?_ | refine rx_loadAM (vs := [_]) 1 rfl (fun _ h => h) ag25 rfl rfl rfl rfl rfl ?_ | refine rx_loadAM (vs := [_]) 2 rfl (fun _ h => h) ag25 rfl rfl rfl rfl rfl ?_ | refine rx_loadAM (vs := [_]) 3 rfl (fun _ h => h) ag25 rfl rfl rfl rfl rfl ?_ | refine rx_loadAM (vs := [_]) 4 rfl (fun _ h => h) ag25 rfl rfl rfl rfl rfl ?_ | refine rx_loadAM (vs := [_]) 5 rfl (fun _ h => h) ag25 rfl rfl rfl rfl rfl ?_ | refine rx_loadAM (vs := [_]) 6 rfl (fun _ h => h) ag25 rfl rfl rfl rfl rfl ?_ | refine rx_loadAM (vs := [_]) 7 rfl (fun _ h => h) ag25 rfl rfl rfl rfl rfl ?_); (try ((first | refine rx_loadAV rfl (fun _ h => h) ag25 rfl rfl (by assumption) (by rfl) ?_ | refine rx_loadAM (vs := [_]) 0 rfl (fun _ h => h) ag25 rfl rfl rfl rfl rfl ?_ | refine rx_loadAM (vs := [_]) 1 rfl (fun _ h => h) ag25 rfl rfl rfl rfl rfl ?_ | refine rx_loadAM (vs := [_]) 2 rfl (fun _ h => h) ag25 rfl rfl rfl rfl rfl ?_ | refine rx_loadAM (vs := [_]) 3 rfl (fun _ h => h) ag25 rfl rfl rfl rfl rfl ?_ | refine rx_loadAM (vs := [_]) 4 rfl (fun _ h => h) ag25 rfl rfl rfl rfl rfl ?_ | refine rx_loadAM (vs := [_]) 5 rfl (fun _ h => h) ag25 rfl rfl rfl rfl rfl ?_ | refine rx_loadAM (vs := [_]) 6 rfl (fun _ h => h) ag25 rfl rfl rfl rfl rfl ?_ | refine rx_loadAM (vs := [_]) 7 rfl (fun _ h => h) ag25 rfl rfl rfl rfl rfl ?_))))))
    refine rx_eff rfl (fun K hK => ?_)
    refine rl_callf fn33 (Of_ok _ a (Nat.lt_succ_self _) (by omega) w0 w _ V7 _ hM hk1) rfl rfl ?_
    clear hM
    rintro _ w ⟨V8, xs1, hV8, hM, rfl, hx1⟩
    refine rl_nil (kq_normal (hK _ _ (hM.le hV8) ?_))
    refine rx_eff rfl (fun K hK => ?_)
    refine rl_callf fn27 (refOf_ok _ a (Nat.lt_succ_self _) (by omega) w0 w _ V8 _ hM (hk1.le hV8)) rfl rfl ?_
    clear hM
    rintro _ w ⟨V9, xs2, hV9, hM, rfl, hx2⟩
    refine rl_nil (kq_normal (hK _ _ (hM.le (hV8.trans hV9)) ?_))
    refine rx_eff rfl (fun K hK => ?_)
    refine rl_callf fn31 (tsame_ok _ _ _ _ _ (Nat.lt_succ_self _) w0 w _ V9 hM (hx1.le hV9) hx2) rfl rfl ?_
    clear hM
    rintro _ w ⟨rfl, hM⟩
    rw [decide_eq_true rfl]
    refine rl_nil (kq_normal (hK _ _ (hM.le (hV8.trans hV9)) ?_))
    (try (refine rx_move (v := (Value.bool _ : Value)) rfl rfl rfl ?_; (try ((first | refine rx_off rfl rfl ?_ | refine rx_move (v := (Value.pointer _ : Value)) rfl rfl rfl ?_); (try ((first | refine rx_off rfl rfl ?_ | refine rx_loadAV rfl (fun _ h => h) ag25 rfl rfl (by assumption) (by rfl) ?_ | refine rx_loadAM (vs := [_]) 0 rfl (fun _ h => h) ag25 rfl rfl rfl rfl rfl ?_ | refine rx_loadAM (vs := [_]) 1 rfl (fun _ h => h) ag25 rfl rfl rfl rfl rfl ?_ | refine rx_loadAM (vs := [_]) 2 rfl (fun _ h => h) ag25 rfl rfl rfl rfl rfl ?_ | refine rx_loadAM (vs := [_]) 3 rfl (fun _ h => h) ag25 rfl rfl rfl rfl rfl ?_ | refine rx_loadAM (vs := [_]) 4 rfl (fun _ h => h) ag25 rfl rfl rfl rfl rfl ?_ | refine rx_loadAM (vs := [_]) 5 rfl (fun _ h => h) ag25 rfl rfl rfl rfl rfl ?_ | refine rx_loadAM (vs := [_]) 6 rfl (fun _ h => h) ag25 rfl rfl rfl rfl rfl ?_ | refine rx_loadAM (vs := [_]) 7 rfl (fun _ h => h) ag25 rfl rfl rfl rfl rfl ?_); (try ((first | refine rx_off rfl rfl ?_ | refine rx_loadAV rfl (fun _ h => h) ag25 rfl rfl (by assumption) (by rfl) ?_ | refine rx_loadAM (vs := [_]) 0 rfl (fun _ h => h) ag25 rfl rfl rfl rfl rfl ?_ | refine rx_loadAM (vs := [_]) 1 rfl (fun _ h => h) ag25 rfl rfl rfl rfl rfl ?_ | refine rx_loadAM (vs := [_]) 2 rfl (fun _ h => h) ag25 rfl rfl rfl rfl rfl ?_ | refine rx_loadAM (vs := [_]) 3 rfl (fun _ h => h) ag25 rfl rfl rfl rfl rfl ?_ | refine rx_loadAM (vs := [_]) 4 rfl (fun _ h => h) ag25 rfl rfl rfl rfl rfl ?_ | refine rx_loadAM (vs := [_]) 5 rfl (fun _ h => h) ag25 rfl rfl rfl rfl rfl ?_ | refine rx_loadAM (vs := [_]) 6 rfl (fun _ h => h) ag25 rfl rfl rfl rfl rfl ?_ | refine rx_loadAM (vs := [_]) 7 rfl (fun _ h => h) ag25 rfl rfl rfl rfl rfl ?_)))))))))
    refine rx_eff rfl (fun K hK => ?_)
    refine rl_callf fn33 (Of_ok _ a (Nat.lt_succ_self _) (by omega) w0 w _ V9 _ hM (hk1.le (hV8.trans hV9))) rfl rfl ?_
    clear hM
    rintro _ w ⟨V10, xs3, hV10, hM, rfl, hx3⟩
    have hW := hV8.trans (hV9.trans hV10)
    refine rl_nil (kq_normal (hK _ _ (hM.le hW) ?_))
    refine rx_eff rfl (fun K hK => ?_)
    refine rl_callf fn26 (Kind_ok _ [(1, a.tm)] a.tm _ (Nat.le_refl _) (by rw [hapa]; omega) w0 w _ V10 s mb _ o (hM.rot (A := [_, _, _]) (S := [_, _])) (hk.le hW) hx3) rfl rfl ?_
    clear hM
    rintro _ w ⟨V11, v11, hV11, hM, rfl, hk11⟩
    replace hM := hM.rot (A := [_, _]) (S := [_, _, _])
    rw [hapa, hta] at hk11
    obtain ⟨_, _, rfl⟩ := hk11.shape
    have hX := hW.trans hV11
    refine rl_nil (kq_normal (hK _ _ (hM.le hX) ?_))
    refine rx_eff rfl (fun K hK => ?_)
    refine rl_callf fn14 (refsame_ok _ _ _ (Nat.lt_succ_self _) w0 w _ V11 _ _ hM hk11 (hk1.le hX)) rfl rfl ?_
    clear hM
    rintro _ w ⟨rfl, hM⟩
    rw [Kd.same_iff.2 rfl]
    refine rl_nil (kq_normal (hK _ _ (hM.le hX) ?_))
    rcases hcd with ⟨hab, hcd⟩ | ⟨hab, hcd⟩
    · have hsm : a.same b = true := Kd.same_iff.2 hab
      (try (refine rx_pick (v := (Value.bool _ : Value)) rfl rfl rfl rfl ?_; (try (refine rx_move (v := (Value.bool _ : Value)) rfl rfl rfl ?_; (try ((first | refine rx_off rfl rfl ?_ | refine rx_move (v := (Value.int _ _ : Value)) rfl rfl rfl ?_); (try ((first | refine rx_off rfl rfl ?_ | (refine rx_eql_t rfl rfl rfl rfl ?_ ?_; omega) | (refine rx_eql_f rfl rfl rfl rfl ?_ ?_; omega)); (try ((first | refine rx_off rfl rfl ?_ | refine rx_loadAV rfl (fun _ h => h) ag25 rfl rfl (by assumption) (by rfl) ?_ | refine rx_loadAM (vs := [_]) 0 rfl (fun _ h => h) ag25 rfl rfl rfl rfl rfl ?_ | refine rx_loadAM (vs := [_]) 1 rfl (fun _ h => h) ag25 rfl rfl rfl rfl rfl ?_ | refine rx_loadAM (vs := [_]) 2 rfl (fun _ h => h) ag25 rfl rfl rfl rfl rfl ?_ | refine rx_loadAM (vs := [_]) 3 rfl (fun _ h => h) ag25 rfl rfl rfl rfl rfl ?_ | refine rx_loadAM (vs := [_]) 4 rfl (fun _ h => h) ag25 rfl rfl rfl rfl rfl ?_ | refine rx_loadAM (vs := [_]) 5 rfl (fun _ h => h) ag25 rfl rfl rfl rfl rfl ?_ | refine rx_loadAM (vs := [_]) 6 rfl (fun _ h => h) ag25 rfl rfl rfl rfl rfl ?_ | refine rx_loadAM (vs := [_]) 7 rfl (fun _ h => h) ag25 rfl rfl rfl rfl rfl ?_); (try ((first | refine rx_off rfl rfl ?_ | refine rx_loadAV rfl (fun _ h => h) ag25 rfl rfl (by assumption) (by rfl) ?_ | refine rx_loadAM (vs := [_]) 0 rfl (fun _ h => h) ag25 rfl rfl rfl rfl rfl ?_ | refine rx_loadAM (vs := [_]) 1 rfl (fun _ h => h) ag25 rfl rfl rfl rfl rfl ?_ | refine rx_loadAM (vs := [_]) 2 rfl (fun _ h => h) ag25 rfl rfl rfl rfl rfl ?_ | refine rx_loadAM (vs := [_]) 3 rfl (fun _ h => h) ag25 rfl rfl rfl rfl rfl ?_ | refine rx_loadAM (vs := [_]) 4 rfl (fun _ h => h) ag25 rfl rfl rfl rfl rfl ?_ | refine rx_loadAM (vs := [_]) 5 rfl (fun _ h => h) ag25 rfl rfl rfl rfl rfl ?_ | refine rx_loadAM (vs := [_]) 6 rfl (fun _ h => h) ag25 rfl rfl rfl rfl rfl ?_ | refine rx_loadAM (vs := [_]) 7 rfl (fun _ h => h) ag25 rfl rfl rfl rfl rfl ?_)))))))))))))
      refine rx_eff rfl (fun K hK => ?_)
      refine rl_callf fn14 (refsame_ok _ _ _ (Nat.lt_succ_self _) w0 w _ V11 _ _ hM (hk1.le hX) (hk2.le hX)) rfl rfl ?_
      clear hM
      rintro _ w ⟨rfl, hM⟩
      rw [hsm]
      refine rl_nil (kq_normal (hK _ _ (hM.le hX) ?_))
      (try ((first | refine rx_off rfl rfl ?_ | refine rx_eqbool rfl ub4 rfl rfl rfl ?_); (try (refine rx_pick (v := (Value.bool _ : Value)) rfl rfl rfl rfl ?_; (try (refine rx_move (v := (Value.bool _ : Value)) rfl rfl rfl ?_; (try ((first | refine rx_off rfl rfl ?_ | refine rx_move (v := (Value.int _ _ : Value)) rfl rfl rfl ?_); (try ((first | refine rx_off rfl rfl ?_ | (refine rx_eql_t rfl rfl rfl rfl ?_ ?_; omega) | (refine rx_eql_f rfl rfl rfl rfl ?_ ?_; omega)); (try ((first | refine rx_off rfl rfl ?_ | refine rx_move (v := (Value.bool _ : Value)) rfl rfl rfl ?_); (try ((first | refine rx_off rfl rfl ?_ | refine rx_move (v := (Value.int _ _ : Value)) rfl rfl rfl ?_); (try ((first | refine rx_off rfl rfl ?_ | (refine rx_eql_t rfl rfl rfl rfl ?_ ?_; omega) | (refine rx_eql_f rfl rfl rfl rfl ?_ ?_; omega)); (try ((first | refine rx_off rfl rfl ?_ | refine rx_pick (v := (Value.bool _ : Value)) rfl rfl rfl rfl ?_); (try (refine rx_pick (v := (Value.bool _ : Value)) rfl rfl rfl rfl ?_; (try (refine rx_move (v := (Value.bool _ : Value)) rfl rfl rfl ?_; (try ((first | refine rx_off rfl rfl ?_ | refine rx_move (v := (Value.int _ _ : Value)) rfl rfl rfl ?_); (try ((first | refine rx_off rfl rfl ?_ | (refine rx_eql_t rfl rfl rfl rfl ?_ ?_; omega) | (refine rx_eql_f rfl rfl rfl rfl ?_ ?_; omega)); (try (refine rx_pick (v := (Value.bool _ : Value)) rfl rfl rfl rfl ?_; (try (refine rx_move (v := (Value.bool _ : Value)) rfl rfl rfl ?_; (try ((first | refine rx_off rfl rfl ?_ | refine rx_move (v := (Value.pointer _ : Value)) rfl rfl rfl ?_); (try ((first | refine rx_off rfl rfl ?_ | refine rx_loadAV rfl (fun _ h => h) ag55 rfl rfl (by assumption) (by rfl) ?_ | refine rx_loadAM (vs := [_, _, _]) 0 rfl (fun _ h => h) ag55 rfl rfl rfl rfl rfl ?_ | refine rx_loadAM (vs := [_, _, _]) 1 rfl (fun _ h => h) ag55 rfl rfl rfl rfl rfl ?_ | refine rx_loadAM (vs := [_, _, _]) 2 rfl (fun _ h => h) ag55 rfl rfl rfl rfl rfl ?_ | refine rx_loadAM (vs := [_, _, _]) 3 rfl (fun _ h => h) ag55 rfl rfl rfl rfl rfl ?_ | refine rx_loadAM (vs := [_, _, _]) 4 rfl (fun _ h => h) ag55 rfl rfl rfl rfl rfl ?_ | refine rx_loadAM (vs := [_, _, _]) 5 rfl (fun _ h => h) ag55 rfl rfl rfl rfl rfl ?_ | refine rx_loadAM (vs := [_, _, _]) 6 rfl (fun _ h => h) ag55 rfl rfl rfl rfl rfl ?_ | refine rx_loadAM (vs := [_, _, _]) 7 rfl (fun _ h => h) ag55 rfl rfl rfl rfl rfl ?_); (try ((first | refine rx_off rfl rfl ?_ | refine rx_loadAV rfl (fun _ h => h) ag25 rfl rfl (by assumption) (by rfl) ?_ | refine rx_loadAM (vs := [_]) 0 rfl (fun _ h => h) ag25 rfl rfl rfl rfl rfl ?_ | refine rx_loadAM (vs := [_]) 1 rfl (fun _ h => h) ag25 rfl rfl rfl rfl rfl ?_ | refine rx_loadAM (vs := [_]) 2 rfl (fun _ h => h) ag25 rfl rfl rfl rfl rfl ?_ | refine rx_loadAM (vs := [_]) 3 rfl (fun _ h => h) ag25 rfl rfl rfl rfl rfl ?_ | refine rx_loadAM (vs := [_]) 4 rfl (fun _ h => h) ag25 rfl rfl rfl rfl rfl ?_ | refine rx_loadAM (vs := [_]) 5 rfl (fun _ h => h) ag25 rfl rfl rfl rfl rfl ?_ | refine rx_loadAM (vs := [_]) 6 rfl (fun _ h => h) ag25 rfl rfl rfl rfl rfl ?_ | refine rx_loadAM (vs := [_]) 7 rfl (fun _ h => h) ag25 rfl rfl rfl rfl rfl ?_)))))))))))))))))))))))))))))))))))))
      refine rx_eff rfl (fun K hK => ?_)
      refine rl_callf fn26 (Kind_ok _ [(1, a.tm)] (.var 1) _ (Nat.le_refl _) (by rw [hap1]; omega) w0 w _ V11 s mb _ o (hM.rot (A := [_, _, _]) (S := [_, _])) (hk.le hX) (hv.le hX)) rfl rfl ?_
      clear hM
      rintro _ w ⟨V12, v12, hV12, hM, rfl, hk12⟩
      replace hM := hM.rot (A := [_, _]) (S := [_, _, _])
      rw [hap1, hta] at hk12
      obtain ⟨_, _, rfl⟩ := hk12.shape
      refine rl_nil (kq_normal (hK _ _ (hM.le (hX.trans hV12)) ?_))
      refine rx_nil rfl ?_
      skip
      refine rl_callf fn14 (refsame_ok _ _ _ (Nat.lt_succ_self _) w0 w _ V12 _ _ hM hk12 (hk1.le (hX.trans hV12))) rfl rfl ?_
      clear hM
      rintro _ w ⟨rfl, hM⟩
      rw [Kd.same_iff.2 rfl]
      (repeat (first | refine rl_move (v := (Value.bool _ : Value)) rfl rfl ?_ | refine rl_pick (v := (Value.bool _ : Value)) rfl rfl rfl ?_))
      refine rl_callf fn15 (lives_ok w0 w _ V12 hM) rfl rfl ?_
      clear hM
      rintro _ w ⟨rfl, V13, hV13, hM⟩
      (repeat (first | refine sq_normal ?_ | refine rl_nil ?_ | refine ret_ ?_ | refine np_normal ?_ | refine rl_assign (v := (Value.bool _ : Value)) rfl rfl ?_ | refine rl_pick (v := (Value.bool _ : Value)) rfl rfl rfl ?_))
      exact bp_ret1 (v := Value.bool _) rfl rfl ⟨rfl, hM.below⟩
    · have hsm : a.same b = false := by
        cases h : a.same b with
        | false => rfl
        | true => exact absurd (Kd.same_iff.1 h) hab
      (try (refine rx_pick (v := (Value.bool _ : Value)) rfl rfl rfl rfl ?_; (try (refine rx_move (v := (Value.bool _ : Value)) rfl rfl rfl ?_; (try ((first | refine rx_off rfl rfl ?_ | refine rx_move (v := (Value.int _ _ : Value)) rfl rfl rfl ?_); (try ((first | refine rx_off rfl rfl ?_ | (refine rx_eql_t rfl rfl rfl rfl ?_ ?_; omega) | (refine rx_eql_f rfl rfl rfl rfl ?_ ?_; omega)); (try ((first | refine rx_off rfl rfl ?_ | refine rx_loadAV rfl (fun _ h => h) ag25 rfl rfl (by assumption) (by rfl) ?_ | refine rx_loadAM (vs := [_]) 0 rfl (fun _ h => h) ag25 rfl rfl rfl rfl rfl ?_ | refine rx_loadAM (vs := [_]) 1 rfl (fun _ h => h) ag25 rfl rfl rfl rfl rfl ?_ | refine rx_loadAM (vs := [_]) 2 rfl (fun _ h => h) ag25 rfl rfl rfl rfl rfl ?_ | refine rx_loadAM (vs := [_]) 3 rfl (fun _ h => h) ag25 rfl rfl rfl rfl rfl ?_ | refine rx_loadAM (vs := [_]) 4 rfl (fun _ h => h) ag25 rfl rfl rfl rfl rfl ?_ | refine rx_loadAM (vs := [_]) 5 rfl (fun _ h => h) ag25 rfl rfl rfl rfl rfl ?_ | refine rx_loadAM (vs := [_]) 6 rfl (fun _ h => h) ag25 rfl rfl rfl rfl rfl ?_ | refine rx_loadAM (vs := [_]) 7 rfl (fun _ h => h) ag25 rfl rfl rfl rfl rfl ?_); (try ((first | refine rx_off rfl rfl ?_ | refine rx_loadAV rfl (fun _ h => h) ag25 rfl rfl (by assumption) (by rfl) ?_ | refine rx_loadAM (vs := [_]) 0 rfl (fun _ h => h) ag25 rfl rfl rfl rfl rfl ?_ | refine rx_loadAM (vs := [_]) 1 rfl (fun _ h => h) ag25 rfl rfl rfl rfl rfl ?_ | refine rx_loadAM (vs := [_]) 2 rfl (fun _ h => h) ag25 rfl rfl rfl rfl rfl ?_ | refine rx_loadAM (vs := [_]) 3 rfl (fun _ h => h) ag25 rfl rfl rfl rfl rfl ?_ | refine rx_loadAM (vs := [_]) 4 rfl (fun _ h => h) ag25 rfl rfl rfl rfl rfl ?_ | refine rx_loadAM (vs := [_]) 5 rfl (fun _ h => h) ag25 rfl rfl rfl rfl rfl ?_ | refine rx_loadAM (vs := [_]) 6 rfl (fun _ h => h) ag25 rfl rfl rfl rfl rfl ?_ | refine rx_loadAM (vs := [_]) 7 rfl (fun _ h => h) ag25 rfl rfl rfl rfl rfl ?_)))))))))))))
      refine rx_eff rfl (fun K hK => ?_)
      refine rl_callf fn14 (refsame_ok _ _ _ (Nat.lt_succ_self _) w0 w _ V11 _ _ hM (hk1.le hX) (hk2.le hX)) rfl rfl ?_
      clear hM
      rintro _ w ⟨rfl, hM⟩
      rw [hsm]
      refine rl_nil (kq_normal (hK _ _ (hM.le hX) ?_))
      (try ((first | refine rx_off rfl rfl ?_ | refine rx_eqbool rfl ub4 rfl rfl rfl ?_); (try (refine rx_pick (v := (Value.bool _ : Value)) rfl rfl rfl rfl ?_; (try (refine rx_move (v := (Value.bool _ : Value)) rfl rfl rfl ?_; (try ((first | refine rx_off rfl rfl ?_ | refine rx_move (v := (Value.int _ _ : Value)) rfl rfl rfl ?_); (try ((first | refine rx_off rfl rfl ?_ | (refine rx_eql_t rfl rfl rfl rfl ?_ ?_; omega) | (refine rx_eql_f rfl rfl rfl rfl ?_ ?_; omega)); (try ((first | refine rx_off rfl rfl ?_ | refine rx_move (v := (Value.bool _ : Value)) rfl rfl rfl ?_); (try ((first | refine rx_off rfl rfl ?_ | refine rx_move (v := (Value.int _ _ : Value)) rfl rfl rfl ?_); (try ((first | refine rx_off rfl rfl ?_ | (refine rx_eql_t rfl rfl rfl rfl ?_ ?_; omega) | (refine rx_eql_f rfl rfl rfl rfl ?_ ?_; omega)); (try ((first | refine rx_off rfl rfl ?_ | refine rx_pick (v := (Value.bool _ : Value)) rfl rfl rfl rfl ?_); (try (refine rx_pick (v := (Value.bool _ : Value)) rfl rfl rfl rfl ?_; (try (refine rx_move (v := (Value.bool _ : Value)) rfl rfl rfl ?_; (try ((first | refine rx_off rfl rfl ?_ | refine rx_move (v := (Value.int _ _ : Value)) rfl rfl rfl ?_); (try ((first | refine rx_off rfl rfl ?_ | (refine rx_eql_t rfl rfl rfl rfl ?_ ?_; omega) | (refine rx_eql_f rfl rfl rfl rfl ?_ ?_; omega)); (try (refine rx_pick (v := (Value.bool _ : Value)) rfl rfl rfl rfl ?_; (try (refine rx_move (v := (Value.bool _ : Value)) rfl rfl rfl ?_; (try ((first | refine rx_off rfl rfl ?_ | refine rx_move (v := (Value.pointer _ : Value)) rfl rfl rfl ?_); (try ((first | refine rx_off rfl rfl ?_ | refine rx_loadAV rfl (fun _ h => h) ag55 rfl rfl (by assumption) (by rfl) ?_ | refine rx_loadAM (vs := [_, _, _]) 0 rfl (fun _ h => h) ag55 rfl rfl rfl rfl rfl ?_ | refine rx_loadAM (vs := [_, _, _]) 1 rfl (fun _ h => h) ag55 rfl rfl rfl rfl rfl ?_ | refine rx_loadAM (vs := [_, _, _]) 2 rfl (fun _ h => h) ag55 rfl rfl rfl rfl rfl ?_ | refine rx_loadAM (vs := [_, _, _]) 3 rfl (fun _ h => h) ag55 rfl rfl rfl rfl rfl ?_ | refine rx_loadAM (vs := [_, _, _]) 4 rfl (fun _ h => h) ag55 rfl rfl rfl rfl rfl ?_ | refine rx_loadAM (vs := [_, _, _]) 5 rfl (fun _ h => h) ag55 rfl rfl rfl rfl rfl ?_ | refine rx_loadAM (vs := [_, _, _]) 6 rfl (fun _ h => h) ag55 rfl rfl rfl rfl rfl ?_ | refine rx_loadAM (vs := [_, _, _]) 7 rfl (fun _ h => h) ag55 rfl rfl rfl rfl rfl ?_); (try ((first | refine rx_off rfl rfl ?_ | refine rx_loadAV rfl (fun _ h => h) ag25 rfl rfl (by assumption) (by rfl) ?_ | refine rx_loadAM (vs := [_]) 0 rfl (fun _ h => h) ag25 rfl rfl rfl rfl rfl ?_ | refine rx_loadAM (vs := [_]) 1 rfl (fun _ h => h) ag25 rfl rfl rfl rfl rfl ?_ | refine rx_loadAM (vs := [_]) 2 rfl (fun _ h => h) ag25 rfl rfl rfl rfl rfl ?_ | refine rx_loadAM (vs := [_]) 3 rfl (fun _ h => h) ag25 rfl rfl rfl rfl rfl ?_ | refine rx_loadAM (vs := [_]) 4 rfl (fun _ h => h) ag25 rfl rfl rfl rfl rfl ?_ | refine rx_loadAM (vs := [_]) 5 rfl (fun _ h => h) ag25 rfl rfl rfl rfl rfl ?_ | refine rx_loadAM (vs := [_]) 6 rfl (fun _ h => h) ag25 rfl rfl rfl rfl rfl ?_ | refine rx_loadAM (vs := [_]) 7 rfl (fun _ h => h) ag25 rfl rfl rfl rfl rfl ?_)))))))))))))))))))))))))))))))))))))
      refine rx_eff rfl (fun K hK => ?_)
      refine rl_callf fn26 (Kind_ok _ [(1, a.tm)] (.var 1) _ (Nat.le_refl _) (by rw [hap1]; omega) w0 w _ V11 s mb _ o (hM.rot (A := [_, _, _]) (S := [_, _])) (hk.le hX) (hv.le hX)) rfl rfl ?_
      clear hM
      rintro _ w ⟨V12, v12, hV12, hM, rfl, hk12⟩
      replace hM := hM.rot (A := [_, _]) (S := [_, _, _])
      rw [hap1, hta] at hk12
      obtain ⟨_, _, rfl⟩ := hk12.shape
      refine rl_nil (kq_normal (hK _ _ (hM.le (hX.trans hV12)) ?_))
      refine rx_nil rfl ?_
      skip
      refine rl_callf fn14 (refsame_ok _ _ _ (Nat.lt_succ_self _) w0 w _ V12 _ _ hM hk12 (hk1.le (hX.trans hV12))) rfl rfl ?_
      clear hM
      rintro _ w ⟨rfl, hM⟩
      rw [Kd.same_iff.2 rfl]
      (repeat (first | refine rl_move (v := (Value.bool _ : Value)) rfl rfl ?_ | refine rl_pick (v := (Value.bool _ : Value)) rfl rfl rfl ?_))
      refine rl_callf fn15 (lives_ok w0 w _ V12 hM) rfl rfl ?_
      clear hM
      rintro _ w ⟨rfl, V13, hV13, hM⟩
      (repeat (first | refine sq_normal ?_ | refine rl_nil ?_ | refine ret_ ?_ | refine np_normal ?_ | refine rl_assign (v := (Value.bool _ : Value)) rfl rfl ?_ | refine rl_pick (v := (Value.bool _ : Value)) rfl rfl rfl ?_))
      exact bp_ret1 (v := Value.bool _) rfl rfl ⟨rfl, hM.below⟩
  rw [hw0] at key
  exact key
end Go.Proofs.Ytkjahcegjplbnaa.Kin
