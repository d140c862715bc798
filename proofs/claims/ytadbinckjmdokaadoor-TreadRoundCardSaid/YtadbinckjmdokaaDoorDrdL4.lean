/- TreadRound. -/
import Derived.Test.YtadbinckjmdokaaDoorDrdX1
import Derived.Test.YtadbinckjmdokaaDoorTxB
set_option linter.unusedVariables false
set_option linter.unusedSimpArgs false
namespace Go.Proofs.YtadbinckjmdokaaDoor.Trd
open Go Go.Eng Go.RowKit Go.Tr Go.Lx
attribute [local irreducible] RL RX KQ SQ Exit.inBlock Exit.then BP NP CallsOk IsSl IsRows IsInts IsBools Own Blk Code.wp Calls wpList
set_option maxRecDepth 4000 in
set_option maxHeartbeats 4000000 in
theorem law4 (v : Value) (l : List Int) (w : World) (hI : IsInts w.cell? v l) : CallsOk Tryd.prog 4 #[v] w fun r w' => r = .bool true ∧ Below w.heap.size w w' := by
  have hml := maxLen_le
  have hM := Mem.init w
  obtain ⟨w0, hw0⟩ : ∃ w0, w0 = w := ⟨_, rfl⟩
  obtain ⟨V, hVd⟩ : ∃ V, V = w.cell? := ⟨_, rfl⟩
  rw [← hVd] at hM hI
  have hM : Mem w0 w [] V := by rw [hw0]; exact hM
  have key : CallsOk Tryd.prog 4 #[v] w fun r w' => r = .bool true ∧ Below w0.heap.size w0 w' := by
    clear hVd hw0
    obtain ⟨_, _, _, _, rfl, _⟩ := id hI.open
    refine enter_ (N := 25) Tryd.func4 rfl rfl rfl ?_
    (repeat (first | refine seq_ ?_ | refine sq_normal ?_ | refine rl_nil ?_ | (refine region_ (id := 0) ?_; (try (refine rl_assign (v := (Value.bool _ : Value)) rfl rfl ?_))) | (refine region_ (id := 1) ?_; (try (refine rl_move (v := (Value.slice _ _ _ : Value)) rfl rfl ?_)))))
    refine rl_callf fn6 (goodT_ok _ l w0 w _ V hM hI) rfl rfl ?_
    clear hM
    rintro _ w ⟨V1, cs, t, hV1, hM, rfl, hc, hg, hsz, hht⟩
    obtain ⟨f1, n1, s1, a1, k1, c1, rfl, _⟩ := id hc.shape
    have hpl := hg.pr_len 0
    (repeat (first | refine seq_ ?_ | refine sq_normal ?_ | refine rl_nil ?_ | (refine region_ (id := 2) ?_; (try (refine rl_loadAM (vs := [_, _, _, _]) 0 hM ag26 rfl rfl rfl rfl rfl ?_))) | (refine rl_allocAM (d := 3) hM ag26 rfl ?_; clear hM; intro w b3 hM) | (refine rl_storeWM 0 hM ag26 rfl rfl rfl rfl rfl rfl rfl ?_; clear hM; intro w hM)))
    refine rl_callf fn9 (tprint_ok t _ w0 w _ V1 hg.nm (by omega) hM hc) rfl rfl ?_
    clear hM
    rintro _ w ⟨rfl, hM⟩
    skip
    refine rl_callf fn13 (readType_ok (pr t 0) w0 w _ V1 hM (by omega)) rfl rfl ?_
    clear hM
    rintro _ w ⟨V2, ds, u, e, a, hV2, hM, rfl, hd, hst⟩
    rw [readT_print hg (by omega) (by omega)] at hst
    rcases hst with ⟨h, rfl, rfl⟩ | ⟨h, _⟩
    · cases h
      obtain ⟨f2, n2, s2, a2, k2, c2, rfl, _⟩ := id hd.shape
      (repeat (first | refine seq_ ?_ | refine sq_normal ?_ | refine rl_nil ?_ | (refine region_ (id := 3) ?_; (try (refine rl_loadAM (vs := [_, _]) 0 hM ag35 rfl rfl rfl rfl rfl ?_; (try (refine rl_build [(Value.int .i64 0), (Value.int .i64 0)] ag35 pl35 rfl rfl rfl ?_; (try (refine rl_aeql_t eq35 rfl rfl rfl rfl rfl (by first | rfl | assumption) ?_; (try (refine rl_move (v := (Value.bool _ : Value)) rfl rfl ?_; (try (refine rl_loadAM (vs := [_, _, _, _]) 1 hM ag26 rfl rfl rfl rfl rfl ?_; (try (refine rl_loadAM (vs := [_, _, _, _]) 2 hM ag26 rfl rfl rfl rfl rfl ?_))))))))))))) | (refine rl_storeWM 1 hM ag26 rfl rfl rfl rfl rfl rfl rfl ?_; clear hM; intro w hM) | refine rl_move (v := (Value.tuple _ : Value)) rfl rfl ?_ | refine rl_extract rfl rfl rfl ?_ | (refine rl_allocAM (d := 4) hM ag26 rfl ?_; clear hM; intro w b4 hM) | (refine rl_allocAM (d := 5) hM ag35 rfl ?_; clear hM; intro w b5 hM) | (refine rl_storeWM 0 hM ag35 rfl rfl rfl rfl rfl rfl rfl ?_; clear hM; intro w hM)))
      refine rl_callf fn14 (equal_ok _ t _ _ (Nat.lt_succ_self _) w0 w _ V2 hM hd (hc.le hV2)) rfl rfl ?_
      clear hM
      rintro _ w ⟨rfl, hM⟩
      (repeat (first | refine rl_move (v := (Value.bool _ : Value)) rfl rfl ?_ | refine rl_pick (v := (Value.bool _ : Value)) rfl rfl rfl ?_))
      refine rl_callf fn12 (lives_ok w0 w _ V2 hM) rfl rfl ?_
      clear hM
      rintro _ w ⟨rfl, hM⟩
      (repeat (first | refine sq_normal ?_ | refine rl_nil ?_ | refine ret_ ?_ | refine rl_assign (v := (Value.bool _ : Value)) rfl rfl ?_ | refine rl_pick (v := (Value.bool _ : Value)) rfl rfl rfl ?_))
      exact bp_ret1 (v := Value.bool _) rfl rfl ⟨rfl, hM.below⟩
    · cases h
  rw [hw0] at key
  exact key
end Go.Proofs.YtadbinckjmdokaaDoor.Trd
