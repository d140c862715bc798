/- The walks of fuguelaw05.lives, source, all. -/
import Derived.Test.YtadbinckjmdokaaDoorDrdW14
import Derived.Test.YtadbinckjmdokaaDoorDrdW22
import Derived.Test.YtadbinckjmdokaaDoorDrdP5
import Derived.Test.YtadbinckjmdokaaDoorEnC
set_option linter.unusedVariables false
set_option linter.unusedSimpArgs false
namespace Go.Proofs.YtadbinckjmdokaaDoor.Trd
open Go Go.Eng Go.RowKit Go.Tr Go.Lx
attribute [local irreducible] RL RX KQ SQ Exit.inBlock Exit.then BP NP CallsOk IsSl IsRows IsInts IsBools Own Blk Code.wp Calls wpList
set_option maxRecDepth 4000 in
set_option maxHeartbeats 4000000 in
theorem lives_ok (w0 w : World) (L : List Ent) (V : Vw) (hM : Mem w0 w L V) : CallsOk Tryd.prog 12 #[] w fun r w' => r = .bool true ∧ Mem w0 w' L V := by
  refine enter_ (N := 28) Tryd.func12 rfl rfl rfl ?_
  (repeat (first | refine seq_ ?_ | refine sq_normal ?_ | refine rl_nil ?_ | (refine region_ (id := 0) ?_; (try (refine rl_assign (v := (Value.bool _ : Value)) rfl rfl ?_))) | (refine region_ (id := 1) ?_)))
  refine rl_callf fn7 (readScheme_ok liveSrc w0 w _ V hM (by decide)) rfl rfl ?_
  clear hM
  rintro _ w ⟨V1, cs, sc, e, a, hV1, hM, rfl, hc, hst⟩
  rw [live_read] at hst
  rcases hst with ⟨h, rfl, rfl⟩ | ⟨h, _⟩
  · cases h
    obtain ⟨vv, pv, ts, rfl, hvs, hps, hty, _⟩ := id hc
    obtain ⟨va, vc, vb, vo, rfl, _⟩ := id hvs.open'
    obtain ⟨pa, pc, rfl, _⟩ := id hps.open'
    obtain ⟨f1, n1, s1, a1, k1, c1, rfl, _⟩ := id hty.shape
    have h2 : ((liveSch.preds.length : Nat) : Int) = 2 := rfl
    (repeat (first | refine seq_ ?_ | refine sq_normal ?_ | refine rl_nil ?_ | (refine region_ (id := 2) ?_; (try (refine rl_loadAM (vs := [_, _]) 0 hM ag35 rfl rfl rfl rfl rfl ?_; (try (refine rl_build [(Value.int .i64 0), (Value.int .i64 0)] ag35 pl35 rfl rfl rfl ?_; (try (refine rl_aeql_t eq35 rfl rfl rfl rfl rfl (by first | rfl | assumption) ?_; (try (refine rl_move (v := (Value.bool _ : Value)) rfl rfl ?_; (try (refine rl_fld fd32_0 rfl rfl ?_; (try (refine rl_loadM 1 hM vt28 rfl rfl rfl (by first | rfl | assumption) ?_; (try ((refine rl_bsliceM (d := 13) [_, _] hM sl28 rfl rfl rfl rfl rfl (by decide) (by decide) ?_; clear hM; intro w b13 hM)))))))))))))))) | refine rl_move (v := (Value.tuple _ : Value)) rfl rfl ?_ | refine rl_extract rfl rfl rfl ?_ | (refine rl_allocAM (d := 1) hM ag32 rfl ?_; clear hM; intro w b1 hM) | (refine rl_allocAM (d := 2) hM ag35 rfl ?_; clear hM; intro w b2 hM) | (refine rl_storeWM 1 hM ag32 rfl rfl rfl rfl rfl rfl rfl ?_; clear hM; intro w hM) | (refine rl_storeWM 0 hM ag35 rfl rfl rfl rfl rfl rfl rfl ?_; clear hM; intro w hM)))
    have hM : Mem w0 w (.blk b13 (([[97], [98]] : List B).map St) 9 :: .blk b2 [.int .i64 0, .int .i64 0] 35 :: .blk b1 [.slice va liveSch.vars.length vc, .slice none 0 0, .slice pa liveSch.preds.length pc, .int .i64 f1, .int .i64 n1, St s1, .slice a1 k1 c1] 32 :: L) V1 := hM
    obtain ⟨V2, hV2, hM2, hts2⟩ := ts_ret hM rfl (by decide)
    clear hM
    refine rl_callf fn23 (sameTexts_ok _ _ liveSch.vars [[97], [98]] w0 w _ V2 hM2 (IsSl.mono hvs hV2) hts2 (by decide) (by decide)) rfl rfl ?_
    clear hM2
    rintro _ w ⟨rfl, hM⟩
    rw [show decide (liveSch.vars = [[97], [98]]) = true from rfl]
    (repeat (first | refine rl_move (v := (Value.bool _ : Value)) rfl rfl ?_ | refine rl_pick (v := (Value.bool _ : Value)) rfl rfl rfl ?_ | refine rl_fld fd32_2 rfl rfl ?_ | refine rl_loadM 1 hM vt30 rfl rfl rfl (by first | rfl | assumption) ?_ | refine rl_len sl30 rfl rfl ?_ | (refine rl_eql_t rfl rfl rfl ?_ ?_; omega) | refine rl_fld fd32_3 rfl rfl ?_ | refine rl_loadAM (vs := [_, _, _, _]) 1 hM ag26 rfl rfl rfl rfl rfl ?_))
    refine rl_callf fn24 (rprint_ok _ liveTy _ (Nat.lt_succ_self _) live_nm (by rw [live_pr]; decide) w0 w _ V2 hM (hty.le hV2)) rfl rfl ?_
    clear hM
    rintro _ w ⟨rfl, hM⟩
    rw [live_pr]
    (repeat (first | refine sq_normal ?_ | refine rl_nil ?_ | refine ret_ ?_ | refine rl_assign (v := (Value.bool _ : Value)) rfl rfl ?_ | refine rl_pick (v := (Value.bool _ : Value)) rfl rfl rfl ?_ | refine rl_seql_t rfl rfl rfl (by first | rfl | assumption) ?_))
    exact bp_ret1 (v := Value.bool _) rfl rfl ⟨rfl, (hM.le (hV1.trans hV2)).dropn 2⟩
  · cases h
/-- The texts that are asked. -/
def AllP (w0 : World) (L : List Ent) (V : Vw) (r : Value) (w' : World) : Prop := ∃ V' ts, VLe V V' ∧ Mem w0 w' L V' ∧ IsTs V' r ts ∧ ts.length = 6 ∧ ∀ t ∈ ts, t.length ≤ 10000
end Go.Proofs.YtadbinckjmdokaaDoor.Trd
