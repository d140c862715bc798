/- The walks of fuguelaw02.lives. -/
import Derived.Test.YtlalagkkmoifpaaLexW11
set_option linter.unusedVariables false
set_option linter.unusedSimpArgs false
namespace Go.Proofs.Ytlalagkkmoifpaa.Lex
open Go Go.Eng Go.RowKit Go.Lx
attribute [local irreducible] RL RX KQ SQ Exit.inBlock Exit.then BP NP CallsOk IsSl IsRows IsInts IsBools Own Blk Code.wp Calls wpList
def exT : List UInt8 := [102, 32, 120, 61, 49, 32, 45, 45, 32, 111, 110, 101]
def exL : List Tok := [⟨1, [102], 0, 0⟩, ⟨1, [120], 0, 2⟩, ⟨4, [61], 0, 3⟩, ⟨3, [49], 1, 4⟩, ⟨6, [], 0, 12⟩]
theorem exT_lex : lexA exT = .ok exL := by rfl
theorem tk_ret {w0 w : World} {L : List Ent} {V : Vw} {b n : Nat} {t : TypeId} {l : List Tok} (hM : Mem w0 w (.blk b (tkCells l) t :: L) V) (hn : l.length = n) (hl : n ≤ 1000) : ∃ V', VLe V V' ∧ Mem w0 w L V' ∧ IsTk V' (.slice (some ⟨b, 0, none⟩) n n) l := by
  obtain ⟨V', hV, hM', hc⟩ := hM.freezeBlk
  subst hn
  exact ⟨V', hV, hM', isTk_of rfl (Nat.le_refl _) (by unfold maxLen; omega) (fun _ => rfl) (fun i u hu => by rw [Nat.zero_add]; exact hc i u hu)⟩
theorem lives_ok (w0 w : World) (L : List Ent) (V : Vw) (hM : Mem w0 w L V) : CallsOk Try.prog 15 #[] w fun r w' => r = .bool true ∧ Mem w0 w' L V := by
  refine enter_ (N := 20) Try.func15 rfl rfl rfl ?_
  (repeat (first | refine seq_ ?_ | refine sq_normal ?_ | refine rl_nil ?_ | (refine region_ (id := 0) ?_; (try (refine rl_assign (v := (Value.bool _ : Value)) rfl rfl ?_))) | (refine region_ (id := 1) ?_)))
  refine rl_callf fn12 (lex_ok exT w0 w _ V hM (by decide)) rfl rfl ?_
  clear hM
  rintro rv w ⟨V1, v, l, e, a, hV1, hM, rfl, htk, h⟩
  rw [exT_lex] at h
  rcases h with ⟨h, rfl, rfl⟩ | ⟨_, _, n, h, _⟩
  · cases h
    obtain ⟨_, _, _, _, hsh, _⟩ := id htk
    subst hsh
    (repeat (first | refine seq_ ?_ | refine sq_normal ?_ | refine rl_nil ?_ | (refine region_ (id := 2) ?_; (try ((first | refine rl_loadAV hM ag30 rfl rfl (by assumption) (by rfl) ?_ | refine rl_loadAM (vs := [_, _]) 0 hM ag30 rfl rfl rfl rfl rfl ?_ | refine rl_loadAM (vs := [_, _]) 1 hM ag30 rfl rfl rfl rfl rfl ?_ | refine rl_loadAM (vs := [_, _]) 2 hM ag30 rfl rfl rfl rfl rfl ?_ | refine rl_loadAM (vs := [_, _]) 3 hM ag30 rfl rfl rfl rfl rfl ?_ | refine rl_loadAM (vs := [_, _]) 4 hM ag30 rfl rfl rfl rfl rfl ?_ | refine rl_loadAM (vs := [_, _]) 5 hM ag30 rfl rfl rfl rfl rfl ?_ | refine rl_loadAM (vs := [_, _]) 6 hM ag30 rfl rfl rfl rfl rfl ?_ | refine rl_loadAM (vs := [_, _]) 7 hM ag30 rfl rfl rfl rfl rfl ?_); (try (refine rl_build [(Value.int .i64 0), (Value.int .i64 0)] ag30 pl30 rfl rfl rfl ?_; (try ((first | refine rl_aeql_t eq30 rfl rfl rfl rfl rfl (by first | rfl | assumption) ?_ | refine rl_aeql_f eq30 rfl rfl rfl rfl rfl (by assumption) ?_); (try (refine rl_move (v := (Value.bool _ : Value)) rfl rfl ?_; (try ((first | refine rl_off rfl ?_ | refine rl_move (v := (Value.slice _ _ _ : Value)) rfl rfl ?_); (try ((first | refine rl_off rfl ?_ | refine rl_build [_, _, (Value.int .i64 0), (Value.int .i64 0)] ag61 pl61 rfl rfl rfl ?_); (try ((first | refine rl_off rfl ?_ | refine rl_build [_, _, (Value.int .i64 0), _] ag61 pl61 rfl rfl rfl ?_); (try ((first | refine rl_off rfl ?_ | refine rl_build [_, _, (Value.int .i64 0), _] ag61 pl61 rfl rfl rfl ?_); (try ((first | refine rl_off rfl ?_ | refine rl_build [_, _, _, _] ag61 pl61 rfl rfl rfl ?_); (try ((first | refine rl_off rfl ?_ | refine rl_build [_, (St []), (Value.int .i64 0), _] ag61 pl61 rfl rfl rfl ?_); (try ((first | refine rl_off rfl ?_ | (refine rl_bsliceM (d := 17) [_, _, _, _, _] hM sl33 rfl rfl rfl rfl rfl (by decide) (by decide) ?_; clear hM; intro w b17 hM))))))))))))))))))))))))) | refine rl_move (v := (Value.tuple _ : Value)) rfl rfl ?_ | refine rl_extract rfl rfl rfl ?_ | (refine rl_allocAM (d := 2) hM ag30 rfl ?_; clear hM; intro w b2 hM) | refine rl_assign (v := (Value.slice _ _ _ : Value)) rfl rfl ?_ | (first | (refine rl_storeWM 0 hM ag30 rfl rfl rfl rfl rfl rfl rfl ?_; clear hM; intro w hM) | (refine rl_storeWM 1 hM ag30 rfl rfl rfl rfl rfl rfl rfl ?_; clear hM; intro w hM) | (refine rl_storeWM 2 hM ag30 rfl rfl rfl rfl rfl rfl rfl ?_; clear hM; intro w hM) | (refine rl_storeWM 3 hM ag30 rfl rfl rfl rfl rfl rfl rfl ?_; clear hM; intro w hM) | (refine rl_storeWM 4 hM ag30 rfl rfl rfl rfl rfl rfl rfl ?_; clear hM; intro w hM) | (refine rl_storeWM 5 hM ag30 rfl rfl rfl rfl rfl rfl rfl ?_; clear hM; intro w hM) | (refine rl_storeWM 6 hM ag30 rfl rfl rfl rfl rfl rfl rfl ?_; clear hM; intro w hM) | (refine rl_storeWM 7 hM ag30 rfl rfl rfl rfl rfl rfl rfl ?_; clear hM; intro w hM))))
    have hM : Mem w0 w (.blk b17 (tkCells exL) 61 :: .blk b2 [Value.int .i64 0, Value.int .i64 0] 30 :: L) V1 := hM
    obtain ⟨V2, hV2, hM2, htk2⟩ := tk_ret hM rfl (by decide)
    clear hM
    refine rl_callf fn14 (same_ok _ _ exL exL w0 w _ V2 hM2 (htk.le hV2) htk2 (by decide) (by decide)) rfl rfl ?_
    clear hM2
    rintro _ w ⟨rfl, hM⟩
    rw [decide_eq_true rfl]
    (repeat (first | refine sq_normal ?_ | refine rl_nil ?_ | refine ret_ ?_ | refine rl_assign (v := (Value.bool _ : Value)) rfl rfl ?_ | refine rl_pick (v := (Value.bool _ : Value)) rfl rfl rfl ?_))
    exact bp_ret1 (v := Value.bool _) rfl rfl ⟨rfl, (hM.le (hV1.trans hV2)).dropn 1⟩
  · cases h
end Go.Proofs.Ytlalagkkmoifpaa.Lex
