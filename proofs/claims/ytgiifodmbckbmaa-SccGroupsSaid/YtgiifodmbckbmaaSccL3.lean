/- The walk of fuguelaw07.SccGroups: it returns true, and nothing that was there has turned. -/
import Derived.Test.YtgiifodmbckbmaaSccP0
set_option linter.unusedVariables false
set_option linter.unusedSimpArgs false
namespace Go.Proofs.Ytgiifodmbckbmaa.Scc
open Go Go.Eng Go.RowKit Go.Scc
attribute [local irreducible] RL RX KQ SQ Exit.inBlock Exit.then BP NP CallsOk IsSl IsRows IsInts IsBools Own Blk Code.wp Calls wpList
set_option maxHeartbeats 4000000 in
theorem law3 (n : Int) (uv : Value) (ls : List (List Int)) (w : World) (hn : I64 n) (hu : IsRows w.cell? uv ls) :
    CallsOk Try.prog 3 #[.int .i64 n, uv] w fun v w' => v = .bool true ∧ Below w.heap.size w w' := by
  have hu0 := hu
  obtain ⟨ua, uc, ub, uo, rfl, hulc, huc, hua, hucell⟩ := hu.open
  refine enter_ (N := 21) Try.func3 rfl rfl rfl ?_
  (repeat (first | refine seq_ ?_ | refine sq_normal ?_ | refine rl_nil ?_ | (refine region_ (id := 0) ?_; (try (refine rl_assign (v := (Value.bool _ : Value)) rfl rfl ?_))) | (refine region_ (id := 1) ?_; (try (refine rl_move (v := (Value.int _ _ : Value)) rfl rfl ?_)))))
  refine rl_callf fn9 (around_ok n 11 w hn.1 hn.2 (by omega) (by omega)) rfl rfl ?_
  rintro _ _ ⟨rfl, rfl⟩
  (repeat (first | refine seq_ ?_ | refine sq_normal ?_ | refine rl_nil ?_ | (refine region_ (id := 2) ?_; (try (refine rl_move (v := (Value.slice _ _ _ : Value)) rfl rfl ?_))) | refine rl_assign (v := (Value.int _ _ : Value)) rfl rfl ?_))
  refine rl_callf fn10 (few_ok _ ls w hu0) rfl rfl ?_
  rintro v1 w1 ⟨hb1, us, bs, b0, hR⟩
  have hr1 := hR.rows
  obtain ⟨va, vc, rfl, _, _, _⟩ := hR.own.shape
  (repeat (first | refine seq_ ?_ | refine sq_normal ?_ | refine rl_nil ?_ | (refine region_ (id := 3) ?_; (try (refine rl_move (v := (Value.int _ _ : Value)) rfl rfl ?_; (try (refine rl_move (v := (Value.slice _ _ _ : Value)) rfl rfl ?_))))) | refine rl_assign (v := (Value.slice _ _ _ : Value)) rfl rfl ?_))
  have hk := around_lt n 11 (by omega)
  refine rl_callf fn12 (groups_ok (around n 11) _ (few ls) w1 (by omega) (by omega) hr1 (few_len ls)) rfl rfl ?_
  rintro v2 w2 ⟨hb2, B2, us2, bs2, b2, hB2, hR2⟩
  have hr2 := hR2.rows
  obtain ⟨va2, vc2, rfl, _, _, _⟩ := hR2.own.shape
  (repeat (first | refine rl_move (v := (Value.int _ _ : Value)) rfl rfl ?_ | refine rl_move (v := (Value.slice _ _ _ : Value)) rfl rfl ?_))
  refine rl_callf fn13 (refgroups_ok (around n 11) _ (few ls) w2 (by omega) (by omega) (hr1.mono (Keeps.of hb2))) rfl rfl ?_
  rintro v3 w3 ⟨hb3, B3, us3, bs3, b3, hB3, hR3⟩
  have hr3 := hR3.rows
  refine rl_callf fn11 (same_ok _ _ _ _ w3 (hr2.mono (Keeps.of hb3)) hr3) rfl rfl ?_
  rintro _ w4 ⟨rfl, hb4⟩
  rw [decide_eq_true rfl]
  (repeat (first | refine rl_move (v := (Value.bool _ : Value)) rfl rfl ?_))
  refine rl_callf fn14 (lives_ok w4) rfl rfl ?_
  rintro _ w5 ⟨rfl, hb5⟩
  (repeat (first | refine sq_normal ?_ | refine rl_nil ?_ | refine ret_ ?_ | refine rl_assign (v := (Value.bool _ : Value)) rfl rfl ?_ | refine rl_pick (v := (Value.bool _ : Value)) rfl rfl rfl ?_))
  refine bp_ret1 (v := Value.bool _) rfl rfl ⟨rfl, ?_⟩
  have a1 := hb1.size; have a2 := hb2.size; have a3 := hb3.size; have a4 := hb4.size
  exact below_ext (below_ext (below_ext (below_ext hb1 hb2 a1) hb3 (by omega)) hb4 (by omega)) hb5 (by omega)
end Go.Proofs.Ytgiifodmbckbmaa.Scc
