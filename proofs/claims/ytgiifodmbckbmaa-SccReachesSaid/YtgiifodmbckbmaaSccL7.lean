/- The walk of fuguelaw07.SccReaches: it returns true, and nothing that was there has turned. -/
import Derived.Test.YtgiifodmbckbmaaSccP0
set_option linter.unusedVariables false
set_option linter.unusedSimpArgs false
namespace Go.Proofs.Ytgiifodmbckbmaa.Scc
open Go Go.Eng Go.RowKit Go.Scc
attribute [local irreducible] RL RX KQ SQ Exit.inBlock Exit.then BP NP CallsOk IsSl IsRows IsInts IsBools Own Blk Code.wp Calls wpList
set_option maxHeartbeats 4000000 in
theorem law7 (n a b : Int) (uv : Value) (ls : List (List Int)) (w : World) (hn : I64 n) (ha : I64 a) (hb : I64 b) (hu : IsRows w.cell? uv ls) :
    CallsOk Try.prog 7 #[.int .i64 n, uv, .int .i64 a, .int .i64 b] w fun v w' => v = .bool true ∧ Below w.heap.size w w' := by
  have hu0 := hu
  obtain ⟨ua, uc, ub, uo, rfl, hulc, huc, hua, hucell⟩ := hu.open
  refine enter_ (N := 48) Try.func7 rfl rfl rfl ?_
  (repeat (first | refine seq_ ?_ | refine sq_normal ?_ | refine rl_nil ?_ | (refine region_ (id := 0) ?_; (try (refine rl_assign (v := (Value.bool _ : Value)) rfl rfl ?_))) | (refine region_ (id := 1) ?_; (try (refine rl_move (v := (Value.int _ _ : Value)) rfl rfl ?_)))))
  refine rl_callf fn9 (around_ok n 11 w hn.1 hn.2 (by omega) (by omega)) rfl rfl ?_
  rintro _ _ ⟨rfl, rfl⟩
  (repeat (first | refine seq_ ?_ | refine sq_normal ?_ | refine rl_nil ?_ | (refine region_ (id := 2) ?_; (try (refine rl_move (v := (Value.slice _ _ _ : Value)) rfl rfl ?_))) | refine rl_assign (v := (Value.int _ _ : Value)) rfl rfl ?_))
  refine rl_callf fn10 (few_ok _ ls w hu0) rfl rfl ?_
  rintro v1 w1 ⟨hb1, us, bs, b0, hR⟩
  have hr1 := hR.rows
  obtain ⟨va, vc, rfl, _, _, _⟩ := hR.own.shape
  (repeat (first | refine seq_ ?_ | refine sq_normal ?_ | refine rl_nil ?_ | (refine region_ (id := 3) ?_; (try (refine rl_move (v := (Value.int _ _ : Value)) rfl rfl ?_))) | refine rl_assign (v := (Value.slice _ _ _ : Value)) rfl rfl ?_))
  refine rl_callf fn9 (around_ok a 11 w1 ha.1 ha.2 (by omega) (by omega)) rfl rfl ?_
  rintro _ _ ⟨rfl, rfl⟩
  (repeat (first | refine seq_ ?_ | refine sq_normal ?_ | refine rl_nil ?_ | (refine region_ (id := 4) ?_; (try (refine rl_move (v := (Value.int _ _ : Value)) rfl rfl ?_))) | refine rl_assign (v := (Value.int _ _ : Value)) rfl rfl ?_))
  refine rl_callf fn9 (around_ok b 11 w1 hb.1 hb.2 (by omega) (by omega)) rfl rfl ?_
  rintro _ _ ⟨rfl, rfl⟩
  (repeat (first | refine seq_ ?_ | refine sq_normal ?_ | refine rl_nil ?_ | (refine region_ (id := 5) ?_; (try (refine rl_move (v := (Value.int _ _ : Value)) rfl rfl ?_; (try (refine rl_move (v := (Value.slice _ _ _ : Value)) rfl rfl ?_; (try (refine rl_move (v := (Value.int _ _ : Value)) rfl rfl ?_; (try (refine rl_move (v := (Value.int _ _ : Value)) rfl rfl ?_))))))))) | refine rl_assign (v := (Value.int _ _ : Value)) rfl rfl ?_))
  have hk := around_lt n 11 (by omega)
  refine rl_callf fn16 (reaches_ok (around n 11) a b _ (few ls) w1 (by omega) hr1 (few_len ls)) rfl rfl ?_
  rintro _ w2 ⟨rfl, hb2⟩
  (repeat (first | refine rl_move (v := (Value.int _ _ : Value)) rfl rfl ?_ | refine rl_move (v := (Value.slice _ _ _ : Value)) rfl rfl ?_))
  refine rl_callf fn17 (leads_ok (around n 11) a b _ (few ls) w2 (by omega) (by omega) (hr1.mono (Keeps.of hb2))) rfl rfl ?_
  rintro _ w3 ⟨rfl, hb3⟩
  refine rl_eqb (a := rB (around n 11) (few ls) a b) (b := rB (around n 11) (few ls) a b) Try.underlying4 rfl rfl rfl ?_
  rw [show (rB (around n 11) (few ls) a b == rB (around n 11) (few ls) a b) = true by simp]
  (repeat (first | refine rl_move (v := (Value.int _ _ : Value)) rfl rfl ?_ | refine rl_move (v := (Value.bool _ : Value)) rfl rfl ?_ | refine rl_move (v := (Value.slice _ _ _ : Value)) rfl rfl ?_))
  have hk3 : Keeps w1 w3 := (Keeps.of hb2).trans (Keeps.of hb3)
  refine rl_callf fn16 (reaches_ok (around n 11) (around a 11) (around b 11) _ (few ls) w3 (by omega) (hr1.mono hk3) (few_len ls)) rfl rfl ?_
  rintro _ w4 ⟨rfl, hb4⟩
  (repeat (first | refine rl_move (v := (Value.int _ _ : Value)) rfl rfl ?_ | refine rl_move (v := (Value.slice _ _ _ : Value)) rfl rfl ?_))
  refine rl_callf fn17 (leads_ok (around n 11) (around a 11) (around b 11) _ (few ls) w4 (by omega) (by omega) (hr1.mono (hk3.trans (Keeps.of hb4)))) rfl rfl ?_
  rintro _ w5 ⟨rfl, hb5⟩
  refine rl_eqb (a := rB (around n 11) (few ls) (around a 11) (around b 11)) (b := rB (around n 11) (few ls) (around a 11) (around b 11)) Try.underlying4 rfl rfl rfl ?_
  rw [show (rB (around n 11) (few ls) (around a 11) (around b 11) == rB (around n 11) (few ls) (around a 11) (around b 11)) = true by simp]
  (repeat (first | refine rl_move (v := (Value.bool _ : Value)) rfl rfl ?_ | refine rl_pick (v := (Value.bool _ : Value)) rfl rfl rfl ?_))
  refine rl_callf fn14 (lives_ok w5) rfl rfl ?_
  rintro _ w6 ⟨rfl, hb6⟩
  (repeat (first | refine sq_normal ?_ | refine rl_nil ?_ | refine ret_ ?_ | refine rl_assign (v := (Value.bool _ : Value)) rfl rfl ?_ | refine rl_pick (v := (Value.bool _ : Value)) rfl rfl rfl ?_))
  refine bp_ret1 (v := Value.bool _) rfl rfl ⟨rfl, ?_⟩
  have a1 := hb1.size; have a2 := hb2.size; have a3 := hb3.size; have a4 := hb4.size; have a5 := hb5.size
  exact below_ext (below_ext (below_ext (below_ext (below_ext hb1 hb2 a1) hb3 (by omega)) hb4 (by omega)) hb5 (by omega)) hb6 (by omega)
end Go.Proofs.Ytgiifodmbckbmaa.Scc
