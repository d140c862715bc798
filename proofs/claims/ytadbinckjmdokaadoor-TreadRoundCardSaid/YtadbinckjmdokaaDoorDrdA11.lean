/- The walks of fugueref01.Around, Short, SameTexts, of fuguelaw02.same. -/
import Derived.Test.YtadbinckjmdokaaDoorTxA
set_option linter.unusedVariables false
set_option linter.unusedSimpArgs false
namespace Go.Proofs.YtadbinckjmdokaaDoor.Trd
open Go Go.Eng Go.RowKit Go.Lx
attribute [local irreducible] RL RX KQ SQ Exit.inBlock Exit.then BP NP CallsOk IsSl IsRows IsInts IsBools Own Blk Code.wp Calls wpList
def around (n m : Int) : Int := (if n < 0 then -(n + 1) else n) % m
theorem around_ok (n m : Int) (w : World) (h1 : -9223372036854775808 ≤ n) (h2 : n ≤ 9223372036854775807) (hm : 0 < m) (hm2 : m ≤ 9223372036854775807) :
    CallsOk Tryd.prog 5 #[.int .i64 n, .int .i64 m] w fun v w' => v = .int .i64 (around n m) ∧ w' = w := by
  refine enter_ (N := 13) Tryd.func5 rfl rfl rfl ?_
  have hM := Mem.init w
  by_cases hn : n < 0
  · (repeat (first | refine seq_ ?_ | refine sq_normal ?_ | refine rl_nil ?_ | refine cond_t rfl ?_ | refine ret_ ?_ | (refine region_ (id := 0) ?_; (try (refine rl_assign (v := (Value.int _ _ : Value)) rfl rfl ?_))) | (refine region_ (id := 1) ?_; (try (refine rl_move (v := (Value.int _ _ : Value)) rfl rfl ?_; (try ((refine rl_lss_t rfl rfl rfl ?_ ?_; omega)))))) | (refine region_ (id := 2) ?_; (try (refine rl_move (v := (Value.int _ _ : Value)) rfl rfl ?_; (try ((refine rl_add rfl rfl rfl ?_ ?_ ?_; omega; omega); (try ((refine rl_neg rfl rfl ?_ ?_ ?_; omega; omega); (try (refine rl_assign (v := (Value.int _ _ : Value)) rfl rfl ?_))))))))) | (refine region_ (id := 3) ?_; (try (refine rl_move (v := (Value.int _ _ : Value)) rfl rfl ?_; (try (refine rl_move (v := (Value.int _ _ : Value)) rfl rfl ?_; (try ((refine rl_rem rfl rfl rfl ?_ ?_ ?_; omega; omega); (try (refine rl_assign (v := (Value.int _ _ : Value)) rfl rfl ?_)))))))))))
    refine bp_ret1 (v := Value.int _ _) rfl rfl ⟨?_, rfl⟩
    unfold around; rw [if_pos hn]
  · (repeat (first | refine seq_ ?_ | refine sq_normal ?_ | refine rl_nil ?_ | refine cond_f rfl ?_ | refine skip_ ?_ | refine ret_ ?_ | (refine region_ (id := 0) ?_; (try (refine rl_assign (v := (Value.int _ _ : Value)) rfl rfl ?_))) | (refine region_ (id := 1) ?_; (try (refine rl_move (v := (Value.int _ _ : Value)) rfl rfl ?_; (try ((refine rl_lss_f rfl rfl rfl ?_ ?_; omega)))))) | (refine region_ (id := 3) ?_; (try (refine rl_move (v := (Value.int _ _ : Value)) rfl rfl ?_; (try (refine rl_move (v := (Value.int _ _ : Value)) rfl rfl ?_; (try ((refine rl_rem rfl rfl rfl ?_ ?_ ?_; omega; omega); (try (refine rl_assign (v := (Value.int _ _ : Value)) rfl rfl ?_)))))))))))
    refine bp_ret1 (v := Value.int _ _) rfl rfl ⟨?_, rfl⟩
    unfold around; rw [if_neg hn]
theorem around_lt (n m : Int) (hm : 0 < m) : 0 ≤ around n m ∧ around n m < m := by
  unfold around
  exact ⟨Int.emod_nonneg _ (by omega), Int.emod_lt_of_pos _ hm⟩
end Go.Proofs.YtadbinckjmdokaaDoor.Trd
