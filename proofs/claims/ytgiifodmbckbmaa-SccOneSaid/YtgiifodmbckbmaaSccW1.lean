/- Walks of fugueref01.Around and others -/
import Derived.Test.YtgiifodmbckbmaaEng7
import Derived.Test.YtgiifodmbckbmaaChecked
set_option linter.unusedVariables false
set_option linter.unusedSimpArgs false
namespace Go.Proofs.Ytgiifodmbckbmaa.Scc
open Go Go.Eng Go.RowKit
attribute [local irreducible] RL RX KQ SQ Exit.inBlock Exit.then BP NP CallsOk IsSl IsRows IsInts IsBools Own Blk Code.wp Calls wpList
theorem sl22 : SlT Try.prog 22 29 1 24 (.slice none 0 0) := ⟨by kernel_rfl, by kernel_rfl⟩
theorem sl29 : SlT Try.prog 29 3 1 8 (.int .i64 0) := ⟨by kernel_rfl, by kernel_rfl⟩
theorem sl33 : SlT Try.prog 33 34 1 24 (.slice none 0 0) := ⟨by kernel_rfl, by kernel_rfl⟩
theorem sl34 : SlT Try.prog 34 4 1 1 (.bool false) := ⟨by kernel_rfl, by kernel_rfl⟩
theorem vt3 : VarT Try.prog 3 := ⟨by kernel_rfl, by kernel_rfl⟩
theorem vt4 : VarT Try.prog 4 := ⟨by kernel_rfl, by kernel_rfl⟩
theorem vt29 : VarT Try.prog 29 := ⟨by kernel_rfl, by kernel_rfl⟩
theorem vt34 : VarT Try.prog 34 := ⟨by kernel_rfl, by kernel_rfl⟩
def around (n m : Int) : Int := (if n < 0 then -(n + 1) else n) % m
theorem around_ok (n m : Int) (w : World) (h1 : -9223372036854775808 ≤ n) (h2 : n ≤ 9223372036854775807) (hm : 0 < m) (hm2 : m ≤ 9223372036854775807) :
    CallsOk Try.prog 9 #[.int .i64 n, .int .i64 m] w fun v w' => v = .int .i64 (around n m) ∧ w = w' := by
  refine enter_ (N := 13) Try.func9 rfl rfl rfl ?_
  by_cases hn : n < 0
  · (repeat (first | refine seq_ ?_ | refine sq_normal ?_ | refine rl_nil ?_ | refine cond_t rfl ?_ | refine ret_ ?_ | (refine region_ (id := 0) ?_; (try (refine rl_assign (v := (Value.int _ _ : Value)) rfl rfl ?_))) | (refine region_ (id := 1) ?_; (try (refine rl_move (v := (Value.int _ _ : Value)) rfl rfl ?_; (try ((first | (refine rl_lss_t rfl rfl rfl ?_ ?_; omega) | (refine rl_lss_f rfl rfl rfl ?_ ?_; omega))))))) | (refine region_ (id := 2) ?_; (try (refine rl_move (v := (Value.int _ _ : Value)) rfl rfl ?_; (try ((refine rl_add rfl rfl rfl ?_ ?_ ?_; omega; omega); (try ((refine rl_neg rfl rfl ?_ ?_ ?_; omega; omega); (try (refine rl_assign (v := (Value.int _ _ : Value)) rfl rfl ?_))))))))) | (refine region_ (id := 3) ?_; (try (refine rl_move (v := (Value.int _ _ : Value)) rfl rfl ?_; (try (refine rl_move (v := (Value.int _ _ : Value)) rfl rfl ?_; (try ((refine rl_rem rfl rfl rfl ?_ ?_ ?_; omega; omega); (try (refine rl_assign (v := (Value.int _ _ : Value)) rfl rfl ?_)))))))))))
    refine bp_ret1 (v := Value.int _ _) rfl rfl ⟨?_, rfl⟩
    unfold around; rw [if_pos hn]
  · (repeat (first | refine seq_ ?_ | refine sq_normal ?_ | refine rl_nil ?_ | refine cond_f rfl ?_ | refine skip_ ?_ | refine ret_ ?_ | (refine region_ (id := 0) ?_; (try (refine rl_assign (v := (Value.int _ _ : Value)) rfl rfl ?_))) | (refine region_ (id := 1) ?_; (try (refine rl_move (v := (Value.int _ _ : Value)) rfl rfl ?_; (try ((first | (refine rl_lss_t rfl rfl rfl ?_ ?_; omega) | (refine rl_lss_f rfl rfl rfl ?_ ?_; omega))))))) | (refine region_ (id := 3) ?_; (try (refine rl_move (v := (Value.int _ _ : Value)) rfl rfl ?_; (try (refine rl_move (v := (Value.int _ _ : Value)) rfl rfl ?_; (try ((refine rl_rem rfl rfl rfl ?_ ?_ ?_; omega; omega); (try (refine rl_assign (v := (Value.int _ _ : Value)) rfl rfl ?_)))))))))))
    refine bp_ret1 (v := Value.int _ _) rfl rfl ⟨?_, rfl⟩
    unfold around; rw [if_neg hn]
end Go.Proofs.Ytgiifodmbckbmaa.Scc
