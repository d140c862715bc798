/- The walks of fugueref01.Around, Short, SameTexts, of fuguelaw02.same. -/
import Derived.Test.YtadbinckjmdokaaTxR
set_option linter.unusedVariables false
set_option linter.unusedSimpArgs false
namespace Go.Proofs.Ytadbinckjmdokaa.Trd
open Go Go.Eng Go.RowKit Go.Lx
attribute [local irreducible] RL RX KQ SQ Exit.inBlock Exit.then BP NP CallsOk IsSl IsRows IsInts IsBools Own Blk Code.wp Calls wpList
def around (n m : Int) : Int := (if n < 0 then -(n + 1) else n) % m
theorem around_ok (n m : Int) (w : World) (h1 : -9223372036854775808 ≤ n) (h2 : n ≤ 9223372036854775807) (hm : 0 < m) (hm2 : m ≤ 9223372036854775807) :
    CallsOk Try.prog 15 #[.int .i64 n, .int .i64 m] w fun v w' => v = .int .i64 (around n m) ∧ w' = w := by
  refine enter_ (N := 13) Try.func15 rfl rfl rfl ?_
  have hM := Mem.init w
  by_cases hn : n < 0
  · (repeat (first | refine seq_ ?_ | refine sq_normal ?_ | refine rl_nil ?_ | refine cond_t rfl ?_ | refine ret_ ?_ | (refine region_ (id := 0) ?_; (try (refine rl_assign (v := (Value.int _ _ : Value)) rfl rfl ?_))) | (refine region_ (id := 1) ?_; (try (refine rl_move (v := (Value.int _ _ : Value)) rfl rfl ?_; (try ((refine rl_lss_t rfl rfl rfl ?_ ?_; omega)))))) | (refine region_ (id := 2) ?_; (try (refine rl_move (v := (Value.int _ _ : Value)) rfl rfl ?_; (try ((refine rl_add rfl rfl rfl ?_ ?_ ?_; omega; omega); (try ((refine rl_neg rfl rfl ?_ ?_ ?_; omega; omega); (try (refine rl_assign (v := (Value.int _ _ : Value)) rfl rfl ?_))))))))) | (refine region_ (id := 3) ?_; (try (refine rl_move (v := (Value.int _ _ : Value)) rfl rfl ?_; (try (refine rl_move (v := (Value.int _ _ : Value)) rfl rfl ?_; (try ((refine rl_rem rfl rfl rfl ?_ ?_ ?_; omega; omega); (try (refine rl_assign (v := (Value.int _ _ : Value)) rfl rfl ?_)))))))))))
    refine bp_ret1 (v := Value.int _ _) rfl rfl ⟨?_, rfl⟩
    unfold around; rw [if_pos hn]
  · (repeat (first | refine seq_ ?_ | refine sq_normal ?_ | refine rl_nil ?_ | refine cond_f rfl ?_ | refine skip_ ?_ | refine ret_ ?_ | (refine region_ (id := 0) ?_; (try (refine rl_assign (v := (Value.int _ _ : Value)) rfl rfl ?_))) | (refine region_ (id := 1) ?_; (try (refine rl_move (v := (Value.int _ _ : Value)) rfl rfl ?_; (try ((refine rl_lss_f rfl rfl rfl ?_ ?_; omega)))))) | (refine region_ (id := 3) ?_; (try (refine rl_move (v := (Value.int _ _ : Value)) rfl rfl ?_; (try (refine rl_move (v := (Value.int _ _ : Value)) rfl rfl ?_; (try ((refine rl_rem rfl rfl rfl ?_ ?_ ?_; omega; omega); (try (refine rl_assign (v := (Value.int _ _ : Value)) rfl rfl ?_)))))))))))
    refine bp_ret1 (v := Value.int _ _) rfl rfl ⟨?_, rfl⟩
    unfold around; rw [if_neg hn]
theorem around_lt (n m : Int) (hm : 0 < m) : 0 ≤ around n m ∧ around n m < m := by
  unfold around
  exact ⟨Int.emod_nonneg _ (by omega), Int.emod_lt_of_pos _ hm⟩
theorem short_ok (l : List UInt8) (m : Int) (w : World) (hm : 0 ≤ m) (hm2 : m ≤ 1000000) (hl : l.length ≤ 9223372036854775807) :
    CallsOk Try.prog 30 #[St l, .int .i64 m] w fun v w' => v = St (l.take m.toNat) ∧ w' = w := by
  refine enter_ (N := 13) Try.func30 rfl rfl rfl ?_
  have hM := Mem.init w
  by_cases hn : m < l.length
  · (repeat (first | refine seq_ ?_ | refine sq_normal ?_ | refine sq_ret ?_ | refine rl_nil ?_ | refine cond_t rfl ?_ | refine ret_ ?_ | (refine region_ (id := 0) ?_; (try (refine rl_assign (v := (Value.string _ : Value)) rfl rfl ?_))) | (refine region_ (id := 1) ?_; (try (refine rl_move (v := (Value.string _ : Value)) rfl rfl ?_; (try (refine rl_slen us9 rfl rfl ?_; (try (refine rl_move (v := (Value.int _ _ : Value)) rfl rfl ?_; (try ((refine rl_gtr_t rfl rfl rfl ?_ ?_; omega)))))))))) | (refine region_ (id := 2) ?_; (try (refine rl_move (v := (Value.string _ : Value)) rfl rfl ?_; (try (refine rl_move (v := (Value.int _ _ : Value)) rfl rfl ?_; (try ((refine rl_sslice_h us9 rfl rfl rfl ?_ ?_ ?_; omega; omega); (try (refine rl_assign (v := (Value.string _ : Value)) rfl rfl ?_)))))))))))
    exact bp_ret1 (v := St _) rfl rfl ⟨rfl, rfl⟩
  · (repeat (first | refine seq_ ?_ | refine sq_normal ?_ | refine rl_nil ?_ | refine cond_f rfl ?_ | refine skip_ ?_ | refine ret_ ?_ | (refine region_ (id := 0) ?_; (try (refine rl_assign (v := (Value.string _ : Value)) rfl rfl ?_))) | (refine region_ (id := 1) ?_; (try (refine rl_move (v := (Value.string _ : Value)) rfl rfl ?_; (try (refine rl_slen us9 rfl rfl ?_; (try (refine rl_move (v := (Value.int _ _ : Value)) rfl rfl ?_; (try ((refine rl_gtr_f rfl rfl rfl ?_ ?_; omega)))))))))) | (refine region_ (id := 3) ?_; (try (refine rl_move (v := (Value.string _ : Value)) rfl rfl ?_; (try (refine rl_assign (v := (Value.string _ : Value)) rfl rfl ?_)))))))
    refine bp_ret1 (v := St _) rfl rfl ⟨?_, rfl⟩
    rw [List.take_of_length_le (by omega)]
end Go.Proofs.Ytadbinckjmdokaa.Trd
