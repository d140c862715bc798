/- The walks of the tests of single bytes, of strings.IndexByte, of names. The walks of names. The walks of lists of texts, of rows of bytes, of numbers. The walks of lex.inName, lex.number. The walk of lex.one. The walk of lex.Lex. -/
import Derived.Test.YtadbinckjmdokaaDoorDrdTy
import Derived.Test.YtadbinckjmdokaaDoorEnC
import Derived.Test.YtadbinckjmdokaaDoorLxA
set_option linter.unusedVariables false
set_option linter.unusedSimpArgs false
namespace Go.Proofs.YtadbinckjmdokaaDoor.Trd
open Go Go.Eng Go.RowKit Go.Lx
attribute [local irreducible] RL RX KQ SQ Exit.inBlock Exit.then BP NP CallsOk IsSl IsRows IsInts IsBools Own Blk Code.wp Calls wpList
theorem cases7 (n : Nat) : n < 48 ∨ (48 ≤ n ∧ n ≤ 57) ∨ (57 < n ∧ n < 65) ∨ (65 ≤ n ∧ n ≤ 90) ∨ (90 < n ∧ n < 97) ∨ (97 ≤ n ∧ n ≤ 122) ∨ 122 < n := by omega
theorem plain_ok (c : UInt8) (w : World) : CallsOk Tryd.prog 78 #[.int .u8 c.toNat] w fun r w' => r = .bool (plain c) ∧ w' = w := by
  refine enter_ (N := 25) Tryd.func78 rfl rfl rfl ?_
  have hM := Mem.init w
  have hp := plain_iff c
  cases h : plain c with
  | true =>
    rw [h] at hp
    rcases hp.1 rfl with h1 | h1 | h1 <;> ((repeat (first | refine seq_ ?_ | refine sq_normal ?_ | refine rl_nil ?_ | refine ret_ ?_ | (refine region_ (id := 0) ?_; (try (refine rl_assign (v := (Value.bool _ : Value)) rfl rfl ?_))) | (refine region_ (id := 1) ?_; (try (refine rl_move (v := (Value.int _ _ : Value)) rfl rfl ?_; (try ((first | (refine rl_kgeq_t rfl rfl rfl ?_ ?_; omega) | (refine rl_kgeq_f rfl rfl rfl ?_ ?_; omega)); (try (refine rl_move (v := (Value.bool _ : Value)) rfl rfl ?_; (try ((first | refine rl_off rfl ?_ | refine rl_move (v := (Value.int _ _ : Value)) rfl rfl ?_); (try ((first | refine rl_off rfl ?_ | (refine rl_kleq_t rfl rfl rfl ?_ ?_; omega)); (try (refine rl_pick (v := (Value.bool _ : Value)) rfl rfl rfl ?_; (try (refine rl_move (v := (Value.bool _ : Value)) rfl rfl ?_; (try ((first | refine rl_off rfl ?_ | refine rl_move (v := (Value.int _ _ : Value)) rfl rfl ?_); (try ((first | refine rl_off rfl ?_ | (refine rl_kgeq_t rfl rfl rfl ?_ ?_; omega) | (refine rl_kgeq_f rfl rfl rfl ?_ ?_; omega)); (try ((first | refine rl_off rfl ?_ | refine rl_move (v := (Value.bool _ : Value)) rfl rfl ?_); (try ((first | refine rl_off rfl ?_ | refine rl_move (v := (Value.int _ _ : Value)) rfl rfl ?_); (try ((first | refine rl_off rfl ?_ | (refine rl_kleq_t rfl rfl rfl ?_ ?_; omega)); (try ((first | refine rl_off rfl ?_ | refine rl_pick (v := (Value.bool _ : Value)) rfl rfl rfl ?_); (try (refine rl_pick (v := (Value.bool _ : Value)) rfl rfl rfl ?_; (try (refine rl_move (v := (Value.bool _ : Value)) rfl rfl ?_; (try ((first | refine rl_off rfl ?_ | refine rl_move (v := (Value.int _ _ : Value)) rfl rfl ?_); (try ((first | refine rl_off rfl ?_ | (refine rl_kgeq_t rfl rfl rfl ?_ ?_; omega)); (try ((first | refine rl_off rfl ?_ | refine rl_move (v := (Value.bool _ : Value)) rfl rfl ?_); (try ((first | refine rl_off rfl ?_ | refine rl_move (v := (Value.int _ _ : Value)) rfl rfl ?_); (try ((first | refine rl_off rfl ?_ | (refine rl_kleq_t rfl rfl rfl ?_ ?_; omega)); (try ((first | refine rl_off rfl ?_ | refine rl_pick (v := (Value.bool _ : Value)) rfl rfl rfl ?_); (try (refine rl_pick (v := (Value.bool _ : Value)) rfl rfl rfl ?_; (try (refine rl_assign (v := (Value.bool _ : Value)) rfl rfl ?_))))))))))))))))))))))))))))))))))))))))))))))))); exact bp_ret1 (v := Value.bool _) rfl rfl ⟨rfl, rfl⟩)
  | false =>
    rw [h] at hp
    have hn : ¬ ((97 ≤ c.toNat ∧ c.toNat ≤ 122) ∨ (65 ≤ c.toNat ∧ c.toNat ≤ 90) ∨ (48 ≤ c.toNat ∧ c.toNat ≤ 57)) := fun h => by cases hp.2 h
    rcases cases7 c.toNat with h1 | h1 | h1 | h1 | h1 | h1 | h1
    · (repeat (first | refine seq_ ?_ | refine sq_normal ?_ | refine rl_nil ?_ | refine ret_ ?_ | (refine region_ (id := 0) ?_; (try (refine rl_assign (v := (Value.bool _ : Value)) rfl rfl ?_))) | (refine region_ (id := 1) ?_; (try (refine rl_move (v := (Value.int _ _ : Value)) rfl rfl ?_; (try ((refine rl_kgeq_f rfl rfl rfl ?_ ?_; omega); (try (refine rl_move (v := (Value.bool _ : Value)) rfl rfl ?_; (try (refine rl_off rfl ?_; (try (refine rl_off rfl ?_; (try (refine rl_pick (v := (Value.bool _ : Value)) rfl rfl rfl ?_; (try (refine rl_move (v := (Value.bool _ : Value)) rfl rfl ?_; (try (refine rl_move (v := (Value.int _ _ : Value)) rfl rfl ?_; (try ((refine rl_kgeq_f rfl rfl rfl ?_ ?_; omega); (try (refine rl_move (v := (Value.bool _ : Value)) rfl rfl ?_; (try (refine rl_off rfl ?_; (try (refine rl_off rfl ?_; (try (refine rl_pick (v := (Value.bool _ : Value)) rfl rfl rfl ?_; (try (refine rl_pick (v := (Value.bool _ : Value)) rfl rfl rfl ?_; (try (refine rl_move (v := (Value.bool _ : Value)) rfl rfl ?_; (try (refine rl_move (v := (Value.int _ _ : Value)) rfl rfl ?_; (try ((refine rl_kgeq_f rfl rfl rfl ?_ ?_; omega); (try (refine rl_move (v := (Value.bool _ : Value)) rfl rfl ?_; (try (refine rl_off rfl ?_; (try (refine rl_off rfl ?_; (try (refine rl_pick (v := (Value.bool _ : Value)) rfl rfl rfl ?_; (try (refine rl_pick (v := (Value.bool _ : Value)) rfl rfl rfl ?_; (try (refine rl_assign (v := (Value.bool _ : Value)) rfl rfl ?_))))))))))))))))))))))))))))))))))))))))))))))))); exact bp_ret1 (v := Value.bool _) rfl rfl ⟨rfl, rfl⟩
    · exact absurd (.inr (.inr h1)) hn
    · (repeat (first | refine seq_ ?_ | refine sq_normal ?_ | refine rl_nil ?_ | refine ret_ ?_ | (refine region_ (id := 0) ?_; (try (refine rl_assign (v := (Value.bool _ : Value)) rfl rfl ?_))) | (refine region_ (id := 1) ?_; (try (refine rl_move (v := (Value.int _ _ : Value)) rfl rfl ?_; (try ((refine rl_kgeq_f rfl rfl rfl ?_ ?_; omega); (try (refine rl_move (v := (Value.bool _ : Value)) rfl rfl ?_; (try (refine rl_off rfl ?_; (try (refine rl_off rfl ?_; (try (refine rl_pick (v := (Value.bool _ : Value)) rfl rfl rfl ?_; (try (refine rl_move (v := (Value.bool _ : Value)) rfl rfl ?_; (try (refine rl_move (v := (Value.int _ _ : Value)) rfl rfl ?_; (try ((refine rl_kgeq_f rfl rfl rfl ?_ ?_; omega); (try (refine rl_move (v := (Value.bool _ : Value)) rfl rfl ?_; (try (refine rl_off rfl ?_; (try (refine rl_off rfl ?_; (try (refine rl_pick (v := (Value.bool _ : Value)) rfl rfl rfl ?_; (try (refine rl_pick (v := (Value.bool _ : Value)) rfl rfl rfl ?_; (try (refine rl_move (v := (Value.bool _ : Value)) rfl rfl ?_; (try (refine rl_move (v := (Value.int _ _ : Value)) rfl rfl ?_; (try ((refine rl_kgeq_t rfl rfl rfl ?_ ?_; omega); (try (refine rl_move (v := (Value.bool _ : Value)) rfl rfl ?_; (try (refine rl_move (v := (Value.int _ _ : Value)) rfl rfl ?_; (try ((refine rl_kleq_f rfl rfl rfl ?_ ?_; omega); (try (refine rl_pick (v := (Value.bool _ : Value)) rfl rfl rfl ?_; (try (refine rl_pick (v := (Value.bool _ : Value)) rfl rfl rfl ?_; (try (refine rl_assign (v := (Value.bool _ : Value)) rfl rfl ?_))))))))))))))))))))))))))))))))))))))))))))))))); exact bp_ret1 (v := Value.bool _) rfl rfl ⟨rfl, rfl⟩
    · exact absurd (.inr (.inl h1)) hn
    · (repeat (first | refine seq_ ?_ | refine sq_normal ?_ | refine rl_nil ?_ | refine ret_ ?_ | (refine region_ (id := 0) ?_; (try (refine rl_assign (v := (Value.bool _ : Value)) rfl rfl ?_))) | (refine region_ (id := 1) ?_; (try (refine rl_move (v := (Value.int _ _ : Value)) rfl rfl ?_; (try ((refine rl_kgeq_f rfl rfl rfl ?_ ?_; omega); (try (refine rl_move (v := (Value.bool _ : Value)) rfl rfl ?_; (try (refine rl_off rfl ?_; (try (refine rl_off rfl ?_; (try (refine rl_pick (v := (Value.bool _ : Value)) rfl rfl rfl ?_; (try (refine rl_move (v := (Value.bool _ : Value)) rfl rfl ?_; (try (refine rl_move (v := (Value.int _ _ : Value)) rfl rfl ?_; (try ((refine rl_kgeq_t rfl rfl rfl ?_ ?_; omega); (try (refine rl_move (v := (Value.bool _ : Value)) rfl rfl ?_; (try (refine rl_move (v := (Value.int _ _ : Value)) rfl rfl ?_; (try ((refine rl_kleq_f rfl rfl rfl ?_ ?_; omega); (try (refine rl_pick (v := (Value.bool _ : Value)) rfl rfl rfl ?_; (try (refine rl_pick (v := (Value.bool _ : Value)) rfl rfl rfl ?_; (try (refine rl_move (v := (Value.bool _ : Value)) rfl rfl ?_; (try (refine rl_move (v := (Value.int _ _ : Value)) rfl rfl ?_; (try ((refine rl_kgeq_t rfl rfl rfl ?_ ?_; omega); (try (refine rl_move (v := (Value.bool _ : Value)) rfl rfl ?_; (try (refine rl_move (v := (Value.int _ _ : Value)) rfl rfl ?_; (try ((refine rl_kleq_f rfl rfl rfl ?_ ?_; omega); (try (refine rl_pick (v := (Value.bool _ : Value)) rfl rfl rfl ?_; (try (refine rl_pick (v := (Value.bool _ : Value)) rfl rfl rfl ?_; (try (refine rl_assign (v := (Value.bool _ : Value)) rfl rfl ?_))))))))))))))))))))))))))))))))))))))))))))))))); exact bp_ret1 (v := Value.bool _) rfl rfl ⟨rfl, rfl⟩
    · exact absurd (.inl h1) hn
    · (repeat (first | refine seq_ ?_ | refine sq_normal ?_ | refine rl_nil ?_ | refine ret_ ?_ | (refine region_ (id := 0) ?_; (try (refine rl_assign (v := (Value.bool _ : Value)) rfl rfl ?_))) | (refine region_ (id := 1) ?_; (try (refine rl_move (v := (Value.int _ _ : Value)) rfl rfl ?_; (try ((refine rl_kgeq_t rfl rfl rfl ?_ ?_; omega); (try (refine rl_move (v := (Value.bool _ : Value)) rfl rfl ?_; (try (refine rl_move (v := (Value.int _ _ : Value)) rfl rfl ?_; (try ((refine rl_kleq_f rfl rfl rfl ?_ ?_; omega); (try (refine rl_pick (v := (Value.bool _ : Value)) rfl rfl rfl ?_; (try (refine rl_move (v := (Value.bool _ : Value)) rfl rfl ?_; (try (refine rl_move (v := (Value.int _ _ : Value)) rfl rfl ?_; (try ((refine rl_kgeq_t rfl rfl rfl ?_ ?_; omega); (try (refine rl_move (v := (Value.bool _ : Value)) rfl rfl ?_; (try (refine rl_move (v := (Value.int _ _ : Value)) rfl rfl ?_; (try ((refine rl_kleq_f rfl rfl rfl ?_ ?_; omega); (try (refine rl_pick (v := (Value.bool _ : Value)) rfl rfl rfl ?_; (try (refine rl_pick (v := (Value.bool _ : Value)) rfl rfl rfl ?_; (try (refine rl_move (v := (Value.bool _ : Value)) rfl rfl ?_; (try (refine rl_move (v := (Value.int _ _ : Value)) rfl rfl ?_; (try ((refine rl_kgeq_t rfl rfl rfl ?_ ?_; omega); (try (refine rl_move (v := (Value.bool _ : Value)) rfl rfl ?_; (try (refine rl_move (v := (Value.int _ _ : Value)) rfl rfl ?_; (try ((refine rl_kleq_f rfl rfl rfl ?_ ?_; omega); (try (refine rl_pick (v := (Value.bool _ : Value)) rfl rfl rfl ?_; (try (refine rl_pick (v := (Value.bool _ : Value)) rfl rfl rfl ?_; (try (refine rl_assign (v := (Value.bool _ : Value)) rfl rfl ?_))))))))))))))))))))))))))))))))))))))))))))))))); exact bp_ret1 (v := Value.bool _) rfl rfl ⟨rfl, rfl⟩
theorem index36_ok (l : List UInt8) (c : UInt8) (w : World) : CallsOk Tryd.prog 57 #[St l, .int .u8 c.toNat] w fun r w' => r = .int .i64 (firstIdx ⟨l.toArray⟩ c) ∧ w' = w := by
  refine enter_ (N := 8) Tryd.func57 rfl rfl rfl ?_
  have hM := Mem.init w
  (repeat (first | refine seq_ ?_ | refine sq_normal ?_ | refine rl_nil ?_ | (refine region_ (id := 0) ?_; (try (refine rl_assign (v := (Value.int _ _ : Value)) rfl rfl ?_))) | (refine region_ (id := 1) ?_; (try (refine rl_move (v := (Value.string _ : Value)) rfl rfl ?_; (try (refine rl_move (v := (Value.int _ _ : Value)) rfl rfl ?_)))))))
  refine rl_indexByte Tryd.func71 (by kernel_rfl) rfl (by kernel_rfl) (by kernel_rfl) rfl rfl rfl ?_
  (repeat (first | refine sq_normal ?_ | refine rl_nil ?_ | refine ret_ ?_ | refine rl_assign (v := (Value.int _ _ : Value)) rfl rfl ?_))
  exact bp_ret1 (v := Value.int _ _) rfl rfl ⟨rfl, rfl⟩
theorem index27_ok (l : List UInt8) (c : UInt8) (w : World) : CallsOk Tryd.prog 44 #[St l, .int .u8 c.toNat] w fun r w' => r = .int .i64 (firstIdx ⟨l.toArray⟩ c) ∧ w' = w := by
  refine enter_ (N := 8) Tryd.func44 rfl rfl rfl ?_
  have hM := Mem.init w
  (repeat (first | refine seq_ ?_ | refine sq_normal ?_ | refine rl_nil ?_ | (refine region_ (id := 0) ?_; (try (refine rl_assign (v := (Value.int _ _ : Value)) rfl rfl ?_))) | (refine region_ (id := 1) ?_; (try (refine rl_move (v := (Value.string _ : Value)) rfl rfl ?_; (try (refine rl_move (v := (Value.int _ _ : Value)) rfl rfl ?_)))))))
  refine rl_callf fn57 (index36_ok l c w) rfl rfl ?_
  rintro _ w ⟨rfl, rfl⟩
  (repeat (first | refine sq_normal ?_ | refine rl_nil ?_ | refine ret_ ?_ | refine rl_assign (v := (Value.int _ _ : Value)) rfl rfl ?_))
  exact bp_ret1 (v := Value.int _ _) rfl rfl ⟨rfl, rfl⟩
theorem first_ok (n r lo hi : Int) (b1 b2 : Nat) (w : World) (h1 : w.cell? ⟨b1, 0, none⟩ = some (.int .i32 lo)) (h2 : w.cell? ⟨b2, 0, none⟩ = some (.int .i32 hi)) :
    CallsOk Tryd.prog 77 #[.int .i64 n, .int .i32 r, .pointer (some ⟨b1, 0, none⟩), .pointer (some ⟨b2, 0, none⟩)] w fun v w' => v = .bool (decide (0 < n) || (decide (lo ≤ r) && decide (r ≤ hi))) ∧ w' = w := by
  refine enter_ (N := 19) Tryd.func77 rfl rfl rfl ?_
  have hM := Mem.init w
  by_cases h0 : 0 < n
  · (repeat (first | refine seq_ ?_ | refine sq_normal ?_ | refine rl_nil ?_ | refine ret_ ?_ | (refine region_ (id := 0) ?_; (try (refine rl_assign (v := (Value.bool _ : Value)) rfl rfl ?_))) | (refine region_ (id := 1) ?_; (try (refine rl_move (v := (Value.int _ _ : Value)) rfl rfl ?_; (try ((refine rl_gtr_t rfl rfl rfl ?_ ?_; omega); (try (refine rl_move (v := (Value.bool _ : Value)) rfl rfl ?_; (try (refine rl_off rfl ?_; (try (refine rl_off rfl ?_; (try (refine rl_off rfl ?_; (try (refine rl_off rfl ?_; (try (refine rl_off rfl ?_; (try (refine rl_off rfl ?_; (try (refine rl_off rfl ?_; (try (refine rl_off rfl ?_; (try (refine rl_pick (v := (Value.bool _ : Value)) rfl rfl rfl ?_; (try (refine rl_assign (v := (Value.bool _ : Value)) rfl rfl ?_)))))))))))))))))))))))))))))
    exact bp_ret1 (v := Value.bool _) rfl rfl ⟨by rw [decide_eq_true h0]; rfl, rfl⟩
  · by_cases h3 : lo ≤ r
    · by_cases h4 : r ≤ hi
      · (repeat (first | refine seq_ ?_ | refine sq_normal ?_ | refine rl_nil ?_ | refine ret_ ?_ | (refine region_ (id := 0) ?_; (try (refine rl_assign (v := (Value.bool _ : Value)) rfl rfl ?_))) | (refine region_ (id := 1) ?_; (try (refine rl_move (v := (Value.int _ _ : Value)) rfl rfl ?_; (try ((refine rl_gtr_f rfl rfl rfl ?_ ?_; omega); (try (refine rl_move (v := (Value.bool _ : Value)) rfl rfl ?_; (try (refine rl_move (v := (Value.int _ _ : Value)) rfl rfl ?_; (try (refine rl_loadV hM vt21 rfl rfl (by first | assumption | exact VRow.get (by assumption) rfl | exact VRow.get0 (by assumption) rfl) ?_; (try ((refine rl_kgeq_t rfl rfl rfl ?_ ?_; omega); (try (refine rl_move (v := (Value.bool _ : Value)) rfl rfl ?_; (try (refine rl_move (v := (Value.int _ _ : Value)) rfl rfl ?_; (try (refine rl_loadV hM vt21 rfl rfl (by first | assumption | exact VRow.get (by assumption) rfl | exact VRow.get0 (by assumption) rfl) ?_; (try ((refine rl_kleq_t rfl rfl rfl ?_ ?_; omega); (try (refine rl_pick (v := (Value.bool _ : Value)) rfl rfl rfl ?_; (try (refine rl_pick (v := (Value.bool _ : Value)) rfl rfl rfl ?_; (try (refine rl_assign (v := (Value.bool _ : Value)) rfl rfl ?_)))))))))))))))))))))))))))))
        exact bp_ret1 (v := Value.bool _) rfl rfl ⟨by rw [decide_eq_false h0, decide_eq_true h3, decide_eq_true h4]; rfl, rfl⟩
      · (repeat (first | refine seq_ ?_ | refine sq_normal ?_ | refine rl_nil ?_ | refine ret_ ?_ | (refine region_ (id := 0) ?_; (try (refine rl_assign (v := (Value.bool _ : Value)) rfl rfl ?_))) | (refine region_ (id := 1) ?_; (try (refine rl_move (v := (Value.int _ _ : Value)) rfl rfl ?_; (try ((refine rl_gtr_f rfl rfl rfl ?_ ?_; omega); (try (refine rl_move (v := (Value.bool _ : Value)) rfl rfl ?_; (try (refine rl_move (v := (Value.int _ _ : Value)) rfl rfl ?_; (try (refine rl_loadV hM vt21 rfl rfl (by first | assumption | exact VRow.get (by assumption) rfl | exact VRow.get0 (by assumption) rfl) ?_; (try ((refine rl_kgeq_t rfl rfl rfl ?_ ?_; omega); (try (refine rl_move (v := (Value.bool _ : Value)) rfl rfl ?_; (try (refine rl_move (v := (Value.int _ _ : Value)) rfl rfl ?_; (try (refine rl_loadV hM vt21 rfl rfl (by first | assumption | exact VRow.get (by assumption) rfl | exact VRow.get0 (by assumption) rfl) ?_; (try ((refine rl_kleq_f rfl rfl rfl ?_ ?_; omega); (try (refine rl_pick (v := (Value.bool _ : Value)) rfl rfl rfl ?_; (try (refine rl_pick (v := (Value.bool _ : Value)) rfl rfl rfl ?_; (try (refine rl_assign (v := (Value.bool _ : Value)) rfl rfl ?_)))))))))))))))))))))))))))))
        exact bp_ret1 (v := Value.bool _) rfl rfl ⟨by rw [decide_eq_false h0, decide_eq_true h3, decide_eq_false h4]; rfl, rfl⟩
    · (repeat (first | refine seq_ ?_ | refine sq_normal ?_ | refine rl_nil ?_ | refine ret_ ?_ | (refine region_ (id := 0) ?_; (try (refine rl_assign (v := (Value.bool _ : Value)) rfl rfl ?_))) | (refine region_ (id := 1) ?_; (try (refine rl_move (v := (Value.int _ _ : Value)) rfl rfl ?_; (try ((refine rl_gtr_f rfl rfl rfl ?_ ?_; omega); (try (refine rl_move (v := (Value.bool _ : Value)) rfl rfl ?_; (try (refine rl_move (v := (Value.int _ _ : Value)) rfl rfl ?_; (try (refine rl_loadV hM vt21 rfl rfl (by first | assumption | exact VRow.get (by assumption) rfl | exact VRow.get0 (by assumption) rfl) ?_; (try ((refine rl_kgeq_f rfl rfl rfl ?_ ?_; omega); (try (refine rl_move (v := (Value.bool _ : Value)) rfl rfl ?_; (try (refine rl_off rfl ?_; (try (refine rl_off rfl ?_; (try (refine rl_off rfl ?_; (try (refine rl_pick (v := (Value.bool _ : Value)) rfl rfl rfl ?_; (try (refine rl_pick (v := (Value.bool _ : Value)) rfl rfl rfl ?_; (try (refine rl_assign (v := (Value.bool _ : Value)) rfl rfl ?_)))))))))))))))))))))))))))))
      exact bp_ret1 (v := Value.bool _) rfl rfl ⟨by rw [decide_eq_false h0, decide_eq_false h3]; rfl, rfl⟩
end Go.Proofs.YtadbinckjmdokaaDoor.Trd
set_option linter.unusedVariables false
set_option linter.unusedSimpArgs false
namespace Go.Proofs.YtadbinckjmdokaaDoor.Trd
open Go Go.Eng Go.RowKit Go.Lx
attribute [local irreducible] RL RX KQ SQ Exit.inBlock Exit.then BP NP CallsOk IsSl IsRows IsInts IsBools Own Blk Code.wp Calls wpList
theorem fst_get {lo hi : Nat} {s : List UInt8} {c : UInt8} (h : s[0]? = some c) : fst lo hi s = (decide (lo ≤ c.toNat) && decide (c.toNat ≤ hi)) := by
  cases s with
  | nil => cases h
  | cons a s => simp at h; subst h; rfl
set_option maxHeartbeats 1000000 in
theorem name_ok (s : List UInt8) (lo hi : Nat) (w0 w : World) (L : List Ent) (V : Vw) (hM : Mem w0 w L V) (hs : s.length ≤ 1000000000) :
    CallsOk Tryd.prog 72 #[St s, .int .i32 lo, .int .i32 hi] w fun r w' => r = .bool (isName lo hi s) ∧ Mem w0 w' L V := by
  refine enter_ (N := 47) Tryd.func72 rfl rfl rfl ?_
  (repeat (first | refine seq_ ?_ | refine sq_normal ?_ | refine rl_nil ?_ | refine block_ ?_ | (refine region_ (id := 0) ?_; (try ((refine rl_boxM (d := 4) hM rfl rfl rfl ?_; clear hM; intro w b4 hM); (try ((refine rl_boxM (d := 5) hM rfl rfl rfl ?_; clear hM; intro w b5 hM); (try (refine rl_assign (v := (Value.bool _ : Value)) rfl rfl ?_))))))) | (refine region_ (id := 1) ?_; (try (refine rl_mkfunc2 (v1 := Value.pointer (some _)) (v2 := Value.pointer (some _)) rfl rfl rfl ?_; (try (refine rl_assign (v := (Value.func _ _ _ : Value)) rfl rfl ?_))))) | (refine region_ (id := 2) ?_; (try (refine rl_move (v := (Value.string _ : Value)) rfl rfl ?_; (try ((refine rl_rangeM (d := 12) hM us9 rfl rfl ?_; clear hM; intro w b12 hM))))))))
  refine loop0 [(6, 7), (8, 10), (13, 40)] (fun m wr => ∃ p : Nat, p ≤ s.length ∧ m = s.length - p ∧ Mem w0 wr (.iter b12 s p :: .blk b5 [.int .i32 hi] 21 :: .blk b4 [.int .i32 lo] 21 :: L) V ∧ (s.take p).all sign = true ∧ (0 < p → fst lo hi s = true)) _
    ⟨0, by omega, rfl, hM, by simp, fun h => absurd h (by omega)⟩ ?_
  clear hM
  rintro m τ w ⟨p, hp, rfl, hM, hall, hfst⟩ K0 hL0
  by_cases hlt : p < s.length
  · obtain ⟨c, hc⟩ : ∃ c, s[p]? = some c := ⟨_, List.getElem?_eq_getElem hlt⟩
    by_cases hc7 : c.toNat < 128
    · (repeat (first | refine seq_ ?_ | (refine region_ (id := 3) ?_)))
      refine rl_nextLo 0 hM rfl rfl rfl hc hc7 ?_
      clear hM
      intro w hM
      (repeat (first | refine seq_ ?_ | refine sq_normal ?_ | refine rl_nil ?_ | refine cond_t rfl ?_ | refine skip_ ?_ | refine block_ ?_ | (refine region_ (id := 4) ?_; (try (refine rl_extract rfl rfl rfl ?_; (try (refine rl_extract rfl rfl rfl ?_; (try (refine rl_assign (v := (Value.int _ _ : Value)) rfl rfl ?_; (try (refine rl_assign (v := (Value.int _ _ : Value)) rfl rfl ?_))))))))) | (refine region_ (id := 5) ?_; (try (refine rl_move (v := (Value.int _ _ : Value)) rfl rfl ?_; (try ((refine rl_kgtr_f rfl rfl rfl ?_ ?_; omega); (try (refine rl_move (v := (Value.bool _ : Value)) rfl rfl ?_; (try (refine rl_move (v := (Value.func _ _ _ : Value)) rfl rfl ?_; (try (refine rl_move (v := (Value.int _ _ : Value)) rfl rfl ?_; (try (refine rl_move (v := (Value.int _ _ : Value)) rfl rfl ?_))))))))))))) | refine rl_extract rfl rfl rfl ?_))
      refine rl_callv fn77 (cap := [_, _]) (first_ok p c.toNat lo hi b4 b5 w (hM.cell (i := 2) rfl rfl) (hM.cell (i := 1) rfl rfl)) rfl rfl rfl ?_
      rintro _ w ⟨rfl, rfl⟩
      have ef : (decide ((0 : Int) < p) || (decide ((lo : Int) ≤ c.toNat) && decide ((c.toNat : Int) ≤ hi))) = (decide (0 < p) || (decide (lo ≤ c.toNat) && decide (c.toNat ≤ hi))) := by
        congr 1
        · exact decide_eq_decide.2 (by omega)
        · congr 1 <;> exact decide_eq_decide.2 (by omega)
      rw [ef]
      have hff : p = 0 → fst lo hi s = (decide (lo ≤ c.toNat) && decide (c.toNat ≤ hi)) := fun h => by subst h; exact fst_get hc
      cases hf : (decide (0 < p) || (decide (lo ≤ c.toNat) && decide (c.toNat ≤ hi))) with
      | false =>
        (repeat (first | refine seq_ ?_ | refine sq_normal ?_ | refine sq_ret ?_ | refine rl_nil ?_ | refine cond_t rfl ?_ | refine ret_ ?_ | refine inBlock_ret ?_ | refine kq_ret ?_ | (refine region_ (id := 6) ?_; (try (refine rl_assign (v := (Value.bool _ : Value)) rfl rfl ?_))) | refine rl_move (v := (Value.bool _ : Value)) rfl rfl ?_ | refine rl_off rfl ?_ | refine rl_not rfl rfl ?_ | refine rl_pick (v := (Value.bool _ : Value)) rfl rfl rfl ?_))
        refine bp_ret1 (v := Value.bool _) rfl rfl ⟨?_, hM.dropn 3⟩
        rw [Bool.or_eq_false_iff, decide_eq_false_iff_not] at hf
        have : fst lo hi s = false := by rw [hff (by omega), hf.2]
        simp [isName, this]
      | true =>
        have hf2 : fst lo hi s = true := by
          by_cases h0 : 0 < p
          · exact hfst h0
          · rw [hff (by omega)]
            rw [decide_eq_false h0] at hf
            exact hf
        (repeat (first | refine rl_move (v := (Value.int _ _ : Value)) rfl rfl ?_ | refine rl_move (v := (Value.bool _ : Value)) rfl rfl ?_ | refine rl_not rfl rfl ?_ | refine rl_pick (v := (Value.bool _ : Value)) rfl rfl rfl ?_ | (refine rl_conv8 (by rw [ui21]; rfl) ui5 rfl rfl ?_ ?_ ?_; omega; omega)))
        refine rl_callf fn78 (plain_ok c w) rfl rfl ?_
        rintro _ w ⟨rfl, rfl⟩
        cases hpl : plain c with
        | true =>
          (repeat (first | refine sq_normal ?_ | refine rl_nil ?_ | refine cond_f rfl ?_ | refine skip_ ?_ | refine inBlock_normal ?_ | refine rl_move (v := (Value.bool _ : Value)) rfl rfl ?_ | refine rl_off rfl ?_ | refine rl_not rfl rfl ?_ | refine rl_pick (v := (Value.bool _ : Value)) rfl rfl rfl ?_))
          refine kq_normal (hL0 (s.length - (p + 1)) _ _ (by omega) (by (repeat (first | with_reducible exact Agree.ov | with_reducible exact Agree.refl _ _ | refine Agree.upd rfl ?_ | refine Agree.ovs rfl ?_))) ⟨p + 1, by omega, rfl, hM, all_take_succ hc hall (by simp [sign, hpl]), fun _ => hf2⟩)
        | false =>
          by_cases h3 : c.toNat = 39
          · (repeat (first | refine sq_normal ?_ | refine rl_nil ?_ | refine cond_f rfl ?_ | refine skip_ ?_ | refine inBlock_normal ?_ | refine rl_move (v := (Value.int _ _ : Value)) rfl rfl ?_ | refine rl_move (v := (Value.bool _ : Value)) rfl rfl ?_ | refine rl_off rfl ?_ | refine rl_not rfl rfl ?_ | refine rl_pick (v := (Value.bool _ : Value)) rfl rfl rfl ?_ | (refine rl_kneq_f rfl rfl rfl ?_ ?_; omega)))
            refine kq_normal (hL0 (s.length - (p + 1)) _ _ (by omega) (by (repeat (first | with_reducible exact Agree.ov | with_reducible exact Agree.refl _ _ | refine Agree.upd rfl ?_ | refine Agree.ovs rfl ?_))) ⟨p + 1, by omega, rfl, hM, all_take_succ hc hall (by simp [sign, h3]), fun _ => hf2⟩)
          · by_cases h4 : c.toNat = 95
            · (repeat (first | refine sq_normal ?_ | refine rl_nil ?_ | refine cond_f rfl ?_ | refine skip_ ?_ | refine inBlock_normal ?_ | refine rl_move (v := (Value.int _ _ : Value)) rfl rfl ?_ | refine rl_move (v := (Value.bool _ : Value)) rfl rfl ?_ | refine rl_not rfl rfl ?_ | refine rl_pick (v := (Value.bool _ : Value)) rfl rfl rfl ?_ | (first | (refine rl_kneq_t rfl rfl rfl ?_ ?_; omega) | (refine rl_kneq_f rfl rfl rfl ?_ ?_; omega))))
              refine kq_normal (hL0 (s.length - (p + 1)) _ _ (by omega) (by (repeat (first | with_reducible exact Agree.ov | with_reducible exact Agree.refl _ _ | refine Agree.upd rfl ?_ | refine Agree.ovs rfl ?_))) ⟨p + 1, by omega, rfl, hM, all_take_succ hc hall (by simp [sign, h4]), fun _ => hf2⟩)
            · (repeat (first | refine seq_ ?_ | refine sq_normal ?_ | refine sq_ret ?_ | refine rl_nil ?_ | refine cond_t rfl ?_ | refine ret_ ?_ | refine inBlock_ret ?_ | refine kq_ret ?_ | (refine region_ (id := 6) ?_; (try (refine rl_assign (v := (Value.bool _ : Value)) rfl rfl ?_))) | refine rl_move (v := (Value.int _ _ : Value)) rfl rfl ?_ | refine rl_move (v := (Value.bool _ : Value)) rfl rfl ?_ | refine rl_not rfl rfl ?_ | refine rl_pick (v := (Value.bool _ : Value)) rfl rfl rfl ?_ | (refine rl_kneq_t rfl rfl rfl ?_ ?_; omega)))
              refine bp_ret1 (v := Value.bool _) rfl rfl ⟨?_, hM.dropn 3⟩
              rw [isName_false hc (by simp [sign, hpl, h3, h4])]
    · (repeat (first | refine seq_ ?_ | (refine region_ (id := 3) ?_)))
      refine rl_nextHi 0 hM rfl rfl rfl hc (by omega) ?_
      clear hM
      intro w q n hn hM
      (repeat (first | refine seq_ ?_ | refine sq_normal ?_ | refine sq_ret ?_ | refine rl_nil ?_ | refine cond_t rfl ?_ | refine skip_ ?_ | refine ret_ ?_ | refine block_ ?_ | refine inBlock_ret ?_ | refine kq_ret ?_ | (refine region_ (id := 4) ?_; (try (refine rl_extract rfl rfl rfl ?_; (try (refine rl_extract rfl rfl rfl ?_; (try (refine rl_assign (v := (Value.int _ _ : Value)) rfl rfl ?_; (try (refine rl_assign (v := (Value.int _ _ : Value)) rfl rfl ?_))))))))) | (refine region_ (id := 5) ?_; (try (refine rl_move (v := (Value.int _ _ : Value)) rfl rfl ?_; (try ((refine rl_kgtr_t rfl rfl rfl ?_ ?_; omega); (try (refine rl_move (v := (Value.bool _ : Value)) rfl rfl ?_; (try (refine rl_off rfl ?_; (try (refine rl_off rfl ?_; (try (refine rl_off rfl ?_))))))))))))) | (refine region_ (id := 6) ?_; (try (refine rl_assign (v := (Value.bool _ : Value)) rfl rfl ?_))) | refine rl_extract rfl rfl rfl ?_ | refine rl_move (v := (Value.bool _ : Value)) rfl rfl ?_ | refine rl_off rfl ?_ | refine rl_pick (v := (Value.bool _ : Value)) rfl rfl rfl ?_))
      refine bp_ret1 (v := Value.bool _) rfl rfl ⟨?_, hM.dropn 3⟩
      cases hsg : sign c with
      | false => rw [isName_false hc hsg]
      | true => exact absurd (sign_lt hsg) hc7
  · have hpe : p = s.length := by omega
    subst hpe
    rw [List.take_length] at hall
    (repeat (first | refine seq_ ?_ | (refine region_ (id := 3) ?_)))
    refine rl_nextE 0 hM rfl rfl rfl (by omega) ?_
    by_cases h0 : s = []
    · subst h0
      (repeat (first | refine seq_ ?_ | refine sq_normal ?_ | refine sq_exit ?_ | refine rl_nil ?_ | refine cond_f rfl ?_ | refine ret_ ?_ | refine exit_ ?_ | refine inBlock_exit ?_ | refine kq_exit ?_ | (refine region_ (id := 7) ?_; (try (refine rl_move (v := (Value.string _ : Value)) rfl rfl ?_; (try (refine rl_sneq_f rfl rfl rfl (by first | rfl | assumption) ?_; (try (refine rl_move (v := (Value.bool _ : Value)) rfl rfl ?_; (try (refine rl_off rfl ?_; (try (refine rl_off rfl ?_; (try (refine rl_off rfl ?_; (try (refine rl_pick (v := (Value.bool _ : Value)) rfl rfl rfl ?_; (try (refine rl_assign (v := (Value.bool _ : Value)) rfl rfl ?_))))))))))))))))) | refine rl_extract rfl rfl rfl ?_))
      exact bp_ret1 (v := Value.bool _) rfl rfl ⟨rfl, hM.dropn 3⟩
    · have hf2 := hfst (List.length_pos_iff.2 h0)
      by_cases h32 : s.length ≤ 32
      · (repeat (first | refine seq_ ?_ | refine sq_normal ?_ | refine sq_exit ?_ | refine rl_nil ?_ | refine cond_f rfl ?_ | refine ret_ ?_ | refine exit_ ?_ | refine inBlock_exit ?_ | refine kq_exit ?_ | (refine region_ (id := 7) ?_; (try (refine rl_move (v := (Value.string _ : Value)) rfl rfl ?_; (try (refine rl_sneq_t rfl rfl rfl (by first | assumption | decide) ?_; (try (refine rl_move (v := (Value.bool _ : Value)) rfl rfl ?_; (try (refine rl_move (v := (Value.string _ : Value)) rfl rfl ?_; (try (refine rl_slen us9 rfl rfl ?_; (try ((refine rl_leq_t rfl rfl rfl ?_ ?_; omega); (try (refine rl_pick (v := (Value.bool _ : Value)) rfl rfl rfl ?_; (try (refine rl_assign (v := (Value.bool _ : Value)) rfl rfl ?_))))))))))))))))) | refine rl_extract rfl rfl rfl ?_))
        refine bp_ret1 (v := Value.bool _) rfl rfl ⟨?_, hM.dropn 3⟩
        rw [isName_iff.2 ⟨h0, h32, hall, hf2⟩]
      · (repeat (first | refine seq_ ?_ | refine sq_normal ?_ | refine sq_exit ?_ | refine rl_nil ?_ | refine cond_f rfl ?_ | refine ret_ ?_ | refine exit_ ?_ | refine inBlock_exit ?_ | refine kq_exit ?_ | (refine region_ (id := 7) ?_; (try (refine rl_move (v := (Value.string _ : Value)) rfl rfl ?_; (try (refine rl_sneq_t rfl rfl rfl (by first | assumption | decide) ?_; (try (refine rl_move (v := (Value.bool _ : Value)) rfl rfl ?_; (try (refine rl_move (v := (Value.string _ : Value)) rfl rfl ?_; (try (refine rl_slen us9 rfl rfl ?_; (try ((refine rl_leq_f rfl rfl rfl ?_ ?_; omega); (try (refine rl_pick (v := (Value.bool _ : Value)) rfl rfl rfl ?_; (try (refine rl_assign (v := (Value.bool _ : Value)) rfl rfl ?_))))))))))))))))) | refine rl_extract rfl rfl rfl ?_))
        refine bp_ret1 (v := Value.bool _) rfl rfl ⟨?_, hM.dropn 3⟩
        simp [isName, h32]
theorem lower_ok (s : List UInt8) (w0 w : World) (L : List Ent) (V : Vw) (hM : Mem w0 w L V) (hs : s.length ≤ 1000000000) :
    CallsOk Tryd.prog 61 #[St s] w fun r w' => r = .bool (isName 97 122 s) ∧ Mem w0 w' L V := by
  refine enter_ (N := 5) Tryd.func61 rfl rfl rfl ?_
  (repeat (first | refine seq_ ?_ | refine sq_normal ?_ | refine rl_nil ?_ | (refine region_ (id := 0) ?_; (try (refine rl_assign (v := (Value.bool _ : Value)) rfl rfl ?_))) | (refine region_ (id := 1) ?_; (try (refine rl_move (v := (Value.string _ : Value)) rfl rfl ?_)))))
  refine rl_callf fn72 (name_ok s 97 122 w0 w _ V hM hs) rfl rfl ?_
  clear hM
  rintro _ w ⟨rfl, hM⟩
  (repeat (first | refine sq_normal ?_ | refine rl_nil ?_ | refine ret_ ?_ | refine rl_assign (v := (Value.bool _ : Value)) rfl rfl ?_))
  exact bp_ret1 (v := Value.bool _) rfl rfl ⟨rfl, hM⟩
theorem upper_ok (s : List UInt8) (w0 w : World) (L : List Ent) (V : Vw) (hM : Mem w0 w L V) (hs : s.length ≤ 1000000000) :
    CallsOk Tryd.prog 62 #[St s] w fun r w' => r = .bool (isName 65 90 s) ∧ Mem w0 w' L V := by
  refine enter_ (N := 5) Tryd.func62 rfl rfl rfl ?_
  (repeat (first | refine seq_ ?_ | refine sq_normal ?_ | refine rl_nil ?_ | (refine region_ (id := 0) ?_; (try (refine rl_assign (v := (Value.bool _ : Value)) rfl rfl ?_))) | (refine region_ (id := 1) ?_; (try (refine rl_move (v := (Value.string _ : Value)) rfl rfl ?_)))))
  refine rl_callf fn72 (name_ok s 65 90 w0 w _ V hM hs) rfl rfl ?_
  clear hM
  rintro _ w ⟨rfl, hM⟩
  (repeat (first | refine sq_normal ?_ | refine rl_nil ?_ | refine ret_ ?_ | refine rl_assign (v := (Value.bool _ : Value)) rfl rfl ?_))
  exact bp_ret1 (v := Value.bool _) rfl rfl ⟨rfl, hM⟩
end Go.Proofs.YtadbinckjmdokaaDoor.Trd
set_option linter.unusedVariables false
set_option linter.unusedSimpArgs false
namespace Go.Proofs.YtadbinckjmdokaaDoor.Trd
open Go Go.Eng Go.RowKit Go.Lx
attribute [local irreducible] RL RX KQ SQ Exit.inBlock Exit.then BP NP CallsOk IsSl IsRows IsInts IsBools Own Blk Code.wp Calls wpList
/-- A new list of texts. -/
def TsPost (w0 : World) (L : List Ent) (V : Vw) (l : List (List UInt8)) (r : Value) (w' : World) : Prop := ∃ V', VLe V V' ∧ Mem w0 w' L V' ∧ IsTs V' r l
theorem ts_ret {w0 w : World} {L : List Ent} {V : Vw} {b n : Nat} {t : TypeId} {l : List (List UInt8)} (hM : Mem w0 w (.blk b (l.map St) t :: L) V) (hn : l.length = n) (hl : n ≤ 1000) : TsPost w0 L V l (.slice (some ⟨b, 0, none⟩) n n) w := by
  obtain ⟨V', hV, hM', hc⟩ := hM.freezeBlk
  subst hn
  exact ⟨V', hV, hM', isTs_of rfl (Nat.le_refl _) (by unfold maxLen; omega) (fun _ => rfl) (fun i u hu => by rw [Nat.zero_add]; exact hc i u hu)⟩
theorem keys_ok (w0 w : World) (L : List Ent) (V : Vw) (hM : Mem w0 w L V) : CallsOk Tryd.prog 64 #[] w (TsPost w0 L V keys) := by
  refine enter_ (N := 2) Tryd.func64 rfl rfl rfl ?_
  (repeat (first | refine seq_ ?_ | refine sq_normal ?_ | refine rl_nil ?_ | refine ret_ ?_ | (refine region_ (id := 0) ?_; (try (refine rl_assign (v := (Value.slice _ _ _ : Value)) rfl rfl ?_))) | (refine region_ (id := 1) ?_; (try ((refine rl_bsliceM (d := 1) [_, _, _, _, _, _, _] hM sl28 rfl rfl rfl rfl rfl (by decide) (by decide) ?_; clear hM; intro w b1 hM); (try (refine rl_assign (v := (Value.slice _ _ _ : Value)) rfl rfl ?_)))))))
  exact bp_ret1 (v := Value.slice _ _ _) rfl rfl (ts_ret (l := keys) hM rfl (by omega))
theorem symbols_ok (w0 w : World) (L : List Ent) (V : Vw) (hM : Mem w0 w L V) : CallsOk Tryd.prog 65 #[] w (TsPost w0 L V syms) := by
  refine enter_ (N := 2) Tryd.func65 rfl rfl rfl ?_
  (repeat (first | refine seq_ ?_ | refine sq_normal ?_ | refine rl_nil ?_ | refine ret_ ?_ | (refine region_ (id := 0) ?_; (try (refine rl_assign (v := (Value.slice _ _ _ : Value)) rfl rfl ?_))) | (refine region_ (id := 1) ?_; (try ((refine rl_bsliceM (d := 1) [_, _, _, _, _, _, _, _, _, _, _, _, _] hM sl28 rfl rfl rfl rfl rfl (by decide) (by decide) ?_; clear hM; intro w b1 hM); (try (refine rl_assign (v := (Value.slice _ _ _ : Value)) rfl rfl ?_)))))))
  exact bp_ret1 (v := Value.slice _ _ _) rfl rfl (ts_ret (l := syms) hM rfl (by omega))
theorem has_ok (v : Value) (ts : List (List UInt8)) (s : List UInt8) (w : World) (hv : IsTs w.cell? v ts) (hl : ts.length ≤ 100000000) : CallsOk Tryd.prog 11 #[v, St s] w fun r w' => r = .bool (decide (s ∈ ts)) ∧ w' = w := by
  obtain ⟨a, c, b, off, rfl, h1, h2, h3, h4⟩ := hv.open'
  have hml := maxLen_le
  refine enter_ (N := 18) Tryd.func11 rfl rfl rfl ?_
  have hM := Mem.init w
  (repeat (first | refine seq_ ?_ | refine sq_normal ?_ | refine rl_nil ?_ | refine block_ ?_ | (refine region_ (id := 0) ?_; (try (refine rl_assign (v := (Value.bool _ : Value)) rfl rfl ?_))) | (refine region_ (id := 1) ?_; (try (refine rl_assign (v := (Value.int _ _ : Value)) rfl rfl ?_)))))
  refine loop1 [(4, 18)] 5 (fun m v wr => ∃ p : Nat, v = .int .i64 p ∧ p ≤ ts.length ∧ m = ts.length - p ∧ wr = w ∧ s ∉ ts.take p) _
    ⟨0, rfl, by omega, rfl, rfl, by simp⟩ ?_
  rintro m τ v w' ⟨p, rfl, hp, rfl, hw, hall⟩ K0 hL0
  subst hw
  by_cases hlt : p < ts.length
  · obtain ⟨x, hx⟩ : ∃ x, ts[p]? = some x := ⟨_, List.getElem?_eq_getElem hlt⟩
    have hu := h4 p x hx
    have h3' := h3 (by omega)
    subst h3'
    by_cases he : x = s
    · (repeat (first | refine seq_ ?_ | refine sq_normal ?_ | refine sq_ret ?_ | refine rl_nil ?_ | refine cond_t rfl ?_ | refine skip_ ?_ | refine ret_ ?_ | refine block_ ?_ | refine inBlock_ret ?_ | refine kq_ret ?_ | (refine region_ (id := 2) ?_; (try (refine rl_move (v := (Value.int _ _ : Value)) rfl rfl ?_; (try (refine rl_move (v := (Value.slice _ _ _ : Value)) rfl rfl ?_; (try (refine rl_len sl28 rfl rfl ?_; (try ((refine rl_lss_t rfl rfl rfl ?_ ?_; omega)))))))))) | (refine region_ (id := 4) ?_; (try (refine rl_move (v := (Value.slice _ _ _ : Value)) rfl rfl ?_; (try (refine rl_move (v := (Value.int _ _ : Value)) rfl rfl ?_; (try ((refine rl_idx1 sl28 rfl rfl rfl rfl ?_ ?_ ?_; omega; omega); (try (refine rl_loadV hM vt9 rfl rfl (by first | assumption | exact VRow.get (by assumption) rfl | exact VRow.get0 (by assumption) rfl) ?_; (try (refine rl_move (v := (Value.string _ : Value)) rfl rfl ?_; (try (refine rl_seql_t rfl rfl rfl (by first | rfl | assumption) ?_))))))))))))) | (refine region_ (id := 5) ?_; (try (refine rl_assign (v := (Value.bool _ : Value)) rfl rfl ?_)))))
      refine bp_ret1 (v := Value.bool _) rfl rfl ⟨?_, rfl⟩
      rw [decide_eq_true (he ▸ List.mem_of_getElem? hx)]
    · (repeat (first | refine seq_ ?_ | refine sq_normal ?_ | refine rl_nil ?_ | refine cond_t rfl ?_ | refine cond_f rfl ?_ | refine skip_ ?_ | refine block_ ?_ | refine inBlock_normal ?_ | (refine region_ (id := 2) ?_; (try (refine rl_move (v := (Value.int _ _ : Value)) rfl rfl ?_; (try (refine rl_move (v := (Value.slice _ _ _ : Value)) rfl rfl ?_; (try (refine rl_len sl28 rfl rfl ?_; (try ((refine rl_lss_t rfl rfl rfl ?_ ?_; omega)))))))))) | (refine region_ (id := 3) ?_; (try (refine rl_move (v := (Value.int _ _ : Value)) rfl rfl ?_; (try ((refine rl_add rfl rfl rfl ?_ ?_ ?_; omega; omega); (try (refine rl_assign (v := (Value.int _ _ : Value)) rfl rfl ?_))))))) | (refine region_ (id := 4) ?_; (try (refine rl_move (v := (Value.slice _ _ _ : Value)) rfl rfl ?_; (try (refine rl_move (v := (Value.int _ _ : Value)) rfl rfl ?_; (try ((refine rl_idx1 sl28 rfl rfl rfl rfl ?_ ?_ ?_; omega; omega); (try (refine rl_loadV hM vt9 rfl rfl (by first | assumption | exact VRow.get (by assumption) rfl | exact VRow.get0 (by assumption) rfl) ?_; (try (refine rl_move (v := (Value.string _ : Value)) rfl rfl ?_; (try (refine rl_seql_f rfl rfl rfl (by first | assumption | decide) ?_)))))))))))))))
      refine kq_normal (hL0 (ts.length - (p + 1)) _ _ (by omega) (by (repeat (first | with_reducible exact Agree.ov | with_reducible exact Agree.refl _ _ | refine Agree.upd rfl ?_ | refine Agree.ovs rfl ?_))) ⟨p + 1, rfl, by omega, rfl, rfl, ?_⟩)
      rw [List.take_add_one, hx]
      simp [hall, Ne.symm he]
  · have hpe : p = ts.length := by omega
    subst hpe
    rw [List.take_length] at hall
    (repeat (first | refine seq_ ?_ | refine sq_normal ?_ | refine sq_exit ?_ | refine rl_nil ?_ | refine cond_f rfl ?_ | refine ret_ ?_ | refine exit_ ?_ | refine inBlock_exit ?_ | refine kq_exit ?_ | (refine region_ (id := 2) ?_; (try (refine rl_move (v := (Value.int _ _ : Value)) rfl rfl ?_; (try (refine rl_move (v := (Value.slice _ _ _ : Value)) rfl rfl ?_; (try (refine rl_len sl28 rfl rfl ?_; (try ((refine rl_lss_f rfl rfl rfl ?_ ?_; omega)))))))))) | (refine region_ (id := 6) ?_; (try (refine rl_assign (v := (Value.bool _ : Value)) rfl rfl ?_)))))
    refine bp_ret1 (v := Value.bool _) rfl rfl ⟨?_, rfl⟩
    rw [decide_eq_false hall]
theorem sindex_ok (v : Value) (ts : List (List UInt8)) (s : List UInt8) (w : World) (hv : IsTs w.cell? v ts) (hl : ts.length ≤ 100000000) : CallsOk Tryd.prog 38 #[v, St s] w fun r w' => ∃ z : Int, r = .int .i64 z ∧ -1 ≤ z ∧ (0 ≤ z ↔ s ∈ ts) ∧ w' = w := by
  obtain ⟨a, c, b, off, rfl, h1, h2, h3, h4⟩ := hv.open'
  have hml := maxLen_le
  refine enter_ (N := 19) Tryd.func38 rfl rfl rfl ?_
  have hM := Mem.init w
  (repeat (first | refine seq_ ?_ | refine sq_normal ?_ | refine rl_nil ?_ | refine block_ ?_ | (refine region_ (id := 0) ?_; (try (refine rl_assign (v := (Value.int _ _ : Value)) rfl rfl ?_))) | (refine region_ (id := 1) ?_; (try (refine rl_move (v := (Value.slice _ _ _ : Value)) rfl rfl ?_; (try (refine rl_len sl28 rfl rfl ?_; (try (refine rl_move (v := (Value.int _ _ : Value)) rfl rfl ?_)))))))))
  refine loop1 [(4, 6), (8, 19)] 8 (fun m v wr => ∃ p : Nat, v = .int .i64 p ∧ p ≤ ts.length ∧ m = ts.length - p ∧ wr = w ∧ s ∉ ts.take p) _
    ⟨0, rfl, by omega, rfl, rfl, by simp⟩ ?_
  rintro m τ v w' ⟨p, rfl, hp, rfl, hw, hall⟩ K0 hL0
  subst hw
  by_cases hlt : p < ts.length
  · obtain ⟨x, hx⟩ : ∃ x, ts[p]? = some x := ⟨_, List.getElem?_eq_getElem hlt⟩
    have hu := h4 p x hx
    have h3' := h3 (by omega)
    subst h3'
    by_cases he : s = x
    · (repeat (first | refine seq_ ?_ | refine sq_normal ?_ | refine sq_ret ?_ | refine rl_nil ?_ | refine cond_t rfl ?_ | refine skip_ ?_ | refine ret_ ?_ | refine block_ ?_ | refine inBlock_ret ?_ | refine kq_ret ?_ | (refine region_ (id := 2) ?_; (try ((refine rl_lss_t rfl rfl rfl ?_ ?_; omega)))) | (refine region_ (id := 3) ?_; (try (refine rl_move (v := (Value.int _ _ : Value)) rfl rfl ?_; (try (refine rl_assign (v := (Value.int _ _ : Value)) rfl rfl ?_))))) | (refine region_ (id := 4) ?_; (try (refine rl_move (v := (Value.string _ : Value)) rfl rfl ?_; (try (refine rl_move (v := (Value.slice _ _ _ : Value)) rfl rfl ?_; (try (refine rl_move (v := (Value.int _ _ : Value)) rfl rfl ?_; (try ((refine rl_idx1 sl28 rfl rfl rfl rfl ?_ ?_ ?_; omega; omega); (try (refine rl_loadV hM vt9 rfl rfl (by first | assumption | exact VRow.get (by assumption) rfl | exact VRow.get0 (by assumption) rfl) ?_; (try (refine rl_seql_t rfl rfl rfl (by first | rfl | assumption) ?_))))))))))))) | (refine region_ (id := 5) ?_; (try (refine rl_move (v := (Value.int _ _ : Value)) rfl rfl ?_; (try (refine rl_assign (v := (Value.int _ _ : Value)) rfl rfl ?_)))))))
      refine bp_ret1 (v := Value.int _ _) rfl rfl ⟨p, rfl, by omega, ?_, rfl⟩
      have := List.mem_of_getElem? hx
      simp [he, this]
    · (repeat (first | refine seq_ ?_ | refine sq_normal ?_ | refine rl_nil ?_ | refine cond_t rfl ?_ | refine cond_f rfl ?_ | refine skip_ ?_ | refine block_ ?_ | refine inBlock_normal ?_ | (refine region_ (id := 2) ?_; (try ((refine rl_lss_t rfl rfl rfl ?_ ?_; omega)))) | (refine region_ (id := 3) ?_; (try (refine rl_move (v := (Value.int _ _ : Value)) rfl rfl ?_; (try (refine rl_assign (v := (Value.int _ _ : Value)) rfl rfl ?_))))) | (refine region_ (id := 4) ?_; (try (refine rl_move (v := (Value.string _ : Value)) rfl rfl ?_; (try (refine rl_move (v := (Value.slice _ _ _ : Value)) rfl rfl ?_; (try (refine rl_move (v := (Value.int _ _ : Value)) rfl rfl ?_; (try ((refine rl_idx1 sl28 rfl rfl rfl rfl ?_ ?_ ?_; omega; omega); (try (refine rl_loadV hM vt9 rfl rfl (by first | assumption | exact VRow.get (by assumption) rfl | exact VRow.get0 (by assumption) rfl) ?_; (try (refine rl_seql_f rfl rfl rfl (by first | assumption | decide) ?_))))))))))))) | (refine region_ (id := 6) ?_; (try ((refine rl_add rfl rfl rfl ?_ ?_ ?_; omega; omega); (try (refine rl_move (v := (Value.int _ _ : Value)) rfl rfl ?_)))))))
      refine kq_normal (hL0 (ts.length - (p + 1)) _ _ (by omega) (by (repeat (first | with_reducible exact Agree.ov | with_reducible exact Agree.refl _ _ | refine Agree.upd rfl ?_ | refine Agree.ovs rfl ?_))) ⟨p + 1, rfl, by omega, rfl, rfl, ?_⟩)
      rw [List.take_add_one, hx]
      simp [hall, he]
  · have hpe : p = ts.length := by omega
    subst hpe
    rw [List.take_length] at hall
    (repeat (first | refine seq_ ?_ | refine sq_normal ?_ | refine sq_exit ?_ | refine rl_nil ?_ | refine cond_f rfl ?_ | refine ret_ ?_ | refine exit_ ?_ | refine inBlock_exit ?_ | refine kq_exit ?_ | (refine region_ (id := 2) ?_; (try ((refine rl_lss_f rfl rfl rfl ?_ ?_; omega)))) | (refine region_ (id := 7) ?_; (try (refine rl_assign (v := (Value.int _ _ : Value)) rfl rfl ?_)))))
    exact bp_ret1 (v := Value.int _ _) rfl rfl ⟨-1, rfl, by omega, by simp [hall], rfl⟩
theorem contains_ok (v : Value) (ts : List (List UInt8)) (s : List UInt8) (w : World) (hv : IsTs w.cell? v ts) (hl : ts.length ≤ 100000000) : CallsOk Tryd.prog 22 #[v, St s] w fun r w' => r = .bool (decide (s ∈ ts)) ∧ w' = w := by
  obtain ⟨_, _, _, _, rfl, _⟩ := hv.open'
  refine enter_ (N := 9) Tryd.func22 rfl rfl rfl ?_
  have hM := Mem.init w
  (repeat (first | refine seq_ ?_ | refine sq_normal ?_ | refine rl_nil ?_ | (refine region_ (id := 0) ?_; (try (refine rl_assign (v := (Value.bool _ : Value)) rfl rfl ?_))) | (refine region_ (id := 1) ?_; (try (refine rl_move (v := (Value.slice _ _ _ : Value)) rfl rfl ?_; (try (refine rl_move (v := (Value.string _ : Value)) rfl rfl ?_)))))))
  refine rl_callf fn38 (sindex_ok _ ts s w hv hl) rfl rfl ?_
  rintro _ w' ⟨z, rfl, hz1, hz2, rfl⟩
  by_cases h : s ∈ ts
  · have hz := hz2.2 h
    (repeat (first | refine sq_normal ?_ | refine rl_nil ?_ | refine ret_ ?_ | refine rl_assign (v := (Value.bool _ : Value)) rfl rfl ?_ | (refine rl_geq_t rfl rfl rfl ?_ ?_; omega)))
    exact bp_ret1 (v := Value.bool _) rfl rfl ⟨by rw [decide_eq_true h], rfl⟩
  · have hz : z < 0 := by
      rcases Int.lt_or_le z 0 with h' | h'
      · exact h'
      · exact absurd (hz2.1 h') h
    (repeat (first | refine sq_normal ?_ | refine rl_nil ?_ | refine ret_ ?_ | refine rl_assign (v := (Value.bool _ : Value)) rfl rfl ?_ | (refine rl_geq_f rfl rfl rfl ?_ ?_; omega)))
    exact bp_ret1 (v := Value.bool _) rfl rfl ⟨by rw [decide_eq_false h], rfl⟩
theorem hasPrefix37_ok (s p : List UInt8) (w : World) (hs : s.length ≤ 1000000000) (hp : p.length ≤ 1000000000) :
    CallsOk Tryd.prog 58 #[St s, St p] w fun r w' => r = .bool (isPre s p) ∧ w' = w := by
  refine enter_ (N := 18) Tryd.func58 rfl rfl rfl ?_
  have hM := Mem.init w
  by_cases h1 : (p.length : Int) ≤ s.length
  · by_cases h2 : s.take p.length = p
    · have h2' : s.take (p.length : Int).toNat = p := h2
      (repeat (first | refine seq_ ?_ | refine sq_normal ?_ | refine rl_nil ?_ | refine ret_ ?_ | (refine region_ (id := 0) ?_; (try (refine rl_assign (v := (Value.bool _ : Value)) rfl rfl ?_))) | (refine region_ (id := 1) ?_; (try (refine rl_move (v := (Value.string _ : Value)) rfl rfl ?_; (try (refine rl_slen us9 rfl rfl ?_; (try (refine rl_move (v := (Value.string _ : Value)) rfl rfl ?_; (try (refine rl_slen us9 rfl rfl ?_; (try ((refine rl_geq_t rfl rfl rfl ?_ ?_; omega); (try (refine rl_move (v := (Value.bool _ : Value)) rfl rfl ?_; (try (refine rl_move (v := (Value.string _ : Value)) rfl rfl ?_; (try (refine rl_move (v := (Value.string _ : Value)) rfl rfl ?_; (try (refine rl_slen us9 rfl rfl ?_; (try ((refine rl_sslice_h us9 rfl rfl rfl ?_ ?_ ?_; omega; omega); (try (refine rl_move (v := (Value.string _ : Value)) rfl rfl ?_; (try (refine rl_seql_t rfl rfl rfl (by first | rfl | assumption) ?_; (try (refine rl_pick (v := (Value.bool _ : Value)) rfl rfl rfl ?_; (try (refine rl_assign (v := (Value.bool _ : Value)) rfl rfl ?_)))))))))))))))))))))))))))))))
      exact bp_ret1 (v := Value.bool _) rfl rfl ⟨by rw [isPre, decide_eq_true h2], rfl⟩
    · have h2' : s.take (p.length : Int).toNat ≠ p := h2
      (repeat (first | refine seq_ ?_ | refine sq_normal ?_ | refine rl_nil ?_ | refine ret_ ?_ | (refine region_ (id := 0) ?_; (try (refine rl_assign (v := (Value.bool _ : Value)) rfl rfl ?_))) | (refine region_ (id := 1) ?_; (try (refine rl_move (v := (Value.string _ : Value)) rfl rfl ?_; (try (refine rl_slen us9 rfl rfl ?_; (try (refine rl_move (v := (Value.string _ : Value)) rfl rfl ?_; (try (refine rl_slen us9 rfl rfl ?_; (try ((refine rl_geq_t rfl rfl rfl ?_ ?_; omega); (try (refine rl_move (v := (Value.bool _ : Value)) rfl rfl ?_; (try (refine rl_move (v := (Value.string _ : Value)) rfl rfl ?_; (try (refine rl_move (v := (Value.string _ : Value)) rfl rfl ?_; (try (refine rl_slen us9 rfl rfl ?_; (try ((refine rl_sslice_h us9 rfl rfl rfl ?_ ?_ ?_; omega; omega); (try (refine rl_move (v := (Value.string _ : Value)) rfl rfl ?_; (try (refine rl_seql_f rfl rfl rfl (by first | assumption | decide) ?_; (try (refine rl_pick (v := (Value.bool _ : Value)) rfl rfl rfl ?_; (try (refine rl_assign (v := (Value.bool _ : Value)) rfl rfl ?_)))))))))))))))))))))))))))))))
      exact bp_ret1 (v := Value.bool _) rfl rfl ⟨by rw [isPre, decide_eq_false h2], rfl⟩
  · have h2 : s.take p.length ≠ p := fun h => by
      have := congrArg List.length h
      rw [List.length_take] at this
      omega
    (repeat (first | refine seq_ ?_ | refine sq_normal ?_ | refine rl_nil ?_ | refine ret_ ?_ | (refine region_ (id := 0) ?_; (try (refine rl_assign (v := (Value.bool _ : Value)) rfl rfl ?_))) | (refine region_ (id := 1) ?_; (try (refine rl_move (v := (Value.string _ : Value)) rfl rfl ?_; (try (refine rl_slen us9 rfl rfl ?_; (try (refine rl_move (v := (Value.string _ : Value)) rfl rfl ?_; (try (refine rl_slen us9 rfl rfl ?_; (try ((refine rl_geq_f rfl rfl rfl ?_ ?_; omega); (try (refine rl_move (v := (Value.bool _ : Value)) rfl rfl ?_; (try (refine rl_off rfl ?_; (try (refine rl_off rfl ?_; (try (refine rl_off rfl ?_; (try (refine rl_off rfl ?_; (try (refine rl_off rfl ?_; (try (refine rl_off rfl ?_; (try (refine rl_pick (v := (Value.bool _ : Value)) rfl rfl rfl ?_; (try (refine rl_assign (v := (Value.bool _ : Value)) rfl rfl ?_)))))))))))))))))))))))))))))))
    exact bp_ret1 (v := Value.bool _) rfl rfl ⟨by rw [isPre, decide_eq_false h2], rfl⟩
theorem hasPrefix_ok (s p : List UInt8) (w : World) (hs : s.length ≤ 1000000000) (hp : p.length ≤ 1000000000) :
    CallsOk Tryd.prog 45 #[St s, St p] w fun r w' => r = .bool (isPre s p) ∧ w' = w := by
  refine enter_ (N := 8) Tryd.func45 rfl rfl rfl ?_
  have hM := Mem.init w
  (repeat (first | refine seq_ ?_ | refine sq_normal ?_ | refine rl_nil ?_ | (refine region_ (id := 0) ?_; (try (refine rl_assign (v := (Value.bool _ : Value)) rfl rfl ?_))) | (refine region_ (id := 1) ?_; (try (refine rl_move (v := (Value.string _ : Value)) rfl rfl ?_; (try (refine rl_move (v := (Value.string _ : Value)) rfl rfl ?_)))))))
  refine rl_callf fn58 (hasPrefix37_ok s p w hs hp) rfl rfl ?_
  rintro _ w ⟨rfl, rfl⟩
  (repeat (first | refine sq_normal ?_ | refine rl_nil ?_ | refine ret_ ?_ | refine rl_assign (v := (Value.bool _ : Value)) rfl rfl ?_))
  exact bp_ret1 (v := Value.bool _) rfl rfl ⟨rfl, rfl⟩
/-- A closure that tells of each byte whether it is such. -/
def Tells (f : Nat) (p : UInt8 → Bool) : Prop := ∀ (c : UInt8) (w0 w : World) (L : List Ent) (V : Vw), Mem w0 w L V → CallsOk Tryd.prog f #[.int .u8 c.toNat] w fun r w' => r = .bool (p c) ∧ Mem w0 w' L V
theorem mem_digits (c : UInt8) : c ∈ [(48 : UInt8), 49, 50, 51, 52, 53, 54, 55, 56, 57] ↔ dig c = true := by
  constructor
  · intro h
    simp only [List.mem_cons, List.not_mem_nil, or_false] at h
    rcases h with rfl | rfl | rfl | rfl | rfl | rfl | rfl | rfl | rfl | rfl <;> rfl
  · intro h
    simp only [dig, Bool.and_eq_true, decide_eq_true_eq] at h
    have : ∀ d : UInt8, c.toNat = d.toNat → c = d := fun d h => UInt8.toNat_inj.1 h
    have h2 : c.toNat = 48 ∨ c.toNat = 49 ∨ c.toNat = 50 ∨ c.toNat = 51 ∨ c.toNat = 52 ∨ c.toNat = 53 ∨ c.toNat = 54 ∨ c.toNat = 55 ∨ c.toNat = 56 ∨ c.toNat = 57 := by omega
    rcases h2 with h | h | h | h | h | h | h | h | h | h
    · rw [this 48 h]; simp
    · rw [this 49 h]; simp
    · rw [this 50 h]; simp
    · rw [this 51 h]; simp
    · rw [this 52 h]; simp
    · rw [this 53 h]; simp
    · rw [this 54 h]; simp
    · rw [this 55 h]; simp
    · rw [this 56 h]; simp
    · rw [this 57 h]; simp
theorem isDigit_ok : Tells 59 dig := by
  intro c w0 w L V hM
  refine enter_ (N := 6) Tryd.func59 rfl rfl rfl ?_
  (repeat (first | refine seq_ ?_ | refine sq_normal ?_ | refine rl_nil ?_ | (refine region_ (id := 0) ?_; (try (refine rl_assign (v := (Value.bool _ : Value)) rfl rfl ?_))) | (refine region_ (id := 1) ?_; (try (refine rl_move (v := (Value.int _ _ : Value)) rfl rfl ?_)))))
  refine rl_callf fn44 (index27_ok [48, 49, 50, 51, 52, 53, 54, 55, 56, 57] c w) rfl rfl ?_
  rintro _ w ⟨rfl, rfl⟩
  rcases firstIdx_nn [48, 49, 50, 51, 52, 53, 54, 55, 56, 57] c with ⟨h1, h2⟩ | ⟨h1, h2, h3⟩
  · rw [h1]
    rw [mem_digits, Bool.not_eq_true] at h2
    (repeat (first | refine sq_normal ?_ | refine rl_nil ?_ | refine ret_ ?_ | refine rl_assign (v := (Value.bool _ : Value)) rfl rfl ?_ | (refine rl_geq_f rfl rfl rfl ?_ ?_; omega)))
    exact bp_ret1 (v := Value.bool _) rfl rfl ⟨by rw [h2], hM⟩
  · rw [mem_digits] at h3
    (repeat (first | refine sq_normal ?_ | refine rl_nil ?_ | refine ret_ ?_ | refine rl_assign (v := (Value.bool _ : Value)) rfl rfl ?_ | (refine rl_geq_t rfl rfl rfl ?_ ?_; omega)))
    exact bp_ret1 (v := Value.bool _) rfl rfl ⟨by rw [h3], hM⟩
theorem isNoNl_ok : Tells 47 noNl := by
  intro c w0 w L V hM
  refine enter_ (N := 5) Tryd.func47 rfl rfl rfl ?_
  by_cases h : c.toNat = 10
  · (repeat (first | refine seq_ ?_ | refine sq_normal ?_ | refine rl_nil ?_ | refine ret_ ?_ | (refine region_ (id := 0) ?_; (try (refine rl_assign (v := (Value.bool _ : Value)) rfl rfl ?_))) | (refine region_ (id := 1) ?_; (try (refine rl_move (v := (Value.int _ _ : Value)) rfl rfl ?_; (try ((refine rl_kneq_f rfl rfl rfl ?_ ?_; omega); (try (refine rl_assign (v := (Value.bool _ : Value)) rfl rfl ?_)))))))))
    exact bp_ret1 (v := Value.bool _) rfl rfl ⟨by simp [noNl, h], hM⟩
  · (repeat (first | refine seq_ ?_ | refine sq_normal ?_ | refine rl_nil ?_ | refine ret_ ?_ | (refine region_ (id := 0) ?_; (try (refine rl_assign (v := (Value.bool _ : Value)) rfl rfl ?_))) | (refine region_ (id := 1) ?_; (try (refine rl_move (v := (Value.int _ _ : Value)) rfl rfl ?_; (try ((refine rl_kneq_t rfl rfl rfl ?_ ?_; omega); (try (refine rl_assign (v := (Value.bool _ : Value)) rfl rfl ?_)))))))))
    exact bp_ret1 (v := Value.bool _) rfl rfl ⟨by simp [noNl, h], hM⟩
theorem tw_take {s : List UInt8} {p : UInt8 → Bool} {n : Nat} (h : (s.take n).all p = true) (hn : n ≤ s.length) (hc : ∀ c, s[n]? = some c → p c = false) : (s.takeWhile p).length = n := by
  have e : s.takeWhile p = s.take n := by
    conv => lhs; rw [← List.take_append_drop n s]
    rw [List.takeWhile_append_of_pos (by rw [List.all_eq_true] at h; exact h)]
    cases hd : s.drop n with
    | nil => simp
    | cons a r =>
      have : s[n]? = some a := by
        have := congrArg List.head? hd
        rw [List.head?_drop] at this
        exact this
      rw [List.takeWhile_cons, hc a this]
      simp
  rw [e, List.length_take]
  omega
theorem while_ok (f : Nat) (p : UInt8 → Bool) (hf : Tells f p) (hfn : FnT Tryd.prog f) (s : List UInt8) (w0 w : World) (L : List Ent) (V : Vw) (hM : Mem w0 w L V) (hs : s.length ≤ 1000000000) :
    CallsOk Tryd.prog 46 #[St s, .func (.func f) #[] #[]] w fun r w' => r = .int .i64 (s.takeWhile p).length ∧ Mem w0 w' L V := by
  refine enter_ (N := 20) Tryd.func46 rfl rfl rfl ?_
  (repeat (first | refine seq_ ?_ | refine sq_normal ?_ | refine rl_nil ?_ | refine block_ ?_ | (refine region_ (id := 0) ?_; (try (refine rl_assign (v := (Value.int _ _ : Value)) rfl rfl ?_))) | (refine region_ (id := 1) ?_; (try (refine rl_assign (v := (Value.int _ _ : Value)) rfl rfl ?_)))))
  refine loop1 [(5, 19)] 5 (fun m v wr => ∃ n : Nat, v = .int .i64 n ∧ n ≤ s.length ∧ m = s.length - n ∧ Mem w0 wr L V ∧ (s.take n).all p = true) _
    ⟨0, rfl, by omega, rfl, hM, by simp⟩ ?_
  clear hM
  rintro m τ v w ⟨n, rfl, hn, rfl, hM, hall⟩ K0 hL0
  by_cases hlt : n < s.length
  · obtain ⟨c, hc⟩ : ∃ c, s[n]? = some c := ⟨_, List.getElem?_eq_getElem hlt⟩
    (repeat (first | refine seq_ ?_ | (refine region_ (id := 2) ?_; (try (refine rl_move (v := (Value.int _ _ : Value)) rfl rfl ?_; (try (refine rl_move (v := (Value.string _ : Value)) rfl rfl ?_; (try (refine rl_slen us9 rfl rfl ?_; (try ((refine rl_lss_t rfl rfl rfl ?_ ?_; omega); (try (refine rl_move (v := (Value.bool _ : Value)) rfl rfl ?_; (try (refine rl_move (v := (Value.func _ _ _ : Value)) rfl rfl ?_; (try (refine rl_move (v := (Value.string _ : Value)) rfl rfl ?_; (try (refine rl_move (v := (Value.int _ _ : Value)) rfl rfl ?_; (try (refine rl_sindex us9 rfl rfl rfl (by omega) (by assumption) ?_)))))))))))))))))))))
    refine rl_callv hfn (cap := []) (hf c w0 w L V hM) rfl rfl rfl ?_
    clear hM
    rintro _ w ⟨rfl, hM⟩
    cases hp : p c with
    | true =>
      (repeat (first | refine sq_normal ?_ | refine rl_nil ?_ | refine cond_t rfl ?_ | refine skip_ ?_ | refine block_ ?_ | refine inBlock_normal ?_ | (refine region_ (id := 3) ?_; (try (refine rl_move (v := (Value.int _ _ : Value)) rfl rfl ?_; (try ((refine rl_add rfl rfl rfl ?_ ?_ ?_; omega; omega); (try (refine rl_assign (v := (Value.int _ _ : Value)) rfl rfl ?_))))))) | refine rl_pick (v := (Value.bool _ : Value)) rfl rfl rfl ?_))
      refine kq_normal (hL0 (s.length - (n + 1)) _ _ (by omega) (by (repeat (first | with_reducible exact Agree.ov | with_reducible exact Agree.refl _ _ | refine Agree.upd rfl ?_ | refine Agree.ovs rfl ?_))) ⟨n + 1, rfl, by omega, rfl, hM, all_take_succ hc hall hp⟩)
    | false =>
      (repeat (first | refine seq_ ?_ | refine sq_normal ?_ | refine sq_exit ?_ | refine rl_nil ?_ | refine cond_f rfl ?_ | refine ret_ ?_ | refine exit_ ?_ | refine inBlock_exit ?_ | refine kq_exit ?_ | (refine region_ (id := 4) ?_; (try (refine rl_move (v := (Value.int _ _ : Value)) rfl rfl ?_; (try (refine rl_assign (v := (Value.int _ _ : Value)) rfl rfl ?_))))) | refine rl_pick (v := (Value.bool _ : Value)) rfl rfl rfl ?_))
      refine bp_ret1 (v := Value.int _ _) rfl rfl ⟨?_, hM⟩
      rw [tw_take hall hn (fun c' hc' => by rw [hc] at hc'; cases hc'; exact hp)]
  · (repeat (first | refine seq_ ?_ | refine sq_normal ?_ | refine sq_exit ?_ | refine rl_nil ?_ | refine cond_f rfl ?_ | refine ret_ ?_ | refine exit_ ?_ | refine inBlock_exit ?_ | refine kq_exit ?_ | (refine region_ (id := 2) ?_; (try (refine rl_move (v := (Value.int _ _ : Value)) rfl rfl ?_; (try (refine rl_move (v := (Value.string _ : Value)) rfl rfl ?_; (try (refine rl_slen us9 rfl rfl ?_; (try ((refine rl_lss_f rfl rfl rfl ?_ ?_; omega); (try (refine rl_move (v := (Value.bool _ : Value)) rfl rfl ?_; (try (refine rl_off rfl ?_; (try (refine rl_off rfl ?_; (try (refine rl_off rfl ?_; (try (refine rl_off rfl ?_))))))))))))))))))) | (refine region_ (id := 4) ?_; (try (refine rl_move (v := (Value.int _ _ : Value)) rfl rfl ?_; (try (refine rl_assign (v := (Value.int _ _ : Value)) rfl rfl ?_))))) | refine rl_off rfl ?_ | refine rl_pick (v := (Value.bool _ : Value)) rfl rfl rfl ?_))
    refine bp_ret1 (v := Value.int _ _) rfl rfl ⟨?_, hM⟩
    rw [tw_take hall hn (fun c' hc' => absurd (List.getElem?_eq_some_iff.1 hc').1 hlt)]
end Go.Proofs.YtadbinckjmdokaaDoor.Trd
set_option linter.unusedVariables false
set_option linter.unusedSimpArgs false
namespace Go.Proofs.YtadbinckjmdokaaDoor.Trd
open Go Go.Eng Go.RowKit Go.Lx
attribute [local irreducible] RL RX KQ SQ Exit.inBlock Exit.then BP NP CallsOk IsSl IsRows IsInts IsBools Own Blk Code.wp Calls wpList
theorem mem_signs (c : UInt8) : c ∈ [(48 : UInt8), 49, 50, 51, 52, 53, 54, 55, 56, 57, 39, 95] ↔ dig c = true ∨ c.toNat = 39 ∨ c.toNat = 95 := by
  rw [show [(48 : UInt8), 49, 50, 51, 52, 53, 54, 55, 56, 57, 39, 95] = [48, 49, 50, 51, 52, 53, 54, 55, 56, 57] ++ [39, 95] from rfl, List.mem_append, mem_digits]
  have h1 : c = 39 ↔ c.toNat = 39 := ⟨fun h => by rw [h]; rfl, fun h => UInt8.toNat_inj.1 h⟩
  have h2 : c = 95 ↔ c.toNat = 95 := ⟨fun h => by rw [h]; rfl, fun h => UInt8.toNat_inj.1 h⟩
  simp only [List.mem_cons, List.not_mem_nil, or_false, h1, h2]
set_option maxRecDepth 4000 in
theorem inName_ok : Tells 63 sign := by
  intro c w0 w L V hM
  refine enter_ (N := 16) Tryd.func63 rfl rfl rfl ?_
  have hl := enc_len c
  (repeat (first | refine seq_ ?_ | refine sq_normal ?_ | refine rl_nil ?_ | (refine region_ (id := 0) ?_; (try (refine rl_assign (v := (Value.bool _ : Value)) rfl rfl ?_))) | (refine region_ (id := 1) ?_; (try (refine rl_move (v := (Value.int _ _ : Value)) rfl rfl ?_; (try (refine rl_convS ui5 us9 rfl rfl (by first | exact Lx.enc_eq _ | assumption) ?_)))))))
  refine rl_callf fn61 (lower_ok (enc c) w0 w L V hM (by omega)) rfl rfl ?_
  clear hM
  rintro _ w ⟨rfl, hM⟩
  rw [isLow_enc]
  cases h1 : low c with
  | true =>
    (repeat (first | refine sq_normal ?_ | refine rl_nil ?_ | refine ret_ ?_ | refine rl_assign (v := (Value.bool _ : Value)) rfl rfl ?_ | refine rl_move (v := (Value.bool _ : Value)) rfl rfl ?_ | refine rl_off rfl ?_ | refine rl_pick (v := (Value.bool _ : Value)) rfl rfl rfl ?_))
    exact bp_ret1 (v := Value.bool _) rfl rfl ⟨by simp [sign, plain, h1], hM⟩
  | false =>
    (repeat (first | refine rl_move (v := (Value.int _ _ : Value)) rfl rfl ?_ | refine rl_convS ui5 us9 rfl rfl (by first | exact Lx.enc_eq _ | assumption) ?_ | refine rl_move (v := (Value.bool _ : Value)) rfl rfl ?_))
    refine rl_callf fn62 (upper_ok (enc c) w0 w L V hM (by omega)) rfl rfl ?_
    clear hM
    rintro _ w ⟨rfl, hM⟩
    rw [isUpp_enc]
    cases h2 : upp c with
    | true =>
      (repeat (first | refine sq_normal ?_ | refine rl_nil ?_ | refine ret_ ?_ | refine rl_assign (v := (Value.bool _ : Value)) rfl rfl ?_ | refine rl_move (v := (Value.bool _ : Value)) rfl rfl ?_ | refine rl_off rfl ?_ | refine rl_pick (v := (Value.bool _ : Value)) rfl rfl rfl ?_))
      exact bp_ret1 (v := Value.bool _) rfl rfl ⟨by simp [sign, plain, h1, h2], hM⟩
    | false =>
      (repeat (first | refine rl_move (v := (Value.int _ _ : Value)) rfl rfl ?_ | refine rl_move (v := (Value.bool _ : Value)) rfl rfl ?_ | refine rl_pick (v := (Value.bool _ : Value)) rfl rfl rfl ?_))
      refine rl_callf fn44 (index27_ok [48, 49, 50, 51, 52, 53, 54, 55, 56, 57, 39, 95] c w) rfl rfl ?_
      rintro _ w ⟨rfl, rfl⟩
      rcases firstIdx_nn [48, 49, 50, 51, 52, 53, 54, 55, 56, 57, 39, 95] c with ⟨h3, h4⟩ | ⟨h3, h4, h5⟩
      · rw [h3]
        rw [mem_signs, not_or, not_or, Bool.not_eq_true] at h4
        (repeat (first | refine sq_normal ?_ | refine rl_nil ?_ | refine ret_ ?_ | refine rl_assign (v := (Value.bool _ : Value)) rfl rfl ?_ | refine rl_pick (v := (Value.bool _ : Value)) rfl rfl rfl ?_ | (refine rl_geq_f rfl rfl rfl ?_ ?_; omega)))
        exact bp_ret1 (v := Value.bool _) rfl rfl ⟨by simp [sign, plain, h1, h2, h4], hM⟩
      · rw [mem_signs] at h5
        (repeat (first | refine sq_normal ?_ | refine rl_nil ?_ | refine ret_ ?_ | refine rl_assign (v := (Value.bool _ : Value)) rfl rfl ?_ | refine rl_pick (v := (Value.bool _ : Value)) rfl rfl rfl ?_ | (refine rl_geq_t rfl rfl rfl ?_ ?_; omega)))
        refine bp_ret1 (v := Value.bool _) rfl rfl ⟨?_, hM⟩
        rcases h5 with h | h | h <;> simp [sign, plain, h1, h2, h]
theorem number_ok (s : List UInt8) (w : World) (hs : s.length ≤ 1000000000) (hd : s.all dig = true) :
    CallsOk Tryd.prog 60 #[St s] w fun r w' => r = .int .i64 (min (val s : Int) 2147483648) ∧ w' = w := by
  refine enter_ (N := 21) Tryd.func60 rfl rfl rfl ?_
  have hM := Mem.init w
  (repeat (first | refine seq_ ?_ | refine sq_normal ?_ | refine rl_nil ?_ | refine block_ ?_ | (refine region_ (id := 0) ?_; (try (refine rl_assign (v := (Value.int _ _ : Value)) rfl rfl ?_))) | (refine region_ (id := 1) ?_; (try (refine rl_assign (v := (Value.int _ _ : Value)) rfl rfl ?_))) | (refine region_ (id := 2) ?_; (try (refine rl_move (v := (Value.string _ : Value)) rfl rfl ?_; (try (refine rl_slen us9 rfl rfl ?_; (try (refine rl_move (v := (Value.int _ _ : Value)) rfl rfl ?_)))))))))
  refine loop2 [(3, 5), (7, 20)] 3 7 (fun m v3 v7 wr => ∃ (z : Int) (p : Nat), v3 = .int .i64 z ∧ v7 = .int .i64 p ∧ p ≤ s.length ∧ m = s.length - p ∧ wr = w ∧ z = min (val (s.take p) : Int) 2147483648 ∧ 0 ≤ z ∧ z ≤ 2147483648) _
    ⟨0, 0, rfl, rfl, by omega, rfl, rfl, by rfl, by omega, by omega⟩ ?_
  rintro m τ v3 v7 w' ⟨z, p, rfl, rfl, hp, rfl, hw, hz, hz0, hz1⟩ K0 hL0
  subst hw
  by_cases hlt : p < s.length
  · obtain ⟨c, hc⟩ : ∃ c, s[p]? = some c := ⟨_, List.getElem?_eq_getElem hlt⟩
    have hdc : dig c = true := by
      rw [List.all_eq_true] at hd
      exact hd c (List.mem_of_getElem? hc)
    simp only [dig, Bool.and_eq_true, decide_eq_true_eq] at hdc
    obtain ⟨hd1, hd2⟩ := hdc
    (repeat (first | refine seq_ ?_ | refine sq_normal ?_ | refine rl_nil ?_ | refine cond_t rfl ?_ | refine skip_ ?_ | refine block_ ?_ | refine inBlock_normal ?_ | (refine region_ (id := 3) ?_; (try ((refine rl_lss_t rfl rfl rfl ?_ ?_; omega)))) | (refine region_ (id := 4) ?_; (try (refine rl_move (v := (Value.int _ _ : Value)) rfl rfl ?_; (try (refine rl_assign (v := (Value.int _ _ : Value)) rfl rfl ?_))))) | (refine region_ (id := 5) ?_; (try (refine rl_move (v := (Value.int _ _ : Value)) rfl rfl ?_; (try ((refine rl_mul rfl rfl rfl ?_ ?_ ?_; omega; omega); (try (refine rl_move (v := (Value.string _ : Value)) rfl rfl ?_; (try (refine rl_move (v := (Value.int _ _ : Value)) rfl rfl ?_; (try (refine rl_sindex us9 rfl rfl rfl (by omega) (by assumption) ?_; (try ((refine rl_usub rfl rfl rfl ?_ ?_ ?_; omega; omega); (try ((refine rl_conv64 (by rw [ui5]; rfl) ui3 rfl rfl ?_ ?_ ?_; omega; omega); (try ((refine rl_add rfl rfl rfl ?_ ?_ ?_; omega; omega); (try (refine rl_min rfl rfl rfl ?_; (try (refine rl_assign (v := (Value.int _ _ : Value)) rfl rfl ?_))))))))))))))))))))) | (refine region_ (id := 6) ?_; (try ((refine rl_add rfl rfl rfl ?_ ?_ ?_; omega; omega); (try (refine rl_move (v := (Value.int _ _ : Value)) rfl rfl ?_)))))))
    refine kq_normal (hL0 (s.length - (p + 1)) _ _ (by omega) (by (repeat (first | with_reducible exact Agree.ov | with_reducible exact Agree.refl _ _ | refine Agree.upd rfl ?_ | refine Agree.ovs rfl ?_))) ⟨_, p + 1, rfl, rfl, by omega, rfl, rfl, ?_, by omega, by omega⟩)
    rw [List.take_add_one, hc]
    have := val_snoc (s.take p) c
    simp only [Option.toList_some]
    rw [this]
    omega
  · have hpe : p = s.length := by omega
    subst hpe
    rw [List.take_length] at hz
    (repeat (first | refine seq_ ?_ | refine sq_normal ?_ | refine sq_exit ?_ | refine rl_nil ?_ | refine cond_f rfl ?_ | refine ret_ ?_ | refine exit_ ?_ | refine inBlock_exit ?_ | refine kq_exit ?_ | (refine region_ (id := 3) ?_; (try ((refine rl_lss_f rfl rfl rfl ?_ ?_; omega)))) | (refine region_ (id := 7) ?_; (try (refine rl_move (v := (Value.int _ _ : Value)) rfl rfl ?_; (try (refine rl_assign (v := (Value.int _ _ : Value)) rfl rfl ?_)))))))
    exact bp_ret1 (v := Value.int _ _) rfl rfl ⟨by rw [hz], rfl⟩
end Go.Proofs.YtadbinckjmdokaaDoor.Trd
set_option linter.unusedVariables false
set_option linter.unusedSimpArgs false
namespace Go.Proofs.YtadbinckjmdokaaDoor.Trd
open Go Go.Eng Go.RowKit Go.Lx
attribute [local irreducible] RL RX KQ SQ Exit.inBlock Exit.then BP NP CallsOk IsSl IsRows IsInts IsBools Own Blk Code.wp Calls wpList
def OneP (w0 : World) (L : List Ent) (V : Vw) (s : List UInt8) (r : Value) (w' : World) : Prop :=
  ∃ t e, r = .tuple #[.agg (tokCells t).toArray, .int .i64 e] ∧ Mem w0 w' L V ∧ ((one s = .ok t ∧ e = 0) ∨ (one s = .error e ∧ e ≠ 0))
theorem take_tw {s : List UInt8} {p : UInt8 → Bool} : s.take ((s.takeWhile p).length : Int).toNat = s.takeWhile p := by
  rw [Int.toNat_natCast]
  exact (List.prefix_iff_eq_take.1 (List.takeWhile_prefix p)).symm
theorem tw_all {s : List UInt8} {p : UInt8 → Bool} : (s.takeWhile p).all p = true := by
  induction s with
  | nil => rfl
  | cons c s ih =>
    rw [List.takeWhile_cons]
    split
    · rename_i h
      rw [List.all_cons, h, ih]; rfl
    · rfl
theorem isLow_one (c : UInt8) : isName 97 122 [c] = low c := by
  have e : isName 97 122 [c] = (sign c && low c) := by simp [isName, fst, low]
  rw [e]
  cases h : low c with
  | true => simp [sign, plain, h]
  | false => simp
theorem isUpp_one (c : UInt8) : isName 65 90 [c] = upp c := by
  have e : isName 65 90 [c] = (sign c && upp c) := by simp [isName, fst, upp]
  rw [e]
  cases h : upp c with
  | true => simp [sign, plain, h]
  | false => simp
theorem sym_at {s x : List UInt8} {p : Nat} (h : (syms.take p).all (fun y => !isPre s y) = true) (hx : syms[p]? = some x) (hp : isPre s x = true) : symOf s = some x := by
  unfold symOf
  obtain ⟨hlt, he⟩ := List.getElem?_eq_some_iff.1 hx
  have e : syms = syms.take p ++ x :: syms.drop (p + 1) := by
    rw [← he, List.getElem_cons_drop, List.take_append_drop]
  rw [e, List.find?_append]
  have h1 : (syms.take p).find? (isPre s) = none := by
    rw [List.find?_eq_none]
    rw [List.all_eq_true] at h
    intro y hy hc
    have := h y hy
    rw [hc] at this
    cases this
  rw [h1, List.find?_cons, hp]
  rfl
theorem sym_no {s : List UInt8} (h : syms.all (fun y => !isPre s y) = true) : symOf s = none := by
  unfold symOf
  rw [List.find?_eq_none]
  rw [List.all_eq_true] at h
  intro y hy hc
  have := h y hy
  rw [hc] at this
  cases this
theorem keys_low {n : List UInt8} (h : n ∈ keys) : n.head?.any upp = false := by
  revert n
  decide
theorem head_tw {c : UInt8} {r : List UInt8} {p : UInt8 → Bool} (h : p c = true) : ((c :: r).takeWhile p).head? = some c := by
  rw [List.takeWhile_cons, if_pos h]; rfl
set_option maxRecDepth 20000 in
set_option maxHeartbeats 4000000 in
theorem one_ok (c : UInt8) (r : List UInt8) (w0 w : World) (L : List Ent) (V : Vw) (hM : Mem w0 w L V) (hs : (c :: r).length ≤ 1000000) :
    CallsOk Tryd.prog 48 #[St (c :: r)] w (OneP w0 L V (c :: r)) := by
  obtain ⟨s, hse⟩ : ∃ s, s = c :: r := ⟨_, rfl⟩
  rw [← hse] at hs ⊢
  have hs1 : 1 ≤ s.length := by rw [hse]; simp
  have hhd : s.head? = some c := by rw [hse]; rfl
  have ht1 : s.take (1 : Int).toNat = [c] := by rw [hse]; rfl
  have htwd := tw_le dig s
  have htws := tw_le sign s
  refine enter_ (N := 67) Tryd.func48 rfl rfl rfl ?_
  (repeat (first | refine seq_ ?_ | refine sq_normal ?_ | refine rl_nil ?_ | (refine region_ (id := 0) ?_; (try ((refine rl_allocAM (d := 2) hM ag70 rfl ?_; clear hM; intro w b2 hM); (try (refine rl_assign (v := (Value.int _ _ : Value)) rfl rfl ?_))))) | (refine region_ (id := 1) ?_; (try (refine rl_move (v := (Value.string _ : Value)) rfl rfl ?_)))))
  refine rl_callf fn46 (while_ok 59 dig isDigit_ok fn59 s w0 w _ V hM (by omega)) rfl rfl ?_
  clear hM
  rintro _ w ⟨rfl, hM⟩
  cases hdc : dig c with
  | true =>
    have hpos : 0 < (s.takeWhile dig).length := by rw [hse, List.takeWhile_cons, if_pos hdc]; simp
    have e1 : one s = if val (s.takeWhile dig) ≤ 2147483647 then .ok ⟨3, s.takeWhile dig, val (s.takeWhile dig), 0⟩ else .error 11 := by
      unfold one
      rw [hhd]
      simp only [Option.any_some, hdc, if_true]
    have hnum := fun w => number_ok (s.takeWhile dig) w (by omega) tw_all
    rw [← take_tw] at hnum
    (repeat (first | refine seq_ ?_ | refine sq_normal ?_ | refine rl_nil ?_ | refine cond_t rfl ?_ | (refine region_ (id := 2) ?_; (try (refine rl_move (v := (Value.int _ _ : Value)) rfl rfl ?_; (try ((refine rl_gtr_t rfl rfl rfl ?_ ?_; omega)))))) | refine rl_assign (v := (Value.int _ _ : Value)) rfl rfl ?_))
    (refine drawn2M_ 9 [(0, false), (1, false), (2, false), (3, false), (4, false), (5, false)] 6 8 [(7, false), (8, true)] [(6, true), (7, false)] [(0, false), (1, false), (2, false), (3, false), (4, false), (5, false), (6, true), (7, false), (8, true)] [(0, false), (1, false), (2, false), (3, false), (4, false), (5, false), (8, true), (6, true), (7, false)] rfl rfl hM mo (by kernel_rfl) ?_ ?_ <;> (clear hM; intro w hM; (try (refine rx_move (v := (Value.string _ : Value)) rfl rfl rfl ?_; (try (refine rx_move (v := (Value.int _ _ : Value)) rfl rfl rfl ?_; (try ((refine rx_sslice_h rfl us9 rfl rfl rfl ?_ ?_ ?_; omega; omega); (try (refine rx_move (v := (Value.string _ : Value)) rfl rfl rfl ?_; (try (refine rx_move (v := (Value.int _ _ : Value)) rfl rfl rfl ?_; (try ((refine rx_sslice_h rfl us9 rfl rfl rfl ?_ ?_ ?_; omega; omega)))))))))))))))
    · refine rx_eff rfl (fun K hK => ?_)
      refine rl_callf fn60 (hnum w) rfl rfl ?_
      rintro _ w ⟨rfl, rfl⟩
      refine rl_nil (kq_normal (hK _ _ hM ?_))
      (try (refine rx_build [_, _, _, (Value.int .i64 0)] rfl ag70 pl70 rfl rfl rfl ?_))
      refine rx_eff rfl (fun K hK => ?_)
      (repeat (first | refine rl_nil ?_ | (refine rl_allocAM (d := 5) hM ag70 rfl ?_; clear hM; intro w b5 hM)))
      refine kq_normal (hK _ _ (hM.dropn 1) ?_)
      refine rx_nil rfl ?_
      rw [take_tw]
      by_cases hv : val (s.takeWhile dig) ≤ 2147483647
      · (repeat (first | refine seq_ ?_ | refine sq_normal ?_ | refine sq_ret ?_ | refine rl_nil ?_ | refine cond_f rfl ?_ | refine skip_ ?_ | refine ret_ ?_ | refine np_normal ?_ | (refine region_ (id := 4) ?_; (try (refine rl_fld fd70_2 rfl rfl ?_; (try (refine rl_loadM 0 hM vt3 rfl rfl rfl (by first | rfl | assumption) ?_; (try ((refine rl_gtr_f rfl rfl rfl ?_ ?_; omega)))))))) | (refine region_ (id := 6) ?_; (try (refine rl_loadAM (vs := [_, _, _, _]) 0 hM ag70 rfl rfl rfl rfl rfl ?_; (try ((refine rl_storeWM 1 hM ag70 rfl rfl rfl rfl rfl rfl rfl ?_; clear hM; intro w hM); (try (refine rl_assign (v := (Value.int _ _ : Value)) rfl rfl ?_))))))) | (refine rl_storeWM 0 hM ag70 rfl rfl rfl rfl rfl rfl rfl ?_; clear hM; intro w hM)))
        refine bp_x2 rfl rfl (res_M 1 hM ag70 rfl rfl rfl) (res_tmp rfl) ⟨⟨3, s.takeWhile dig, min (val (s.takeWhile dig) : Int) 2147483648, 0⟩, 0, rfl, hM.dropn 2, .inl ⟨?_, rfl⟩⟩
        rw [e1, if_pos hv, show min (val (s.takeWhile dig) : Int) 2147483648 = val (s.takeWhile dig) by omega]
      · (repeat (first | refine seq_ ?_ | refine sq_normal ?_ | refine sq_ret ?_ | refine rl_nil ?_ | refine cond_t rfl ?_ | refine ret_ ?_ | refine np_normal ?_ | (refine region_ (id := 4) ?_; (try (refine rl_fld fd70_2 rfl rfl ?_; (try (refine rl_loadM 0 hM vt3 rfl rfl rfl (by first | rfl | assumption) ?_; (try ((refine rl_gtr_t rfl rfl rfl ?_ ?_; omega)))))))) | (refine region_ (id := 5) ?_; (try (refine rl_loadAM (vs := [_, _, _, _]) 0 hM ag70 rfl rfl rfl rfl rfl ?_; (try ((refine rl_storeWM 1 hM ag70 rfl rfl rfl rfl rfl rfl rfl ?_; clear hM; intro w hM); (try (refine rl_assign (v := (Value.int _ _ : Value)) rfl rfl ?_))))))) | (refine rl_storeWM 0 hM ag70 rfl rfl rfl rfl rfl rfl rfl ?_; clear hM; intro w hM)))
        exact bp_x2 rfl rfl (res_M 1 hM ag70 rfl rfl rfl) (res_tmp rfl) ⟨⟨3, s.takeWhile dig, min (val (s.takeWhile dig) : Int) 2147483648, 0⟩, 11, rfl, hM.dropn 2, .inr ⟨by rw [e1, if_neg hv], by decide⟩⟩
    · refine rx_eff rfl (fun K hK => ?_)
      (repeat (first | refine rl_nil ?_ | (refine rl_allocAM (d := 5) hM ag70 rfl ?_; clear hM; intro w b5 hM)))
      refine kq_normal (hK _ _ (hM.dropn 1) ?_)
      refine rx_eff rfl (fun K hK => ?_)
      refine rl_callf fn60 (hnum w) rfl rfl ?_
      rintro _ w ⟨rfl, rfl⟩
      refine rl_nil (kq_normal (hK _ _ (hM.dropn 1) ?_))
      refine rx_build [_, _, _, (Value.int .i64 0)] rfl ag70 pl70 rfl rfl rfl ?_
      refine rx_nil rfl ?_
      rw [take_tw]
      by_cases hv : val (s.takeWhile dig) ≤ 2147483647
      · (repeat (first | refine seq_ ?_ | refine sq_normal ?_ | refine sq_ret ?_ | refine rl_nil ?_ | refine cond_f rfl ?_ | refine skip_ ?_ | refine ret_ ?_ | refine np_normal ?_ | (refine region_ (id := 4) ?_; (try (refine rl_fld fd70_2 rfl rfl ?_; (try (refine rl_loadM 0 hM vt3 rfl rfl rfl (by first | rfl | assumption) ?_; (try ((refine rl_gtr_f rfl rfl rfl ?_ ?_; omega)))))))) | (refine region_ (id := 6) ?_; (try (refine rl_loadAM (vs := [_, _, _, _]) 0 hM ag70 rfl rfl rfl rfl rfl ?_; (try ((refine rl_storeWM 1 hM ag70 rfl rfl rfl rfl rfl rfl rfl ?_; clear hM; intro w hM); (try (refine rl_assign (v := (Value.int _ _ : Value)) rfl rfl ?_))))))) | (refine rl_storeWM 0 hM ag70 rfl rfl rfl rfl rfl rfl rfl ?_; clear hM; intro w hM)))
        refine bp_x2 rfl rfl (res_M 1 hM ag70 rfl rfl rfl) (res_tmp rfl) ⟨⟨3, s.takeWhile dig, min (val (s.takeWhile dig) : Int) 2147483648, 0⟩, 0, rfl, hM.dropn 2, .inl ⟨?_, rfl⟩⟩
        rw [e1, if_pos hv, show min (val (s.takeWhile dig) : Int) 2147483648 = val (s.takeWhile dig) by omega]
      · (repeat (first | refine seq_ ?_ | refine sq_normal ?_ | refine sq_ret ?_ | refine rl_nil ?_ | refine cond_t rfl ?_ | refine ret_ ?_ | refine np_normal ?_ | (refine region_ (id := 4) ?_; (try (refine rl_fld fd70_2 rfl rfl ?_; (try (refine rl_loadM 0 hM vt3 rfl rfl rfl (by first | rfl | assumption) ?_; (try ((refine rl_gtr_t rfl rfl rfl ?_ ?_; omega)))))))) | (refine region_ (id := 5) ?_; (try (refine rl_loadAM (vs := [_, _, _, _]) 0 hM ag70 rfl rfl rfl rfl rfl ?_; (try ((refine rl_storeWM 1 hM ag70 rfl rfl rfl rfl rfl rfl rfl ?_; clear hM; intro w hM); (try (refine rl_assign (v := (Value.int _ _ : Value)) rfl rfl ?_))))))) | (refine rl_storeWM 0 hM ag70 rfl rfl rfl rfl rfl rfl rfl ?_; clear hM; intro w hM)))
        exact bp_x2 rfl rfl (res_M 1 hM ag70 rfl rfl rfl) (res_tmp rfl) ⟨⟨3, s.takeWhile dig, min (val (s.takeWhile dig) : Int) 2147483648, 0⟩, 11, rfl, hM.dropn 2, .inr ⟨by rw [e1, if_neg hv], by decide⟩⟩
  | false =>
    have hpos : (s.takeWhile dig).length = 0 := by rw [hse, List.takeWhile_cons, if_neg (by simp [hdc])]; rfl
    (repeat (first | refine seq_ ?_ | refine sq_normal ?_ | refine rl_nil ?_ | refine cond_f rfl ?_ | refine skip_ ?_ | refine block_ ?_ | (refine region_ (id := 2) ?_; (try (refine rl_move (v := (Value.int _ _ : Value)) rfl rfl ?_; (try ((refine rl_gtr_f rfl rfl rfl ?_ ?_; omega)))))) | (refine region_ (id := 7) ?_; (try (refine rl_assign (v := (Value.int _ _ : Value)) rfl rfl ?_))) | (refine region_ (id := 8) ?_; (try (refine rl_move (v := (Value.string _ : Value)) rfl rfl ?_; (try ((refine rl_sslice_h us9 rfl rfl rfl ?_ ?_ ?_; omega; omega)))))) | refine rl_assign (v := (Value.int _ _ : Value)) rfl rfl ?_))
    refine rl_callf fn61 (lower_ok (s.take (1 : Int).toNat) w0 w _ V hM (by rw [ht1, List.length_singleton]; omega)) rfl rfl ?_
    clear hM
    rintro _ w ⟨rfl, hM⟩
    rw [ht1, isLow_one]
    have e2' : (low c || upp c) = true → one s = if 32 < (s.takeWhile sign).length then .error 2 else .ok ⟨if upp c then 2 else if s.takeWhile sign ∈ keys then 5 else 1, s.takeWhile sign, 0, 0⟩ := by
      intro h
      unfold one
      rw [hhd]
      simp only [Option.any_some, hdc, h, Bool.false_eq_true, if_false, if_true]
    have e3' : (low c || upp c) = false → one s = match symOf s with | some x => .ok ⟨4, x, 0, 0⟩ | none => .error 10 := by
      intro h
      unfold one
      rw [hhd]
      simp only [Option.any_some, hdc, h, Bool.false_eq_true, if_false]
      cases symOf s <;> rfl
    cases hlo : low c with
    | true =>
      have e2 := e2' (by rw [hlo]; rfl)
      clear e2' e3'
      have hup : upp c = false := by
        simp only [low, Bool.and_eq_true, decide_eq_true_eq] at hlo
        simp [upp]; omega
      (repeat (first | refine seq_ ?_ | refine sq_normal ?_ | refine rl_nil ?_ | refine cond_t rfl ?_ | refine inBlock_normal ?_ | (refine region_ (id := 9) ?_; (try (refine rl_assign (v := (Value.int _ _ : Value)) rfl rfl ?_))) | (refine region_ (id := 12) ?_; (try (refine rl_move (v := (Value.int _ _ : Value)) rfl rfl ?_; (try ((refine rl_gtr_t rfl rfl rfl ?_ ?_; omega)))))) | (refine region_ (id := 13) ?_; (try (refine rl_move (v := (Value.int _ _ : Value)) rfl rfl ?_; (try (refine rl_move (v := (Value.string _ : Value)) rfl rfl ?_; (try (refine rl_move (v := (Value.string _ : Value)) rfl rfl ?_))))))) | refine rl_assign (v := (Value.bool _ : Value)) rfl rfl ?_))
      refine rl_callf fn46 (while_ok 63 sign inName_ok fn63 s w0 w _ V hM (by omega)) rfl rfl ?_
      clear hM
      rintro _ w ⟨rfl, hM⟩
      (repeat (first | refine seq_ ?_ | refine sq_normal ?_ | refine rl_nil ?_ | (refine rl_sslice_h us9 rfl rfl rfl ?_ ?_ ?_; omega; omega) | refine rl_build [_, _, _, (Value.int .i64 0)] ag70 pl70 rfl rfl rfl ?_ | (refine rl_storeWM 0 hM ag70 rfl rfl rfl rfl rfl rfl rfl ?_; clear hM; intro w hM) | (refine rl_allocAM (d := 7) hM ag70 rfl ?_; clear hM; intro w b7 hM)))
      rw [take_tw] at hM ⊢
      (refine drawnM_ 3 [(1, false), (2, false), (0, true)] (fun w => Mem w0 w _ _) hM mo (by kernel_rfl) (fun _ h => h) ?_; clear hM; intro w hM; (try (refine rx_fld rfl fd70_1 rfl rfl ?_; (try (refine rx_loadM 0 rfl (fun _ h => h) vt9 rfl rfl rfl (by first | rfl | assumption) ?_)))))
      refine rx_eff rfl (fun K hK => ?_)
      refine rl_callf fn64 (keys_ok w0 w _ V hM) rfl rfl ?_
      clear hM
      rintro kv w ⟨V1, hV1, hM, hks⟩
      refine rl_nil (kq_normal (hK _ _ (hM.le hV1) ?_))
      refine rx_nil rfl ?_
      refine rl_callf fn22 (contains_ok _ keys (s.takeWhile sign) w (hks.mono hM.vle) (by decide)) rfl rfl ?_
      rintro _ w ⟨rfl, rfl⟩
      by_cases hk : s.takeWhile sign ∈ keys
      · rw [decide_eq_true hk]
        by_cases h32 : (s.takeWhile sign).length ≤ 32
        · (repeat (first | refine seq_ ?_ | refine sq_normal ?_ | refine sq_ret ?_ | refine rl_nil ?_ | refine cond_t rfl ?_ | refine cond_f rfl ?_ | refine skip_ ?_ | refine ret_ ?_ | refine np_normal ?_ | (refine region_ (id := 15) ?_; (try (refine rl_fld fd70_0 rfl rfl ?_; (try ((refine rl_storeM 0 hM vt3 rfl rfl rfl rfl rfl (by first | (simp; done) | (simp; omega) | omega) ?_; clear hM; intro w hM)))))) | (refine region_ (id := 16) ?_; (try (refine rl_fld fd70_1 rfl rfl ?_; (try (refine rl_loadM 0 hM vt9 rfl rfl rfl (by first | rfl | assumption) ?_; (try (refine rl_slen us9 rfl rfl ?_; (try ((refine rl_gtr_f rfl rfl rfl ?_ ?_; omega)))))))))) | (refine region_ (id := 18) ?_; (try (refine rl_loadAM (vs := [_, _, _, _]) 0 hM ag70 rfl rfl rfl rfl rfl ?_; (try ((refine rl_storeWM 1 hM ag70 rfl rfl rfl rfl rfl rfl rfl ?_; clear hM; intro w hM); (try (refine rl_assign (v := (Value.int _ _ : Value)) rfl rfl ?_)))))))))
          exact bp_x2 rfl rfl (res_M 1 hM ag70 rfl rfl rfl) (res_tmp rfl) ⟨⟨5, s.takeWhile sign, 0, 0⟩, 0, rfl, (hM.le hV1).dropn 2, .inl ⟨by rw [e2, if_neg (by omega), hup, if_pos hk]; rfl, rfl⟩⟩
        · (repeat (first | refine seq_ ?_ | refine sq_normal ?_ | refine sq_ret ?_ | refine rl_nil ?_ | refine cond_t rfl ?_ | refine ret_ ?_ | refine np_normal ?_ | (refine region_ (id := 15) ?_; (try (refine rl_fld fd70_0 rfl rfl ?_; (try ((refine rl_storeM 0 hM vt3 rfl rfl rfl rfl rfl (by first | (simp; done) | (simp; omega) | omega) ?_; clear hM; intro w hM)))))) | (refine region_ (id := 16) ?_; (try (refine rl_fld fd70_1 rfl rfl ?_; (try (refine rl_loadM 0 hM vt9 rfl rfl rfl (by first | rfl | assumption) ?_; (try (refine rl_slen us9 rfl rfl ?_; (try ((refine rl_gtr_t rfl rfl rfl ?_ ?_; omega)))))))))) | (refine region_ (id := 17) ?_; (try (refine rl_loadAM (vs := [_, _, _, _]) 0 hM ag70 rfl rfl rfl rfl rfl ?_; (try ((refine rl_storeWM 1 hM ag70 rfl rfl rfl rfl rfl rfl rfl ?_; clear hM; intro w hM); (try (refine rl_assign (v := (Value.int _ _ : Value)) rfl rfl ?_)))))))))
          exact bp_x2 rfl rfl (res_M 1 hM ag70 rfl rfl rfl) (res_tmp rfl) ⟨⟨5, s.takeWhile sign, 0, 0⟩, 2, rfl, (hM.le hV1).dropn 2, .inr ⟨by rw [e2, if_pos (by omega)], by decide⟩⟩
      · rw [decide_eq_false hk]
        by_cases h32 : (s.takeWhile sign).length ≤ 32
        · (repeat (first | refine seq_ ?_ | refine sq_normal ?_ | refine sq_ret ?_ | refine rl_nil ?_ | refine cond_f rfl ?_ | refine skip_ ?_ | refine ret_ ?_ | refine np_normal ?_ | (refine region_ (id := 16) ?_; (try (refine rl_fld fd70_1 rfl rfl ?_; (try (refine rl_loadM 0 hM vt9 rfl rfl rfl (by first | rfl | assumption) ?_; (try (refine rl_slen us9 rfl rfl ?_; (try ((refine rl_gtr_f rfl rfl rfl ?_ ?_; omega)))))))))) | (refine region_ (id := 18) ?_; (try (refine rl_loadAM (vs := [_, _, _, _]) 0 hM ag70 rfl rfl rfl rfl rfl ?_; (try ((refine rl_storeWM 1 hM ag70 rfl rfl rfl rfl rfl rfl rfl ?_; clear hM; intro w hM); (try (refine rl_assign (v := (Value.int _ _ : Value)) rfl rfl ?_)))))))))
          exact bp_x2 rfl rfl (res_M 1 hM ag70 rfl rfl rfl) (res_tmp rfl) ⟨⟨1, s.takeWhile sign, 0, 0⟩, 0, rfl, (hM.le hV1).dropn 2, .inl ⟨by rw [e2, if_neg (by omega), hup, if_neg hk]; rfl, rfl⟩⟩
        · (repeat (first | refine seq_ ?_ | refine sq_normal ?_ | refine sq_ret ?_ | refine rl_nil ?_ | refine cond_t rfl ?_ | refine cond_f rfl ?_ | refine skip_ ?_ | refine ret_ ?_ | refine np_normal ?_ | (refine region_ (id := 16) ?_; (try (refine rl_fld fd70_1 rfl rfl ?_; (try (refine rl_loadM 0 hM vt9 rfl rfl rfl (by first | rfl | assumption) ?_; (try (refine rl_slen us9 rfl rfl ?_; (try ((refine rl_gtr_t rfl rfl rfl ?_ ?_; omega)))))))))) | (refine region_ (id := 17) ?_; (try (refine rl_loadAM (vs := [_, _, _, _]) 0 hM ag70 rfl rfl rfl rfl rfl ?_; (try ((refine rl_storeWM 1 hM ag70 rfl rfl rfl rfl rfl rfl rfl ?_; clear hM; intro w hM); (try (refine rl_assign (v := (Value.int _ _ : Value)) rfl rfl ?_)))))))))
          exact bp_x2 rfl rfl (res_M 1 hM ag70 rfl rfl rfl) (res_tmp rfl) ⟨⟨1, s.takeWhile sign, 0, 0⟩, 2, rfl, (hM.le hV1).dropn 2, .inr ⟨by rw [e2, if_pos (by omega)], by decide⟩⟩
    | false =>
      (repeat (first | refine seq_ ?_ | refine sq_normal ?_ | refine rl_nil ?_ | refine cond_f rfl ?_ | (refine region_ (id := 10) ?_; (try (refine rl_move (v := (Value.string _ : Value)) rfl rfl ?_; (try ((refine rl_sslice_h us9 rfl rfl rfl ?_ ?_ ?_; omega; omega)))))) | refine rl_assign (v := (Value.bool _ : Value)) rfl rfl ?_))
      refine rl_callf fn62 (upper_ok (s.take (1 : Int).toNat) w0 w _ V hM (by rw [ht1, List.length_singleton]; omega)) rfl rfl ?_
      clear hM
      rintro _ w ⟨rfl, hM⟩
      rw [ht1, isUpp_one]
      cases hup : upp c with
      | true =>
        have e2 := e2' (by rw [hup]; simp)
        clear e2' e3'
        have hsg : sign c = true := by simp [sign, plain, hup]
        (repeat (first | refine seq_ ?_ | refine sq_normal ?_ | refine rl_nil ?_ | refine cond_t rfl ?_ | refine inBlock_normal ?_ | (refine region_ (id := 11) ?_; (try (refine rl_assign (v := (Value.int _ _ : Value)) rfl rfl ?_))) | (refine region_ (id := 12) ?_; (try (refine rl_move (v := (Value.int _ _ : Value)) rfl rfl ?_; (try ((refine rl_gtr_t rfl rfl rfl ?_ ?_; omega)))))) | (refine region_ (id := 13) ?_; (try (refine rl_move (v := (Value.int _ _ : Value)) rfl rfl ?_; (try (refine rl_move (v := (Value.string _ : Value)) rfl rfl ?_; (try (refine rl_move (v := (Value.string _ : Value)) rfl rfl ?_))))))) | refine rl_assign (v := (Value.bool _ : Value)) rfl rfl ?_))
        refine rl_callf fn46 (while_ok 63 sign inName_ok fn63 s w0 w _ V hM (by omega)) rfl rfl ?_
        clear hM
        rintro _ w ⟨rfl, hM⟩
        (repeat (first | refine seq_ ?_ | refine sq_normal ?_ | refine rl_nil ?_ | (refine rl_sslice_h us9 rfl rfl rfl ?_ ?_ ?_; omega; omega) | refine rl_build [_, _, _, (Value.int .i64 0)] ag70 pl70 rfl rfl rfl ?_ | (refine rl_storeWM 0 hM ag70 rfl rfl rfl rfl rfl rfl rfl ?_; clear hM; intro w hM) | (refine rl_allocAM (d := 7) hM ag70 rfl ?_; clear hM; intro w b7 hM)))
        rw [take_tw] at hM ⊢
        (refine drawnM_ 3 [(1, false), (2, false), (0, true)] (fun w => Mem w0 w _ _) hM mo (by kernel_rfl) (fun _ h => h) ?_; clear hM; intro w hM; (try (refine rx_fld rfl fd70_1 rfl rfl ?_; (try (refine rx_loadM 0 rfl (fun _ h => h) vt9 rfl rfl rfl (by first | rfl | assumption) ?_)))))
        refine rx_eff rfl (fun K hK => ?_)
        refine rl_callf fn64 (keys_ok w0 w _ V hM) rfl rfl ?_
        clear hM
        rintro kv w ⟨V1, hV1, hM, hks⟩
        refine rl_nil (kq_normal (hK _ _ (hM.le hV1) ?_))
        refine rx_nil rfl ?_
        refine rl_callf fn22 (contains_ok _ keys (s.takeWhile sign) w (hks.mono hM.vle) (by decide)) rfl rfl ?_
        rintro _ w ⟨rfl, rfl⟩
        by_cases hk : s.takeWhile sign ∈ keys
        · exfalso
          have h5 := keys_low hk
          rw [hse, head_tw hsg] at h5
          rw [Option.any_some, hup] at h5
          cases h5
        · rw [decide_eq_false hk]
          by_cases h32 : (s.takeWhile sign).length ≤ 32
          · (repeat (first | refine seq_ ?_ | refine sq_normal ?_ | refine sq_ret ?_ | refine rl_nil ?_ | refine cond_f rfl ?_ | refine skip_ ?_ | refine ret_ ?_ | refine np_normal ?_ | (refine region_ (id := 16) ?_; (try (refine rl_fld fd70_1 rfl rfl ?_; (try (refine rl_loadM 0 hM vt9 rfl rfl rfl (by first | rfl | assumption) ?_; (try (refine rl_slen us9 rfl rfl ?_; (try ((refine rl_gtr_f rfl rfl rfl ?_ ?_; omega)))))))))) | (refine region_ (id := 18) ?_; (try (refine rl_loadAM (vs := [_, _, _, _]) 0 hM ag70 rfl rfl rfl rfl rfl ?_; (try ((refine rl_storeWM 1 hM ag70 rfl rfl rfl rfl rfl rfl rfl ?_; clear hM; intro w hM); (try (refine rl_assign (v := (Value.int _ _ : Value)) rfl rfl ?_)))))))))
            exact bp_x2 rfl rfl (res_M 1 hM ag70 rfl rfl rfl) (res_tmp rfl) ⟨⟨2, s.takeWhile sign, 0, 0⟩, 0, rfl, (hM.le hV1).dropn 2, .inl ⟨by rw [e2, if_neg (by omega), hup]; rfl, rfl⟩⟩
          · (repeat (first | refine seq_ ?_ | refine sq_normal ?_ | refine sq_ret ?_ | refine rl_nil ?_ | refine cond_t rfl ?_ | refine cond_f rfl ?_ | refine skip_ ?_ | refine ret_ ?_ | refine np_normal ?_ | (refine region_ (id := 16) ?_; (try (refine rl_fld fd70_1 rfl rfl ?_; (try (refine rl_loadM 0 hM vt9 rfl rfl rfl (by first | rfl | assumption) ?_; (try (refine rl_slen us9 rfl rfl ?_; (try ((refine rl_gtr_t rfl rfl rfl ?_ ?_; omega)))))))))) | (refine region_ (id := 17) ?_; (try (refine rl_loadAM (vs := [_, _, _, _]) 0 hM ag70 rfl rfl rfl rfl rfl ?_; (try ((refine rl_storeWM 1 hM ag70 rfl rfl rfl rfl rfl rfl rfl ?_; clear hM; intro w hM); (try (refine rl_assign (v := (Value.int _ _ : Value)) rfl rfl ?_)))))))))
            exact bp_x2 rfl rfl (res_M 1 hM ag70 rfl rfl rfl) (res_tmp rfl) ⟨⟨2, s.takeWhile sign, 0, 0⟩, 2, rfl, (hM.le hV1).dropn 2, .inr ⟨by rw [e2, if_pos (by omega)], by decide⟩⟩
      | false =>
        have e3 := e3' (by rw [hlo, hup]; rfl)
        clear e2' e3'
        (repeat (first | refine seq_ ?_ | refine sq_normal ?_ | refine rl_nil ?_ | refine cond_f rfl ?_ | refine skip_ ?_ | refine inBlock_normal ?_ | (refine region_ (id := 12) ?_; (try (refine rl_move (v := (Value.int _ _ : Value)) rfl rfl ?_; (try ((refine rl_gtr_f rfl rfl rfl ?_ ?_; omega)))))) | (refine region_ (id := 19) ?_) | refine rl_assign (v := (Value.bool _ : Value)) rfl rfl ?_))
        refine rl_callf fn65 (symbols_ok w0 w _ V hM) rfl rfl ?_
        clear hM
        rintro sv w ⟨V1, hV1, hM, hks⟩
        obtain ⟨a, cc, b, off, rfl, h1, h2, h3, h4⟩ := hks.open'
        have hsl : syms.length = 13 := rfl
        (repeat (first | refine sq_normal ?_ | refine rl_nil ?_ | refine block_ ?_ | refine rl_move (v := (Value.int _ _ : Value)) rfl rfl ?_ | refine rl_len sl28 rfl rfl ?_))
        refine loop1 [(3, 4), (9, 10), (56, 66)] 56 (fun m v wr => ∃ p : Nat, v = .int .i64 p ∧ p ≤ 13 ∧ m = 13 - p ∧ Mem w0 wr (.blk b2 [Value.int .i64 0, St [], Value.int .i64 0, Value.int .i64 0] 70 :: L) V1 ∧ (syms.take p).all (fun y => !isPre s y) = true) _
          ⟨0, rfl, by omega, rfl, hM, rfl⟩ ?_
        clear hM
        rintro m τ v w ⟨p, rfl, hp, rfl, hM, hall⟩ K0 hL0
        by_cases hlt : p < 13
        · obtain ⟨x, hx⟩ : ∃ x, syms[p]? = some x := ⟨_, List.getElem?_eq_getElem (by omega)⟩
          have hu := h4 p x hx
          have h3' := h3 (by omega)
          subst h3'
          have hxl := (syms_pos (List.mem_of_getElem? hx)).2
          (repeat (first | refine seq_ ?_ | refine sq_normal ?_ | refine rl_nil ?_ | refine cond_t rfl ?_ | refine skip_ ?_ | refine block_ ?_ | (refine region_ (id := 20) ?_; (try ((refine rl_lss_t rfl rfl rfl ?_ ?_; omega)))) | (refine region_ (id := 21) ?_; (try ((refine rl_idx1 sl28 rfl rfl rfl rfl ?_ ?_ ?_; omega; omega); (try (refine rl_loadV hM vt9 rfl rfl (by first | assumption | exact VRow.get (by assumption) rfl | exact VRow.get0 (by assumption) rfl) ?_; (try (refine rl_assign (v := (Value.string _ : Value)) rfl rfl ?_))))))) | (refine region_ (id := 22) ?_; (try (refine rl_move (v := (Value.string _ : Value)) rfl rfl ?_; (try (refine rl_move (v := (Value.string _ : Value)) rfl rfl ?_)))))))
          refine rl_callf fn45 (hasPrefix_ok s x w (by omega) (by omega)) rfl rfl ?_
          rintro _ w ⟨rfl, rfl⟩
          cases hpx : isPre s x with
          | true =>
            (repeat (first | refine seq_ ?_ | refine sq_normal ?_ | refine sq_ret ?_ | refine rl_nil ?_ | refine cond_t rfl ?_ | refine ret_ ?_ | refine inBlock_ret ?_ | refine kq_ret ?_ | (refine region_ (id := 23) ?_; (try (refine rl_move (v := (Value.string _ : Value)) rfl rfl ?_; (try (refine rl_build [_, _, (Value.int .i64 0), (Value.int .i64 0)] ag70 pl70 rfl rfl rfl ?_; (try ((refine rl_storeWM 0 hM ag70 rfl rfl rfl rfl rfl rfl rfl ?_; clear hM; intro w hM); (try (refine rl_assign (v := (Value.int _ _ : Value)) rfl rfl ?_)))))))))))
            exact bp_x2 rfl rfl (res_M 0 hM ag70 rfl rfl rfl) (res_tmp rfl) ⟨⟨4, x, 0, 0⟩, 0, rfl, (hM.le hV1).dropn 1, .inl ⟨by rw [e3, sym_at hall hx hpx], rfl⟩⟩
          | false =>
            (repeat (first | refine sq_normal ?_ | refine rl_nil ?_ | refine cond_f rfl ?_ | refine skip_ ?_ | refine inBlock_normal ?_ | (refine region_ (id := 24) ?_; (try ((refine rl_add rfl rfl rfl ?_ ?_ ?_; omega; omega); (try (refine rl_move (v := (Value.int _ _ : Value)) rfl rfl ?_)))))))
            refine kq_normal (hL0 (13 - (p + 1)) _ _ (by omega) (by (repeat (first | with_reducible exact Agree.ov | with_reducible exact Agree.refl _ _ | refine Agree.upd rfl ?_ | refine Agree.ovs rfl ?_))) ⟨p + 1, rfl, by omega, rfl, hM, ?_⟩)
            rw [List.take_add_one, hx, List.all_append, hall]
            simp [hpx]
        · have hpe : p = 13 := by omega
          subst hpe
          (repeat (first | refine seq_ ?_ | refine sq_normal ?_ | refine sq_exit ?_ | refine rl_nil ?_ | refine cond_f rfl ?_ | refine ret_ ?_ | refine exit_ ?_ | refine inBlock_exit ?_ | refine kq_exit ?_ | (refine region_ (id := 20) ?_; (try ((refine rl_lss_f rfl rfl rfl ?_ ?_; omega)))) | (refine region_ (id := 25) ?_; (try (refine rl_build [(Value.int .i64 0), (St []), (Value.int .i64 0), (Value.int .i64 0)] ag70 pl70 rfl rfl rfl ?_; (try ((refine rl_storeWM 0 hM ag70 rfl rfl rfl rfl rfl rfl rfl ?_; clear hM; intro w hM); (try (refine rl_assign (v := (Value.int _ _ : Value)) rfl rfl ?_)))))))))
          exact bp_x2 rfl rfl (res_M 0 hM ag70 rfl rfl rfl) (res_tmp rfl) ⟨⟨0, [], 0, 0⟩, 10, rfl, (hM.le hV1).dropn 1, .inr ⟨by rw [e3, sym_no hall], by decide⟩⟩
end Go.Proofs.YtadbinckjmdokaaDoor.Trd
set_option linter.unusedVariables false
set_option linter.unusedSimpArgs false
namespace Go.Proofs.YtadbinckjmdokaaDoor.Trd
open Go Go.Eng Go.RowKit Go.Lx
attribute [local irreducible] RL RX KQ SQ Exit.inBlock Exit.then BP NP CallsOk IsSl IsRows IsInts IsBools Own Blk Code.wp Calls wpList
/-- What a lexing tells, in memory. -/
def LexP (w0 : World) (L : List Ent) (V : Vw) (x : Except (Int × Nat) (List Tok)) (r : Value) (w' : World) : Prop :=
  ∃ V' v l e a, VLe V V' ∧ Mem w0 w' L V' ∧ r = .tuple #[v, .agg #[.int .i64 e, .int .i64 a]] ∧ IsTk V' v l ∧ ((x = .ok l ∧ e = 0 ∧ a = 0) ∨ (l = [] ∧ e ≠ 0 ∧ ∃ n : Nat, x = .error (e, n) ∧ a = n))
theorem remark_pos {c : UInt8} {r : List UInt8} (h : isPre (c :: r) [45, 45] = true) : 0 < ((c :: r).takeWhile noNl).length := by
  have : c = 45 := by
    simp only [isPre, decide_eq_true_eq] at h
    have := congrArg List.head? h
    simpa using this
  subst this
  rw [List.takeWhile_cons, if_pos (by decide)]
  simp
theorem lexA_le {s : List UInt8} (h : s.length ≤ 4000) : lexA s = lexR s 0 := by unfold lexA; rw [if_pos h]; rfl
theorem own_tk {w0 w : World} {L : List Ent} {V : Vw} {v : Value} {l : List Tok} (hM : Mem w0 w (.own v 70 4 l.length (tkCells l) :: L) V) : ∃ V', VLe V V' ∧ Mem w0 w L V' ∧ IsTk V' v l := by
  obtain ⟨V', hV, hM', a, c, b, e1, e2, e3, e4, e5⟩ := Mem.freezeOwn hM
  subst e1
  exact ⟨V', hV, hM', isTk_of rfl e2 e3 e4 e5⟩
set_option maxHeartbeats 4000000 in
theorem lex_ok (s : List UInt8) (w0 w : World) (L : List Ent) (V : Vw) (hM : Mem w0 w L V) (hs : s.length ≤ 1000000) :
    CallsOk Tryd.prog 31 #[St s] w (LexP w0 L V (lexA s)) := by
  have hml : (1000000 : Nat) ≤ maxLen := by unfold maxLen; omega
  refine enter_ (N := 65) Tryd.func31 rfl rfl rfl ?_
  (repeat (first | refine seq_ ?_ | refine sq_normal ?_ | refine rl_nil ?_ | (refine region_ (id := 0) ?_; (try (refine rl_assign (v := (Value.slice _ _ _ : Value)) rfl rfl ?_; (try ((refine rl_allocAM (d := 3) hM ag35 rfl ?_; clear hM; intro w b3 hM))))))))
  refine scope_ 0 (fun _ _ _ => False) rfl (fun _ _ _ h => h.elim) (fun K _ => ?_)
  by_cases hbig : s.length ≤ 4000
  · rw [lexA_le hbig]
    (repeat (first | refine seq_ ?_ | refine sq_normal ?_ | refine rl_nil ?_ | refine cond_f rfl ?_ | refine skip_ ?_ | refine block_ ?_ | refine label_ ?_ | (refine region_ (id := 1) ?_; (try (refine rl_move (v := (Value.string _ : Value)) rfl rfl ?_; (try (refine rl_slen us9 rfl rfl ?_; (try ((refine rl_gtr_f rfl rfl rfl ?_ ?_; omega)))))))) | (refine region_ (id := 3) ?_; (try (refine rl_assign (v := (Value.slice _ _ _ : Value)) rfl rfl ?_))) | (refine region_ (id := 4) ?_; (try (refine rl_assign (v := (Value.int _ _ : Value)) rfl rfl ?_)))))
    have hM := hM.newOwn 70 4
    refine loop2 [(2, 3), (4, 9), (13, 58)] 4 5 (fun m v4 v5 wr => ∃ (a : Option Addr) (cc : Nat) (acc : List Tok) (i : Nat), v4 = .slice a acc.length cc ∧ v5 = .int .i64 i ∧ i ≤ s.length ∧ m = s.length - i ∧ acc.length ≤ i ∧
      Mem w0 wr (.own (.slice a acc.length cc) 70 4 acc.length (tkCells acc) :: .blk b3 [Value.int .i64 0, Value.int .i64 0] 35 :: L) V ∧ lexR s 0 = pre acc (lexR (s.drop i) i)) _
      ⟨none, 0, [], 0, rfl, rfl, by omega, rfl, by simp, hM, by rw [List.drop_zero]; cases lexR s 0 <;> rfl⟩ ?_
    clear hM
    rintro m τ v4 v5 w ⟨a, cc, acc, i, rfl, rfl, hi, rfl, hai, hM, hinv⟩ K0 hL0
    by_cases hlt : i < s.length
    · obtain ⟨c, r, hd'⟩ : ∃ c r, s.drop i = c :: r := by
        cases h : s.drop i with
        | nil => have := congrArg List.length h; rw [List.length_drop] at this; simp at this; omega
        | cons c r => exact ⟨c, r, rfl⟩
      have hc : s[(i : Int).toNat]? = some c := by
        have := congrArg List.head? hd'
        rw [List.head?_drop] at this
        exact this
      have hd : s.drop (i : Int).toNat = c :: r := hd'
      have hdl : (c :: r).length = s.length - i := by rw [← hd', List.length_drop]
      rw [hd'] at hinv
      have htw := tw_le noNl (c :: r)
      (repeat (first | refine seq_ ?_ | refine sq_normal ?_ | refine rl_nil ?_ | refine cond_t rfl ?_ | refine skip_ ?_ | refine block_ ?_ | (refine region_ (id := 5) ?_; (try (refine rl_move (v := (Value.int _ _ : Value)) rfl rfl ?_; (try (refine rl_move (v := (Value.string _ : Value)) rfl rfl ?_; (try (refine rl_slen us9 rfl rfl ?_; (try ((refine rl_lss_t rfl rfl rfl ?_ ?_; omega)))))))))) | (refine region_ (id := 6) ?_; (try (refine rl_move (v := (Value.string _ : Value)) rfl rfl ?_; (try (refine rl_move (v := (Value.int _ _ : Value)) rfl rfl ?_; (try ((refine rl_sslice_l us9 rfl rfl rfl ?_ ?_ ?_; omega; omega); (try (refine rl_assign (v := (Value.string _ : Value)) rfl rfl ?_))))))))) | (refine region_ (id := 7) ?_; (try (refine rl_move (v := (Value.string _ : Value)) rfl rfl ?_; (try (refine rl_move (v := (Value.int _ _ : Value)) rfl rfl ?_; (try (refine rl_sindex us9 rfl rfl rfl (by omega) (by assumption) ?_)))))))))
      refine rl_callf fn44 (index27_ok [32, 9, 10] c w) rfl rfl ?_
      rintro _ w ⟨rfl, rfl⟩
      rcases firstIdx_nn [32, 9, 10] c with ⟨h1, h2⟩ | ⟨h1, h2, h3⟩
      · rw [h1]
        have hbl : Lx.blank c = false := decide_eq_false h2
        (repeat (first | refine seq_ ?_ | refine sq_normal ?_ | refine rl_nil ?_ | refine cond_f rfl ?_ | (refine region_ (id := 9) ?_; (try (refine rl_move (v := (Value.string _ : Value)) rfl rfl ?_))) | (refine rl_geq_f rfl rfl rfl ?_ ?_; omega) | refine rl_assign (v := (Value.bool _ : Value)) rfl rfl ?_))
        have hp28 := hasPrefix_ok (s.drop (i : Int).toNat) [45, 45] w (by rw [hd]; omega) (by decide)
        refine rl_callf fn45 hp28 rfl rfl ?_
        rintro _ w ⟨rfl, rfl⟩
        rw [hd]
        cases hrm : isPre (c :: r) [45, 45] with
        | true =>
          have hpos := remark_pos hrm
          rw [lexR_remark hbl hrm] at hinv
          (repeat (first | refine seq_ ?_ | refine sq_normal ?_ | refine rl_nil ?_ | refine cond_t rfl ?_ | (refine region_ (id := 10) ?_; (try (refine rl_move (v := (Value.int _ _ : Value)) rfl rfl ?_; (try (refine rl_move (v := (Value.string _ : Value)) rfl rfl ?_))))) | refine rl_assign (v := (Value.bool _ : Value)) rfl rfl ?_))
          refine rl_callf fn46 (while_ok 47 noNl isNoNl_ok fn47 (c :: r) w0 w _ V hM (by omega)) rfl rfl ?_
          clear hM
          rintro _ w ⟨rfl, hM⟩
          (repeat (first | refine sq_normal ?_ | refine sq_exit ?_ | refine rl_nil ?_ | refine exit_ ?_ | refine inBlock_exit ?_ | refine inBlock_exit_ne rfl ?_ | refine rl_assign (v := (Value.int _ _ : Value)) rfl rfl ?_ | (refine rl_add rfl rfl rfl ?_ ?_ ?_; omega; omega)))
          refine kq_normal (hL0 (s.length - (i + ((c :: r).takeWhile noNl).length)) _ _ (by omega) (by (repeat (first | with_reducible exact Agree.ov | with_reducible exact Agree.refl _ _ | refine Agree.upd rfl ?_ | refine Agree.ovs rfl ?_))) ⟨a, cc, acc, i + ((c :: r).takeWhile noNl).length, rfl, rfl, by omega, rfl, by omega, hM, ?_⟩)
          rw [hinv, ← List.drop_drop, hd']
        | false =>
          (repeat (first | refine seq_ ?_ | refine sq_normal ?_ | refine rl_nil ?_ | refine cond_f rfl ?_ | refine skip_ ?_ | refine inBlock_normal ?_ | (refine region_ (id := 11) ?_; (try (refine rl_move (v := (Value.string _ : Value)) rfl rfl ?_; (try (refine rl_move (v := (Value.int _ _ : Value)) rfl rfl ?_; (try ((refine rl_sslice_l us9 rfl rfl rfl ?_ ?_ ?_; omega; omega)))))))) | refine rl_assign (v := (Value.bool _ : Value)) rfl rfl ?_))
          have h1 := one_ok c r w0 w _ V hM (by omega)
          rw [← hd] at h1
          refine rl_callf fn48 h1 rfl rfl ?_
          clear hM h1
          rintro rv w ⟨⟨tk, ts, tn, ta⟩, e, hr, hM, ho⟩
          have hr : rv = .tuple #[.agg [Value.int .i64 tk, St ts, Value.int .i64 tn, Value.int .i64 ta].toArray, .int .i64 e] := hr
          subst hr
          rw [hd] at ho
          rcases ho with ⟨ho, rfl⟩ | ⟨ho, hne⟩
          · have hol := one_len ho
            simp only at hol
            rw [lexR_tok hbl hrm ho] at hinv
            simp only at hinv
            (repeat (first | refine seq_ ?_ | refine sq_normal ?_ | refine rl_nil ?_ | refine cond_f rfl ?_ | refine skip_ ?_ | (refine region_ (id := 12) ?_; (try (refine rl_move (v := (Value.int _ _ : Value)) rfl rfl ?_; (try ((refine rl_neq_f rfl rfl rfl ?_ ?_; omega)))))) | (refine region_ (id := 14) ?_; (try (refine rl_move (v := (Value.int _ _ : Value)) rfl rfl ?_; (try (refine rl_fld fd70_3 rfl rfl ?_; (try ((refine rl_storeM 0 hM vt3 rfl rfl rfl rfl rfl (by first | (simp; done) | (simp; omega) | omega) ?_; clear hM; intro w hM)))))))) | (refine region_ (id := 15) ?_; (try (refine rl_move (v := (Value.slice _ _ _ : Value)) rfl rfl ?_; (try (refine rl_loadAM (vs := [_, _, _, _]) 0 hM ag70 rfl rfl rfl rfl rfl ?_; (try ((refine rl_bsliceM (d := 51) [_] hM sl52 rfl rfl rfl rfl rfl (by decide) (by decide) ?_; clear hM; intro w b51 hM)))))))) | refine rl_assign (v := (Value.int _ _ : Value)) rfl rfl ?_ | refine rl_move (v := (Value.tuple _ : Value)) rfl rfl ?_ | refine rl_extract rfl rfl rfl ?_ | (refine rl_allocAM (d := 7) hM ag70 rfl ?_; clear hM; intro w b7 hM) | (refine rl_storeWM 0 hM ag70 rfl rfl rfl rfl rfl rfl rfl ?_; clear hM; intro w hM)))
            refine rl_appendM 2 (news := [Value.int .i64 tk, St ts, Value.int .i64 tn, Value.int .i64 i]) (B := b51) (off := 0) hM sl52 rfl (by decide) rfl (hM.row (i := 0) rfl) rfl rfl rfl (fun _ => rfl) rfl ?_ ?_ ?_ ?_
            · intro u hu
              simp only [List.mem_cons, List.not_mem_nil, or_false] at hu
              rcases hu with rfl | rfl | rfl | rfl <;> rfl
            · omega
            · omega
            clear hM
            intro w a' c' _ _ hM
            (repeat (first | refine sq_normal ?_ | refine rl_nil ?_ | refine inBlock_normal ?_ | (refine region_ (id := 16) ?_; (try (refine rl_move (v := (Value.int _ _ : Value)) rfl rfl ?_; (try (refine rl_fld fd70_1 rfl rfl ?_; (try (refine rl_loadM 1 hM vt9 rfl rfl rfl (by first | rfl | assumption) ?_; (try (refine rl_slen us9 rfl rfl ?_; (try ((refine rl_add rfl rfl rfl ?_ ?_ ?_; omega; omega); (try (refine rl_assign (v := (Value.int _ _ : Value)) rfl rfl ?_))))))))))))) | refine rl_assign (v := (Value.slice _ _ _ : Value)) rfl rfl ?_))
            have hM2 := hM.dropn 2
            have hal : (acc ++ [(⟨tk, ts, tn, i⟩ : Tok)]).length = acc.length + 1 := by simp
            refine kq_normal (hL0 (s.length - (i + ts.length)) _ _ (by omega) (by (repeat (first | with_reducible exact Agree.ov | with_reducible exact Agree.refl _ _ | refine Agree.upd rfl ?_ | refine Agree.ovs rfl ?_))) ⟨a', c', acc ++ [⟨tk, ts, tn, i⟩], i + ts.length, by rw [hal]; rfl, rfl, by omega, rfl, by omega, ?_, ?_⟩)
            · rw [hal, tkCells_snoc]
              exact hM2
            · rw [hinv, pre_pre, ← List.drop_drop, hd']
          · rw [lexR_err hbl hrm ho] at hinv
            (repeat (first | refine seq_ ?_ | refine sq_normal ?_ | refine sq_ret ?_ | refine rl_nil ?_ | refine cond_t rfl ?_ | refine ret_ ?_ | refine inBlock_ret ?_ | refine kq_ret ?_ | refine gq_ret ?_ | (refine region_ (id := 12) ?_; (try (refine rl_move (v := (Value.int _ _ : Value)) rfl rfl ?_; (try ((refine rl_neq_t rfl rfl rfl ?_ ?_; omega)))))) | (refine region_ (id := 13) ?_; (try (refine rl_move (v := (Value.int _ _ : Value)) rfl rfl ?_; (try (refine rl_move (v := (Value.int _ _ : Value)) rfl rfl ?_; (try (refine rl_build [_, _] ag35 pl35 rfl rfl rfl ?_; (try (refine rl_assign (v := (Value.slice _ _ _ : Value)) rfl rfl ?_; (try ((refine rl_storeWM 2 hM ag35 rfl rfl rfl rfl rfl rfl rfl ?_; clear hM; intro w hM)))))))))))) | refine rl_assign (v := (Value.int _ _ : Value)) rfl rfl ?_ | refine rl_move (v := (Value.tuple _ : Value)) rfl rfl ?_ | refine rl_extract rfl rfl rfl ?_ | (refine rl_allocAM (d := 7) hM ag70 rfl ?_; clear hM; intro w b7 hM) | (refine rl_storeWM 0 hM ag70 rfl rfl rfl rfl rfl rfl rfl ?_; clear hM; intro w hM)))
            exact bp_x2 rfl rfl (res_tmp rfl) (res_M 2 hM ag35 rfl rfl rfl) ⟨V, _, [], e, i, VLe.refl _, hM.dropn 3, rfl, IsTk.nil _, .inr ⟨rfl, hne, i, by rw [hinv]; rfl, rfl⟩⟩
      · have hbl : Lx.blank c = true := decide_eq_true h3
        rw [lexR_blank hbl] at hinv
        (repeat (first | refine seq_ ?_ | refine sq_normal ?_ | refine sq_exit ?_ | refine rl_nil ?_ | refine cond_t rfl ?_ | refine exit_ ?_ | refine inBlock_exit ?_ | refine inBlock_exit_ne rfl ?_ | (refine region_ (id := 8) ?_; (try (refine rl_move (v := (Value.int _ _ : Value)) rfl rfl ?_; (try ((refine rl_add rfl rfl rfl ?_ ?_ ?_; omega; omega); (try (refine rl_assign (v := (Value.int _ _ : Value)) rfl rfl ?_))))))) | (refine rl_geq_t rfl rfl rfl ?_ ?_; omega) | refine rl_assign (v := (Value.bool _ : Value)) rfl rfl ?_))
        refine kq_normal (hL0 (s.length - (i + 1)) _ _ (by omega) (by (repeat (first | with_reducible exact Agree.ov | with_reducible exact Agree.refl _ _ | refine Agree.upd rfl ?_ | refine Agree.ovs rfl ?_))) ⟨a, cc, acc, i + 1, rfl, rfl, by omega, rfl, by omega, hM, ?_⟩)
        rw [hinv, ← List.drop_drop, hd']
        rfl
    · have hie : i = s.length := by omega
      subst hie
      rw [List.drop_length, lexR_nil] at hinv
      (repeat (first | refine seq_ ?_ | refine sq_normal ?_ | refine sq_exit ?_ | refine rl_nil ?_ | refine cond_f rfl ?_ | refine exit_ ?_ | refine inBlock_exit ?_ | refine kq_exit ?_ | (refine region_ (id := 5) ?_; (try (refine rl_move (v := (Value.int _ _ : Value)) rfl rfl ?_; (try (refine rl_move (v := (Value.string _ : Value)) rfl rfl ?_; (try (refine rl_slen us9 rfl rfl ?_; (try ((refine rl_lss_f rfl rfl rfl ?_ ?_; omega)))))))))) | (refine region_ (id := 17) ?_; (try (refine rl_move (v := (Value.slice _ _ _ : Value)) rfl rfl ?_; (try (refine rl_move (v := (Value.string _ : Value)) rfl rfl ?_; (try (refine rl_slen us9 rfl rfl ?_; (try (refine rl_build [_, (St []), (Value.int .i64 0), _] ag70 pl70 rfl rfl rfl ?_; (try ((refine rl_bsliceM (d := 62) [_] hM sl52 rfl rfl rfl rfl rfl (by decide) (by decide) ?_; clear hM; intro w b62 hM))))))))))))))
      refine rl_appendM 1 (news := [Value.int .i64 6, St [], Value.int .i64 0, Value.int .i64 s.length]) (B := b62) (off := 0) hM sl52 rfl (by decide) rfl (hM.row (i := 0) rfl) rfl rfl rfl (fun _ => rfl) rfl ?_ ?_ ?_ ?_
      · intro u hu
        simp only [List.mem_cons, List.not_mem_nil, or_false] at hu
        rcases hu with rfl | rfl | rfl | rfl <;> rfl
      · omega
      · omega
      clear hM
      intro w a' c' _ _ hM
      (repeat (first | refine sq_normal ?_ | refine rl_nil ?_ | refine ret_ ?_ | refine gq_ret ?_ | refine rl_assign (v := (Value.slice _ _ _ : Value)) rfl rfl ?_ | refine rl_build [_, (Value.int .i64 0)] ag35 pl35 rfl rfl rfl ?_ | (refine rl_storeWM 2 hM ag35 rfl rfl rfl rfl rfl rfl rfl ?_; clear hM; intro w hM)))
      have hal : (acc ++ [(⟨6, [], 0, s.length⟩ : Tok)]).length = acc.length + 1 := by simp
      obtain ⟨V', hV, hM', htk⟩ := own_tk (l := acc ++ [⟨6, [], 0, s.length⟩]) (v := .slice a' (acc.length + 1) c') (by rw [hal, tkCells_snoc]; exact hM.front 1 rfl)
      exact bp_x2 rfl rfl (res_tmp rfl) (res_M 2 hM ag35 rfl rfl rfl) ⟨V', _, _, 0, 0, hV, hM'.dropn 2, rfl, htk, .inl ⟨by rw [hinv]; rfl, rfl, rfl⟩⟩
  · have hA : lexA s = .error (2, 0) := by unfold lexA; rw [if_neg hbig]
    rw [hA]
    (repeat (first | refine seq_ ?_ | refine sq_normal ?_ | refine sq_ret ?_ | refine rl_nil ?_ | refine cond_t rfl ?_ | refine ret_ ?_ | refine gq_ret ?_ | (refine region_ (id := 1) ?_; (try (refine rl_move (v := (Value.string _ : Value)) rfl rfl ?_; (try (refine rl_slen us9 rfl rfl ?_; (try ((refine rl_gtr_t rfl rfl rfl ?_ ?_; omega)))))))) | (refine region_ (id := 2) ?_; (try (refine rl_build [_, (Value.int .i64 0)] ag35 pl35 rfl rfl rfl ?_; (try (refine rl_assign (v := (Value.slice _ _ _ : Value)) rfl rfl ?_; (try ((refine rl_storeWM 0 hM ag35 rfl rfl rfl rfl rfl rfl rfl ?_; clear hM; intro w hM))))))))))
    exact bp_x2 rfl rfl (res_tmp rfl) (res_M 0 hM ag35 rfl rfl rfl) ⟨V, _, [], 2, 0, VLe.refl _, hM.dropn 1, rfl, IsTk.nil _, .inr ⟨rfl, by decide, 0, rfl, rfl⟩⟩
end Go.Proofs.YtadbinckjmdokaaDoor.Trd
