/- Walks of fugueref01.Around, Ints, Short. -/
import Derived.Test.YtkjahcegjplbnaaKinTy
set_option linter.unusedVariables false
set_option linter.unusedSimpArgs false
namespace Go.Proofs.Ytkjahcegjplbnaa.Kin
open Go Go.Eng Go.RowKit
attribute [local irreducible] RL RX KQ SQ Exit.inBlock Exit.then BP NP CallsOk IsSl IsRows IsInts IsBools Own Blk Code.wp Calls wpList
def around (n m : Int) : Int := (if n < 0 then -(n + 1) else n) % m
theorem around_ok (n m : Int) (w : World) (h1 : -9223372036854775808 ≤ n) (h2 : n ≤ 9223372036854775807) (hm : 0 < m) (hm2 : m ≤ 9223372036854775807) :
    CallsOk Try.prog 16 #[.int .i64 n, .int .i64 m] w fun v w' => v = .int .i64 (around n m) ∧ w = w' := by
  refine enter_ (N := 13) Try.func16 rfl rfl rfl ?_
  by_cases hn : n < 0
  · (repeat (first | refine seq_ ?_ | refine sq_normal ?_ | refine rl_nil ?_ | refine cond_t rfl ?_ | refine ret_ ?_ | (refine region_ (id := 0) ?_; (try (refine rl_assign (v := (Value.int _ _ : Value)) rfl rfl ?_))) | (refine region_ (id := 1) ?_; (try (refine rl_move (v := (Value.int _ _ : Value)) rfl rfl ?_; (try ((first | (refine rl_lss_t rfl rfl rfl ?_ ?_; omega) | (refine rl_lss_f rfl rfl rfl ?_ ?_; omega))))))) | (refine region_ (id := 2) ?_; (try (refine rl_move (v := (Value.int _ _ : Value)) rfl rfl ?_; (try ((refine rl_add rfl rfl rfl ?_ ?_ ?_; omega; omega); (try ((refine rl_neg rfl rfl ?_ ?_ ?_; omega; omega); (try (refine rl_assign (v := (Value.int _ _ : Value)) rfl rfl ?_))))))))) | (refine region_ (id := 3) ?_; (try (refine rl_move (v := (Value.int _ _ : Value)) rfl rfl ?_; (try (refine rl_move (v := (Value.int _ _ : Value)) rfl rfl ?_; (try ((refine rl_rem rfl rfl rfl ?_ ?_ ?_; omega; omega); (try (refine rl_assign (v := (Value.int _ _ : Value)) rfl rfl ?_)))))))))))
    refine bp_ret1 (v := Value.int _ _) rfl rfl ⟨?_, rfl⟩
    unfold around; rw [if_pos hn]
  · (repeat (first | refine seq_ ?_ | refine sq_normal ?_ | refine rl_nil ?_ | refine cond_f rfl ?_ | refine skip_ ?_ | refine ret_ ?_ | (refine region_ (id := 0) ?_; (try (refine rl_assign (v := (Value.int _ _ : Value)) rfl rfl ?_))) | (refine region_ (id := 1) ?_; (try (refine rl_move (v := (Value.int _ _ : Value)) rfl rfl ?_; (try ((first | (refine rl_lss_t rfl rfl rfl ?_ ?_; omega) | (refine rl_lss_f rfl rfl rfl ?_ ?_; omega))))))) | (refine region_ (id := 3) ?_; (try (refine rl_move (v := (Value.int _ _ : Value)) rfl rfl ?_; (try (refine rl_move (v := (Value.int _ _ : Value)) rfl rfl ?_; (try ((refine rl_rem rfl rfl rfl ?_ ?_ ?_; omega; omega); (try (refine rl_assign (v := (Value.int _ _ : Value)) rfl rfl ?_)))))))))))
    refine bp_ret1 (v := Value.int _ _) rfl rfl ⟨?_, rfl⟩
    unfold around; rw [if_neg hn]
theorem around_lt (n m : Int) (hm : 0 < m) : 0 ≤ around n m ∧ around n m < m := by
  unfold around
  exact ⟨Int.emod_nonneg _ (by omega), Int.emod_lt_of_pos _ hm⟩
theorem short_ok (l : List UInt8) (m : Int) (w : World) (hm : 0 ≤ m) (hm2 : m ≤ 1000000) (hl : l.length ≤ 9223372036854775807) :
    CallsOk Try.prog 17 #[St l, .int .i64 m] w fun v w' => v = St (l.take m.toNat) ∧ w = w' := by
  refine enter_ (N := 13) Try.func17 rfl rfl rfl ?_
  by_cases hn : m < l.length
  · (repeat (first | refine seq_ ?_ | refine sq_normal ?_ | refine sq_ret ?_ | refine rl_nil ?_ | refine cond_t rfl ?_ | refine ret_ ?_ | (refine region_ (id := 0) ?_; (try (refine rl_assign (v := (Value.string _ : Value)) rfl rfl ?_))) | (refine region_ (id := 1) ?_; (try (refine rl_move (v := (Value.string _ : Value)) rfl rfl ?_; (try (refine rl_slen us9 rfl rfl ?_; (try (refine rl_move (v := (Value.int _ _ : Value)) rfl rfl ?_; (try ((first | (refine rl_gtr_t rfl rfl rfl ?_ ?_; omega) | (refine rl_gtr_f rfl rfl rfl ?_ ?_; omega))))))))))) | (refine region_ (id := 2) ?_; (try (refine rl_move (v := (Value.string _ : Value)) rfl rfl ?_; (try (refine rl_move (v := (Value.int _ _ : Value)) rfl rfl ?_; (try ((refine rl_sslice_h us9 rfl rfl rfl ?_ ?_ ?_; omega; omega); (try (refine rl_assign (v := (Value.string _ : Value)) rfl rfl ?_)))))))))))
    exact bp_ret1 (v := St _) rfl rfl ⟨rfl, rfl⟩
  · (repeat (first | refine seq_ ?_ | refine sq_normal ?_ | refine rl_nil ?_ | refine cond_f rfl ?_ | refine skip_ ?_ | refine ret_ ?_ | (refine region_ (id := 0) ?_; (try (refine rl_assign (v := (Value.string _ : Value)) rfl rfl ?_))) | (refine region_ (id := 1) ?_; (try (refine rl_move (v := (Value.string _ : Value)) rfl rfl ?_; (try (refine rl_slen us9 rfl rfl ?_; (try (refine rl_move (v := (Value.int _ _ : Value)) rfl rfl ?_; (try ((first | (refine rl_gtr_t rfl rfl rfl ?_ ?_; omega) | (refine rl_gtr_f rfl rfl rfl ?_ ?_; omega))))))))))) | (refine region_ (id := 3) ?_; (try (refine rl_move (v := (Value.string _ : Value)) rfl rfl ?_; (try (refine rl_assign (v := (Value.string _ : Value)) rfl rfl ?_)))))))
    refine bp_ret1 (v := St _) rfl rfl ⟨?_, rfl⟩
    rw [List.take_of_length_le (by omega)]
theorem ints_ok (w0 w : World) (L : List Ent) (V : Vw) (v : Value) (xs : List Int) (m : Int) (hM : Mem w0 w L V) (hm : 0 ≤ m) (hm2 : m ≤ 1000) (hx : IsInts V v xs) :
    CallsOk Try.prog 35 #[v, .int .i64 m] w fun v' w' => ∃ V', VLe V V' ∧ Mem w0 w' L V' ∧ IsInts V' v' (xs.take m.toNat) := by
  obtain ⟨a, c, b, off, rfl, h1, h2, h3, h4⟩ := hx.open
  have hml := maxLen_le
  refine enter_ (N := 14) Try.func35 rfl rfl rfl ?_
  (repeat (first | refine seq_ ?_ | refine sq_normal ?_ | refine rl_nil ?_ | (refine region_ (id := 0) ?_; (try (refine rl_assign (v := (Value.slice _ _ _ : Value)) rfl rfl ?_))) | (refine region_ (id := 1) ?_; (try (refine rl_assign (v := (Value.slice _ _ _ : Value)) rfl rfl ?_))) | (refine region_ (id := 2) ?_; (try (refine rl_move (v := (Value.slice _ _ _ : Value)) rfl rfl ?_; (try (refine rl_move (v := (Value.slice _ _ _ : Value)) rfl rfl ?_; (try (refine rl_move (v := (Value.slice _ _ _ : Value)) rfl rfl ?_; (try (refine rl_len sl22 rfl rfl ?_; (try (refine rl_move (v := (Value.int _ _ : Value)) rfl rfl ?_; (try (refine rl_min rfl rfl rfl ?_; (try ((refine rl_slice_h sl22 rfl rfl rfl ?_ ?_ ?_ ?_; omega; omega; omega))))))))))))))))))
  obtain ⟨m8, hm8⟩ : ∃ m8 : Nat, m8 = (min (xs.length : Int) m).toNat := ⟨_, rfl⟩
  have hlen : (xs.take m.toNat).length = m8 := by simp; omega
  refine rl_appendM 0 (news := (xs.take m.toNat).map (Value.int .i64)) (B := b) (off := off) (hM.newOwn 3 1) sl22 rfl (by decide) rfl ?_ rfl rfl rfl ?_ ?_ ?_ ?_ ?_ ?_
  · intro j u hu
    rw [List.getElem?_map, Option.map_eq_some_iff] at hu
    obtain ⟨x, hx, rfl⟩ := hu
    rw [List.getElem?_take] at hx
    split at hx
    · exact hM.view (h4 _ _ hx)
    · cases hx
  · intro h; exact h3 (by omega)
  · rw [List.length_map, hlen, ← hm8]; omega
  · intro u hu
    obtain ⟨x, _, rfl⟩ := List.mem_map.1 hu
    rfl
  · unfold maxLen; omega
  · omega
  clear hM
  intro w a3 c3 _ _ hM
  (repeat (first | refine sq_normal ?_ | refine rl_nil ?_ | refine ret_ ?_ | refine rl_assign (v := (Value.slice _ _ _ : Value)) rfl rfl ?_))
  obtain ⟨V', hV, hM', a', c', b', e1, e2, e3, e4, e5⟩ := Mem.freezeOwn hM
  cases e1
  refine bp_ret1 (v := Value.slice _ _ _) rfl rfl ⟨V', hV, hM', ?_⟩
  exact isInts_of (by omega) (by omega) e3 (fun h => e4 (by omega)) e5 (fun x hx' => hx.rng x (List.mem_of_mem_take hx'))
end Go.Proofs.Ytkjahcegjplbnaa.Kin
