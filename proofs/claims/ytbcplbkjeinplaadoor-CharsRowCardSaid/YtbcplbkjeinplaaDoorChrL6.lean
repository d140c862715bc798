/- The walk of fuguelaw01.CharsRow. -/
import Derived.Test.YtbcplbkjeinplaaDoorChrW8
import Derived.Test.YtbcplbkjeinplaaDoorChrL3
set_option linter.unusedVariables false
set_option linter.unusedSimpArgs false
namespace Go.Proofs.YtbcplbkjeinplaaDoor.Chr
open Go Go.Eng Go.RowKit Go.Lx
attribute [local irreducible] RL RX KQ SQ Exit.inBlock Exit.then BP NP CallsOk IsSl IsRows IsInts IsBools Own Blk Code.wp Calls wpList
set_option maxHeartbeats 4000000 in
theorem law6 (s : List UInt8) (at_ : Int) (w : World) (hs : s.length ≤ maxLen) (hat : I64 at_) : CallsOk Tryd.prog 6 #[St s, .int .i64 at_] w fun r w' => r = .bool true ∧ Below w.heap.size w w' := by
  have hml := maxLen_le
  have hM := Mem.init w
  obtain ⟨w0, hw0⟩ : ∃ w0, w0 = w := ⟨_, rfl⟩
  obtain ⟨V, hVd⟩ : ∃ V, V = w.cell? := ⟨_, rfl⟩
  rw [← hVd] at hM
  have hM : Mem w0 w [] V := by rw [hw0]; exact hM
  have key : CallsOk Tryd.prog 6 #[St s, .int .i64 at_] w fun r w' => r = .bool true ∧ Below w0.heap.size w0 w' := by
    refine enter_ (N := 59) Tryd.func6 rfl rfl rfl ?_
    (repeat (first | refine seq_ ?_ | refine sq_normal ?_ | refine rl_nil ?_ | (refine region_ (id := 0) ?_; (try (refine rl_assign (v := (Value.bool _ : Value)) rfl rfl ?_))) | (refine region_ (id := 1) ?_; (try (refine rl_move (v := (Value.string _ : Value)) rfl rfl ?_)))))
    refine rl_callf fn10 (short_ok s 40 w (by omega) (by omega) (by omega)) rfl rfl ?_
    rintro _ w ⟨rfl, rfl⟩
    obtain ⟨u, hu⟩ : ∃ u, u = s.take (40 : Int).toNat := ⟨_, rfl⟩
    rw [← hu]
    have hul : u.length ≤ 40 := by rw [hu, List.length_take]; omega
    clear hu
    have hl1 : (([97, 10] : List UInt8).length : Int) = 2 := rfl
    have hl2 : (([10, 10, 98] : List UInt8).length : Int) = 3 := rfl
    have hl3 : ([97, 10] ++ u : List UInt8).length = 2 + u.length := by rw [List.length_append]; rfl
    (repeat (first | refine seq_ ?_ | refine sq_normal ?_ | refine rl_nil ?_ | (refine region_ (id := 2) ?_; (try (refine rl_move (v := (Value.int _ _ : Value)) rfl rfl ?_; (try (refine rl_move (v := (Value.string _ : Value)) rfl rfl ?_; (try (refine rl_slen us9 rfl rfl ?_))))))) | (refine rl_sadd rfl rfl rfl (by (first | omega | (simp only [List.length_append, List.length_cons, List.length_nil, List.length_take, List.length_drop] at *; omega))) ?_) | refine rl_assign (v := (Value.string _ : Value)) rfl rfl ?_))
    obtain ⟨t, ht⟩ : ∃ t : List UInt8, t = [97, 10] ++ u ++ [10, 10, 98] := ⟨_, rfl⟩
    have htl : t.length = u.length + 5 := by rw [ht]; simp
    rw [← ht]
    refine rl_callf fn9 (around_ok at_ t.length w hat.1 hat.2 (by omega) (by omega)) rfl rfl ?_
    rintro _ w ⟨rfl, rfl⟩
    have hk := around_lt at_ t.length (by omega)
    obtain ⟨k, hkd⟩ : ∃ k : Nat, around at_ t.length = (k : Int) := ⟨(around at_ t.length).toNat, by omega⟩
    rw [hkd] at hk ⊢
    obtain ⟨c, hc⟩ : ∃ c, t[k]? = some c := ⟨_, List.getElem?_eq_getElem (by omega)⟩
    have hc' : t[(k : Int).toNat]? = some c := hc
    have hs1 := lineP_snoc (t.take k) c
    have hs2 := colP_snoc (t.take k) c
    rw [← take_snoc hc] at hs1 hs2
    have hb1 := lineP_le (t.take k)
    have hb2 := colP_le (t.take k)
    have hbl : (t.take k).length = k := by rw [List.length_take]; omega
    have hu1 : upto k t = k := by rw [upto_eq]; omega
    have hu2 : upto ((k : Int) + 1) t = k + 1 := by rw [upto_eq]; omega
    clear hkd ht hl1 hl2 hl3
    (repeat (first | refine seq_ ?_ | refine sq_normal ?_ | refine rl_nil ?_ | (refine region_ (id := 3) ?_; (try (refine rl_move (v := (Value.string _ : Value)) rfl rfl ?_; (try (refine rl_move (v := (Value.int _ _ : Value)) rfl rfl ?_))))) | refine rl_assign (v := (Value.int _ _ : Value)) rfl rfl ?_))
    refine rl_callf fn18 (place_ok t k w (by omega) (by omega) (by omega)) rfl rfl ?_
    rintro _ w ⟨rfl, rfl⟩
    rw [hu1]
    (repeat (first | refine seq_ ?_ | refine sq_normal ?_ | refine rl_nil ?_ | (refine region_ (id := 4) ?_; (try (refine rl_move (v := (Value.string _ : Value)) rfl rfl ?_; (try (refine rl_move (v := (Value.int _ _ : Value)) rfl rfl ?_; (try ((refine rl_add rfl rfl rfl ?_ ?_ ?_; omega; omega)))))))) | refine rl_assign (v := (Value.int _ _ : Value)) rfl rfl ?_ | refine rl_move (v := (Value.tuple _ : Value)) rfl rfl ?_ | refine rl_extract rfl rfl rfl ?_))
    refine rl_callf fn18 (place_ok t (k + 1) w (by omega) (by omega) (by omega)) rfl rfl ?_
    rintro _ w ⟨rfl, rfl⟩
    rw [hu2]
    by_cases h10 : c = 10
    · rw [if_pos h10] at hs1 hs2
      have h10' : (c.toNat : Int) = 10 := by subst h10; rfl
      rw [hs1, hs2]
      have hcast : ((lineP (t.take k) + 1 : Nat) : Int) = (lineP (t.take k) : Int) + 1 := rfl
      have hcast1 : ((1 : Nat) : Int) = 1 := rfl
      (repeat (first | refine seq_ ?_ | refine sq_normal ?_ | refine rl_nil ?_ | refine cond_t rfl ?_ | (refine region_ (id := 5) ?_; (try (refine rl_move (v := (Value.string _ : Value)) rfl rfl ?_; (try (refine rl_move (v := (Value.int _ _ : Value)) rfl rfl ?_; (try ((first | refine rl_sindex us9 rfl rfl rfl (by omega) (by assumption) ?_ | refine rl_ksindex rfl us9 rfl rfl (by omega) (by assumption) ?_); (try ((first | (refine rl_keql_t rfl rfl rfl ?_ ?_; omega) | (refine rl_keql_f rfl rfl rfl ?_ ?_; omega))))))))))) | (refine region_ (id := 6) ?_; (try (refine rl_move (v := (Value.int _ _ : Value)) rfl rfl ?_; (try (refine rl_move (v := (Value.int _ _ : Value)) rfl rfl ?_; (try ((refine rl_add rfl rfl rfl ?_ ?_ ?_; omega; omega); (try ((first | (refine rl_eql_t rfl rfl rfl ?_ ?_; omega) | (refine rl_eql_f rfl rfl rfl ?_ ?_; omega)); (try (refine rl_move (v := (Value.bool _ : Value)) rfl rfl ?_; (try ((first | refine rl_off rfl ?_ | refine rl_move (v := (Value.int _ _ : Value)) rfl rfl ?_); (try ((first | refine rl_off rfl ?_ | (refine rl_eql_t rfl rfl rfl ?_ ?_; omega) | (refine rl_eql_f rfl rfl rfl ?_ ?_; omega)); (try (refine rl_pick (v := (Value.bool _ : Value)) rfl rfl rfl ?_; (try (refine rl_move (v := (Value.bool _ : Value)) rfl rfl ?_))))))))))))))))))) | refine rl_assign (v := (Value.int _ _ : Value)) rfl rfl ?_ | refine rl_move (v := (Value.tuple _ : Value)) rfl rfl ?_ | refine rl_extract rfl rfl rfl ?_))
      refine rl_callf fn15 (lives_ok w0 w _ V hM) rfl rfl ?_
      clear hM
      rintro _ w ⟨rfl, hM⟩
      (repeat (first | refine sq_normal ?_ | refine sq_ret ?_ | refine rl_nil ?_ | refine ret_ ?_ | refine rl_assign (v := (Value.bool _ : Value)) rfl rfl ?_ | refine rl_pick (v := (Value.bool _ : Value)) rfl rfl rfl ?_))
      exact bp_ret1 (v := Value.bool _) rfl rfl ⟨rfl, hM.below⟩
    · rw [if_neg h10] at hs1 hs2
      have h10' : (c.toNat : Int) ≠ 10 := fun h => h10 (UInt8.toNat_inj.1 (show c.toNat = 10 by omega))
      rw [hs1, hs2]
      have hcast : ((colP (t.take k) + 1 : Nat) : Int) = (colP (t.take k) : Int) + 1 := rfl
      (repeat (first | refine seq_ ?_ | refine sq_normal ?_ | refine rl_nil ?_ | refine cond_f rfl ?_ | refine skip_ ?_ | (refine region_ (id := 5) ?_; (try (refine rl_move (v := (Value.string _ : Value)) rfl rfl ?_; (try (refine rl_move (v := (Value.int _ _ : Value)) rfl rfl ?_; (try ((first | refine rl_sindex us9 rfl rfl rfl (by omega) (by assumption) ?_ | refine rl_ksindex rfl us9 rfl rfl (by omega) (by assumption) ?_); (try ((first | (refine rl_keql_t rfl rfl rfl ?_ ?_; omega) | (refine rl_keql_f rfl rfl rfl ?_ ?_; omega))))))))))) | (refine region_ (id := 7) ?_; (try (refine rl_move (v := (Value.int _ _ : Value)) rfl rfl ?_; (try (refine rl_move (v := (Value.int _ _ : Value)) rfl rfl ?_; (try ((first | (refine rl_eql_t rfl rfl rfl ?_ ?_; omega) | (refine rl_eql_f rfl rfl rfl ?_ ?_; omega)); (try (refine rl_move (v := (Value.bool _ : Value)) rfl rfl ?_; (try ((first | refine rl_off rfl ?_ | refine rl_move (v := (Value.int _ _ : Value)) rfl rfl ?_); (try ((first | refine rl_off rfl ?_ | refine rl_move (v := (Value.int _ _ : Value)) rfl rfl ?_); (try ((first | refine rl_off rfl ?_ | (refine rl_add rfl rfl rfl ?_ ?_ ?_; omega; omega)); (try ((first | refine rl_off rfl ?_ | (refine rl_eql_t rfl rfl rfl ?_ ?_; omega) | (refine rl_eql_f rfl rfl rfl ?_ ?_; omega)); (try (refine rl_pick (v := (Value.bool _ : Value)) rfl rfl rfl ?_; (try (refine rl_move (v := (Value.bool _ : Value)) rfl rfl ?_))))))))))))))))))))) | refine rl_assign (v := (Value.int _ _ : Value)) rfl rfl ?_ | refine rl_move (v := (Value.tuple _ : Value)) rfl rfl ?_ | refine rl_extract rfl rfl rfl ?_))
      refine rl_callf fn15 (lives_ok w0 w _ V hM) rfl rfl ?_
      clear hM
      rintro _ w ⟨rfl, hM⟩
      (repeat (first | refine sq_normal ?_ | refine rl_nil ?_ | refine ret_ ?_ | refine rl_assign (v := (Value.bool _ : Value)) rfl rfl ?_ | refine rl_pick (v := (Value.bool _ : Value)) rfl rfl rfl ?_))
      exact bp_ret1 (v := Value.bool _) rfl rfl ⟨rfl, hM.below⟩
  rw [hw0] at key
  exact key
end Go.Proofs.YtbcplbkjeinplaaDoor.Chr
