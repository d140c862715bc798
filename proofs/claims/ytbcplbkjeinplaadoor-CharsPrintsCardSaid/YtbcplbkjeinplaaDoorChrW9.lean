/- The walks of strings.Cut at one byte, of strconv.ParseUint of two signs to the base 16. -/
import Derived.Test.YtbcplbkjeinplaaDoorChrW8
import Derived.Test.YtbcplbkjeinplaaDoorChrP4
import Derived.Test.YtbcplbkjeinplaaDoorEng34
import Derived.Lib.IndexLaws
set_option linter.unusedVariables false
set_option linter.unusedSimpArgs false
namespace Go.Proofs.YtbcplbkjeinplaaDoor.Chr
open Go Go.Eng Go.RowKit Go.Lx
theorem index1_ok (s : List UInt8) (w : World) : CallsOk Tryd.prog 53 #[St s, St [39]] w fun r w' => r = .int .i64 (Lib.indexByte s 39) ∧ w' = w := by
  refine (Go.Proofs.Tryd.stringslite_Index_one ⟨s.toArray⟩ 39 w).mono ?_
  rintro e w' ⟨rfl, rfl⟩
  exact ⟨_, rfl, rfl, rfl⟩
attribute [local irreducible] RL RX KQ SQ Exit.inBlock Exit.then BP NP CallsOk IsSl IsRows IsInts IsBools Own Blk Code.wp Calls wpList
theorem cutin_ok (s : List UInt8) (w0 w : World) (L : List Ent) (V : Vw) (hM : Mem w0 w L V) (hs : s.length ≤ 1000000) :
    CallsOk Tryd.prog 48 #[St s, St [39]] w fun r w' => ∃ h t f, r = .tuple #[St h, St t, .bool f] ∧ CutAt s h t f ∧ Mem w0 w' L V := by
  refine enter_ (N := 23) Tryd.func48 rfl rfl rfl ?_
  (repeat (first | refine seq_ ?_ | refine sq_normal ?_ | refine rl_nil ?_ | (refine region_ (id := 0) ?_; (try (refine rl_assign (v := (Value.string _ : Value)) rfl rfl ?_; (try (refine rl_assign (v := (Value.string _ : Value)) rfl rfl ?_; (try (refine rl_assign (v := (Value.bool _ : Value)) rfl rfl ?_))))))) | (refine region_ (id := 1) ?_; (try (refine rl_move (v := (Value.string _ : Value)) rfl rfl ?_; (try (refine rl_move (v := (Value.string _ : Value)) rfl rfl ?_)))))))
  refine rl_callf fn53 (index1_ok s w) rfl rfl ?_
  rintro _ w ⟨rfl, rfl⟩
  have hge := Lib.indexByte_ge s 39
  have hsome := @Lib.indexByte_some s 39
  have hnone := @Lib.indexByte_none s 39
  obtain ⟨i, hi⟩ : ∃ i, i = Lib.indexByte s 39 := ⟨_, rfl⟩
  rw [← hi] at hge hnone ⊢
  rw [← hi] at hsome
  have hq1 : (([39] : List UInt8).length : Int) = 1 := rfl
  by_cases h0 : 0 ≤ i
  · obtain ⟨o, rfl⟩ : ∃ o : Nat, i = (o : Int) := ⟨i.toNat, by omega⟩
    obtain ⟨h1, h2⟩ := hsome rfl
    have hlt : o < s.length := (List.getElem?_eq_some_iff.1 h1).1
    (repeat (first | refine seq_ ?_ | refine sq_normal ?_ | refine rl_nil ?_ | refine cond_t rfl ?_ | (refine region_ (id := 2) ?_; (try (refine rl_move (v := (Value.int _ _ : Value)) rfl rfl ?_; (try ((first | (refine rl_geq_t rfl rfl rfl ?_ ?_; omega) | (refine rl_geq_f rfl rfl rfl ?_ ?_; omega))))))) | refine rl_assign (v := (Value.int _ _ : Value)) rfl rfl ?_))
    (refine drawnM_ 11 [(0, false), (1, false), (2, false), (3, false), (4, false), (5, false), (6, false), (7, false), (8, false), (9, false), (10, false)] (fun w => Mem w0 w _ _) hM mo (by kernel_rfl) (fun _ h => h) ?_; clear hM; intro w hM; (try (refine rx_move (v := (Value.string _ : Value)) rfl rfl rfl ?_; (try (refine rx_move (v := (Value.int _ _ : Value)) rfl rfl rfl ?_; (try ((refine rx_sslice_h rfl us9 rfl rfl rfl ?_ ?_ ?_; omega; omega); (try (refine rx_move (v := (Value.string _ : Value)) rfl rfl rfl ?_; (try (refine rx_move (v := (Value.int _ _ : Value)) rfl rfl rfl ?_; (try (refine rx_move (v := (Value.string _ : Value)) rfl rfl rfl ?_; (try (refine rx_slen rfl us9 rfl rfl ?_; (try ((refine rx_add rfl rfl rfl rfl ?_ ?_ ?_; omega; omega); (try ((refine rx_sslice_l rfl us9 rfl rfl rfl ?_ ?_ ?_; omega; omega); (try (refine rx_assign (v := (Value.string _ : Value)) rfl rfl rfl ?_; (try (refine rx_assign (v := (Value.string _ : Value)) rfl rfl rfl ?_)))))))))))))))))))))))
    refine rx_nil rfl ?_
    (repeat (first | refine sq_normal ?_ | refine sq_ret ?_ | refine rl_nil ?_ | refine ret_ ?_ | refine np_normal ?_ | refine rl_assign (v := (Value.bool _ : Value)) rfl rfl ?_))
    refine bp_ret3 rfl rfl rfl rfl ⟨s.take o, s.drop (o + 1), true, rfl, ⟨?_, fun _ => ?_, fun h => (by cases h)⟩, hM⟩
    · intro u hu e
      subst e
      obtain ⟨k, hk⟩ := List.mem_iff_getElem?.1 hu
      rw [List.getElem?_take] at hk
      split at hk
      · exact h2 k (by omega) hk
      · cases hk
    · obtain ⟨hlt', he⟩ := List.getElem?_eq_some_iff.1 h1
      rw [← he, ← List.drop_eq_getElem_cons hlt', List.take_append_drop]
  · have hi1 : i = -1 := by omega
    (repeat (first | refine seq_ ?_ | refine sq_normal ?_ | refine rl_nil ?_ | refine cond_f rfl ?_ | refine skip_ ?_ | refine ret_ ?_ | (refine region_ (id := 2) ?_; (try (refine rl_move (v := (Value.int _ _ : Value)) rfl rfl ?_; (try ((first | (refine rl_geq_t rfl rfl rfl ?_ ?_; omega) | (refine rl_geq_f rfl rfl rfl ?_ ?_; omega))))))) | (refine region_ (id := 4) ?_; (try (refine rl_move (v := (Value.string _ : Value)) rfl rfl ?_; (try (refine rl_assign (v := (Value.string _ : Value)) rfl rfl ?_; (try (refine rl_assign (v := (Value.string _ : Value)) rfl rfl ?_; (try (refine rl_assign (v := (Value.bool _ : Value)) rfl rfl ?_))))))))) | refine rl_assign (v := (Value.int _ _ : Value)) rfl rfl ?_))
    refine bp_ret3 rfl rfl rfl rfl ⟨s, [], false, rfl, ⟨?_, fun h => (by cases h), fun _ => ⟨rfl, rfl⟩⟩, hM⟩
    intro u hu e
    subst e
    obtain ⟨k, hk⟩ := List.mem_iff_getElem?.1 hu
    exact hnone hi1 k hk
theorem cut_ok (s : List UInt8) (w0 w : World) (L : List Ent) (V : Vw) (hM : Mem w0 w L V) (hs : s.length ≤ 1000000) :
    CallsOk Tryd.prog 35 #[St s, St [39]] w fun r w' => ∃ h t f, r = .tuple #[St h, St t, .bool f] ∧ CutAt s h t f ∧ Mem w0 w' L V := by
  refine enter_ (N := 13) Tryd.func35 rfl rfl rfl ?_
  (repeat (first | refine seq_ ?_ | refine sq_normal ?_ | refine rl_nil ?_ | (refine region_ (id := 0) ?_; (try (refine rl_assign (v := (Value.string _ : Value)) rfl rfl ?_; (try (refine rl_assign (v := (Value.string _ : Value)) rfl rfl ?_; (try (refine rl_assign (v := (Value.bool _ : Value)) rfl rfl ?_))))))) | (refine region_ (id := 1) ?_; (try (refine rl_move (v := (Value.string _ : Value)) rfl rfl ?_; (try (refine rl_move (v := (Value.string _ : Value)) rfl rfl ?_)))))))
  refine rl_callf fn48 (cutin_ok s w0 w L V hM hs) rfl rfl ?_
  clear hM
  rintro _ w ⟨h, t, f, rfl, hc, hM⟩
  (repeat (first | refine sq_normal ?_ | refine rl_nil ?_ | refine ret_ ?_ | refine rl_assign (v := (Value.string _ : Value)) rfl rfl ?_ | refine rl_assign (v := (Value.bool _ : Value)) rfl rfl ?_ | refine rl_extract rfl rfl rfl ?_))
  exact bp_ret3 rfl rfl rfl rfl ⟨h, t, f, rfl, hc, hM⟩
theorem lowerB_ok (c : UInt8) (w : World) : CallsOk Tryd.prog 55 #[.int .u8 c.toNat] w fun r w' => r = .int .u8 (c ||| 32).toNat ∧ w' = w := by
  refine enter_ (N := 5) Tryd.func55 rfl rfl rfl ?_
  have hM := Mem.init w
  (repeat (first | refine seq_ ?_ | refine sq_normal ?_ | refine rl_nil ?_ | (refine region_ (id := 0) ?_; (try (refine rl_assign (v := (Value.int _ _ : Value)) rfl rfl ?_))) | (refine region_ (id := 1) ?_; (try (refine rl_move (v := (Value.int _ _ : Value)) rfl rfl ?_)))))
  refine rl_or8 (a := c) (b := 32) rfl rfl rfl rfl ?_
  (repeat (first | refine sq_normal ?_ | refine rl_nil ?_ | refine ret_ ?_ | refine rl_assign (v := (Value.int _ _ : Value)) rfl rfl ?_))
  exact bp_ret1 (v := Value.int _ _) rfl rfl ⟨rfl, rfl⟩
end Go.Proofs.YtbcplbkjeinplaaDoor.Chr
