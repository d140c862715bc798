/- The walk of fuguelaw01.CharsLetters. -/
import Derived.Test.YtbcplbkjeinplaaDoorChrW7
import Derived.Test.YtbcplbkjeinplaaDoorChrP1
import Derived.Test.YtbcplbkjeinplaaDoorRows
import Derived.Lib.LaidTab
import Derived.Stop.LaidErr
import Derived.MakeChecks
set_option linter.unusedVariables false
set_option linter.unusedSimpArgs false
namespace Go.Proofs.YtbcplbkjeinplaaDoor.Chr
open Go Go.Eng Go.RowKit Go.Lx
theorem tens_of {w : World} (h : laidMetH Tryd.prog Rows.charsLettersRow.laid w) : Tens w := by
  have h0 : laidMetH Tryd.prog [("math/bits.deBruijn32tab", Rows.laid_math_bits_deBruijn32tab), ("math/bits.deBruijn64tab", Rows.laid_math_bits_deBruijn64tab), ("internal/strconv.uint64pow10", Lib.tabData .u64 Lib.pow10Tab)] w := h
  rw [MakeChecks.laidMetH_plain _ _ _ (by kernel_rfl)] at h0
  refine Lib.tabBelow_of_tabIs ?_
  exact Lib.tabIs_of_head (g := 3) (t := 90) (e := 58) (n := 20) (by kernel_rfl) (by kernel_rfl) (by kernel_rfl) (by kernel_rfl) (by kernel_rfl) (by kernel_rfl) h0.tail.tail
attribute [local irreducible] RL RX KQ SQ Exit.inBlock Exit.then BP NP CallsOk IsSl IsRows IsInts IsBools Own Blk Code.wp Calls wpList
set_option maxHeartbeats 4000000 in
theorem law4 (a b : Int) (w : World) (ha : I64 a) (hb : I64 b) (hL : laidMetH Tryd.prog Rows.charsLettersRow.laid w) : CallsOk Tryd.prog 4 #[.int .i64 a, .int .i64 b] w fun r w' => r = .bool true ∧ Below w.heap.size w w' := by
  have hT0 := tens_of hL
  clear hL
  have hM := Mem.init w
  obtain ⟨w0, hw0⟩ : ∃ w0, w0 = w := ⟨_, rfl⟩
  obtain ⟨V, hVd⟩ : ∃ V, V = w.cell? := ⟨_, rfl⟩
  rw [← hVd] at hM
  have hM : Mem w0 w [] V := by rw [hw0]; exact hM
  have hT : Tens w0 := by rw [hw0]; exact hT0
  have key : CallsOk Tryd.prog 4 #[.int .i64 a, .int .i64 b] w fun r w' => r = .bool true ∧ Below w0.heap.size w0 w' := by
    clear hT0 hVd hw0
    refine enter_ (N := 58) Tryd.func4 rfl rfl rfl ?_
    (repeat (first | refine seq_ ?_ | refine sq_normal ?_ | refine rl_nil ?_ | (refine region_ (id := 0) ?_; (try (refine rl_assign (v := (Value.bool _ : Value)) rfl rfl ?_))) | (refine region_ (id := 1) ?_; (try (refine rl_move (v := (Value.int _ _ : Value)) rfl rfl ?_)))))
    refine rl_callf fn9 (around_ok a 4611686018427387904 w ha.1 ha.2 (by omega) (by omega)) rfl rfl ?_
    rintro _ w ⟨rfl, rfl⟩
    have hx := around_lt a 4611686018427387904 (by omega)
    obtain ⟨x, hxd⟩ : ∃ x : Nat, around a 4611686018427387904 = (x : Int) := ⟨(around a 4611686018427387904).toNat, by omega⟩
    rw [hxd] at hx ⊢
    (repeat (first | refine seq_ ?_ | refine sq_normal ?_ | refine rl_nil ?_ | (refine region_ (id := 2) ?_; (try (refine rl_move (v := (Value.int _ _ : Value)) rfl rfl ?_))) | refine rl_assign (v := (Value.int _ _ : Value)) rfl rfl ?_))
    refine rl_callf fn9 (around_ok b 4611686018427387904 w hb.1 hb.2 (by omega) (by omega)) rfl rfl ?_
    rintro _ w ⟨rfl, rfl⟩
    have hy := around_lt b 4611686018427387904 (by omega)
    obtain ⟨y, hyd⟩ : ∃ y : Nat, around b 4611686018427387904 = (y : Int) := ⟨(around b 4611686018427387904).toNat, by omega⟩
    rw [hyd] at hy ⊢
    (repeat (first | refine seq_ ?_ | refine sq_normal ?_ | refine rl_nil ?_ | (refine region_ (id := 3) ?_; (try (refine rl_move (v := (Value.int _ _ : Value)) rfl rfl ?_))) | refine rl_assign (v := (Value.int _ _ : Value)) rfl rfl ?_))
    refine rl_callf fn9 (around_ok a 100 w ha.1 ha.2 (by omega) (by omega)) rfl rfl ?_
    rintro _ w ⟨rfl, rfl⟩
    have hs := around_lt a 100 (by omega)
    obtain ⟨s, hsd⟩ : ∃ s : Nat, around a 100 = (s : Int) := ⟨(around a 100).toNat, by omega⟩
    rw [hsd] at hs ⊢
    (repeat (first | refine seq_ ?_ | refine sq_normal ?_ | refine rl_nil ?_ | (refine region_ (id := 4) ?_; (try (refine rl_move (v := (Value.int _ _ : Value)) rfl rfl ?_))) | refine rl_assign (v := (Value.int _ _ : Value)) rfl rfl ?_))
    refine rl_callf fn9 (around_ok b 100 w hb.1 hb.2 (by omega) (by omega)) rfl rfl ?_
    rintro _ w ⟨rfl, rfl⟩
    have ho := around_lt b 100 (by omega)
    obtain ⟨o, hod⟩ : ∃ o : Nat, around b 100 = (o : Int) := ⟨(around b 100).toNat, by omega⟩
    rw [hod] at ho ⊢
    clear hxd hyd hsd hod
    have hlx : (letters x).length ≤ 20 := letters_len (by omega)
    (repeat (first | refine seq_ ?_ | refine sq_normal ?_ | refine rl_nil ?_ | (refine region_ (id := 5) ?_; (try (refine rl_move (v := (Value.int _ _ : Value)) rfl rfl ?_))) | refine rl_assign (v := (Value.int _ _ : Value)) rfl rfl ?_))
    refine rl_callf fn16 (letters_ok x w0 w _ V hM (by omega) (.inr hT)) rfl rfl ?_
    clear hM
    rintro _ w ⟨rfl, hM⟩
    (repeat (first | refine rl_move (v := (Value.int _ _ : Value)) rfl rfl ?_))
    refine rl_callf fn17 (refletters_ok x w0 w _ V hM (by omega)) rfl rfl ?_
    clear hM
    rintro _ w ⟨rfl, hM⟩
    (repeat (first | refine rl_move (v := (Value.int _ _ : Value)) rfl rfl ?_ | (first | refine rl_sneq_f rfl rfl rfl (by first | rfl | assumption) ?_ | refine rl_sneq_t rfl rfl rfl (by first | assumption | decide) ?_) | refine rl_move (v := (Value.bool _ : Value)) rfl rfl ?_))
    refine rl_callf fn16 (letters_ok s w0 w _ V hM (by omega) (.inl (by omega))) rfl rfl ?_
    clear hM
    rintro _ w ⟨rfl, hM⟩
    (repeat (first | refine rl_move (v := (Value.int _ _ : Value)) rfl rfl ?_))
    refine rl_callf fn17 (refletters_ok s w0 w _ V hM (by omega)) rfl rfl ?_
    clear hM
    rintro _ w ⟨rfl, hM⟩
    (repeat (first | refine rl_move (v := (Value.int _ _ : Value)) rfl rfl ?_ | (first | refine rl_sneq_f rfl rfl rfl (by first | rfl | assumption) ?_ | refine rl_sneq_t rfl rfl rfl (by first | assumption | decide) ?_) | refine rl_move (v := (Value.bool _ : Value)) rfl rfl ?_ | refine rl_pick (v := (Value.bool _ : Value)) rfl rfl rfl ?_))
    refine rl_callf fn16 (letters_ok x w0 w _ V hM (by omega) (.inr hT)) rfl rfl ?_
    clear hM
    rintro _ w ⟨rfl, hM⟩
    skip
    refine rl_callf fn11 (lower_ok (letters x) w0 w _ V hM (by omega)) rfl rfl ?_
    clear hM
    rintro _ w ⟨rfl, hM⟩
    rw [letters_lower (by omega)]
    (repeat (first | refine seq_ ?_ | refine sq_normal ?_ | refine rl_nil ?_ | refine cond_f rfl ?_ | refine skip_ ?_ | (refine region_ (id := 7) ?_; (try (refine rl_move (v := (Value.int _ _ : Value)) rfl rfl ?_))) | refine rl_pick (v := (Value.bool _ : Value)) rfl rfl rfl ?_ | (first | refine rl_off rfl ?_ | refine rl_not rfl rfl ?_)))
    refine rl_callf fn16 (letters_ok x w0 w _ V hM (by omega) (.inr hT)) rfl rfl ?_
    clear hM
    rintro _ w ⟨rfl, hM⟩
    (repeat (first | refine rl_move (v := (Value.int _ _ : Value)) rfl rfl ?_))
    refine rl_callf fn16 (letters_ok y w0 w _ V hM (by omega) (.inr hT)) rfl rfl ?_
    clear hM
    rintro _ w ⟨rfl, hM⟩
    by_cases hxy : x = y
    · subst hxy
      (repeat (first | refine rl_move (v := (Value.int _ _ : Value)) rfl rfl ?_ | refine rl_move (v := (Value.bool _ : Value)) rfl rfl ?_ | (first | refine rl_seql_t rfl rfl rfl (by first | rfl | assumption) ?_ | refine rl_seql_f rfl rfl rfl (by first | assumption | decide) ?_) | (first | (refine rl_eql_t rfl rfl rfl ?_ ?_; omega) | (refine rl_eql_f rfl rfl rfl ?_ ?_; omega)) | refine rl_eqbool ub4 rfl rfl rfl ?_))
      refine rl_callf fn16 (letters_ok s w0 w _ V hM (by omega) (.inl (by omega))) rfl rfl ?_
      clear hM
      rintro _ w ⟨rfl, hM⟩
      (repeat (first | refine rl_move (v := (Value.int _ _ : Value)) rfl rfl ?_))
      refine rl_callf fn16 (letters_ok o w0 w _ V hM (by omega) (.inl (by omega))) rfl rfl ?_
      clear hM
      rintro _ w ⟨rfl, hM⟩
      by_cases hso : s = o
      · subst hso
        (repeat (first | refine rl_move (v := (Value.int _ _ : Value)) rfl rfl ?_ | refine rl_move (v := (Value.bool _ : Value)) rfl rfl ?_ | refine rl_pick (v := (Value.bool _ : Value)) rfl rfl rfl ?_ | (first | refine rl_seql_t rfl rfl rfl (by first | rfl | assumption) ?_ | refine rl_seql_f rfl rfl rfl (by first | assumption | decide) ?_) | (first | (refine rl_eql_t rfl rfl rfl ?_ ?_; omega) | (refine rl_eql_f rfl rfl rfl ?_ ?_; omega)) | refine rl_eqbool ub4 rfl rfl rfl ?_))
        refine rl_callf fn15 (lives_ok w0 w _ V hM) rfl rfl ?_
        clear hM
        rintro _ w ⟨rfl, hM⟩
        (repeat (first | refine sq_normal ?_ | refine rl_nil ?_ | refine ret_ ?_ | refine rl_assign (v := (Value.bool _ : Value)) rfl rfl ?_ | refine rl_pick (v := (Value.bool _ : Value)) rfl rfl rfl ?_))
        exact bp_ret1 (v := Value.bool _) rfl rfl ⟨rfl, hM.below⟩
      · have hns : letters s ≠ letters o := fun h => hso (letters_inj.1 h)
        have hni : (s : Int) ≠ o := by omega
        (repeat (first | refine rl_move (v := (Value.int _ _ : Value)) rfl rfl ?_ | refine rl_move (v := (Value.bool _ : Value)) rfl rfl ?_ | refine rl_pick (v := (Value.bool _ : Value)) rfl rfl rfl ?_ | (first | refine rl_seql_t rfl rfl rfl (by first | rfl | assumption) ?_ | refine rl_seql_f rfl rfl rfl (by first | assumption | decide) ?_) | (first | (refine rl_eql_t rfl rfl rfl ?_ ?_; omega) | (refine rl_eql_f rfl rfl rfl ?_ ?_; omega)) | refine rl_eqbool ub4 rfl rfl rfl ?_))
        refine rl_callf fn15 (lives_ok w0 w _ V hM) rfl rfl ?_
        clear hM
        rintro _ w ⟨rfl, hM⟩
        (repeat (first | refine sq_normal ?_ | refine rl_nil ?_ | refine ret_ ?_ | refine rl_assign (v := (Value.bool _ : Value)) rfl rfl ?_ | refine rl_pick (v := (Value.bool _ : Value)) rfl rfl rfl ?_))
        exact bp_ret1 (v := Value.bool _) rfl rfl ⟨rfl, hM.below⟩
    · have hnl : letters x ≠ letters y := fun h => hxy (letters_inj.1 h)
      have hnx : (x : Int) ≠ y := by omega
      (repeat (first | refine rl_move (v := (Value.int _ _ : Value)) rfl rfl ?_ | refine rl_move (v := (Value.bool _ : Value)) rfl rfl ?_ | (first | refine rl_seql_t rfl rfl rfl (by first | rfl | assumption) ?_ | refine rl_seql_f rfl rfl rfl (by first | assumption | decide) ?_) | (first | (refine rl_eql_t rfl rfl rfl ?_ ?_; omega) | (refine rl_eql_f rfl rfl rfl ?_ ?_; omega)) | refine rl_eqbool ub4 rfl rfl rfl ?_))
      refine rl_callf fn16 (letters_ok s w0 w _ V hM (by omega) (.inl (by omega))) rfl rfl ?_
      clear hM
      rintro _ w ⟨rfl, hM⟩
      (repeat (first | refine rl_move (v := (Value.int _ _ : Value)) rfl rfl ?_))
      refine rl_callf fn16 (letters_ok o w0 w _ V hM (by omega) (.inl (by omega))) rfl rfl ?_
      clear hM
      rintro _ w ⟨rfl, hM⟩
      by_cases hso : s = o
      · subst hso
        (repeat (first | refine rl_move (v := (Value.int _ _ : Value)) rfl rfl ?_ | refine rl_move (v := (Value.bool _ : Value)) rfl rfl ?_ | refine rl_pick (v := (Value.bool _ : Value)) rfl rfl rfl ?_ | (first | refine rl_seql_t rfl rfl rfl (by first | rfl | assumption) ?_ | refine rl_seql_f rfl rfl rfl (by first | assumption | decide) ?_) | (first | (refine rl_eql_t rfl rfl rfl ?_ ?_; omega) | (refine rl_eql_f rfl rfl rfl ?_ ?_; omega)) | refine rl_eqbool ub4 rfl rfl rfl ?_))
        refine rl_callf fn15 (lives_ok w0 w _ V hM) rfl rfl ?_
        clear hM
        rintro _ w ⟨rfl, hM⟩
        (repeat (first | refine sq_normal ?_ | refine rl_nil ?_ | refine ret_ ?_ | refine rl_assign (v := (Value.bool _ : Value)) rfl rfl ?_ | refine rl_pick (v := (Value.bool _ : Value)) rfl rfl rfl ?_))
        exact bp_ret1 (v := Value.bool _) rfl rfl ⟨rfl, hM.below⟩
      · have hns : letters s ≠ letters o := fun h => hso (letters_inj.1 h)
        have hni : (s : Int) ≠ o := by omega
        (repeat (first | refine rl_move (v := (Value.int _ _ : Value)) rfl rfl ?_ | refine rl_move (v := (Value.bool _ : Value)) rfl rfl ?_ | refine rl_pick (v := (Value.bool _ : Value)) rfl rfl rfl ?_ | (first | refine rl_seql_t rfl rfl rfl (by first | rfl | assumption) ?_ | refine rl_seql_f rfl rfl rfl (by first | assumption | decide) ?_) | (first | (refine rl_eql_t rfl rfl rfl ?_ ?_; omega) | (refine rl_eql_f rfl rfl rfl ?_ ?_; omega)) | refine rl_eqbool ub4 rfl rfl rfl ?_))
        refine rl_callf fn15 (lives_ok w0 w _ V hM) rfl rfl ?_
        clear hM
        rintro _ w ⟨rfl, hM⟩
        (repeat (first | refine sq_normal ?_ | refine rl_nil ?_ | refine ret_ ?_ | refine rl_assign (v := (Value.bool _ : Value)) rfl rfl ?_ | refine rl_pick (v := (Value.bool _ : Value)) rfl rfl rfl ?_))
        exact bp_ret1 (v := Value.bool _) rfl rfl ⟨rfl, hM.below⟩
  rw [hw0] at key
  exact key
end Go.Proofs.YtbcplbkjeinplaaDoor.Chr
