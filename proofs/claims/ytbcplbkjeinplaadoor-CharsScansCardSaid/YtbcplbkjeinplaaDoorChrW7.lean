/- The walks of strconv.Itoa (off the shelf), chars.Letters, and the laws' example. -/
import Derived.Test.YtbcplbkjeinplaaDoorChrW6
import Derived.Test.YtbcplbkjeinplaaDoorChrS
import Derived.Test.YtbcplbkjeinplaaDoorLexE
import Derived.Lib.AppendIntMem
set_option linter.unusedVariables false
set_option linter.unusedSimpArgs false
namespace Go.Proofs.YtbcplbkjeinplaaDoor.Chr
open Go Go.Eng Go.RowKit Go.Lx
/-- The table of tens lies as the program lays it. -/
abbrev Tens (w : World) : Prop := Lib.TabBelow Tryd.prog w.heap.size w "internal/strconv.uint64pow10" .u64 Lib.pow10Tab
theorem itoa_ok (n : Nat) (w0 w : World) (L : List Ent) (V : Vw) (hM : Mem w0 w L V) (hn : (n : Int) ≤ 9223372036854775807) (ht : n < 100 ∨ Tens w0) :
    CallsOk Tryd.prog 27 #[.int .i64 n] w fun r w' => r = St (Lib.decDigits n) ∧ Mem w0 w' L V := by
  rcases ht with h | h
  · refine (Go.Proofs.Tryd.strconv_Itoa_small n h w).mono ?_
    rintro e w' ⟨rfl, rfl⟩
    exact ⟨_, rfl, rfl, hM⟩
  · refine (Go.Proofs.Tryd.strconv_Itoa n (by omega) hn w (h.on hM.below).here).mono ?_
    rintro e w' ⟨rfl, k, os, rfl⟩
    refine ⟨_, rfl, by rw [Lib.itoa_nonneg], hM.ext (Lib.below_grow _ w (Nat.le_refl _) k os)⟩
attribute [local irreducible] RL RX KQ SQ Exit.inBlock Exit.then BP NP CallsOk IsSl IsRows IsInts IsBools Own Blk Code.wp Calls wpList
set_option maxRecDepth 4000 in
theorem letters_ok (n : Nat) (w0 w : World) (L : List Ent) (V : Vw) (hM : Mem w0 w L V) (hn : (n : Int) ≤ 9223372036854775807) (ht : n < 100 ∨ Tens w0) :
    CallsOk Tryd.prog 16 #[.int .i64 n] w fun r w' => r = St (letters n) ∧ Mem w0 w' L V := by
  have hr : 0 ≤ (n : Int) % 26 ∧ (n : Int) % 26 < 26 := ⟨Int.emod_nonneg _ (by omega), Int.emod_lt_of_pos _ (by omega)⟩
  refine enter_ (N := 17) Tryd.func16 rfl rfl rfl ?_
  have he : (Utf8.encode (97 + (n : Int) % 26)).data.toList = [UInt8.ofNat (97 + n % 26)] := by
    rw [show 97 + (n : Int) % 26 = ((97 + n % 26 : Nat) : Int) by omega]
    exact enc1 _ (by omega)
  (repeat (first | refine seq_ ?_ | refine sq_normal ?_ | refine rl_nil ?_ | (refine region_ (id := 0) ?_; (try (refine rl_assign (v := (Value.string _ : Value)) rfl rfl ?_))) | (refine region_ (id := 1) ?_; (try (refine rl_move (v := (Value.int _ _ : Value)) rfl rfl ?_; (try ((refine rl_rem rfl rfl rfl ?_ ?_ ?_; omega; omega); (try ((refine rl_add rfl rfl rfl ?_ ?_ ?_; omega; omega); (try ((refine rl_kconv rfl (by rw [ui3]; rfl) ui21 rfl (wrap_i32 (by omega) (by omega)) ?_); (try (refine rl_convS ui21 us9 rfl rfl (by first | assumption | exact Lx.enc_eq _) ?_; (try (refine rl_assign (v := (Value.string _ : Value)) rfl rfl ?_))))))))))))) | (refine region_ (id := 2) ?_; (try (refine rl_move (v := (Value.int _ _ : Value)) rfl rfl ?_; (try ((first | (refine rl_lss_t rfl rfl rfl ?_ ?_; omega) | (refine rl_lss_f rfl rfl rfl ?_ ?_; omega)))))))))
  by_cases hs : (n : Int) < 26
  · (repeat (first | refine seq_ ?_ | refine sq_normal ?_ | refine sq_ret ?_ | refine rl_nil ?_ | refine cond_t rfl ?_ | refine ret_ ?_ | (refine region_ (id := 3) ?_; (try (refine rl_move (v := (Value.string _ : Value)) rfl rfl ?_; (try (refine rl_assign (v := (Value.string _ : Value)) rfl rfl ?_))))) | (first | (refine rl_lss_t rfl rfl rfl ?_ ?_; omega) | (refine rl_lss_f rfl rfl rfl ?_ ?_; omega))))
    exact bp_ret1 (v := St _) rfl rfl ⟨by rw [letters, if_pos (by omega)], hM⟩
  · have hq : (n : Int) / 26 = ((n / 26 : Nat) : Int) := by omega
    have hl := dec_len19 (u := n / 26) (by omega)
    (repeat (first | refine seq_ ?_ | refine sq_normal ?_ | refine rl_nil ?_ | refine cond_f rfl ?_ | refine skip_ ?_ | (refine region_ (id := 4) ?_; (try (refine rl_move (v := (Value.string _ : Value)) rfl rfl ?_; (try (refine rl_move (v := (Value.int _ _ : Value)) rfl rfl ?_; (try ((refine rl_quo rfl rfl rfl ?_ ?_ ?_ ?_; omega; omega; omega)))))))) | (first | (refine rl_lss_t rfl rfl rfl ?_ ?_; omega) | (refine rl_lss_f rfl rfl rfl ?_ ?_; omega))))
    rw [hq]
    refine rl_callf fn27 (itoa_ok (n / 26) w0 w _ V hM (by omega) (ht.imp (fun h => by omega) id)) rfl rfl ?_
    clear hM
    rintro _ w ⟨rfl, hM⟩
    (repeat (first | refine sq_normal ?_ | refine rl_nil ?_ | refine ret_ ?_ | refine rl_assign (v := (Value.string _ : Value)) rfl rfl ?_ | (refine rl_sadd rfl rfl rfl (by (first | omega | (simp only [List.length_append, List.length_cons, List.length_nil, List.length_take, List.length_drop] at *; omega))) ?_)))
    exact bp_ret1 (v := St _) rfl rfl ⟨by rw [letters, if_neg (by omega)], hM⟩
theorem lives_ok (w0 w : World) (L : List Ent) (V : Vw) (hM : Mem w0 w L V) : CallsOk Tryd.prog 15 #[] w fun r w' => r = .bool true ∧ Mem w0 w' L V := by
  refine enter_ (N := 14) (args := []) Tryd.func15 rfl rfl rfl ?_
  (repeat (first | refine seq_ ?_ | refine sq_normal ?_ | refine rl_nil ?_ | (refine region_ (id := 0) ?_; (try (refine rl_assign (v := (Value.bool _ : Value)) rfl rfl ?_))) | (refine region_ (id := 1) ?_)))
  refine rl_callf fn21 (print_ok [97, 45, 98] w0 w _ V hM (by decide)) rfl rfl ?_
  clear hM
  rintro _ w ⟨rfl, hM⟩
  have e1 : printP [97, 45, 98] = [97, 39, 50, 100, 98] := by kernel_rfl
  rw [e1]
  (repeat (first | (first | refine rl_seql_t rfl rfl rfl (by first | rfl | assumption) ?_ | refine rl_seql_f rfl rfl rfl (by first | assumption | decide) ?_) | refine rl_move (v := (Value.bool _ : Value)) rfl rfl ?_))
  refine rl_callf fn16 (letters_ok 27 w0 w _ V hM (by decide) (.inl (by decide))) rfl rfl ?_
  clear hM
  rintro _ w ⟨rfl, hM⟩
  have e2 : letters 27 = [98, 49] := by
    unfold letters
    rw [if_neg (by decide), show 27 / 26 = 1 by rfl, Lib.decDigits_one (by decide)]
    rfl
  rw [e2]
  (repeat (first | (first | refine rl_seql_t rfl rfl rfl (by first | rfl | assumption) ?_ | refine rl_seql_f rfl rfl rfl (by first | assumption | decide) ?_) | refine rl_move (v := (Value.bool _ : Value)) rfl rfl ?_ | refine rl_pick (v := (Value.bool _ : Value)) rfl rfl rfl ?_))
  refine rl_callf fn11 (lower_ok [120, 39, 49] w0 w _ V hM (by decide)) rfl rfl ?_
  clear hM
  rintro _ w ⟨rfl, hM⟩
  have e3 : isName 97 122 [120, 39, 49] = true := by kernel_rfl
  rw [e3]
  (repeat (first | refine rl_move (v := (Value.bool _ : Value)) rfl rfl ?_ | refine rl_pick (v := (Value.bool _ : Value)) rfl rfl rfl ?_))
  refine rl_callf fn13 (upper_ok [120] w0 w _ V hM (by decide)) rfl rfl ?_
  clear hM
  rintro _ w ⟨rfl, hM⟩
  have e4 : isName 65 90 [120] = false := by kernel_rfl
  rw [e4]
  (repeat (first | refine sq_normal ?_ | refine rl_nil ?_ | refine ret_ ?_ | refine rl_assign (v := (Value.bool _ : Value)) rfl rfl ?_ | refine rl_pick (v := (Value.bool _ : Value)) rfl rfl rfl ?_ | (first | refine rl_off rfl ?_ | refine rl_not rfl rfl ?_)))
  exact bp_ret1 (v := Value.bool _) rfl rfl ⟨rfl, hM⟩
end Go.Proofs.YtbcplbkjeinplaaDoor.Chr
