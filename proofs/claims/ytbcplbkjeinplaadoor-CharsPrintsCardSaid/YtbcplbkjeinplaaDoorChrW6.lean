/- The walks of fugueref01.Decimal, Letters. -/
import Derived.Test.YtbcplbkjeinplaaDoorChrW5
import Derived.Lib.ItoaNum
set_option linter.unusedVariables false
set_option linter.unusedSimpArgs false
namespace Go.Lx
open Go
theorem dec_len : ∀ (k u : Nat), u < 10 ^ k → 0 < k → (Lib.decDigits u).length ≤ k
  | 0, u, _, h => absurd h (by omega)
  | k + 1, u, h, _ => by
    by_cases h10 : u < 10
    · rw [Lib.decDigits_one h10]; simp
    · rw [Lib.decDigits, dif_neg h10]
      cases k with
      | zero => omega
      | succ k =>
        have := dec_len (k + 1) (u / 10) (by rw [Nat.pow_succ] at h; omega) (by omega)
        simp only [List.length_append, List.length_singleton]; omega
theorem dec_len19 {u : Nat} (h : (u : Int) ≤ 9223372036854775807) : (Lib.decDigits u).length ≤ 19 := dec_len 19 u (by omega) (by decide)
/-- The name of a number. -/
def letters (n : Nat) : List UInt8 := if n < 26 then [UInt8.ofNat (97 + n % 26)] else [UInt8.ofNat (97 + n % 26)] ++ Lib.decDigits (n / 26)
end Go.Lx
namespace Go.Proofs.YtbcplbkjeinplaaDoor.Chr
open Go Go.Eng Go.RowKit Go.Lx
attribute [local irreducible] RL RX KQ SQ Exit.inBlock Exit.then BP NP CallsOk IsSl IsRows IsInts IsBools Own Blk Code.wp Calls wpList
theorem one_row {w0 w : World} {b : Nat} {c : UInt8} {z : Int} {L : List Ent} {V : Vw} (hM : Mem w0 w (.blk b [.int .u8 z] 5 :: L) V) (h : (c.toNat : Int) = z) : ∀ (j : Nat) u, [c][j]? = some u → w.cell? ⟨b, 0 + j, none⟩ = some (.int .u8 u.toNat) := by
  intro j u hj
  cases j with
  | zero =>
    simp at hj; subst hj
    rw [h]
    exact hM.cell (i := 0) (o := 0) rfl rfl
  | succ j => simp at hj
theorem decimal_ok : ∀ (k : Nat) (n : Nat) (w0 w : World) (L : List Ent) (V : Vw), Mem w0 w L V → n < k → (n : Int) ≤ 9223372036854775807 →
    CallsOk Tryd.prog 28 #[.int .i64 n] w fun r w' => r = St (Lib.decDigits n) ∧ Mem w0 w' L V := by
  intro k
  induction k with
  | zero => intro n w0 w L V hM h; omega
  | succ k ih =>
    intro n w0 w L V hM hk hn
    have hr : 0 ≤ (n : Int) % 10 ∧ (n : Int) % 10 < 10 := ⟨Int.emod_nonneg _ (by omega), Int.emod_lt_of_pos _ (by omega)⟩
    refine enter_ (N := 32) Tryd.func28 rfl rfl rfl ?_
    (repeat (first | refine seq_ ?_ | refine sq_normal ?_ | refine rl_nil ?_ | refine cond_f rfl ?_ | refine skip_ ?_ | (refine region_ (id := 0) ?_; (try (refine rl_assign (v := (Value.string _ : Value)) rfl rfl ?_))) | (refine region_ (id := 1) ?_; (try (refine rl_move (v := (Value.int _ _ : Value)) rfl rfl ?_; (try ((refine rl_rem rfl rfl rfl ?_ ?_ ?_; omega; omega); (try (refine rl_assign (v := (Value.int _ _ : Value)) rfl rfl ?_))))))) | (refine region_ (id := 2) ?_; (try (refine rl_move (v := (Value.int _ _ : Value)) rfl rfl ?_; (try ((first | (refine rl_lss_t rfl rfl rfl ?_ ?_; omega) | (refine rl_lss_f rfl rfl rfl ?_ ?_; omega))))))) | (refine region_ (id := 4) ?_; (try (refine rl_move (v := (Value.int _ _ : Value)) rfl rfl ?_; (try ((refine rl_add rfl rfl rfl ?_ ?_ ?_; omega; omega); (try ((refine rl_conv8 (by rw [ui3]; rfl) ui5 rfl rfl ?_ ?_ ?_; omega; omega); (try ((refine rl_bsliceM (d := 14) [_] hM sl23 rfl rfl rfl rfl rfl (by decide) (by decide) ?_; clear hM; intro w b14 hM))))))))))))
    have hdd : ((UInt8.ofNat (48 + n % 10)).toNat : Int) = 48 + (n : Int) % 10 := by
      rw [UInt8.toNat_ofNat']; omega
    refine rl_b2s [UInt8.ofNat (48 + n % 10)] sl23.und (by kernel_rfl) us9 rfl rfl rfl (one_row hM hdd) ?_
    by_cases hs : (n : Int) < 10
    · (repeat (first | refine seq_ ?_ | refine sq_normal ?_ | refine sq_ret ?_ | refine rl_nil ?_ | refine cond_t rfl ?_ | refine cond_f rfl ?_ | refine skip_ ?_ | refine ret_ ?_ | (refine region_ (id := 5) ?_; (try (refine rl_move (v := (Value.int _ _ : Value)) rfl rfl ?_; (try ((first | (refine rl_gtr_t rfl rfl rfl ?_ ?_; omega) | (refine rl_gtr_f rfl rfl rfl ?_ ?_; omega)); (try (refine rl_move (v := (Value.bool _ : Value)) rfl rfl ?_; (try ((first | refine rl_off rfl ?_ | refine rl_move (v := (Value.int _ _ : Value)) rfl rfl ?_); (try ((first | refine rl_off rfl ?_ | (refine rl_lss_t rfl rfl rfl ?_ ?_; omega) | (refine rl_lss_f rfl rfl rfl ?_ ?_; omega)); (try (refine rl_pick (v := (Value.bool _ : Value)) rfl rfl rfl ?_))))))))))))) | (refine region_ (id := 6) ?_; (try (refine rl_move (v := (Value.int _ _ : Value)) rfl rfl ?_; (try ((first | (refine rl_lss_t rfl rfl rfl ?_ ?_; omega) | (refine rl_lss_f rfl rfl rfl ?_ ?_; omega))))))) | (refine region_ (id := 8) ?_; (try (refine rl_move (v := (Value.string _ : Value)) rfl rfl ?_; (try (refine rl_assign (v := (Value.string _ : Value)) rfl rfl ?_))))) | refine rl_assign (v := (Value.string _ : Value)) rfl rfl ?_))
      refine bp_ret1 (v := St _) rfl rfl ⟨?_, hM.dropn 1⟩
      rw [Lib.decDigits_one (by omega), Nat.mod_eq_of_lt (by omega)]
    · have hq : (n : Int) / 10 = ((n / 10 : Nat) : Int) := by omega
      have hl := dec_len19 (u := n / 10) (by omega)
      (repeat (first | refine seq_ ?_ | refine sq_normal ?_ | refine rl_nil ?_ | refine cond_f rfl ?_ | refine skip_ ?_ | (refine region_ (id := 5) ?_; (try (refine rl_move (v := (Value.int _ _ : Value)) rfl rfl ?_; (try ((first | (refine rl_gtr_t rfl rfl rfl ?_ ?_; omega) | (refine rl_gtr_f rfl rfl rfl ?_ ?_; omega)); (try (refine rl_move (v := (Value.bool _ : Value)) rfl rfl ?_; (try ((first | refine rl_off rfl ?_ | refine rl_move (v := (Value.int _ _ : Value)) rfl rfl ?_); (try ((first | refine rl_off rfl ?_ | (refine rl_lss_t rfl rfl rfl ?_ ?_; omega) | (refine rl_lss_f rfl rfl rfl ?_ ?_; omega)); (try (refine rl_pick (v := (Value.bool _ : Value)) rfl rfl rfl ?_))))))))))))) | (refine region_ (id := 9) ?_; (try (refine rl_move (v := (Value.int _ _ : Value)) rfl rfl ?_; (try ((refine rl_quo rfl rfl rfl ?_ ?_ ?_ ?_; omega; omega; omega)))))) | refine rl_assign (v := (Value.string _ : Value)) rfl rfl ?_))
      rw [hq]
      refine rl_callf fn28 (ih (n / 10) w0 w _ V hM (by omega) (by omega)) rfl rfl ?_
      clear hM
      rintro _ w ⟨rfl, hM⟩
      (repeat (first | refine sq_normal ?_ | refine rl_nil ?_ | refine ret_ ?_ | refine rl_assign (v := (Value.string _ : Value)) rfl rfl ?_ | refine rl_move (v := (Value.string _ : Value)) rfl rfl ?_ | (refine rl_sadd rfl rfl rfl (by (first | omega | (simp only [List.length_append, List.length_cons, List.length_nil, List.length_take, List.length_drop] at *; omega))) ?_)))
      refine bp_ret1 (v := St _) rfl rfl ⟨?_, hM.dropn 1⟩
      rw [Lib.decDigits.eq_def n, dif_neg (by omega)]
theorem refletters_ok (n : Nat) (w0 w : World) (L : List Ent) (V : Vw) (hM : Mem w0 w L V) (hn : (n : Int) ≤ 9223372036854775807) :
    CallsOk Tryd.prog 17 #[.int .i64 n] w fun r w' => r = St (letters n) ∧ Mem w0 w' L V := by
  have hr : 0 ≤ (n : Int) % 26 ∧ (n : Int) % 26 < 26 := ⟨Int.emod_nonneg _ (by omega), Int.emod_lt_of_pos _ (by omega)⟩
  refine enter_ (N := 18) Tryd.func17 rfl rfl rfl ?_
  (repeat (first | refine seq_ ?_ | refine sq_normal ?_ | refine rl_nil ?_ | (refine region_ (id := 0) ?_; (try (refine rl_assign (v := (Value.string _ : Value)) rfl rfl ?_))) | (refine region_ (id := 1) ?_; (try (refine rl_move (v := (Value.int _ _ : Value)) rfl rfl ?_; (try ((refine rl_rem rfl rfl rfl ?_ ?_ ?_; omega; omega); (try ((refine rl_add rfl rfl rfl ?_ ?_ ?_; omega; omega); (try ((refine rl_conv8 (by rw [ui3]; rfl) ui5 rfl rfl ?_ ?_ ?_; omega; omega); (try ((refine rl_bsliceM (d := 8) [_] hM sl23 rfl rfl rfl rfl rfl (by decide) (by decide) ?_; clear hM; intro w b8 hM))))))))))))))
  have hdd : ((UInt8.ofNat (97 + n % 26)).toNat : Int) = 97 + (n : Int) % 26 := by
    rw [UInt8.toNat_ofNat']; omega
  refine rl_b2s [UInt8.ofNat (97 + n % 26)] sl23.und (by kernel_rfl) us9 rfl rfl rfl (one_row hM hdd) ?_
  by_cases hs : (n : Int) < 26
  · (repeat (first | refine seq_ ?_ | refine sq_normal ?_ | refine sq_ret ?_ | refine rl_nil ?_ | refine cond_t rfl ?_ | refine ret_ ?_ | (refine region_ (id := 2) ?_; (try (refine rl_move (v := (Value.int _ _ : Value)) rfl rfl ?_; (try ((first | (refine rl_lss_t rfl rfl rfl ?_ ?_; omega) | (refine rl_lss_f rfl rfl rfl ?_ ?_; omega))))))) | (refine region_ (id := 3) ?_; (try (refine rl_move (v := (Value.string _ : Value)) rfl rfl ?_; (try (refine rl_assign (v := (Value.string _ : Value)) rfl rfl ?_))))) | refine rl_assign (v := (Value.string _ : Value)) rfl rfl ?_))
    exact bp_ret1 (v := St _) rfl rfl ⟨by rw [letters, if_pos (by omega)], hM.dropn 1⟩
  · have hq : (n : Int) / 26 = ((n / 26 : Nat) : Int) := by omega
    have hl := dec_len19 (u := n / 26) (by omega)
    (repeat (first | refine seq_ ?_ | refine sq_normal ?_ | refine rl_nil ?_ | refine cond_f rfl ?_ | refine skip_ ?_ | (refine region_ (id := 2) ?_; (try (refine rl_move (v := (Value.int _ _ : Value)) rfl rfl ?_; (try ((first | (refine rl_lss_t rfl rfl rfl ?_ ?_; omega) | (refine rl_lss_f rfl rfl rfl ?_ ?_; omega))))))) | (refine region_ (id := 4) ?_; (try (refine rl_move (v := (Value.string _ : Value)) rfl rfl ?_; (try (refine rl_move (v := (Value.int _ _ : Value)) rfl rfl ?_; (try ((refine rl_quo rfl rfl rfl ?_ ?_ ?_ ?_; omega; omega; omega)))))))) | refine rl_assign (v := (Value.string _ : Value)) rfl rfl ?_))
    rw [hq]
    refine rl_callf fn28 (decimal_ok _ (n / 26) w0 w _ V hM (Nat.lt_succ_self _) (by omega)) rfl rfl ?_
    clear hM
    rintro _ w ⟨rfl, hM⟩
    (repeat (first | refine sq_normal ?_ | refine rl_nil ?_ | refine ret_ ?_ | refine rl_assign (v := (Value.string _ : Value)) rfl rfl ?_ | (refine rl_sadd rfl rfl rfl (by (first | omega | (simp only [List.length_append, List.length_cons, List.length_nil, List.length_take, List.length_drop] at *; omega))) ?_)))
    exact bp_ret1 (v := St _) rfl rfl ⟨by rw [letters, if_neg (by omega)], hM.dropn 1⟩
end Go.Proofs.YtbcplbkjeinplaaDoor.Chr
