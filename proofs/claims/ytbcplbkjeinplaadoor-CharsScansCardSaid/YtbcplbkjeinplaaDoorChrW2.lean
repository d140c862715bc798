/- The walks of names. -/
import Derived.Test.YtbcplbkjeinplaaDoorChrW1
import Derived.Test.YtbcplbkjeinplaaDoorEng24
set_option linter.unusedVariables false
set_option linter.unusedSimpArgs false
namespace Go.Proofs.YtbcplbkjeinplaaDoor.Chr
open Go Go.Eng Go.RowKit Go.Lx
attribute [local irreducible] RL RX KQ SQ Exit.inBlock Exit.then BP NP CallsOk IsSl IsRows IsInts IsBools Own Blk Code.wp Calls wpList
theorem fst_get {lo hi : Nat} {s : List UInt8} {c : UInt8} (h : s[0]? = some c) : fst lo hi s = (decide (lo ≤ c.toNat) && decide (c.toNat ≤ hi)) := by
  cases s with
  | nil => cases h
  | cons a s => simp at h; subst h; rfl
set_option maxHeartbeats 1000000 in
theorem name_ok (s : List UInt8) (lo hi : Nat) (w0 w : World) (L : List Ent) (V : Vw) (hM : Mem w0 w L V) (hs : s.length ≤ 1000000000) :
    CallsOk Tryd.prog 25 #[St s, .int .i32 lo, .int .i32 hi] w fun r w' => r = .bool (isName lo hi s) ∧ Mem w0 w' L V := by
  refine enter_ (N := 47) Tryd.func25 rfl rfl rfl ?_
  (repeat (first | refine seq_ ?_ | refine sq_normal ?_ | refine rl_nil ?_ | refine block_ ?_ | (refine region_ (id := 0) ?_; (try ((refine rl_boxM (d := 4) hM rfl rfl rfl ?_; clear hM; intro w b4 hM); (try ((refine rl_boxM (d := 5) hM rfl rfl rfl ?_; clear hM; intro w b5 hM); (try (refine rl_assign (v := (Value.bool _ : Value)) rfl rfl ?_))))))) | (refine region_ (id := 1) ?_; (try (refine rl_mkfunc2 (v1 := Value.pointer (some _)) (v2 := Value.pointer (some _)) rfl rfl rfl ?_; (try ((first | refine rl_assign (v := (Value.func _ _ _ : Value)) rfl rfl ?_ | refine rl_assign (v := (Value.nilFunc : Value)) rfl rfl ?_)))))) | (refine region_ (id := 2) ?_; (try (refine rl_move (v := (Value.string _ : Value)) rfl rfl ?_; (try ((refine rl_rangeM (d := 12) hM us9 rfl rfl ?_; clear hM; intro w b12 hM))))))))
  refine loop0 [(6, 7), (8, 10), (13, 40)] (fun m wr => ∃ p : Nat, p ≤ s.length ∧ m = s.length - p ∧ Mem w0 wr (.iter b12 s p :: .blk b5 [.int .i32 hi] 21 :: .blk b4 [.int .i32 lo] 21 :: L) V ∧ (s.take p).all sign = true ∧ (0 < p → fst lo hi s = true)) _
    ⟨0, by omega, rfl, hM, by simp, fun h => absurd h (by omega)⟩ ?_
  clear hM
  rintro m τ w ⟨p, hp, rfl, hM, hall, hfst⟩ K0 hL0
  by_cases hlt : p < s.length
  · obtain ⟨c, hc⟩ : ∃ c, s[p]? = some c := ⟨_, List.getElem?_eq_getElem hlt⟩
    by_cases hc7 : c.toNat < 128
    · (repeat (first | refine seq_ ?_ | (refine region_ (id := 3) ?_)))
      refine rl_nextLo 0 hM rfl rfl rfl hc hc7 ?_
      clear hM
      intro w hM
      (repeat (first | refine seq_ ?_ | refine sq_normal ?_ | refine rl_nil ?_ | refine cond_t rfl ?_ | refine skip_ ?_ | refine block_ ?_ | (refine region_ (id := 4) ?_; (try (refine rl_extract rfl rfl rfl ?_; (try (refine rl_extract rfl rfl rfl ?_; (try (refine rl_assign (v := (Value.int _ _ : Value)) rfl rfl ?_; (try (refine rl_assign (v := (Value.int _ _ : Value)) rfl rfl ?_))))))))) | (refine region_ (id := 5) ?_; (try (refine rl_move (v := (Value.int _ _ : Value)) rfl rfl ?_; (try ((first | (refine rl_kgtr_t rfl rfl rfl ?_ ?_; omega) | (refine rl_kgtr_f rfl rfl rfl ?_ ?_; omega)); (try (refine rl_move (v := (Value.bool _ : Value)) rfl rfl ?_; (try ((first | refine rl_off rfl ?_ | refine rl_move (v := (Value.func _ _ _ : Value)) rfl rfl ?_ | refine rl_move (v := (Value.nilFunc : Value)) rfl rfl ?_); (try ((first | refine rl_off rfl ?_ | refine rl_move (v := (Value.int _ _ : Value)) rfl rfl ?_); (try ((first | refine rl_off rfl ?_ | refine rl_move (v := (Value.int _ _ : Value)) rfl rfl ?_)))))))))))))) | refine rl_extract rfl rfl rfl ?_))
      refine rl_callv fn38 (cap := [_, _]) (first_ok p c.toNat lo hi b4 b5 w (hM.cell (i := 2) rfl rfl) (hM.cell (i := 1) rfl rfl)) rfl rfl rfl ?_
      rintro _ w ⟨rfl, rfl⟩
      have ef : (decide ((0 : Int) < p) || (decide ((lo : Int) ≤ c.toNat) && decide ((c.toNat : Int) ≤ hi))) = (decide (0 < p) || (decide (lo ≤ c.toNat) && decide (c.toNat ≤ hi))) := by
        congr 1
        · exact decide_eq_decide.2 (by omega)
        · congr 1 <;> exact decide_eq_decide.2 (by omega)
      rw [ef]
      have hff : p = 0 → fst lo hi s = (decide (lo ≤ c.toNat) && decide (c.toNat ≤ hi)) := fun h => by subst h; exact fst_get hc
      cases hf : (decide (0 < p) || (decide (lo ≤ c.toNat) && decide (c.toNat ≤ hi))) with
      | false =>
        (repeat (first | refine seq_ ?_ | refine sq_normal ?_ | refine sq_ret ?_ | refine rl_nil ?_ | refine cond_t rfl ?_ | refine ret_ ?_ | refine inBlock_ret ?_ | refine kq_ret ?_ | (refine region_ (id := 6) ?_; (try (refine rl_assign (v := (Value.bool _ : Value)) rfl rfl ?_))) | refine rl_move (v := (Value.bool _ : Value)) rfl rfl ?_ | (first | refine rl_off rfl ?_ | refine rl_move (v := (Value.func _ _ _ : Value)) rfl rfl ?_ | refine rl_move (v := (Value.nilFunc : Value)) rfl rfl ?_) | (first | refine rl_off rfl ?_ | refine rl_not rfl rfl ?_) | refine rl_pick (v := (Value.bool _ : Value)) rfl rfl rfl ?_))
        refine bp_ret1 (v := Value.bool _) rfl rfl ⟨?_, hM.dropn 3⟩
        rw [Bool.or_eq_false_iff, decide_eq_false_iff_not] at hf
        have : fst lo hi s = false := by rw [hff (by omega), hf.2]
        simp [isName, this]
      | true =>
        have hf2 : fst lo hi s = true := by
          by_cases h0 : 0 < p
          · exact hfst h0
          · rw [hff (by omega)]
            rw [decide_eq_false h0] at hf
            exact hf
        (repeat (first | refine rl_move (v := (Value.int _ _ : Value)) rfl rfl ?_ | refine rl_move (v := (Value.bool _ : Value)) rfl rfl ?_ | (first | refine rl_off rfl ?_ | refine rl_not rfl rfl ?_) | refine rl_pick (v := (Value.bool _ : Value)) rfl rfl rfl ?_ | (first | refine rl_off rfl ?_ | (refine rl_conv8 (by rw [ui21]; rfl) ui5 rfl rfl ?_ ?_ ?_; omega; omega))))
        refine rl_callf fn31 (plain_ok c w) rfl rfl ?_
        rintro _ w ⟨rfl, rfl⟩
        cases hpl : plain c with
        | true =>
          (repeat (first | refine sq_normal ?_ | refine rl_nil ?_ | refine cond_f rfl ?_ | refine skip_ ?_ | refine inBlock_normal ?_ | refine rl_move (v := (Value.bool _ : Value)) rfl rfl ?_ | (first | refine rl_off rfl ?_ | refine rl_move (v := (Value.func _ _ _ : Value)) rfl rfl ?_ | refine rl_move (v := (Value.nilFunc : Value)) rfl rfl ?_) | (first | refine rl_off rfl ?_ | refine rl_not rfl rfl ?_) | refine rl_pick (v := (Value.bool _ : Value)) rfl rfl rfl ?_))
          refine kq_normal (hL0 (s.length - (p + 1)) _ _ (by omega) (by (repeat (first | with_reducible exact Agree.ov | with_reducible exact Agree.refl _ _ | refine Agree.upd rfl ?_ | refine Agree.ovs rfl ?_))) ⟨p + 1, by omega, rfl, hM, all_take_succ hc hall (by simp [sign, hpl]), fun _ => hf2⟩)
        | false =>
          by_cases h3 : c.toNat = 39
          · (repeat (first | refine sq_normal ?_ | refine rl_nil ?_ | refine cond_f rfl ?_ | refine skip_ ?_ | refine inBlock_normal ?_ | refine rl_move (v := (Value.int _ _ : Value)) rfl rfl ?_ | refine rl_move (v := (Value.bool _ : Value)) rfl rfl ?_ | (first | refine rl_off rfl ?_ | refine rl_move (v := (Value.func _ _ _ : Value)) rfl rfl ?_ | refine rl_move (v := (Value.nilFunc : Value)) rfl rfl ?_) | (first | refine rl_off rfl ?_ | refine rl_not rfl rfl ?_) | refine rl_pick (v := (Value.bool _ : Value)) rfl rfl rfl ?_ | (first | refine rl_off rfl ?_ | (refine rl_kneq_t rfl rfl rfl ?_ ?_; omega) | (refine rl_kneq_f rfl rfl rfl ?_ ?_; omega))))
            refine kq_normal (hL0 (s.length - (p + 1)) _ _ (by omega) (by (repeat (first | with_reducible exact Agree.ov | with_reducible exact Agree.refl _ _ | refine Agree.upd rfl ?_ | refine Agree.ovs rfl ?_))) ⟨p + 1, by omega, rfl, hM, all_take_succ hc hall (by simp [sign, h3]), fun _ => hf2⟩)
          · by_cases h4 : c.toNat = 95
            · (repeat (first | refine sq_normal ?_ | refine rl_nil ?_ | refine cond_f rfl ?_ | refine skip_ ?_ | refine inBlock_normal ?_ | refine rl_move (v := (Value.int _ _ : Value)) rfl rfl ?_ | refine rl_move (v := (Value.bool _ : Value)) rfl rfl ?_ | (first | refine rl_off rfl ?_ | refine rl_not rfl rfl ?_) | refine rl_pick (v := (Value.bool _ : Value)) rfl rfl rfl ?_ | (first | refine rl_off rfl ?_ | (refine rl_kneq_t rfl rfl rfl ?_ ?_; omega) | (refine rl_kneq_f rfl rfl rfl ?_ ?_; omega))))
              refine kq_normal (hL0 (s.length - (p + 1)) _ _ (by omega) (by (repeat (first | with_reducible exact Agree.ov | with_reducible exact Agree.refl _ _ | refine Agree.upd rfl ?_ | refine Agree.ovs rfl ?_))) ⟨p + 1, by omega, rfl, hM, all_take_succ hc hall (by simp [sign, h4]), fun _ => hf2⟩)
            · (repeat (first | refine seq_ ?_ | refine sq_normal ?_ | refine sq_ret ?_ | refine rl_nil ?_ | refine cond_t rfl ?_ | refine ret_ ?_ | refine inBlock_ret ?_ | refine kq_ret ?_ | (refine region_ (id := 6) ?_; (try (refine rl_assign (v := (Value.bool _ : Value)) rfl rfl ?_))) | refine rl_move (v := (Value.int _ _ : Value)) rfl rfl ?_ | refine rl_move (v := (Value.bool _ : Value)) rfl rfl ?_ | (first | refine rl_off rfl ?_ | refine rl_not rfl rfl ?_) | refine rl_pick (v := (Value.bool _ : Value)) rfl rfl rfl ?_ | (first | refine rl_off rfl ?_ | (refine rl_kneq_t rfl rfl rfl ?_ ?_; omega) | (refine rl_kneq_f rfl rfl rfl ?_ ?_; omega))))
              refine bp_ret1 (v := Value.bool _) rfl rfl ⟨?_, hM.dropn 3⟩
              rw [isName_false hc (by simp [sign, hpl, h3, h4])]
    · (repeat (first | refine seq_ ?_ | (refine region_ (id := 3) ?_)))
      refine rl_nextHi 0 hM rfl rfl rfl hc (by omega) ?_
      clear hM
      intro w q n hn hM
      (repeat (first | refine seq_ ?_ | refine sq_normal ?_ | refine sq_ret ?_ | refine rl_nil ?_ | refine cond_t rfl ?_ | refine skip_ ?_ | refine ret_ ?_ | refine block_ ?_ | refine inBlock_ret ?_ | refine kq_ret ?_ | (refine region_ (id := 4) ?_; (try (refine rl_extract rfl rfl rfl ?_; (try (refine rl_extract rfl rfl rfl ?_; (try (refine rl_assign (v := (Value.int _ _ : Value)) rfl rfl ?_; (try (refine rl_assign (v := (Value.int _ _ : Value)) rfl rfl ?_))))))))) | (refine region_ (id := 5) ?_; (try (refine rl_move (v := (Value.int _ _ : Value)) rfl rfl ?_; (try ((first | (refine rl_kgtr_t rfl rfl rfl ?_ ?_; omega) | (refine rl_kgtr_f rfl rfl rfl ?_ ?_; omega)); (try (refine rl_move (v := (Value.bool _ : Value)) rfl rfl ?_; (try ((first | refine rl_off rfl ?_ | refine rl_move (v := (Value.func _ _ _ : Value)) rfl rfl ?_ | refine rl_move (v := (Value.nilFunc : Value)) rfl rfl ?_); (try ((first | refine rl_off rfl ?_ | refine rl_move (v := (Value.int _ _ : Value)) rfl rfl ?_); (try ((first | refine rl_off rfl ?_ | refine rl_move (v := (Value.int _ _ : Value)) rfl rfl ?_)))))))))))))) | (refine region_ (id := 6) ?_; (try (refine rl_assign (v := (Value.bool _ : Value)) rfl rfl ?_))) | refine rl_extract rfl rfl rfl ?_ | refine rl_move (v := (Value.bool _ : Value)) rfl rfl ?_ | (first | refine rl_off rfl ?_ | refine rl_move (v := (Value.func _ _ _ : Value)) rfl rfl ?_ | refine rl_move (v := (Value.nilFunc : Value)) rfl rfl ?_) | refine rl_pick (v := (Value.bool _ : Value)) rfl rfl rfl ?_))
      refine bp_ret1 (v := Value.bool _) rfl rfl ⟨?_, hM.dropn 3⟩
      cases hsg : sign c with
      | false => rw [isName_false hc hsg]
      | true => exact absurd (sign_lt hsg) hc7
  · have hpe : p = s.length := by omega
    subst hpe
    rw [List.take_length] at hall
    (repeat (first | refine seq_ ?_ | (refine region_ (id := 3) ?_)))
    refine rl_nextE 0 hM rfl rfl rfl (by omega) ?_
    by_cases h0 : s = []
    · subst h0
      (repeat (first | refine seq_ ?_ | refine sq_normal ?_ | refine sq_exit ?_ | refine rl_nil ?_ | refine cond_f rfl ?_ | refine ret_ ?_ | refine exit_ ?_ | refine inBlock_exit ?_ | refine kq_exit ?_ | (refine region_ (id := 7) ?_; (try (refine rl_move (v := (Value.string _ : Value)) rfl rfl ?_; (try ((first | refine rl_sneq_f rfl rfl rfl (by first | rfl | assumption) ?_ | refine rl_sneq_t rfl rfl rfl (by first | assumption | decide) ?_); (try (refine rl_move (v := (Value.bool _ : Value)) rfl rfl ?_; (try ((first | refine rl_off rfl ?_ | refine rl_move (v := (Value.string _ : Value)) rfl rfl ?_); (try ((first | refine rl_off rfl ?_ | refine rl_slen us9 rfl rfl ?_); (try ((first | refine rl_off rfl ?_ | (refine rl_leq_t rfl rfl rfl ?_ ?_; omega) | (refine rl_leq_f rfl rfl rfl ?_ ?_; omega)); (try (refine rl_pick (v := (Value.bool _ : Value)) rfl rfl rfl ?_; (try (refine rl_assign (v := (Value.bool _ : Value)) rfl rfl ?_))))))))))))))))) | refine rl_extract rfl rfl rfl ?_))
      exact bp_ret1 (v := Value.bool _) rfl rfl ⟨rfl, hM.dropn 3⟩
    · have hf2 := hfst (List.length_pos_iff.2 h0)
      by_cases h32 : s.length ≤ 32
      · (repeat (first | refine seq_ ?_ | refine sq_normal ?_ | refine sq_exit ?_ | refine rl_nil ?_ | refine cond_f rfl ?_ | refine ret_ ?_ | refine exit_ ?_ | refine inBlock_exit ?_ | refine kq_exit ?_ | (refine region_ (id := 7) ?_; (try (refine rl_move (v := (Value.string _ : Value)) rfl rfl ?_; (try ((first | refine rl_sneq_f rfl rfl rfl (by first | rfl | assumption) ?_ | refine rl_sneq_t rfl rfl rfl (by first | assumption | decide) ?_); (try (refine rl_move (v := (Value.bool _ : Value)) rfl rfl ?_; (try ((first | refine rl_off rfl ?_ | refine rl_move (v := (Value.string _ : Value)) rfl rfl ?_); (try ((first | refine rl_off rfl ?_ | refine rl_slen us9 rfl rfl ?_); (try ((first | refine rl_off rfl ?_ | (refine rl_leq_t rfl rfl rfl ?_ ?_; omega) | (refine rl_leq_f rfl rfl rfl ?_ ?_; omega)); (try (refine rl_pick (v := (Value.bool _ : Value)) rfl rfl rfl ?_; (try (refine rl_assign (v := (Value.bool _ : Value)) rfl rfl ?_))))))))))))))))) | refine rl_extract rfl rfl rfl ?_))
        refine bp_ret1 (v := Value.bool _) rfl rfl ⟨?_, hM.dropn 3⟩
        rw [isName_iff.2 ⟨h0, h32, hall, hf2⟩]
      · (repeat (first | refine seq_ ?_ | refine sq_normal ?_ | refine sq_exit ?_ | refine rl_nil ?_ | refine cond_f rfl ?_ | refine ret_ ?_ | refine exit_ ?_ | refine inBlock_exit ?_ | refine kq_exit ?_ | (refine region_ (id := 7) ?_; (try (refine rl_move (v := (Value.string _ : Value)) rfl rfl ?_; (try ((first | refine rl_sneq_f rfl rfl rfl (by first | rfl | assumption) ?_ | refine rl_sneq_t rfl rfl rfl (by first | assumption | decide) ?_); (try (refine rl_move (v := (Value.bool _ : Value)) rfl rfl ?_; (try ((first | refine rl_off rfl ?_ | refine rl_move (v := (Value.string _ : Value)) rfl rfl ?_); (try ((first | refine rl_off rfl ?_ | refine rl_slen us9 rfl rfl ?_); (try ((first | refine rl_off rfl ?_ | (refine rl_leq_t rfl rfl rfl ?_ ?_; omega) | (refine rl_leq_f rfl rfl rfl ?_ ?_; omega)); (try (refine rl_pick (v := (Value.bool _ : Value)) rfl rfl rfl ?_; (try (refine rl_assign (v := (Value.bool _ : Value)) rfl rfl ?_))))))))))))))))) | refine rl_extract rfl rfl rfl ?_))
        refine bp_ret1 (v := Value.bool _) rfl rfl ⟨?_, hM.dropn 3⟩
        simp [isName, h32]
theorem lower_ok (s : List UInt8) (w0 w : World) (L : List Ent) (V : Vw) (hM : Mem w0 w L V) (hs : s.length ≤ 1000000000) :
    CallsOk Tryd.prog 11 #[St s] w fun r w' => r = .bool (isName 97 122 s) ∧ Mem w0 w' L V := by
  refine enter_ (N := 5) Tryd.func11 rfl rfl rfl ?_
  (repeat (first | refine seq_ ?_ | refine sq_normal ?_ | refine rl_nil ?_ | (refine region_ (id := 0) ?_; (try (refine rl_assign (v := (Value.bool _ : Value)) rfl rfl ?_))) | (refine region_ (id := 1) ?_; (try (refine rl_move (v := (Value.string _ : Value)) rfl rfl ?_)))))
  refine rl_callf fn25 (name_ok s 97 122 w0 w _ V hM hs) rfl rfl ?_
  clear hM
  rintro _ w ⟨rfl, hM⟩
  (repeat (first | refine sq_normal ?_ | refine rl_nil ?_ | refine ret_ ?_ | refine rl_assign (v := (Value.bool _ : Value)) rfl rfl ?_))
  exact bp_ret1 (v := Value.bool _) rfl rfl ⟨rfl, hM⟩
theorem upper_ok (s : List UInt8) (w0 w : World) (L : List Ent) (V : Vw) (hM : Mem w0 w L V) (hs : s.length ≤ 1000000000) :
    CallsOk Tryd.prog 13 #[St s] w fun r w' => r = .bool (isName 65 90 s) ∧ Mem w0 w' L V := by
  refine enter_ (N := 5) Tryd.func13 rfl rfl rfl ?_
  (repeat (first | refine seq_ ?_ | refine sq_normal ?_ | refine rl_nil ?_ | (refine region_ (id := 0) ?_; (try (refine rl_assign (v := (Value.bool _ : Value)) rfl rfl ?_))) | (refine region_ (id := 1) ?_; (try (refine rl_move (v := (Value.string _ : Value)) rfl rfl ?_)))))
  refine rl_callf fn25 (name_ok s 65 90 w0 w _ V hM hs) rfl rfl ?_
  clear hM
  rintro _ w ⟨rfl, hM⟩
  (repeat (first | refine sq_normal ?_ | refine rl_nil ?_ | refine ret_ ?_ | refine rl_assign (v := (Value.bool _ : Value)) rfl rfl ?_))
  exact bp_ret1 (v := Value.bool _) rfl rfl ⟨rfl, hM⟩
set_option maxHeartbeats 1000000 in
theorem refname_ok (s : List UInt8) (lo hi : UInt8) (w : World) (hs : s.length ≤ 1000000000) :
    CallsOk Tryd.prog 26 #[St s, .int .u8 lo.toNat, .int .u8 hi.toNat] w fun r w' => r = .bool (isName lo.toNat hi.toNat s) ∧ w' = w := by
  refine enter_ (N := 46) Tryd.func26 rfl rfl rfl ?_
  have hM := Mem.init w
  by_cases h0 : s.length = 0
  · have : s = [] := List.eq_nil_of_length_eq_zero h0
    subst this
    have hq0 : (([] : List UInt8).length : Int) = 0 := rfl
    (repeat (first | refine seq_ ?_ | refine sq_normal ?_ | refine sq_ret ?_ | refine rl_nil ?_ | refine cond_t rfl ?_ | refine ret_ ?_ | (refine region_ (id := 0) ?_; (try (refine rl_assign (v := (Value.bool _ : Value)) rfl rfl ?_))) | (refine region_ (id := 1) ?_; (try (refine rl_move (v := (Value.string _ : Value)) rfl rfl ?_; (try (refine rl_slen us9 rfl rfl ?_; (try ((first | (refine rl_eql_t rfl rfl rfl ?_ ?_; omega) | (refine rl_eql_f rfl rfl rfl ?_ ?_; omega)); (try (refine rl_move (v := (Value.bool _ : Value)) rfl rfl ?_; (try ((first | refine rl_off rfl ?_ | refine rl_move (v := (Value.string _ : Value)) rfl rfl ?_); (try ((first | refine rl_off rfl ?_ | refine rl_slen us9 rfl rfl ?_); (try ((first | refine rl_off rfl ?_ | (refine rl_gtr_t rfl rfl rfl ?_ ?_; omega) | (refine rl_gtr_f rfl rfl rfl ?_ ?_; omega)); (try (refine rl_pick (v := (Value.bool _ : Value)) rfl rfl rfl ?_))))))))))))))))) | (refine region_ (id := 2) ?_; (try (refine rl_assign (v := (Value.bool _ : Value)) rfl rfl ?_)))))
    exact bp_ret1 (v := Value.bool _) rfl rfl ⟨rfl, rfl⟩
  by_cases h32 : s.length ≤ 32
  · (repeat (first | refine seq_ ?_ | refine sq_normal ?_ | refine rl_nil ?_ | refine cond_f rfl ?_ | refine skip_ ?_ | refine block_ ?_ | (refine region_ (id := 0) ?_; (try (refine rl_assign (v := (Value.bool _ : Value)) rfl rfl ?_))) | (refine region_ (id := 1) ?_; (try (refine rl_move (v := (Value.string _ : Value)) rfl rfl ?_; (try (refine rl_slen us9 rfl rfl ?_; (try ((first | (refine rl_eql_t rfl rfl rfl ?_ ?_; omega) | (refine rl_eql_f rfl rfl rfl ?_ ?_; omega)); (try (refine rl_move (v := (Value.bool _ : Value)) rfl rfl ?_; (try ((first | refine rl_off rfl ?_ | refine rl_move (v := (Value.string _ : Value)) rfl rfl ?_); (try ((first | refine rl_off rfl ?_ | refine rl_slen us9 rfl rfl ?_); (try ((first | refine rl_off rfl ?_ | (refine rl_gtr_t rfl rfl rfl ?_ ?_; omega) | (refine rl_gtr_f rfl rfl rfl ?_ ?_; omega)); (try (refine rl_pick (v := (Value.bool _ : Value)) rfl rfl rfl ?_))))))))))))))))) | (refine region_ (id := 3) ?_; (try (refine rl_assign (v := (Value.int _ _ : Value)) rfl rfl ?_)))))
    refine loop1 [(6, 9), (17, 41)] 7 (fun m v wr => ∃ p : Nat, v = .int .i64 p ∧ p ≤ s.length ∧ m = s.length - p ∧ wr = w ∧ (s.take p).all sign = true) _
      ⟨0, rfl, by omega, rfl, rfl, by simp⟩ ?_
    rintro m τ v w' ⟨p, rfl, hp, rfl, hw, hall⟩ K0 hL0
    subst hw
    by_cases hlt : p < s.length
    · obtain ⟨c, hc⟩ : ∃ c, s[p]? = some c := ⟨_, List.getElem?_eq_getElem hlt⟩
      (repeat (first | refine seq_ ?_ | refine sq_normal ?_ | refine rl_nil ?_ | refine cond_t rfl ?_ | refine skip_ ?_ | refine block_ ?_ | (refine region_ (id := 4) ?_; (try (refine rl_move (v := (Value.int _ _ : Value)) rfl rfl ?_; (try (refine rl_move (v := (Value.string _ : Value)) rfl rfl ?_; (try (refine rl_slen us9 rfl rfl ?_; (try ((first | (refine rl_lss_t rfl rfl rfl ?_ ?_; omega) | (refine rl_lss_f rfl rfl rfl ?_ ?_; omega))))))))))) | (refine region_ (id := 6) ?_; (try (refine rl_move (v := (Value.string _ : Value)) rfl rfl ?_; (try (refine rl_move (v := (Value.int _ _ : Value)) rfl rfl ?_; (try ((first | refine rl_sindex us9 rfl rfl rfl (by omega) (by assumption) ?_ | refine rl_ksindex rfl us9 rfl rfl (by omega) (by assumption) ?_))))))))))
      refine rl_callf fn39 (refplain_ok c w') rfl rfl ?_
      rintro _ w ⟨rfl, hw⟩
      subst hw
      cases hpl : plain c with
      | true =>
        (repeat (first | refine seq_ ?_ | refine sq_normal ?_ | refine rl_nil ?_ | refine cond_f rfl ?_ | refine skip_ ?_ | refine inBlock_normal ?_ | (refine region_ (id := 5) ?_; (try (refine rl_move (v := (Value.int _ _ : Value)) rfl rfl ?_; (try ((refine rl_add rfl rfl rfl ?_ ?_ ?_; omega; omega); (try (refine rl_assign (v := (Value.int _ _ : Value)) rfl rfl ?_))))))) | (refine region_ (id := 7) ?_; (try (refine rl_move (v := (Value.bool _ : Value)) rfl rfl ?_; (try (refine rl_not rfl rfl ?_; (try (refine rl_move (v := (Value.bool _ : Value)) rfl rfl ?_; (try ((first | refine rl_off rfl ?_ | refine rl_move (v := (Value.string _ : Value)) rfl rfl ?_); (try ((first | refine rl_off rfl ?_ | refine rl_move (v := (Value.int _ _ : Value)) rfl rfl ?_); (try ((first | refine rl_off rfl ?_ | refine rl_sindex us9 rfl rfl rfl (by omega) (by assumption) ?_ | refine rl_ksindex rfl us9 rfl rfl (by omega) (by assumption) ?_); (try ((first | refine rl_off rfl ?_ | (refine rl_kneq_t rfl rfl rfl ?_ ?_; omega) | (refine rl_kneq_f rfl rfl rfl ?_ ?_; omega)); (try (refine rl_pick (v := (Value.bool _ : Value)) rfl rfl rfl ?_; (try (refine rl_move (v := (Value.bool _ : Value)) rfl rfl ?_; (try ((first | refine rl_off rfl ?_ | refine rl_move (v := (Value.string _ : Value)) rfl rfl ?_); (try ((first | refine rl_off rfl ?_ | refine rl_move (v := (Value.int _ _ : Value)) rfl rfl ?_); (try ((first | refine rl_off rfl ?_ | refine rl_sindex us9 rfl rfl rfl (by omega) (by assumption) ?_ | refine rl_ksindex rfl us9 rfl rfl (by omega) (by assumption) ?_); (try ((first | refine rl_off rfl ?_ | (refine rl_kneq_t rfl rfl rfl ?_ ?_; omega) | (refine rl_kneq_f rfl rfl rfl ?_ ?_; omega)); (try (refine rl_pick (v := (Value.bool _ : Value)) rfl rfl rfl ?_))))))))))))))))))))))))))))) | refine rl_assign (v := (Value.bool _ : Value)) rfl rfl ?_))
        refine kq_normal (hL0 (s.length - (p + 1)) _ _ (by omega) (by (repeat (first | with_reducible exact Agree.ov | with_reducible exact Agree.refl _ _ | refine Agree.upd rfl ?_ | refine Agree.ovs rfl ?_))) ⟨p + 1, rfl, by omega, rfl, rfl, all_take_succ hc hall (by simp [sign, hpl])⟩)
      | false =>
        by_cases h3 : c.toNat = 39
        · (repeat (first | refine seq_ ?_ | refine sq_normal ?_ | refine rl_nil ?_ | refine cond_f rfl ?_ | refine skip_ ?_ | refine inBlock_normal ?_ | (refine region_ (id := 5) ?_; (try (refine rl_move (v := (Value.int _ _ : Value)) rfl rfl ?_; (try ((refine rl_add rfl rfl rfl ?_ ?_ ?_; omega; omega); (try (refine rl_assign (v := (Value.int _ _ : Value)) rfl rfl ?_))))))) | (refine region_ (id := 7) ?_; (try (refine rl_move (v := (Value.bool _ : Value)) rfl rfl ?_; (try (refine rl_not rfl rfl ?_; (try (refine rl_move (v := (Value.bool _ : Value)) rfl rfl ?_; (try ((first | refine rl_off rfl ?_ | refine rl_move (v := (Value.string _ : Value)) rfl rfl ?_); (try ((first | refine rl_off rfl ?_ | refine rl_move (v := (Value.int _ _ : Value)) rfl rfl ?_); (try ((first | refine rl_off rfl ?_ | refine rl_sindex us9 rfl rfl rfl (by omega) (by assumption) ?_ | refine rl_ksindex rfl us9 rfl rfl (by omega) (by assumption) ?_); (try ((first | refine rl_off rfl ?_ | (refine rl_kneq_t rfl rfl rfl ?_ ?_; omega) | (refine rl_kneq_f rfl rfl rfl ?_ ?_; omega)); (try (refine rl_pick (v := (Value.bool _ : Value)) rfl rfl rfl ?_; (try (refine rl_move (v := (Value.bool _ : Value)) rfl rfl ?_; (try ((first | refine rl_off rfl ?_ | refine rl_move (v := (Value.string _ : Value)) rfl rfl ?_); (try ((first | refine rl_off rfl ?_ | refine rl_move (v := (Value.int _ _ : Value)) rfl rfl ?_); (try ((first | refine rl_off rfl ?_ | refine rl_sindex us9 rfl rfl rfl (by omega) (by assumption) ?_ | refine rl_ksindex rfl us9 rfl rfl (by omega) (by assumption) ?_); (try ((first | refine rl_off rfl ?_ | (refine rl_kneq_t rfl rfl rfl ?_ ?_; omega) | (refine rl_kneq_f rfl rfl rfl ?_ ?_; omega)); (try (refine rl_pick (v := (Value.bool _ : Value)) rfl rfl rfl ?_))))))))))))))))))))))))))))) | refine rl_assign (v := (Value.bool _ : Value)) rfl rfl ?_))
          refine kq_normal (hL0 (s.length - (p + 1)) _ _ (by omega) (by (repeat (first | with_reducible exact Agree.ov | with_reducible exact Agree.refl _ _ | refine Agree.upd rfl ?_ | refine Agree.ovs rfl ?_))) ⟨p + 1, rfl, by omega, rfl, rfl, all_take_succ hc hall (by simp [sign, h3])⟩)
        · by_cases h4 : c.toNat = 95
          · (repeat (first | refine seq_ ?_ | refine sq_normal ?_ | refine rl_nil ?_ | refine cond_f rfl ?_ | refine skip_ ?_ | refine inBlock_normal ?_ | (refine region_ (id := 5) ?_; (try (refine rl_move (v := (Value.int _ _ : Value)) rfl rfl ?_; (try ((refine rl_add rfl rfl rfl ?_ ?_ ?_; omega; omega); (try (refine rl_assign (v := (Value.int _ _ : Value)) rfl rfl ?_))))))) | (refine region_ (id := 7) ?_; (try (refine rl_move (v := (Value.bool _ : Value)) rfl rfl ?_; (try (refine rl_not rfl rfl ?_; (try (refine rl_move (v := (Value.bool _ : Value)) rfl rfl ?_; (try ((first | refine rl_off rfl ?_ | refine rl_move (v := (Value.string _ : Value)) rfl rfl ?_); (try ((first | refine rl_off rfl ?_ | refine rl_move (v := (Value.int _ _ : Value)) rfl rfl ?_); (try ((first | refine rl_off rfl ?_ | refine rl_sindex us9 rfl rfl rfl (by omega) (by assumption) ?_ | refine rl_ksindex rfl us9 rfl rfl (by omega) (by assumption) ?_); (try ((first | refine rl_off rfl ?_ | (refine rl_kneq_t rfl rfl rfl ?_ ?_; omega) | (refine rl_kneq_f rfl rfl rfl ?_ ?_; omega)); (try (refine rl_pick (v := (Value.bool _ : Value)) rfl rfl rfl ?_; (try (refine rl_move (v := (Value.bool _ : Value)) rfl rfl ?_; (try ((first | refine rl_off rfl ?_ | refine rl_move (v := (Value.string _ : Value)) rfl rfl ?_); (try ((first | refine rl_off rfl ?_ | refine rl_move (v := (Value.int _ _ : Value)) rfl rfl ?_); (try ((first | refine rl_off rfl ?_ | refine rl_sindex us9 rfl rfl rfl (by omega) (by assumption) ?_ | refine rl_ksindex rfl us9 rfl rfl (by omega) (by assumption) ?_); (try ((first | refine rl_off rfl ?_ | (refine rl_kneq_t rfl rfl rfl ?_ ?_; omega) | (refine rl_kneq_f rfl rfl rfl ?_ ?_; omega)); (try (refine rl_pick (v := (Value.bool _ : Value)) rfl rfl rfl ?_))))))))))))))))))))))))))))) | refine rl_assign (v := (Value.bool _ : Value)) rfl rfl ?_))
            refine kq_normal (hL0 (s.length - (p + 1)) _ _ (by omega) (by (repeat (first | with_reducible exact Agree.ov | with_reducible exact Agree.refl _ _ | refine Agree.upd rfl ?_ | refine Agree.ovs rfl ?_))) ⟨p + 1, rfl, by omega, rfl, rfl, all_take_succ hc hall (by simp [sign, h4])⟩)
          · (repeat (first | refine seq_ ?_ | refine sq_normal ?_ | refine sq_ret ?_ | refine rl_nil ?_ | refine cond_t rfl ?_ | refine ret_ ?_ | refine inBlock_ret ?_ | refine kq_ret ?_ | (refine region_ (id := 7) ?_; (try (refine rl_move (v := (Value.bool _ : Value)) rfl rfl ?_; (try (refine rl_not rfl rfl ?_; (try (refine rl_move (v := (Value.bool _ : Value)) rfl rfl ?_; (try ((first | refine rl_off rfl ?_ | refine rl_move (v := (Value.string _ : Value)) rfl rfl ?_); (try ((first | refine rl_off rfl ?_ | refine rl_move (v := (Value.int _ _ : Value)) rfl rfl ?_); (try ((first | refine rl_off rfl ?_ | refine rl_sindex us9 rfl rfl rfl (by omega) (by assumption) ?_ | refine rl_ksindex rfl us9 rfl rfl (by omega) (by assumption) ?_); (try ((first | refine rl_off rfl ?_ | (refine rl_kneq_t rfl rfl rfl ?_ ?_; omega) | (refine rl_kneq_f rfl rfl rfl ?_ ?_; omega)); (try (refine rl_pick (v := (Value.bool _ : Value)) rfl rfl rfl ?_; (try (refine rl_move (v := (Value.bool _ : Value)) rfl rfl ?_; (try ((first | refine rl_off rfl ?_ | refine rl_move (v := (Value.string _ : Value)) rfl rfl ?_); (try ((first | refine rl_off rfl ?_ | refine rl_move (v := (Value.int _ _ : Value)) rfl rfl ?_); (try ((first | refine rl_off rfl ?_ | refine rl_sindex us9 rfl rfl rfl (by omega) (by assumption) ?_ | refine rl_ksindex rfl us9 rfl rfl (by omega) (by assumption) ?_); (try ((first | refine rl_off rfl ?_ | (refine rl_kneq_t rfl rfl rfl ?_ ?_; omega) | (refine rl_kneq_f rfl rfl rfl ?_ ?_; omega)); (try (refine rl_pick (v := (Value.bool _ : Value)) rfl rfl rfl ?_))))))))))))))))))))))))))))) | (refine region_ (id := 8) ?_; (try (refine rl_assign (v := (Value.bool _ : Value)) rfl rfl ?_))) | refine rl_assign (v := (Value.bool _ : Value)) rfl rfl ?_))
            refine bp_ret1 (v := Value.bool _) rfl rfl ⟨?_, rfl⟩
            rw [isName_false hc (by simp [sign, hpl, h3, h4])]
    · have hpe : p = s.length := by omega
      subst hpe
      rw [List.take_length] at hall
      have hlt0 : 0 < s.length := by omega
      obtain ⟨c, hc⟩ : ∃ c, s[0]? = some c := ⟨_, List.getElem?_eq_getElem hlt0⟩
      have hc' : s[(0 : Int).toNat]? = some c := hc
      (repeat (first | refine seq_ ?_ | refine sq_normal ?_ | refine sq_exit ?_ | refine rl_nil ?_ | refine cond_f rfl ?_ | refine exit_ ?_ | refine inBlock_exit ?_ | refine kq_exit ?_ | (refine region_ (id := 4) ?_; (try (refine rl_move (v := (Value.int _ _ : Value)) rfl rfl ?_; (try (refine rl_move (v := (Value.string _ : Value)) rfl rfl ?_; (try (refine rl_slen us9 rfl rfl ?_; (try ((first | (refine rl_lss_t rfl rfl rfl ?_ ?_; omega) | (refine rl_lss_f rfl rfl rfl ?_ ?_; omega))))))))))) | (refine region_ (id := 9) ?_; (try (refine rl_move (v := (Value.string _ : Value)) rfl rfl ?_; (try ((first | refine rl_sindex us9 rfl rfl rfl (by omega) (by assumption) ?_ | refine rl_ksindex rfl us9 rfl rfl (by omega) (by assumption) ?_); (try (refine rl_move (v := (Value.int _ _ : Value)) rfl rfl ?_; (try (refine rl_move (v := (Value.int _ _ : Value)) rfl rfl ?_)))))))))))
      refine rl_callf fn40 (within_ok c lo hi w') rfl rfl ?_
      rintro _ w ⟨rfl, hw⟩
      subst hw
      (repeat (first | refine sq_normal ?_ | refine rl_nil ?_ | refine ret_ ?_ | refine rl_assign (v := (Value.bool _ : Value)) rfl rfl ?_))
      refine bp_ret1 (v := Value.bool _) rfl rfl ⟨?_, rfl⟩
      rw [← fst_get hc]
      have hne : s ≠ [] := List.length_pos_iff.1 hlt0
      cases hf : fst lo.toNat hi.toNat s with
      | true => rw [isName_iff.2 ⟨hne, h32, hall, hf⟩]
      | false => simp [isName, hf]
  · (repeat (first | refine seq_ ?_ | refine sq_normal ?_ | refine sq_ret ?_ | refine rl_nil ?_ | refine cond_t rfl ?_ | refine ret_ ?_ | (refine region_ (id := 0) ?_; (try (refine rl_assign (v := (Value.bool _ : Value)) rfl rfl ?_))) | (refine region_ (id := 1) ?_; (try (refine rl_move (v := (Value.string _ : Value)) rfl rfl ?_; (try (refine rl_slen us9 rfl rfl ?_; (try ((first | (refine rl_eql_t rfl rfl rfl ?_ ?_; omega) | (refine rl_eql_f rfl rfl rfl ?_ ?_; omega)); (try (refine rl_move (v := (Value.bool _ : Value)) rfl rfl ?_; (try ((first | refine rl_off rfl ?_ | refine rl_move (v := (Value.string _ : Value)) rfl rfl ?_); (try ((first | refine rl_off rfl ?_ | refine rl_slen us9 rfl rfl ?_); (try ((first | refine rl_off rfl ?_ | (refine rl_gtr_t rfl rfl rfl ?_ ?_; omega) | (refine rl_gtr_f rfl rfl rfl ?_ ?_; omega)); (try (refine rl_pick (v := (Value.bool _ : Value)) rfl rfl rfl ?_))))))))))))))))) | (refine region_ (id := 2) ?_; (try (refine rl_assign (v := (Value.bool _ : Value)) rfl rfl ?_)))))
    refine bp_ret1 (v := Value.bool _) rfl rfl ⟨?_, rfl⟩
    simp [isName, h32]
theorem reflower_ok (s : List UInt8) (w : World) (hs : s.length ≤ 1000000000) : CallsOk Tryd.prog 12 #[St s] w fun r w' => r = .bool (isName 97 122 s) ∧ w' = w := by
  refine enter_ (N := 5) Tryd.func12 rfl rfl rfl ?_
  have hM := Mem.init w
  (repeat (first | refine seq_ ?_ | refine sq_normal ?_ | refine rl_nil ?_ | (refine region_ (id := 0) ?_; (try (refine rl_assign (v := (Value.bool _ : Value)) rfl rfl ?_))) | (refine region_ (id := 1) ?_; (try (refine rl_move (v := (Value.string _ : Value)) rfl rfl ?_)))))
  refine rl_callf fn26 (refname_ok s 97 122 w hs) rfl rfl ?_
  rintro _ w ⟨rfl, rfl⟩
  (repeat (first | refine sq_normal ?_ | refine rl_nil ?_ | refine ret_ ?_ | refine rl_assign (v := (Value.bool _ : Value)) rfl rfl ?_))
  exact bp_ret1 (v := Value.bool _) rfl rfl ⟨rfl, rfl⟩
theorem refupper_ok (s : List UInt8) (w : World) (hs : s.length ≤ 1000000000) : CallsOk Tryd.prog 14 #[St s] w fun r w' => r = .bool (isName 65 90 s) ∧ w' = w := by
  refine enter_ (N := 5) Tryd.func14 rfl rfl rfl ?_
  have hM := Mem.init w
  (repeat (first | refine seq_ ?_ | refine sq_normal ?_ | refine rl_nil ?_ | (refine region_ (id := 0) ?_; (try (refine rl_assign (v := (Value.bool _ : Value)) rfl rfl ?_))) | (refine region_ (id := 1) ?_; (try (refine rl_move (v := (Value.string _ : Value)) rfl rfl ?_)))))
  refine rl_callf fn26 (refname_ok s 65 90 w hs) rfl rfl ?_
  rintro _ w ⟨rfl, rfl⟩
  (repeat (first | refine sq_normal ?_ | refine rl_nil ?_ | refine ret_ ?_ | refine rl_assign (v := (Value.bool _ : Value)) rfl rfl ?_))
  exact bp_ret1 (v := Value.bool _) rfl rfl ⟨rfl, rfl⟩
end Go.Proofs.YtbcplbkjeinplaaDoor.Chr
