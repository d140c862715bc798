/- The walks of strings.LastIndex, strings.Count (off the shelf), chars.Place, fugueref01.Line, Column. -/
import Derived.Test.YtbcplbkjeinplaaDoorChrW7
import Derived.Test.YtbcplbkjeinplaaDoorChrP2
set_option linter.unusedVariables false
set_option linter.unusedSimpArgs false
namespace Go.Proofs.YtbcplbkjeinplaaDoor.Chr
open Go Go.Eng Go.RowKit Go.Lx
theorem count_ok (s : List UInt8) (w : World) : CallsOk Tryd.prog 30 #[St s, St [10]] w fun r w' => r = .int .i64 ((s.count 10 : Nat) : Int) ∧ w' = w := by
  refine (Go.Proofs.Tryd.strings_Count_one ⟨s.toArray⟩ 10 w).mono ?_
  rintro e w' ⟨rfl, rfl⟩
  exact ⟨_, rfl, rfl, rfl⟩
attribute [local irreducible] RL RX KQ SQ Exit.inBlock Exit.then BP NP CallsOk IsSl IsRows IsInts IsBools Own Blk Code.wp Calls wpList
theorem lastByte_ok (s : List UInt8) (c : UInt8) (w : World) (hs : s.length ≤ 1000000000) :
    CallsOk Tryd.prog 42 #[St s, .int .u8 c.toNat] w fun r w' => (∃ i : Nat, r = .int .i64 ((i : Int) - 1) ∧ i ≤ s.length ∧ (∀ j u, i ≤ j → s[j]? = some u → u ≠ c) ∧ (i = 0 ∨ ∃ k, i = k + 1 ∧ s[k]? = some c)) ∧ w' = w := by
  refine enter_ (N := 19) Tryd.func42 rfl rfl rfl ?_
  have hM := Mem.init w
  (repeat (first | refine seq_ ?_ | refine sq_normal ?_ | refine rl_nil ?_ | refine block_ ?_ | (refine region_ (id := 0) ?_; (try (refine rl_assign (v := (Value.int _ _ : Value)) rfl rfl ?_))) | (refine region_ (id := 1) ?_; (try (refine rl_move (v := (Value.string _ : Value)) rfl rfl ?_; (try (refine rl_slen us9 rfl rfl ?_; (try ((refine rl_sub rfl rfl rfl ?_ ?_ ?_; omega; omega); (try (refine rl_assign (v := (Value.int _ _ : Value)) rfl rfl ?_)))))))))))
  refine loop1 [(4, 6), (9, 19)] 5 (fun m v wr => ∃ i : Nat, v = .int .i64 ((i : Int) - 1) ∧ i ≤ s.length ∧ m = i ∧ wr = w ∧ (∀ j u, i ≤ j → s[j]? = some u → u ≠ c)) _
    ⟨s.length, rfl, by omega, rfl, rfl, fun j u h1 h2 => by rw [List.getElem?_eq_none h1] at h2; cases h2⟩ ?_
  rintro m τ v wr ⟨i, rfl, hi, hm, hw, hall⟩ K0 hL0
  subst hw
  cases i with
  | zero =>
    (repeat (first | refine seq_ ?_ | refine sq_normal ?_ | refine sq_exit ?_ | refine rl_nil ?_ | refine cond_f rfl ?_ | refine ret_ ?_ | refine exit_ ?_ | refine inBlock_exit ?_ | refine kq_exit ?_ | (refine region_ (id := 2) ?_; (try (refine rl_move (v := (Value.int _ _ : Value)) rfl rfl ?_; (try ((first | (refine rl_geq_t rfl rfl rfl ?_ ?_; omega) | (refine rl_geq_f rfl rfl rfl ?_ ?_; omega))))))) | (refine region_ (id := 6) ?_; (try (refine rl_assign (v := (Value.int _ _ : Value)) rfl rfl ?_)))))
    exact bp_ret1 (v := Value.int _ _) rfl rfl ⟨⟨0, rfl, by omega, hall, .inl rfl⟩, rfl⟩
  | succ i =>
    obtain ⟨u, hu⟩ : ∃ u, s[i]? = some u := ⟨_, List.getElem?_eq_getElem (by omega)⟩
    have e : ((i + 1 : Nat) : Int) - 1 = i := by omega
    rw [e]
    have hu' : s[(i : Int).toNat]? = some u := hu
    by_cases hc : u = c
    · subst hc
      (repeat (first | refine seq_ ?_ | refine sq_normal ?_ | refine sq_ret ?_ | refine rl_nil ?_ | refine cond_t rfl ?_ | refine skip_ ?_ | refine ret_ ?_ | refine block_ ?_ | refine inBlock_ret ?_ | refine kq_ret ?_ | (refine region_ (id := 2) ?_; (try (refine rl_move (v := (Value.int _ _ : Value)) rfl rfl ?_; (try ((first | (refine rl_geq_t rfl rfl rfl ?_ ?_; omega) | (refine rl_geq_f rfl rfl rfl ?_ ?_; omega))))))) | (refine region_ (id := 4) ?_; (try (refine rl_move (v := (Value.string _ : Value)) rfl rfl ?_; (try (refine rl_move (v := (Value.int _ _ : Value)) rfl rfl ?_; (try ((first | refine rl_sindex us9 rfl rfl rfl (by omega) (by assumption) ?_ | refine rl_ksindex rfl us9 rfl rfl (by omega) (by assumption) ?_); (try (refine rl_move (v := (Value.int _ _ : Value)) rfl rfl ?_; (try ((first | (refine rl_keql_t rfl rfl rfl ?_ ?_; omega) | (refine rl_keql_f rfl rfl rfl ?_ ?_; omega))))))))))))) | (refine region_ (id := 5) ?_; (try (refine rl_move (v := (Value.int _ _ : Value)) rfl rfl ?_; (try (refine rl_assign (v := (Value.int _ _ : Value)) rfl rfl ?_)))))))
      exact bp_ret1 (v := Value.int _ _) rfl rfl ⟨⟨i + 1, by rw [e], by omega, hall, .inr ⟨i, rfl, hu⟩⟩, rfl⟩
    · have hcn : (u.toNat : Int) ≠ c.toNat := fun h => hc (UInt8.toNat_inj.1 (by omega))
      (repeat (first | refine seq_ ?_ | refine sq_normal ?_ | refine rl_nil ?_ | refine cond_t rfl ?_ | refine cond_f rfl ?_ | refine skip_ ?_ | refine block_ ?_ | refine inBlock_normal ?_ | (refine region_ (id := 2) ?_; (try (refine rl_move (v := (Value.int _ _ : Value)) rfl rfl ?_; (try ((first | (refine rl_geq_t rfl rfl rfl ?_ ?_; omega) | (refine rl_geq_f rfl rfl rfl ?_ ?_; omega))))))) | (refine region_ (id := 3) ?_; (try (refine rl_move (v := (Value.int _ _ : Value)) rfl rfl ?_; (try ((refine rl_sub rfl rfl rfl ?_ ?_ ?_; omega; omega); (try (refine rl_assign (v := (Value.int _ _ : Value)) rfl rfl ?_))))))) | (refine region_ (id := 4) ?_; (try (refine rl_move (v := (Value.string _ : Value)) rfl rfl ?_; (try (refine rl_move (v := (Value.int _ _ : Value)) rfl rfl ?_; (try ((first | refine rl_sindex us9 rfl rfl rfl (by omega) (by assumption) ?_ | refine rl_ksindex rfl us9 rfl rfl (by omega) (by assumption) ?_); (try (refine rl_move (v := (Value.int _ _ : Value)) rfl rfl ?_; (try ((first | (refine rl_keql_t rfl rfl rfl ?_ ?_; omega) | (refine rl_keql_f rfl rfl rfl ?_ ?_; omega)))))))))))))))
      exact kq_normal (hL0 i _ _ (by omega) (by (repeat (first | with_reducible exact Agree.ov | with_reducible exact Agree.refl _ _ | refine Agree.upd rfl ?_ | refine Agree.ovs rfl ?_))) ⟨i, rfl, by omega, rfl, rfl, fun j v h1 h2 => by
        by_cases hj : j = i
        · subst hj; rw [hu] at h2; cases h2; exact hc
        · exact hall j v (by omega) h2⟩)
theorem lastIndex_ok (s : List UInt8) (w : World) (hs : s.length ≤ 1000000000) :
    CallsOk Tryd.prog 29 #[St s, St [10]] w fun r w' => (∃ i : Nat, r = .int .i64 ((i : Int) - 1) ∧ i ≤ s.length ∧ (∀ j u, i ≤ j → s[j]? = some u → u ≠ 10) ∧ (i = 0 ∨ ∃ k, i = k + 1 ∧ s[k]? = some 10)) ∧ w' = w := by
  refine enter_ (N := 36) Tryd.func29 rfl rfl rfl ?_
  have hM := Mem.init w
  have hq0 : (([10] : List UInt8).length : Int) = 1 := rfl
  have hc' : ([10] : List UInt8)[(0 : Int).toNat]? = some 10 := rfl
  (repeat (first | refine seq_ ?_ | refine sq_normal ?_ | refine rl_nil ?_ | refine cond_t rfl ?_ | refine cond_f rfl ?_ | refine block_ ?_ | (refine region_ (id := 0) ?_; (try (refine rl_assign (v := (Value.int _ _ : Value)) rfl rfl ?_))) | (refine region_ (id := 1) ?_; (try (refine rl_move (v := (Value.string _ : Value)) rfl rfl ?_; (try (refine rl_slen us9 rfl rfl ?_; (try (refine rl_assign (v := (Value.int _ _ : Value)) rfl rfl ?_))))))) | (refine region_ (id := 2) ?_; (try (refine rl_move (v := (Value.int _ _ : Value)) rfl rfl ?_; (try ((first | (refine rl_eql_t rfl rfl rfl ?_ ?_; omega) | (refine rl_eql_f rfl rfl rfl ?_ ?_; omega)); (try (refine rl_assign (v := (Value.bool _ : Value)) rfl rfl ?_))))))) | (refine region_ (id := 4) ?_; (try (refine rl_move (v := (Value.int _ _ : Value)) rfl rfl ?_; (try ((first | (refine rl_eql_t rfl rfl rfl ?_ ?_; omega) | (refine rl_eql_f rfl rfl rfl ?_ ?_; omega)); (try (refine rl_assign (v := (Value.bool _ : Value)) rfl rfl ?_))))))) | (refine region_ (id := 5) ?_; (try (refine rl_move (v := (Value.string _ : Value)) rfl rfl ?_; (try (refine rl_move (v := (Value.string _ : Value)) rfl rfl ?_; (try ((first | refine rl_sindex us9 rfl rfl rfl (by omega) (by assumption) ?_ | refine rl_ksindex rfl us9 rfl rfl (by omega) (by assumption) ?_))))))))))
  refine rl_callf fn42 (lastByte_ok s 10 w hs) rfl rfl ?_
  rintro _ _ ⟨⟨i, rfl, h1, h2, h3⟩, rfl⟩
  (repeat (first | refine sq_normal ?_ | refine sq_ret ?_ | refine rl_nil ?_ | refine ret_ ?_ | refine inBlock_ret ?_ | refine rl_assign (v := (Value.int _ _ : Value)) rfl rfl ?_))
  exact bp_ret1 (v := Value.int _ _) rfl rfl ⟨⟨i, rfl, h1, h2, h3⟩, rfl⟩
def upto (at_ : Int) (s : List UInt8) : Nat := (min (max at_ 0) (s.length : Int)).toNat
theorem upto_eq (at_ : Int) (s : List UInt8) : upto at_ s = min at_.toNat s.length := by unfold upto; omega
theorem place_ok (s : List UInt8) (at_ : Int) (w : World) (hs : s.length ≤ 1000000) (h1 : -9223372036854775808 ≤ at_) (h2 : at_ ≤ 9223372036854775807) :
    CallsOk Tryd.prog 18 #[St s, .int .i64 at_] w fun r w' => r = .tuple #[.int .i64 (lineP (s.take (upto at_ s)) : Nat), .int .i64 (colP (s.take (upto at_ s)) : Nat)] ∧ w' = w := by
  refine enter_ (N := 26) Tryd.func18 rfl rfl rfl ?_
  have hM := Mem.init w
  have hu := upto_eq at_ s
  (repeat (first | refine seq_ ?_ | refine sq_normal ?_ | refine rl_nil ?_ | (refine region_ (id := 0) ?_; (try (refine rl_assign (v := (Value.int _ _ : Value)) rfl rfl ?_; (try (refine rl_assign (v := (Value.int _ _ : Value)) rfl rfl ?_))))) | (refine region_ (id := 1) ?_; (try (refine rl_move (v := (Value.string _ : Value)) rfl rfl ?_; (try (refine rl_move (v := (Value.int _ _ : Value)) rfl rfl ?_; (try (refine rl_max rfl rfl rfl ?_; (try (refine rl_move (v := (Value.string _ : Value)) rfl rfl ?_; (try (refine rl_slen us9 rfl rfl ?_; (try (refine rl_min rfl rfl rfl ?_; (try ((refine rl_sslice_h us9 rfl rfl rfl ?_ ?_ ?_; omega; omega); (try (refine rl_assign (v := (Value.string _ : Value)) rfl rfl ?_))))))))))))))))) | (refine region_ (id := 2) ?_; (try (refine rl_move (v := (Value.string _ : Value)) rfl rfl ?_; (try (refine rl_move (v := (Value.string _ : Value)) rfl rfl ?_)))))))
  obtain ⟨h, hh⟩ : ∃ h, h = s.take (min (max at_ 0) (s.length : Int)).toNat := ⟨_, rfl⟩
  have hh2 : h = s.take (upto at_ s) := hh
  rw [← hh, ← hh2]
  have hhl : h.length ≤ s.length := by rw [hh, List.length_take]; omega
  refine rl_callf fn29 (lastIndex_ok h w (by omega)) rfl rfl ?_
  rintro _ _ ⟨⟨i, rfl, h3, h4, h5⟩, rfl⟩
  have hct := colP_tail h3 h4 h5
  have hci : (i : Int) - 1 + 1 = i := by omega
  have hll := lineP_le h
  have hcl := colP_le h
  have hdl : (h.drop i).length = h.length - i := List.length_drop
  (repeat (first | refine seq_ ?_ | refine sq_normal ?_ | refine rl_nil ?_ | (refine region_ (id := 3) ?_; (try (refine rl_move (v := (Value.string _ : Value)) rfl rfl ?_))) | refine rl_assign (v := (Value.string _ : Value)) rfl rfl ?_ | (refine rl_add rfl rfl rfl ?_ ?_ ?_; omega; omega) | (refine rl_sslice_l us9 rfl rfl rfl ?_ ?_ ?_; omega; omega)))
  rw [hci, show (i : Int).toNat = i from rfl]
  refine rl_callf fn30 (count_ok h _) rfl rfl ?_
  rintro _ _ ⟨rfl, rfl⟩
  have hlc : lineP h = h.count 10 + 1 := rfl
  (repeat (first | refine sq_normal ?_ | refine rl_nil ?_ | refine ret_ ?_ | refine rl_assign (v := (Value.int _ _ : Value)) rfl rfl ?_ | refine rl_move (v := (Value.string _ : Value)) rfl rfl ?_ | refine rl_slen us9 rfl rfl ?_ | (refine rl_add rfl rfl rfl ?_ ?_ ?_; omega; omega)))
  refine bp_ret2 (v := Value.int _ _) (v' := Value.int _ _) rfl rfl rfl ⟨?_, rfl⟩
  rw [hct, hlc]
  rfl
theorem line_ok (s : List UInt8) (at_ : Int) (w : World) (hs : s.length ≤ 1000000) (h1 : -9223372036854775808 ≤ at_) (h2 : at_ ≤ 9223372036854775807) :
    CallsOk Tryd.prog 19 #[St s, .int .i64 at_] w fun r w' => r = .int .i64 (lineP (s.take (upto at_ s)) : Nat) ∧ w' = w := by
  refine enter_ (N := 25) Tryd.func19 rfl rfl rfl ?_
  have hM := Mem.init w
  (repeat (first | refine seq_ ?_ | refine sq_normal ?_ | refine rl_nil ?_ | refine block_ ?_ | (refine region_ (id := 0) ?_; (try (refine rl_assign (v := (Value.int _ _ : Value)) rfl rfl ?_))) | (refine region_ (id := 1) ?_; (try (refine rl_assign (v := (Value.int _ _ : Value)) rfl rfl ?_))) | (refine region_ (id := 2) ?_; (try (refine rl_assign (v := (Value.int _ _ : Value)) rfl rfl ?_)))))
  refine loop2 [(5, 24)] 5 6 (fun m v5 v6 wr => ∃ p : Nat, v5 = .int .i64 (lineP (s.take p) : Nat) ∧ v6 = .int .i64 p ∧ p ≤ upto at_ s ∧ m = s.length - p ∧ wr = w) _
    ⟨0, rfl, rfl, by omega, rfl, rfl⟩ ?_
  rintro m τ v5 v6 wr ⟨p, rfl, rfl, hp, rfl, hw⟩ K0 hL0
  subst hw
  have hu := upto_eq at_ s
  have hll := lineP_le (s.take p)
  have hlt : (s.take p).length ≤ s.length := by rw [List.length_take]; omega
  by_cases hps : p < s.length
  · obtain ⟨c, hc⟩ : ∃ c, s[p]? = some c := ⟨_, List.getElem?_eq_getElem hps⟩
    have hc' : s[(p : Int).toNat]? = some c := hc
    have hsn := lineP_snoc (s.take p) c
    rw [← take_snoc hc] at hsn
    by_cases hpa : (p : Int) < at_
    · by_cases h10 : c = 10
      · have h10' : (c.toNat : Int) = 10 := by subst h10; rfl
        rw [if_pos h10] at hsn
        (repeat (first | refine seq_ ?_ | refine sq_normal ?_ | refine rl_nil ?_ | refine cond_t rfl ?_ | refine skip_ ?_ | refine block_ ?_ | refine inBlock_normal ?_ | (refine region_ (id := 3) ?_; (try (refine rl_move (v := (Value.int _ _ : Value)) rfl rfl ?_; (try (refine rl_move (v := (Value.string _ : Value)) rfl rfl ?_; (try (refine rl_slen us9 rfl rfl ?_; (try ((first | (refine rl_lss_t rfl rfl rfl ?_ ?_; omega) | (refine rl_lss_f rfl rfl rfl ?_ ?_; omega)); (try (refine rl_move (v := (Value.bool _ : Value)) rfl rfl ?_; (try ((first | refine rl_off rfl ?_ | refine rl_move (v := (Value.int _ _ : Value)) rfl rfl ?_); (try ((first | refine rl_off rfl ?_ | refine rl_move (v := (Value.int _ _ : Value)) rfl rfl ?_); (try ((first | refine rl_off rfl ?_ | (refine rl_lss_t rfl rfl rfl ?_ ?_; omega) | (refine rl_lss_f rfl rfl rfl ?_ ?_; omega)); (try (refine rl_pick (v := (Value.bool _ : Value)) rfl rfl rfl ?_))))))))))))))))))) | (refine region_ (id := 4) ?_; (try (refine rl_move (v := (Value.int _ _ : Value)) rfl rfl ?_; (try ((refine rl_add rfl rfl rfl ?_ ?_ ?_; omega; omega); (try (refine rl_assign (v := (Value.int _ _ : Value)) rfl rfl ?_))))))) | (refine region_ (id := 5) ?_; (try (refine rl_move (v := (Value.string _ : Value)) rfl rfl ?_; (try (refine rl_move (v := (Value.int _ _ : Value)) rfl rfl ?_; (try ((first | refine rl_sindex us9 rfl rfl rfl (by omega) (by assumption) ?_ | refine rl_ksindex rfl us9 rfl rfl (by omega) (by assumption) ?_); (try ((first | (refine rl_keql_t rfl rfl rfl ?_ ?_; omega) | (refine rl_keql_f rfl rfl rfl ?_ ?_; omega))))))))))) | (refine region_ (id := 6) ?_; (try (refine rl_move (v := (Value.int _ _ : Value)) rfl rfl ?_; (try ((refine rl_add rfl rfl rfl ?_ ?_ ?_; omega; omega); (try (refine rl_assign (v := (Value.int _ _ : Value)) rfl rfl ?_)))))))))
        refine kq_normal (hL0 (s.length - (p + 1)) _ _ (by omega) (by (repeat (first | with_reducible exact Agree.ov | with_reducible exact Agree.refl _ _ | refine Agree.upd rfl ?_ | refine Agree.ovs rfl ?_))) ⟨p + 1, by rw [hsn]; rfl, rfl, by omega, rfl, rfl⟩)
      · have h10' : (c.toNat : Int) ≠ 10 := fun h => h10 (UInt8.toNat_inj.1 (show c.toNat = 10 by omega))
        rw [if_neg h10] at hsn
        (repeat (first | refine seq_ ?_ | refine sq_normal ?_ | refine rl_nil ?_ | refine cond_t rfl ?_ | refine cond_f rfl ?_ | refine skip_ ?_ | refine block_ ?_ | refine inBlock_normal ?_ | (refine region_ (id := 3) ?_; (try (refine rl_move (v := (Value.int _ _ : Value)) rfl rfl ?_; (try (refine rl_move (v := (Value.string _ : Value)) rfl rfl ?_; (try (refine rl_slen us9 rfl rfl ?_; (try ((first | (refine rl_lss_t rfl rfl rfl ?_ ?_; omega) | (refine rl_lss_f rfl rfl rfl ?_ ?_; omega)); (try (refine rl_move (v := (Value.bool _ : Value)) rfl rfl ?_; (try ((first | refine rl_off rfl ?_ | refine rl_move (v := (Value.int _ _ : Value)) rfl rfl ?_); (try ((first | refine rl_off rfl ?_ | refine rl_move (v := (Value.int _ _ : Value)) rfl rfl ?_); (try ((first | refine rl_off rfl ?_ | (refine rl_lss_t rfl rfl rfl ?_ ?_; omega) | (refine rl_lss_f rfl rfl rfl ?_ ?_; omega)); (try (refine rl_pick (v := (Value.bool _ : Value)) rfl rfl rfl ?_))))))))))))))))))) | (refine region_ (id := 4) ?_; (try (refine rl_move (v := (Value.int _ _ : Value)) rfl rfl ?_; (try ((refine rl_add rfl rfl rfl ?_ ?_ ?_; omega; omega); (try (refine rl_assign (v := (Value.int _ _ : Value)) rfl rfl ?_))))))) | (refine region_ (id := 5) ?_; (try (refine rl_move (v := (Value.string _ : Value)) rfl rfl ?_; (try (refine rl_move (v := (Value.int _ _ : Value)) rfl rfl ?_; (try ((first | refine rl_sindex us9 rfl rfl rfl (by omega) (by assumption) ?_ | refine rl_ksindex rfl us9 rfl rfl (by omega) (by assumption) ?_); (try ((first | (refine rl_keql_t rfl rfl rfl ?_ ?_; omega) | (refine rl_keql_f rfl rfl rfl ?_ ?_; omega)))))))))))))
        refine kq_normal (hL0 (s.length - (p + 1)) _ _ (by omega) (by (repeat (first | with_reducible exact Agree.ov | with_reducible exact Agree.refl _ _ | refine Agree.upd rfl ?_ | refine Agree.ovs rfl ?_))) ⟨p + 1, by rw [hsn]; rfl, rfl, by omega, rfl, rfl⟩)
    · have hpe : upto at_ s = p := by omega
      (repeat (first | refine seq_ ?_ | refine sq_normal ?_ | refine sq_exit ?_ | refine rl_nil ?_ | refine cond_f rfl ?_ | refine ret_ ?_ | refine exit_ ?_ | refine inBlock_exit ?_ | refine kq_exit ?_ | (refine region_ (id := 3) ?_; (try (refine rl_move (v := (Value.int _ _ : Value)) rfl rfl ?_; (try (refine rl_move (v := (Value.string _ : Value)) rfl rfl ?_; (try (refine rl_slen us9 rfl rfl ?_; (try ((first | (refine rl_lss_t rfl rfl rfl ?_ ?_; omega) | (refine rl_lss_f rfl rfl rfl ?_ ?_; omega)); (try (refine rl_move (v := (Value.bool _ : Value)) rfl rfl ?_; (try ((first | refine rl_off rfl ?_ | refine rl_move (v := (Value.int _ _ : Value)) rfl rfl ?_); (try ((first | refine rl_off rfl ?_ | refine rl_move (v := (Value.int _ _ : Value)) rfl rfl ?_); (try ((first | refine rl_off rfl ?_ | (refine rl_lss_t rfl rfl rfl ?_ ?_; omega) | (refine rl_lss_f rfl rfl rfl ?_ ?_; omega)); (try (refine rl_pick (v := (Value.bool _ : Value)) rfl rfl rfl ?_))))))))))))))))))) | (refine region_ (id := 7) ?_; (try (refine rl_move (v := (Value.int _ _ : Value)) rfl rfl ?_; (try (refine rl_assign (v := (Value.int _ _ : Value)) rfl rfl ?_)))))))
      exact bp_ret1 (v := Value.int _ _) rfl rfl ⟨by rw [hpe], rfl⟩
  · have hpe : upto at_ s = p := by omega
    (repeat (first | refine seq_ ?_ | refine sq_normal ?_ | refine sq_exit ?_ | refine rl_nil ?_ | refine cond_f rfl ?_ | refine ret_ ?_ | refine exit_ ?_ | refine inBlock_exit ?_ | refine kq_exit ?_ | (refine region_ (id := 3) ?_; (try (refine rl_move (v := (Value.int _ _ : Value)) rfl rfl ?_; (try (refine rl_move (v := (Value.string _ : Value)) rfl rfl ?_; (try (refine rl_slen us9 rfl rfl ?_; (try ((first | (refine rl_lss_t rfl rfl rfl ?_ ?_; omega) | (refine rl_lss_f rfl rfl rfl ?_ ?_; omega)); (try (refine rl_move (v := (Value.bool _ : Value)) rfl rfl ?_; (try ((first | refine rl_off rfl ?_ | refine rl_move (v := (Value.int _ _ : Value)) rfl rfl ?_); (try ((first | refine rl_off rfl ?_ | refine rl_move (v := (Value.int _ _ : Value)) rfl rfl ?_); (try ((first | refine rl_off rfl ?_ | (refine rl_lss_t rfl rfl rfl ?_ ?_; omega) | (refine rl_lss_f rfl rfl rfl ?_ ?_; omega)); (try (refine rl_pick (v := (Value.bool _ : Value)) rfl rfl rfl ?_))))))))))))))))))) | (refine region_ (id := 7) ?_; (try (refine rl_move (v := (Value.int _ _ : Value)) rfl rfl ?_; (try (refine rl_assign (v := (Value.int _ _ : Value)) rfl rfl ?_)))))))
    exact bp_ret1 (v := Value.int _ _) rfl rfl ⟨by rw [hpe], rfl⟩
theorem column_ok (s : List UInt8) (at_ : Int) (w : World) (hs : s.length ≤ 1000000) (h1 : -9223372036854775808 ≤ at_) (h2 : at_ ≤ 9223372036854775807) :
    CallsOk Tryd.prog 20 #[St s, .int .i64 at_] w fun r w' => r = .int .i64 (colP (s.take (upto at_ s)) : Nat) ∧ w' = w := by
  refine enter_ (N := 25) Tryd.func20 rfl rfl rfl ?_
  have hM := Mem.init w
  (repeat (first | refine seq_ ?_ | refine sq_normal ?_ | refine rl_nil ?_ | refine block_ ?_ | (refine region_ (id := 0) ?_; (try (refine rl_assign (v := (Value.int _ _ : Value)) rfl rfl ?_))) | (refine region_ (id := 1) ?_; (try (refine rl_assign (v := (Value.int _ _ : Value)) rfl rfl ?_))) | (refine region_ (id := 2) ?_; (try (refine rl_assign (v := (Value.int _ _ : Value)) rfl rfl ?_)))))
  refine loop2 [(5, 24)] 5 6 (fun m v5 v6 wr => ∃ p : Nat, v5 = .int .i64 (colP (s.take p) : Nat) ∧ v6 = .int .i64 p ∧ p ≤ upto at_ s ∧ m = s.length - p ∧ wr = w) _
    ⟨0, rfl, rfl, by omega, rfl, rfl⟩ ?_
  rintro m τ v5 v6 wr ⟨p, rfl, rfl, hp, rfl, hw⟩ K0 hL0
  subst hw
  have hu := upto_eq at_ s
  have hll := colP_le (s.take p)
  have hlt : (s.take p).length ≤ s.length := by rw [List.length_take]; omega
  by_cases hps : p < s.length
  · obtain ⟨c, hc⟩ : ∃ c, s[p]? = some c := ⟨_, List.getElem?_eq_getElem hps⟩
    have hc' : s[(p : Int).toNat]? = some c := hc
    have hsn := colP_snoc (s.take p) c
    rw [← take_snoc hc] at hsn
    by_cases hpa : (p : Int) < at_
    · by_cases h10 : c = 10
      · have h10' : (c.toNat : Int) = 10 := by subst h10; rfl
        rw [if_pos h10] at hsn
        (repeat (first | refine seq_ ?_ | refine sq_normal ?_ | refine rl_nil ?_ | refine cond_t rfl ?_ | refine skip_ ?_ | refine block_ ?_ | refine inBlock_normal ?_ | (refine region_ (id := 3) ?_; (try (refine rl_move (v := (Value.int _ _ : Value)) rfl rfl ?_; (try (refine rl_move (v := (Value.string _ : Value)) rfl rfl ?_; (try (refine rl_slen us9 rfl rfl ?_; (try ((first | (refine rl_lss_t rfl rfl rfl ?_ ?_; omega) | (refine rl_lss_f rfl rfl rfl ?_ ?_; omega)); (try (refine rl_move (v := (Value.bool _ : Value)) rfl rfl ?_; (try ((first | refine rl_off rfl ?_ | refine rl_move (v := (Value.int _ _ : Value)) rfl rfl ?_); (try ((first | refine rl_off rfl ?_ | refine rl_move (v := (Value.int _ _ : Value)) rfl rfl ?_); (try ((first | refine rl_off rfl ?_ | (refine rl_lss_t rfl rfl rfl ?_ ?_; omega) | (refine rl_lss_f rfl rfl rfl ?_ ?_; omega)); (try (refine rl_pick (v := (Value.bool _ : Value)) rfl rfl rfl ?_))))))))))))))))))) | (refine region_ (id := 4) ?_; (try (refine rl_move (v := (Value.int _ _ : Value)) rfl rfl ?_; (try ((refine rl_add rfl rfl rfl ?_ ?_ ?_; omega; omega); (try (refine rl_assign (v := (Value.int _ _ : Value)) rfl rfl ?_))))))) | (refine region_ (id := 5) ?_; (try (refine rl_move (v := (Value.int _ _ : Value)) rfl rfl ?_; (try ((refine rl_add rfl rfl rfl ?_ ?_ ?_; omega; omega); (try (refine rl_assign (v := (Value.int _ _ : Value)) rfl rfl ?_))))))) | (refine region_ (id := 6) ?_; (try (refine rl_move (v := (Value.string _ : Value)) rfl rfl ?_; (try (refine rl_move (v := (Value.int _ _ : Value)) rfl rfl ?_; (try ((first | refine rl_sindex us9 rfl rfl rfl (by omega) (by assumption) ?_ | refine rl_ksindex rfl us9 rfl rfl (by omega) (by assumption) ?_); (try ((first | (refine rl_keql_t rfl rfl rfl ?_ ?_; omega) | (refine rl_keql_f rfl rfl rfl ?_ ?_; omega))))))))))) | (refine region_ (id := 7) ?_; (try (refine rl_assign (v := (Value.int _ _ : Value)) rfl rfl ?_)))))
        refine kq_normal (hL0 (s.length - (p + 1)) _ _ (by omega) (by (repeat (first | with_reducible exact Agree.ov | with_reducible exact Agree.refl _ _ | refine Agree.upd rfl ?_ | refine Agree.ovs rfl ?_))) ⟨p + 1, by rw [hsn]; rfl, rfl, by omega, rfl, rfl⟩)
      · have h10' : (c.toNat : Int) ≠ 10 := fun h => h10 (UInt8.toNat_inj.1 (show c.toNat = 10 by omega))
        rw [if_neg h10] at hsn
        (repeat (first | refine seq_ ?_ | refine sq_normal ?_ | refine rl_nil ?_ | refine cond_t rfl ?_ | refine cond_f rfl ?_ | refine skip_ ?_ | refine block_ ?_ | refine inBlock_normal ?_ | (refine region_ (id := 3) ?_; (try (refine rl_move (v := (Value.int _ _ : Value)) rfl rfl ?_; (try (refine rl_move (v := (Value.string _ : Value)) rfl rfl ?_; (try (refine rl_slen us9 rfl rfl ?_; (try ((first | (refine rl_lss_t rfl rfl rfl ?_ ?_; omega) | (refine rl_lss_f rfl rfl rfl ?_ ?_; omega)); (try (refine rl_move (v := (Value.bool _ : Value)) rfl rfl ?_; (try ((first | refine rl_off rfl ?_ | refine rl_move (v := (Value.int _ _ : Value)) rfl rfl ?_); (try ((first | refine rl_off rfl ?_ | refine rl_move (v := (Value.int _ _ : Value)) rfl rfl ?_); (try ((first | refine rl_off rfl ?_ | (refine rl_lss_t rfl rfl rfl ?_ ?_; omega) | (refine rl_lss_f rfl rfl rfl ?_ ?_; omega)); (try (refine rl_pick (v := (Value.bool _ : Value)) rfl rfl rfl ?_))))))))))))))))))) | (refine region_ (id := 4) ?_; (try (refine rl_move (v := (Value.int _ _ : Value)) rfl rfl ?_; (try ((refine rl_add rfl rfl rfl ?_ ?_ ?_; omega; omega); (try (refine rl_assign (v := (Value.int _ _ : Value)) rfl rfl ?_))))))) | (refine region_ (id := 5) ?_; (try (refine rl_move (v := (Value.int _ _ : Value)) rfl rfl ?_; (try ((refine rl_add rfl rfl rfl ?_ ?_ ?_; omega; omega); (try (refine rl_assign (v := (Value.int _ _ : Value)) rfl rfl ?_))))))) | (refine region_ (id := 6) ?_; (try (refine rl_move (v := (Value.string _ : Value)) rfl rfl ?_; (try (refine rl_move (v := (Value.int _ _ : Value)) rfl rfl ?_; (try ((first | refine rl_sindex us9 rfl rfl rfl (by omega) (by assumption) ?_ | refine rl_ksindex rfl us9 rfl rfl (by omega) (by assumption) ?_); (try ((first | (refine rl_keql_t rfl rfl rfl ?_ ?_; omega) | (refine rl_keql_f rfl rfl rfl ?_ ?_; omega)))))))))))))
        refine kq_normal (hL0 (s.length - (p + 1)) _ _ (by omega) (by (repeat (first | with_reducible exact Agree.ov | with_reducible exact Agree.refl _ _ | refine Agree.upd rfl ?_ | refine Agree.ovs rfl ?_))) ⟨p + 1, by rw [hsn]; rfl, rfl, by omega, rfl, rfl⟩)
    · have hpe : upto at_ s = p := by omega
      (repeat (first | refine seq_ ?_ | refine sq_normal ?_ | refine sq_exit ?_ | refine rl_nil ?_ | refine cond_f rfl ?_ | refine ret_ ?_ | refine exit_ ?_ | refine inBlock_exit ?_ | refine kq_exit ?_ | (refine region_ (id := 3) ?_; (try (refine rl_move (v := (Value.int _ _ : Value)) rfl rfl ?_; (try (refine rl_move (v := (Value.string _ : Value)) rfl rfl ?_; (try (refine rl_slen us9 rfl rfl ?_; (try ((first | (refine rl_lss_t rfl rfl rfl ?_ ?_; omega) | (refine rl_lss_f rfl rfl rfl ?_ ?_; omega)); (try (refine rl_move (v := (Value.bool _ : Value)) rfl rfl ?_; (try ((first | refine rl_off rfl ?_ | refine rl_move (v := (Value.int _ _ : Value)) rfl rfl ?_); (try ((first | refine rl_off rfl ?_ | refine rl_move (v := (Value.int _ _ : Value)) rfl rfl ?_); (try ((first | refine rl_off rfl ?_ | (refine rl_lss_t rfl rfl rfl ?_ ?_; omega) | (refine rl_lss_f rfl rfl rfl ?_ ?_; omega)); (try (refine rl_pick (v := (Value.bool _ : Value)) rfl rfl rfl ?_))))))))))))))))))) | (refine region_ (id := 8) ?_; (try (refine rl_move (v := (Value.int _ _ : Value)) rfl rfl ?_; (try (refine rl_assign (v := (Value.int _ _ : Value)) rfl rfl ?_)))))))
      exact bp_ret1 (v := Value.int _ _) rfl rfl ⟨by rw [hpe], rfl⟩
  · have hpe : upto at_ s = p := by omega
    (repeat (first | refine seq_ ?_ | refine sq_normal ?_ | refine sq_exit ?_ | refine rl_nil ?_ | refine cond_f rfl ?_ | refine ret_ ?_ | refine exit_ ?_ | refine inBlock_exit ?_ | refine kq_exit ?_ | (refine region_ (id := 3) ?_; (try (refine rl_move (v := (Value.int _ _ : Value)) rfl rfl ?_; (try (refine rl_move (v := (Value.string _ : Value)) rfl rfl ?_; (try (refine rl_slen us9 rfl rfl ?_; (try ((first | (refine rl_lss_t rfl rfl rfl ?_ ?_; omega) | (refine rl_lss_f rfl rfl rfl ?_ ?_; omega)); (try (refine rl_move (v := (Value.bool _ : Value)) rfl rfl ?_; (try ((first | refine rl_off rfl ?_ | refine rl_move (v := (Value.int _ _ : Value)) rfl rfl ?_); (try ((first | refine rl_off rfl ?_ | refine rl_move (v := (Value.int _ _ : Value)) rfl rfl ?_); (try ((first | refine rl_off rfl ?_ | (refine rl_lss_t rfl rfl rfl ?_ ?_; omega) | (refine rl_lss_f rfl rfl rfl ?_ ?_; omega)); (try (refine rl_pick (v := (Value.bool _ : Value)) rfl rfl rfl ?_))))))))))))))))))) | (refine region_ (id := 8) ?_; (try (refine rl_move (v := (Value.int _ _ : Value)) rfl rfl ?_; (try (refine rl_assign (v := (Value.int _ _ : Value)) rfl rfl ?_)))))))
    exact bp_ret1 (v := Value.int _ _) rfl rfl ⟨by rw [hpe], rfl⟩
end Go.Proofs.YtbcplbkjeinplaaDoor.Chr
