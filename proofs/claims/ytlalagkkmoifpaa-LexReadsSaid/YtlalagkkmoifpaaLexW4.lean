/- The walks of lex.inName, lex.number. -/
import Derived.Test.YtlalagkkmoifpaaLexW3
import Derived.Test.YtlalagkkmoifpaaEng20
import Derived.Test.YtlalagkkmoifpaaLexE
set_option linter.unusedVariables false
set_option linter.unusedSimpArgs false
namespace Go.Proofs.Ytlalagkkmoifpaa.Lex
open Go Go.Eng Go.RowKit Go.Lx
attribute [local irreducible] RL RX KQ SQ Exit.inBlock Exit.then BP NP CallsOk IsSl IsRows IsInts IsBools Own Blk Code.wp Calls wpList
theorem mem_signs (c : UInt8) : c ∈ [(48 : UInt8), 49, 50, 51, 52, 53, 54, 55, 56, 57, 39, 95] ↔ dig c = true ∨ c.toNat = 39 ∨ c.toNat = 95 := by
  rw [show [(48 : UInt8), 49, 50, 51, 52, 53, 54, 55, 56, 57, 39, 95] = [48, 49, 50, 51, 52, 53, 54, 55, 56, 57] ++ [39, 95] from rfl, List.mem_append, mem_digits]
  have h1 : c = 39 ↔ c.toNat = 39 := ⟨fun h => by rw [h]; rfl, fun h => UInt8.toNat_inj.1 h⟩
  have h2 : c = 95 ↔ c.toNat = 95 := ⟨fun h => by rw [h]; rfl, fun h => UInt8.toNat_inj.1 h⟩
  simp only [List.mem_cons, List.not_mem_nil, or_false, h1, h2]
theorem inName_ok : Tells 40 sign := by
  intro c w0 w L V hM
  refine enter_ (N := 16) Try.func40 rfl rfl rfl ?_
  have hl := enc_len c
  (repeat (first | refine seq_ ?_ | refine sq_normal ?_ | refine rl_nil ?_ | (refine region_ (id := 0) ?_; (try (refine rl_assign (v := (Value.bool _ : Value)) rfl rfl ?_))) | (refine region_ (id := 1) ?_; (try (refine rl_move (v := (Value.int _ _ : Value)) rfl rfl ?_; (try (refine rl_convS ui5 us9 rfl rfl (by first | exact Lx.enc_eq _ | rfl) ?_)))))))
  refine rl_callf fn16 (lower_ok (enc c) w0 w L V hM (by omega)) rfl rfl ?_
  clear hM
  rintro _ w ⟨rfl, hM⟩
  rw [isLow_enc]
  cases h1 : low c with
  | true =>
    (repeat (first | refine sq_normal ?_ | refine rl_nil ?_ | refine ret_ ?_ | refine rl_assign (v := (Value.bool _ : Value)) rfl rfl ?_ | refine rl_move (v := (Value.bool _ : Value)) rfl rfl ?_ | (first | refine rl_off rfl ?_ | refine rl_move (v := (Value.int _ _ : Value)) rfl rfl ?_) | refine rl_pick (v := (Value.bool _ : Value)) rfl rfl rfl ?_))
    exact bp_ret1 (v := Value.bool _) rfl rfl ⟨by simp [sign, plain, h1], hM⟩
  | false =>
    (repeat (first | refine rl_move (v := (Value.int _ _ : Value)) rfl rfl ?_ | refine rl_convS ui5 us9 rfl rfl (by first | exact Lx.enc_eq _ | rfl) ?_ | refine rl_move (v := (Value.bool _ : Value)) rfl rfl ?_))
    refine rl_callf fn17 (upper_ok (enc c) w0 w L V hM (by omega)) rfl rfl ?_
    clear hM
    rintro _ w ⟨rfl, hM⟩
    rw [isUpp_enc]
    cases h2 : upp c with
    | true =>
      (repeat (first | refine sq_normal ?_ | refine rl_nil ?_ | refine ret_ ?_ | refine rl_assign (v := (Value.bool _ : Value)) rfl rfl ?_ | refine rl_move (v := (Value.bool _ : Value)) rfl rfl ?_ | (first | refine rl_off rfl ?_ | refine rl_move (v := (Value.int _ _ : Value)) rfl rfl ?_) | refine rl_pick (v := (Value.bool _ : Value)) rfl rfl rfl ?_))
      exact bp_ret1 (v := Value.bool _) rfl rfl ⟨by simp [sign, plain, h1, h2], hM⟩
    | false =>
      (repeat (first | refine rl_move (v := (Value.int _ _ : Value)) rfl rfl ?_ | refine rl_move (v := (Value.bool _ : Value)) rfl rfl ?_ | refine rl_pick (v := (Value.bool _ : Value)) rfl rfl rfl ?_))
      refine rl_callf fn27 (index27_ok [48, 49, 50, 51, 52, 53, 54, 55, 56, 57, 39, 95] c w) rfl rfl ?_
      rintro _ w ⟨rfl, rfl⟩
      rcases firstIdx_nn [48, 49, 50, 51, 52, 53, 54, 55, 56, 57, 39, 95] c with ⟨h3, h4⟩ | ⟨h3, h4, h5⟩
      · rw [h3]
        rw [mem_signs, not_or, not_or, Bool.not_eq_true] at h4
        (repeat (first | refine sq_normal ?_ | refine rl_nil ?_ | refine ret_ ?_ | refine rl_assign (v := (Value.bool _ : Value)) rfl rfl ?_ | refine rl_pick (v := (Value.bool _ : Value)) rfl rfl rfl ?_ | (first | refine rl_off rfl ?_ | (refine rl_geq_t rfl rfl rfl ?_ ?_; omega) | (refine rl_geq_f rfl rfl rfl ?_ ?_; omega))))
        exact bp_ret1 (v := Value.bool _) rfl rfl ⟨by simp [sign, plain, h1, h2, h4], hM⟩
      · rw [mem_signs] at h5
        (repeat (first | refine sq_normal ?_ | refine rl_nil ?_ | refine ret_ ?_ | refine rl_assign (v := (Value.bool _ : Value)) rfl rfl ?_ | refine rl_pick (v := (Value.bool _ : Value)) rfl rfl rfl ?_ | (first | refine rl_off rfl ?_ | (refine rl_geq_t rfl rfl rfl ?_ ?_; omega) | (refine rl_geq_f rfl rfl rfl ?_ ?_; omega))))
        refine bp_ret1 (v := Value.bool _) rfl rfl ⟨?_, hM⟩
        rcases h5 with h | h | h <;> simp [sign, plain, h1, h2, h]
theorem number_ok (s : List UInt8) (w : World) (hs : s.length ≤ 1000000000) (hd : s.all dig = true) :
    CallsOk Try.prog 39 #[St s] w fun r w' => r = .int .i64 (min (val s : Int) 2147483648) ∧ w' = w := by
  refine enter_ (N := 21) Try.func39 rfl rfl rfl ?_
  have hM := Mem.init w
  (repeat (first | refine seq_ ?_ | refine sq_normal ?_ | refine rl_nil ?_ | refine block_ ?_ | (refine region_ (id := 0) ?_; (try (refine rl_assign (v := (Value.int _ _ : Value)) rfl rfl ?_))) | (refine region_ (id := 1) ?_; (try (refine rl_assign (v := (Value.int _ _ : Value)) rfl rfl ?_))) | (refine region_ (id := 2) ?_; (try (refine rl_move (v := (Value.string _ : Value)) rfl rfl ?_; (try (refine rl_slen us9 rfl rfl ?_; (try (refine rl_move (v := (Value.int _ _ : Value)) rfl rfl ?_)))))))))
  refine loop2 [(3, 5), (7, 20)] 3 7 (fun m v3 v7 wr => ∃ (z : Int) (p : Nat), v3 = .int .i64 z ∧ v7 = .int .i64 p ∧ p ≤ s.length ∧ m = s.length - p ∧ wr = w ∧ z = min (val (s.take p) : Int) 2147483648 ∧ 0 ≤ z ∧ z ≤ 2147483648) _
    ⟨0, 0, rfl, rfl, by omega, rfl, rfl, by rfl, by omega, by omega⟩ ?_
  rintro m τ v3 v7 w' ⟨z, p, rfl, rfl, hp, rfl, hw, hz, hz0, hz1⟩ K0 hL0
  subst hw
  by_cases hlt : p < s.length
  · obtain ⟨c, hc⟩ : ∃ c, s[p]? = some c := ⟨_, List.getElem?_eq_getElem hlt⟩
    have hdc : dig c = true := by
      rw [List.all_eq_true] at hd
      exact hd c (List.mem_of_getElem? hc)
    simp only [dig, Bool.and_eq_true, decide_eq_true_eq] at hdc
    obtain ⟨hd1, hd2⟩ := hdc
    (repeat (first | refine seq_ ?_ | refine sq_normal ?_ | refine rl_nil ?_ | refine cond_t rfl ?_ | refine skip_ ?_ | refine block_ ?_ | refine inBlock_normal ?_ | (refine region_ (id := 3) ?_; (try ((first | (refine rl_lss_t rfl rfl rfl ?_ ?_; omega) | (refine rl_lss_f rfl rfl rfl ?_ ?_; omega))))) | (refine region_ (id := 4) ?_; (try (refine rl_move (v := (Value.int _ _ : Value)) rfl rfl ?_; (try (refine rl_assign (v := (Value.int _ _ : Value)) rfl rfl ?_))))) | (refine region_ (id := 5) ?_; (try (refine rl_move (v := (Value.int _ _ : Value)) rfl rfl ?_; (try ((refine rl_mul rfl rfl rfl ?_ ?_ ?_; omega; omega); (try (refine rl_move (v := (Value.string _ : Value)) rfl rfl ?_; (try (refine rl_move (v := (Value.int _ _ : Value)) rfl rfl ?_; (try (refine rl_sindex us9 rfl rfl rfl (by omega) (by assumption) ?_; (try ((refine rl_usub rfl rfl rfl ?_ ?_ ?_; omega; omega); (try ((refine rl_conv64 (by rw [ui5]; rfl) ui3 rfl rfl ?_ ?_ ?_; omega; omega); (try ((refine rl_add rfl rfl rfl ?_ ?_ ?_; omega; omega); (try (refine rl_min rfl rfl rfl ?_; (try (refine rl_assign (v := (Value.int _ _ : Value)) rfl rfl ?_))))))))))))))))))))) | (refine region_ (id := 6) ?_; (try ((refine rl_add rfl rfl rfl ?_ ?_ ?_; omega; omega); (try (refine rl_move (v := (Value.int _ _ : Value)) rfl rfl ?_)))))))
    refine kq_normal (hL0 (s.length - (p + 1)) _ _ (by omega) (by (repeat (first | with_reducible exact Agree.ov | with_reducible exact Agree.refl _ _ | refine Agree.upd rfl ?_ | refine Agree.ovs rfl ?_))) ⟨_, p + 1, rfl, rfl, by omega, rfl, rfl, ?_, by omega, by omega⟩)
    rw [List.take_add_one, hc]
    have := val_snoc (s.take p) c
    simp only [Option.toList_some]
    rw [this]
    omega
  · have hpe : p = s.length := by omega
    subst hpe
    rw [List.take_length] at hz
    (repeat (first | refine seq_ ?_ | refine sq_normal ?_ | refine sq_exit ?_ | refine rl_nil ?_ | refine cond_f rfl ?_ | refine ret_ ?_ | refine exit_ ?_ | refine inBlock_exit ?_ | refine kq_exit ?_ | (refine region_ (id := 3) ?_; (try ((first | (refine rl_lss_t rfl rfl rfl ?_ ?_; omega) | (refine rl_lss_f rfl rfl rfl ?_ ?_; omega))))) | (refine region_ (id := 7) ?_; (try (refine rl_move (v := (Value.int _ _ : Value)) rfl rfl ?_; (try (refine rl_assign (v := (Value.int _ _ : Value)) rfl rfl ?_)))))))
    exact bp_ret1 (v := Value.int _ _) rfl rfl ⟨by rw [hz], rfl⟩
end Go.Proofs.Ytlalagkkmoifpaa.Lex
