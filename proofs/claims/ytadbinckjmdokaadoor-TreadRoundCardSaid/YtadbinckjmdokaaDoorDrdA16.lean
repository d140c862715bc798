/- The walks of fugueref01.Decimal, SameTexts. -/
import Derived.Test.YtadbinckjmdokaaDoorDrdA11
import Derived.Test.YtadbinckjmdokaaDoorEnC
set_option linter.unusedVariables false
set_option linter.unusedSimpArgs false
namespace Go.Proofs.YtadbinckjmdokaaDoor.Trd
open Go Go.Eng Go.RowKit Go.Lx
attribute [local irreducible] RL RX KQ SQ Exit.inBlock Exit.then BP NP CallsOk IsSl IsRows IsInts IsBools Own Blk Code.wp Calls wpList
set_option maxRecDepth 8000 in
theorem decimal_ok : ∀ (k : Nat) (n : Int) (w0 w : World) (L : List Ent) (V : Vw), Mem w0 w L V → 0 ≤ n → n < 10 ^ k → n ≤ 9223372036854775807 → k ≤ 20 →
    CallsOk Tryd.prog 40 #[.int .i64 n] w fun r w' => ∃ d, r = St d ∧ d.length ≤ k + 1 ∧ Mem w0 w' L V := by
  intro k
  induction k with
  | zero =>
    intro n w0 w L V hM h0 h1 hn hk
    have hn0 : n = 0 := by simp at h1; omega
    subst hn0
    refine enter_ (N := 32) Tryd.func40 rfl rfl rfl ?_
    (repeat (first | refine seq_ ?_ | refine sq_normal ?_ | refine rl_nil ?_ | refine cond_f rfl ?_ | refine skip_ ?_ | (refine region_ (id := 0) ?_; (try (refine rl_assign (v := (Value.string _ : Value)) rfl rfl ?_))) | (refine region_ (id := 1) ?_; (try (refine rl_move (v := (Value.int _ _ : Value)) rfl rfl ?_; (try ((refine rl_rem rfl rfl rfl ?_ ?_ ?_; omega; omega); (try (refine rl_assign (v := (Value.int _ _ : Value)) rfl rfl ?_))))))) | (refine region_ (id := 2) ?_; (try (refine rl_move (v := (Value.int _ _ : Value)) rfl rfl ?_; (try ((refine rl_lss_f rfl rfl rfl ?_ ?_; omega)))))) | (refine region_ (id := 4) ?_; (try (refine rl_move (v := (Value.int _ _ : Value)) rfl rfl ?_; (try ((refine rl_add rfl rfl rfl ?_ ?_ ?_; omega; omega); (try ((refine rl_conv8 (by rw [ui3]; rfl) ui5 rfl rfl ?_ ?_ ?_; omega; omega); (try ((refine rl_bsliceM (d := 14) [_] hM sl92 rfl rfl rfl rfl rfl (by decide) (by decide) ?_; clear hM; intro w b14 hM))))))))))))
    refine rl_b2s [48] sl92.und (by kernel_rfl) us9 rfl rfl rfl (fun j u hj => ?_) ?_
    · have := hM.cell (i := 0) (o := 0 + j) (v := .int .u8 u.toNat) rfl (by
        rw [Nat.zero_add]
        cases j with
        | zero => simp at hj; subst hj; rfl
        | succ j => simp at hj)
      exact this
    (repeat (first | refine seq_ ?_ | refine sq_normal ?_ | refine sq_ret ?_ | refine rl_nil ?_ | refine cond_t rfl ?_ | refine cond_f rfl ?_ | refine skip_ ?_ | refine ret_ ?_ | (refine region_ (id := 5) ?_; (try (refine rl_move (v := (Value.int _ _ : Value)) rfl rfl ?_; (try ((refine rl_gtr_t rfl rfl rfl ?_ ?_; omega); (try (refine rl_move (v := (Value.bool _ : Value)) rfl rfl ?_; (try (refine rl_move (v := (Value.int _ _ : Value)) rfl rfl ?_; (try ((refine rl_lss_t rfl rfl rfl ?_ ?_; omega); (try (refine rl_pick (v := (Value.bool _ : Value)) rfl rfl rfl ?_))))))))))))) | (refine region_ (id := 6) ?_; (try (refine rl_move (v := (Value.int _ _ : Value)) rfl rfl ?_; (try ((refine rl_lss_f rfl rfl rfl ?_ ?_; omega)))))) | (refine region_ (id := 8) ?_; (try (refine rl_move (v := (Value.string _ : Value)) rfl rfl ?_; (try (refine rl_assign (v := (Value.string _ : Value)) rfl rfl ?_))))) | refine rl_assign (v := (Value.string _ : Value)) rfl rfl ?_))
    exact bp_ret1 (v := St _) rfl rfl ⟨[48], rfl, by simp, hM.dropn 1⟩
  | succ k ih =>
    intro n w0 w L V hM h0 h1 hn hk
    have hr : 0 ≤ n % 10 ∧ n % 10 < 10 := ⟨Int.emod_nonneg _ (by omega), Int.emod_lt_of_pos _ (by omega)⟩
    have hq : 0 ≤ n / 10 ∧ n / 10 ≤ n := ⟨Int.ediv_nonneg h0 (by omega), by omega⟩
    have hq2 : n / 10 < 10 ^ k := by
      have : n < 10 ^ k * 10 := by rw [← Int.pow_succ]; exact h1
      omega
    refine enter_ (N := 32) Tryd.func40 rfl rfl rfl ?_
    (repeat (first | refine seq_ ?_ | refine sq_normal ?_ | refine rl_nil ?_ | refine cond_f rfl ?_ | refine skip_ ?_ | (refine region_ (id := 0) ?_; (try (refine rl_assign (v := (Value.string _ : Value)) rfl rfl ?_))) | (refine region_ (id := 1) ?_; (try (refine rl_move (v := (Value.int _ _ : Value)) rfl rfl ?_; (try ((refine rl_rem rfl rfl rfl ?_ ?_ ?_; omega; omega); (try (refine rl_assign (v := (Value.int _ _ : Value)) rfl rfl ?_))))))) | (refine region_ (id := 2) ?_; (try (refine rl_move (v := (Value.int _ _ : Value)) rfl rfl ?_; (try ((refine rl_lss_f rfl rfl rfl ?_ ?_; omega)))))) | (refine region_ (id := 4) ?_; (try (refine rl_move (v := (Value.int _ _ : Value)) rfl rfl ?_; (try ((refine rl_add rfl rfl rfl ?_ ?_ ?_; omega; omega); (try ((refine rl_conv8 (by rw [ui3]; rfl) ui5 rfl rfl ?_ ?_ ?_; omega; omega); (try ((refine rl_bsliceM (d := 14) [_] hM sl92 rfl rfl rfl rfl rfl (by decide) (by decide) ?_; clear hM; intro w b14 hM))))))))))))
    obtain ⟨dd, hdd⟩ : ∃ dd : UInt8, (dd.toNat : Int) = 48 + n % 10 := ⟨UInt8.ofNat (48 + n % 10).toNat, by rw [UInt8.toNat_ofNat']; omega⟩
    refine rl_b2s [dd] sl92.und (by kernel_rfl) us9 rfl rfl rfl (fun j u hj => ?_) ?_
    · have := hM.cell (i := 0) (o := 0 + j) (v := .int .u8 u.toNat) rfl (by
        rw [Nat.zero_add]
        cases j with
        | zero => simp at hj; subst hj; rw [hdd]; rfl
        | succ j => simp at hj)
      exact this
    by_cases hs : n < 10
    · (repeat (first | refine seq_ ?_ | refine sq_normal ?_ | refine sq_ret ?_ | refine rl_nil ?_ | refine cond_t rfl ?_ | refine cond_f rfl ?_ | refine skip_ ?_ | refine ret_ ?_ | (refine region_ (id := 5) ?_; (try (refine rl_move (v := (Value.int _ _ : Value)) rfl rfl ?_; (try ((refine rl_gtr_t rfl rfl rfl ?_ ?_; omega); (try (refine rl_move (v := (Value.bool _ : Value)) rfl rfl ?_; (try (refine rl_move (v := (Value.int _ _ : Value)) rfl rfl ?_; (try ((refine rl_lss_t rfl rfl rfl ?_ ?_; omega); (try (refine rl_pick (v := (Value.bool _ : Value)) rfl rfl rfl ?_))))))))))))) | (refine region_ (id := 6) ?_; (try (refine rl_move (v := (Value.int _ _ : Value)) rfl rfl ?_; (try ((refine rl_lss_f rfl rfl rfl ?_ ?_; omega)))))) | (refine region_ (id := 8) ?_; (try (refine rl_move (v := (Value.string _ : Value)) rfl rfl ?_; (try (refine rl_assign (v := (Value.string _ : Value)) rfl rfl ?_))))) | refine rl_assign (v := (Value.string _ : Value)) rfl rfl ?_))
      exact bp_ret1 (v := St _) rfl rfl ⟨[dd], rfl, by simp, hM.dropn 1⟩
    · (repeat (first | refine seq_ ?_ | refine sq_normal ?_ | refine rl_nil ?_ | refine cond_f rfl ?_ | refine skip_ ?_ | (refine region_ (id := 5) ?_; (try (refine rl_move (v := (Value.int _ _ : Value)) rfl rfl ?_; (try ((refine rl_gtr_t rfl rfl rfl ?_ ?_; omega); (try (refine rl_move (v := (Value.bool _ : Value)) rfl rfl ?_; (try (refine rl_move (v := (Value.int _ _ : Value)) rfl rfl ?_; (try ((refine rl_lss_f rfl rfl rfl ?_ ?_; omega); (try (refine rl_pick (v := (Value.bool _ : Value)) rfl rfl rfl ?_))))))))))))) | (refine region_ (id := 9) ?_; (try (refine rl_move (v := (Value.int _ _ : Value)) rfl rfl ?_; (try ((refine rl_quo rfl rfl rfl ?_ ?_ ?_ ?_; omega; omega; omega)))))) | refine rl_assign (v := (Value.string _ : Value)) rfl rfl ?_))
      refine rl_callf fn40 (ih (n / 10) w0 w _ V hM (by omega) hq2 (by omega) (by omega)) rfl rfl ?_
      clear hM
      rintro _ w ⟨d, rfl, hdl, hM⟩
      (repeat (first | refine sq_normal ?_ | refine rl_nil ?_ | refine ret_ ?_ | refine rl_assign (v := (Value.string _ : Value)) rfl rfl ?_ | refine rl_move (v := (Value.string _ : Value)) rfl rfl ?_ | (refine rl_sadd rfl rfl rfl (by (first | omega | (simp only [List.length_append, List.length_cons, List.length_nil, List.length_take, List.length_drop] at *; omega))) ?_)))
      exact bp_ret1 (v := St _) rfl rfl ⟨d ++ [dd], rfl, by simp; omega, hM.dropn 1⟩
set_option maxRecDepth 8000 in
theorem sameTexts_ok (v u : Value) (l k : List (List UInt8)) (w0 w : World) (L : List Ent) (V : Vw) (hM : Mem w0 w L V) (hv : IsTs V v l) (hu : IsTs V u k) (hl : l.length ≤ 1000000) (hk : k.length ≤ 1000000) :
    CallsOk Tryd.prog 23 #[v, u] w fun r w' => r = .bool (decide (l = k)) ∧ Mem w0 w' L V := by
  obtain ⟨a, c, b, off, rfl, h1, h2, h3, h4⟩ := hv.open'
  obtain ⟨a', c', b', off', rfl, h1', h2', h3', h4'⟩ := hu.open'
  have hml := maxLen_le
  refine enter_ (N := 26) Tryd.func23 rfl rfl rfl ?_
  by_cases hlen : (l.length : Int) = k.length
  · (repeat (first | refine seq_ ?_ | refine sq_normal ?_ | refine rl_nil ?_ | refine cond_f rfl ?_ | refine skip_ ?_ | refine block_ ?_ | (refine region_ (id := 0) ?_; (try (refine rl_assign (v := (Value.bool _ : Value)) rfl rfl ?_))) | (refine region_ (id := 1) ?_; (try (refine rl_move (v := (Value.slice _ _ _ : Value)) rfl rfl ?_; (try (refine rl_len sl28 rfl rfl ?_; (try (refine rl_move (v := (Value.slice _ _ _ : Value)) rfl rfl ?_; (try (refine rl_len sl28 rfl rfl ?_; (try ((refine rl_neq_f rfl rfl rfl ?_ ?_; omega)))))))))))) | (refine region_ (id := 3) ?_; (try (refine rl_assign (v := (Value.int _ _ : Value)) rfl rfl ?_)))))
    refine loop1 [(4, 6), (11, 26)] 5 (fun m v wr => ∃ p : Nat, v = .int .i64 p ∧ p ≤ l.length ∧ m = l.length - p ∧ Mem w0 wr L V ∧ l.take p = k.take p) _
      ⟨0, rfl, by omega, rfl, hM, rfl⟩ ?_
    clear hM
    rintro m τ v w ⟨p, rfl, hp, rfl, hM, hall⟩ K0 hL0
    by_cases hlt : p < l.length
    · obtain ⟨x, hx⟩ : ∃ x, l[p]? = some x := ⟨_, List.getElem?_eq_getElem hlt⟩
      obtain ⟨y, hy⟩ : ∃ y, k[p]? = some y := ⟨_, List.getElem?_eq_getElem (by omega)⟩
      have hA := h3 (by omega)
      have hA' := h3' (by omega)
      subst hA hA'
      have hr := h4 p x hx
      have hr' := h4' p y hy
      by_cases he : x = y
      · (repeat (first | refine seq_ ?_ | refine sq_normal ?_ | refine rl_nil ?_ | refine cond_t rfl ?_ | refine skip_ ?_ | refine block_ ?_ | (refine region_ (id := 4) ?_; (try (refine rl_move (v := (Value.int _ _ : Value)) rfl rfl ?_; (try (refine rl_move (v := (Value.slice _ _ _ : Value)) rfl rfl ?_; (try (refine rl_len sl28 rfl rfl ?_; (try ((refine rl_lss_t rfl rfl rfl ?_ ?_; omega))))))))))))
        (refine drawnM_ 8 [(0, false), (1, false), (2, false), (3, false), (4, false), (5, false), (6, false), (7, false)] (fun w => Mem w0 w _ _) hM mo (by kernel_rfl) (fun _ h => h) ?_; clear hM; intro w hM; (try (refine rx_move (v := (Value.slice _ _ _ : Value)) rfl rfl rfl ?_; (try (refine rx_move (v := (Value.int _ _ : Value)) rfl rfl rfl ?_; (try ((refine rx_idx1 rfl sl28 rfl rfl rfl rfl ?_ ?_ ?_; omega; omega); (try (refine rx_loadV rfl (fun _ h => h) vt9 rfl rfl (by first | assumption | exact VRow.get (by assumption) rfl | exact VRow.get0 (by assumption) rfl) ?_; (try (refine rx_move (v := (Value.slice _ _ _ : Value)) rfl rfl rfl ?_; (try (refine rx_move (v := (Value.int _ _ : Value)) rfl rfl rfl ?_; (try ((refine rx_idx1 rfl sl28 rfl rfl rfl rfl ?_ ?_ ?_; omega; omega); (try (refine rx_loadV rfl (fun _ h => h) vt9 rfl rfl (by first | assumption | exact VRow.get (by assumption) rfl | exact VRow.get0 (by assumption) rfl) ?_)))))))))))))))))
        refine rx_nil rfl ?_
        (repeat (first | refine sq_normal ?_ | refine rl_nil ?_ | refine cond_f rfl ?_ | refine skip_ ?_ | refine inBlock_normal ?_ | refine np_normal ?_ | (refine region_ (id := 5) ?_; (try (refine rl_move (v := (Value.int _ _ : Value)) rfl rfl ?_; (try ((refine rl_add rfl rfl rfl ?_ ?_ ?_; omega; omega); (try (refine rl_assign (v := (Value.int _ _ : Value)) rfl rfl ?_))))))) | refine rl_sneq_f rfl rfl rfl (by first | rfl | assumption) ?_))
        exact kq_normal (hL0 (l.length - (p + 1)) _ _ (by omega) (by (repeat (first | with_reducible exact Agree.ov | with_reducible exact Agree.refl _ _ | refine Agree.upd rfl ?_ | refine Agree.ovs rfl ?_))) ⟨p + 1, rfl, by omega, rfl, hM, by rw [List.take_add_one, List.take_add_one, hall, hx, hy, he]⟩)
      · (repeat (first | refine seq_ ?_ | refine sq_normal ?_ | refine rl_nil ?_ | refine cond_t rfl ?_ | refine skip_ ?_ | refine block_ ?_ | (refine region_ (id := 4) ?_; (try (refine rl_move (v := (Value.int _ _ : Value)) rfl rfl ?_; (try (refine rl_move (v := (Value.slice _ _ _ : Value)) rfl rfl ?_; (try (refine rl_len sl28 rfl rfl ?_; (try ((refine rl_lss_t rfl rfl rfl ?_ ?_; omega))))))))))))
        (refine drawnM_ 8 [(0, false), (1, false), (2, false), (3, false), (4, false), (5, false), (6, false), (7, false)] (fun w => Mem w0 w _ _) hM mo (by kernel_rfl) (fun _ h => h) ?_; clear hM; intro w hM; (try (refine rx_move (v := (Value.slice _ _ _ : Value)) rfl rfl rfl ?_; (try (refine rx_move (v := (Value.int _ _ : Value)) rfl rfl rfl ?_; (try ((refine rx_idx1 rfl sl28 rfl rfl rfl rfl ?_ ?_ ?_; omega; omega); (try (refine rx_loadV rfl (fun _ h => h) vt9 rfl rfl (by first | assumption | exact VRow.get (by assumption) rfl | exact VRow.get0 (by assumption) rfl) ?_; (try (refine rx_move (v := (Value.slice _ _ _ : Value)) rfl rfl rfl ?_; (try (refine rx_move (v := (Value.int _ _ : Value)) rfl rfl rfl ?_; (try ((refine rx_idx1 rfl sl28 rfl rfl rfl rfl ?_ ?_ ?_; omega; omega); (try (refine rx_loadV rfl (fun _ h => h) vt9 rfl rfl (by first | assumption | exact VRow.get (by assumption) rfl | exact VRow.get0 (by assumption) rfl) ?_)))))))))))))))))
        refine rx_nil rfl ?_
        (repeat (first | refine seq_ ?_ | refine sq_normal ?_ | refine sq_ret ?_ | refine rl_nil ?_ | refine cond_t rfl ?_ | refine ret_ ?_ | refine inBlock_ret ?_ | refine kq_ret ?_ | refine np_normal ?_ | (refine region_ (id := 7) ?_; (try (refine rl_assign (v := (Value.bool _ : Value)) rfl rfl ?_))) | refine rl_sneq_t rfl rfl rfl (by first | assumption | decide) ?_))
        refine bp_ret1 (v := Value.bool _) rfl rfl ⟨?_, hM⟩
        rw [decide_eq_false (fun h => he (by rw [h, hy] at hx; cases hx; rfl))]
    · (repeat (first | refine seq_ ?_ | refine sq_normal ?_ | refine sq_exit ?_ | refine rl_nil ?_ | refine cond_f rfl ?_ | refine ret_ ?_ | refine exit_ ?_ | refine inBlock_exit ?_ | refine kq_exit ?_ | (refine region_ (id := 4) ?_; (try (refine rl_move (v := (Value.int _ _ : Value)) rfl rfl ?_; (try (refine rl_move (v := (Value.slice _ _ _ : Value)) rfl rfl ?_; (try (refine rl_len sl28 rfl rfl ?_; (try ((refine rl_lss_f rfl rfl rfl ?_ ?_; omega)))))))))) | (refine region_ (id := 8) ?_; (try (refine rl_assign (v := (Value.bool _ : Value)) rfl rfl ?_)))))
      refine bp_ret1 (v := Value.bool _) rfl rfl ⟨?_, hM⟩
      have hpl : p = l.length := by omega
      subst hpl
      rw [List.take_length, List.take_of_length_le (by omega)] at hall
      rw [decide_eq_true hall]
  · (repeat (first | refine seq_ ?_ | refine sq_normal ?_ | refine sq_ret ?_ | refine rl_nil ?_ | refine cond_t rfl ?_ | refine ret_ ?_ | (refine region_ (id := 0) ?_; (try (refine rl_assign (v := (Value.bool _ : Value)) rfl rfl ?_))) | (refine region_ (id := 1) ?_; (try (refine rl_move (v := (Value.slice _ _ _ : Value)) rfl rfl ?_; (try (refine rl_len sl28 rfl rfl ?_; (try (refine rl_move (v := (Value.slice _ _ _ : Value)) rfl rfl ?_; (try (refine rl_len sl28 rfl rfl ?_; (try ((refine rl_neq_t rfl rfl rfl ?_ ?_; omega)))))))))))) | (refine region_ (id := 2) ?_; (try (refine rl_assign (v := (Value.bool _ : Value)) rfl rfl ?_)))))
    refine bp_ret1 (v := Value.bool _) rfl rfl ⟨?_, hM⟩
    rw [decide_eq_false (fun h => hlen (by rw [h]))]
end Go.Proofs.YtadbinckjmdokaaDoor.Trd
