/- The walks of fugueref01.Around, Short, Ints, SameInts. -/
import Derived.Test.YtoekjhalcjhegaaHepTy
import Derived.Test.YtoekjhalcjhegaaEng25
import Derived.Test.YtoekjhalcjhegaaEng17
set_option linter.unusedVariables false
set_option linter.unusedSimpArgs false
namespace Go.Proofs.Ytoekjhalcjhegaa.Hep
open Go Go.Eng Go.RowKit
attribute [local irreducible] RL RX KQ SQ Exit.inBlock Exit.then BP NP CallsOk IsSl IsRows IsInts IsBools Own Blk Code.wp Calls wpList
def around (n m : Int) : Int := (if n < 0 then -(n + 1) else n) % m
theorem around_ok (n m : Int) (w : World) (h1 : -9223372036854775808 ≤ n) (h2 : n ≤ 9223372036854775807) (hm : 0 < m) (hm2 : m ≤ 9223372036854775807) :
    CallsOk Try.prog 11 #[.int .i64 n, .int .i64 m] w fun v w' => v = .int .i64 (around n m) ∧ w = w' := by
  refine enter_ (N := 13) Try.func11 rfl rfl rfl ?_
  by_cases hn : n < 0
  · (repeat (first | refine seq_ ?_ | refine sq_normal ?_ | refine rl_nil ?_ | refine cond_t rfl ?_ | refine ret_ ?_ | (refine region_ (id := 0) ?_; (try (refine rl_assign (v := (Value.int _ _ : Value)) rfl rfl ?_))) | (refine region_ (id := 1) ?_; (try (refine rl_move (v := (Value.int _ _ : Value)) rfl rfl ?_; (try ((first | (refine rl_lss_t rfl rfl rfl ?_ ?_; omega) | (refine rl_lss_f rfl rfl rfl ?_ ?_; omega))))))) | (refine region_ (id := 2) ?_; (try (refine rl_move (v := (Value.int _ _ : Value)) rfl rfl ?_; (try ((refine rl_add rfl rfl rfl ?_ ?_ ?_; omega; omega); (try ((refine rl_neg rfl rfl ?_ ?_ ?_; omega; omega); (try (refine rl_assign (v := (Value.int _ _ : Value)) rfl rfl ?_))))))))) | (refine region_ (id := 3) ?_; (try (refine rl_move (v := (Value.int _ _ : Value)) rfl rfl ?_; (try (refine rl_move (v := (Value.int _ _ : Value)) rfl rfl ?_; (try ((refine rl_rem rfl rfl rfl ?_ ?_ ?_; omega; omega); (try (refine rl_assign (v := (Value.int _ _ : Value)) rfl rfl ?_)))))))))))
    refine bp_ret1 (v := Value.int _ _) rfl rfl ⟨?_, rfl⟩
    unfold around; rw [if_pos hn]
  · (repeat (first | refine seq_ ?_ | refine sq_normal ?_ | refine rl_nil ?_ | refine cond_f rfl ?_ | refine skip_ ?_ | refine ret_ ?_ | (refine region_ (id := 0) ?_; (try (refine rl_assign (v := (Value.int _ _ : Value)) rfl rfl ?_))) | (refine region_ (id := 1) ?_; (try (refine rl_move (v := (Value.int _ _ : Value)) rfl rfl ?_; (try ((first | (refine rl_lss_t rfl rfl rfl ?_ ?_; omega) | (refine rl_lss_f rfl rfl rfl ?_ ?_; omega))))))) | (refine region_ (id := 3) ?_; (try (refine rl_move (v := (Value.int _ _ : Value)) rfl rfl ?_; (try (refine rl_move (v := (Value.int _ _ : Value)) rfl rfl ?_; (try ((refine rl_rem rfl rfl rfl ?_ ?_ ?_; omega; omega); (try (refine rl_assign (v := (Value.int _ _ : Value)) rfl rfl ?_)))))))))))
    refine bp_ret1 (v := Value.int _ _) rfl rfl ⟨?_, rfl⟩
    unfold around; rw [if_neg hn]
theorem around_lt (n m : Int) (hm : 0 < m) : 0 ≤ around n m ∧ around n m < m := by
  unfold around
  exact ⟨Int.emod_nonneg _ (by omega), Int.emod_lt_of_pos _ hm⟩
theorem short_ok (l : List UInt8) (m : Int) (w : World) (hm : 0 ≤ m) (hm2 : m ≤ 1000000) (hl : l.length ≤ 9223372036854775807) :
    CallsOk Try.prog 36 #[St l, .int .i64 m] w fun v w' => v = St (l.take m.toNat) ∧ w = w' := by
  refine enter_ (N := 13) Try.func36 rfl rfl rfl ?_
  by_cases hn : m < l.length
  · (repeat (first | refine seq_ ?_ | refine sq_normal ?_ | refine sq_ret ?_ | refine rl_nil ?_ | refine cond_t rfl ?_ | refine ret_ ?_ | (refine region_ (id := 0) ?_; (try (refine rl_assign (v := (Value.string _ : Value)) rfl rfl ?_))) | (refine region_ (id := 1) ?_; (try (refine rl_move (v := (Value.string _ : Value)) rfl rfl ?_; (try (refine rl_slen us9 rfl rfl ?_; (try (refine rl_move (v := (Value.int _ _ : Value)) rfl rfl ?_; (try ((first | (refine rl_gtr_t rfl rfl rfl ?_ ?_; omega) | (refine rl_gtr_f rfl rfl rfl ?_ ?_; omega))))))))))) | (refine region_ (id := 2) ?_; (try (refine rl_move (v := (Value.string _ : Value)) rfl rfl ?_; (try (refine rl_move (v := (Value.int _ _ : Value)) rfl rfl ?_; (try ((refine rl_sslice_h us9 rfl rfl rfl ?_ ?_ ?_; omega; omega); (try (refine rl_assign (v := (Value.string _ : Value)) rfl rfl ?_)))))))))))
    exact bp_ret1 (v := St _) rfl rfl ⟨rfl, rfl⟩
  · (repeat (first | refine seq_ ?_ | refine sq_normal ?_ | refine rl_nil ?_ | refine cond_f rfl ?_ | refine skip_ ?_ | refine ret_ ?_ | (refine region_ (id := 0) ?_; (try (refine rl_assign (v := (Value.string _ : Value)) rfl rfl ?_))) | (refine region_ (id := 1) ?_; (try (refine rl_move (v := (Value.string _ : Value)) rfl rfl ?_; (try (refine rl_slen us9 rfl rfl ?_; (try (refine rl_move (v := (Value.int _ _ : Value)) rfl rfl ?_; (try ((first | (refine rl_gtr_t rfl rfl rfl ?_ ?_; omega) | (refine rl_gtr_f rfl rfl rfl ?_ ?_; omega))))))))))) | (refine region_ (id := 3) ?_; (try (refine rl_move (v := (Value.string _ : Value)) rfl rfl ?_; (try (refine rl_assign (v := (Value.string _ : Value)) rfl rfl ?_)))))))
    refine bp_ret1 (v := St _) rfl rfl ⟨?_, rfl⟩
    rw [List.take_of_length_le (by omega)]
theorem ints_ok (w0 w : World) (L : List Ent) (V : Vw) (v : Value) (xs : List Int) (m : Int) (hM : Mem w0 w L V) (hm : 0 ≤ m) (hm2 : m ≤ 1000) (hx : IsInts V v xs) :
    CallsOk Try.prog 30 #[v, .int .i64 m] w fun v' w' => ∃ V', VLe V V' ∧ Mem w0 w' L V' ∧ IsInts V' v' (xs.take m.toNat) := by
  obtain ⟨a, c, b, off, rfl, h1, h2, h3, h4⟩ := hx.open
  have hml := maxLen_le
  refine enter_ (N := 14) Try.func30 rfl rfl rfl ?_
  (repeat (first | refine seq_ ?_ | refine sq_normal ?_ | refine rl_nil ?_ | (refine region_ (id := 0) ?_; (try (refine rl_assign (v := (Value.slice _ _ _ : Value)) rfl rfl ?_))) | (refine region_ (id := 1) ?_; (try (refine rl_assign (v := (Value.slice _ _ _ : Value)) rfl rfl ?_))) | (refine region_ (id := 2) ?_; (try (refine rl_move (v := (Value.slice _ _ _ : Value)) rfl rfl ?_; (try (refine rl_move (v := (Value.slice _ _ _ : Value)) rfl rfl ?_; (try (refine rl_move (v := (Value.slice _ _ _ : Value)) rfl rfl ?_; (try (refine rl_len sl29 rfl rfl ?_; (try (refine rl_move (v := (Value.int _ _ : Value)) rfl rfl ?_; (try (refine rl_min rfl rfl rfl ?_; (try ((refine rl_slice_h sl29 rfl rfl rfl ?_ ?_ ?_ ?_; omega; omega; omega))))))))))))))))))
  obtain ⟨m8, hm8⟩ : ∃ m8 : Nat, m8 = (min (xs.length : Int) m).toNat := ⟨_, rfl⟩
  have hlen : (xs.take m.toNat).length = m8 := by simp; omega
  refine rl_appendM 0 (news := (xs.take m.toNat).map (Value.int .i64)) (B := b) (off := off) (hM.newOwn 3 1) sl29 rfl (by decide) rfl ?_ rfl rfl rfl ?_ ?_ ?_ ?_ ?_ ?_
  · intro j u hu
    rw [List.getElem?_map, Option.map_eq_some_iff] at hu
    obtain ⟨x, hx, rfl⟩ := hu
    rw [List.getElem?_take] at hx
    split at hx
    · exact hM.view (h4 _ _ hx)
    · cases hx
  · intro h; exact h3 (by omega)
  · rw [List.length_map, hlen, ← hm8]; omega
  · intro u hu
    obtain ⟨x, _, rfl⟩ := List.mem_map.1 hu
    rfl
  · unfold maxLen; omega
  · omega
  clear hM
  intro w a3 c3 _ _ hM
  (repeat (first | refine sq_normal ?_ | refine rl_nil ?_ | refine ret_ ?_ | refine rl_assign (v := (Value.slice _ _ _ : Value)) rfl rfl ?_))
  obtain ⟨V', hV, hM', a', c', b', e1, e2, e3, e4, e5⟩ := Mem.freezeOwn hM
  cases e1
  refine bp_ret1 (v := Value.slice _ _ _) rfl rfl ⟨V', hV, hM', ?_⟩
  exact isInts_of (by omega) (by omega) e3 (fun h => e4 (by omega)) e5 (fun x hx' => hx.rng x (List.mem_of_mem_take hx'))
theorem sameInts_ok (w0 w : World) (L : List Ent) (V : Vw) (v u : Value) (xs ys : List Int) (hM : Mem w0 w L V) (hx : IsInts V v xs) (hy : IsInts V u ys) :
    CallsOk Try.prog 23 #[v, u] w fun r w' => r = .bool (decide (xs = ys)) ∧ Mem w0 w' L V := by
  obtain ⟨a, c, b, off, rfl, h1, h2, h3, h4⟩ := hx.open
  obtain ⟨a', c', b', off', rfl, h1', h2', h3', h4'⟩ := hy.open
  have hml := maxLen_le
  refine enter_ (N := 26) Try.func23 rfl rfl rfl ?_
  by_cases hlen : (xs.length : Int) = ys.length
  · (repeat (first | refine seq_ ?_ | refine sq_normal ?_ | refine rl_nil ?_ | refine cond_f rfl ?_ | refine skip_ ?_ | refine block_ ?_ | (refine region_ (id := 0) ?_; (try (refine rl_assign (v := (Value.bool _ : Value)) rfl rfl ?_))) | (refine region_ (id := 1) ?_; (try (refine rl_move (v := (Value.slice _ _ _ : Value)) rfl rfl ?_; (try (refine rl_len sl29 rfl rfl ?_; (try (refine rl_move (v := (Value.slice _ _ _ : Value)) rfl rfl ?_; (try (refine rl_len sl29 rfl rfl ?_; (try ((first | (refine rl_neq_t rfl rfl rfl ?_ ?_; omega) | (refine rl_neq_f rfl rfl rfl ?_ ?_; omega))))))))))))) | (refine region_ (id := 3) ?_; (try (refine rl_assign (v := (Value.int _ _ : Value)) rfl rfl ?_)))))
    refine loop1 [(4, 6), (11, 26)] 5 (fun m v wr => ∃ p : Nat, v = .int .i64 p ∧ p ≤ xs.length ∧ m = xs.length - p ∧ Mem w0 wr L V ∧ xs.take p = ys.take p) _
      ⟨0, rfl, by omega, rfl, hM, rfl⟩ ?_
    clear hM
    rintro m τ v w ⟨p, rfl, hp, rfl, hM, hall⟩ K0 hL0
    by_cases hlt : p < xs.length
    · obtain ⟨x, hxp⟩ : ∃ x, xs[p]? = some x := ⟨_, List.getElem?_eq_getElem hlt⟩
      obtain ⟨y, hyp⟩ : ∃ y, ys[p]? = some y := ⟨_, List.getElem?_eq_getElem (by omega)⟩
      have hA := h3 (by omega)
      have hA' := h3' (by omega)
      subst hA hA'
      have hv1 : V ⟨b, off + (p : Int).toNat, none⟩ = some (.int .i64 x) := h4 p x hxp
      have hv2 : V ⟨b', off' + (p : Int).toNat, none⟩ = some (.int .i64 y) := h4' p y hyp
      by_cases he : x = y
      · (repeat (first | refine seq_ ?_ | refine sq_normal ?_ | refine rl_nil ?_ | refine cond_t rfl ?_ | refine skip_ ?_ | refine block_ ?_ | (refine region_ (id := 4) ?_; (try (refine rl_move (v := (Value.int _ _ : Value)) rfl rfl ?_; (try (refine rl_move (v := (Value.slice _ _ _ : Value)) rfl rfl ?_; (try (refine rl_len sl29 rfl rfl ?_; (try ((first | (refine rl_lss_t rfl rfl rfl ?_ ?_; omega) | (refine rl_lss_f rfl rfl rfl ?_ ?_; omega)))))))))))))
        (refine drawnM_ 8 [(0, false), (1, false), (2, false), (3, false), (4, false), (5, false), (6, false), (7, false)] (fun w => Mem w0 w _ _) hM mo (by kernel_rfl) (fun _ h => h) ?_; clear hM; intro w hM; (try (refine rx_move (v := (Value.slice _ _ _ : Value)) rfl rfl rfl ?_; (try (refine rx_move (v := (Value.int _ _ : Value)) rfl rfl rfl ?_; (try ((first | (refine rx_idx1 rfl sl29 rfl rfl rfl rfl ?_ ?_ ?_; omega; omega) | (apply rx_idx1 rfl sl29 rfl rfl rfl; assumption; omega; omega)); (try ((first | refine rx_loadV rfl (fun _ h => h) vt3 rfl rfl (by first | assumption | exact VRow.get (by assumption) rfl | exact VRow.get0 (by assumption) rfl) ?_ | refine rx_loadM 0 rfl (fun _ h => h) vt3 rfl rfl rfl (by first | rfl | assumption) ?_ | refine rx_loadM 1 rfl (fun _ h => h) vt3 rfl rfl rfl (by first | rfl | assumption) ?_ | refine rx_loadM 2 rfl (fun _ h => h) vt3 rfl rfl rfl (by first | rfl | assumption) ?_ | refine rx_loadM 3 rfl (fun _ h => h) vt3 rfl rfl rfl (by first | rfl | assumption) ?_ | refine rx_loadM 4 rfl (fun _ h => h) vt3 rfl rfl rfl (by first | rfl | assumption) ?_ | refine rx_loadM 5 rfl (fun _ h => h) vt3 rfl rfl rfl (by first | rfl | assumption) ?_ | refine rx_loadM 6 rfl (fun _ h => h) vt3 rfl rfl rfl (by first | rfl | assumption) ?_ | refine rx_loadM 7 rfl (fun _ h => h) vt3 rfl rfl rfl (by first | rfl | assumption) ?_); (try (refine rx_move (v := (Value.slice _ _ _ : Value)) rfl rfl rfl ?_; (try (refine rx_move (v := (Value.int _ _ : Value)) rfl rfl rfl ?_; (try ((first | (refine rx_idx1 rfl sl29 rfl rfl rfl rfl ?_ ?_ ?_; omega; omega) | (apply rx_idx1 rfl sl29 rfl rfl rfl; assumption; omega; omega)); (try ((first | refine rx_loadV rfl (fun _ h => h) vt3 rfl rfl (by first | assumption | exact VRow.get (by assumption) rfl | exact VRow.get0 (by assumption) rfl) ?_ | refine rx_loadM 0 rfl (fun _ h => h) vt3 rfl rfl rfl (by first | rfl | assumption) ?_ | refine rx_loadM 1 rfl (fun _ h => h) vt3 rfl rfl rfl (by first | rfl | assumption) ?_ | refine rx_loadM 2 rfl (fun _ h => h) vt3 rfl rfl rfl (by first | rfl | assumption) ?_ | refine rx_loadM 3 rfl (fun _ h => h) vt3 rfl rfl rfl (by first | rfl | assumption) ?_ | refine rx_loadM 4 rfl (fun _ h => h) vt3 rfl rfl rfl (by first | rfl | assumption) ?_ | refine rx_loadM 5 rfl (fun _ h => h) vt3 rfl rfl rfl (by first | rfl | assumption) ?_ | refine rx_loadM 6 rfl (fun _ h => h) vt3 rfl rfl rfl (by first | rfl | assumption) ?_ | refine rx_loadM 7 rfl (fun _ h => h) vt3 rfl rfl rfl (by first | rfl | assumption) ?_))))))))))))))))))
        refine rx_nil rfl ?_
        (repeat (first | refine sq_normal ?_ | refine rl_nil ?_ | refine cond_f rfl ?_ | refine skip_ ?_ | refine inBlock_normal ?_ | refine np_normal ?_ | (refine region_ (id := 5) ?_; (try (refine rl_move (v := (Value.int _ _ : Value)) rfl rfl ?_; (try ((refine rl_add rfl rfl rfl ?_ ?_ ?_; omega; omega); (try (refine rl_assign (v := (Value.int _ _ : Value)) rfl rfl ?_))))))) | (first | (refine rl_neq_t rfl rfl rfl ?_ ?_; omega) | (refine rl_neq_f rfl rfl rfl ?_ ?_; omega))))
        exact kq_normal (hL0 (xs.length - (p + 1)) _ _ (by omega) (by (repeat (first | with_reducible exact Agree.ov | with_reducible exact Agree.refl _ _ | refine Agree.upd rfl ?_ | refine Agree.ovs rfl ?_))) ⟨p + 1, rfl, by omega, rfl, hM, by rw [List.take_add_one, List.take_add_one, hall, hxp, hyp, he]⟩)
      · (repeat (first | refine seq_ ?_ | refine sq_normal ?_ | refine rl_nil ?_ | refine cond_t rfl ?_ | refine skip_ ?_ | refine block_ ?_ | (refine region_ (id := 4) ?_; (try (refine rl_move (v := (Value.int _ _ : Value)) rfl rfl ?_; (try (refine rl_move (v := (Value.slice _ _ _ : Value)) rfl rfl ?_; (try (refine rl_len sl29 rfl rfl ?_; (try ((first | (refine rl_lss_t rfl rfl rfl ?_ ?_; omega) | (refine rl_lss_f rfl rfl rfl ?_ ?_; omega)))))))))))))
        (refine drawnM_ 8 [(0, false), (1, false), (2, false), (3, false), (4, false), (5, false), (6, false), (7, false)] (fun w => Mem w0 w _ _) hM mo (by kernel_rfl) (fun _ h => h) ?_; clear hM; intro w hM; (try (refine rx_move (v := (Value.slice _ _ _ : Value)) rfl rfl rfl ?_; (try (refine rx_move (v := (Value.int _ _ : Value)) rfl rfl rfl ?_; (try ((first | (refine rx_idx1 rfl sl29 rfl rfl rfl rfl ?_ ?_ ?_; omega; omega) | (apply rx_idx1 rfl sl29 rfl rfl rfl; assumption; omega; omega)); (try ((first | refine rx_loadV rfl (fun _ h => h) vt3 rfl rfl (by first | assumption | exact VRow.get (by assumption) rfl | exact VRow.get0 (by assumption) rfl) ?_ | refine rx_loadM 0 rfl (fun _ h => h) vt3 rfl rfl rfl (by first | rfl | assumption) ?_ | refine rx_loadM 1 rfl (fun _ h => h) vt3 rfl rfl rfl (by first | rfl | assumption) ?_ | refine rx_loadM 2 rfl (fun _ h => h) vt3 rfl rfl rfl (by first | rfl | assumption) ?_ | refine rx_loadM 3 rfl (fun _ h => h) vt3 rfl rfl rfl (by first | rfl | assumption) ?_ | refine rx_loadM 4 rfl (fun _ h => h) vt3 rfl rfl rfl (by first | rfl | assumption) ?_ | refine rx_loadM 5 rfl (fun _ h => h) vt3 rfl rfl rfl (by first | rfl | assumption) ?_ | refine rx_loadM 6 rfl (fun _ h => h) vt3 rfl rfl rfl (by first | rfl | assumption) ?_ | refine rx_loadM 7 rfl (fun _ h => h) vt3 rfl rfl rfl (by first | rfl | assumption) ?_); (try (refine rx_move (v := (Value.slice _ _ _ : Value)) rfl rfl rfl ?_; (try (refine rx_move (v := (Value.int _ _ : Value)) rfl rfl rfl ?_; (try ((first | (refine rx_idx1 rfl sl29 rfl rfl rfl rfl ?_ ?_ ?_; omega; omega) | (apply rx_idx1 rfl sl29 rfl rfl rfl; assumption; omega; omega)); (try ((first | refine rx_loadV rfl (fun _ h => h) vt3 rfl rfl (by first | assumption | exact VRow.get (by assumption) rfl | exact VRow.get0 (by assumption) rfl) ?_ | refine rx_loadM 0 rfl (fun _ h => h) vt3 rfl rfl rfl (by first | rfl | assumption) ?_ | refine rx_loadM 1 rfl (fun _ h => h) vt3 rfl rfl rfl (by first | rfl | assumption) ?_ | refine rx_loadM 2 rfl (fun _ h => h) vt3 rfl rfl rfl (by first | rfl | assumption) ?_ | refine rx_loadM 3 rfl (fun _ h => h) vt3 rfl rfl rfl (by first | rfl | assumption) ?_ | refine rx_loadM 4 rfl (fun _ h => h) vt3 rfl rfl rfl (by first | rfl | assumption) ?_ | refine rx_loadM 5 rfl (fun _ h => h) vt3 rfl rfl rfl (by first | rfl | assumption) ?_ | refine rx_loadM 6 rfl (fun _ h => h) vt3 rfl rfl rfl (by first | rfl | assumption) ?_ | refine rx_loadM 7 rfl (fun _ h => h) vt3 rfl rfl rfl (by first | rfl | assumption) ?_))))))))))))))))))
        refine rx_nil rfl ?_
        (repeat (first | refine seq_ ?_ | refine sq_normal ?_ | refine sq_ret ?_ | refine rl_nil ?_ | refine cond_t rfl ?_ | refine ret_ ?_ | refine inBlock_ret ?_ | refine kq_ret ?_ | refine np_normal ?_ | (refine region_ (id := 7) ?_; (try (refine rl_assign (v := (Value.bool _ : Value)) rfl rfl ?_))) | (first | (refine rl_neq_t rfl rfl rfl ?_ ?_; omega) | (refine rl_neq_f rfl rfl rfl ?_ ?_; omega))))
        refine bp_ret1 (v := Value.bool _) rfl rfl ⟨?_, hM⟩
        rw [decide_eq_false (fun h => he (by rw [h, hyp] at hxp; cases hxp; rfl))]
    · (repeat (first | refine seq_ ?_ | refine sq_normal ?_ | refine sq_exit ?_ | refine rl_nil ?_ | refine cond_f rfl ?_ | refine ret_ ?_ | refine exit_ ?_ | refine inBlock_exit ?_ | refine kq_exit ?_ | (refine region_ (id := 4) ?_; (try (refine rl_move (v := (Value.int _ _ : Value)) rfl rfl ?_; (try (refine rl_move (v := (Value.slice _ _ _ : Value)) rfl rfl ?_; (try (refine rl_len sl29 rfl rfl ?_; (try ((first | (refine rl_lss_t rfl rfl rfl ?_ ?_; omega) | (refine rl_lss_f rfl rfl rfl ?_ ?_; omega))))))))))) | (refine region_ (id := 8) ?_; (try (refine rl_assign (v := (Value.bool _ : Value)) rfl rfl ?_)))))
      refine bp_ret1 (v := Value.bool _) rfl rfl ⟨?_, hM⟩
      have hpl : p = xs.length := by omega
      subst hpl
      rw [List.take_length, List.take_of_length_le (by omega)] at hall
      rw [decide_eq_true hall]
  · (repeat (first | refine seq_ ?_ | refine sq_normal ?_ | refine sq_ret ?_ | refine rl_nil ?_ | refine cond_t rfl ?_ | refine ret_ ?_ | (refine region_ (id := 0) ?_; (try (refine rl_assign (v := (Value.bool _ : Value)) rfl rfl ?_))) | (refine region_ (id := 1) ?_; (try (refine rl_move (v := (Value.slice _ _ _ : Value)) rfl rfl ?_; (try (refine rl_len sl29 rfl rfl ?_; (try (refine rl_move (v := (Value.slice _ _ _ : Value)) rfl rfl ?_; (try (refine rl_len sl29 rfl rfl ?_; (try ((first | (refine rl_neq_t rfl rfl rfl ?_ ?_; omega) | (refine rl_neq_f rfl rfl rfl ?_ ?_; omega))))))))))))) | (refine region_ (id := 2) ?_; (try (refine rl_assign (v := (Value.bool _ : Value)) rfl rfl ?_)))))
    refine bp_ret1 (v := Value.bool _) rfl rfl ⟨?_, hM⟩
    rw [decide_eq_false (fun h => hlen (by rw [h]))]
end Go.Proofs.Ytoekjhalcjhegaa.Hep
