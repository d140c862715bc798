/- The walk of fugueref04.Print. -/
import Derived.Test.YtadbinckjmdokaaDoorDrdW18
import Derived.Test.YtadbinckjmdokaaDoorTxB
set_option linter.unusedVariables false
set_option linter.unusedSimpArgs false
namespace Go.Proofs.YtadbinckjmdokaaDoor.Trd
open Go Go.Eng Go.RowKit Go.Tr Go.Lx
attribute [local irreducible] RL RX KQ SQ Exit.inBlock Exit.then BP NP CallsOk IsSl IsRows IsInts IsBools Own Blk Code.wp Calls wpList
set_option maxRecDepth 4000 in
set_option maxHeartbeats 8000000 in
theorem rprint_ok : ∀ (N : Nat) (t : Ty) (cs : List Value), t.ht < N → Nm t → (pr t 0).length ≤ 1000000 → ∀ (w0 w : World) (L : List Ent) (V : Vw), Mem w0 w L V → TyV V t cs →
    CallsOk Tryd.prog 24 #[.agg cs.toArray] w fun r w' => r = St (pr t 0) ∧ Mem w0 w' L V := by
  intro N
  induction N with
  | zero => intro t cs hN; omega
  | succ N ih =>
  intro t cs hN hnm hlen w0 w L V hM ht
  have hml := maxLen_le
  refine enter_ (N := 108) Tryd.func24 rfl rfl rfl ?_
  rcases isFn_cases t with ⟨f, n, s, rfl⟩ | ⟨f, n, s, a, b, rfl, hfn⟩ | ⟨x, y, rfl, hfn⟩
  · obtain ⟨ka, kc, rfl, hc, hf1, hf2, _⟩ := id ht
    obtain ⟨hf, rfl⟩ := id hnm
    rw [pr_lf] at hlen ⊢
    have hb := brk_len (decide (f = 3) && decide (s = Ty.arrow)) s
    (repeat (first | refine seq_ ?_ | refine sq_normal ?_ | refine rl_nil ?_ | (refine region_ (id := 0) ?_; (try ((refine rl_boxAM (d := 1) hM rfl rfl ?_; clear hM; intro w b1 hM); (try (refine rl_assign (v := (Value.string _ : Value)) rfl rfl ?_))))) | (refine region_ (id := 1) ?_; (try (refine rl_loadAM (vs := [_, _, _, _]) 0 hM ag26 rfl rfl rfl rfl rfl ?_)))))
    refine rl_callf fn27 (function_ok _ _ w0 w _ V hM ht) rfl rfl ?_
    clear hM
    rintro _ w ⟨rfl, hM⟩
    simp only [isFn]
    by_cases h3 : f = 3
    · by_cases hs : s = Ty.arrow
      · subst h3 hs
        (repeat (first | refine seq_ ?_ | refine sq_normal ?_ | refine rl_nil ?_ | refine cond_f rfl ?_ | refine skip_ ?_ | refine block_ ?_ | refine inBlock_normal ?_ | (refine region_ (id := 2) ?_; (try (refine rl_move (v := (Value.bool _ : Value)) rfl rfl ?_))) | (refine region_ (id := 7) ?_; (try (refine rl_fld fd26_0 rfl rfl ?_; (try (refine rl_loadM 0 hM vt3 rfl rfl rfl (by first | rfl | assumption) ?_))))) | (refine region_ (id := 8) ?_; (try ((refine rl_eql_f rfl rfl rfl ?_ ?_; omega); (try (refine rl_assign (v := (Value.bool _ : Value)) rfl rfl ?_))))) | (refine region_ (id := 10) ?_; (try ((refine rl_eql_f rfl rfl rfl ?_ ?_; omega); (try (refine rl_assign (v := (Value.bool _ : Value)) rfl rfl ?_))))) | (refine region_ (id := 15) ?_; (try ((refine rl_eql_f rfl rfl rfl ?_ ?_; omega); (try (refine rl_assign (v := (Value.bool _ : Value)) rfl rfl ?_))))) | (refine region_ (id := 17) ?_; (try (refine rl_fld fd26_2 rfl rfl ?_; (try (refine rl_loadM 0 hM vt9 rfl rfl rfl (by first | rfl | assumption) ?_; (try (refine rl_fld fd26_0 rfl rfl ?_; (try (refine rl_loadM 0 hM vt3 rfl rfl rfl (by first | rfl | assumption) ?_; (try ((refine rl_eql_t rfl rfl rfl ?_ ?_; omega); (try (refine rl_move (v := (Value.bool _ : Value)) rfl rfl ?_; (try (refine rl_fld fd26_2 rfl rfl ?_; (try (refine rl_loadM 0 hM vt9 rfl rfl rfl (by first | rfl | assumption) ?_; (try (refine rl_seql_t rfl rfl rfl (by first | rfl | assumption) ?_; (try (refine rl_pick (v := (Value.bool _ : Value)) rfl rfl rfl ?_))))))))))))))))))))) | refine rl_assign (v := (Value.bool _ : Value)) rfl rfl ?_))
        refine rl_callf fn39 (bracket_ok Ty.arrow true w (by decide)) rfl rfl ?_
        rintro _ _ ⟨rfl, rfl⟩
        (repeat (first | refine sq_normal ?_ | refine rl_nil ?_ | refine ret_ ?_ | refine rl_assign (v := (Value.string _ : Value)) rfl rfl ?_))
        exact bp_ret1 (v := St _) rfl rfl ⟨rfl, hM.dropn 1⟩
      · subst h3
        have hs' : s ≠ [45, 62] := hs
        rw [decide_eq_false hs]
        (repeat (first | refine seq_ ?_ | refine sq_normal ?_ | refine rl_nil ?_ | refine cond_f rfl ?_ | refine skip_ ?_ | refine block_ ?_ | refine inBlock_normal ?_ | (refine region_ (id := 2) ?_; (try (refine rl_move (v := (Value.bool _ : Value)) rfl rfl ?_))) | (refine region_ (id := 7) ?_; (try (refine rl_fld fd26_0 rfl rfl ?_; (try (refine rl_loadM 0 hM vt3 rfl rfl rfl (by first | rfl | assumption) ?_))))) | (refine region_ (id := 8) ?_; (try ((refine rl_eql_f rfl rfl rfl ?_ ?_; omega); (try (refine rl_assign (v := (Value.bool _ : Value)) rfl rfl ?_))))) | (refine region_ (id := 10) ?_; (try ((refine rl_eql_f rfl rfl rfl ?_ ?_; omega); (try (refine rl_assign (v := (Value.bool _ : Value)) rfl rfl ?_))))) | (refine region_ (id := 15) ?_; (try ((refine rl_eql_f rfl rfl rfl ?_ ?_; omega); (try (refine rl_assign (v := (Value.bool _ : Value)) rfl rfl ?_))))) | (refine region_ (id := 17) ?_; (try (refine rl_fld fd26_2 rfl rfl ?_; (try (refine rl_loadM 0 hM vt9 rfl rfl rfl (by first | rfl | assumption) ?_; (try (refine rl_fld fd26_0 rfl rfl ?_; (try (refine rl_loadM 0 hM vt3 rfl rfl rfl (by first | rfl | assumption) ?_; (try ((refine rl_eql_t rfl rfl rfl ?_ ?_; omega); (try (refine rl_move (v := (Value.bool _ : Value)) rfl rfl ?_; (try (refine rl_fld fd26_2 rfl rfl ?_; (try (refine rl_loadM 0 hM vt9 rfl rfl rfl (by first | rfl | assumption) ?_; (try (refine rl_seql_f rfl rfl rfl (by first | assumption | decide) ?_; (try (refine rl_pick (v := (Value.bool _ : Value)) rfl rfl rfl ?_))))))))))))))))))))) | refine rl_assign (v := (Value.bool _ : Value)) rfl rfl ?_))
        refine rl_callf fn39 (bracket_ok s false w (by omega)) rfl rfl ?_
        rintro _ _ ⟨rfl, rfl⟩
        (repeat (first | refine sq_normal ?_ | refine rl_nil ?_ | refine ret_ ?_ | refine rl_assign (v := (Value.string _ : Value)) rfl rfl ?_))
        exact bp_ret1 (v := St _) rfl rfl ⟨rfl, hM.dropn 1⟩
    · rw [decide_eq_false h3]
      have hf : f = 2 := hf.resolve_right h3
      (repeat (first | refine seq_ ?_ | refine sq_normal ?_ | refine rl_nil ?_ | refine cond_f rfl ?_ | refine skip_ ?_ | refine block_ ?_ | refine inBlock_normal ?_ | (refine region_ (id := 2) ?_; (try (refine rl_move (v := (Value.bool _ : Value)) rfl rfl ?_))) | (refine region_ (id := 7) ?_; (try (refine rl_fld fd26_0 rfl rfl ?_; (try (refine rl_loadM 0 hM vt3 rfl rfl rfl (by first | rfl | assumption) ?_))))) | (refine region_ (id := 8) ?_; (try ((refine rl_eql_f rfl rfl rfl ?_ ?_; omega); (try (refine rl_assign (v := (Value.bool _ : Value)) rfl rfl ?_))))) | (refine region_ (id := 10) ?_; (try ((refine rl_eql_f rfl rfl rfl ?_ ?_; omega); (try (refine rl_assign (v := (Value.bool _ : Value)) rfl rfl ?_))))) | (refine region_ (id := 15) ?_; (try ((refine rl_eql_f rfl rfl rfl ?_ ?_; omega); (try (refine rl_assign (v := (Value.bool _ : Value)) rfl rfl ?_))))) | (refine region_ (id := 17) ?_; (try (refine rl_fld fd26_2 rfl rfl ?_; (try (refine rl_loadM 0 hM vt9 rfl rfl rfl (by first | rfl | assumption) ?_; (try (refine rl_fld fd26_0 rfl rfl ?_; (try (refine rl_loadM 0 hM vt3 rfl rfl rfl (by first | rfl | assumption) ?_; (try ((refine rl_eql_f rfl rfl rfl ?_ ?_; omega); (try (refine rl_move (v := (Value.bool _ : Value)) rfl rfl ?_; (try (refine rl_off rfl ?_; (try (refine rl_off rfl ?_; (try (refine rl_off rfl ?_; (try (refine rl_pick (v := (Value.bool _ : Value)) rfl rfl rfl ?_))))))))))))))))))))) | refine rl_assign (v := (Value.bool _ : Value)) rfl rfl ?_))
      refine rl_callf fn39 (bracket_ok s false w (by omega)) rfl rfl ?_
      rintro _ _ ⟨rfl, rfl⟩
      (repeat (first | refine sq_normal ?_ | refine rl_nil ?_ | refine ret_ ?_ | refine rl_assign (v := (Value.string _ : Value)) rfl rfl ?_))
      exact bp_ret1 (v := St _) rfl rfl ⟨rfl, hM.dropn 1⟩
  · obtain ⟨bb, off, c, xs, ys, rfl, h2, h3, h4, h5, h6, h7⟩ := id ht
    obtain ⟨b', off', c', us, vs, rfl, q2, q3, q4, q5, q6, q7⟩ := id h6
    obtain ⟨va, rfl, hva, hfa1, hfa2, _⟩ := id q7.open
    obtain ⟨_, _, _, _, rfl, _⟩ := hva
    obtain ⟨vb, rfl, hvb, hfb1, hfb2, _⟩ := id h7.open
    obtain ⟨_, _, _, _, rfl, _⟩ := hvb
    obtain ⟨hl1, hl2⟩ := pr_fn_len hfn 0
    have hnm' := hnm
    simp only [Nm] at hnm'
    have hr3 : V ⟨bb, off + 0 * 4 + 3, none⟩ = some (.slice (some ⟨b', off', none⟩) 2 c') := h4 3 _ rfl
    have ha4 : a.form ≠ 5 := by omega
    have hb4 : b.form ≠ 5 := by omega
    have hta : a.ht < N := by simp only [Ty.ht] at hN; omega
    have htb : b.ht < N := by simp only [Ty.ht] at hN; omega
    (repeat (first | refine seq_ ?_ | refine sq_normal ?_ | refine rl_nil ?_ | (refine region_ (id := 0) ?_; (try ((refine rl_boxAM (d := 1) hM rfl rfl ?_; clear hM; intro w b1 hM); (try (refine rl_assign (v := (Value.string _ : Value)) rfl rfl ?_))))) | (refine region_ (id := 1) ?_; (try (refine rl_loadAM (vs := [_, _, _, _]) 0 hM ag26 rfl rfl rfl rfl rfl ?_)))))
    refine rl_callf fn27 (function_ok _ _ w0 w _ V hM ht) rfl rfl ?_
    clear hM
    rintro _ w ⟨rfl, hM⟩
    rw [hfn]
    (repeat (first | refine seq_ ?_ | refine sq_normal ?_ | refine rl_nil ?_ | refine cond_t rfl ?_ | (refine region_ (id := 2) ?_; (try (refine rl_move (v := (Value.bool _ : Value)) rfl rfl ?_))) | (refine region_ (id := 3) ?_; (try (refine rl_fld fd26_3 rfl rfl ?_; (try (refine rl_loadM 0 hM vt24 rfl rfl rfl (by first | rfl | assumption) ?_; (try ((refine rl_idx sl24 rfl rfl rfl rfl ?_ ?_ ?_; omega; omega); (try (refine rl_fld fd26_3 rfl rfl ?_; (try (refine rl_loadV hM vt24 rfl rfl (by first | assumption | exact VRow.get (by assumption) rfl | exact VRow.get0 (by assumption) rfl) ?_; (try ((refine rl_idx sl24 rfl rfl rfl rfl ?_ ?_ ?_; omega; omega); (try (refine rl_loadAV hM ag26 rfl rfl (by assumption) (by rfl) ?_; (try ((refine rl_allocAM (d := 4) hM ag26 rfl ?_; clear hM; intro w b4 hM); (try ((refine rl_storeWM 0 hM ag26 rfl rfl rfl rfl rfl rfl rfl ?_; clear hM; intro w hM)))))))))))))))))))) | (refine region_ (id := 4) ?_; (try (refine rl_fld fd26_3 rfl rfl ?_; (try (refine rl_loadM 1 hM vt24 rfl rfl rfl (by first | rfl | assumption) ?_; (try ((refine rl_idx sl24 rfl rfl rfl rfl ?_ ?_ ?_; omega; omega); (try (refine rl_loadAV hM ag26 rfl rfl (by assumption) (by rfl) ?_; (try ((refine rl_allocAM (d := 5) hM ag26 rfl ?_; clear hM; intro w b5 hM); (try ((refine rl_storeWM 0 hM ag26 rfl rfl rfl rfl rfl rfl rfl ?_; clear hM; intro w hM)))))))))))))) | (refine region_ (id := 5) ?_; (try (refine rl_loadAM (vs := [_, _, _, _]) 1 hM ag26 rfl rfl rfl rfl rfl ?_))) | refine rl_assign (v := (Value.bool _ : Value)) rfl rfl ?_))
    refine rl_callf fn27 (function_ok _ _ w0 w _ V hM q7) rfl rfl ?_
    clear hM
    rintro _ w ⟨rfl, hM⟩
    cases hfa : isFn a with
    | true =>
      rw [hfa] at hl2
      (repeat (first | refine seq_ ?_ | refine sq_normal ?_ | refine rl_nil ?_ | refine rl_assign (v := (Value.bool _ : Value)) rfl rfl ?_))
      (refine drawnM_ 17 [(0, false), (2, false), (10, false), (12, false), (13, false), (14, false), (1, true), (3, false), (4, false), (5, false), (6, false), (7, false), (8, true), (9, false), (11, true), (15, true), (16, false)] (fun w => Mem w0 w _ _) hM mo (by kernel_rfl) (fun _ h => h) ?_; clear hM; intro w hM; (try (refine rx_loadAM (vs := [_, _, _, _]) 1 rfl (fun _ h => h) ag26 rfl rfl rfl rfl rfl ?_; (try (refine rx_move (v := (Value.bool _ : Value)) rfl rfl rfl ?_; (try (refine rx_loadAM (vs := [_, _, _, _]) 0 rfl (fun _ h => h) ag26 rfl rfl rfl rfl rfl ?_; (try (refine rx_fld rfl fd26_0 rfl rfl ?_; (try (refine rx_loadM 0 rfl (fun _ h => h) vt3 rfl rfl rfl (by first | rfl | assumption) ?_; (try ((refine rx_eql_f rfl rfl rfl rfl ?_ ?_; omega))))))))))))))
      refine rx_eff rfl (fun K hK => ?_)
      refine rl_callf fn24 (ih a _ hta hnm'.1.2 (by omega) w0 w _ V hM q7) rfl rfl ?_
      clear hM
      rintro _ w ⟨rfl, hM⟩
      refine rl_nil (kq_normal (hK _ _ hM ?_))
      (try (refine rx_move (v := (Value.bool _ : Value)) rfl rfl rfl ?_; (try (refine rx_off rfl rfl ?_; (try (refine rx_off rfl rfl ?_; (try (refine rx_off rfl rfl ?_; (try (refine rx_pick (v := (Value.bool _ : Value)) rfl rfl rfl rfl ?_))))))))))
      refine rx_eff rfl (fun K hK => ?_)
      refine rl_callf fn39 (bracket_ok (pr a 0) true w (by omega)) rfl rfl ?_
      rintro _ _ ⟨rfl, rfl⟩
      refine rl_nil (kq_normal (hK _ _ hM ?_))
      (try ((refine rx_sadd rfl rfl rfl rfl (by (first | omega | (simp only [List.length_append, List.length_cons, List.length_nil, List.length_take, List.length_drop] at *; omega))) ?_)))
      refine rx_eff rfl (fun K hK => ?_)
      refine rl_callf fn24 (ih b _ htb hnm'.2 (by omega) w0 _ _ V hM h7) rfl rfl ?_
      clear hM
      rintro _ w ⟨rfl, hM⟩
      refine rl_nil (kq_normal (hK _ _ hM ?_))
      refine rx_eff rfl (fun K hK => ?_)
      refine rl_callf fn39 (bracket_ok (pr b 0) false w (by omega)) rfl rfl ?_
      rintro _ _ ⟨rfl, rfl⟩
      refine rl_nil (kq_normal (hK _ _ hM ?_))
      rw [brk_false]
      (try ((refine rx_sadd rfl rfl rfl rfl (by (first | omega | (simp only [List.length_append, List.length_cons, List.length_nil, List.length_take, List.length_drop] at *; omega))) ?_)))
      refine rx_nil rfl ?_
      (repeat (first | refine sq_normal ?_ | refine sq_ret ?_ | refine rl_nil ?_ | refine ret_ ?_ | refine np_normal ?_ | refine rl_assign (v := (Value.string _ : Value)) rfl rfl ?_))
      exact bp_ret1 (v := St _) rfl rfl ⟨by rw [pr_fn hfn, pr_one, hfa]; simp [brk_false], hM.dropn 3⟩
    | false =>
      rw [hfa, brk_false] at hl2
      (repeat (first | refine seq_ ?_ | refine sq_normal ?_ | refine rl_nil ?_ | refine rl_assign (v := (Value.bool _ : Value)) rfl rfl ?_))
      (refine drawnM_ 17 [(0, false), (2, false), (10, false), (12, false), (13, false), (14, false), (1, true), (3, false), (4, false), (5, false), (6, false), (7, false), (8, true), (9, false), (11, true), (15, true), (16, false)] (fun w => Mem w0 w _ _) hM mo (by kernel_rfl) (fun _ h => h) ?_; clear hM; intro w hM; (try (refine rx_loadAM (vs := [_, _, _, _]) 1 rfl (fun _ h => h) ag26 rfl rfl rfl rfl rfl ?_; (try (refine rx_move (v := (Value.bool _ : Value)) rfl rfl rfl ?_; (try (refine rx_loadAM (vs := [_, _, _, _]) 0 rfl (fun _ h => h) ag26 rfl rfl rfl rfl rfl ?_; (try (refine rx_fld rfl fd26_0 rfl rfl ?_; (try (refine rx_loadM 0 rfl (fun _ h => h) vt3 rfl rfl rfl (by first | rfl | assumption) ?_; (try ((refine rx_eql_f rfl rfl rfl rfl ?_ ?_; omega))))))))))))))
      refine rx_eff rfl (fun K hK => ?_)
      refine rl_callf fn24 (ih a _ hta hnm'.1.2 (by omega) w0 w _ V hM q7) rfl rfl ?_
      clear hM
      rintro _ w ⟨rfl, hM⟩
      refine rl_nil (kq_normal (hK _ _ hM ?_))
      (try (refine rx_move (v := (Value.bool _ : Value)) rfl rfl rfl ?_; (try (refine rx_fld rfl fd26_0 rfl rfl ?_; (try (refine rx_loadM 1 rfl (fun _ h => h) vt3 rfl rfl rfl (by first | rfl | assumption) ?_; (try ((refine rx_eql_f rfl rfl rfl rfl ?_ ?_; omega); (try (refine rx_pick (v := (Value.bool _ : Value)) rfl rfl rfl rfl ?_))))))))))
      refine rx_eff rfl (fun K hK => ?_)
      refine rl_callf fn39 (bracket_ok (pr a 0) false w (by omega)) rfl rfl ?_
      rintro _ _ ⟨rfl, rfl⟩
      refine rl_nil (kq_normal (hK _ _ hM ?_))
      rw [brk_false]
      (try ((refine rx_sadd rfl rfl rfl rfl (by (first | omega | (simp only [List.length_append, List.length_cons, List.length_nil, List.length_take, List.length_drop] at *; omega))) ?_)))
      refine rx_eff rfl (fun K hK => ?_)
      refine rl_callf fn24 (ih b _ htb hnm'.2 (by omega) w0 _ _ V hM h7) rfl rfl ?_
      clear hM
      rintro _ w ⟨rfl, hM⟩
      refine rl_nil (kq_normal (hK _ _ hM ?_))
      refine rx_eff rfl (fun K hK => ?_)
      refine rl_callf fn39 (bracket_ok (pr b 0) false w (by omega)) rfl rfl ?_
      rintro _ _ ⟨rfl, rfl⟩
      refine rl_nil (kq_normal (hK _ _ hM ?_))
      rw [brk_false]
      (try ((refine rx_sadd rfl rfl rfl rfl (by (first | omega | (simp only [List.length_append, List.length_cons, List.length_nil, List.length_take, List.length_drop] at *; omega))) ?_)))
      refine rx_nil rfl ?_
      (repeat (first | refine sq_normal ?_ | refine sq_ret ?_ | refine rl_nil ?_ | refine ret_ ?_ | refine np_normal ?_ | refine rl_assign (v := (Value.string _ : Value)) rfl rfl ?_))
      exact bp_ret1 (v := St _) rfl rfl ⟨by rw [pr_fn hfn, pr_one, hfa]; simp [brk_false], hM.dropn 3⟩
  · obtain ⟨bb, off, c, xs, ys, rfl, h2, h3, h4, h5, h6, h7⟩ := id ht
    obtain ⟨va, rfl, hva, hfa1, hfa2, _⟩ := id h6.open
    obtain ⟨_, _, _, _, rfl, _⟩ := hva
    obtain ⟨vb, rfl, hvb, hfb1, hfb2, _⟩ := id h7.open
    obtain ⟨_, _, _, _, rfl, _⟩ := hvb
    obtain ⟨hl1, hl2⟩ := pr_app_len hfn 0
    obtain ⟨hnx, hny⟩ := id hnm
    rw [pr3 hny] at hl1
    have hx4 : x.form ≠ 5 := by omega
    have hy4 : y.form ≠ 5 := by omega
    have htx : x.ht < N := by simp only [Ty.ht] at hN; omega
    have hty : y.ht < N := by simp only [Ty.ht] at hN; omega
    have hly := brk_len (decide (y.form = 4)) (pr y 0)
    (repeat (first | refine seq_ ?_ | refine sq_normal ?_ | refine rl_nil ?_ | (refine region_ (id := 0) ?_; (try ((refine rl_boxAM (d := 1) hM rfl rfl ?_; clear hM; intro w b1 hM); (try (refine rl_assign (v := (Value.string _ : Value)) rfl rfl ?_))))) | (refine region_ (id := 1) ?_; (try (refine rl_loadAM (vs := [_, _, _, _]) 0 hM ag26 rfl rfl rfl rfl rfl ?_)))))
    refine rl_callf fn27 (function_ok _ _ w0 w _ V hM ht) rfl rfl ?_
    clear hM
    rintro _ w ⟨rfl, hM⟩
    rw [hfn]
    (repeat (first | refine seq_ ?_ | refine sq_normal ?_ | refine rl_nil ?_ | refine cond_t rfl ?_ | refine cond_f rfl ?_ | refine skip_ ?_ | refine block_ ?_ | (refine region_ (id := 2) ?_; (try (refine rl_move (v := (Value.bool _ : Value)) rfl rfl ?_))) | (refine region_ (id := 7) ?_; (try (refine rl_fld fd26_0 rfl rfl ?_; (try (refine rl_loadM 0 hM vt3 rfl rfl rfl (by first | rfl | assumption) ?_))))) | (refine region_ (id := 8) ?_; (try ((refine rl_eql_f rfl rfl rfl ?_ ?_; omega); (try (refine rl_assign (v := (Value.bool _ : Value)) rfl rfl ?_))))) | (refine region_ (id := 10) ?_; (try ((refine rl_eql_t rfl rfl rfl ?_ ?_; omega); (try (refine rl_assign (v := (Value.bool _ : Value)) rfl rfl ?_))))) | (refine region_ (id := 11) ?_; (try (refine rl_fld fd26_3 rfl rfl ?_; (try (refine rl_loadM 0 hM vt24 rfl rfl rfl (by first | rfl | assumption) ?_; (try ((refine rl_idx sl24 rfl rfl rfl rfl ?_ ?_ ?_; omega; omega); (try (refine rl_loadAV hM ag26 rfl rfl (by assumption) (by rfl) ?_; (try ((refine rl_allocAM (d := 7) hM ag26 rfl ?_; clear hM; intro w b7 hM); (try ((refine rl_storeWM 0 hM ag26 rfl rfl rfl rfl rfl rfl rfl ?_; clear hM; intro w hM)))))))))))))) | (refine region_ (id := 12) ?_; (try (refine rl_fld fd26_3 rfl rfl ?_; (try (refine rl_loadM 1 hM vt24 rfl rfl rfl (by first | rfl | assumption) ?_; (try ((refine rl_idx sl24 rfl rfl rfl rfl ?_ ?_ ?_; omega; omega); (try (refine rl_loadAV hM ag26 rfl rfl (by assumption) (by rfl) ?_; (try ((refine rl_allocAM (d := 8) hM ag26 rfl ?_; clear hM; intro w b8 hM); (try ((refine rl_storeWM 0 hM ag26 rfl rfl rfl rfl rfl rfl rfl ?_; clear hM; intro w hM)))))))))))))) | (refine region_ (id := 13) ?_; (try (refine rl_loadAM (vs := [_, _, _, _]) 1 hM ag26 rfl rfl rfl rfl rfl ?_))) | refine rl_assign (v := (Value.bool _ : Value)) rfl rfl ?_))
    refine rl_callf fn27 (function_ok _ _ w0 w _ V hM h6) rfl rfl ?_
    clear hM
    rintro _ w ⟨rfl, hM⟩
    have hfin : pr (.app x y) 0 = brk (isFn x) (pr x 0) ++ [32] ++ brk (decide (y.form = 4)) (pr y 0) := by rw [pr_app hfn, pr_two, pr3 hny]; rfl
    by_cases hy : y.form = 4
    · rw [decide_eq_true hy] at hfin hl1 hly
      cases hfx : isFn x with
      | true =>
        rw [hfx] at hl2 hfin
        (repeat (first | refine seq_ ?_ | refine sq_normal ?_ | refine rl_nil ?_ | refine rl_assign (v := (Value.bool _ : Value)) rfl rfl ?_))
        (refine drawnM_ 22 [(0, false), (2, false), (10, false), (12, false), (13, false), (14, false), (1, true), (3, false), (4, false), (5, false), (6, false), (7, false), (8, true), (9, false), (11, true), (15, false), (16, false), (17, false), (18, false), (19, false), (20, true), (21, false)] (fun w => Mem w0 w _ _) hM mo (by kernel_rfl) (fun _ h => h) ?_; clear hM; intro w hM; (try (refine rx_loadAM (vs := [_, _, _, _]) 1 rfl (fun _ h => h) ag26 rfl rfl rfl rfl rfl ?_; (try (refine rx_move (v := (Value.bool _ : Value)) rfl rfl rfl ?_; (try (refine rx_loadAM (vs := [_, _, _, _]) 0 rfl (fun _ h => h) ag26 rfl rfl rfl rfl rfl ?_; (try (refine rx_fld rfl fd26_0 rfl rfl ?_; (try (refine rx_loadM 0 rfl (fun _ h => h) vt3 rfl rfl rfl (by first | rfl | assumption) ?_; (try ((refine rx_eql_t rfl rfl rfl rfl ?_ ?_; omega))))))))))))))
        refine rx_eff rfl (fun K hK => ?_)
        refine rl_callf fn24 (ih x _ htx hnx (by omega) w0 w _ V hM h6) rfl rfl ?_
        clear hM
        rintro _ w ⟨rfl, hM⟩
        refine rl_nil (kq_normal (hK _ _ hM ?_))
        (try (refine rx_move (v := (Value.bool _ : Value)) rfl rfl rfl ?_; (try (refine rx_off rfl rfl ?_; (try (refine rx_off rfl rfl ?_; (try (refine rx_off rfl rfl ?_; (try (refine rx_pick (v := (Value.bool _ : Value)) rfl rfl rfl rfl ?_))))))))))
        refine rx_eff rfl (fun K hK => ?_)
        refine rl_callf fn39 (bracket_ok (pr x 0) true w (by omega)) rfl rfl ?_
        rintro _ _ ⟨rfl, rfl⟩
        refine rl_nil (kq_normal (hK _ _ hM ?_))
        (try ((refine rx_sadd rfl rfl rfl rfl (by (first | omega | (simp only [List.length_append, List.length_cons, List.length_nil, List.length_take, List.length_drop] at *; omega))) ?_)))
        refine rx_eff rfl (fun K hK => ?_)
        refine rl_callf fn24 (ih y _ hty hny (by omega) w0 _ _ V hM h7) rfl rfl ?_
        clear hM
        rintro _ w ⟨rfl, hM⟩
        refine rl_nil (kq_normal (hK _ _ hM ?_))
        (try (refine rx_move (v := (Value.bool _ : Value)) rfl rfl rfl ?_; (try (refine rx_off rfl rfl ?_; (try (refine rx_off rfl rfl ?_; (try (refine rx_off rfl rfl ?_; (try (refine rx_pick (v := (Value.bool _ : Value)) rfl rfl rfl rfl ?_))))))))))
        refine rx_eff rfl (fun K hK => ?_)
        refine rl_callf fn39 (bracket_ok (pr y 0) true w (by omega)) rfl rfl ?_
        rintro _ _ ⟨rfl, rfl⟩
        refine rl_nil (kq_normal (hK _ _ hM ?_))
        (try ((refine rx_sadd rfl rfl rfl rfl (by (first | omega | (simp only [List.length_append, List.length_cons, List.length_nil, List.length_take, List.length_drop] at *; omega))) ?_)))
        refine rx_nil rfl ?_
        (repeat (first | refine sq_normal ?_ | refine sq_ret ?_ | refine rl_nil ?_ | refine ret_ ?_ | refine inBlock_ret ?_ | refine np_normal ?_ | refine rl_assign (v := (Value.string _ : Value)) rfl rfl ?_))
        exact bp_ret1 (v := St _) rfl rfl ⟨by rw [hfin], hM.dropn 3⟩
      | false =>
        rw [hfx, brk_false] at hl2 hfin
        (repeat (first | refine seq_ ?_ | refine sq_normal ?_ | refine rl_nil ?_ | refine rl_assign (v := (Value.bool _ : Value)) rfl rfl ?_))
        (refine drawnM_ 22 [(0, false), (2, false), (10, false), (12, false), (13, false), (14, false), (1, true), (3, false), (4, false), (5, false), (6, false), (7, false), (8, true), (9, false), (11, true), (15, false), (16, false), (17, false), (18, false), (19, false), (20, true), (21, false)] (fun w => Mem w0 w _ _) hM mo (by kernel_rfl) (fun _ h => h) ?_; clear hM; intro w hM; (try (refine rx_loadAM (vs := [_, _, _, _]) 1 rfl (fun _ h => h) ag26 rfl rfl rfl rfl rfl ?_; (try (refine rx_move (v := (Value.bool _ : Value)) rfl rfl rfl ?_; (try (refine rx_loadAM (vs := [_, _, _, _]) 0 rfl (fun _ h => h) ag26 rfl rfl rfl rfl rfl ?_; (try (refine rx_fld rfl fd26_0 rfl rfl ?_; (try (refine rx_loadM 0 rfl (fun _ h => h) vt3 rfl rfl rfl (by first | rfl | assumption) ?_; (try ((refine rx_eql_t rfl rfl rfl rfl ?_ ?_; omega))))))))))))))
        refine rx_eff rfl (fun K hK => ?_)
        refine rl_callf fn24 (ih x _ htx hnx (by omega) w0 w _ V hM h6) rfl rfl ?_
        clear hM
        rintro _ w ⟨rfl, hM⟩
        refine rl_nil (kq_normal (hK _ _ hM ?_))
        (try (refine rx_move (v := (Value.bool _ : Value)) rfl rfl rfl ?_; (try (refine rx_fld rfl fd26_0 rfl rfl ?_; (try (refine rx_loadM 1 rfl (fun _ h => h) vt3 rfl rfl rfl (by first | rfl | assumption) ?_; (try ((refine rx_eql_f rfl rfl rfl rfl ?_ ?_; omega); (try (refine rx_pick (v := (Value.bool _ : Value)) rfl rfl rfl rfl ?_))))))))))
        refine rx_eff rfl (fun K hK => ?_)
        refine rl_callf fn39 (bracket_ok (pr x 0) false w (by omega)) rfl rfl ?_
        rintro _ _ ⟨rfl, rfl⟩
        refine rl_nil (kq_normal (hK _ _ hM ?_))
        rw [brk_false]
        (try ((refine rx_sadd rfl rfl rfl rfl (by (first | omega | (simp only [List.length_append, List.length_cons, List.length_nil, List.length_take, List.length_drop] at *; omega))) ?_)))
        refine rx_eff rfl (fun K hK => ?_)
        refine rl_callf fn24 (ih y _ hty hny (by omega) w0 _ _ V hM h7) rfl rfl ?_
        clear hM
        rintro _ w ⟨rfl, hM⟩
        refine rl_nil (kq_normal (hK _ _ hM ?_))
        (try (refine rx_move (v := (Value.bool _ : Value)) rfl rfl rfl ?_; (try (refine rx_off rfl rfl ?_; (try (refine rx_off rfl rfl ?_; (try (refine rx_off rfl rfl ?_; (try (refine rx_pick (v := (Value.bool _ : Value)) rfl rfl rfl rfl ?_))))))))))
        refine rx_eff rfl (fun K hK => ?_)
        refine rl_callf fn39 (bracket_ok (pr y 0) true w (by omega)) rfl rfl ?_
        rintro _ _ ⟨rfl, rfl⟩
        refine rl_nil (kq_normal (hK _ _ hM ?_))
        (try ((refine rx_sadd rfl rfl rfl rfl (by (first | omega | (simp only [List.length_append, List.length_cons, List.length_nil, List.length_take, List.length_drop] at *; omega))) ?_)))
        refine rx_nil rfl ?_
        (repeat (first | refine sq_normal ?_ | refine sq_ret ?_ | refine rl_nil ?_ | refine ret_ ?_ | refine inBlock_ret ?_ | refine np_normal ?_ | refine rl_assign (v := (Value.string _ : Value)) rfl rfl ?_))
        exact bp_ret1 (v := St _) rfl rfl ⟨by rw [hfin], hM.dropn 3⟩
    · rw [decide_eq_false hy] at hfin hl1 hly
      rw [brk_false] at hfin hl1
      cases hfx : isFn x with
      | true =>
        rw [hfx] at hl2 hfin
        (repeat (first | refine seq_ ?_ | refine sq_normal ?_ | refine rl_nil ?_ | refine rl_assign (v := (Value.bool _ : Value)) rfl rfl ?_))
        (refine drawnM_ 22 [(0, false), (2, false), (10, false), (12, false), (13, false), (14, false), (1, true), (3, false), (4, false), (5, false), (6, false), (7, false), (8, true), (9, false), (11, true), (15, false), (16, false), (17, false), (18, false), (19, false), (20, true), (21, false)] (fun w => Mem w0 w _ _) hM mo (by kernel_rfl) (fun _ h => h) ?_; clear hM; intro w hM; (try (refine rx_loadAM (vs := [_, _, _, _]) 1 rfl (fun _ h => h) ag26 rfl rfl rfl rfl rfl ?_; (try (refine rx_move (v := (Value.bool _ : Value)) rfl rfl rfl ?_; (try (refine rx_loadAM (vs := [_, _, _, _]) 0 rfl (fun _ h => h) ag26 rfl rfl rfl rfl rfl ?_; (try (refine rx_fld rfl fd26_0 rfl rfl ?_; (try (refine rx_loadM 0 rfl (fun _ h => h) vt3 rfl rfl rfl (by first | rfl | assumption) ?_; (try ((refine rx_eql_f rfl rfl rfl rfl ?_ ?_; omega))))))))))))))
        refine rx_eff rfl (fun K hK => ?_)
        refine rl_callf fn24 (ih x _ htx hnx (by omega) w0 w _ V hM h6) rfl rfl ?_
        clear hM
        rintro _ w ⟨rfl, hM⟩
        refine rl_nil (kq_normal (hK _ _ hM ?_))
        (try (refine rx_move (v := (Value.bool _ : Value)) rfl rfl rfl ?_; (try (refine rx_off rfl rfl ?_; (try (refine rx_off rfl rfl ?_; (try (refine rx_off rfl rfl ?_; (try (refine rx_pick (v := (Value.bool _ : Value)) rfl rfl rfl rfl ?_))))))))))
        refine rx_eff rfl (fun K hK => ?_)
        refine rl_callf fn39 (bracket_ok (pr x 0) true w (by omega)) rfl rfl ?_
        rintro _ _ ⟨rfl, rfl⟩
        refine rl_nil (kq_normal (hK _ _ hM ?_))
        (try ((refine rx_sadd rfl rfl rfl rfl (by (first | omega | (simp only [List.length_append, List.length_cons, List.length_nil, List.length_take, List.length_drop] at *; omega))) ?_)))
        refine rx_eff rfl (fun K hK => ?_)
        refine rl_callf fn24 (ih y _ hty hny (by omega) w0 _ _ V hM h7) rfl rfl ?_
        clear hM
        rintro _ w ⟨rfl, hM⟩
        refine rl_nil (kq_normal (hK _ _ hM ?_))
        (try (refine rx_move (v := (Value.bool _ : Value)) rfl rfl rfl ?_; (try (refine rx_fld rfl fd26_0 rfl rfl ?_; (try (refine rx_loadM 0 rfl (fun _ h => h) vt3 rfl rfl rfl (by first | rfl | assumption) ?_; (try ((refine rx_eql_f rfl rfl rfl rfl ?_ ?_; omega); (try (refine rx_pick (v := (Value.bool _ : Value)) rfl rfl rfl rfl ?_))))))))))
        refine rx_eff rfl (fun K hK => ?_)
        refine rl_callf fn39 (bracket_ok (pr y 0) false w (by omega)) rfl rfl ?_
        rintro _ _ ⟨rfl, rfl⟩
        refine rl_nil (kq_normal (hK _ _ hM ?_))
        rw [brk_false]
        (try ((refine rx_sadd rfl rfl rfl rfl (by (first | omega | (simp only [List.length_append, List.length_cons, List.length_nil, List.length_take, List.length_drop] at *; omega))) ?_)))
        refine rx_nil rfl ?_
        (repeat (first | refine sq_normal ?_ | refine sq_ret ?_ | refine rl_nil ?_ | refine ret_ ?_ | refine inBlock_ret ?_ | refine np_normal ?_ | refine rl_assign (v := (Value.string _ : Value)) rfl rfl ?_))
        exact bp_ret1 (v := St _) rfl rfl ⟨by rw [hfin], hM.dropn 3⟩
      | false =>
        rw [hfx, brk_false] at hl2 hfin
        (repeat (first | refine seq_ ?_ | refine sq_normal ?_ | refine rl_nil ?_ | refine rl_assign (v := (Value.bool _ : Value)) rfl rfl ?_))
        (refine drawnM_ 22 [(0, false), (2, false), (10, false), (12, false), (13, false), (14, false), (1, true), (3, false), (4, false), (5, false), (6, false), (7, false), (8, true), (9, false), (11, true), (15, false), (16, false), (17, false), (18, false), (19, false), (20, true), (21, false)] (fun w => Mem w0 w _ _) hM mo (by kernel_rfl) (fun _ h => h) ?_; clear hM; intro w hM; (try (refine rx_loadAM (vs := [_, _, _, _]) 1 rfl (fun _ h => h) ag26 rfl rfl rfl rfl rfl ?_; (try (refine rx_move (v := (Value.bool _ : Value)) rfl rfl rfl ?_; (try (refine rx_loadAM (vs := [_, _, _, _]) 0 rfl (fun _ h => h) ag26 rfl rfl rfl rfl rfl ?_; (try (refine rx_fld rfl fd26_0 rfl rfl ?_; (try (refine rx_loadM 0 rfl (fun _ h => h) vt3 rfl rfl rfl (by first | rfl | assumption) ?_; (try ((refine rx_eql_f rfl rfl rfl rfl ?_ ?_; omega))))))))))))))
        refine rx_eff rfl (fun K hK => ?_)
        refine rl_callf fn24 (ih x _ htx hnx (by omega) w0 w _ V hM h6) rfl rfl ?_
        clear hM
        rintro _ w ⟨rfl, hM⟩
        refine rl_nil (kq_normal (hK _ _ hM ?_))
        (try (refine rx_move (v := (Value.bool _ : Value)) rfl rfl rfl ?_; (try (refine rx_fld rfl fd26_0 rfl rfl ?_; (try (refine rx_loadM 1 rfl (fun _ h => h) vt3 rfl rfl rfl (by first | rfl | assumption) ?_; (try ((refine rx_eql_f rfl rfl rfl rfl ?_ ?_; omega); (try (refine rx_pick (v := (Value.bool _ : Value)) rfl rfl rfl rfl ?_))))))))))
        refine rx_eff rfl (fun K hK => ?_)
        refine rl_callf fn39 (bracket_ok (pr x 0) false w (by omega)) rfl rfl ?_
        rintro _ _ ⟨rfl, rfl⟩
        refine rl_nil (kq_normal (hK _ _ hM ?_))
        rw [brk_false]
        (try ((refine rx_sadd rfl rfl rfl rfl (by (first | omega | (simp only [List.length_append, List.length_cons, List.length_nil, List.length_take, List.length_drop] at *; omega))) ?_)))
        refine rx_eff rfl (fun K hK => ?_)
        refine rl_callf fn24 (ih y _ hty hny (by omega) w0 _ _ V hM h7) rfl rfl ?_
        clear hM
        rintro _ w ⟨rfl, hM⟩
        refine rl_nil (kq_normal (hK _ _ hM ?_))
        (try (refine rx_move (v := (Value.bool _ : Value)) rfl rfl rfl ?_; (try (refine rx_fld rfl fd26_0 rfl rfl ?_; (try (refine rx_loadM 0 rfl (fun _ h => h) vt3 rfl rfl rfl (by first | rfl | assumption) ?_; (try ((refine rx_eql_f rfl rfl rfl rfl ?_ ?_; omega); (try (refine rx_pick (v := (Value.bool _ : Value)) rfl rfl rfl rfl ?_))))))))))
        refine rx_eff rfl (fun K hK => ?_)
        refine rl_callf fn39 (bracket_ok (pr y 0) false w (by omega)) rfl rfl ?_
        rintro _ _ ⟨rfl, rfl⟩
        refine rl_nil (kq_normal (hK _ _ hM ?_))
        rw [brk_false]
        (try ((refine rx_sadd rfl rfl rfl rfl (by (first | omega | (simp only [List.length_append, List.length_cons, List.length_nil, List.length_take, List.length_drop] at *; omega))) ?_)))
        refine rx_nil rfl ?_
        (repeat (first | refine sq_normal ?_ | refine sq_ret ?_ | refine rl_nil ?_ | refine ret_ ?_ | refine inBlock_ret ?_ | refine np_normal ?_ | refine rl_assign (v := (Value.string _ : Value)) rfl rfl ?_))
        exact bp_ret1 (v := St _) rfl rfl ⟨by rw [hfin], hM.dropn 3⟩
end Go.Proofs.YtadbinckjmdokaaDoor.Trd
