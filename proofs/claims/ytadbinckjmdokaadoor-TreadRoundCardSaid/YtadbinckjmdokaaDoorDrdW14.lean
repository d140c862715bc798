/- The walks of fugueref04.Equal, fugueref05.SamePreds, SameScheme where both sides are the same. -/
import Derived.Test.YtadbinckjmdokaaDoorDrdW12
import Derived.Test.YtadbinckjmdokaaDoorDrdA16
set_option linter.unusedVariables false
set_option linter.unusedSimpArgs false
namespace Go.Proofs.YtadbinckjmdokaaDoor.Trd
open Go Go.Eng Go.RowKit Go.Tr Go.Lx
attribute [local irreducible] RL RX KQ SQ Exit.inBlock Exit.then BP NP CallsOk IsSl IsRows IsInts IsBools Own Blk Code.wp Calls wpList
set_option maxRecDepth 4000 in
set_option maxHeartbeats 4000000 in
theorem equal_ok : ∀ (N : Nat) (t : Ty) (cs ds : List Value), t.ht < N → ∀ (w0 w : World) (L : List Ent) (V : Vw), Mem w0 w L V → TyV V t cs → TyV V t ds →
    CallsOk Tryd.prog 14 #[.agg cs.toArray, .agg ds.toArray] w fun r w' => r = .bool true ∧ Mem w0 w' L V := by
  intro N
  induction N with
  | zero => intro t cs ds hN; omega
  | succ N ih =>
  intro t cs ds hN w0 w L V hM ht hu
  have hml := maxLen_le
  obtain ⟨v1, rfl, hsl, hi1, hi2, hi3⟩ := id ht.open
  obtain ⟨ka, kc, kb, ko, rfl, g1, g2, g3, g4⟩ := id hsl
  obtain ⟨v2, rfl, hsl2, _⟩ := id hu.open
  obtain ⟨la, lc, lb, lo, rfl, p1, p2, p3, p4⟩ := id hsl2
  have hkl := Ty.kids_len t
  refine enter_ (N := 55) Tryd.func14 rfl rfl rfl ?_
  (repeat (first | refine seq_ ?_ | refine sq_normal ?_ | refine rl_nil ?_ | refine cond_f rfl ?_ | refine skip_ ?_ | refine block_ ?_ | (refine region_ (id := 0) ?_; (try ((refine rl_boxAM (d := 2) hM rfl rfl ?_; clear hM; intro w b2 hM); (try ((refine rl_boxAM (d := 3) hM rfl rfl ?_; clear hM; intro w b3 hM); (try (refine rl_assign (v := (Value.bool _ : Value)) rfl rfl ?_))))))) | (refine region_ (id := 1) ?_; (try (refine rl_fld fd26_0 rfl rfl ?_; (try (refine rl_loadM 1 hM vt3 rfl rfl rfl (by first | rfl | assumption) ?_; (try (refine rl_fld fd26_0 rfl rfl ?_; (try (refine rl_loadM 0 hM vt3 rfl rfl rfl (by first | rfl | assumption) ?_; (try ((refine rl_neq_f rfl rfl rfl ?_ ?_; omega); (try (refine rl_move (v := (Value.bool _ : Value)) rfl rfl ?_; (try (refine rl_fld fd26_1 rfl rfl ?_; (try (refine rl_loadM 1 hM vt3 rfl rfl rfl (by first | rfl | assumption) ?_; (try (refine rl_fld fd26_1 rfl rfl ?_; (try (refine rl_loadM 0 hM vt3 rfl rfl rfl (by first | rfl | assumption) ?_; (try ((refine rl_neq_f rfl rfl rfl ?_ ?_; omega); (try (refine rl_pick (v := (Value.bool _ : Value)) rfl rfl rfl ?_; (try (refine rl_move (v := (Value.bool _ : Value)) rfl rfl ?_; (try (refine rl_fld fd26_2 rfl rfl ?_; (try (refine rl_loadM 1 hM vt9 rfl rfl rfl (by first | rfl | assumption) ?_; (try (refine rl_fld fd26_2 rfl rfl ?_; (try (refine rl_loadM 0 hM vt9 rfl rfl rfl (by first | rfl | assumption) ?_; (try (refine rl_sneq_f rfl rfl rfl (by first | rfl | assumption) ?_; (try (refine rl_pick (v := (Value.bool _ : Value)) rfl rfl rfl ?_; (try (refine rl_move (v := (Value.bool _ : Value)) rfl rfl ?_; (try (refine rl_fld fd26_3 rfl rfl ?_; (try (refine rl_loadM 1 hM vt24 rfl rfl rfl (by first | rfl | assumption) ?_; (try (refine rl_len sl24 rfl rfl ?_; (try (refine rl_fld fd26_3 rfl rfl ?_; (try (refine rl_loadM 0 hM vt24 rfl rfl rfl (by first | rfl | assumption) ?_; (try (refine rl_len sl24 rfl rfl ?_; (try ((refine rl_neq_f rfl rfl rfl ?_ ?_; omega); (try (refine rl_pick (v := (Value.bool _ : Value)) rfl rfl rfl ?_))))))))))))))))))))))))))))))))))))))))))))))))))))))))) | (refine region_ (id := 3) ?_; (try (refine rl_assign (v := (Value.int _ _ : Value)) rfl rfl ?_)))))
  have hM : Mem w0 w (.blk b3 [.int .i64 t.form, .int .i64 t.num, St t.name, .slice la t.kids.length lc] 26 :: .blk b2 [.int .i64 t.form, .int .i64 t.num, St t.name, .slice ka t.kids.length kc] 26 :: L) V := hM
  refine loop1 [(4, 7), (35, 55)] 5 (fun m v5 wr => ∃ q : Nat, v5 = .int .i64 q ∧ q ≤ t.kids.length ∧ m = t.kids.length - q ∧
      Mem w0 wr (.blk b3 [.int .i64 t.form, .int .i64 t.num, St t.name, .slice la t.kids.length lc] 26 :: .blk b2 [.int .i64 t.form, .int .i64 t.num, St t.name, .slice ka t.kids.length kc] 26 :: L) V) _
    ⟨0, rfl, Nat.zero_le _, rfl, hM⟩ ?_
  clear hM
  rintro m τ v w ⟨q, rfl, hq, rfl, hM⟩ K0 hL0
  by_cases hlt : q < t.kids.length
  · obtain ⟨x, hx⟩ : ∃ x, t.kids[q]? = some x := ⟨_, List.getElem?_eq_getElem hlt⟩
    obtain ⟨ys, hr, hys⟩ := g4 q x hx
    obtain ⟨zs, hr2, hzs⟩ := p4 q x hx
    have g3' := g3 (by omega)
    subst g3'
    have p3' := p3 (by omega)
    subst p3'
    obtain ⟨f0, n0, s0, a0, k0, c0, rfl, _⟩ := id hys.shape
    obtain ⟨f1, n1, s1, a1, k1, c1, rfl, _⟩ := id hzs.shape
    have hxh := Ty.kids_ht (List.mem_of_getElem? hx)
    (repeat (first | refine seq_ ?_ | refine sq_normal ?_ | refine rl_nil ?_ | refine cond_t rfl ?_ | refine skip_ ?_ | refine block_ ?_ | (refine region_ (id := 4) ?_; (try (refine rl_move (v := (Value.int _ _ : Value)) rfl rfl ?_; (try (refine rl_fld fd26_3 rfl rfl ?_; (try (refine rl_loadM 1 hM vt24 rfl rfl rfl (by first | rfl | assumption) ?_; (try (refine rl_len sl24 rfl rfl ?_; (try ((refine rl_lss_t rfl rfl rfl ?_ ?_; omega))))))))))))))
    (refine drawnM_ 11 [(0, false), (1, false), (2, false), (3, false), (4, false), (5, false), (6, false), (7, false), (8, false), (9, false), (10, true)] (fun w => Mem w0 w _ _) hM mo (by kernel_rfl) (fun _ h => h) ?_; clear hM; intro w hM; (try (refine rx_fld rfl fd26_3 rfl rfl ?_; (try (refine rx_loadM 1 rfl (fun _ h => h) vt24 rfl rfl rfl (by first | rfl | assumption) ?_; (try (refine rx_move (v := (Value.int _ _ : Value)) rfl rfl rfl ?_; (try ((refine rx_idx rfl sl24 rfl rfl rfl rfl ?_ ?_ ?_; omega; omega); (try (refine rx_loadAV rfl (fun _ h => h) ag26 rfl rfl (by assumption) (by rfl) ?_; (try (refine rx_fld rfl fd26_3 rfl rfl ?_; (try (refine rx_loadM 0 rfl (fun _ h => h) vt24 rfl rfl rfl (by first | rfl | assumption) ?_; (try (refine rx_move (v := (Value.int _ _ : Value)) rfl rfl rfl ?_; (try ((refine rx_idx rfl sl24 rfl rfl rfl rfl ?_ ?_ ?_; omega; omega); (try (refine rx_loadAV rfl (fun _ h => h) ag26 rfl rfl (by assumption) (by rfl) ?_)))))))))))))))))))))
    refine rx_eff rfl (fun K hK => ?_)
    refine rl_callf fn14 (ih x _ _ (by omega) w0 w _ V hM hys hzs) rfl rfl ?_
    clear hM
    rintro _ w ⟨rfl, hM⟩
    refine rl_nil (kq_normal (hK _ _ hM ?_))
    refine rx_nil rfl ?_
    (repeat (first | refine seq_ ?_ | refine sq_normal ?_ | refine rl_nil ?_ | refine cond_f rfl ?_ | refine skip_ ?_ | refine inBlock_normal ?_ | refine np_normal ?_ | (refine region_ (id := 5) ?_; (try (refine rl_move (v := (Value.int _ _ : Value)) rfl rfl ?_; (try ((refine rl_add rfl rfl rfl ?_ ?_ ?_; omega; omega); (try (refine rl_assign (v := (Value.int _ _ : Value)) rfl rfl ?_))))))) | (refine region_ (id := 7) ?_; (try (refine rl_move (v := (Value.bool _ : Value)) rfl rfl ?_; (try (refine rl_not rfl rfl ?_))))) | refine rl_assign (v := (Value.bool _ : Value)) rfl rfl ?_))
    exact kq_normal (hL0 (t.kids.length - (q + 1)) _ _ (by omega) (by (repeat (first | with_reducible exact Agree.ov | with_reducible exact Agree.refl _ _ | refine Agree.upd rfl ?_ | refine Agree.ovs rfl ?_))) ⟨q + 1, rfl, by omega, rfl, hM⟩)
  · (repeat (first | refine seq_ ?_ | refine sq_normal ?_ | refine sq_exit ?_ | refine rl_nil ?_ | refine cond_f rfl ?_ | refine ret_ ?_ | refine exit_ ?_ | refine inBlock_exit ?_ | refine kq_exit ?_ | (refine region_ (id := 4) ?_; (try (refine rl_move (v := (Value.int _ _ : Value)) rfl rfl ?_; (try (refine rl_fld fd26_3 rfl rfl ?_; (try (refine rl_loadM 1 hM vt24 rfl rfl rfl (by first | rfl | assumption) ?_; (try (refine rl_len sl24 rfl rfl ?_; (try ((refine rl_lss_f rfl rfl rfl ?_ ?_; omega)))))))))))) | (refine region_ (id := 9) ?_; (try (refine rl_assign (v := (Value.bool _ : Value)) rfl rfl ?_)))))
    exact bp_ret1 (v := Value.bool _) rfl rfl ⟨rfl, hM.dropn 2⟩
end Go.Proofs.YtadbinckjmdokaaDoor.Trd
