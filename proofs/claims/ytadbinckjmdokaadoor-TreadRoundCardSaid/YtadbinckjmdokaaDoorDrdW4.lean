/- The walk of tread.whole; both. -/
import Derived.Test.YtadbinckjmdokaaDoorDrdW3
set_option linter.unusedVariables false
set_option linter.unusedSimpArgs false
namespace Go.Proofs.YtadbinckjmdokaaDoor.Trd
open Go Go.Eng Go.RowKit Go.Tr Go.Lx
attribute [local irreducible] RL RX KQ SQ Exit.inBlock Exit.then BP NP CallsOk IsSl IsRows IsInts IsBools Own Blk Code.wp Calls wpList
/-- What is told, either way. -/
theorem RdP.both {w0 w' : World} {L : List Ent} {V : Vw} {n : Nat} {x : Rs} {r : Value} (h : RdP w0 L V n x r w') : ∃ V' cs t, ∃ (k : Nat) (e a : Int), VLe V V' ∧ Mem w0 w' L V' ∧ r = .tuple #[.agg cs.toArray, .int .i64 k, pairV e a] ∧ TyV V' t cs ∧ k ≤ n ∧ ((e = 0 ∧ a = 0 ∧ x = .ok (t, k) ∧ k < n) ∨ (e ≠ 0 ∧ x = .error (e, a))) := by
  rcases h with ⟨V', cs, t, k, h1, h2, h3, h4, h5, h6⟩ | ⟨V', e, a, h1, h2, h3, h4, h5⟩
  · exact ⟨V', cs, t, k, 0, 0, h1, h2, h3, h5, Nat.le_of_lt h6, .inl ⟨rfl, rfl, h4, h6⟩⟩
  · exact ⟨V', _, Ty.z, 0, e, a, h1, h2, h3, tyz, Nat.zero_le _, .inr ⟨h5, h4⟩⟩
set_option maxRecDepth 4000 in
set_option maxHeartbeats 8000000 in
theorem whole_ok (f : Nat) (ih : ∀ g, g ≤ f → AtomC g ∧ WholeC g) : WholeC (f + 1) := by
  intro l i op v w0 w L V hM hl hT hi ho hf
  obtain ⟨va, vc, vb, vo, rfl, g1, g2, g3, g4⟩ := id hl
  have g3' := g3 (by omega)
  subst g3'
  have hfew := hT.few
  have hml := maxLen_le
  refine enter_ (N := 80) Tryd.func41 rfl rfl rfl ?_
  (repeat (first | refine seq_ ?_ | refine sq_normal ?_ | refine rl_nil ?_ | (refine region_ (id := 0) ?_; (try ((refine rl_allocAM (d := 6) hM ag26 rfl ?_; clear hM; intro w b6 hM); (try (refine rl_assign (v := (Value.int _ _ : Value)) rfl rfl ?_; (try ((refine rl_allocAM (d := 8) hM ag35 rfl ?_; clear hM; intro w b8 hM)))))))) | (refine region_ (id := 1) ?_; (try (refine rl_assign (v := (Value.func _ _ _ : Value)) rfl rfl ?_))) | (refine region_ (id := 2) ?_; (try (refine rl_move (v := (Value.slice _ _ _ : Value)) rfl rfl ?_; (try (refine rl_move (v := (Value.int _ _ : Value)) rfl rfl ?_; (try (refine rl_move (v := (Value.int _ _ : Value)) rfl rfl ?_)))))))))
  refine rl_callf fn54 ((ih f (Nat.le_refl _)).1 l i op _ w0 w _ V hM hl hT hi ho (by omega)) rfl rfl ?_
  clear hM
  rintro _ w hres
  obtain ⟨V1, cs, x, j, e, a, hV1, hM, rfl, hc, hjn, hres⟩ := hres.both
  have hst : (e = 0 ∧ a = 0 ∧ j < l.length ∧ ∃ g, rd l (f + 1) .whole i op = rd l g (.more x) j op ∧ g ≤ f ∧ 3 * (l.length - j) + 2 ≤ g ∧ i < j) ∨ (e ≠ 0 ∧ rd l (f + 1) .whole i op = .error (e, a)) := by
    rcases hres with ⟨h1, h2, h3, h4⟩ | ⟨h1, h2⟩
    · refine .inl ⟨h1, h2, h4, f, rd_whole h3, Nat.le_refl _, ?_⟩
      have := (rd_adv l f _ _ _ _ _ h3).2 (fun x e => by cases e)
      exact ⟨by omega, this⟩
    · exact .inr ⟨h1, rd_wholeE h2⟩
  obtain ⟨f1, n1, s1, a1, k1, c1, rfl, _⟩ := id hc.shape
  clear hres
  (repeat (first | refine seq_ ?_ | refine sq_normal ?_ | refine rl_nil ?_ | refine block_ ?_ | refine rl_assign (v := (Value.int _ _ : Value)) rfl rfl ?_ | refine rl_move (v := (Value.tuple _ : Value)) rfl rfl ?_ | refine rl_extract rfl rfl rfl ?_ | (refine rl_allocAM (d := 10) hM ag26 rfl ?_; clear hM; intro w b10 hM) | (refine rl_allocAM (d := 11) hM ag35 rfl ?_; clear hM; intro w b11 hM) | (refine rl_storeWM 1 hM ag26 rfl rfl rfl rfl rfl rfl rfl ?_; clear hM; intro w hM) | (refine rl_storeWM 0 hM ag35 rfl rfl rfl rfl rfl rfl rfl ?_; clear hM; intro w hM)))
  have hM : Mem w0 w (.blk b11 [.int .i64 e, .int .i64 a] 35 :: .blk b10 [.int .i64 f1, .int .i64 n1, St s1, .slice a1 k1 c1] 26 :: .blk b8 [.int .i64 0, .int .i64 0] 35 :: .blk b6 zT 26 :: L) V1 := hM
  refine loop1 [(1, 2), (12, 13), (23, 46)] 1 (fun m v1 wr => ∃ (j : Nat) (x : Ty) (xs : List Value) (V2 : Vw) (e a : Int), v1 = .int .i64 j ∧ VLe V V2 ∧ TyV V2 x xs ∧ j ≤ l.length ∧
    Mem w0 wr (.blk b11 [.int .i64 e, .int .i64 a] 35 :: .blk b10 xs 26 :: .blk b8 [.int .i64 0, .int .i64 0] 35 :: .blk b6 zT 26 :: L) V2 ∧
    ((e = 0 ∧ a = 0 ∧ j < l.length ∧ m = l.length - j + 1 ∧ ∃ g, rd l (f + 1) .whole i op = rd l g (.more x) j op ∧ g ≤ f ∧ 3 * (l.length - j) + 2 ≤ g) ∨ (e ≠ 0 ∧ m = 0 ∧ rd l (f + 1) .whole i op = .error (e, a)))) (if e = 0 then l.length - j + 1 else 0)
    ⟨j, x, _, V1, e, a, rfl, hV1, hc, hjn, hM, ?_⟩ ?_
  · rcases hst with ⟨h1, h2, h3, g, h4, h5, h6, _⟩ | ⟨h1, h2⟩
    · exact .inl ⟨h1, h2, h3, by rw [if_pos h1], g, h4, h5, h6⟩
    · exact .inr ⟨h1, by rw [if_neg h1], h2⟩
  clear hM hst hc hV1
  rintro m τ v1 w ⟨j, x, xs, V2, e, a, rfl, hV2, hc, hjn, hM, hst⟩ K0 hL0
  obtain ⟨f1, n1, s1, a1, k1, c1, rfl, _⟩ := id hc.shape
  rcases hst with ⟨rfl, rfl, hj, rfl, g, hg1, hg2, hg3⟩ | ⟨he, rfl, herr⟩
  · obtain ⟨t, ht⟩ : ∃ t, l[j]? = some t := ⟨_, List.getElem?_eq_getElem hj⟩
    have hr : VRow V2 vb (vo + j * 4) (tC t) := (g4 j t ht).le hV2
    obtain ⟨hn4, hkI, hnI, haI, hsl⟩ := hT.sane t (List.mem_of_getElem? ht)
    obtain ⟨g, rfl⟩ : ∃ g', g = g' + 1 := ⟨g - 1, by omega⟩
    (repeat (first | refine seq_ ?_ | (refine region_ (id := 3) ?_; (try (refine rl_fld fd35_0 rfl rfl ?_; (try (refine rl_loadM 0 hM vt33 rfl rfl rfl (by first | rfl | assumption) ?_; (try ((refine rl_eql_t rfl rfl rfl ?_ ?_; omega); (try (refine rl_move (v := (Value.bool _ : Value)) rfl rfl ?_; (try (refine rl_move (v := (Value.func _ _ _ : Value)) rfl rfl ?_; (try (refine rl_move (v := (Value.slice _ _ _ : Value)) rfl rfl ?_; (try (refine rl_move (v := (Value.int _ _ : Value)) rfl rfl ?_; (try ((refine rl_idx sl52 rfl rfl rfl rfl ?_ ?_ ?_; omega; omega); (try (refine rl_loadAV hM ag70 rfl rfl (by assumption) (by rfl) ?_)))))))))))))))))))))
    refine rl_callv fn53 (cap := []) (begins_ok t w0 w _ V2 hM hn4) rfl rfl rfl ?_
    clear hM
    rintro _ w ⟨rfl, hM⟩
    cases hb : begins t with
    | true =>
      (repeat (first | refine seq_ ?_ | refine sq_normal ?_ | refine rl_nil ?_ | refine cond_t rfl ?_ | refine skip_ ?_ | refine block_ ?_ | (refine region_ (id := 4) ?_; (try ((refine rl_allocAM (d := 12) hM ag26 rfl ?_; clear hM; intro w b12 hM)))) | (refine region_ (id := 5) ?_; (try (refine rl_move (v := (Value.slice _ _ _ : Value)) rfl rfl ?_; (try (refine rl_move (v := (Value.int _ _ : Value)) rfl rfl ?_; (try (refine rl_move (v := (Value.int _ _ : Value)) rfl rfl ?_))))))) | refine rl_pick (v := (Value.bool _ : Value)) rfl rfl rfl ?_))
      refine rl_callf fn54 ((ih g (by omega)).1 l j op _ w0 w _ V2 hM (hl.le hV2) hT hj ho (by omega)) rfl rfl ?_
      clear hM
      rintro _ w hres
      obtain ⟨V3, ys, y, k, e, a, hV3, hM, rfl, hy, hkn, hst2⟩ := hres.both
      clear hres
      obtain ⟨f2, n2, s2, a2, k2, c2, rfl, _⟩ := id hy.shape
      (repeat (first | refine sq_normal ?_ | refine rl_nil ?_ | (refine region_ (id := 6) ?_; (try (refine rl_loadAM (vs := [_, _, _, _]) 2 hM ag26 rfl rfl rfl rfl rfl ?_; (try (refine rl_loadAM (vs := [_, _, _, _]) 0 hM ag26 rfl rfl rfl rfl rfl ?_; (try ((refine rl_bsliceM (d := 44) [_] hM sl24 rfl rfl rfl rfl rfl (by decide) (by decide) ?_; clear hM; intro w b44 hM)))))))) | refine rl_assign (v := (Value.int _ _ : Value)) rfl rfl ?_ | refine rl_move (v := (Value.tuple _ : Value)) rfl rfl ?_ | refine rl_extract rfl rfl rfl ?_ | (refine rl_storeWM 0 hM ag26 rfl rfl rfl rfl rfl rfl rfl ?_; clear hM; intro w hM) | (refine rl_storeWM 1 hM ag35 rfl rfl rfl rfl rfl rfl rfl ?_; clear hM; intro w hM)))
      refine rl_callf fn55 (app_ok x y _ [.int .i64 f2, .int .i64 n2, St s2, .slice a2 k2 c2] b44 w0 w _ V3 hM (hc.le hV3) hy) rfl rfl ?_
      clear hM
      rintro _ w ⟨V4, zs, hV4, hM, rfl, hz⟩
      obtain ⟨f3, n3, s3, a3, k3, c3, rfl, _⟩ := id hz.shape
      (repeat (first | refine rl_nil ?_ | refine inBlock_normal ?_ | (refine rl_storeWM 2 hM ag26 rfl rfl rfl rfl rfl rfl rfl ?_; clear hM; intro w hM)))
      refine kq_normal (hL0 (if e = 0 then l.length - k + 1 else 0) _ _ ?_ (by (repeat (first | with_reducible exact Agree.ov | with_reducible exact Agree.refl _ _ | refine Agree.upd rfl ?_ | refine Agree.ovs rfl ?_))) ⟨k, .app x y, _, V4, e, a, rfl, hV2.trans (hV3.trans hV4), hz, hkn, hM.dropn 1, ?_⟩)
      · rcases hst2 with ⟨h1, h2, h3, h4⟩ | ⟨h1, h2⟩
        · rw [if_pos h1]
          have := (rd_adv l g _ _ _ _ _ h3).2 (fun x e => by cases e)
          omega
        · rw [if_neg h1]; omega
      · rcases hst2 with ⟨h1, h2, h3, h4⟩ | ⟨h1, h2⟩
        · have := (rd_adv l g _ _ _ _ _ h3).2 (fun x e => by cases e)
          exact .inl ⟨h1, h2, h4, by rw [if_pos h1], g, hg1.trans (rd_more ht hb h3), by omega, by omega⟩
        · exact .inr ⟨h1, by rw [if_neg h1], hg1.trans (rd_moreE ht hb h2)⟩
    | false =>
      (repeat (first | refine seq_ ?_ | refine sq_normal ?_ | refine sq_exit ?_ | refine rl_nil ?_ | refine cond_f rfl ?_ | refine skip_ ?_ | refine exit_ ?_ | refine inBlock_exit ?_ | refine kq_exit ?_ | (refine region_ (id := 7) ?_; (try (refine rl_fld fd35_0 rfl rfl ?_; (try (refine rl_loadM 0 hM vt33 rfl rfl rfl (by first | rfl | assumption) ?_; (try ((refine rl_neq_f rfl rfl rfl ?_ ?_; omega)))))))) | (refine region_ (id := 9) ?_; (try (refine rl_move (v := (Value.slice _ _ _ : Value)) rfl rfl ?_; (try (refine rl_move (v := (Value.int _ _ : Value)) rfl rfl ?_; (try ((refine rl_idx sl52 rfl rfl rfl rfl ?_ ?_ ?_; omega; omega); (try (refine rl_loadAV hM ag70 rfl rfl (by assumption) (by rfl) ?_))))))))) | refine rl_pick (v := (Value.bool _ : Value)) rfl rfl rfl ?_))
      refine rl_callf fn50 (is_ok t Ty.arrow w0 w _ V2 hM hn4) rfl rfl ?_
      clear hM
      rintro _ w ⟨rfl, hM⟩
      cases hs : sym Ty.arrow t with
      | false =>
        (repeat (first | refine seq_ ?_ | refine sq_normal ?_ | refine sq_ret ?_ | refine rl_nil ?_ | refine cond_t rfl ?_ | refine ret_ ?_ | (refine region_ (id := 10) ?_; (try (refine rl_loadAM (vs := [_, _, _, _]) 1 hM ag26 rfl rfl rfl rfl rfl ?_; (try (refine rl_move (v := (Value.int _ _ : Value)) rfl rfl ?_; (try (refine rl_build [(Value.int .i64 0), (Value.int .i64 0)] ag35 pl35 rfl rfl rfl ?_; (try ((refine rl_storeWM 3 hM ag26 rfl rfl rfl rfl rfl rfl rfl ?_; clear hM; intro w hM); (try (refine rl_assign (v := (Value.int _ _ : Value)) rfl rfl ?_; (try ((refine rl_storeWM 2 hM ag35 rfl rfl rfl rfl rfl rfl rfl ?_; clear hM; intro w hM)))))))))))))) | refine rl_not rfl rfl ?_))
        exact bp_x3 rfl rfl (res_M 3 hM ag26 rfl rfl rfl) (res_tmp rfl) (res_M 2 hM ag35 rfl rfl rfl) (.inl ⟨V2, _, x, j, hV2, hM.dropn 4, rfl, hg1.trans (rd_end ht hb hs), hc, hj⟩)
      | true =>
        have hk4 := sym_k hs
        have hmore := hT.more j t ht (by omega)
        (repeat (first | refine seq_ ?_ | refine sq_normal ?_ | refine rl_nil ?_ | refine cond_f rfl ?_ | refine skip_ ?_ | (refine region_ (id := 11) ?_; (try (refine rl_move (v := (Value.slice _ _ _ : Value)) rfl rfl ?_; (try (refine rl_move (v := (Value.int _ _ : Value)) rfl rfl ?_; (try ((refine rl_add rfl rfl rfl ?_ ?_ ?_; omega; omega); (try (refine rl_move (v := (Value.int _ _ : Value)) rfl rfl ?_))))))))) | refine rl_not rfl rfl ?_))
        refine rl_callf fn41 ((ih g (by omega)).2 l (j + 1) op _ w0 w _ V2 hM (hl.le hV2) hT hmore ho (by omega)) rfl rfl ?_
        clear hM
        rintro _ w hres
        rcases hres with ⟨V3, ys, y, k, hV3, hM, rfl, hx, hy, hk⟩ | ⟨V3, e, a, hV3, hM, rfl, hx, he⟩
        · obtain ⟨f2, n2, s2, a2, k2, c2, rfl, _⟩ := id hy.shape
          (repeat (first | refine seq_ ?_ | refine sq_normal ?_ | refine rl_nil ?_ | refine cond_f rfl ?_ | refine skip_ ?_ | (refine region_ (id := 12) ?_; (try (refine rl_fld fd35_0 rfl rfl ?_; (try (refine rl_loadM 1 hM vt33 rfl rfl rfl (by first | rfl | assumption) ?_; (try ((refine rl_neq_f rfl rfl rfl ?_ ?_; omega)))))))) | (refine region_ (id := 14) ?_; (try (refine rl_loadAM (vs := [_, _, _, _]) 0 hM ag26 rfl rfl rfl rfl rfl ?_; (try (refine rl_loadAM (vs := [_, _, _, _]) 2 hM ag26 rfl rfl rfl rfl rfl ?_; (try ((refine rl_bsliceM (d := 76) [_] hM sl24 rfl rfl rfl rfl rfl (by decide) (by decide) ?_; clear hM; intro w b76 hM)))))))) | refine rl_assign (v := (Value.int _ _ : Value)) rfl rfl ?_ | refine rl_move (v := (Value.tuple _ : Value)) rfl rfl ?_ | refine rl_extract rfl rfl rfl ?_ | (refine rl_storeWM 0 hM ag26 rfl rfl rfl rfl rfl rfl rfl ?_; clear hM; intro w hM) | (refine rl_storeWM 1 hM ag35 rfl rfl rfl rfl rfl rfl rfl ?_; clear hM; intro w hM) | (refine rl_allocAM (d := 13) hM ag26 rfl ?_; clear hM; intro w b13 hM)))
          refine rl_callf fn56 (fun_ok x y [.int .i64 f1, .int .i64 n1, St s1, .slice a1 k1 c1] _ b76 w0 w _ V3 hM (hc.le hV3) hy) rfl rfl ?_
          clear hM
          rintro _ w ⟨V4, zs, hV4, hM, rfl, hz⟩
          obtain ⟨f3, n3, s3, a3, k3, c3, rfl, _⟩ := id hz.shape
          (repeat (first | refine sq_normal ?_ | refine rl_nil ?_ | refine ret_ ?_ | refine rl_assign (v := (Value.int _ _ : Value)) rfl rfl ?_ | refine rl_move (v := (Value.int _ _ : Value)) rfl rfl ?_ | (refine rl_storeWM 4 hM ag26 rfl rfl rfl rfl rfl rfl rfl ?_; clear hM; intro w hM) | (refine rl_storeWM 3 hM ag35 rfl rfl rfl rfl rfl rfl rfl ?_; clear hM; intro w hM) | refine rl_build [(Value.int .i64 0), (Value.int .i64 0)] ag35 pl35 rfl rfl rfl ?_))
          exact bp_x3 rfl rfl (res_M 4 hM ag26 rfl rfl rfl) (res_tmp rfl) (res_M 3 hM ag35 rfl rfl rfl) (.inl ⟨V4, _, _, k, hV2.trans (hV3.trans hV4), hM.dropn 5, rfl, hg1.trans (rd_fn ht hb hs hx), hz, hk⟩)
        · (repeat (first | refine seq_ ?_ | refine sq_normal ?_ | refine rl_nil ?_ | refine cond_t rfl ?_ | (refine region_ (id := 12) ?_; (try (refine rl_fld fd35_0 rfl rfl ?_; (try (refine rl_loadM 1 hM vt33 rfl rfl rfl (by first | rfl | assumption) ?_; (try ((refine rl_neq_t rfl rfl rfl ?_ ?_; omega)))))))) | refine rl_assign (v := (Value.int _ _ : Value)) rfl rfl ?_ | refine rl_move (v := (Value.tuple _ : Value)) rfl rfl ?_ | refine rl_extract rfl rfl rfl ?_ | (refine rl_storeWM 0 hM ag26 rfl rfl rfl rfl rfl rfl rfl ?_; clear hM; intro w hM) | (refine rl_storeWM 1 hM ag35 rfl rfl rfl rfl rfl rfl rfl ?_; clear hM; intro w hM) | (refine rl_allocAM (d := 13) hM ag26 rfl ?_; clear hM; intro w b13 hM)))
          (refine drawnM_ 4 [(0, false), (1, false), (2, true), (3, false)] (fun w => Mem w0 w _ _) hM mo (by kernel_rfl) (fun _ h => h) ?_; clear hM; intro w hM; (try (refine rx_build [(Value.int .i64 0), (Value.int .i64 0), (St []), (Value.slice none 0 0)] rfl ag26 pl26 rfl rfl rfl ?_; (try (refine rx_loadAM (vs := [_, _]) 1 rfl (fun _ h => h) ag35 rfl rfl rfl rfl rfl ?_)))))
          refine rx_eff rfl (fun K hK => ?_)
          (repeat (first | refine rl_nil ?_ | (refine rl_storeWM 4 hM ag26 rfl rfl rfl rfl rfl rfl rfl ?_; clear hM; intro w hM)))
          refine kq_normal (hK _ _ hM ?_)
          (try (refine rx_assign (v := (Value.int _ _ : Value)) rfl rfl rfl ?_))
          refine rx_nil rfl ?_
          (repeat (first | refine sq_normal ?_ | refine sq_ret ?_ | refine rl_nil ?_ | refine ret_ ?_ | refine np_normal ?_ | (refine rl_storeWM 3 hM ag35 rfl rfl rfl rfl rfl rfl rfl ?_; clear hM; intro w hM)))
          exact bp_x3 rfl rfl (res_M 4 hM ag26 rfl rfl rfl) (res_tmp rfl) (res_M 3 hM ag35 rfl rfl rfl) (.inr ⟨V3, e, a, hV2.trans hV3, hM.dropn 5, rfl, hg1.trans (rd_fnE ht hb hs hx), he⟩)
  · (repeat (first | refine seq_ ?_ | refine sq_normal ?_ | refine sq_exit ?_ | refine rl_nil ?_ | refine cond_t rfl ?_ | refine cond_f rfl ?_ | refine exit_ ?_ | refine inBlock_exit ?_ | refine kq_exit ?_ | (refine region_ (id := 3) ?_; (try (refine rl_fld fd35_0 rfl rfl ?_; (try (refine rl_loadM 0 hM vt33 rfl rfl rfl (by first | rfl | assumption) ?_; (try ((refine rl_eql_f rfl rfl rfl ?_ ?_; omega); (try (refine rl_move (v := (Value.bool _ : Value)) rfl rfl ?_; (try (refine rl_off rfl ?_; (try (refine rl_off rfl ?_; (try (refine rl_off rfl ?_; (try (refine rl_off rfl ?_; (try (refine rl_off rfl ?_))))))))))))))))))) | (refine region_ (id := 7) ?_; (try (refine rl_fld fd35_0 rfl rfl ?_; (try (refine rl_loadM 0 hM vt33 rfl rfl rfl (by first | rfl | assumption) ?_; (try ((refine rl_neq_t rfl rfl rfl ?_ ?_; omega)))))))) | refine rl_off rfl ?_ | refine rl_pick (v := (Value.bool _ : Value)) rfl rfl rfl ?_))
    (refine drawnM_ 4 [(0, false), (1, false), (2, true), (3, false)] (fun w => Mem w0 w _ _) hM mo (by kernel_rfl) (fun _ h => h) ?_; clear hM; intro w hM; (try (refine rx_build [(Value.int .i64 0), (Value.int .i64 0), (St []), (Value.slice none 0 0)] rfl ag26 pl26 rfl rfl rfl ?_; (try (refine rx_loadAM (vs := [_, _]) 0 rfl (fun _ h => h) ag35 rfl rfl rfl rfl rfl ?_)))))
    refine rx_eff rfl (fun K hK => ?_)
    (repeat (first | refine rl_nil ?_ | (refine rl_storeWM 3 hM ag26 rfl rfl rfl rfl rfl rfl rfl ?_; clear hM; intro w hM)))
    refine kq_normal (hK _ _ hM ?_)
    (try (refine rx_assign (v := (Value.int _ _ : Value)) rfl rfl rfl ?_))
    refine rx_nil rfl ?_
    (repeat (first | refine sq_normal ?_ | refine sq_ret ?_ | refine rl_nil ?_ | refine ret_ ?_ | refine np_normal ?_ | (refine rl_storeWM 2 hM ag35 rfl rfl rfl rfl rfl rfl rfl ?_; clear hM; intro w hM)))
    exact bp_x3 rfl rfl (res_M 3 hM ag26 rfl rfl rfl) (res_tmp rfl) (res_M 2 hM ag35 rfl rfl rfl) (.inr ⟨V2, e, a, hV2, hM.dropn 4, rfl, herr, he⟩)
theorem both_ok : ∀ N f, f ≤ N → AtomC f ∧ WholeC f
  | 0, f, h => by
    have : f = 0 := by omega
    subst this
    exact ⟨fun l i op v w0 w L V hM hl hT hi ho hf => by omega, fun l i op v w0 w L V hM hl hT hi ho hf => by omega⟩
  | N + 1, f, h => by
    rcases Nat.lt_or_ge N f with h1 | h1
    · have : f = N + 1 := by omega
      subst this
      exact ⟨atom_ok N (both_ok N N (Nat.le_refl _)).2, whole_ok N (fun g hg => both_ok N g hg)⟩
    · exact both_ok N f h1
end Go.Proofs.YtadbinckjmdokaaDoor.Trd
