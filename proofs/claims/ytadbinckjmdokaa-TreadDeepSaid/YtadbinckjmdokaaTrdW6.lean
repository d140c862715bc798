/- The walk of fugueref05.Type; both. -/
import Derived.Test.YtadbinckjmdokaaTrdW5
set_option linter.unusedVariables false
set_option linter.unusedSimpArgs false
namespace Go.Proofs.Ytadbinckjmdokaa.Trd
open Go Go.Eng Go.RowKit Go.Tr Go.Lx
attribute [local irreducible] RL RX KQ SQ Exit.inBlock Exit.then BP NP CallsOk IsSl IsRows IsInts IsBools Own Blk Code.wp Calls wpList
abbrev z9 : List Value := [.int .i64 0, .int .i64 0, St [], nilS, nilS, nilS, .int .i64 0, .int .i64 0, .int .i64 0]
abbrev x9 (f n : Int) (s : List UInt8) (a : Value) (i e ea : Int) : List Value := [.int .i64 f, .int .i64 n, St s, a, nilS, nilS, .int .i64 i, .int .i64 e, .int .i64 ea]
set_option maxRecDepth 4000 in
set_option maxHeartbeats 8000000 in
theorem rtype_ok (f : Nat) (ih : ∀ g, g ≤ f → RAtomC g ∧ RTypeC g) : RTypeC (f + 1) := by
  intro l i op v w0 w L V hM hl hT hi ho hf
  obtain ⟨va, vc, vb, vo, rfl, g1, g2, g3, g4⟩ := id hl
  have g3' := g3 (by omega)
  subst g3'
  have hfew := hT.few
  have hml := maxLen_le
  refine enter_ (N := 81) Try.func17 rfl rfl rfl ?_
  (repeat (first | refine seq_ ?_ | refine sq_normal ?_ | refine rl_nil ?_ | (refine region_ (id := 0) ?_; (try ((refine rl_allocAM (d := 6) hM ag38 rfl ?_; clear hM; intro w b6 hM)))) | (refine region_ (id := 1) ?_; (try (refine rl_move (v := (Value.slice _ _ _ : Value)) rfl rfl ?_; (try (refine rl_move (v := (Value.int _ _ : Value)) rfl rfl ?_; (try (refine rl_move (v := (Value.int _ _ : Value)) rfl rfl ?_)))))))))
  refine rl_callf fn20 ((ih f (Nat.le_refl _)).1 l i op _ w0 w _ V hM hl hT hi ho (by omega)) rfl rfl ?_
  clear hM
  rintro _ w hres
  rcases hres with ⟨V1, cs, x, j, hV1, hM, rfl, hx, hc, hj⟩ | ⟨V1, e, a, hV1, hM, rfl, hx, he⟩
  · obtain ⟨t, ht⟩ : ∃ t, l[j]? = some t := ⟨_, List.getElem?_eq_getElem hj⟩
    have hru : VRow V1 vb (vo + j * 4) (tD t) := (g4 j t ht).le hV1
    obtain ⟨f1, n1, s1, a1, k1, c1, rfl, _⟩ := id hc.shape
    have hadv := (rd_adv l f _ _ _ _ _ hx).2 (fun x e => by cases e)
    (repeat (first | refine seq_ ?_ | refine sq_normal ?_ | refine rl_nil ?_ | refine cond_f rfl ?_ | refine skip_ ?_ | (refine region_ (id := 2) ?_; (try (refine rl_fld fd38_4 rfl rfl ?_; (try (refine rl_fld fd34_0 rfl rfl ?_; (try (refine rl_loadM 0 hM vt32 rfl rfl rfl (by first | rfl | assumption) ?_; (try ((refine rl_neq_f rfl rfl rfl ?_ ?_; omega)))))))))) | (refine region_ (id := 4) ?_; (try (refine rl_move (v := (Value.slice _ _ _ : Value)) rfl rfl ?_; (try (refine rl_fld fd38_3 rfl rfl ?_; (try (refine rl_loadM 0 hM vt3 rfl rfl rfl (by first | rfl | assumption) ?_; (try ((refine rl_idx sl47 rfl rfl rfl rfl ?_ ?_ ?_; omega; omega); (try (refine rl_loadAV hM ag73 rfl rfl (by assumption) (by rfl) ?_))))))))))) | (refine rl_allocAM (d := 7) hM ag38 rfl ?_; clear hM; intro w b7 hM) | (refine rl_storeWM 0 hM ag38 rfl rfl rfl rfl rfl rfl rfl ?_; clear hM; intro w hM)))
    refine rl_callf fn44 (rbegins_ok t w0 w _ V1 hM) rfl rfl ?_
    clear hM
    rintro _ w ⟨rfl, hM⟩
    (repeat (first | refine seq_ ?_ | refine sq_normal ?_ | refine rl_nil ?_ | refine block_ ?_ | refine rl_assign (v := (Value.bool _ : Value)) rfl rfl ?_))
    have hM : Mem w0 w (.blk b7 (x9 f1 n1 s1 (.slice a1 k1 c1) j 0 0) 38 :: .blk b6 z9 38 :: L) V1 := hM
    refine loop1 [(8, 10), (27, 53)] 8 (fun m v8 wr => ∃ (j : Nat) (t : Tok) (x : Ty) (V2 : Vw) (f1 n1 : Int) (s1 : List UInt8) (a1 : Option Addr) (k1 c1 : Nat), v8 = .bool (begins t) ∧ l[j]? = some t ∧ VLe V V2 ∧ TyV V2 x [.int .i64 f1, .int .i64 n1, St s1, .slice a1 k1 c1] ∧ j < l.length ∧
      Mem w0 wr (.blk b7 (x9 f1 n1 s1 (.slice a1 k1 c1) j 0 0) 38 :: .blk b6 z9 38 :: L) V2 ∧ m = l.length - j ∧ ∃ g, rd l (f + 1) .whole i op = rd l g (.more x) j op ∧ g ≤ f ∧ 3 * (l.length - j) + 2 ≤ g) _
      ⟨j, t, x, V1, f1, n1, s1, a1, k1, c1, rfl, ht, hV1, hc, hj, hM, rfl, f, rd_whole hx, Nat.le_refl _, by omega⟩ ?_
    clear hM hc hru hV1
    rintro m τ v8 w ⟨j, t, x, V2, f1, n1, s1, a1, k1, c1, rfl, ht, hV2, hc, hj, hM, rfl, g, hg1, hg2, hg3⟩ K0 hL0
    have hr : VRow V2 vb (vo + j * 4) (tD t) := (g4 j t ht).le hV2
    obtain ⟨g, rfl⟩ : ∃ g', g = g' + 1 := ⟨g - 1, by omega⟩
    cases hb : begins t with
    | true =>
      (repeat (first | refine seq_ ?_ | refine sq_normal ?_ | refine rl_nil ?_ | refine cond_t rfl ?_ | refine skip_ ?_ | refine block_ ?_ | (refine region_ (id := 5) ?_; (try (refine rl_move (v := (Value.bool _ : Value)) rfl rfl ?_))) | (refine region_ (id := 6) ?_; (try (refine rl_move (v := (Value.slice _ _ _ : Value)) rfl rfl ?_; (try (refine rl_fld fd38_3 rfl rfl ?_; (try (refine rl_loadM 0 hM vt3 rfl rfl rfl (by first | rfl | assumption) ?_; (try (refine rl_move (v := (Value.int _ _ : Value)) rfl rfl ?_)))))))))))
      refine rl_callf fn20 ((ih g (by omega)).1 l j op _ w0 w _ V2 hM (hl.le hV2) hT hj ho (by omega)) rfl rfl ?_
      clear hM
      rintro _ w hres
      rcases hres with ⟨V3, ys, y, k, hV3, hM, rfl, hy, hcy, hk⟩ | ⟨V3, e, a, hV3, hM, rfl, hy, he⟩
      · obtain ⟨f2, n2, s2, a2, k2, c2, rfl, _⟩ := id hcy.shape
        obtain ⟨u, hu⟩ : ∃ u, l[k]? = some u := ⟨_, List.getElem?_eq_getElem hk⟩
        have hru : VRow V3 vb (vo + k * 4) (tD u) := ((g4 k u hu).le hV2).le hV3
        have hadv := (rd_adv l g _ _ _ _ _ hy).2 (fun x e => by cases e)
        (repeat (first | refine seq_ ?_ | refine sq_normal ?_ | refine rl_nil ?_ | refine cond_f rfl ?_ | refine skip_ ?_ | (refine region_ (id := 7) ?_; (try (refine rl_fld fd38_4 rfl rfl ?_; (try (refine rl_fld fd34_0 rfl rfl ?_; (try (refine rl_loadM 0 hM vt32 rfl rfl rfl (by first | rfl | assumption) ?_; (try ((refine rl_neq_f rfl rfl rfl ?_ ?_; omega)))))))))) | (refine region_ (id := 9) ?_; (try (refine rl_fld fd38_0 rfl rfl ?_; (try (refine rl_loadAM (vs := [_, _, _, _]) 1 hM ag29 rfl rfl rfl rfl rfl ?_; (try (refine rl_fld fd38_0 rfl rfl ?_; (try (refine rl_loadAM (vs := [_, _, _, _]) 0 hM ag29 rfl rfl rfl rfl rfl ?_; (try ((refine rl_bsliceM (d := 42) [_, _] hM sl27 rfl rfl rfl rfl rfl (by decide) (by decide) ?_; clear hM; intro w b42 hM); (try (refine rl_build [_, (Value.int .i64 0), (St []), _] ag29 pl29 rfl rfl rfl ?_; (try (refine rl_fld fd38_3 rfl rfl ?_; (try (refine rl_loadM 1 hM vt3 rfl rfl rfl (by first | rfl | assumption) ?_; (try (refine rl_build [_, _, _, _, (Value.slice none 0 0), (Value.slice none 0 0), _, (Value.int .i64 0), (Value.int .i64 0)] ag38 pl38 rfl rfl rfl ?_; (try ((refine rl_storeWM 2 hM ag38 rfl rfl rfl rfl rfl rfl rfl ?_; clear hM; intro w hM)))))))))))))))))))))) | (refine region_ (id := 10) ?_; (try (refine rl_move (v := (Value.slice _ _ _ : Value)) rfl rfl ?_; (try (refine rl_fld fd38_3 rfl rfl ?_; (try (refine rl_loadM 2 hM vt3 rfl rfl rfl (by first | rfl | assumption) ?_; (try ((refine rl_idx sl47 rfl rfl rfl rfl ?_ ?_ ?_; omega; omega); (try (refine rl_loadAV hM ag73 rfl rfl (by assumption) (by rfl) ?_))))))))))) | (refine rl_storeWM 0 hM ag38 rfl rfl rfl rfl rfl rfl rfl ?_; clear hM; intro w hM) | (refine rl_allocAM (d := 9) hM ag38 rfl ?_; clear hM; intro w b9 hM)))
        refine rl_callf fn44 (rbegins_ok u w0 w _ V3 hM) rfl rfl ?_
        clear hM
        rintro _ w ⟨rfl, hM⟩
        (repeat (first | refine rl_nil ?_ | refine inBlock_normal ?_ | refine rl_assign (v := (Value.bool _ : Value)) rfl rfl ?_))
        have hM : Mem w0 w (.blk b42 ([.int .i64 f1, .int .i64 n1, St s1, .slice a1 k1 c1] ++ [.int .i64 f2, .int .i64 n2, St s2, .slice a2 k2 c2]) 29 :: .blk b9 (x9 f2 n2 s2 (.slice a2 k2 c2) k 0 0) 38 :: .blk b7 (x9 4 0 [] (.slice (some ⟨b42, 0, none⟩) 2 2) k 0 0) 38 :: .blk b6 z9 38 :: L) V3 := hM
        obtain ⟨V4, hV4, hM2, hcell⟩ := hM.freezeBlk
        exact kq_normal (hL0 (l.length - k) _ _ (by omega) (by (repeat (first | with_reducible exact Agree.ov | with_reducible exact Agree.refl _ _ | refine Agree.upd rfl ?_ | refine Agree.ovs rfl ?_))) ⟨k, u, .app x y, V4, 4, 0, [], some ⟨b42, 0, none⟩, 2, 2, rfl, hu, hV2.trans (hV3.trans hV4), tyV_app ((hc.le hV3).le hV4) (hcy.le hV4) (by decide) (by unfold maxLen; omega) hcell, hk, hM2.dropn 1, rfl, g, hg1.trans (rd_more ht hb hy), by omega, by omega⟩)
      · (repeat (first | refine seq_ ?_ | refine sq_normal ?_ | refine sq_ret ?_ | refine rl_nil ?_ | refine cond_t rfl ?_ | refine ret_ ?_ | refine inBlock_ret ?_ | refine kq_ret ?_ | (refine region_ (id := 7) ?_; (try (refine rl_fld fd38_4 rfl rfl ?_; (try (refine rl_fld fd34_0 rfl rfl ?_; (try (refine rl_loadM 0 hM vt32 rfl rfl rfl (by first | rfl | assumption) ?_; (try ((refine rl_neq_t rfl rfl rfl ?_ ?_; omega)))))))))) | (refine region_ (id := 8) ?_; (try (refine rl_loadAM (vs := [_, _, _, _, _, _, _, _, _]) 0 hM ag38 rfl rfl rfl rfl rfl ?_; (try ((refine rl_storeWM 2 hM ag38 rfl rfl rfl rfl rfl rfl rfl ?_; clear hM; intro w hM)))))) | (refine rl_storeWM 0 hM ag38 rfl rfl rfl rfl rfl rfl rfl ?_; clear hM; intro w hM) | (refine rl_allocAM (d := 9) hM ag38 rfl ?_; clear hM; intro w b9 hM)))
        exact bp_x1 rfl rfl (res_M 2 hM ag38 rfl rfl rfl) (.inr ⟨V3, e, a, hV2.trans hV3, hM.dropn 3, rfl, hg1.trans (rd_moreE ht hb hy), he⟩)
    | false =>
      (repeat (first | refine seq_ ?_ | refine sq_normal ?_ | refine sq_exit ?_ | refine rl_nil ?_ | refine cond_f rfl ?_ | refine exit_ ?_ | refine inBlock_exit ?_ | refine kq_exit ?_ | (refine region_ (id := 5) ?_; (try (refine rl_move (v := (Value.bool _ : Value)) rfl rfl ?_))) | (refine region_ (id := 11) ?_; (try (refine rl_move (v := (Value.slice _ _ _ : Value)) rfl rfl ?_; (try (refine rl_fld fd38_3 rfl rfl ?_; (try (refine rl_loadM 0 hM vt3 rfl rfl rfl (by first | rfl | assumption) ?_; (try ((refine rl_idx sl47 rfl rfl rfl rfl ?_ ?_ ?_; omega; omega); (try (refine rl_loadAV hM ag73 rfl rfl (by assumption) (by rfl) ?_)))))))))))))
      refine rl_callf fn45 (ris_ok t Ty.arrow w0 w _ V2 hM) rfl rfl ?_
      clear hM
      rintro _ w ⟨rfl, hM⟩
      cases hs : sym Ty.arrow t with
      | false =>
        (repeat (first | refine seq_ ?_ | refine sq_normal ?_ | refine sq_ret ?_ | refine rl_nil ?_ | refine cond_t rfl ?_ | refine ret_ ?_ | (refine region_ (id := 12) ?_; (try (refine rl_move (v := (Value.bool _ : Value)) rfl rfl ?_; (try (refine rl_not rfl rfl ?_))))) | (refine region_ (id := 13) ?_; (try (refine rl_loadAM (vs := [_, _, _, _, _, _, _, _, _]) 0 hM ag38 rfl rfl rfl rfl rfl ?_; (try ((refine rl_storeWM 1 hM ag38 rfl rfl rfl rfl rfl rfl rfl ?_; clear hM; intro w hM)))))) | refine rl_assign (v := (Value.bool _ : Value)) rfl rfl ?_))
        exact bp_x1 rfl rfl (res_M 1 hM ag38 rfl rfl rfl) (.inl ⟨V2, [.int .i64 f1, .int .i64 n1, St s1, .slice a1 k1 c1], x, j, hV2, hM.dropn 2, rfl, hg1.trans (rd_end ht hb hs), hc, hj⟩)
      | true =>
        obtain ⟨hn4, hkI, hnI, haI, hsl⟩ := hT.sane t (List.mem_of_getElem? ht)
        have hk4 := sym_k hs
        have hmore := hT.more j t ht (by omega)
        (repeat (first | refine seq_ ?_ | refine sq_normal ?_ | refine rl_nil ?_ | refine cond_f rfl ?_ | refine skip_ ?_ | (refine region_ (id := 12) ?_; (try (refine rl_move (v := (Value.bool _ : Value)) rfl rfl ?_; (try (refine rl_not rfl rfl ?_))))) | (refine region_ (id := 14) ?_; (try (refine rl_move (v := (Value.slice _ _ _ : Value)) rfl rfl ?_; (try (refine rl_fld fd38_3 rfl rfl ?_; (try (refine rl_loadM 0 hM vt3 rfl rfl rfl (by first | rfl | assumption) ?_; (try ((refine rl_add rfl rfl rfl ?_ ?_ ?_; omega; omega); (try (refine rl_move (v := (Value.int _ _ : Value)) rfl rfl ?_))))))))))) | refine rl_assign (v := (Value.bool _ : Value)) rfl rfl ?_))
        refine rl_callf fn17 ((ih g (by omega)).2 l (j + 1) op _ w0 w _ V2 hM (hl.le hV2) hT hmore ho (by omega)) rfl rfl ?_
        clear hM
        rintro _ w hres
        rcases hres with ⟨V3, ys, y, k, hV3, hM, rfl, hx, hy, hk⟩ | ⟨V3, e, a, hV3, hM, rfl, hx, he⟩
        · obtain ⟨f2, n2, s2, a2, k2, c2, rfl, _⟩ := id hy.shape
          (repeat (first | refine seq_ ?_ | refine sq_normal ?_ | refine rl_nil ?_ | refine cond_f rfl ?_ | refine skip_ ?_ | (refine region_ (id := 15) ?_; (try (refine rl_fld fd38_4 rfl rfl ?_; (try (refine rl_fld fd34_0 rfl rfl ?_; (try (refine rl_loadM 0 hM vt32 rfl rfl rfl (by first | rfl | assumption) ?_; (try ((refine rl_neq_f rfl rfl rfl ?_ ?_; omega)))))))))) | (refine rl_storeWM 0 hM ag38 rfl rfl rfl rfl rfl rfl rfl ?_; clear hM; intro w hM) | (refine rl_allocAM (d := 11) hM ag38 rfl ?_; clear hM; intro w b11 hM)))
          (refine drawnM_ 8 [(0, false), (1, false), (2, false), (3, false), (5, false), (6, false), (4, true), (7, false)] (fun w => Mem w0 w _ _) hM mo (by kernel_rfl) (fun _ h => h) ?_; clear hM; intro w hM; (try (refine rx_fld rfl fd38_0 rfl rfl ?_; (try (refine rx_loadAM (vs := [_, _, _, _]) 1 rfl (fun _ h => h) ag29 rfl rfl rfl rfl rfl ?_; (try (refine rx_fld rfl fd38_0 rfl rfl ?_; (try (refine rx_loadAM (vs := [_, _, _, _]) 0 rfl (fun _ h => h) ag29 rfl rfl rfl rfl rfl ?_; (try (refine rx_fld rfl fd38_3 rfl rfl ?_; (try (refine rx_loadM 0 rfl (fun _ h => h) vt3 rfl rfl rfl (by first | rfl | assumption) ?_)))))))))))))
          refine rx_eff rfl (fun K hK => ?_)
          refine rl_callf fn46 (rfun_ok x y [.int .i64 f1, .int .i64 n1, St s1, .slice a1 k1 c1] [.int .i64 f2, .int .i64 n2, St s2, .slice a2 k2 c2] w0 w _ V3 hM (hc.le hV3) hy) rfl rfl ?_
          clear hM
          rintro _ w ⟨V4, zs, hV4, hM, rfl, hz⟩
          obtain ⟨f3, n3, s3, a3, k3, c3, rfl, _⟩ := id hz.shape
          refine rl_nil (kq_normal (hK _ _ (hM.le hV4) ?_))
          (try (refine rx_build [_, _, _, _, (Value.slice none 0 0), (Value.slice none 0 0), _, (Value.int .i64 0), (Value.int .i64 0)] rfl ag38 pl38 rfl rfl rfl ?_))
          refine rx_nil rfl ?_
          (repeat (first | refine sq_normal ?_ | refine rl_nil ?_ | refine ret_ ?_ | refine np_normal ?_ | (refine rl_storeWM 2 hM ag38 rfl rfl rfl rfl rfl rfl rfl ?_; clear hM; intro w hM)))
          exact bp_x1 rfl rfl (res_M 2 hM ag38 rfl rfl rfl) (.inl ⟨V4, [.int .i64 f3, .int .i64 n3, St s3, .slice a3 k3 c3], _, k, hV2.trans (hV3.trans hV4), hM.dropn 3, rfl, hg1.trans (rd_fn ht hb hs hx), hz, hk⟩)
        · (repeat (first | refine seq_ ?_ | refine sq_normal ?_ | refine sq_ret ?_ | refine rl_nil ?_ | refine cond_t rfl ?_ | refine ret_ ?_ | (refine region_ (id := 15) ?_; (try (refine rl_fld fd38_4 rfl rfl ?_; (try (refine rl_fld fd34_0 rfl rfl ?_; (try (refine rl_loadM 0 hM vt32 rfl rfl rfl (by first | rfl | assumption) ?_; (try ((refine rl_neq_t rfl rfl rfl ?_ ?_; omega)))))))))) | (refine region_ (id := 16) ?_; (try (refine rl_loadAM (vs := [_, _, _, _, _, _, _, _, _]) 0 hM ag38 rfl rfl rfl rfl rfl ?_; (try ((refine rl_storeWM 2 hM ag38 rfl rfl rfl rfl rfl rfl rfl ?_; clear hM; intro w hM)))))) | (refine rl_storeWM 0 hM ag38 rfl rfl rfl rfl rfl rfl rfl ?_; clear hM; intro w hM) | (refine rl_allocAM (d := 11) hM ag38 rfl ?_; clear hM; intro w b11 hM)))
          exact bp_x1 rfl rfl (res_M 2 hM ag38 rfl rfl rfl) (.inr ⟨V3, e, a, hV2.trans hV3, hM.dropn 3, rfl, hg1.trans (rd_fnE ht hb hs hx), he⟩)
  · (repeat (first | refine seq_ ?_ | refine sq_normal ?_ | refine sq_ret ?_ | refine rl_nil ?_ | refine cond_t rfl ?_ | refine ret_ ?_ | (refine region_ (id := 2) ?_; (try (refine rl_fld fd38_4 rfl rfl ?_; (try (refine rl_fld fd34_0 rfl rfl ?_; (try (refine rl_loadM 0 hM vt32 rfl rfl rfl (by first | rfl | assumption) ?_; (try ((refine rl_neq_t rfl rfl rfl ?_ ?_; omega)))))))))) | (refine region_ (id := 3) ?_; (try (refine rl_loadAM (vs := [_, _, _, _, _, _, _, _, _]) 0 hM ag38 rfl rfl rfl rfl rfl ?_; (try ((refine rl_storeWM 1 hM ag38 rfl rfl rfl rfl rfl rfl rfl ?_; clear hM; intro w hM)))))) | (refine rl_allocAM (d := 7) hM ag38 rfl ?_; clear hM; intro w b7 hM) | (refine rl_storeWM 0 hM ag38 rfl rfl rfl rfl rfl rfl rfl ?_; clear hM; intro w hM)))
    exact bp_x1 rfl rfl (res_M 1 hM ag38 rfl rfl rfl) (.inr ⟨V1, e, a, hV1, hM.dropn 2, rfl, rd_wholeE hx, he⟩)
theorem rboth_ok : ∀ N f, f ≤ N → RAtomC f ∧ RTypeC f
  | 0, f, h => by
    have : f = 0 := by omega
    subst this
    exact ⟨fun l i op v w0 w L V hM hl hT hi ho hf => by omega, fun l i op v w0 w L V hM hl hT hi ho hf => by omega⟩
  | N + 1, f, h => by
    rcases Nat.lt_or_ge N f with h1 | h1
    · have : f = N + 1 := by omega
      subst this
      exact ⟨ratom_ok N (rboth_ok N N (Nat.le_refl _)).2, rtype_ok N (fun g hg => rboth_ok N g hg)⟩
    · exact rboth_ok N f h1
end Go.Proofs.Ytadbinckjmdokaa.Trd
