/- The walks of fugueref04.Plain, fugueref05.good, Good. -/
import Derived.Test.YtadbinckjmdokaaDoorDrdW20
set_option linter.unusedVariables false
set_option linter.unusedSimpArgs false
namespace Go.Tr
open Go Go.Lx Go.Eng
/-- A type in which those that have no print that is read are other ones. -/
def GoodOf (t u : Ty) : Prop := Gd u ∧ sz u ≤ sz t ∧ u.ht ≤ t.ht
theorem lfs_fn {f n : Int} {s : B} {a b : Ty} (h : Lfs (.app (.app (.lf f n s) a) b)) : Lfs a ∧ Lfs b := ⟨h.1.2, h.2⟩
end Go.Tr
namespace Go.Proofs.YtadbinckjmdokaaDoor.Trd
open Go Go.Eng Go.RowKit Go.Tr Go.Lx
attribute [local irreducible] RL RX KQ SQ Exit.inBlock Exit.then BP NP CallsOk IsSl IsRows IsInts IsBools Own Blk Code.wp Calls wpList
theorem plainT_ok (v : Value) (xs : List Int) (w0 w : World) (L : List Ent) (V : Vw) (hM : Mem w0 w L V) (hx : IsInts V v xs) :
    CallsOk Tryd.prog 16 #[v] w fun r w' => ∃ V' cs t, VLe V V' ∧ Mem w0 w' L V' ∧ r = .agg cs.toArray ∧ TyV V' t cs ∧ Bd 5 t := by
  obtain ⟨a, c, b, off, rfl, h1, h2, h3, h4⟩ := id hx.open
  refine enter_ (N := 12) Tryd.func16 rfl rfl rfl ?_
  (repeat (first | refine seq_ ?_ | refine sq_normal ?_ | refine rl_nil ?_ | (refine region_ (id := 0) ?_; (try ((refine rl_allocAM (d := 2) hM ag26 rfl ?_; clear hM; intro w b2 hM)))) | (refine region_ (id := 1) ?_; (try (refine rl_move (v := (Value.slice _ _ _ : Value)) rfl rfl ?_)))))
  refine rl_callf fn30 (ints_ok w0 w _ V _ xs 24 hM (by omega) (by omega) hx) rfl rfl ?_
  clear hM
  rintro _ w ⟨V1, hV1, hM, hy⟩
  obtain ⟨ya, yc, yb, yo, rfl, _⟩ := id hy.open
  skip
  refine rl_callf fn29 (build_ok 5 0 rfl _ _ w0 w _ V1 hM hy) rfl rfl ?_
  clear hM
  rintro _ w ⟨V2, cs, t, v2, ys, hV2, hM, rfl, hc, hb, hy2⟩
  obtain ⟨f1, n1, s1, a1, k1, c1, rfl, _⟩ := id hc.shape
  obtain ⟨ya2, yc2, yb2, yo2, rfl, _⟩ := id hy2.open
  (repeat (first | refine seq_ ?_ | refine sq_normal ?_ | refine rl_nil ?_ | refine ret_ ?_ | (refine region_ (id := 2) ?_; (try (refine rl_loadAM (vs := [_, _, _, _]) 0 hM ag26 rfl rfl rfl rfl rfl ?_; (try ((refine rl_storeWM 1 hM ag26 rfl rfl rfl rfl rfl rfl rfl ?_; clear hM; intro w hM)))))) | refine rl_move (v := (Value.tuple _ : Value)) rfl rfl ?_ | refine rl_extract rfl rfl rfl ?_ | (refine rl_allocAM (d := 3) hM ag26 rfl ?_; clear hM; intro w b3 hM) | (refine rl_storeWM 0 hM ag26 rfl rfl rfl rfl rfl rfl rfl ?_; clear hM; intro w hM) | refine rl_assign (v := (Value.slice _ _ _ : Value)) rfl rfl ?_))
  exact bp_x1 rfl rfl (res_M 1 hM ag26 rfl rfl rfl) ⟨V2, _, t, hV1.trans hV2, hM.dropn 2, rfl, hc, hb⟩
set_option maxRecDepth 4000 in
set_option maxHeartbeats 8000000 in
theorem good_ok : ∀ (N : Nat) (t : Ty) (cs : List Value), t.ht < N → Lfs t → ∀ (w0 w : World) (L : List Ent) (V : Vw), Mem w0 w L V → TyV V t cs →
    CallsOk Tryd.prog 15 #[.agg cs.toArray] w fun r w' => ∃ V' ds u, VLe V V' ∧ Mem w0 w' L V' ∧ r = .agg ds.toArray ∧ TyV V' u ds ∧ GoodOf t u := by
  intro N
  induction N with
  | zero => intro t cs hN; omega
  | succ N ih =>
  intro t cs hN hlf w0 w L V hM ht
  have hml := maxLen_le
  refine enter_ (N := 48) Tryd.func15 rfl rfl rfl ?_
  rcases isFn_cases t with ⟨f, n, s, rfl⟩ | ⟨f, n, s, a, b, rfl, hfn⟩ | ⟨x, y, rfl, hfn⟩
  · obtain ⟨ka, kc, rfl, hc, hf1, hf2, _⟩ := id ht
    (repeat (first | refine seq_ ?_ | refine sq_normal ?_ | refine rl_nil ?_ | (refine region_ (id := 0) ?_; (try ((refine rl_boxAM (d := 1) hM rfl rfl ?_; clear hM; intro w b1 hM); (try ((refine rl_allocAM (d := 2) hM ag26 rfl ?_; clear hM; intro w b2 hM)))))) | (refine region_ (id := 1) ?_; (try (refine rl_loadAM (vs := [_, _, _, _]) 1 hM ag26 rfl rfl rfl rfl rfl ?_)))))
    refine rl_callf fn27 (function_ok _ _ w0 w _ V hM ht) rfl rfl ?_
    clear hM
    rintro _ w ⟨rfl, hM⟩
    simp only [isFn]
    rcases hlf with ⟨rfl, h0, h4, rfl⟩ | ⟨rfl, rfl, hs⟩ | ⟨rfl, rfl, hs⟩
    · (repeat (first | refine seq_ ?_ | refine sq_normal ?_ | refine sq_ret ?_ | refine rl_nil ?_ | refine cond_t rfl ?_ | refine cond_f rfl ?_ | refine skip_ ?_ | refine ret_ ?_ | refine block_ ?_ | refine inBlock_ret ?_ | (refine region_ (id := 2) ?_; (try (refine rl_move (v := (Value.bool _ : Value)) rfl rfl ?_))) | (refine region_ (id := 4) ?_; (try (refine rl_fld fd26_0 rfl rfl ?_; (try (refine rl_loadM 1 hM vt3 rfl rfl rfl (by first | rfl | assumption) ?_))))) | (refine region_ (id := 5) ?_; (try ((refine rl_eql_t rfl rfl rfl ?_ ?_; omega); (try (refine rl_assign (v := (Value.bool _ : Value)) rfl rfl ?_))))) | (refine region_ (id := 6) ?_; (try (refine rl_build [_, (Value.int .i64 0), _, (Value.slice none 0 0)] ag26 pl26 rfl rfl rfl ?_; (try ((refine rl_storeWM 0 hM ag26 rfl rfl rfl rfl rfl rfl rfl ?_; clear hM; intro w hM)))))) | refine rl_assign (v := (Value.bool _ : Value)) rfl rfl ?_))
      exact bp_x1 rfl rfl (res_M 0 hM ag26 rfl rfl rfl) ⟨V, _, .lf 2 0 [109], VLe.refl _, hM.dropn 2, rfl, TyV.hlf (by decide) (by decide) i64z (by decide), .var (by decide), Nat.le_refl _, Nat.le_refl _⟩
    · (repeat (first | refine seq_ ?_ | refine sq_normal ?_ | refine rl_nil ?_ | refine cond_f rfl ?_ | refine skip_ ?_ | refine ret_ ?_ | refine block_ ?_ | refine inBlock_normal ?_ | (refine region_ (id := 2) ?_; (try (refine rl_move (v := (Value.bool _ : Value)) rfl rfl ?_))) | (refine region_ (id := 4) ?_; (try (refine rl_fld fd26_0 rfl rfl ?_; (try (refine rl_loadM 1 hM vt3 rfl rfl rfl (by first | rfl | assumption) ?_))))) | (refine region_ (id := 5) ?_; (try ((refine rl_eql_f rfl rfl rfl ?_ ?_; omega); (try (refine rl_assign (v := (Value.bool _ : Value)) rfl rfl ?_))))) | (refine region_ (id := 7) ?_; (try ((refine rl_eql_f rfl rfl rfl ?_ ?_; omega); (try (refine rl_assign (v := (Value.bool _ : Value)) rfl rfl ?_))))) | (refine region_ (id := 11) ?_; (try ((refine rl_eql_f rfl rfl rfl ?_ ?_; omega); (try (refine rl_assign (v := (Value.bool _ : Value)) rfl rfl ?_))))) | (refine region_ (id := 13) ?_; (try (refine rl_loadAM (vs := [_, _, _, _]) 1 hM ag26 rfl rfl rfl rfl rfl ?_; (try ((refine rl_storeWM 0 hM ag26 rfl rfl rfl rfl rfl rfl rfl ?_; clear hM; intro w hM)))))) | refine rl_assign (v := (Value.bool _ : Value)) rfl rfl ?_))
      exact bp_x1 rfl rfl (res_M 0 hM ag26 rfl rfl rfl) ⟨V, _, .lf 2 0 s, VLe.refl _, hM.dropn 2, rfl, ht, .var (names_sub hs), Nat.le_refl _, Nat.le_refl _⟩
    · by_cases ha : s = [45, 62]
      · subst ha
        (repeat (first | refine seq_ ?_ | refine sq_normal ?_ | refine sq_ret ?_ | refine rl_nil ?_ | refine cond_t rfl ?_ | refine cond_f rfl ?_ | refine skip_ ?_ | refine ret_ ?_ | refine block_ ?_ | refine inBlock_ret ?_ | (refine region_ (id := 2) ?_; (try (refine rl_move (v := (Value.bool _ : Value)) rfl rfl ?_))) | (refine region_ (id := 4) ?_; (try (refine rl_fld fd26_0 rfl rfl ?_; (try (refine rl_loadM 1 hM vt3 rfl rfl rfl (by first | rfl | assumption) ?_))))) | (refine region_ (id := 5) ?_; (try ((refine rl_eql_f rfl rfl rfl ?_ ?_; omega); (try (refine rl_assign (v := (Value.bool _ : Value)) rfl rfl ?_))))) | (refine region_ (id := 7) ?_; (try ((refine rl_eql_t rfl rfl rfl ?_ ?_; omega); (try (refine rl_assign (v := (Value.bool _ : Value)) rfl rfl ?_))))) | (refine region_ (id := 8) ?_; (try (refine rl_fld fd26_2 rfl rfl ?_; (try (refine rl_loadM 1 hM vt9 rfl rfl rfl (by first | rfl | assumption) ?_; (try (refine rl_seql_t rfl rfl rfl (by first | rfl | assumption) ?_))))))) | (refine region_ (id := 9) ?_; (try (refine rl_build [_, (Value.int .i64 0), _, (Value.slice none 0 0)] ag26 pl26 rfl rfl rfl ?_; (try ((refine rl_storeWM 0 hM ag26 rfl rfl rfl rfl rfl rfl rfl ?_; clear hM; intro w hM)))))) | refine rl_assign (v := (Value.bool _ : Value)) rfl rfl ?_))
        exact bp_x1 rfl rfl (res_M 0 hM ag26 rfl rfl rfl) ⟨V, _, .lf 3 0 [70, 117, 110], VLe.refl _, hM.dropn 2, rfl, TyV.hlf (by decide) (by decide) i64z (by decide), .con (by decide), Nat.le_refl _, Nat.le_refl _⟩
      · (repeat (first | refine seq_ ?_ | refine sq_normal ?_ | refine sq_ret ?_ | refine rl_nil ?_ | refine cond_t rfl ?_ | refine cond_f rfl ?_ | refine skip_ ?_ | refine ret_ ?_ | refine block_ ?_ | refine inBlock_ret ?_ | (refine region_ (id := 2) ?_; (try (refine rl_move (v := (Value.bool _ : Value)) rfl rfl ?_))) | (refine region_ (id := 4) ?_; (try (refine rl_fld fd26_0 rfl rfl ?_; (try (refine rl_loadM 1 hM vt3 rfl rfl rfl (by first | rfl | assumption) ?_))))) | (refine region_ (id := 5) ?_; (try ((refine rl_eql_f rfl rfl rfl ?_ ?_; omega); (try (refine rl_assign (v := (Value.bool _ : Value)) rfl rfl ?_))))) | (refine region_ (id := 7) ?_; (try ((refine rl_eql_t rfl rfl rfl ?_ ?_; omega); (try (refine rl_assign (v := (Value.bool _ : Value)) rfl rfl ?_))))) | (refine region_ (id := 8) ?_; (try (refine rl_fld fd26_2 rfl rfl ?_; (try (refine rl_loadM 1 hM vt9 rfl rfl rfl (by first | rfl | assumption) ?_; (try (refine rl_seql_f rfl rfl rfl (by first | assumption | decide) ?_))))))) | (refine region_ (id := 10) ?_; (try (refine rl_loadAM (vs := [_, _, _, _]) 1 hM ag26 rfl rfl rfl rfl rfl ?_; (try ((refine rl_storeWM 0 hM ag26 rfl rfl rfl rfl rfl rfl rfl ?_; clear hM; intro w hM)))))) | refine rl_assign (v := (Value.bool _ : Value)) rfl rfl ?_))
        exact bp_x1 rfl rfl (res_M 0 hM ag26 rfl rfl rfl) ⟨V, _, .lf 3 0 s, VLe.refl _, hM.dropn 2, rfl, ht, .con (cons_sub hs ha), Nat.le_refl _, Nat.le_refl _⟩
  · obtain ⟨bb, off, c, xs, ys, rfl, h2, h3, h4, h5, h6, h7⟩ := id ht
    obtain ⟨b', off', c', us, vs, rfl, q2, q3, q4, q5, q6, q7⟩ := id h6
    obtain ⟨fa, na, sa, aa, ka, ca, rfl, _⟩ := id q7.shape
    obtain ⟨fb, nb, sb, ab, kb, cb, rfl, _⟩ := id h7.shape
    have hr3 : V ⟨bb, off + 0 * 4 + 3, none⟩ = some (.slice (some ⟨b', off', none⟩) 2 c') := h4 3 _ rfl
    have hta : a.ht < N := by simp only [Ty.ht] at hN; omega
    have htb : b.ht < N := by simp only [Ty.ht] at hN; omega
    (repeat (first | refine seq_ ?_ | refine sq_normal ?_ | refine rl_nil ?_ | (refine region_ (id := 0) ?_; (try ((refine rl_boxAM (d := 1) hM rfl rfl ?_; clear hM; intro w b1 hM); (try ((refine rl_allocAM (d := 2) hM ag26 rfl ?_; clear hM; intro w b2 hM)))))) | (refine region_ (id := 1) ?_; (try (refine rl_loadAM (vs := [_, _, _, _]) 1 hM ag26 rfl rfl rfl rfl rfl ?_)))))
    refine rl_callf fn27 (function_ok _ _ w0 w _ V hM ht) rfl rfl ?_
    clear hM
    rintro _ w ⟨rfl, hM⟩
    rw [hfn]
    (repeat (first | refine seq_ ?_ | refine sq_normal ?_ | refine rl_nil ?_ | refine cond_t rfl ?_ | (refine region_ (id := 2) ?_; (try (refine rl_move (v := (Value.bool _ : Value)) rfl rfl ?_))) | refine rl_assign (v := (Value.bool _ : Value)) rfl rfl ?_))
    (refine drawnM_ 14 [(0, false), (1, false), (2, false), (3, false), (4, false), (5, false), (6, false), (8, false), (9, false), (10, false), (11, false), (7, true), (12, true), (13, true)] (fun w => Mem w0 w _ _) hM mo (by kernel_rfl) (fun _ h => h) ?_; clear hM; intro w hM; (try (refine rx_fld rfl fd26_3 rfl rfl ?_; (try (refine rx_loadM 1 rfl (fun _ h => h) vt24 rfl rfl rfl (by first | rfl | assumption) ?_; (try ((refine rx_idx rfl sl24 rfl rfl rfl rfl ?_ ?_ ?_; omega; omega); (try (refine rx_fld rfl fd26_3 rfl rfl ?_; (try (refine rx_loadV rfl (fun _ h => h) vt24 rfl rfl (by first | assumption | exact VRow.get (by assumption) rfl | exact VRow.get0 (by assumption) rfl) ?_; (try ((refine rx_idx rfl sl24 rfl rfl rfl rfl ?_ ?_ ?_; omega; omega); (try (refine rx_loadAV rfl (fun _ h => h) ag26 rfl rfl (by assumption) (by rfl) ?_; (try (refine rx_fld rfl fd26_3 rfl rfl ?_; (try (refine rx_loadM 1 rfl (fun _ h => h) vt24 rfl rfl rfl (by first | rfl | assumption) ?_; (try ((refine rx_idx rfl sl24 rfl rfl rfl rfl ?_ ?_ ?_; omega; omega); (try (refine rx_loadAV rfl (fun _ h => h) ag26 rfl rfl (by assumption) (by rfl) ?_)))))))))))))))))))))))
    refine rx_eff rfl (fun K hK => ?_)
    refine rl_callf fn15 (ih a _ hta (lfs_fn hlf).1 w0 w _ V hM q7) rfl rfl ?_
    clear hM
    rintro _ w ⟨V1, ds1, u1, hV1, hM, rfl, hd1, hg1⟩
    refine rl_nil (kq_normal (hK _ _ (hM.le hV1) ?_))
    refine rx_eff rfl (fun K hK => ?_)
    refine rl_callf fn15 (ih b _ htb (lfs_fn hlf).2 w0 w _ V1 hM (h7.le hV1)) rfl rfl ?_
    clear hM
    rintro _ w ⟨V2, ds2, u2, hV2, hM, rfl, hd2, hg2⟩
    refine rl_nil (kq_normal (hK _ _ (hM.le (hV1.trans hV2)) ?_))
    refine rx_eff rfl (fun K hK => ?_)
    refine rl_callf fn28 (rfun_ok u1 u2 _ _ w0 w _ V2 hM (hd1.le hV2) hd2) rfl rfl ?_
    clear hM
    rintro _ w ⟨V3, ds3, hV3, hM, rfl, hd3⟩
    obtain ⟨f3, n3, s3, a3, k3, c3, rfl, _⟩ := id hd3.shape
    refine rl_nil (kq_normal (hK _ _ (hM.le (hV1.trans (hV2.trans hV3))) ?_))
    refine rx_nil rfl ?_
    (repeat (first | refine sq_normal ?_ | refine sq_ret ?_ | refine rl_nil ?_ | refine ret_ ?_ | refine np_normal ?_ | (refine rl_storeWM 0 hM ag26 rfl rfl rfl rfl rfl rfl rfl ?_; clear hM; intro w hM)))
    refine bp_x1 rfl rfl (res_M 0 hM ag26 rfl rfl rfl) ⟨V3, _, .fn u1 u2, hV1.trans (hV2.trans hV3), hM.dropn 2, rfl, hd3, .fn hg1.1 hg2.1, ?_, ?_⟩
    · have e1 := hg1.2.1
      have e2 := hg2.2.1
      simp only [sz]; omega
    · have e1 := hg1.2.2
      have e2 := hg2.2.2
      simp only [Ty.ht]; omega
  · obtain ⟨bb, off, c, xs, ys, rfl, h2, h3, h4, h5, h6, h7⟩ := id ht
    obtain ⟨va, rfl, hva, hfa1, hfa2, _⟩ := id h6.open
    obtain ⟨_, _, _, _, rfl, _⟩ := hva
    obtain ⟨vb, rfl, hvb, hfb1, hfb2, _⟩ := id h7.open
    obtain ⟨_, _, _, _, rfl, _⟩ := hvb
    have htx : x.ht < N := by simp only [Ty.ht] at hN; omega
    have hty : y.ht < N := by simp only [Ty.ht] at hN; omega
    (repeat (first | refine seq_ ?_ | refine sq_normal ?_ | refine rl_nil ?_ | (refine region_ (id := 0) ?_; (try ((refine rl_boxAM (d := 1) hM rfl rfl ?_; clear hM; intro w b1 hM); (try ((refine rl_allocAM (d := 2) hM ag26 rfl ?_; clear hM; intro w b2 hM)))))) | (refine region_ (id := 1) ?_; (try (refine rl_loadAM (vs := [_, _, _, _]) 1 hM ag26 rfl rfl rfl rfl rfl ?_)))))
    refine rl_callf fn27 (function_ok _ _ w0 w _ V hM ht) rfl rfl ?_
    clear hM
    rintro _ w ⟨rfl, hM⟩
    rw [hfn]
    (repeat (first | refine seq_ ?_ | refine sq_normal ?_ | refine rl_nil ?_ | refine cond_t rfl ?_ | refine cond_f rfl ?_ | refine skip_ ?_ | refine block_ ?_ | (refine region_ (id := 2) ?_; (try (refine rl_move (v := (Value.bool _ : Value)) rfl rfl ?_))) | (refine region_ (id := 4) ?_; (try (refine rl_fld fd26_0 rfl rfl ?_; (try (refine rl_loadM 1 hM vt3 rfl rfl rfl (by first | rfl | assumption) ?_))))) | (refine region_ (id := 5) ?_; (try ((refine rl_eql_f rfl rfl rfl ?_ ?_; omega); (try (refine rl_assign (v := (Value.bool _ : Value)) rfl rfl ?_))))) | (refine region_ (id := 7) ?_; (try ((refine rl_eql_f rfl rfl rfl ?_ ?_; omega); (try (refine rl_assign (v := (Value.bool _ : Value)) rfl rfl ?_))))) | (refine region_ (id := 11) ?_; (try ((refine rl_eql_t rfl rfl rfl ?_ ?_; omega); (try (refine rl_assign (v := (Value.bool _ : Value)) rfl rfl ?_))))) | refine rl_assign (v := (Value.bool _ : Value)) rfl rfl ?_))
    (refine drawnM_ 12 [(0, false), (1, false), (2, false), (3, false), (5, false), (6, false), (7, false), (8, false), (4, true), (9, true), (10, true), (11, false)] (fun w => Mem w0 w _ _) hM mo (by kernel_rfl) (fun _ h => h) ?_; clear hM; intro w hM; (try (refine rx_fld rfl fd26_3 rfl rfl ?_; (try (refine rx_loadM 1 rfl (fun _ h => h) vt24 rfl rfl rfl (by first | rfl | assumption) ?_; (try ((refine rx_idx rfl sl24 rfl rfl rfl rfl ?_ ?_ ?_; omega; omega); (try (refine rx_loadAV rfl (fun _ h => h) ag26 rfl rfl (by assumption) (by rfl) ?_; (try (refine rx_fld rfl fd26_3 rfl rfl ?_; (try (refine rx_loadM 1 rfl (fun _ h => h) vt24 rfl rfl rfl (by first | rfl | assumption) ?_; (try ((refine rx_idx rfl sl24 rfl rfl rfl rfl ?_ ?_ ?_; omega; omega); (try (refine rx_loadAV rfl (fun _ h => h) ag26 rfl rfl (by assumption) (by rfl) ?_)))))))))))))))))
    refine rx_eff rfl (fun K hK => ?_)
    refine rl_callf fn15 (ih x _ htx hlf.1 w0 w _ V hM h6) rfl rfl ?_
    clear hM
    rintro _ w ⟨V1, ds1, u1, hV1, hM, rfl, hd1, hg1⟩
    obtain ⟨f1, n1, s1, a1, k1, c1, rfl, _⟩ := id hd1.shape
    refine rl_nil (kq_normal (hK _ _ (hM.le hV1) ?_))
    refine rx_eff rfl (fun K hK => ?_)
    refine rl_callf fn15 (ih y _ hty hlf.2 w0 w _ V1 hM (h7.le hV1)) rfl rfl ?_
    clear hM
    rintro _ w ⟨V2, ds2, u2, hV2, hM, rfl, hd2, hg2⟩
    obtain ⟨f2, n2, s2, a2, k2, c2, rfl, _⟩ := id hd2.shape
    refine rl_nil (kq_normal (hK _ _ (hM.le (hV1.trans hV2)) ?_))
    refine rx_eff rfl (fun K hK => ?_)
    refine rl_bsliceM (d := 45) [.agg [Value.int .i64 f1, .int .i64 n1, St s1, .slice a1 k1 c1].toArray, .agg [Value.int .i64 f2, .int .i64 n2, St s2, .slice a2 k2 c2].toArray] hM sl24 rfl rfl rfl rfl rfl (by decide) (by decide) ?_
    clear hM
    intro w b45 hM
    refine rl_nil (kq_normal (hK _ _ ((hM.dropn 1).le (hV1.trans hV2)) ?_))
    (try (refine rx_build [_, (Value.int .i64 0), (St []), _] rfl ag26 pl26 rfl rfl rfl ?_))
    refine rx_nil rfl ?_
    (repeat (first | refine sq_normal ?_ | refine sq_ret ?_ | refine rl_nil ?_ | refine ret_ ?_ | refine inBlock_ret ?_ | refine np_normal ?_ | (refine rl_storeWM 1 hM ag26 rfl rfl rfl rfl rfl rfl rfl ?_; clear hM; intro w hM)))
    have hM : Mem w0 w (.blk b45 ([Value.int .i64 f1, .int .i64 n1, St s1, .slice a1 k1 c1] ++ [Value.int .i64 f2, .int .i64 n2, St s2, .slice a2 k2 c2]) 26 :: .blk b2 [.int .i64 4, .int .i64 0, St [], .slice (some ⟨b45, 0, none⟩) 2 2] 26 :: .blk b1 [.int .i64 4, .int .i64 0, St [], .slice (some ⟨bb, off, none⟩) 2 c] 26 :: L) V2 := hM
    obtain ⟨V3, hV3, hM2, hc⟩ := hM.freezeBlk
    refine bp_x1 rfl rfl (res_M 0 hM2 ag26 rfl rfl rfl) ⟨V3, _, .app u1 u2, hV1.trans (hV2.trans hV3), hM2.dropn 2, rfl, tyV_app (hd1.le (hV2.trans hV3)) (hd2.le hV3) (by decide) (by unfold maxLen; omega) hc, .app hg1.1 hg2.1, ?_, ?_⟩
    · have e1 := hg1.2.1
      have e2 := hg2.2.1
      simp only [sz]; omega
    · have e1 := hg1.2.2
      have e2 := hg2.2.2
      simp only [Ty.ht]; omega
/-- What a type made of numbers is: its print is short, and it is read of it. -/
def GoodP (w0 : World) (L : List Ent) (V : Vw) (r : Value) (w' : World) : Prop := ∃ V' cs t, VLe V V' ∧ Mem w0 w' L V' ∧ r = .agg cs.toArray ∧ TyV V' t cs ∧ Gd t ∧ sz t ≤ 125 ∧ t.ht ≤ 10
theorem goodT_ok (v : Value) (xs : List Int) (w0 w : World) (L : List Ent) (V : Vw) (hM : Mem w0 w L V) (hx : IsInts V v xs) : CallsOk Tryd.prog 6 #[v] w (GoodP w0 L V) := by
  obtain ⟨a, c, b, off, rfl, h1, h2, h3, h4⟩ := id hx.open
  refine enter_ (N := 6) Tryd.func6 rfl rfl rfl ?_
  (repeat (first | refine seq_ ?_ | refine sq_normal ?_ | refine rl_nil ?_ | (refine region_ (id := 0) ?_; (try ((refine rl_allocAM (d := 2) hM ag26 rfl ?_; clear hM; intro w b2 hM)))) | (refine region_ (id := 1) ?_; (try (refine rl_move (v := (Value.slice _ _ _ : Value)) rfl rfl ?_)))))
  refine rl_callf fn16 (plainT_ok _ xs w0 w _ V hM hx) rfl rfl ?_
  clear hM
  rintro _ w ⟨V1, cs, t, hV1, hM, rfl, hc, hb⟩
  skip
  refine rl_callf fn15 (good_ok _ t _ (Nat.lt_succ_self _) hb.1 w0 w _ V1 hM hc) rfl rfl ?_
  clear hM
  rintro _ w ⟨V2, ds, u, hV2, hM, rfl, hd, hg⟩
  obtain ⟨f1, n1, s1, a1, k1, c1, rfl, _⟩ := id hd.shape
  (repeat (first | refine sq_normal ?_ | refine rl_nil ?_ | refine ret_ ?_ | (refine rl_storeWM 0 hM ag26 rfl rfl rfl rfl rfl rfl rfl ?_; clear hM; intro w hM)))
  refine bp_x1 rfl rfl (res_M 0 hM ag26 rfl rfl rfl) ⟨V2, _, u, hV1.trans hV2, hM.dropn 1, rfl, hd, hg.1, ?_, ?_⟩
  · have := hb.2.1
    have := hg.2.1
    omega
  · have := hb.2.2
    have := hg.2.2
    omega
end Go.Proofs.YtadbinckjmdokaaDoor.Trd
