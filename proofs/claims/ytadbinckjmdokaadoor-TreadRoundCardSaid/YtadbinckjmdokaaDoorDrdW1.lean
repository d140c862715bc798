/- The walks of types.own, apply, App, Fun, Con, Var. -/
import Derived.Test.YtadbinckjmdokaaDoorTxA
import Derived.Test.YtadbinckjmdokaaDoorTxB
set_option linter.unusedVariables false
set_option linter.unusedSimpArgs false
namespace Go.Proofs.YtadbinckjmdokaaDoor.Trd
open Go Go.Eng Go.RowKit Go.Tr Go.Lx
attribute [local irreducible] RL RX KQ SQ Exit.inBlock Exit.then BP NP CallsOk IsSl IsRows IsInts IsBools Own Blk Code.wp Calls wpList
/-- A type, told. -/
def TyP (w0 : World) (L : List Ent) (V : Vw) (t : Ty) (r : Value) (w' : World) : Prop := ∃ V' cs, VLe V V' ∧ Mem w0 w' L V' ∧ r = .agg cs.toArray ∧ TyV V' t cs
theorem i64z : I64 0 := by unfold I64; omega
theorem TyV.hlf {V : Vw} {f n : Int} {s : B} (h1 : 0 ≤ f) (h2 : f ≤ 3) (h3 : I64 n) (h4 : s.length ≤ 1000000) : TyV V (.lf f n s) [.int .i64 f, .int .i64 n, St s, .slice none 0 0] :=
  ⟨none, 0, rfl, Nat.zero_le _, h1, h2, h3, h4⟩
theorem con_ok (s : List UInt8) (w0 w : World) (L : List Ent) (V : Vw) (hM : Mem w0 w L V) (hs : s.length ≤ 1000000) : CallsOk Tryd.prog 67 #[St s] w (TyP w0 L V (.con s)) := by
  refine enter_ (N := 5) Tryd.func67 rfl rfl rfl ?_
  (repeat (first | refine seq_ ?_ | refine sq_normal ?_ | refine rl_nil ?_ | refine ret_ ?_ | (refine region_ (id := 0) ?_; (try ((refine rl_allocAM (d := 2) hM ag26 rfl ?_; clear hM; intro w b2 hM)))) | (refine region_ (id := 1) ?_; (try (refine rl_move (v := (Value.string _ : Value)) rfl rfl ?_; (try (refine rl_build [_, (Value.int .i64 0), _, (Value.slice none 0 0)] ag26 pl26 rfl rfl rfl ?_; (try ((refine rl_storeWM 0 hM ag26 rfl rfl rfl rfl rfl rfl rfl ?_; clear hM; intro w hM))))))))))
  exact bp_x1 rfl rfl (res_M 0 hM ag26 rfl rfl rfl) ⟨V, _, VLe.refl _, hM.dropn 1, rfl, TyV.hlf (by decide) (by decide) i64z hs⟩
theorem var_ok (s : List UInt8) (w0 w : World) (L : List Ent) (V : Vw) (hM : Mem w0 w L V) (hs : s.length ≤ 1000000) : CallsOk Tryd.prog 68 #[St s] w (TyP w0 L V (.var s)) := by
  refine enter_ (N := 5) Tryd.func68 rfl rfl rfl ?_
  (repeat (first | refine seq_ ?_ | refine sq_normal ?_ | refine rl_nil ?_ | refine ret_ ?_ | (refine region_ (id := 0) ?_; (try ((refine rl_allocAM (d := 2) hM ag26 rfl ?_; clear hM; intro w b2 hM)))) | (refine region_ (id := 1) ?_; (try (refine rl_move (v := (Value.string _ : Value)) rfl rfl ?_; (try (refine rl_build [_, (Value.int .i64 0), _, (Value.slice none 0 0)] ag26 pl26 rfl rfl rfl ?_; (try ((refine rl_storeWM 0 hM ag26 rfl rfl rfl rfl rfl rfl rfl ?_; clear hM; intro w hM))))))))))
  exact bp_x1 rfl rfl (res_M 0 hM ag26 rfl rfl rfl) ⟨V, _, VLe.refl _, hM.dropn 1, rfl, TyV.hlf (by decide) (by decide) i64z hs⟩
set_option maxRecDepth 4000 in
set_option maxHeartbeats 1000000 in
theorem own_ok : ∀ (N : Nat) (t : Ty) (cs : List Value), t.ht < N → ∀ (w0 w : World) (L : List Ent) (V : Vw), Mem w0 w L V → TyV V t cs →
    CallsOk Tryd.prog 69 #[.agg cs.toArray] w (TyP w0 L V t) := by
  intro N
  induction N with
  | zero => intro t cs hN; omega
  | succ N ih =>
  intro t cs hN w0 w L V hM ht
  have hml := maxLen_le
  have hmx : 10000000 ≤ maxLen := by unfold maxLen; omega
  obtain ⟨v1, rfl, hsl, hi1, hi2⟩ := id ht.open
  obtain ⟨ka, kc, kb, ko, rfl, g1, g2, g3, g4⟩ := id hsl
  have hkl := Ty.kids_len t
  refine enter_ (N := 22) Tryd.func69 rfl rfl rfl ?_
  (repeat (first | refine seq_ ?_ | refine sq_normal ?_ | refine rl_nil ?_ | refine block_ ?_ | (refine region_ (id := 0) ?_; (try ((refine rl_boxAM (d := 1) hM rfl rfl ?_; clear hM; intro w b1 hM); (try ((refine rl_allocAM (d := 2) hM ag26 rfl ?_; clear hM; intro w b2 hM)))))) | (refine region_ (id := 1) ?_; (try (refine rl_assign (v := (Value.slice _ _ _ : Value)) rfl rfl ?_))) | (refine region_ (id := 2) ?_; (try (refine rl_fld fd26_3 rfl rfl ?_; (try (refine rl_loadM 1 hM vt24 rfl rfl rfl (by first | rfl | assumption) ?_; (try (refine rl_len sl24 rfl rfl ?_; (try (refine rl_move (v := (Value.int _ _ : Value)) rfl rfl ?_)))))))))))
  have hM := hM.newOwn 26 4
  refine loop2 [(3, 4), (5, 6), (9, 19)] 3 9 (fun m v3 v wr => ∃ (q : Nat) (xs : List Value) (V1 : Vw) (a : Option Addr) (c : Nat), v3 = .slice a q c ∧ v = .int .i64 q ∧ q ≤ t.kids.length ∧ m = t.kids.length - q ∧ VLe V V1 ∧ TysO V1 (t.kids.take q) xs ∧
      Mem w0 wr (.own (.slice a q c) 26 4 q xs :: .blk b2 [.int .i64 0, .int .i64 0, St [], .slice none 0 0] 26 :: .blk b1 [.int .i64 t.form, .int .i64 t.num, St t.name, .slice ka t.kids.length kc] 26 :: L) V1) _
    ⟨0, [], V, none, 0, rfl, rfl, Nat.zero_le _, rfl, VLe.refl _, TysO.nil _, hM⟩ ?_
  clear hM
  rintro m τ v3 v w ⟨q, xs, V1, a, c, rfl, rfl, hq, rfl, hV1, hO, hM⟩ K0 hL0
  by_cases hlt : q < t.kids.length
  · obtain ⟨x, hx⟩ : ∃ x, t.kids[q]? = some x := ⟨_, List.getElem?_eq_getElem hlt⟩
    obtain ⟨ys, hr, hys⟩ := g4 q x hx
    have g3' := g3 (by omega)
    subst g3'
    obtain ⟨f0, n0, s0, a0, k0, c0, rfl, _⟩ := id hys.shape
    have hr := hr.le hV1
    have hxh := Ty.kids_ht (List.mem_of_getElem? hx)
    (repeat (first | refine seq_ ?_ | refine sq_normal ?_ | refine rl_nil ?_ | refine cond_t rfl ?_ | refine skip_ ?_ | refine block_ ?_ | (refine region_ (id := 3) ?_; (try ((refine rl_lss_t rfl rfl rfl ?_ ?_; omega)))) | (refine region_ (id := 4) ?_; (try ((refine rl_idx sl24 rfl rfl rfl rfl ?_ ?_ ?_; omega; omega); (try (refine rl_loadAV hM ag26 rfl rfl (by assumption) (by rfl) ?_; (try ((refine rl_allocAM (d := 5) hM ag26 rfl ?_; clear hM; intro w b5 hM); (try ((refine rl_storeWM 0 hM ag26 rfl rfl rfl rfl rfl rfl rfl ?_; clear hM; intro w hM)))))))))) | (refine region_ (id := 5) ?_; (try (refine rl_move (v := (Value.slice _ _ _ : Value)) rfl rfl ?_; (try (refine rl_loadAM (vs := [_, _, _, _]) 0 hM ag26 rfl rfl rfl rfl rfl ?_)))))))
    refine rl_callf fn69 (ih x _ (by omega) w0 w _ V1 hM (hys.le hV1)) rfl rfl ?_
    clear hM
    rintro _ w ⟨V2, zs, hV2, hM, rfl, hzs⟩
    obtain ⟨f1, n1, s1, a2, k1, c2, rfl, _⟩ := id hzs.shape
    (repeat (first | (refine rl_bsliceM (d := 16) [_] hM sl24 rfl rfl rfl rfl rfl (by decide) (by decide) ?_; clear hM; intro w b16 hM)))
    refine rl_appendM 2 (news := [Value.int .i64 f1, .int .i64 n1, St s1, .slice a2 k1 c2]) (B := b16) (off := 0) hM sl24 rfl (by decide) rfl (hM.row (i := 0) rfl) rfl rfl rfl (fun _ => rfl) rfl (by simp [Value.oneCell', St]) (by omega) (by omega) ?_
    clear hM
    intro w a' c' hc1 hc2 hM
    replace hM := (show Mem w0 w (.own (.slice a' (q + 1) c') 26 4 (q + 1) (xs ++ [Value.int .i64 f1, .int .i64 n1, St s1, .slice a2 k1 c2]) :: .blk b2 [.int .i64 0, .int .i64 0, St [], .slice none 0 0] 26 :: .blk b1 [.int .i64 t.form, .int .i64 t.num, St t.name, .slice (some ⟨kb, ko, none⟩) t.kids.length kc] 26 :: L) V2 from hM.dropn 2)
    (repeat (first | refine sq_normal ?_ | refine rl_nil ?_ | refine inBlock_normal ?_ | (refine region_ (id := 6) ?_; (try ((refine rl_add rfl rfl rfl ?_ ?_ ?_; omega; omega); (try (refine rl_move (v := (Value.int _ _ : Value)) rfl rfl ?_))))) | refine rl_assign (v := (Value.slice _ _ _ : Value)) rfl rfl ?_))
    refine kq_normal (hL0 (t.kids.length - (q + 1)) _ _ (by omega) (by (repeat (first | with_reducible exact Agree.ov | with_reducible exact Agree.refl _ _ | refine Agree.upd rfl ?_ | refine Agree.ovs rfl ?_))) ⟨q + 1, _, V2, a', c', rfl, rfl, by omega, rfl, hV1.trans hV2, ?_, hM⟩)
    rw [List.take_add_one, hx]
    exact (hO.le hV2).snoc hzs
  · have hqe : q = t.kids.length := by omega
    subst hqe
    rw [List.take_length] at hO
    obtain ⟨V2, hV2, hM2, a3, c3, b4, e1, e2, e3, e4, e5⟩ := hM.freezeOwn
    cases e1
    clear hM
    have hM := hM2
    (repeat (first | refine seq_ ?_ | refine sq_normal ?_ | refine sq_exit ?_ | refine rl_nil ?_ | refine cond_f rfl ?_ | refine ret_ ?_ | refine exit_ ?_ | refine inBlock_exit ?_ | refine kq_exit ?_ | (refine region_ (id := 3) ?_; (try ((refine rl_lss_f rfl rfl rfl ?_ ?_; omega)))) | (refine region_ (id := 7) ?_; (try (refine rl_move (v := (Value.slice _ _ _ : Value)) rfl rfl ?_; (try (refine rl_fld fd26_3 rfl rfl ?_; (try ((refine rl_storeM 1 hM vt24 rfl rfl rfl rfl rfl (by first | (simp; done) | (simp; omega) | omega) ?_; clear hM; intro w hM)))))))) | (refine region_ (id := 8) ?_; (try (refine rl_loadAM (vs := [_, _, _, _]) 1 hM ag26 rfl rfl rfl rfl rfl ?_; (try ((refine rl_storeWM 0 hM ag26 rfl rfl rfl rfl rfl rfl rfl ?_; clear hM; intro w hM))))))))
    refine bp_x1 rfl rfl (res_M 0 hM ag26 rfl rfl rfl) ⟨V2, _, hV1.trans hV2, hM.dropn 2, rfl, ?_⟩
    exact TyV.of ht (hO.frozen hV2 rfl e2 e3 e4 e5)
theorem tyV_app {V : Vw} {x y : Ty} {xs ys : List Value} {b c : Nat} (hx : TyV V x xs) (hy : TyV V y ys) (h2 : 2 ≤ c) (h3 : c ≤ maxLen) (h4 : ∀ (i : Nat) u, (xs ++ ys)[i]? = some u → V ⟨b, i, none⟩ = some u) :
    TyV V (.app x y) [.int .i64 4, .int .i64 0, St [], .slice (some ⟨b, 0, none⟩) 2 c] := by
  refine ⟨b, 0, c, xs, ys, rfl, h2, h3, fun j u hj => ?_, fun j u hj => ?_, hx, hy⟩
  · have := h4 j u (by rw [List.getElem?_append_left (List.getElem?_eq_some_iff.1 hj).1]; exact hj)
    rw [show 0 + 0 * 4 + j = j by omega]; exact this
  · have hl := hx.len
    have := h4 (4 + j) u (by rw [List.getElem?_append_right (by omega), hl, Nat.add_sub_cancel_left]; exact hj)
    rw [show 0 + 1 * 4 + j = 4 + j by omega]; exact this
theorem apply_ok (x y : Ty) (xs ys : List Value) (w0 w : World) (L : List Ent) (V : Vw) (hM : Mem w0 w L V) (hx : TyV V x xs) (hy : TyV V y ys) :
    CallsOk Tryd.prog 70 #[.agg xs.toArray, .agg ys.toArray] w (TyP w0 L V (.app x y)) := by
  obtain ⟨f0, n0, s0, a0, k0, c0, rfl, _⟩ := id hx.shape
  obtain ⟨f1, n1, s1, a1, k1, c1, rfl, _⟩ := id hy.shape
  refine enter_ (N := 9) Tryd.func70 rfl rfl rfl ?_
  (repeat (first | refine seq_ ?_ | refine sq_normal ?_ | refine rl_nil ?_ | refine ret_ ?_ | (refine region_ (id := 0) ?_; (try ((refine rl_boxAM (d := 2) hM rfl rfl ?_; clear hM; intro w b2 hM); (try ((refine rl_boxAM (d := 3) hM rfl rfl ?_; clear hM; intro w b3 hM); (try ((refine rl_allocAM (d := 4) hM ag26 rfl ?_; clear hM; intro w b4 hM)))))))) | (refine region_ (id := 1) ?_; (try (refine rl_loadAM (vs := [_, _, _, _]) 2 hM ag26 rfl rfl rfl rfl rfl ?_; (try (refine rl_loadAM (vs := [_, _, _, _]) 1 hM ag26 rfl rfl rfl rfl rfl ?_; (try ((refine rl_bsliceM (d := 7) [_, _] hM sl24 rfl rfl rfl rfl rfl (by decide) (by decide) ?_; clear hM; intro w b7 hM); (try (refine rl_build [_, (Value.int .i64 0), (St []), _] ag26 pl26 rfl rfl rfl ?_; (try ((refine rl_storeWM 1 hM ag26 rfl rfl rfl rfl rfl rfl rfl ?_; clear hM; intro w hM))))))))))))))
  have hM : Mem w0 w (.blk b7 ([Value.int .i64 f0, .int .i64 n0, St s0, .slice a0 k0 c0] ++ [Value.int .i64 f1, .int .i64 n1, St s1, .slice a1 k1 c1]) 26 :: .blk b4 [.int .i64 4, .int .i64 0, St [], .slice (some ⟨b7, 0, none⟩) 2 2] 26 :: .blk b3 [.int .i64 f1, .int .i64 n1, St s1, .slice a1 k1 c1] 26 :: .blk b2 [.int .i64 f0, .int .i64 n0, St s0, .slice a0 k0 c0] 26 :: L) V := hM
  obtain ⟨V2, hV2, hM2, hc⟩ := hM.freezeBlk
  exact bp_x1 rfl rfl (res_M 0 hM2 ag26 rfl rfl rfl) ⟨V2, _, hV2, hM2.dropn 3, rfl, tyV_app (hx.le hV2) (hy.le hV2) (by decide) (by unfold maxLen; omega) hc⟩
set_option maxRecDepth 4000 in
set_option maxHeartbeats 1000000 in
theorem app_ok (x y : Ty) (xs ys : List Value) (b : Nat) (w0 w : World) (L : List Ent) (V : Vw) (hM : Mem w0 w (.blk b ys 26 :: L) V) (hx : TyV V x xs) (hy : TyV V y ys) :
    CallsOk Tryd.prog 55 #[.agg xs.toArray, .slice (some ⟨b, 0, none⟩) 1 1] w (TyP w0 L V (.app x y)) := by
  obtain ⟨f0, n0, s0, a0, k0, c0, rfl, _⟩ := id hx.shape
  obtain ⟨f1, n1, s1, a1, k1, c1, rfl, _⟩ := id hy.shape
  refine enter_ (N := 22) Tryd.func55 rfl rfl rfl ?_
  (repeat (first | refine seq_ ?_ | refine sq_normal ?_ | refine rl_nil ?_ | (refine region_ (id := 0) ?_; (try ((refine rl_boxAM (d := 2) hM rfl rfl ?_; clear hM; intro w b2 hM); (try ((refine rl_allocAM (d := 4) hM ag26 rfl ?_; clear hM; intro w b4 hM)))))) | (refine region_ (id := 1) ?_; (try (refine rl_loadAM (vs := [_, _, _, _]) 1 hM ag26 rfl rfl rfl rfl rfl ?_)))))
  refine rl_callf fn69 (own_ok _ x _ (Nat.lt_succ_self _) w0 w _ V hM hx) rfl rfl ?_
  clear hM
  rintro _ w ⟨V1, zs, hV1, hM, rfl, hzs⟩
  obtain ⟨f2, n2, s2, a2, k2, c2, rfl, _⟩ := id hzs.shape
  (repeat (first | refine seq_ ?_ | refine sq_normal ?_ | refine rl_nil ?_ | refine block_ ?_ | (refine region_ (id := 2) ?_; (try (refine rl_move (v := (Value.slice _ _ _ : Value)) rfl rfl ?_; (try (refine rl_len sl24 rfl rfl ?_; (try (refine rl_move (v := (Value.int _ _ : Value)) rfl rfl ?_))))))) | (refine rl_allocAM (d := 5) hM ag26 rfl ?_; clear hM; intro w b5 hM) | (refine rl_storeWM 0 hM ag26 rfl rfl rfl rfl rfl rfl rfl ?_; clear hM; intro w hM)))
  refine loop1 [(7, 8), (12, 21)] 12 (fun m v wr => ∃ (i : Nat) (u : Ty) (us : List Value) (V2 : Vw), v = .int .i64 i ∧ i ≤ 1 ∧ m = 1 - i ∧ VLe V V2 ∧ TyV V2 u us ∧ (i = 0 → u = x) ∧ (i = 1 → u = .app x y) ∧
      Mem w0 wr (.blk b5 us 26 :: .blk b4 [.int .i64 0, .int .i64 0, St [], .slice none 0 0] 26 :: .blk b2 [.int .i64 f0, .int .i64 n0, St s0, .slice a0 k0 c0] 26 :: .blk b [.int .i64 f1, .int .i64 n1, St s1, .slice a1 k1 c1] 26 :: L) V2) _
    ⟨0, x, _, V1, rfl, by omega, rfl, hV1, hzs, fun _ => rfl, fun h => absurd h (by omega), hM⟩ ?_
  clear hM
  rintro m τ v w ⟨i, u, us, V2, rfl, hi, rfl, hV2, hu, hu0, hu1, hM⟩ K0 hL0
  obtain ⟨f3, n3, s3, a3, k3, c3, rfl, _⟩ := id hu.shape
  by_cases h0 : i = 0
  · subst h0
    obtain rfl := hu0 rfl
    (repeat (first | refine seq_ ?_ | refine sq_normal ?_ | refine rl_nil ?_ | refine cond_t rfl ?_ | refine skip_ ?_ | refine block_ ?_ | (refine region_ (id := 3) ?_; (try ((refine rl_lss_t rfl rfl rfl ?_ ?_; omega)))) | (refine region_ (id := 4) ?_; (try ((refine rl_idx sl24 rfl rfl rfl rfl ?_ ?_ ?_; omega; omega); (try (refine rl_loadAM (vs := [_, _, _, _]) 3 hM ag26 rfl rfl rfl rfl rfl ?_; (try ((refine rl_allocAM (d := 7) hM ag26 rfl ?_; clear hM; intro w b7 hM); (try ((refine rl_storeWM 0 hM ag26 rfl rfl rfl rfl rfl rfl rfl ?_; clear hM; intro w hM))))))))))))
    (refine drawnM_ 4 [(0, false), (1, false), (2, true), (3, true)] (fun w => Mem w0 w _ _) hM mo (by kernel_rfl) (fun _ h => h) ?_; clear hM; intro w hM; (try (refine rx_loadAM (vs := [_, _, _, _]) 1 rfl (fun _ h => h) ag26 rfl rfl rfl rfl rfl ?_; (try (refine rx_loadAM (vs := [_, _, _, _]) 0 rfl (fun _ h => h) ag26 rfl rfl rfl rfl rfl ?_)))))
    refine rx_eff rfl (fun K hK => ?_)
    refine rl_callf fn69 (own_ok _ y _ (Nat.lt_succ_self _) w0 w _ V2 hM (hy.le hV2)) rfl rfl ?_
    clear hM
    rintro _ w ⟨V3, ws, hV3, hM, rfl, hws⟩
    refine rl_nil (kq_normal (hK _ _ (hM.le hV3) ?_))
    refine rx_eff rfl (fun K hK => ?_)
    refine rl_callf fn70 (apply_ok u y _ ws w0 w _ V3 hM (hu.le hV3) hws) rfl rfl ?_
    clear hM
    rintro _ w ⟨V4, us4, hV4, hM, rfl, hu4⟩
    obtain ⟨f4, n4, s4, a4, k4, c4, rfl, _⟩ := id hu4.shape
    refine rl_nil (kq_normal (hK _ _ (hM.le (hV3.trans hV4)) ?_))
    refine rx_nil rfl ?_
    (repeat (first | refine sq_normal ?_ | refine rl_nil ?_ | refine inBlock_normal ?_ | refine np_normal ?_ | (refine region_ (id := 6) ?_; (try ((refine rl_add rfl rfl rfl ?_ ?_ ?_; omega; omega); (try (refine rl_move (v := (Value.int _ _ : Value)) rfl rfl ?_))))) | (refine rl_storeWM 1 hM ag26 rfl rfl rfl rfl rfl rfl rfl ?_; clear hM; intro w hM)))
    exact kq_normal (hL0 0 _ _ (by omega) (by (repeat (first | with_reducible exact Agree.ov | with_reducible exact Agree.refl _ _ | refine Agree.upd rfl ?_ | refine Agree.ovs rfl ?_))) ⟨1, _, _, V4, rfl, by omega, rfl, hV2.trans (hV3.trans hV4), hu4, fun h => absurd h (by omega), fun _ => rfl, hM.dropn 1⟩)
  · have h1 : i = 1 := by omega
    subst h1
    obtain rfl := hu1 rfl
    (repeat (first | refine seq_ ?_ | refine sq_normal ?_ | refine sq_exit ?_ | refine rl_nil ?_ | refine cond_f rfl ?_ | refine ret_ ?_ | refine exit_ ?_ | refine inBlock_exit ?_ | refine kq_exit ?_ | (refine region_ (id := 3) ?_; (try ((refine rl_lss_f rfl rfl rfl ?_ ?_; omega)))) | (refine region_ (id := 7) ?_; (try (refine rl_loadAM (vs := [_, _, _, _]) 0 hM ag26 rfl rfl rfl rfl rfl ?_; (try ((refine rl_storeWM 1 hM ag26 rfl rfl rfl rfl rfl rfl rfl ?_; clear hM; intro w hM))))))))
    exact bp_x1 rfl rfl (res_M 1 hM ag26 rfl rfl rfl) ⟨V2, _, hV2, hM.dropn 4, rfl, hu⟩
set_option maxRecDepth 4000 in
set_option maxHeartbeats 1000000 in
theorem fun_ok (x y : Ty) (xs ys : List Value) (b : Nat) (w0 w : World) (L : List Ent) (V : Vw) (hM : Mem w0 w (.blk b xs 26 :: L) V) (hx : TyV V x xs) (hy : TyV V y ys) :
    CallsOk Tryd.prog 56 #[.agg ys.toArray, .slice (some ⟨b, 0, none⟩) 1 1] w (TyP w0 L V (.fn x y)) := by
  obtain ⟨f0, n0, s0, a0, k0, c0, rfl, _⟩ := id hx.shape
  obtain ⟨f1, n1, s1, a1, k1, c1, rfl, _⟩ := id hy.shape
  refine enter_ (N := 29) Tryd.func56 rfl rfl rfl ?_
  (repeat (first | refine seq_ ?_ | refine sq_normal ?_ | refine rl_nil ?_ | (refine region_ (id := 0) ?_; (try ((refine rl_boxAM (d := 2) hM rfl rfl ?_; clear hM; intro w b2 hM); (try ((refine rl_allocAM (d := 4) hM ag26 rfl ?_; clear hM; intro w b4 hM)))))) | (refine region_ (id := 1) ?_; (try (refine rl_loadAM (vs := [_, _, _, _]) 1 hM ag26 rfl rfl rfl rfl rfl ?_)))))
  refine rl_callf fn69 (own_ok _ y _ (Nat.lt_succ_self _) w0 w _ V hM hy) rfl rfl ?_
  clear hM
  rintro _ w ⟨V1, zs, hV1, hM, rfl, hzs⟩
  obtain ⟨f2, n2, s2, a2, k2, c2, rfl, _⟩ := id hzs.shape
  (repeat (first | refine seq_ ?_ | refine sq_normal ?_ | refine rl_nil ?_ | refine block_ ?_ | (refine region_ (id := 2) ?_; (try (refine rl_move (v := (Value.slice _ _ _ : Value)) rfl rfl ?_; (try (refine rl_len sl24 rfl rfl ?_; (try (refine rl_move (v := (Value.int _ _ : Value)) rfl rfl ?_))))))) | (refine rl_allocAM (d := 5) hM ag26 rfl ?_; clear hM; intro w b5 hM) | (refine rl_storeWM 0 hM ag26 rfl rfl rfl rfl rfl rfl rfl ?_; clear hM; intro w hM)))
  refine loop1 [(6, 7), (11, 28)] 11 (fun m v wr => ∃ (i : Nat) (u : Ty) (us : List Value) (V2 : Vw), v = .int .i64 i ∧ i ≤ 1 ∧ m = 1 - i ∧ VLe V V2 ∧ TyV V2 u us ∧ (i = 0 → u = y) ∧ (i = 1 → u = .fn x y) ∧
      Mem w0 wr (.blk b5 us 26 :: .blk b4 [.int .i64 0, .int .i64 0, St [], .slice none 0 0] 26 :: .blk b2 [.int .i64 f1, .int .i64 n1, St s1, .slice a1 k1 c1] 26 :: .blk b [.int .i64 f0, .int .i64 n0, St s0, .slice a0 k0 c0] 26 :: L) V2) _
    ⟨0, y, _, V1, rfl, by omega, rfl, hV1, hzs, fun _ => rfl, fun h => absurd h (by omega), hM⟩ ?_
  clear hM
  rintro m τ v w ⟨i, u, us, V2, rfl, hi, rfl, hV2, hu, hu0, hu1, hM⟩ K0 hL0
  obtain ⟨f3, n3, s3, a3, k3, c3, rfl, _⟩ := id hu.shape
  by_cases h0 : i = 0
  · subst h0
    obtain rfl := hu0 rfl
    (repeat (first | refine seq_ ?_ | refine sq_normal ?_ | refine rl_nil ?_ | refine cond_t rfl ?_ | refine skip_ ?_ | refine block_ ?_ | (refine region_ (id := 3) ?_; (try ((refine rl_lss_t rfl rfl rfl ?_ ?_; omega)))) | (refine region_ (id := 4) ?_; (try (refine rl_move (v := (Value.int _ _ : Value)) rfl rfl ?_; (try (refine rl_assign (v := (Value.int _ _ : Value)) rfl rfl ?_)))))))
    (refine drawnM_ 13 [(1, false), (2, false), (3, false), (4, false), (5, false), (6, false), (7, false), (8, false), (11, false), (0, true), (9, true), (10, true), (12, true)] (fun w => Mem w0 w _ _) hM mo (by kernel_rfl) (fun _ h => h) ?_; clear hM; intro w hM; (try (refine rx_move (v := (Value.slice _ _ _ : Value)) rfl rfl rfl ?_; (try (refine rx_move (v := (Value.slice _ _ _ : Value)) rfl rfl rfl ?_; (try (refine rx_len rfl sl24 rfl rfl ?_; (try ((refine rx_sub rfl rfl rfl rfl ?_ ?_ ?_; omega; omega); (try (refine rx_move (v := (Value.int _ _ : Value)) rfl rfl rfl ?_; (try ((refine rx_sub rfl rfl rfl rfl ?_ ?_ ?_; omega; omega); (try ((refine rx_idx rfl sl24 rfl rfl rfl rfl ?_ ?_ ?_; omega; omega); (try (refine rx_loadAM (vs := [_, _, _, _]) 3 rfl (fun _ h => h) ag26 rfl rfl rfl rfl rfl ?_; (try (refine rx_loadAM (vs := [_, _, _, _]) 0 rfl (fun _ h => h) ag26 rfl rfl rfl rfl rfl ?_)))))))))))))))))))
    refine rx_eff rfl (fun K hK => ?_)
    refine rl_callf fn67 (con_ok Ty.arrow w0 w _ V2 hM (by decide)) rfl rfl ?_
    clear hM
    rintro _ w ⟨V3, cs3, hV3, hM, rfl, hc3⟩
    refine rl_nil (kq_normal (hK _ _ (hM.le hV3) ?_))
    refine rx_eff rfl (fun K hK => ?_)
    refine rl_callf fn69 (own_ok _ x _ (Nat.lt_succ_self _) w0 w _ V3 hM ((hx.le hV2).le hV3)) rfl rfl ?_
    clear hM
    rintro _ w ⟨V4, ws, hV4, hM, rfl, hws⟩
    refine rl_nil (kq_normal (hK _ _ (hM.le (hV3.trans hV4)) ?_))
    refine rx_eff rfl (fun K hK => ?_)
    refine rl_callf fn70 (apply_ok (.con Ty.arrow) x cs3 ws w0 w _ V4 hM (hc3.le hV4) hws) rfl rfl ?_
    clear hM
    rintro _ w ⟨V5, us5, hV5, hM, rfl, hu5⟩
    refine rl_nil (kq_normal (hK _ _ (hM.le (hV3.trans (hV4.trans hV5))) ?_))
    refine rx_eff rfl (fun K hK => ?_)
    refine rl_callf fn70 (apply_ok (.app (.con Ty.arrow) x) u us5 _ w0 w _ V5 hM hu5 (hu.le (hV3.trans (hV4.trans hV5)))) rfl rfl ?_
    clear hM
    rintro _ w ⟨V6, us6, hV6, hM, rfl, hu6⟩
    obtain ⟨f4, n4, s4, a4, k4, c4, rfl, _⟩ := id hu6.shape
    refine rl_nil (kq_normal (hK _ _ (hM.le (hV3.trans (hV4.trans (hV5.trans hV6)))) ?_))
    refine rx_nil rfl ?_
    (repeat (first | refine sq_normal ?_ | refine rl_nil ?_ | refine inBlock_normal ?_ | refine np_normal ?_ | (refine region_ (id := 6) ?_; (try ((refine rl_add rfl rfl rfl ?_ ?_ ?_; omega; omega); (try (refine rl_move (v := (Value.int _ _ : Value)) rfl rfl ?_))))) | (refine rl_storeWM 0 hM ag26 rfl rfl rfl rfl rfl rfl rfl ?_; clear hM; intro w hM)))
    exact kq_normal (hL0 0 _ _ (by omega) (by (repeat (first | with_reducible exact Agree.ov | with_reducible exact Agree.refl _ _ | refine Agree.upd rfl ?_ | refine Agree.ovs rfl ?_))) ⟨1, _, _, V6, rfl, by omega, rfl, hV2.trans (hV3.trans (hV4.trans (hV5.trans hV6))), hu6, fun h => absurd h (by omega), fun _ => rfl, hM⟩)
  · have h1 : i = 1 := by omega
    subst h1
    obtain rfl := hu1 rfl
    (repeat (first | refine seq_ ?_ | refine sq_normal ?_ | refine sq_exit ?_ | refine rl_nil ?_ | refine cond_f rfl ?_ | refine ret_ ?_ | refine exit_ ?_ | refine inBlock_exit ?_ | refine kq_exit ?_ | (refine region_ (id := 3) ?_; (try ((refine rl_lss_f rfl rfl rfl ?_ ?_; omega)))) | (refine region_ (id := 7) ?_; (try (refine rl_loadAM (vs := [_, _, _, _]) 0 hM ag26 rfl rfl rfl rfl rfl ?_; (try ((refine rl_storeWM 1 hM ag26 rfl rfl rfl rfl rfl rfl rfl ?_; clear hM; intro w hM))))))))
    exact bp_x1 rfl rfl (res_M 1 hM ag26 rfl rfl rfl) ⟨V2, _, hV2, hM.dropn 4, rfl, hu⟩
end Go.Proofs.YtadbinckjmdokaaDoor.Trd
