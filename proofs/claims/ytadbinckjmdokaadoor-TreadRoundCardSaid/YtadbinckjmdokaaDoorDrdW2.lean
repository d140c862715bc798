/- The walks of tread.is, refuse, whole$1, of fugueref05.Is, Bad, begins, fugueref04.app, Fun. -/
import Derived.Test.YtadbinckjmdokaaDoorDrdW1
set_option linter.unusedVariables false
set_option linter.unusedSimpArgs false
namespace Go.Proofs.YtadbinckjmdokaaDoor.Trd
open Go Go.Eng Go.RowKit Go.Tr Go.Lx
attribute [local irreducible] RL RX KQ SQ Exit.inBlock Exit.then BP NP CallsOk IsSl IsRows IsInts IsBools Own Blk Code.wp Calls wpList
theorem is_ok (t : Tok) (x : List UInt8) (w0 w : World) (L : List Ent) (V : Vw) (hM : Mem w0 w L V) (h4 : t.k = 4 → t.n = 0) :
    CallsOk Tryd.prog 50 #[.agg (tokCells t).toArray, St x] w fun r w' => r = .bool (sym x t) ∧ Mem w0 w' L V := by
  obtain ⟨tk, ts, tn, ta⟩ := t
  simp only at h4
  refine enter_ (N := 10) Tryd.func50 rfl rfl rfl ?_
  unfold tokCells
  simp only
  by_cases h : tk = 4
  · obtain rfl := h4 h
    subst h
    by_cases hx : ts = x
    · subst hx
      (repeat (first | refine seq_ ?_ | refine sq_normal ?_ | refine rl_nil ?_ | refine ret_ ?_ | (refine region_ (id := 0) ?_; (try ((refine rl_boxAM (d := 2) hM rfl rfl ?_; clear hM; intro w b2 hM); (try (refine rl_assign (v := (Value.bool _ : Value)) rfl rfl ?_))))) | (refine region_ (id := 1) ?_; (try (refine rl_fld fd70_3 rfl rfl ?_; (try ((refine rl_storeM 0 hM vt3 rfl rfl rfl rfl rfl (by first | (simp; done) | (simp; omega) | omega) ?_; clear hM; intro w hM)))))) | (refine region_ (id := 2) ?_; (try (refine rl_loadAM (vs := [_, _, _, _]) 0 hM ag70 rfl rfl rfl rfl rfl ?_; (try (refine rl_move (v := (Value.string _ : Value)) rfl rfl ?_; (try (refine rl_build [_, _, (Value.int .i64 0), (Value.int .i64 0)] ag70 pl70 rfl rfl rfl ?_; (try (refine rl_aeql_t eq70 rfl rfl rfl rfl rfl (by first | rfl | assumption) ?_; (try (refine rl_assign (v := (Value.bool _ : Value)) rfl rfl ?_)))))))))))))
      exact bp_ret1 (v := Value.bool _) rfl rfl ⟨by simp [sym], hM.dropn 1⟩
    · have he : [Value.int .i64 4, St ts, .int .i64 0, .int .i64 0] ≠ [Value.int .i64 4, St x, .int .i64 0, .int .i64 0] := fun h => hx (congrArg Tok.s (tokCells_inj (t := ⟨4, ts, 0, 0⟩) (u := ⟨4, x, 0, 0⟩) h))
      (repeat (first | refine seq_ ?_ | refine sq_normal ?_ | refine rl_nil ?_ | refine ret_ ?_ | (refine region_ (id := 0) ?_; (try ((refine rl_boxAM (d := 2) hM rfl rfl ?_; clear hM; intro w b2 hM); (try (refine rl_assign (v := (Value.bool _ : Value)) rfl rfl ?_))))) | (refine region_ (id := 1) ?_; (try (refine rl_fld fd70_3 rfl rfl ?_; (try ((refine rl_storeM 0 hM vt3 rfl rfl rfl rfl rfl (by first | (simp; done) | (simp; omega) | omega) ?_; clear hM; intro w hM)))))) | (refine region_ (id := 2) ?_; (try (refine rl_loadAM (vs := [_, _, _, _]) 0 hM ag70 rfl rfl rfl rfl rfl ?_; (try (refine rl_move (v := (Value.string _ : Value)) rfl rfl ?_; (try (refine rl_build [_, _, (Value.int .i64 0), (Value.int .i64 0)] ag70 pl70 rfl rfl rfl ?_; (try (refine rl_aeql_f eq70 rfl rfl rfl rfl rfl (by assumption) ?_; (try (refine rl_assign (v := (Value.bool _ : Value)) rfl rfl ?_)))))))))))))
      exact bp_ret1 (v := Value.bool _) rfl rfl ⟨by simp [sym, hx], hM.dropn 1⟩
  · have he : [Value.int .i64 tk, St ts, .int .i64 tn, .int .i64 0] ≠ [Value.int .i64 4, St x, .int .i64 0, .int .i64 0] := fun e => h (congrArg Tok.k (tokCells_inj (t := ⟨tk, ts, tn, 0⟩) (u := ⟨4, x, 0, 0⟩) e))
    (repeat (first | refine seq_ ?_ | refine sq_normal ?_ | refine rl_nil ?_ | refine ret_ ?_ | (refine region_ (id := 0) ?_; (try ((refine rl_boxAM (d := 2) hM rfl rfl ?_; clear hM; intro w b2 hM); (try (refine rl_assign (v := (Value.bool _ : Value)) rfl rfl ?_))))) | (refine region_ (id := 1) ?_; (try (refine rl_fld fd70_3 rfl rfl ?_; (try ((refine rl_storeM 0 hM vt3 rfl rfl rfl rfl rfl (by first | (simp; done) | (simp; omega) | omega) ?_; clear hM; intro w hM)))))) | (refine region_ (id := 2) ?_; (try (refine rl_loadAM (vs := [_, _, _, _]) 0 hM ag70 rfl rfl rfl rfl rfl ?_; (try (refine rl_move (v := (Value.string _ : Value)) rfl rfl ?_; (try (refine rl_build [_, _, (Value.int .i64 0), (Value.int .i64 0)] ag70 pl70 rfl rfl rfl ?_; (try (refine rl_aeql_f eq70 rfl rfl rfl rfl rfl (by assumption) ?_; (try (refine rl_assign (v := (Value.bool _ : Value)) rfl rfl ?_)))))))))))))
    exact bp_ret1 (v := Value.bool _) rfl rfl ⟨by simp [sym, h], hM.dropn 1⟩
theorem refuse_ok (t : Tok) (e : Int) (w0 w : World) (L : List Ent) (V : Vw) (hM : Mem w0 w L V) :
    CallsOk Tryd.prog 32 #[.agg (tokCells t).toArray, .int .i64 e] w fun r w' => r = .agg #[.int .i64 e, .int .i64 t.a] ∧ Mem w0 w' L V := by
  obtain ⟨tk, ts, tn, ta⟩ := t
  refine enter_ (N := 9) Tryd.func32 rfl rfl rfl ?_
  unfold tokCells
  simp only
  (repeat (first | refine seq_ ?_ | refine sq_normal ?_ | refine rl_nil ?_ | refine ret_ ?_ | (refine region_ (id := 0) ?_; (try ((refine rl_boxAM (d := 2) hM rfl rfl ?_; clear hM; intro w b2 hM); (try ((refine rl_allocAM (d := 4) hM ag35 rfl ?_; clear hM; intro w b4 hM)))))) | (refine region_ (id := 1) ?_; (try (refine rl_move (v := (Value.int _ _ : Value)) rfl rfl ?_; (try (refine rl_fld fd70_3 rfl rfl ?_; (try (refine rl_loadM 1 hM vt3 rfl rfl rfl (by first | rfl | assumption) ?_; (try (refine rl_build [_, _] ag35 pl35 rfl rfl rfl ?_; (try ((refine rl_storeWM 0 hM ag35 rfl rfl rfl rfl rfl rfl rfl ?_; clear hM; intro w hM))))))))))))))
  exact bp_x1 rfl rfl (res_M 0 hM ag35 rfl rfl rfl) ⟨rfl, hM.dropn 2⟩
theorem begins_ok (t : Tok) (w0 w : World) (L : List Ent) (V : Vw) (hM : Mem w0 w L V) (h4 : t.k = 4 → t.n = 0) :
    CallsOk Tryd.prog 53 #[.agg (tokCells t).toArray] w fun r w' => r = .bool (begins t) ∧ Mem w0 w' L V := by
  refine enter_ (N := 15) Tryd.func53 rfl rfl rfl ?_
  obtain ⟨t', ht'⟩ : ∃ t' : Tok, t' = t := ⟨_, rfl⟩
  obtain ⟨tk, ts, tn, ta⟩ := t
  unfold tokCells
  by_cases h2 : tk = 2
  · (repeat (first | refine seq_ ?_ | refine sq_normal ?_ | refine rl_nil ?_ | refine ret_ ?_ | (refine region_ (id := 0) ?_; (try ((refine rl_boxAM (d := 1) hM rfl rfl ?_; clear hM; intro w b1 hM); (try (refine rl_assign (v := (Value.bool _ : Value)) rfl rfl ?_))))) | (refine region_ (id := 1) ?_; (try (refine rl_fld fd70_0 rfl rfl ?_; (try (refine rl_loadM 0 hM vt3 rfl rfl rfl (by first | rfl | assumption) ?_; (try ((refine rl_eql_t rfl rfl rfl ?_ ?_; omega); (try (refine rl_move (v := (Value.bool _ : Value)) rfl rfl ?_; (try (refine rl_off rfl ?_; (try (refine rl_off rfl ?_; (try (refine rl_off rfl ?_; (try (refine rl_pick (v := (Value.bool _ : Value)) rfl rfl rfl ?_; (try (refine rl_move (v := (Value.bool _ : Value)) rfl rfl ?_; (try (refine rl_off rfl ?_))))))))))))))))))))) | refine rl_assign (v := (Value.bool _ : Value)) rfl rfl ?_ | refine rl_off rfl ?_ | refine rl_pick (v := (Value.bool _ : Value)) rfl rfl rfl ?_))
    exact bp_ret1 (v := Value.bool _) rfl rfl ⟨by simp [begins, h2], hM.dropn 1⟩
  · by_cases h1 : tk = 1
    · (repeat (first | refine seq_ ?_ | refine sq_normal ?_ | refine rl_nil ?_ | refine ret_ ?_ | (refine region_ (id := 0) ?_; (try ((refine rl_boxAM (d := 1) hM rfl rfl ?_; clear hM; intro w b1 hM); (try (refine rl_assign (v := (Value.bool _ : Value)) rfl rfl ?_))))) | (refine region_ (id := 1) ?_; (try (refine rl_fld fd70_0 rfl rfl ?_; (try (refine rl_loadM 0 hM vt3 rfl rfl rfl (by first | rfl | assumption) ?_; (try ((refine rl_eql_f rfl rfl rfl ?_ ?_; omega); (try (refine rl_move (v := (Value.bool _ : Value)) rfl rfl ?_; (try (refine rl_fld fd70_0 rfl rfl ?_; (try (refine rl_loadM 0 hM vt3 rfl rfl rfl (by first | rfl | assumption) ?_; (try ((refine rl_eql_t rfl rfl rfl ?_ ?_; omega); (try (refine rl_pick (v := (Value.bool _ : Value)) rfl rfl rfl ?_; (try (refine rl_move (v := (Value.bool _ : Value)) rfl rfl ?_; (try (refine rl_off rfl ?_))))))))))))))))))))) | refine rl_assign (v := (Value.bool _ : Value)) rfl rfl ?_ | refine rl_off rfl ?_ | refine rl_pick (v := (Value.bool _ : Value)) rfl rfl rfl ?_))
      exact bp_ret1 (v := Value.bool _) rfl rfl ⟨by simp [begins, h1], hM.dropn 1⟩
    · (repeat (first | refine seq_ ?_ | refine sq_normal ?_ | refine rl_nil ?_ | (refine region_ (id := 0) ?_; (try ((refine rl_boxAM (d := 1) hM rfl rfl ?_; clear hM; intro w b1 hM); (try (refine rl_assign (v := (Value.bool _ : Value)) rfl rfl ?_))))) | (refine region_ (id := 1) ?_; (try (refine rl_fld fd70_0 rfl rfl ?_; (try (refine rl_loadM 0 hM vt3 rfl rfl rfl (by first | rfl | assumption) ?_; (try ((refine rl_eql_f rfl rfl rfl ?_ ?_; omega); (try (refine rl_move (v := (Value.bool _ : Value)) rfl rfl ?_; (try (refine rl_fld fd70_0 rfl rfl ?_; (try (refine rl_loadM 0 hM vt3 rfl rfl rfl (by first | rfl | assumption) ?_; (try ((refine rl_eql_f rfl rfl rfl ?_ ?_; omega); (try (refine rl_pick (v := (Value.bool _ : Value)) rfl rfl rfl ?_; (try (refine rl_move (v := (Value.bool _ : Value)) rfl rfl ?_; (try (refine rl_loadAM (vs := [_, _, _, _]) 0 hM ag70 rfl rfl rfl rfl rfl ?_)))))))))))))))))))))))
      refine rl_callf fn50 (is_ok ⟨tk, ts, tn, ta⟩ [40] w0 w _ V hM h4) rfl rfl ?_
      clear hM
      rintro _ w ⟨rfl, hM⟩
      (repeat (first | refine sq_normal ?_ | refine rl_nil ?_ | refine ret_ ?_ | refine rl_assign (v := (Value.bool _ : Value)) rfl rfl ?_ | refine rl_pick (v := (Value.bool _ : Value)) rfl rfl rfl ?_))
      exact bp_ret1 (v := Value.bool _) rfl rfl ⟨by simp [begins, h1, h2], hM.dropn 1⟩
/-- What is read, as the document's answer has it. -/
abbrev xC (cs : List Value) (ps vs : Value) (i e a : Int) : List Value := cs ++ [ps, vs, .int .i64 i, .int .i64 e, .int .i64 a]
abbrev zT : List Value := [.int .i64 0, .int .i64 0, St [], .slice none 0 0]
theorem rapp_ok (x y : Ty) (xs ys : List Value) (w0 w : World) (L : List Ent) (V : Vw) (hM : Mem w0 w L V) (hx : TyV V x xs) (hy : TyV V y ys) :
    CallsOk Tryd.prog 42 #[.agg xs.toArray, .agg ys.toArray] w (TyP w0 L V (.app x y)) := by
  obtain ⟨f0, n0, s0, a0, k0, c0, rfl, _⟩ := id hx.shape
  obtain ⟨f1, n1, s1, a1, k1, c1, rfl, _⟩ := id hy.shape
  refine enter_ (N := 9) Tryd.func42 rfl rfl rfl ?_
  (repeat (first | refine seq_ ?_ | refine sq_normal ?_ | refine rl_nil ?_ | refine ret_ ?_ | (refine region_ (id := 0) ?_; (try ((refine rl_boxAM (d := 2) hM rfl rfl ?_; clear hM; intro w b2 hM); (try ((refine rl_boxAM (d := 3) hM rfl rfl ?_; clear hM; intro w b3 hM); (try ((refine rl_allocAM (d := 4) hM ag26 rfl ?_; clear hM; intro w b4 hM)))))))) | (refine region_ (id := 1) ?_; (try (refine rl_loadAM (vs := [_, _, _, _]) 2 hM ag26 rfl rfl rfl rfl rfl ?_; (try (refine rl_loadAM (vs := [_, _, _, _]) 1 hM ag26 rfl rfl rfl rfl rfl ?_; (try ((refine rl_bsliceM (d := 7) [_, _] hM sl24 rfl rfl rfl rfl rfl (by decide) (by decide) ?_; clear hM; intro w b7 hM); (try (refine rl_build [_, (Value.int .i64 0), (St []), _] ag26 pl26 rfl rfl rfl ?_; (try ((refine rl_storeWM 1 hM ag26 rfl rfl rfl rfl rfl rfl rfl ?_; clear hM; intro w hM))))))))))))))
  have hM : Mem w0 w (.blk b7 ([Value.int .i64 f0, .int .i64 n0, St s0, .slice a0 k0 c0] ++ [Value.int .i64 f1, .int .i64 n1, St s1, .slice a1 k1 c1]) 26 :: .blk b4 [.int .i64 4, .int .i64 0, St [], .slice (some ⟨b7, 0, none⟩) 2 2] 26 :: .blk b3 [.int .i64 f1, .int .i64 n1, St s1, .slice a1 k1 c1] 26 :: .blk b2 [.int .i64 f0, .int .i64 n0, St s0, .slice a0 k0 c0] 26 :: L) V := hM
  obtain ⟨V2, hV2, hM2, hc⟩ := hM.freezeBlk
  exact bp_x1 rfl rfl (res_M 0 hM2 ag26 rfl rfl rfl) ⟨V2, _, hV2, hM2.dropn 3, rfl, tyV_app (hx.le hV2) (hy.le hV2) (by decide) (by unfold maxLen; omega) hc⟩
set_option maxRecDepth 4000 in
theorem rfun_ok (x y : Ty) (xs ys : List Value) (w0 w : World) (L : List Ent) (V : Vw) (hM : Mem w0 w L V) (hx : TyV V x xs) (hy : TyV V y ys) :
    CallsOk Tryd.prog 28 #[.agg xs.toArray, .agg ys.toArray] w (TyP w0 L V (.fn x y)) := by
  obtain ⟨f0, n0, s0, a0, k0, c0, rfl, _⟩ := id hx.shape
  obtain ⟨f1, n1, s1, a1, k1, c1, rfl, _⟩ := id hy.shape
  refine enter_ (N := 10) Tryd.func28 rfl rfl rfl ?_
  (repeat (first | refine seq_ ?_ | refine sq_normal ?_ | refine rl_nil ?_ | (refine region_ (id := 0) ?_; (try ((refine rl_boxAM (d := 2) hM rfl rfl ?_; clear hM; intro w b2 hM); (try ((refine rl_boxAM (d := 3) hM rfl rfl ?_; clear hM; intro w b3 hM); (try ((refine rl_allocAM (d := 4) hM ag26 rfl ?_; clear hM; intro w b4 hM))))))))))
  (refine drawnM_ 5 [(0, false), (1, false), (3, false), (2, true), (4, true)] (fun w => Mem w0 w _ _) hM mo (by kernel_rfl) (fun _ h => h) ?_; clear hM; intro w hM; (try (refine rx_build [_, (Value.int .i64 0), _, (Value.slice none 0 0)] rfl ag26 pl26 rfl rfl rfl ?_; (try (refine rx_loadAM (vs := [_, _, _, _]) 2 rfl (fun _ h => h) ag26 rfl rfl rfl rfl rfl ?_; (try (refine rx_loadAM (vs := [_, _, _, _]) 1 rfl (fun _ h => h) ag26 rfl rfl rfl rfl rfl ?_)))))))
  refine rx_eff rfl (fun K hK => ?_)
  refine rl_callf fn42 (rapp_ok (.con Ty.arrow) x [.int .i64 3, .int .i64 0, St Ty.arrow, .slice none 0 0] _ w0 w _ V hM (TyV.hlf (by decide) (by decide) i64z (by decide)) hx) rfl rfl ?_
  clear hM
  rintro _ w ⟨V1, cs1, hV1, hM, rfl, h1⟩
  refine rl_nil (kq_normal (hK _ _ (hM.le hV1) ?_))
  refine rx_eff rfl (fun K hK => ?_)
  refine rl_callf fn42 (rapp_ok (.app (.con Ty.arrow) x) y cs1 _ w0 w _ V1 hM h1 (hy.le hV1)) rfl rfl ?_
  clear hM
  rintro _ w ⟨V2, cs2, hV2, hM, rfl, h2⟩
  obtain ⟨f4, n4, s4, a4, k4, c4, rfl, _⟩ := id h2.shape
  refine rl_nil (kq_normal (hK _ _ (hM.le (hV1.trans hV2)) ?_))
  refine rx_nil rfl ?_
  (repeat (first | refine sq_normal ?_ | refine rl_nil ?_ | refine ret_ ?_ | refine np_normal ?_ | (refine rl_storeWM 0 hM ag26 rfl rfl rfl rfl rfl rfl rfl ?_; clear hM; intro w hM)))
  exact bp_x1 rfl rfl (res_M 0 hM ag26 rfl rfl rfl) ⟨V2, _, hV1.trans hV2, hM.dropn 3, rfl, h2⟩
end Go.Proofs.YtadbinckjmdokaaDoor.Trd
