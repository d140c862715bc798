/- The walk of tread.ReadScheme. -/
import Derived.Test.YtadbinckjmdokaaDoorDrdW15
set_option linter.unusedVariables false
set_option linter.unusedSimpArgs false
namespace Go.Proofs.YtadbinckjmdokaaDoor.Trd
open Go Go.Eng Go.RowKit Go.Tr Go.Lx
attribute [local irreducible] RL RX KQ SQ Exit.inBlock Exit.then BP NP CallsOk IsSl IsRows IsInts IsBools Own Blk Code.wp Calls wpList
abbrev schz : Sch := ⟨[], [], Ty.z⟩
/-- These seven cells are the scheme. -/
def SchV (V : Vw) (sc : Sch) (cs : List Value) : Prop := ∃ vv pv ts, cs = vv :: .slice none 0 0 :: pv :: ts ∧ IsTs V vv sc.vars ∧ PdSl V pv sc.preds ∧ TyV V sc.ty ts ∧ sc.vars.length ≤ 1000000 ∧ sc.preds.length ≤ 16
theorem SchV.le {V V' : Vw} (hV : VLe V V') {sc : Sch} {cs : List Value} (h : SchV V sc cs) : SchV V' sc cs := by
  obtain ⟨vv, pv, ts, h1, h2, h3, h4, h5⟩ := h
  exact ⟨vv, pv, ts, h1, IsSl.mono h2 hV, h3.le hV, h4.le hV, h5⟩
theorem SchV.z (V : Vw) : SchV V schz z7 := ⟨_, _, zT, rfl, isTs_of (b := 0) (off := 0) rfl (Nat.le_refl _) (by unfold maxLen; omega) (fun h => absurd h (by decide)) (fun j u hj => by simp at hj), PdSl.nil _, tyz, by simp, by simp⟩
theorem SchV.shape {V : Vw} {sc : Sch} {cs : List Value} (h : SchV V sc cs) : ∃ va vc pa pc f n s a k c, cs = [.slice va sc.vars.length vc, .slice none 0 0, .slice pa sc.preds.length pc, .int .i64 f, .int .i64 n, St s, .slice a k c] := by
  obtain ⟨vv, pv, ts, rfl, h2, h3, h4, _⟩ := h
  obtain ⟨va, vc, _, _, rfl, _⟩ := h2.open'
  obtain ⟨pa, pc, rfl, _⟩ := h3.open'
  obtain ⟨f0, n0, s0, a0, k0, c0, rfl, _⟩ := h4.shape
  exact ⟨_, _, _, _, _, _, _, _, _, _, rfl⟩
def WS (b : Nat) (V : Vw) (X : Ent) (l : List Tok) (k : Nat) (e a : Int) : Prop :=
  ∃ sc cs, X = .blk b cs 32 ∧ SchV V sc cs ∧ ((e = 0 ∧ scheme l 0 = .ok (sc, k)) ∨ (e ≠ 0 ∧ scheme l 0 = .error (e, a)))
theorem rscheme1_ok (b : Nat) (w0 : World) (L : List Ent) (V : Vw) : WhatC 18 [.pointer (some ⟨b, 0, none⟩)] w0 L V (.blk b z7 32) (WS b) := by
  intro E1 E2 l v V1 w hV1 hM hl hT hpos
  obtain ⟨va, vc, vb, vo, rfl, g1, g2, g3, g4⟩ := id hl
  have hfew := hT.few
  refine enter_ (N := 13) Tryd.func18 rfl rfl rfl ?_
  (repeat (first | refine seq_ ?_ | refine sq_normal ?_ | refine rl_nil ?_ | (refine region_ (id := 0) ?_; (try (refine rl_assign (v := (Value.int _ _ : Value)) rfl rfl ?_; (try ((refine rl_allocAM (d := 4) hM ag35 rfl ?_; clear hM; intro w b4 hM)))))) | (refine region_ (id := 1) ?_; (try (refine rl_move (v := (Value.slice _ _ _ : Value)) rfl rfl ?_)))))
  refine rl_callf fn19 (tscheme_ok l 0 _ w0 w _ V1 hM hl hT hpos) rfl rfl ?_
  clear hM
  rintro _ w hres
  rcases hres with ⟨V2, vv, pv, cs, sc, k, hV2, hM, rfl, hx2, hvs, hps, hc, hk, hvl, hpl⟩ | ⟨V2, e, a, hV2, hM, rfl, hx2, he⟩
  · have hsv : SchV V2 sc (vv :: .slice none 0 0 :: pv :: cs) := ⟨_, _, _, rfl, hvs, hps, hc, by omega, hpl⟩
    obtain ⟨va', vc', pa', pc', f1, n1, s1, a1, k1, c1, hsh⟩ := id hsv.shape
    cases hsh
    (repeat (first | refine seq_ ?_ | refine sq_normal ?_ | refine rl_nil ?_ | refine rl_assign (v := (Value.int _ _ : Value)) rfl rfl ?_ | refine rl_move (v := (Value.tuple _ : Value)) rfl rfl ?_ | refine rl_extract rfl rfl rfl ?_ | (refine rl_storeWM 3 hM ag32 rfl rfl rfl rfl rfl rfl rfl ?_; clear hM; intro w hM) | (refine rl_storeWM 0 hM ag35 rfl rfl rfl rfl rfl rfl rfl ?_; clear hM; intro w hM)))
    (refine drawnM_ 3 [(0, false), (1, false), (2, false)] (fun w => Mem w0 w _ _) hM mo (by kernel_rfl) (fun _ h => h) ?_; clear hM; intro w hM; (try (refine rx_move (v := (Value.int _ _ : Value)) rfl rfl rfl ?_; (try (refine rx_loadAM (vs := [_, _]) 0 rfl (fun _ h => h) ag35 rfl rfl rfl rfl rfl ?_; (try (refine rx_assign (v := (Value.int _ _ : Value)) rfl rfl rfl ?_)))))))
    refine rx_nil rfl ?_
    (repeat (first | refine sq_normal ?_ | refine rl_nil ?_ | refine ret_ ?_ | refine np_normal ?_ | (refine rl_storeWM 0 hM ag35 rfl rfl rfl rfl rfl rfl rfl ?_; clear hM; intro w hM)))
    exact bp_x2 rfl rfl (res_tmp rfl) (res_M 0 hM ag35 rfl rfl rfl) ⟨V2, k, 0, 0, _, hV2, hM.dropn 1, rfl, ⟨sc, _, rfl, hsv, .inl ⟨rfl, hx2⟩⟩, fun _ => ⟨rfl, hk⟩⟩
  · (repeat (first | refine seq_ ?_ | refine sq_normal ?_ | refine rl_nil ?_ | refine rl_assign (v := (Value.int _ _ : Value)) rfl rfl ?_ | refine rl_move (v := (Value.tuple _ : Value)) rfl rfl ?_ | refine rl_extract rfl rfl rfl ?_ | (refine rl_storeWM 3 hM ag32 rfl rfl rfl rfl rfl rfl rfl ?_; clear hM; intro w hM) | (refine rl_storeWM 0 hM ag35 rfl rfl rfl rfl rfl rfl rfl ?_; clear hM; intro w hM)))
    (refine drawnM_ 3 [(0, false), (1, false), (2, false)] (fun w => Mem w0 w _ _) hM mo (by kernel_rfl) (fun _ h => h) ?_; clear hM; intro w hM; (try (refine rx_move (v := (Value.int _ _ : Value)) rfl rfl rfl ?_; (try (refine rx_loadAM (vs := [_, _]) 0 rfl (fun _ h => h) ag35 rfl rfl rfl rfl rfl ?_; (try (refine rx_assign (v := (Value.int _ _ : Value)) rfl rfl rfl ?_)))))))
    refine rx_nil rfl ?_
    (repeat (first | refine sq_normal ?_ | refine rl_nil ?_ | refine ret_ ?_ | refine np_normal ?_ | (refine rl_storeWM 0 hM ag35 rfl rfl rfl rfl rfl rfl rfl ?_; clear hM; intro w hM)))
    exact bp_x2 rfl rfl (res_tmp rfl) (res_M 0 hM ag35 rfl rfl rfl) ⟨V2, 0, e, a, _, hV2, hM.dropn 1, rfl, ⟨schz, _, rfl, SchV.z _, .inr ⟨he, hx2⟩⟩, fun h => absurd h he⟩
/-- A source's scheme, or its first refusal. -/
def RSP (w0 : World) (L : List Ent) (V : Vw) (x : Except (Int × Int) Sch) (r : Value) (w' : World) : Prop :=
  ∃ V' cs sc e a, VLe V V' ∧ Mem w0 w' L V' ∧ r = .tuple #[.agg cs.toArray, pairV e a] ∧ SchV V' sc cs ∧ ((x = .ok sc ∧ e = 0 ∧ a = 0) ∨ (x = .error (e, a) ∧ e ≠ 0 ∧ cs = z7 ∧ sc = schz))
theorem WS.le {b : Nat} {V V' : Vw} {X : Ent} {l : List Tok} {k : Nat} {e a : Int} (hV : VLe V V') (h : WS b V X l k e a) : WS b V' X l k e a := by
  obtain ⟨sc, cs, h1, h2, h3⟩ := h
  exact ⟨sc, cs, h1, h2.le hV, h3⟩
theorem readS_fin {s : List UInt8} {l : List Tok} {t : Sch} {k : Nat} {u : Tok} {e a : Int} (h : lexA s = .ok l) (h2 : scheme l 0 = .ok (t, k)) (h3 : l[k]? = some u) (h4 : (u.k = 6 ∧ e = 0 ∧ a = 0) ∨ (u.k ≠ 6 ∧ e = 12 ∧ a = u.a)) :
    (readS s = .ok t ∧ e = 0 ∧ a = 0) ∨ (readS s = .error (e, a) ∧ e ≠ 0) := by
  rw [readS_k h h2 h3]
  rcases h4 with ⟨h5, rfl, rfl⟩ | ⟨h5, rfl, rfl⟩
  · rw [if_pos h5]; exact .inl ⟨rfl, rfl, rfl⟩
  · rw [if_neg h5]; exact .inr ⟨rfl, by decide⟩
set_option maxHeartbeats 4000000 in
theorem readScheme_ok (s : List UInt8) (w0 w : World) (L : List Ent) (V : Vw) (hM : Mem w0 w L V) (hs : s.length ≤ 1000000) : CallsOk Tryd.prog 7 #[St s] w (RSP w0 L V (readS s)) := by
  refine enter_ (N := 16) Tryd.func7 rfl rfl rfl ?_
  (repeat (first | refine seq_ ?_ | refine sq_normal ?_ | refine rl_nil ?_ | (refine region_ (id := 0) ?_; (try ((refine rl_allocAM (d := 2) hM ag32 rfl ?_; clear hM; intro w b2 hM); (try ((refine rl_allocAM (d := 3) hM ag35 rfl ?_; clear hM; intro w b3 hM)))))) | (refine region_ (id := 1) ?_; (try ((refine rl_allocAM (d := 4) hM ag32 rfl ?_; clear hM; intro w b4 hM)))) | (refine region_ (id := 2) ?_; (try (refine rl_move (v := (Value.string _ : Value)) rfl rfl ?_; (try (refine rl_mkfunc1 (v1 := Value.pointer (some _)) rfl rfl ?_)))))))
  refine rl_callf fn17 (read_ok 18 fn18 [.pointer (some ⟨b4, 0, none⟩)] s w0 w _ V (.blk b4 z7 32) (WS b4) (fun _ _ _ _ _ _ _ h1 h2 => h2.le h1) hM hs (rscheme1_ok b4 w0 _ V)) rfl rfl ?_
  clear hM
  rintro _ w ⟨V1, X', e, a, hV1, hM, rfl, hst⟩
  have key : ∃ sc cs, X' = .blk b4 cs 32 ∧ SchV V1 sc cs ∧ ((readS s = .ok sc ∧ e = 0 ∧ a = 0) ∨ (readS s = .error (e, a) ∧ e ≠ 0)) := by
    rcases hst with ⟨n, hx, rfl, he, rfl⟩ | ⟨l, k, e', a', hx, hW, hst⟩
    · exact ⟨schz, z7, rfl, SchV.z _, .inr ⟨readS_l hx, he⟩⟩
    · obtain ⟨sc, cs, rfl, hc, h3⟩ := hW
      refine ⟨sc, cs, rfl, hc, ?_⟩
      rcases hst with ⟨h4, rfl, rfl⟩ | ⟨rfl, u, hu, h5⟩
      · rcases h3 with ⟨h5, _⟩ | ⟨_, h5⟩
        · exact absurd h5 h4
        · exact .inr ⟨readS_e hx h5, h4⟩
      · rcases h3 with ⟨_, h6⟩ | ⟨h6, _⟩
        · exact readS_fin hx h6 hu h5
        · exact absurd rfl h6
  clear hst
  obtain ⟨sc, cs, rfl, hc, hst⟩ := key
  obtain ⟨va', vc', pa', pc', f1, n1, s1, a1, k1, c1, hsh⟩ := id hc.shape
  subst hsh
  rcases hst with ⟨hx, rfl, rfl⟩ | ⟨hx, he⟩
  · (repeat (first | refine seq_ ?_ | refine sq_normal ?_ | refine rl_nil ?_ | refine cond_f rfl ?_ | refine skip_ ?_ | refine ret_ ?_ | (refine region_ (id := 3) ?_; (try (refine rl_fld fd35_0 rfl rfl ?_; (try (refine rl_loadM 0 hM vt33 rfl rfl rfl (by first | rfl | assumption) ?_; (try ((refine rl_neq_f rfl rfl rfl ?_ ?_; omega)))))))) | (refine region_ (id := 5) ?_; (try (refine rl_loadAM (vs := [_, _, _, _, _, _, _]) 1 hM ag32 rfl rfl rfl rfl rfl ?_; (try (refine rl_build [(Value.int .i64 0), (Value.int .i64 0)] ag35 pl35 rfl rfl rfl ?_; (try ((refine rl_storeWM 3 hM ag32 rfl rfl rfl rfl rfl rfl rfl ?_; clear hM; intro w hM); (try ((refine rl_storeWM 2 hM ag35 rfl rfl rfl rfl rfl rfl rfl ?_; clear hM; intro w hM)))))))))) | (refine rl_allocAM (d := 5) hM ag35 rfl ?_; clear hM; intro w b5 hM) | (refine rl_storeWM 0 hM ag35 rfl rfl rfl rfl rfl rfl rfl ?_; clear hM; intro w hM)))
    exact bp_x2 rfl rfl (res_M 3 hM ag32 rfl rfl rfl) (res_M 2 hM ag35 rfl rfl rfl) ⟨V1, _, sc, 0, 0, hV1, hM.dropn 4, rfl, hc, .inl ⟨hx, rfl, rfl⟩⟩
  · (repeat (first | refine seq_ ?_ | refine sq_normal ?_ | refine rl_nil ?_ | refine cond_t rfl ?_ | (refine region_ (id := 3) ?_; (try (refine rl_fld fd35_0 rfl rfl ?_; (try (refine rl_loadM 0 hM vt33 rfl rfl rfl (by first | rfl | assumption) ?_; (try ((refine rl_neq_t rfl rfl rfl ?_ ?_; omega)))))))) | (refine rl_allocAM (d := 5) hM ag35 rfl ?_; clear hM; intro w b5 hM) | (refine rl_storeWM 0 hM ag35 rfl rfl rfl rfl rfl rfl rfl ?_; clear hM; intro w hM)))
    (refine drawnM_ 3 [(0, false), (1, false), (2, true)] (fun w => Mem w0 w _ _) hM mo (by kernel_rfl) (fun _ h => h) ?_; clear hM; intro w hM; (try (refine rx_build [(Value.slice none 0 0), (Value.slice none 0 0), (Value.slice none 0 0), (Value.int .i64 0), (Value.int .i64 0), (St []), (Value.slice none 0 0)] rfl ag32 pl32 rfl rfl rfl ?_; (try (refine rx_loadAM (vs := [_, _]) 0 rfl (fun _ h => h) ag35 rfl rfl rfl rfl rfl ?_)))))
    refine rx_eff rfl (fun K hK => ?_)
    (repeat (first | refine rl_nil ?_ | (refine rl_storeWM 3 hM ag32 rfl rfl rfl rfl rfl rfl rfl ?_; clear hM; intro w hM)))
    refine kq_normal (hK _ _ hM ?_)
    refine rx_nil rfl ?_
    (repeat (first | refine sq_normal ?_ | refine sq_ret ?_ | refine rl_nil ?_ | refine ret_ ?_ | refine np_normal ?_ | (refine rl_storeWM 2 hM ag35 rfl rfl rfl rfl rfl rfl rfl ?_; clear hM; intro w hM)))
    exact bp_x2 rfl rfl (res_M 3 hM ag32 rfl rfl rfl) (res_M 2 hM ag35 rfl rfl rfl) ⟨V1, _, schz, e, a, hV1, hM.dropn 4, rfl, SchV.z _, .inr ⟨hx, he, rfl, rfl⟩⟩
end Go.Proofs.YtadbinckjmdokaaDoor.Trd
