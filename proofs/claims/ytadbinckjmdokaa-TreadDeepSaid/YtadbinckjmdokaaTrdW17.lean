/- The walk of fugueref05.Read. -/
import Derived.Test.YtadbinckjmdokaaTrdW13
import Derived.Test.YtadbinckjmdokaaTrdW16
set_option linter.unusedVariables false
set_option linter.unusedSimpArgs false
namespace Go.Proofs.Ytadbinckjmdokaa.Trd
open Go Go.Eng Go.RowKit Go.Tr Go.Lx
attribute [local irreducible] RL RX KQ SQ Exit.inBlock Exit.then BP NP CallsOk IsSl IsRows IsInts IsBools Own Blk Code.wp Calls wpList
theorem nilTs (V : Vw) : IsTs V (.slice none 0 0) [] := isTs_of (b := 0) (off := 0) rfl (Nat.le_refl _) (by unfold maxLen; omega) (fun h => absurd h (by decide)) (fun j u hj => by simp at hj)
/-- What the document's answer is: of a type, or of a scheme. -/
def RXP {α : Type} (w0 : World) (L : List Ent) (V : Vw) (I : Vw → α → List Value → Prop) (x : Except (Int × Int) α) (r : Value) (w' : World) : Prop :=
  ∃ V' cs pv vv e a, ∃ k : Nat, VLe V V' ∧ Mem w0 w' L V' ∧ r = .agg (xC cs pv vv k e a).toArray ∧ ((∃ t, x = .ok t ∧ e = 0 ∧ a = 0 ∧ I V' t (vv :: .slice none 0 0 :: pv :: cs)) ∨ (x = .error (e, a) ∧ e ≠ 0 ∧ cs = zT ∧ pv = .slice none 0 0 ∧ vv = .slice none 0 0))
def IT (V : Vw) (t : Ty) (cs : List Value) : Prop := SchV V ⟨[], [], t⟩ cs
set_option maxRecDepth 4000 in
set_option maxHeartbeats 8000000 in
theorem rread0_ok (s : List UInt8) (w0 w : World) (L : List Ent) (V : Vw) (hM : Mem w0 w L V) (hs : s.length ≤ 1000000) : CallsOk Try.prog 9 #[St s, .bool false] w (RXP w0 L V IT (readT s)) := by
  have hml := maxLen_le
  refine enter_ (N := 42) Try.func9 rfl rfl rfl ?_
  (repeat (first | refine seq_ ?_ | refine sq_normal ?_ | refine rl_nil ?_ | (refine region_ (id := 0) ?_; (try ((refine rl_allocAM (d := 4) hM ag38 rfl ?_; clear hM; intro w b4 hM)))) | (refine region_ (id := 1) ?_; (try (refine rl_move (v := (Value.string _ : Value)) rfl rfl ?_)))))
  refine rl_callf fn14 (reflex_ok s w0 w _ V hM hs) rfl rfl ?_
  clear hM
  rintro _ w ⟨V1, v, l, e, a, hV1, hM, rfl, hl, hst⟩
  obtain ⟨va, vc, vb, vo, rfl, g1, g2, g3, g4⟩ := id hl
  rcases hst with ⟨hx, rfl, rfl⟩ | ⟨rfl, he, n, hx, rfl⟩
  · obtain ⟨hT, hpos, hlen⟩ := lexA_tok hx
    have g3' := g3 hpos
    subst g3'
    (repeat (first | refine seq_ ?_ | refine sq_normal ?_ | refine rl_nil ?_ | refine cond_f rfl ?_ | refine skip_ ?_ | (refine region_ (id := 2) ?_; (try (refine rl_fld fd34_0 rfl rfl ?_; (try (refine rl_loadM 0 hM vt32 rfl rfl rfl (by first | rfl | assumption) ?_; (try ((refine rl_neq_f rfl rfl rfl ?_ ?_; omega)))))))) | (refine region_ (id := 4) ?_; (try (refine rl_move (v := (Value.slice _ _ _ : Value)) rfl rfl ?_))) | refine rl_move (v := (Value.tuple _ : Value)) rfl rfl ?_ | refine rl_extract rfl rfl rfl ?_ | (refine rl_allocAM (d := 6) hM ag34 rfl ?_; clear hM; intro w b6 hM) | refine rl_assign (v := (Value.slice _ _ _ : Value)) rfl rfl ?_ | (refine rl_storeWM 0 hM ag34 rfl rfl rfl rfl rfl rfl rfl ?_; clear hM; intro w hM)))
    refine rl_callf fn17 ((rboth_ok _ _ (Nat.le_refl (fuel l))).2 l 0 0 _ w0 w _ V1 hM hl hT hpos (by omega) (by unfold fuel; omega)) rfl rfl ?_
    clear hM
    rintro _ w hres
    rcases hres with ⟨V2, cs, x, k, hV2, hM, rfl, hx2, hc, hk⟩ | ⟨V2, e, a, hV2, hM, rfl, hx2, he⟩
    · obtain ⟨f1, n1, s1, a1, k1, c1, rfl, _⟩ := id hc.shape
      obtain ⟨t, ht⟩ : ∃ t, l[k]? = some t := ⟨_, List.getElem?_eq_getElem hk⟩
      have hr : VRow V2 vb (vo + k * 4) (tD t) := (g4 k t ht).le hV2
      have hfin := readT_k hx hx2 ht
      by_cases h6 : t.k = 6
      · rw [if_pos h6] at hfin
        (repeat (first | refine seq_ ?_ | refine sq_normal ?_ | refine rl_nil ?_ | refine cond_f rfl ?_ | refine skip_ ?_ | refine ret_ ?_ | (refine region_ (id := 5) ?_; (try (refine rl_move (v := (Value.bool _ : Value)) rfl rfl ?_))) | (refine region_ (id := 7) ?_; (try (refine rl_fld fd38_4 rfl rfl ?_; (try (refine rl_fld fd34_0 rfl rfl ?_; (try (refine rl_loadM 0 hM vt32 rfl rfl rfl (by first | rfl | assumption) ?_; (try ((refine rl_neq_f rfl rfl rfl ?_ ?_; omega)))))))))) | (refine region_ (id := 9) ?_; (try (refine rl_move (v := (Value.slice _ _ _ : Value)) rfl rfl ?_; (try (refine rl_fld fd38_3 rfl rfl ?_; (try (refine rl_loadM 0 hM vt3 rfl rfl rfl (by first | rfl | assumption) ?_; (try ((refine rl_idx sl47 rfl rfl rfl rfl ?_ ?_ ?_; omega; omega); (try (refine rl_fld fd73_0 rfl rfl ?_; (try (refine rl_loadV hM vt3 rfl rfl (by first | assumption | exact VRow.get (by assumption) rfl | exact VRow.get0 (by assumption) rfl) ?_; (try ((refine rl_neq_f rfl rfl rfl ?_ ?_; omega)))))))))))))))) | (refine region_ (id := 11) ?_; (try (refine rl_loadAM (vs := [_, _, _, _, _, _, _, _, _]) 0 hM ag38 rfl rfl rfl rfl rfl ?_; (try ((refine rl_storeWM 2 hM ag38 rfl rfl rfl rfl rfl rfl rfl ?_; clear hM; intro w hM)))))) | (refine rl_storeWM 0 hM ag38 rfl rfl rfl rfl rfl rfl rfl ?_; clear hM; intro w hM) | (refine rl_allocAM (d := 7) hM ag38 rfl ?_; clear hM; intro w b7 hM)))
        exact bp_x1 rfl rfl (res_M 2 hM ag38 rfl rfl rfl) ⟨V2, [.int .i64 f1, .int .i64 n1, St s1, .slice a1 k1 c1], _, _, 0, 0, k, hV1.trans hV2, hM.dropn 3, rfl, .inl ⟨x, hfin, rfl, rfl, _, _, _, rfl, nilTs _, PdSl.nil _, hc, by simp, by simp⟩⟩
      · rw [if_neg h6] at hfin
        (repeat (first | refine seq_ ?_ | refine sq_normal ?_ | refine rl_nil ?_ | refine cond_t rfl ?_ | refine cond_f rfl ?_ | refine skip_ ?_ | (refine region_ (id := 5) ?_; (try (refine rl_move (v := (Value.bool _ : Value)) rfl rfl ?_))) | (refine region_ (id := 7) ?_; (try (refine rl_fld fd38_4 rfl rfl ?_; (try (refine rl_fld fd34_0 rfl rfl ?_; (try (refine rl_loadM 0 hM vt32 rfl rfl rfl (by first | rfl | assumption) ?_; (try ((refine rl_neq_f rfl rfl rfl ?_ ?_; omega)))))))))) | (refine region_ (id := 9) ?_; (try (refine rl_move (v := (Value.slice _ _ _ : Value)) rfl rfl ?_; (try (refine rl_fld fd38_3 rfl rfl ?_; (try (refine rl_loadM 0 hM vt3 rfl rfl rfl (by first | rfl | assumption) ?_; (try ((refine rl_idx sl47 rfl rfl rfl rfl ?_ ?_ ?_; omega; omega); (try (refine rl_fld fd73_0 rfl rfl ?_; (try (refine rl_loadV hM vt3 rfl rfl (by first | assumption | exact VRow.get (by assumption) rfl | exact VRow.get0 (by assumption) rfl) ?_; (try ((refine rl_neq_t rfl rfl rfl ?_ ?_; omega)))))))))))))))) | (refine region_ (id := 10) ?_; (try (refine rl_move (v := (Value.slice _ _ _ : Value)) rfl rfl ?_; (try (refine rl_fld fd38_3 rfl rfl ?_; (try (refine rl_loadM 0 hM vt3 rfl rfl rfl (by first | rfl | assumption) ?_; (try ((refine rl_idx sl47 rfl rfl rfl rfl ?_ ?_ ?_; omega; omega); (try (refine rl_loadAV hM ag73 rfl rfl (by assumption) (by rfl) ?_))))))))))) | (refine rl_storeWM 0 hM ag38 rfl rfl rfl rfl rfl rfl rfl ?_; clear hM; intro w hM) | (refine rl_allocAM (d := 7) hM ag38 rfl ?_; clear hM; intro w b7 hM)))
        refine rl_callf fn33 (bad_ok t 12 w0 w _ V2 hM) rfl rfl ?_
        clear hM
        rintro _ w ⟨rfl, hM⟩
        (repeat (first | refine sq_normal ?_ | refine sq_ret ?_ | refine rl_nil ?_ | refine ret_ ?_ | (refine rl_storeWM 2 hM ag38 rfl rfl rfl rfl rfl rfl rfl ?_; clear hM; intro w hM)))
        exact bp_x1 rfl rfl (res_M 2 hM ag38 rfl rfl rfl) ⟨V2, zT, _, _, 12, t.a, 0, hV1.trans hV2, hM.dropn 3, rfl, .inr ⟨hfin, by decide, rfl, rfl, rfl⟩⟩
    · (repeat (first | refine seq_ ?_ | refine sq_normal ?_ | refine sq_ret ?_ | refine rl_nil ?_ | refine cond_t rfl ?_ | refine cond_f rfl ?_ | refine skip_ ?_ | refine ret_ ?_ | (refine region_ (id := 5) ?_; (try (refine rl_move (v := (Value.bool _ : Value)) rfl rfl ?_))) | (refine region_ (id := 7) ?_; (try (refine rl_fld fd38_4 rfl rfl ?_; (try (refine rl_fld fd34_0 rfl rfl ?_; (try (refine rl_loadM 0 hM vt32 rfl rfl rfl (by first | rfl | assumption) ?_; (try ((refine rl_neq_t rfl rfl rfl ?_ ?_; omega)))))))))) | (refine region_ (id := 8) ?_; (try (refine rl_loadAM (vs := [_, _, _, _, _, _, _, _, _]) 0 hM ag38 rfl rfl rfl rfl rfl ?_; (try ((refine rl_storeWM 2 hM ag38 rfl rfl rfl rfl rfl rfl rfl ?_; clear hM; intro w hM)))))) | (refine rl_storeWM 0 hM ag38 rfl rfl rfl rfl rfl rfl rfl ?_; clear hM; intro w hM) | (refine rl_allocAM (d := 7) hM ag38 rfl ?_; clear hM; intro w b7 hM)))
      exact bp_x1 rfl rfl (res_M 2 hM ag38 rfl rfl rfl) ⟨V2, zT, _, _, e, a, 0, hV1.trans hV2, hM.dropn 3, rfl, .inr ⟨readT_e hx hx2, he, rfl, rfl, rfl⟩⟩
  · (repeat (first | refine seq_ ?_ | refine sq_normal ?_ | refine sq_ret ?_ | refine rl_nil ?_ | refine cond_t rfl ?_ | refine ret_ ?_ | (refine region_ (id := 2) ?_; (try (refine rl_fld fd34_0 rfl rfl ?_; (try (refine rl_loadM 0 hM vt32 rfl rfl rfl (by first | rfl | assumption) ?_; (try ((refine rl_neq_t rfl rfl rfl ?_ ?_; omega)))))))) | (refine region_ (id := 3) ?_; (try (refine rl_loadAM (vs := [_, _]) 0 hM ag34 rfl rfl rfl rfl rfl ?_; (try (refine rl_build [(Value.int .i64 0), (Value.int .i64 0), (St []), (Value.slice none 0 0), (Value.slice none 0 0), (Value.slice none 0 0), (Value.int .i64 0), _, _] ag38 pl38 rfl rfl rfl ?_; (try ((refine rl_storeWM 1 hM ag38 rfl rfl rfl rfl rfl rfl rfl ?_; clear hM; intro w hM)))))))) | refine rl_move (v := (Value.tuple _ : Value)) rfl rfl ?_ | refine rl_extract rfl rfl rfl ?_ | (refine rl_allocAM (d := 6) hM ag34 rfl ?_; clear hM; intro w b6 hM) | refine rl_assign (v := (Value.slice _ _ _ : Value)) rfl rfl ?_ | (refine rl_storeWM 0 hM ag34 rfl rfl rfl rfl rfl rfl rfl ?_; clear hM; intro w hM)))
    exact bp_x1 rfl rfl (res_M 1 hM ag38 rfl rfl rfl) ⟨V1, zT, _, _, e, n, 0, hV1, hM.dropn 2, rfl, .inr ⟨readT_l hx, he, rfl, rfl, rfl⟩⟩
set_option maxRecDepth 4000 in
set_option maxHeartbeats 8000000 in
theorem rread1_ok (s : List UInt8) (w0 w : World) (L : List Ent) (V : Vw) (hM : Mem w0 w L V) (hs : s.length ≤ 1000000) : CallsOk Try.prog 9 #[St s, .bool true] w (RXP w0 L V SchV (readS s)) := by
  have hml := maxLen_le
  refine enter_ (N := 42) Try.func9 rfl rfl rfl ?_
  (repeat (first | refine seq_ ?_ | refine sq_normal ?_ | refine rl_nil ?_ | (refine region_ (id := 0) ?_; (try ((refine rl_allocAM (d := 4) hM ag38 rfl ?_; clear hM; intro w b4 hM)))) | (refine region_ (id := 1) ?_; (try (refine rl_move (v := (Value.string _ : Value)) rfl rfl ?_)))))
  refine rl_callf fn14 (reflex_ok s w0 w _ V hM hs) rfl rfl ?_
  clear hM
  rintro _ w ⟨V1, v, l, e, a, hV1, hM, rfl, hl, hst⟩
  obtain ⟨va, vc, vb, vo, rfl, g1, g2, g3, g4⟩ := id hl
  rcases hst with ⟨hx, rfl, rfl⟩ | ⟨rfl, he, n, hx, rfl⟩
  · obtain ⟨hT, hpos, hlen⟩ := lexA_tok hx
    have g3' := g3 hpos
    subst g3'
    (repeat (first | refine seq_ ?_ | refine sq_normal ?_ | refine rl_nil ?_ | refine cond_f rfl ?_ | refine skip_ ?_ | (refine region_ (id := 2) ?_; (try (refine rl_fld fd34_0 rfl rfl ?_; (try (refine rl_loadM 0 hM vt32 rfl rfl rfl (by first | rfl | assumption) ?_; (try ((refine rl_neq_f rfl rfl rfl ?_ ?_; omega)))))))) | (refine region_ (id := 4) ?_; (try (refine rl_move (v := (Value.slice _ _ _ : Value)) rfl rfl ?_))) | refine rl_move (v := (Value.tuple _ : Value)) rfl rfl ?_ | refine rl_extract rfl rfl rfl ?_ | (refine rl_allocAM (d := 6) hM ag34 rfl ?_; clear hM; intro w b6 hM) | refine rl_assign (v := (Value.slice _ _ _ : Value)) rfl rfl ?_ | (refine rl_storeWM 0 hM ag34 rfl rfl rfl rfl rfl rfl rfl ?_; clear hM; intro w hM)))
    refine rl_callf fn17 ((rboth_ok _ _ (Nat.le_refl (fuel l))).2 l 0 0 _ w0 w _ V1 hM hl hT hpos (by omega) (by unfold fuel; omega)) rfl rfl ?_
    clear hM
    rintro rv w hres
    have hany : ∃ V2, ∃ (f n : Int) (s : B) (ad : Option Addr) (q c k : Nat) (e a : Int), VLe V1 V2 ∧ Mem w0 w (.blk b6 [.int .i64 0, .int .i64 0] 34 :: .blk b4 z9 38 :: L) V2 ∧ rv = .agg (xC [.int .i64 f, .int .i64 n, St s, .slice ad q c] nilS nilS k e a).toArray := by
      rcases hres with ⟨V2, cs, x, k, hV2, hM, rfl, hx2, hc, hk⟩ | ⟨V2, e, a, hV2, hM, rfl, hx2, he⟩
      · obtain ⟨f1, n1, s1, a1, k1, c1, rfl, _⟩ := id hc.shape
        exact ⟨V2, _, _, _, _, _, _, k, 0, 0, hV2, hM, rfl⟩
      · exact ⟨V2, _, _, _, _, _, _, 0, e, a, hV2, hM, rfl⟩
    clear hres
    obtain ⟨V2, f0, n0, s0, a0, q0, c0, k, e, a, hV2, hM, rfl⟩ := hany
    (repeat (first | refine seq_ ?_ | refine sq_normal ?_ | refine rl_nil ?_ | refine cond_t rfl ?_ | (refine region_ (id := 5) ?_; (try (refine rl_move (v := (Value.bool _ : Value)) rfl rfl ?_))) | (refine region_ (id := 6) ?_; (try (refine rl_move (v := (Value.slice _ _ _ : Value)) rfl rfl ?_))) | (refine rl_storeWM 0 hM ag38 rfl rfl rfl rfl rfl rfl rfl ?_; clear hM; intro w hM) | (refine rl_allocAM (d := 7) hM ag38 rfl ?_; clear hM; intro w b7 hM)))
    refine rl_callf fn25 (rscheme_ok l 0 _ w0 w _ V2 hM (hl.le hV2) hT hpos) rfl rfl ?_
    clear hM
    rintro _ w hres
    rcases hres with ⟨V3, vv, pv, ds, sc, q, hV3, hM, rfl, hx2, hvs, hps, hc, hq, hvl, hpl⟩ | ⟨V3, e, a, hV3, hM, rfl, hx2, he⟩
    · have hsv : SchV V3 sc (vv :: .slice none 0 0 :: pv :: ds) := ⟨_, _, _, rfl, hvs, hps, hc, by omega, hpl⟩
      obtain ⟨va', vc', pa', pc', f1, n1, s1, a1, k1, c1, hsh⟩ := id hsv.shape
      cases hsh
      obtain ⟨t, ht⟩ : ∃ t, l[q]? = some t := ⟨_, List.getElem?_eq_getElem hq⟩
      have hr : VRow V3 vb (vo + q * 4) (tD t) := ((g4 q t ht).le hV2).le hV3
      have hfin := readS_k hx hx2 ht
      by_cases h6 : t.k = 6
      · rw [if_pos h6] at hfin
        (repeat (first | refine seq_ ?_ | refine sq_normal ?_ | refine rl_nil ?_ | refine cond_f rfl ?_ | refine skip_ ?_ | refine ret_ ?_ | (refine region_ (id := 7) ?_; (try (refine rl_fld fd38_4 rfl rfl ?_; (try (refine rl_fld fd34_0 rfl rfl ?_; (try (refine rl_loadM 0 hM vt32 rfl rfl rfl (by first | rfl | assumption) ?_; (try ((refine rl_neq_f rfl rfl rfl ?_ ?_; omega)))))))))) | (refine region_ (id := 9) ?_; (try (refine rl_move (v := (Value.slice _ _ _ : Value)) rfl rfl ?_; (try (refine rl_fld fd38_3 rfl rfl ?_; (try (refine rl_loadM 0 hM vt3 rfl rfl rfl (by first | rfl | assumption) ?_; (try ((refine rl_idx sl47 rfl rfl rfl rfl ?_ ?_ ?_; omega; omega); (try (refine rl_fld fd73_0 rfl rfl ?_; (try (refine rl_loadV hM vt3 rfl rfl (by first | assumption | exact VRow.get (by assumption) rfl | exact VRow.get0 (by assumption) rfl) ?_; (try ((refine rl_neq_f rfl rfl rfl ?_ ?_; omega)))))))))))))))) | (refine region_ (id := 11) ?_; (try (refine rl_loadAM (vs := [_, _, _, _, _, _, _, _, _]) 0 hM ag38 rfl rfl rfl rfl rfl ?_; (try ((refine rl_storeWM 2 hM ag38 rfl rfl rfl rfl rfl rfl rfl ?_; clear hM; intro w hM)))))) | (refine rl_storeWM 0 hM ag38 rfl rfl rfl rfl rfl rfl rfl ?_; clear hM; intro w hM)))
        exact bp_x1 rfl rfl (res_M 2 hM ag38 rfl rfl rfl) ⟨V3, [.int .i64 f1, .int .i64 n1, St s1, .slice a1 k1 c1], _, _, 0, 0, q, hV1.trans (hV2.trans hV3), hM.dropn 3, rfl, .inl ⟨sc, hfin, rfl, rfl, hsv⟩⟩
      · rw [if_neg h6] at hfin
        (repeat (first | refine seq_ ?_ | refine sq_normal ?_ | refine rl_nil ?_ | refine cond_t rfl ?_ | refine cond_f rfl ?_ | refine skip_ ?_ | (refine region_ (id := 7) ?_; (try (refine rl_fld fd38_4 rfl rfl ?_; (try (refine rl_fld fd34_0 rfl rfl ?_; (try (refine rl_loadM 0 hM vt32 rfl rfl rfl (by first | rfl | assumption) ?_; (try ((refine rl_neq_f rfl rfl rfl ?_ ?_; omega)))))))))) | (refine region_ (id := 9) ?_; (try (refine rl_move (v := (Value.slice _ _ _ : Value)) rfl rfl ?_; (try (refine rl_fld fd38_3 rfl rfl ?_; (try (refine rl_loadM 0 hM vt3 rfl rfl rfl (by first | rfl | assumption) ?_; (try ((refine rl_idx sl47 rfl rfl rfl rfl ?_ ?_ ?_; omega; omega); (try (refine rl_fld fd73_0 rfl rfl ?_; (try (refine rl_loadV hM vt3 rfl rfl (by first | assumption | exact VRow.get (by assumption) rfl | exact VRow.get0 (by assumption) rfl) ?_; (try ((refine rl_neq_t rfl rfl rfl ?_ ?_; omega)))))))))))))))) | (refine region_ (id := 10) ?_; (try (refine rl_move (v := (Value.slice _ _ _ : Value)) rfl rfl ?_; (try (refine rl_fld fd38_3 rfl rfl ?_; (try (refine rl_loadM 0 hM vt3 rfl rfl rfl (by first | rfl | assumption) ?_; (try ((refine rl_idx sl47 rfl rfl rfl rfl ?_ ?_ ?_; omega; omega); (try (refine rl_loadAV hM ag73 rfl rfl (by assumption) (by rfl) ?_))))))))))) | (refine rl_storeWM 0 hM ag38 rfl rfl rfl rfl rfl rfl rfl ?_; clear hM; intro w hM)))
        refine rl_callf fn33 (bad_ok t 12 w0 w _ V3 hM) rfl rfl ?_
        clear hM
        rintro _ w ⟨rfl, hM⟩
        (repeat (first | refine sq_normal ?_ | refine sq_ret ?_ | refine rl_nil ?_ | refine ret_ ?_ | (refine rl_storeWM 2 hM ag38 rfl rfl rfl rfl rfl rfl rfl ?_; clear hM; intro w hM)))
        exact bp_x1 rfl rfl (res_M 2 hM ag38 rfl rfl rfl) ⟨V3, zT, _, _, 12, t.a, 0, hV1.trans (hV2.trans hV3), hM.dropn 3, rfl, .inr ⟨hfin, by decide, rfl, rfl, rfl⟩⟩
    · (repeat (first | refine seq_ ?_ | refine sq_normal ?_ | refine sq_ret ?_ | refine rl_nil ?_ | refine cond_t rfl ?_ | refine ret_ ?_ | (refine region_ (id := 7) ?_; (try (refine rl_fld fd38_4 rfl rfl ?_; (try (refine rl_fld fd34_0 rfl rfl ?_; (try (refine rl_loadM 0 hM vt32 rfl rfl rfl (by first | rfl | assumption) ?_; (try ((refine rl_neq_t rfl rfl rfl ?_ ?_; omega)))))))))) | (refine region_ (id := 8) ?_; (try (refine rl_loadAM (vs := [_, _, _, _, _, _, _, _, _]) 0 hM ag38 rfl rfl rfl rfl rfl ?_; (try ((refine rl_storeWM 2 hM ag38 rfl rfl rfl rfl rfl rfl rfl ?_; clear hM; intro w hM)))))) | (refine rl_storeWM 0 hM ag38 rfl rfl rfl rfl rfl rfl rfl ?_; clear hM; intro w hM)))
      exact bp_x1 rfl rfl (res_M 2 hM ag38 rfl rfl rfl) ⟨V3, zT, _, _, e, a, 0, hV1.trans (hV2.trans hV3), hM.dropn 3, rfl, .inr ⟨readS_e hx hx2, he, rfl, rfl, rfl⟩⟩
  · (repeat (first | refine seq_ ?_ | refine sq_normal ?_ | refine sq_ret ?_ | refine rl_nil ?_ | refine cond_t rfl ?_ | refine ret_ ?_ | (refine region_ (id := 2) ?_; (try (refine rl_fld fd34_0 rfl rfl ?_; (try (refine rl_loadM 0 hM vt32 rfl rfl rfl (by first | rfl | assumption) ?_; (try ((refine rl_neq_t rfl rfl rfl ?_ ?_; omega)))))))) | (refine region_ (id := 3) ?_; (try (refine rl_loadAM (vs := [_, _]) 0 hM ag34 rfl rfl rfl rfl rfl ?_; (try (refine rl_build [(Value.int .i64 0), (Value.int .i64 0), (St []), (Value.slice none 0 0), (Value.slice none 0 0), (Value.slice none 0 0), (Value.int .i64 0), _, _] ag38 pl38 rfl rfl rfl ?_; (try ((refine rl_storeWM 1 hM ag38 rfl rfl rfl rfl rfl rfl rfl ?_; clear hM; intro w hM)))))))) | refine rl_move (v := (Value.tuple _ : Value)) rfl rfl ?_ | refine rl_extract rfl rfl rfl ?_ | (refine rl_allocAM (d := 6) hM ag34 rfl ?_; clear hM; intro w b6 hM) | refine rl_assign (v := (Value.slice _ _ _ : Value)) rfl rfl ?_ | (refine rl_storeWM 0 hM ag34 rfl rfl rfl rfl rfl rfl rfl ?_; clear hM; intro w hM)))
    exact bp_x1 rfl rfl (res_M 1 hM ag38 rfl rfl rfl) ⟨V1, zT, _, _, e, n, 0, hV1, hM.dropn 2, rfl, .inr ⟨readS_l hx, he, rfl, rfl, rfl⟩⟩
end Go.Proofs.Ytadbinckjmdokaa.Trd
