/- The walk of tread.Preds. -/
import Derived.Test.YtadbinckjmdokaaDoorDrdW7
set_option linter.unusedVariables false
set_option linter.unusedSimpArgs false
namespace Go.Proofs.YtadbinckjmdokaaDoor.Trd
open Go Go.Eng Go.RowKit Go.Tr Go.Lx
attribute [local irreducible] RL RX KQ SQ Exit.inBlock Exit.then BP NP CallsOk IsSl IsRows IsInts IsBools Own Blk Code.wp Calls wpList
/-- Predicates and what is behind their sign, told. -/
def PsP (w0 : World) (L : List Ent) (V : Vw) (n : Nat) (x : Except (Int × Int) (List Pd × Nat)) (r : Value) (w' : World) : Prop :=
  (∃ V' v ps, ∃ j : Nat, VLe V V' ∧ Mem w0 w' L V' ∧ r = .tuple #[v, .int .i64 j, pairV 0 0] ∧ x = .ok (ps, j) ∧ PdSl V' v ps ∧ j < n) ∨
  (∃ V' e a, VLe V V' ∧ Mem w0 w' L V' ∧ r = .tuple #[.slice none 0 0, .int .i64 0, pairV e a] ∧ x = .error (e, a) ∧ e ≠ 0)
set_option maxRecDepth 4000 in
set_option maxHeartbeats 8000000 in
theorem preds_ok (l : List Tok) (i : Nat) (v : Value) (w0 w : World) (L : List Ent) (V : Vw) (hM : Mem w0 w L V) (hl : IsTk V v l) (hT : TOk l) (hi : i < l.length) :
    CallsOk Tryd.prog 33 #[v, .int .i64 i] w (PsP w0 L V l.length (preds l i)) := by
  obtain ⟨va, vc, vb, vo, rfl, g1, g2, g3, g4⟩ := id hl
  have g3' := g3 (by omega)
  subst g3'
  have hfew := hT.few
  have hml := maxLen_le
  have hmx : 10000000 ≤ maxLen := by unfold maxLen; omega
  obtain ⟨t, ht⟩ : ∃ t, l[i]? = some t := ⟨_, List.getElem?_eq_getElem hi⟩
  have hr : VRow V vb (vo + i * 4) (tC t) := g4 i t ht
  obtain ⟨hn4, hkI, hnI, haI, hsl⟩ := hT.sane t (List.mem_of_getElem? ht)
  refine enter_ (N := 59) Tryd.func33 rfl rfl rfl ?_
  (repeat (first | refine seq_ ?_ | refine sq_normal ?_ | refine rl_nil ?_ | (refine region_ (id := 0) ?_; (try (refine rl_assign (v := (Value.slice _ _ _ : Value)) rfl rfl ?_; (try (refine rl_assign (v := (Value.int _ _ : Value)) rfl rfl ?_; (try ((refine rl_allocAM (d := 6) hM ag35 rfl ?_; clear hM; intro w b6 hM)))))))) | (refine region_ (id := 1) ?_; (try (refine rl_move (v := (Value.slice _ _ _ : Value)) rfl rfl ?_; (try (refine rl_move (v := (Value.int _ _ : Value)) rfl rfl ?_)))))))
  refine rl_callf fn49 (pred_ok l i 0 _ w0 w _ V hM hl hT hi (by omega)) rfl rfl ?_
  clear hM
  rintro _ w ⟨V2, ps, p, j, bo, hV2, hM, rfl, hp, hst⟩
  obtain ⟨f1, n1, s1, a1, k1, c1, rfl, _⟩ := id hp.shape
  have hr2 : VRow V2 vb (vo + i * 4) (tC t) := hr.le hV2
  (repeat (first | refine seq_ ?_ | refine sq_normal ?_ | refine rl_nil ?_ | (refine region_ (id := 2) ?_; (try (refine rl_loadAM (vs := [_, _, _, _, _]) 0 hM ag42 rfl rfl rfl rfl rfl ?_; (try ((refine rl_bsliceM (d := 19) [_] hM sl30 rfl rfl rfl rfl rfl (by decide) (by decide) ?_; clear hM; intro w b19 hM); (try (refine rl_assign (v := (Value.slice _ _ _ : Value)) rfl rfl ?_))))))) | (refine region_ (id := 3) ?_; (try (refine rl_move (v := (Value.slice _ _ _ : Value)) rfl rfl ?_; (try (refine rl_move (v := (Value.int _ _ : Value)) rfl rfl ?_; (try ((refine rl_idx sl52 rfl rfl rfl rfl ?_ ?_ ?_; omega; omega); (try (refine rl_loadAV hM ag70 rfl rfl (by assumption) (by rfl) ?_))))))))) | refine rl_assign (v := (Value.int _ _ : Value)) rfl rfl ?_ | refine rl_move (v := (Value.tuple _ : Value)) rfl rfl ?_ | refine rl_extract rfl rfl rfl ?_ | (refine rl_allocAM (d := 7) hM ag42 rfl ?_; clear hM; intro w b7 hM) | (refine rl_storeWM 0 hM ag42 rfl rfl rfl rfl rfl rfl rfl ?_; clear hM; intro w hM) | refine rl_assign (v := (Value.bool _ : Value)) rfl rfl ?_))
  refine rl_callf fn50 (is_ok t [40] w0 w _ V2 hM hn4) rfl rfl ?_
  clear hM
  rintro _ w ⟨rfl, hM⟩
  cases h3 : sym [40] t with
  | true =>
    have hk4 := sym_k h3
    have hmore := hT.more i t ht (by omega)
    have hpr := predsR_in ht h3
    (repeat (first | refine sq_normal ?_ | refine rl_nil ?_ | refine cond_t rfl ?_ | (refine region_ (id := 4) ?_; (try (refine rl_move (v := (Value.slice _ _ _ : Value)) rfl rfl ?_; (try (refine rl_move (v := (Value.int _ _ : Value)) rfl rfl ?_; (try ((refine rl_add rfl rfl rfl ?_ ?_ ?_; omega; omega))))))))))
    refine rl_callf fn51 (list_ok l (i + 1) _ w0 w _ V2 hM (hl.le hV2) hT hmore) rfl rfl ?_
    clear hM
    rintro _ w hres
    rcases hres with ⟨V3, v3, qs, q, hV3, hM, rfl, hx, hqs, hq⟩ | ⟨V3, hV3, hM, rfl, hx⟩
    · obtain ⟨a3, c3, rfl, hc1, hc2⟩ := id hqs.open'
      obtain ⟨u, hu⟩ : ∃ u, l[q]? = some u := ⟨_, List.getElem?_eq_getElem hq⟩
      have hql := plist_len _ _ _ _ hx
      have hru : VRow V3 vb (vo + q * 4) (tC u) := (g4 q u hu).le (hV2.trans hV3)
      obtain ⟨hun4, huk, hun, hua, husl⟩ := hT.sane u (List.mem_of_getElem? hu)
      have hfin := preds_some (hpr.trans hx) hu ht
      (repeat (first | refine seq_ ?_ | refine sq_normal ?_ | refine rl_nil ?_ | refine block_ ?_ | (refine region_ (id := 5) ?_; (try (refine rl_move (v := (Value.bool _ : Value)) rfl rfl ?_; (try (refine rl_not rfl rfl ?_; (try (refine rl_move (v := (Value.bool _ : Value)) rfl rfl ?_; (try (refine rl_move (v := (Value.slice _ _ _ : Value)) rfl rfl ?_; (try (refine rl_move (v := (Value.int _ _ : Value)) rfl rfl ?_; (try ((refine rl_idx sl52 rfl rfl rfl rfl ?_ ?_ ?_; omega; omega); (try (refine rl_loadAV hM ag70 rfl rfl (by assumption) (by rfl) ?_))))))))))))))) | refine rl_assign (v := (Value.slice _ _ _ : Value)) rfl rfl ?_ | refine rl_assign (v := (Value.int _ _ : Value)) rfl rfl ?_ | refine rl_move (v := (Value.tuple _ : Value)) rfl rfl ?_ | refine rl_extract rfl rfl rfl ?_ | refine rl_assign (v := (Value.bool _ : Value)) rfl rfl ?_))
      refine rl_callf fn50 (is_ok u [61, 62] w0 w _ V3 hM hun4) rfl rfl ?_
      clear hM
      rintro _ w ⟨rfl, hM⟩
      cases hs : sym [61, 62] u with
      | false =>
        rw [hs] at hfin
        (repeat (first | refine seq_ ?_ | refine sq_normal ?_ | refine sq_ret ?_ | refine rl_nil ?_ | refine cond_t rfl ?_ | refine ret_ ?_ | refine inBlock_ret ?_ | (refine region_ (id := 6) ?_; (try (refine rl_move (v := (Value.int _ _ : Value)) rfl rfl ?_; (try (refine rl_build [(Value.int .i64 0), (Value.int .i64 0)] ag35 pl35 rfl rfl rfl ?_; (try (refine rl_assign (v := (Value.slice _ _ _ : Value)) rfl rfl ?_; (try (refine rl_assign (v := (Value.int _ _ : Value)) rfl rfl ?_; (try ((refine rl_storeWM 2 hM ag35 rfl rfl rfl rfl rfl rfl rfl ?_; clear hM; intro w hM)))))))))))) | refine rl_assign (v := (Value.bool _ : Value)) rfl rfl ?_ | refine rl_not rfl rfl ?_ | refine rl_pick (v := (Value.bool _ : Value)) rfl rfl rfl ?_))
        exact bp_x3 rfl rfl (res_tmp rfl) (res_tmp rfl) (res_M 2 hM ag35 rfl rfl rfl) (.inl ⟨V3, _, [], i, hV2.trans hV3, hM.dropn 3, rfl, hfin, PdSl.nil _, hi⟩)
      | true =>
        have huk4 := sym_k hs
        have hum := hT.more q u hu (by omega)
        rw [hs, if_pos rfl] at hfin
        by_cases h16 : 16 < (qs).length
        · rw [if_pos h16] at hfin
          have h16' : (16 : Int) < ((qs).length : Nat) := by omega
          have hrt : VRow V3 vb (vo + i * 4) (tC t) := hr.le (hV2.trans hV3)
          (repeat (first | refine seq_ ?_ | refine sq_normal ?_ | refine rl_nil ?_ | refine cond_t rfl ?_ | refine cond_f rfl ?_ | (refine region_ (id := 7) ?_; (try (refine rl_move (v := (Value.slice _ _ _ : Value)) rfl rfl ?_; (try (refine rl_len sl30 rfl rfl ?_; (try ((refine rl_gtr_t rfl rfl rfl ?_ ?_; omega); (try (refine rl_assign (v := (Value.bool _ : Value)) rfl rfl ?_))))))))) | (refine region_ (id := 8) ?_; (try (refine rl_move (v := (Value.slice _ _ _ : Value)) rfl rfl ?_; (try (refine rl_move (v := (Value.int _ _ : Value)) rfl rfl ?_; (try ((refine rl_idx sl52 rfl rfl rfl rfl ?_ ?_ ?_; omega; omega); (try (refine rl_loadAV hM ag70 rfl rfl (by assumption) (by rfl) ?_))))))))) | refine rl_assign (v := (Value.bool _ : Value)) rfl rfl ?_ | refine rl_not rfl rfl ?_ | refine rl_pick (v := (Value.bool _ : Value)) rfl rfl rfl ?_))
          refine rl_callf fn32 (refuse_ok t 2 w0 w _ V3 hM) rfl rfl ?_
          clear hM
          rintro _ w ⟨rfl, hM⟩
          (repeat (first | refine sq_normal ?_ | refine sq_ret ?_ | refine rl_nil ?_ | refine ret_ ?_ | refine inBlock_ret ?_ | refine rl_assign (v := (Value.slice _ _ _ : Value)) rfl rfl ?_ | refine rl_assign (v := (Value.int _ _ : Value)) rfl rfl ?_ | (refine rl_storeWM 2 hM ag35 rfl rfl rfl rfl rfl rfl rfl ?_; clear hM; intro w hM)))
          exact bp_x3 rfl rfl (res_tmp rfl) (res_tmp rfl) (res_M 2 hM ag35 rfl rfl rfl) (.inr ⟨V3, 2, t.a, hV2.trans hV3, hM.dropn 3, rfl, hfin, by decide⟩)
        · rw [if_neg h16] at hfin
          have h16' : ((qs).length : Nat) ≤ (16 : Int) := by omega
          (repeat (first | refine seq_ ?_ | refine sq_normal ?_ | refine rl_nil ?_ | refine cond_f rfl ?_ | refine skip_ ?_ | refine ret_ ?_ | refine inBlock_normal ?_ | (refine region_ (id := 7) ?_; (try (refine rl_move (v := (Value.slice _ _ _ : Value)) rfl rfl ?_; (try (refine rl_len sl30 rfl rfl ?_; (try ((refine rl_gtr_f rfl rfl rfl ?_ ?_; omega); (try (refine rl_assign (v := (Value.bool _ : Value)) rfl rfl ?_))))))))) | (refine region_ (id := 9) ?_; (try (refine rl_move (v := (Value.slice _ _ _ : Value)) rfl rfl ?_; (try (refine rl_move (v := (Value.int _ _ : Value)) rfl rfl ?_; (try ((refine rl_add rfl rfl rfl ?_ ?_ ?_; omega; omega); (try (refine rl_build [(Value.int .i64 0), (Value.int .i64 0)] ag35 pl35 rfl rfl rfl ?_; (try (refine rl_assign (v := (Value.slice _ _ _ : Value)) rfl rfl ?_; (try (refine rl_assign (v := (Value.int _ _ : Value)) rfl rfl ?_; (try ((refine rl_storeWM 2 hM ag35 rfl rfl rfl rfl rfl rfl rfl ?_; clear hM; intro w hM)))))))))))))))) | refine rl_assign (v := (Value.bool _ : Value)) rfl rfl ?_ | refine rl_not rfl rfl ?_ | refine rl_pick (v := (Value.bool _ : Value)) rfl rfl rfl ?_))
          exact bp_x3 rfl rfl (res_tmp rfl) (res_tmp rfl) (res_M 2 hM ag35 rfl rfl rfl) (.inl ⟨V3, _, qs, q + 1, hV2.trans hV3, hM.dropn 3, rfl, hfin, hqs, hum⟩)
    · (repeat (first | refine seq_ ?_ | refine sq_normal ?_ | refine sq_ret ?_ | refine rl_nil ?_ | refine cond_t rfl ?_ | refine ret_ ?_ | refine block_ ?_ | refine inBlock_ret ?_ | (refine region_ (id := 5) ?_; (try (refine rl_move (v := (Value.bool _ : Value)) rfl rfl ?_; (try (refine rl_not rfl rfl ?_; (try (refine rl_move (v := (Value.bool _ : Value)) rfl rfl ?_; (try (refine rl_off rfl ?_; (try (refine rl_off rfl ?_; (try (refine rl_off rfl ?_; (try (refine rl_off rfl ?_))))))))))))))) | (refine region_ (id := 6) ?_; (try (refine rl_move (v := (Value.int _ _ : Value)) rfl rfl ?_; (try (refine rl_build [(Value.int .i64 0), (Value.int .i64 0)] ag35 pl35 rfl rfl rfl ?_; (try (refine rl_assign (v := (Value.slice _ _ _ : Value)) rfl rfl ?_; (try (refine rl_assign (v := (Value.int _ _ : Value)) rfl rfl ?_; (try ((refine rl_storeWM 2 hM ag35 rfl rfl rfl rfl rfl rfl rfl ?_; clear hM; intro w hM)))))))))))) | refine rl_assign (v := (Value.slice _ _ _ : Value)) rfl rfl ?_ | refine rl_assign (v := (Value.int _ _ : Value)) rfl rfl ?_ | refine rl_move (v := (Value.tuple _ : Value)) rfl rfl ?_ | refine rl_extract rfl rfl rfl ?_ | refine rl_assign (v := (Value.bool _ : Value)) rfl rfl ?_ | refine rl_off rfl ?_ | refine rl_pick (v := (Value.bool _ : Value)) rfl rfl rfl ?_))
      exact bp_x3 rfl rfl (res_tmp rfl) (res_tmp rfl) (res_M 2 hM ag35 rfl rfl rfl) (.inl ⟨V3, _, [], i, hV2.trans hV3, hM.dropn 3, rfl, preds_none (hpr.trans hx), PdSl.nil _, hi⟩)
  | false =>
    have hpr := predsR_one ht h3
    rcases hst with ⟨rfl, hx, hj⟩ | ⟨rfl, hx, rfl⟩
    · rw [hx] at hpr
      have hpr : predsR l i = some ([p], j) := hpr
      have hM : Mem w0 w (.blk b19 [St p.1, .int .i64 f1, .int .i64 n1, St s1, .slice a1 k1 c1] 42 :: .blk b7 [St p.1, .int .i64 f1, .int .i64 n1, St s1, .slice a1 k1 c1] 42 :: .blk b6 [.int .i64 0, .int .i64 0] 35 :: L) V2 := hM
      obtain ⟨V3, hV3, hM2, hcell⟩ := hM.freezeBlk
      clear hM
      have hM := hM2
      have hqs : PdSl V3 (.slice (some ⟨b19, 0, none⟩) 1 1) [p] := PdSl.one (hp.le hV3) hcell
      have hl1 : ([p] : List Pd).length = 1 := rfl
      obtain ⟨u, hu⟩ : ∃ u, l[j]? = some u := ⟨_, List.getElem?_eq_getElem hj⟩
      have hru : VRow V3 vb (vo + j * 4) (tC u) := (g4 j u hu).le (hV2.trans hV3)
      obtain ⟨hun4, huk, hun, hua, husl⟩ := hT.sane u (List.mem_of_getElem? hu)
      have hfin := preds_some hpr hu ht
      (repeat (first | refine seq_ ?_ | refine sq_normal ?_ | refine rl_nil ?_ | refine cond_f rfl ?_ | refine skip_ ?_ | refine block_ ?_ | (refine region_ (id := 5) ?_; (try (refine rl_move (v := (Value.bool _ : Value)) rfl rfl ?_; (try (refine rl_not rfl rfl ?_; (try (refine rl_move (v := (Value.bool _ : Value)) rfl rfl ?_; (try (refine rl_move (v := (Value.slice _ _ _ : Value)) rfl rfl ?_; (try (refine rl_move (v := (Value.int _ _ : Value)) rfl rfl ?_; (try ((refine rl_idx sl52 rfl rfl rfl rfl ?_ ?_ ?_; omega; omega); (try (refine rl_loadAV hM ag70 rfl rfl (by assumption) (by rfl) ?_)))))))))))))))))
      refine rl_callf fn50 (is_ok u [61, 62] w0 w _ V3 hM hun4) rfl rfl ?_
      clear hM
      rintro _ w ⟨rfl, hM⟩
      cases hs : sym [61, 62] u with
      | false =>
        rw [hs] at hfin
        (repeat (first | refine seq_ ?_ | refine sq_normal ?_ | refine sq_ret ?_ | refine rl_nil ?_ | refine cond_t rfl ?_ | refine ret_ ?_ | refine inBlock_ret ?_ | (refine region_ (id := 6) ?_; (try (refine rl_move (v := (Value.int _ _ : Value)) rfl rfl ?_; (try (refine rl_build [(Value.int .i64 0), (Value.int .i64 0)] ag35 pl35 rfl rfl rfl ?_; (try (refine rl_assign (v := (Value.slice _ _ _ : Value)) rfl rfl ?_; (try (refine rl_assign (v := (Value.int _ _ : Value)) rfl rfl ?_; (try ((refine rl_storeWM 1 hM ag35 rfl rfl rfl rfl rfl rfl rfl ?_; clear hM; intro w hM)))))))))))) | refine rl_assign (v := (Value.bool _ : Value)) rfl rfl ?_ | refine rl_not rfl rfl ?_ | refine rl_pick (v := (Value.bool _ : Value)) rfl rfl rfl ?_))
        exact bp_x3 rfl rfl (res_tmp rfl) (res_tmp rfl) (res_M 1 hM ag35 rfl rfl rfl) (.inl ⟨V3, _, [], i, hV2.trans hV3, hM.dropn 2, rfl, hfin, PdSl.nil _, hi⟩)
      | true =>
        have huk4 := sym_k hs
        have hum := hT.more j u hu (by omega)
        rw [hs, if_pos rfl] at hfin
        by_cases h16 : 16 < ([p]).length
        · rw [if_pos h16] at hfin
          have h16' : (16 : Int) < (([p]).length : Nat) := by omega
          have hrt : VRow V3 vb (vo + i * 4) (tC t) := hr.le (hV2.trans hV3)
          (repeat (first | refine seq_ ?_ | refine sq_normal ?_ | refine rl_nil ?_ | refine cond_t rfl ?_ | refine cond_f rfl ?_ | (refine region_ (id := 7) ?_; (try (refine rl_move (v := (Value.slice _ _ _ : Value)) rfl rfl ?_; (try (refine rl_len sl30 rfl rfl ?_; (try ((refine rl_gtr_t rfl rfl rfl ?_ ?_; omega); (try (refine rl_assign (v := (Value.bool _ : Value)) rfl rfl ?_))))))))) | (refine region_ (id := 8) ?_; (try (refine rl_move (v := (Value.slice _ _ _ : Value)) rfl rfl ?_; (try (refine rl_move (v := (Value.int _ _ : Value)) rfl rfl ?_; (try ((refine rl_idx sl52 rfl rfl rfl rfl ?_ ?_ ?_; omega; omega); (try (refine rl_loadAV hM ag70 rfl rfl (by assumption) (by rfl) ?_))))))))) | refine rl_assign (v := (Value.bool _ : Value)) rfl rfl ?_ | refine rl_not rfl rfl ?_ | refine rl_pick (v := (Value.bool _ : Value)) rfl rfl rfl ?_))
          refine rl_callf fn32 (refuse_ok t 2 w0 w _ V3 hM) rfl rfl ?_
          clear hM
          rintro _ w ⟨rfl, hM⟩
          (repeat (first | refine sq_normal ?_ | refine sq_ret ?_ | refine rl_nil ?_ | refine ret_ ?_ | refine inBlock_ret ?_ | refine rl_assign (v := (Value.slice _ _ _ : Value)) rfl rfl ?_ | refine rl_assign (v := (Value.int _ _ : Value)) rfl rfl ?_ | (refine rl_storeWM 1 hM ag35 rfl rfl rfl rfl rfl rfl rfl ?_; clear hM; intro w hM)))
          exact bp_x3 rfl rfl (res_tmp rfl) (res_tmp rfl) (res_M 1 hM ag35 rfl rfl rfl) (.inr ⟨V3, 2, t.a, hV2.trans hV3, hM.dropn 2, rfl, hfin, by decide⟩)
        · rw [if_neg h16] at hfin
          have h16' : (([p]).length : Nat) ≤ (16 : Int) := by omega
          (repeat (first | refine seq_ ?_ | refine sq_normal ?_ | refine rl_nil ?_ | refine cond_f rfl ?_ | refine skip_ ?_ | refine ret_ ?_ | refine inBlock_normal ?_ | (refine region_ (id := 7) ?_; (try (refine rl_move (v := (Value.slice _ _ _ : Value)) rfl rfl ?_; (try (refine rl_len sl30 rfl rfl ?_; (try ((refine rl_gtr_f rfl rfl rfl ?_ ?_; omega); (try (refine rl_assign (v := (Value.bool _ : Value)) rfl rfl ?_))))))))) | (refine region_ (id := 9) ?_; (try (refine rl_move (v := (Value.slice _ _ _ : Value)) rfl rfl ?_; (try (refine rl_move (v := (Value.int _ _ : Value)) rfl rfl ?_; (try ((refine rl_add rfl rfl rfl ?_ ?_ ?_; omega; omega); (try (refine rl_build [(Value.int .i64 0), (Value.int .i64 0)] ag35 pl35 rfl rfl rfl ?_; (try (refine rl_assign (v := (Value.slice _ _ _ : Value)) rfl rfl ?_; (try (refine rl_assign (v := (Value.int _ _ : Value)) rfl rfl ?_; (try ((refine rl_storeWM 1 hM ag35 rfl rfl rfl rfl rfl rfl rfl ?_; clear hM; intro w hM)))))))))))))))) | refine rl_assign (v := (Value.bool _ : Value)) rfl rfl ?_ | refine rl_not rfl rfl ?_ | refine rl_pick (v := (Value.bool _ : Value)) rfl rfl rfl ?_))
          exact bp_x3 rfl rfl (res_tmp rfl) (res_tmp rfl) (res_M 1 hM ag35 rfl rfl rfl) (.inl ⟨V3, _, [p], j + 1, hV2.trans hV3, hM.dropn 2, rfl, hfin, hqs, hum⟩)
    · rw [hx] at hpr
      (repeat (first | refine seq_ ?_ | refine sq_normal ?_ | refine sq_ret ?_ | refine rl_nil ?_ | refine cond_t rfl ?_ | refine cond_f rfl ?_ | refine skip_ ?_ | refine ret_ ?_ | refine block_ ?_ | refine inBlock_ret ?_ | (refine region_ (id := 5) ?_; (try (refine rl_move (v := (Value.bool _ : Value)) rfl rfl ?_; (try (refine rl_not rfl rfl ?_; (try (refine rl_move (v := (Value.bool _ : Value)) rfl rfl ?_; (try (refine rl_off rfl ?_; (try (refine rl_off rfl ?_; (try (refine rl_off rfl ?_; (try (refine rl_off rfl ?_))))))))))))))) | (refine region_ (id := 6) ?_; (try (refine rl_move (v := (Value.int _ _ : Value)) rfl rfl ?_; (try (refine rl_build [(Value.int .i64 0), (Value.int .i64 0)] ag35 pl35 rfl rfl rfl ?_; (try (refine rl_assign (v := (Value.slice _ _ _ : Value)) rfl rfl ?_; (try (refine rl_assign (v := (Value.int _ _ : Value)) rfl rfl ?_; (try ((refine rl_storeWM 2 hM ag35 rfl rfl rfl rfl rfl rfl rfl ?_; clear hM; intro w hM)))))))))))) | refine rl_assign (v := (Value.bool _ : Value)) rfl rfl ?_ | refine rl_off rfl ?_ | refine rl_pick (v := (Value.bool _ : Value)) rfl rfl rfl ?_))
      exact bp_x3 rfl rfl (res_tmp rfl) (res_tmp rfl) (res_M 2 hM ag35 rfl rfl rfl) (.inl ⟨V2, _, [], i, hV2, hM.dropn 3, rfl, preds_none hpr, PdSl.nil _, hi⟩)
end Go.Proofs.YtadbinckjmdokaaDoor.Trd
