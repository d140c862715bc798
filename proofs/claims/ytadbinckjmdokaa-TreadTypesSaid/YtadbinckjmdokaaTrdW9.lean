/- The walk of fugueref05.Preds. -/
import Derived.Test.YtadbinckjmdokaaTrdW6
import Derived.Test.YtadbinckjmdokaaTxB
set_option linter.unusedVariables false
set_option linter.unusedSimpArgs false
namespace Go.Proofs.Ytadbinckjmdokaa.Trd
open Go Go.Eng Go.RowKit Go.Tr Go.Lx
attribute [local irreducible] RL RX KQ SQ Exit.inBlock Exit.then BP NP CallsOk IsSl IsRows IsInts IsBools Own Blk Code.wp Calls wpList
abbrev xP (v : Value) (i e a : Int) : List Value := [.int .i64 0, .int .i64 0, St [], nilS, v, nilS, .int .i64 i, .int .i64 e, .int .i64 a]
/-- Predicates and what is behind their sign, as the document's answer has it. -/
def XPs (w0 : World) (L : List Ent) (V : Vw) (n : Nat) (x : Except (Int × Int) (List Pd × Nat)) (r : Value) (w' : World) : Prop :=
  (∃ V' v ps, ∃ j : Nat, VLe V V' ∧ Mem w0 w' L V' ∧ r = .agg (xP v j 0 0).toArray ∧ x = .ok (ps, j) ∧ PdSl V' v ps ∧ j < n) ∨
  (∃ V' e a, VLe V V' ∧ Mem w0 w' L V' ∧ r = .agg (xP nilS 0 e a).toArray ∧ x = .error (e, a) ∧ e ≠ 0)
set_option maxRecDepth 4000 in
set_option maxHeartbeats 16000000 in
theorem rpreds_ok (l : List Tok) (i : Nat) (v : Value) (w0 w : World) (L : List Ent) (V : Vw) (hM : Mem w0 w L V) (hl : IsTk V v l) (hT : TOk l) (hi : i < l.length) :
    CallsOk Try.prog 22 #[v, .int .i64 i] w (XPs w0 L V l.length (preds l i)) := by
  obtain ⟨va, vc, vb, vo, rfl, g1, g2, g3, g4⟩ := id hl
  have g3' := g3 (by omega)
  subst g3'
  have hfew := hT.few
  have hml := maxLen_le
  have hmx : 10000000 ≤ maxLen := by unfold maxLen; omega
  obtain ⟨t, ht⟩ : ∃ t, l[i]? = some t := ⟨_, List.getElem?_eq_getElem hi⟩
  have hr : VRow V vb (vo + i * 4) (tD t) := g4 i t ht
  obtain ⟨hn4, hkI, hnI, haI, hsl⟩ := hT.sane t (List.mem_of_getElem? ht)
  refine enter_ (N := 100) Try.func22 rfl rfl rfl ?_
  (repeat (first | refine seq_ ?_ | refine sq_normal ?_ | refine rl_nil ?_ | (refine region_ (id := 0) ?_; (try ((refine rl_allocAM (d := 4) hM ag38 rfl ?_; clear hM; intro w b4 hM)))) | (refine region_ (id := 1) ?_; (try (refine rl_move (v := (Value.int _ _ : Value)) rfl rfl ?_; (try (refine rl_build [(Value.int .i64 0), (Value.int .i64 0), (St []), (Value.slice none 0 0), (Value.slice none 0 0), (Value.slice none 0 0), _, (Value.int .i64 0), (Value.int .i64 0)] ag38 pl38 rfl rfl rfl ?_; (try ((refine rl_allocAM (d := 5) hM ag38 rfl ?_; clear hM; intro w b5 hM); (try ((refine rl_storeWM 0 hM ag38 rfl rfl rfl rfl rfl rfl rfl ?_; clear hM; intro w hM)))))))))) | (refine region_ (id := 2) ?_; (try (refine rl_assign (v := (Value.int _ _ : Value)) rfl rfl ?_))) | (refine region_ (id := 3) ?_; (try (refine rl_move (v := (Value.int _ _ : Value)) rfl rfl ?_; (try (refine rl_assign (v := (Value.int _ _ : Value)) rfl rfl ?_))))) | (refine region_ (id := 4) ?_; (try (refine rl_move (v := (Value.slice _ _ _ : Value)) rfl rfl ?_; (try (refine rl_move (v := (Value.int _ _ : Value)) rfl rfl ?_; (try ((refine rl_idx sl47 rfl rfl rfl rfl ?_ ?_ ?_; omega; omega); (try (refine rl_loadAV hM ag73 rfl rfl (by assumption) (by rfl) ?_)))))))))))
  refine rl_callf fn45 (ris_ok t [40] w0 w _ V hM) rfl rfl ?_
  clear hM
  rintro _ w ⟨rfl, hM⟩
  cases h3 : sym [40] t with
  | true =>
    have hk4 := sym_k h3
    have hmore := hT.more i t ht (by omega)
    have hpr := predsR_in ht h3
    (repeat (first | refine seq_ ?_ | refine sq_normal ?_ | refine rl_nil ?_ | refine cond_t rfl ?_ | refine block_ ?_ | (refine region_ (id := 5) ?_; (try (refine rl_move (v := (Value.bool _ : Value)) rfl rfl ?_))) | (refine region_ (id := 6) ?_; (try (refine rl_assign (v := (Value.int _ _ : Value)) rfl rfl ?_))) | (refine region_ (id := 7) ?_; (try (refine rl_move (v := (Value.int _ _ : Value)) rfl rfl ?_; (try ((refine rl_add rfl rfl rfl ?_ ?_ ?_; omega; omega); (try (refine rl_assign (v := (Value.int _ _ : Value)) rfl rfl ?_))))))) | (refine region_ (id := 8) ?_; (try (refine rl_assign (v := (Value.slice _ _ _ : Value)) rfl rfl ?_))) | refine rl_assign (v := (Value.bool _ : Value)) rfl rfl ?_))
    have hM : Mem w0 w (.blk b5 (xP nilS i 0 0) 38 :: .blk b4 z9 38 :: L) V := hM
    have hM := hM.newOwn 92 5
    refine loop2 [(7, 8), (9, 12), (25, 68)] 7 9 (fun m v7 v9 wr => ∃ (k g : Nat) (acc : List Pd) (xs : List Value) (V1 : Vw) (a : Option Addr) (c : Nat), v7 = .int .i64 k ∧ v9 = .slice a acc.length c ∧ VLe V V1 ∧ PdsO V1 acc xs ∧ k < l.length ∧ m = l.length - k ∧ acc.length ≤ k ∧
      plist l l.length (i + 1) = (plist l g k).map (fun r => (acc ++ r.1, r.2)) ∧ l.length - k ≤ g ∧ Mem w0 wr (.own (.slice a acc.length c) 92 5 acc.length xs :: .blk b5 (xP nilS i 0 0) 38 :: .blk b4 z9 38 :: L) V1) _
      ⟨i + 1, l.length, [], [], V, none, 0, rfl, rfl, VLe.refl _, PdsO.nil _, hmore, rfl, Nat.zero_le _, by cases plist l l.length (i + 1) <;> rfl, Nat.sub_le _ _, hM⟩ ?_
    clear hM
    rintro m τ v7 v9 w ⟨k, g, acc, xs, V1, a, c, rfl, rfl, hV1, hO, hk, rfl, hak, hg1, hg2, hM⟩ K0 hL0
    obtain ⟨g, rfl⟩ : ∃ g', g = g' + 1 := ⟨g - 1, by omega⟩
    obtain ⟨tk, htk⟩ : ∃ t, l[k]? = some t := ⟨_, List.getElem?_eq_getElem hk⟩
    have hrk : VRow V1 vb (vo + k * 4) (tD tk) := (g4 k tk htk).le hV1
    have hrk0 : V1 ⟨vb, vo + k * 4 + 0, none⟩ = some (.int .i64 tk.k) := hrk 0 _ rfl
    by_cases h2 : tk.k = 2
    · have hmk := hT.more k tk htk (by omega)
      (repeat (first | refine seq_ ?_ | refine sq_normal ?_ | refine rl_nil ?_ | refine cond_f rfl ?_ | refine skip_ ?_ | refine block_ ?_ | (refine region_ (id := 9) ?_; (try (refine rl_move (v := (Value.slice _ _ _ : Value)) rfl rfl ?_; (try (refine rl_move (v := (Value.int _ _ : Value)) rfl rfl ?_; (try ((refine rl_idx sl47 rfl rfl rfl rfl ?_ ?_ ?_; omega; omega); (try (refine rl_fld fd73_0 rfl rfl ?_; (try (refine rl_loadV hM vt3 rfl rfl (by first | assumption | exact VRow.get (by assumption) rfl | exact VRow.get0 (by assumption) rfl) ?_; (try ((refine rl_neq_f rfl rfl rfl ?_ ?_; omega)))))))))))))) | (refine region_ (id := 11) ?_; (try (refine rl_move (v := (Value.slice _ _ _ : Value)) rfl rfl ?_; (try (refine rl_move (v := (Value.int _ _ : Value)) rfl rfl ?_; (try ((refine rl_add rfl rfl rfl ?_ ?_ ?_; omega; omega); (try (refine rl_move (v := (Value.int _ _ : Value)) rfl rfl ?_)))))))))))
      refine rl_callf fn20 ((rboth_ok _ _ (Nat.le_refl (fuel l))).1 l (k + 1) 1 _ w0 w _ V1 hM (hl.le hV1) hT hmk (by omega) (by unfold fuel; omega)) rfl rfl ?_
      clear hM
      rintro _ w hres
      rcases hres with ⟨V2, cs, x, j, hV2, hM, rfl, hx, hc, hj⟩ | ⟨V2, e, a2, hV2, hM, rfl, hx, he⟩
      · obtain ⟨f1, n1, s1, a1, k1, c1, rfl, _⟩ := id hc.shape
        have hp := pred_some htk h2 hx
        have hadv := pred_adv hp
        have hrk1 : V2 ⟨vb, vo + k * 4 + 1, none⟩ = some (St tk.s) := (hrk.le hV2) 1 _ rfl
        obtain ⟨u, hu⟩ : ∃ u, l[j]? = some u := ⟨_, List.getElem?_eq_getElem hj⟩
        have hru : VRow V2 vb (vo + j * 4) (tD u) := ((g4 j u hu).le hV1).le hV2
        (repeat (first | refine seq_ ?_ | refine sq_normal ?_ | refine rl_nil ?_ | refine cond_f rfl ?_ | refine skip_ ?_ | (refine region_ (id := 12) ?_; (try (refine rl_fld fd38_4 rfl rfl ?_; (try (refine rl_fld fd34_0 rfl rfl ?_; (try (refine rl_loadM 0 hM vt32 rfl rfl rfl (by first | rfl | assumption) ?_; (try ((refine rl_neq_f rfl rfl rfl ?_ ?_; omega)))))))))) | (refine rl_storeWM 0 hM ag38 rfl rfl rfl rfl rfl rfl rfl ?_; clear hM; intro w hM) | (refine rl_allocAM (d := 10) hM ag38 rfl ?_; clear hM; intro w b10 hM)))
        (refine drawnM_ 10 [(0, false), (1, false), (2, false), (3, false), (4, false), (5, false), (6, false), (7, false), (8, false), (9, true)] (fun w => Mem w0 w _ _) hM mo (by kernel_rfl) (fun _ h => h) ?_; clear hM; intro w hM; (try (refine rx_move (v := (Value.slice _ _ _ : Value)) rfl rfl rfl ?_; (try (refine rx_move (v := (Value.slice _ _ _ : Value)) rfl rfl rfl ?_; (try (refine rx_move (v := (Value.int _ _ : Value)) rfl rfl rfl ?_; (try ((refine rx_idx rfl sl47 rfl rfl rfl rfl ?_ ?_ ?_; omega; omega); (try (refine rx_fld rfl fd73_1 rfl rfl ?_; (try (refine rx_loadV rfl (fun _ h => h) vt9 rfl rfl (by first | assumption | exact VRow.get (by assumption) rfl | exact VRow.get0 (by assumption) rfl) ?_; (try (refine rx_fld rfl fd38_0 rfl rfl ?_; (try (refine rx_loadAM (vs := [_, _, _, _]) 0 rfl (fun _ h => h) ag29 rfl rfl rfl rfl rfl ?_; (try (refine rx_build [_, _, _, _, _] rfl ag92 pl92 rfl rfl rfl ?_)))))))))))))))))))
        refine rx_eff rfl (fun K hK => ?_)
        refine rl_bsliceM (d := 51) [.agg [St tk.s, Value.int .i64 f1, .int .i64 n1, St s1, .slice a1 k1 c1].toArray] hM sl26 rfl rfl rfl rfl rfl (by decide) (by decide) ?_
        clear hM
        intro w b51 hM
        refine rl_nil (kq_normal (hK _ _ (hM.dropn 1) ?_))
        refine rx_nil rfl ?_
        refine rl_appendM 2 (news := [St tk.s, .int .i64 f1, .int .i64 n1, St s1, .slice a1 k1 c1]) (B := b51) (off := 0) hM sl26 rfl (by decide) rfl (hM.row (i := 0) rfl) rfl rfl rfl (fun _ => rfl) rfl (by simp [Value.oneCell', St]) (by omega) (by omega) ?_
        clear hM
        intro w a' c' hc1 hc2 hM
        have hO2 := (hO.le hV2).snoc (x := (tk.s, x)) ⟨_, rfl, hc⟩
        have hM : Mem w0 w (.blk b10 (x9 f1 n1 s1 (.slice a1 k1 c1) j 0 0) 38 :: .own (.slice a' (acc.length + 1) c') 92 5 (acc.length + 1) (xs ++ [St tk.s, .int .i64 f1, .int .i64 n1, St s1, .slice a1 k1 c1]) :: .blk b5 (xP nilS i 0 0) 38 :: .blk b4 z9 38 :: L) V2 := hM.dropn 1
        have hal : (acc ++ [(tk.s, x)]).length = acc.length + 1 := by simp
        (repeat (first | refine seq_ ?_ | refine sq_normal ?_ | refine rl_nil ?_ | refine np_normal ?_ | (refine region_ (id := 15) ?_; (try (refine rl_fld fd38_3 rfl rfl ?_; (try (refine rl_loadM 0 hM vt3 rfl rfl rfl (by first | rfl | assumption) ?_; (try (refine rl_assign (v := (Value.int _ _ : Value)) rfl rfl ?_))))))) | (refine region_ (id := 16) ?_; (try (refine rl_move (v := (Value.slice _ _ _ : Value)) rfl rfl ?_; (try (refine rl_move (v := (Value.int _ _ : Value)) rfl rfl ?_; (try ((refine rl_idx sl47 rfl rfl rfl rfl ?_ ?_ ?_; omega; omega); (try (refine rl_loadAV hM ag73 rfl rfl (by assumption) (by rfl) ?_))))))))) | refine rl_assign (v := (Value.slice _ _ _ : Value)) rfl rfl ?_))
        refine rl_callf fn45 (ris_ok u [44] w0 w _ V2 hM) rfl rfl ?_
        clear hM
        rintro _ w ⟨rfl, hM⟩
        cases hcm : sym [44] u with
        | true =>
          have huk4 := sym_k hcm
          have hum := hT.more j u hu (by omega)
          have hs : sym [41] u = false := sym_two hcm (by decide)
          (repeat (first | refine seq_ ?_ | refine sq_normal ?_ | refine rl_nil ?_ | refine cond_f rfl ?_ | refine skip_ ?_ | refine inBlock_normal ?_ | (refine region_ (id := 17) ?_; (try (refine rl_move (v := (Value.int _ _ : Value)) rfl rfl ?_; (try ((refine rl_eql_f rfl rfl rfl ?_ ?_; omega); (try (refine rl_move (v := (Value.bool _ : Value)) rfl rfl ?_; (try (refine rl_move (v := (Value.bool _ : Value)) rfl rfl ?_; (try (refine rl_not rfl rfl ?_; (try (refine rl_pick (v := (Value.bool _ : Value)) rfl rfl rfl ?_))))))))))))) | (refine region_ (id := 18) ?_; (try (refine rl_move (v := (Value.int _ _ : Value)) rfl rfl ?_; (try ((refine rl_add rfl rfl rfl ?_ ?_ ?_; omega; omega); (try (refine rl_assign (v := (Value.int _ _ : Value)) rfl rfl ?_))))))) | refine rl_assign (v := (Value.bool _ : Value)) rfl rfl ?_))
          rw [← hal] at hM
          refine kq_normal (hL0 (l.length - (j + 1)) _ _ (by omega) (by (repeat (first | with_reducible exact Agree.ov | with_reducible exact Agree.refl _ _ | refine Agree.upd rfl ?_ | refine Agree.ovs rfl ?_))) ⟨j + 1, g, acc ++ [(tk.s, x)], _, V2, a', c', rfl, by rw [hal]; rfl, hV1.trans hV2, hO2, hum, rfl, by omega, ?_, by omega, hM.dropn 1⟩)
          rw [hg1, plist_next hp hu hs hcm, Option.map_map]
          congr 1
          funext r
          simp
        | false =>
          (repeat (first | refine seq_ ?_ | refine sq_normal ?_ | refine sq_exit ?_ | refine rl_nil ?_ | refine cond_t rfl ?_ | refine exit_ ?_ | refine inBlock_exit ?_ | refine inBlock_exit_ne rfl ?_ | refine kq_exit ?_ | (refine region_ (id := 17) ?_; (try (refine rl_move (v := (Value.int _ _ : Value)) rfl rfl ?_; (try ((refine rl_eql_f rfl rfl rfl ?_ ?_; omega); (try (refine rl_move (v := (Value.bool _ : Value)) rfl rfl ?_; (try (refine rl_move (v := (Value.bool _ : Value)) rfl rfl ?_; (try (refine rl_not rfl rfl ?_; (try (refine rl_pick (v := (Value.bool _ : Value)) rfl rfl rfl ?_))))))))))))) | (refine region_ (id := 19) ?_; (try (refine rl_move (v := (Value.int _ _ : Value)) rfl rfl ?_; (try ((refine rl_eql_t rfl rfl rfl ?_ ?_; omega)))))) | (refine region_ (id := 20) ?_; (try (refine rl_move (v := (Value.slice _ _ _ : Value)) rfl rfl ?_; (try (refine rl_move (v := (Value.int _ _ : Value)) rfl rfl ?_; (try ((refine rl_idx sl47 rfl rfl rfl rfl ?_ ?_ ?_; omega; omega); (try (refine rl_loadAV hM ag73 rfl rfl (by assumption) (by rfl) ?_))))))))) | refine rl_assign (v := (Value.bool _ : Value)) rfl rfl ?_))
          refine rl_callf fn45 (ris_ok u [41] w0 w _ V2 hM) rfl rfl ?_
          clear hM
          rintro _ w ⟨rfl, hM⟩
          cases hs : sym [41] u with
          | false =>
            (repeat (first | refine seq_ ?_ | refine sq_normal ?_ | refine sq_ret ?_ | refine rl_nil ?_ | refine cond_t rfl ?_ | refine ret_ ?_ | (refine region_ (id := 21) ?_; (try (refine rl_move (v := (Value.bool _ : Value)) rfl rfl ?_; (try (refine rl_not rfl rfl ?_))))) | (refine region_ (id := 22) ?_; (try (refine rl_loadAM (vs := [_, _, _, _, _, _, _, _, _]) 2 hM ag38 rfl rfl rfl rfl rfl ?_; (try ((refine rl_storeWM 3 hM ag38 rfl rfl rfl rfl rfl rfl rfl ?_; clear hM; intro w hM)))))) | refine rl_assign (v := (Value.bool _ : Value)) rfl rfl ?_))
            exact bp_x1 rfl rfl (res_M 3 hM ag38 rfl rfl rfl) (.inl ⟨V2, _, [], i, hV1.trans hV2, hM.dropn 4, rfl, preds_none (hpr.trans (hg1.trans (by rw [plist_stop hp hu hs hcm]; rfl))), PdSl.nil _, hi⟩)
          | true =>
            have huk4 := sym_k hs
            have hum := hT.more j u hu (by omega)
            have hfull : predsR l i = some (acc ++ [(tk.s, x)], j + 1) := by rw [hpr, hg1, plist_shut hp hu hs]; rfl
            (repeat (first | refine seq_ ?_ | refine sq_normal ?_ | refine rl_nil ?_ | refine cond_f rfl ?_ | refine skip_ ?_ | (refine region_ (id := 21) ?_; (try (refine rl_move (v := (Value.bool _ : Value)) rfl rfl ?_; (try (refine rl_not rfl rfl ?_))))) | (refine region_ (id := 23) ?_; (try (refine rl_move (v := (Value.int _ _ : Value)) rfl rfl ?_; (try ((refine rl_add rfl rfl rfl ?_ ?_ ?_; omega; omega); (try (refine rl_assign (v := (Value.int _ _ : Value)) rfl rfl ?_))))))) | (refine region_ (id := 24) ?_; (try (refine rl_move (v := (Value.slice _ _ _ : Value)) rfl rfl ?_; (try (refine rl_move (v := (Value.int _ _ : Value)) rfl rfl ?_; (try ((refine rl_idx sl47 rfl rfl rfl rfl ?_ ?_ ?_; omega; omega)))))))) | refine rl_assign (v := (Value.bool _ : Value)) rfl rfl ?_))
            rw [← hal] at hM
            have hM := (hM.dropn 1)
            obtain ⟨V3, hV3, hM2, a3, c3, b4', e1, e2, e3, e4, e5⟩ := hM.freezeOwn
            cases e1
            clear hM
            have hM := hM2
            have hqs : PdSl V3 (.slice a' (acc.length + 1) c') (acc ++ [(tk.s, x)]) := by rw [← hal]; exact hO2.frozen hV3 rfl e2 e3 e4 e5
            have hV13 := hV1.trans (hV2.trans hV3)

            obtain ⟨u2, hu2⟩ : ∃ u, l[(j + 1)]? = some u := ⟨_, List.getElem?_eq_getElem (by omega)⟩
            have hru2 : VRow V3 vb (vo + (j + 1) * 4) (tD u2) := (g4 _ u2 hu2).le (hV13)
            have hfin := preds_some hfull hu2 ht
            (repeat (first | refine rl_loadAV hM ag73 rfl rfl (by assumption) (by rfl) ?_))
            refine rl_callf fn45 (ris_ok u2 [61, 62] w0 w _ V3 hM) rfl rfl ?_
            clear hM
            rintro _ w ⟨rfl, hM⟩
            cases hs2 : sym [61, 62] u2 with
            | false =>
              rw [hs2] at hfin
              (repeat (first | refine seq_ ?_ | refine sq_normal ?_ | refine sq_ret ?_ | refine rl_nil ?_ | refine cond_t rfl ?_ | refine ret_ ?_ | (refine region_ (id := 25) ?_; (try (refine rl_move (v := (Value.bool _ : Value)) rfl rfl ?_; (try (refine rl_not rfl rfl ?_))))) | (refine region_ (id := 26) ?_; (try (refine rl_loadAM (vs := [_, _, _, _, _, _, _, _, _]) 0 hM ag38 rfl rfl rfl rfl rfl ?_; (try ((refine rl_storeWM 1 hM ag38 rfl rfl rfl rfl rfl rfl rfl ?_; clear hM; intro w hM)))))) | refine rl_assign (v := (Value.bool _ : Value)) rfl rfl ?_))
              exact bp_x1 rfl rfl (res_M 1 hM ag38 rfl rfl rfl) (.inl ⟨V3, _, [], i, hV13, hM.dropn 2, rfl, hfin, PdSl.nil _, hi⟩)
            | true =>
              have hu2k4 := sym_k hs2
              have hum2 := hT.more _ u2 hu2 (by omega)
              rw [hs2, if_pos rfl] at hfin
              by_cases h16 : 16 < (acc ++ [(tk.s, x)]).length
              · rw [if_pos h16] at hfin
                have h16' : (16 : Int) < ((acc ++ [(tk.s, x)]).length : Nat) := by omega
                have hrt : VRow V3 vb (vo + i * 4) (tD t) := hr.le (hV13)
                (repeat (first | refine seq_ ?_ | refine sq_normal ?_ | refine rl_nil ?_ | refine cond_t rfl ?_ | refine cond_f rfl ?_ | refine skip_ ?_ | (refine region_ (id := 25) ?_; (try (refine rl_move (v := (Value.bool _ : Value)) rfl rfl ?_; (try (refine rl_not rfl rfl ?_))))) | (refine region_ (id := 27) ?_; (try (refine rl_move (v := (Value.slice _ _ _ : Value)) rfl rfl ?_; (try (refine rl_len sl26 rfl rfl ?_; (try ((refine rl_gtr_t rfl rfl rfl ?_ ?_; omega)))))))) | (refine region_ (id := 28) ?_; (try (refine rl_move (v := (Value.slice _ _ _ : Value)) rfl rfl ?_; (try (refine rl_move (v := (Value.int _ _ : Value)) rfl rfl ?_; (try ((refine rl_idx sl47 rfl rfl rfl rfl ?_ ?_ ?_; omega; omega); (try (refine rl_loadAV hM ag73 rfl rfl (by assumption) (by rfl) ?_))))))))) | refine rl_assign (v := (Value.bool _ : Value)) rfl rfl ?_))
                refine rl_callf fn33 (bad_ok t 2 w0 w _ V3 hM) rfl rfl ?_
                clear hM
                rintro _ w ⟨rfl, hM⟩
                (repeat (first | refine sq_normal ?_ | refine sq_ret ?_ | refine rl_nil ?_ | refine ret_ ?_ | (refine rl_storeWM 1 hM ag38 rfl rfl rfl rfl rfl rfl rfl ?_; clear hM; intro w hM)))
                exact bp_x1 rfl rfl (res_M 1 hM ag38 rfl rfl rfl) (.inr ⟨V3, 2, t.a, hV13, hM.dropn 2, rfl, hfin, by decide⟩)
              · rw [if_neg h16] at hfin
                have h16' : ((acc ++ [(tk.s, x)]).length : Nat) ≤ (16 : Int) := by omega
                (repeat (first | refine seq_ ?_ | refine sq_normal ?_ | refine rl_nil ?_ | refine cond_f rfl ?_ | refine skip_ ?_ | refine ret_ ?_ | (refine region_ (id := 25) ?_; (try (refine rl_move (v := (Value.bool _ : Value)) rfl rfl ?_; (try (refine rl_not rfl rfl ?_))))) | (refine region_ (id := 27) ?_; (try (refine rl_move (v := (Value.slice _ _ _ : Value)) rfl rfl ?_; (try (refine rl_len sl26 rfl rfl ?_; (try ((refine rl_gtr_f rfl rfl rfl ?_ ?_; omega)))))))) | (refine region_ (id := 29) ?_; (try (refine rl_move (v := (Value.slice _ _ _ : Value)) rfl rfl ?_; (try (refine rl_move (v := (Value.int _ _ : Value)) rfl rfl ?_; (try ((refine rl_add rfl rfl rfl ?_ ?_ ?_; omega; omega); (try (refine rl_build [(Value.int .i64 0), (Value.int .i64 0), (St []), (Value.slice none 0 0), _, (Value.slice none 0 0), _, (Value.int .i64 0), (Value.int .i64 0)] ag38 pl38 rfl rfl rfl ?_; (try ((refine rl_storeWM 1 hM ag38 rfl rfl rfl rfl rfl rfl rfl ?_; clear hM; intro w hM)))))))))))) | refine rl_assign (v := (Value.bool _ : Value)) rfl rfl ?_))
                exact bp_x1 rfl rfl (res_M 1 hM ag38 rfl rfl rfl) (.inl ⟨V3, _, acc ++ [(tk.s, x)], (j + 1) + 1, hV13, hM.dropn 2, rfl, hfin, hqs, hum2⟩)
      · (repeat (first | refine seq_ ?_ | refine sq_normal ?_ | refine sq_ret ?_ | refine rl_nil ?_ | refine cond_t rfl ?_ | refine ret_ ?_ | refine inBlock_ret ?_ | refine kq_ret ?_ | (refine region_ (id := 12) ?_; (try (refine rl_fld fd38_4 rfl rfl ?_; (try (refine rl_fld fd34_0 rfl rfl ?_; (try (refine rl_loadM 0 hM vt32 rfl rfl rfl (by first | rfl | assumption) ?_; (try ((refine rl_neq_t rfl rfl rfl ?_ ?_; omega)))))))))) | (refine region_ (id := 13) ?_; (try (refine rl_loadAM (vs := [_, _, _, _, _, _, _, _, _]) 2 hM ag38 rfl rfl rfl rfl rfl ?_; (try ((refine rl_storeWM 3 hM ag38 rfl rfl rfl rfl rfl rfl rfl ?_; clear hM; intro w hM)))))) | (refine rl_storeWM 0 hM ag38 rfl rfl rfl rfl rfl rfl rfl ?_; clear hM; intro w hM) | (refine rl_allocAM (d := 10) hM ag38 rfl ?_; clear hM; intro w b10 hM)))
        exact bp_x1 rfl rfl (res_M 3 hM ag38 rfl rfl rfl) (.inl ⟨V2, _, [], i, hV1.trans hV2, hM.dropn 4, rfl, preds_none (hpr.trans (hg1.trans (by rw [plist_none (pred_err htk hx)]; rfl))), PdSl.nil _, hi⟩)
    · (repeat (first | refine seq_ ?_ | refine sq_normal ?_ | refine sq_ret ?_ | refine rl_nil ?_ | refine cond_t rfl ?_ | refine ret_ ?_ | refine block_ ?_ | refine inBlock_ret ?_ | refine kq_ret ?_ | (refine region_ (id := 9) ?_; (try (refine rl_move (v := (Value.slice _ _ _ : Value)) rfl rfl ?_; (try (refine rl_move (v := (Value.int _ _ : Value)) rfl rfl ?_; (try ((refine rl_idx sl47 rfl rfl rfl rfl ?_ ?_ ?_; omega; omega); (try (refine rl_fld fd73_0 rfl rfl ?_; (try (refine rl_loadV hM vt3 rfl rfl (by first | assumption | exact VRow.get (by assumption) rfl | exact VRow.get0 (by assumption) rfl) ?_; (try ((refine rl_neq_t rfl rfl rfl ?_ ?_; omega)))))))))))))) | (refine region_ (id := 10) ?_; (try (refine rl_loadAM (vs := [_, _, _, _, _, _, _, _, _]) 1 hM ag38 rfl rfl rfl rfl rfl ?_; (try ((refine rl_storeWM 2 hM ag38 rfl rfl rfl rfl rfl rfl rfl ?_; clear hM; intro w hM))))))))
      exact bp_x1 rfl rfl (res_M 2 hM ag38 rfl rfl rfl) (.inl ⟨V1, _, [], i, hV1, hM.dropn 3, rfl, preds_none (hpr.trans (hg1.trans (by rw [plist_none (pred_not htk h2)]; rfl))), PdSl.nil _, hi⟩)
  | false =>
    have hpr := predsR_one ht h3
    (repeat (first | refine seq_ ?_ | refine sq_normal ?_ | refine rl_nil ?_ | refine cond_f rfl ?_ | refine skip_ ?_ | refine block_ ?_ | (refine region_ (id := 5) ?_; (try (refine rl_move (v := (Value.bool _ : Value)) rfl rfl ?_))) | (refine region_ (id := 8) ?_; (try (refine rl_assign (v := (Value.slice _ _ _ : Value)) rfl rfl ?_))) | refine rl_assign (v := (Value.bool _ : Value)) rfl rfl ?_))
    have hM : Mem w0 w (.blk b5 (xP nilS i 0 0) 38 :: .blk b4 z9 38 :: L) V := hM
    have hM := hM.newOwn 92 5
    refine loop2 [(7, 8), (9, 12), (25, 68)] 7 9 (fun m v7 v9 wr => ∃ (k : Nat) (acc : List Pd) (xs : List Value) (V1 : Vw) (a : Option Addr) (c : Nat), v7 = .int .i64 k ∧ v9 = .slice a acc.length c ∧ k = i ∧ acc = [] ∧ VLe V V1 ∧ PdsO V1 acc xs ∧ Mem w0 wr (.own (.slice a acc.length c) 92 5 acc.length xs :: .blk b5 (xP nilS i 0 0) 38 :: .blk b4 z9 38 :: L) V1) 0
      ⟨i, [], [], V, none, 0, rfl, rfl, rfl, rfl, VLe.refl _, PdsO.nil _, hM⟩ ?_
    clear hM
    rintro m τ v7 v9 w ⟨k, acc, xs, V1, a, c, rfl, rfl, hki, hacc, hV1, hO, hM⟩ K0 hL0
    have hk : k < l.length := by omega
    have hak : acc.length ≤ k := by rw [hacc]; exact Nat.zero_le _
    rw [← hki] at hpr
    obtain ⟨tk, htk⟩ : ∃ t, l[k]? = some t := ⟨_, List.getElem?_eq_getElem hk⟩
    have hrk : VRow V1 vb (vo + k * 4) (tD tk) := (g4 k tk htk).le hV1
    have hrk0 : V1 ⟨vb, vo + k * 4 + 0, none⟩ = some (.int .i64 tk.k) := hrk 0 _ rfl
    by_cases h2 : tk.k = 2
    · have hmk := hT.more k tk htk (by omega)
      (repeat (first | refine seq_ ?_ | refine sq_normal ?_ | refine rl_nil ?_ | refine cond_f rfl ?_ | refine skip_ ?_ | refine block_ ?_ | (refine region_ (id := 9) ?_; (try (refine rl_move (v := (Value.slice _ _ _ : Value)) rfl rfl ?_; (try (refine rl_move (v := (Value.int _ _ : Value)) rfl rfl ?_; (try ((refine rl_idx sl47 rfl rfl rfl rfl ?_ ?_ ?_; omega; omega); (try (refine rl_fld fd73_0 rfl rfl ?_; (try (refine rl_loadV hM vt3 rfl rfl (by first | assumption | exact VRow.get (by assumption) rfl | exact VRow.get0 (by assumption) rfl) ?_; (try ((refine rl_neq_f rfl rfl rfl ?_ ?_; omega)))))))))))))) | (refine region_ (id := 11) ?_; (try (refine rl_move (v := (Value.slice _ _ _ : Value)) rfl rfl ?_; (try (refine rl_move (v := (Value.int _ _ : Value)) rfl rfl ?_; (try ((refine rl_add rfl rfl rfl ?_ ?_ ?_; omega; omega); (try (refine rl_move (v := (Value.int _ _ : Value)) rfl rfl ?_)))))))))))
      refine rl_callf fn20 ((rboth_ok _ _ (Nat.le_refl (fuel l))).1 l (k + 1) 0 _ w0 w _ V1 hM (hl.le hV1) hT hmk (by omega) (by unfold fuel; omega)) rfl rfl ?_
      clear hM
      rintro _ w hres
      rcases hres with ⟨V2, cs, x, j, hV2, hM, rfl, hx, hc, hj⟩ | ⟨V2, e, a2, hV2, hM, rfl, hx, he⟩
      · obtain ⟨f1, n1, s1, a1, k1, c1, rfl, _⟩ := id hc.shape
        have hp := pred_some htk h2 hx
        have hadv := pred_adv hp
        have hrk1 : V2 ⟨vb, vo + k * 4 + 1, none⟩ = some (St tk.s) := (hrk.le hV2) 1 _ rfl
        obtain ⟨u, hu⟩ : ∃ u, l[j]? = some u := ⟨_, List.getElem?_eq_getElem hj⟩
        have hru : VRow V2 vb (vo + j * 4) (tD u) := ((g4 j u hu).le hV1).le hV2
        (repeat (first | refine seq_ ?_ | refine sq_normal ?_ | refine rl_nil ?_ | refine cond_f rfl ?_ | refine skip_ ?_ | (refine region_ (id := 12) ?_; (try (refine rl_fld fd38_4 rfl rfl ?_; (try (refine rl_fld fd34_0 rfl rfl ?_; (try (refine rl_loadM 0 hM vt32 rfl rfl rfl (by first | rfl | assumption) ?_; (try ((refine rl_neq_f rfl rfl rfl ?_ ?_; omega)))))))))) | (refine rl_storeWM 0 hM ag38 rfl rfl rfl rfl rfl rfl rfl ?_; clear hM; intro w hM) | (refine rl_allocAM (d := 10) hM ag38 rfl ?_; clear hM; intro w b10 hM)))
        (refine drawnM_ 10 [(0, false), (1, false), (2, false), (3, false), (4, false), (5, false), (6, false), (7, false), (8, false), (9, true)] (fun w => Mem w0 w _ _) hM mo (by kernel_rfl) (fun _ h => h) ?_; clear hM; intro w hM; (try (refine rx_move (v := (Value.slice _ _ _ : Value)) rfl rfl rfl ?_; (try (refine rx_move (v := (Value.slice _ _ _ : Value)) rfl rfl rfl ?_; (try (refine rx_move (v := (Value.int _ _ : Value)) rfl rfl rfl ?_; (try ((refine rx_idx rfl sl47 rfl rfl rfl rfl ?_ ?_ ?_; omega; omega); (try (refine rx_fld rfl fd73_1 rfl rfl ?_; (try (refine rx_loadV rfl (fun _ h => h) vt9 rfl rfl (by first | assumption | exact VRow.get (by assumption) rfl | exact VRow.get0 (by assumption) rfl) ?_; (try (refine rx_fld rfl fd38_0 rfl rfl ?_; (try (refine rx_loadAM (vs := [_, _, _, _]) 0 rfl (fun _ h => h) ag29 rfl rfl rfl rfl rfl ?_; (try (refine rx_build [_, _, _, _, _] rfl ag92 pl92 rfl rfl rfl ?_)))))))))))))))))))
        refine rx_eff rfl (fun K hK => ?_)
        refine rl_bsliceM (d := 51) [.agg [St tk.s, Value.int .i64 f1, .int .i64 n1, St s1, .slice a1 k1 c1].toArray] hM sl26 rfl rfl rfl rfl rfl (by decide) (by decide) ?_
        clear hM
        intro w b51 hM
        refine rl_nil (kq_normal (hK _ _ (hM.dropn 1) ?_))
        refine rx_nil rfl ?_
        refine rl_appendM 2 (news := [St tk.s, .int .i64 f1, .int .i64 n1, St s1, .slice a1 k1 c1]) (B := b51) (off := 0) hM sl26 rfl (by decide) rfl (hM.row (i := 0) rfl) rfl rfl rfl (fun _ => rfl) rfl (by simp [Value.oneCell', St]) (by omega) (by omega) ?_
        clear hM
        intro w a' c' hc1 hc2 hM
        have hO2 := (hO.le hV2).snoc (x := (tk.s, x)) ⟨_, rfl, hc⟩
        have hM : Mem w0 w (.blk b10 (x9 f1 n1 s1 (.slice a1 k1 c1) j 0 0) 38 :: .own (.slice a' (acc.length + 1) c') 92 5 (acc.length + 1) (xs ++ [St tk.s, .int .i64 f1, .int .i64 n1, St s1, .slice a1 k1 c1]) :: .blk b5 (xP nilS i 0 0) 38 :: .blk b4 z9 38 :: L) V2 := hM.dropn 1
        have hal : (acc ++ [(tk.s, x)]).length = acc.length + 1 := by simp
        (repeat (first | refine seq_ ?_ | refine sq_normal ?_ | refine rl_nil ?_ | refine np_normal ?_ | (refine region_ (id := 15) ?_; (try (refine rl_fld fd38_3 rfl rfl ?_; (try (refine rl_loadM 0 hM vt3 rfl rfl rfl (by first | rfl | assumption) ?_; (try (refine rl_assign (v := (Value.int _ _ : Value)) rfl rfl ?_))))))) | (refine region_ (id := 16) ?_; (try (refine rl_move (v := (Value.slice _ _ _ : Value)) rfl rfl ?_; (try (refine rl_move (v := (Value.int _ _ : Value)) rfl rfl ?_; (try ((refine rl_idx sl47 rfl rfl rfl rfl ?_ ?_ ?_; omega; omega); (try (refine rl_loadAV hM ag73 rfl rfl (by assumption) (by rfl) ?_))))))))) | refine rl_assign (v := (Value.slice _ _ _ : Value)) rfl rfl ?_))
        refine rl_callf fn45 (ris_ok u [44] w0 w _ V2 hM) rfl rfl ?_
        clear hM
        rintro _ w ⟨rfl, hM⟩
        have hfull : predsR l i = some (acc ++ [(tk.s, x)], j) := by rw [← hki, hpr, hp, hacc]; rfl
        cases hcm : sym [44] u with
        | true =>
          (repeat (first | refine seq_ ?_ | refine sq_normal ?_ | refine sq_exit ?_ | refine rl_nil ?_ | refine cond_t rfl ?_ | refine cond_f rfl ?_ | refine skip_ ?_ | refine exit_ ?_ | refine inBlock_exit ?_ | refine inBlock_exit_ne rfl ?_ | refine kq_exit ?_ | (refine region_ (id := 17) ?_; (try (refine rl_move (v := (Value.int _ _ : Value)) rfl rfl ?_; (try ((refine rl_eql_t rfl rfl rfl ?_ ?_; omega); (try (refine rl_move (v := (Value.bool _ : Value)) rfl rfl ?_; (try (refine rl_off rfl ?_; (try (refine rl_off rfl ?_; (try (refine rl_pick (v := (Value.bool _ : Value)) rfl rfl rfl ?_))))))))))))) | (refine region_ (id := 19) ?_; (try (refine rl_move (v := (Value.int _ _ : Value)) rfl rfl ?_; (try ((refine rl_eql_f rfl rfl rfl ?_ ?_; omega)))))) | (refine region_ (id := 24) ?_; (try (refine rl_move (v := (Value.slice _ _ _ : Value)) rfl rfl ?_; (try (refine rl_move (v := (Value.int _ _ : Value)) rfl rfl ?_; (try ((refine rl_idx sl47 rfl rfl rfl rfl ?_ ?_ ?_; omega; omega); (try (refine rl_loadAV hM ag73 rfl rfl (by assumption) (by rfl) ?_))))))))) | refine rl_assign (v := (Value.bool _ : Value)) rfl rfl ?_))

          rw [← hal] at hM
          have hM := (hM.dropn 1)
          obtain ⟨V3, hV3, hM2, a3, c3, b4', e1, e2, e3, e4, e5⟩ := hM.freezeOwn
          cases e1
          clear hM
          have hM := hM2
          have hqs : PdSl V3 (.slice a' (acc.length + 1) c') (acc ++ [(tk.s, x)]) := by rw [← hal]; exact hO2.frozen hV3 rfl e2 e3 e4 e5
          have hV13 := hV1.trans (hV2.trans hV3)

          obtain ⟨u2, hu2, hu2e⟩ : ∃ u2, l[j]? = some u2 ∧ u2 = u := ⟨u, hu, rfl⟩
          subst hu2e
          have hru2 : VRow V3 vb (vo + j * 4) (tD u2) := (g4 _ u2 hu2).le (hV13)
          have hfin := preds_some hfull hu2 ht
          skip
          refine rl_callf fn45 (ris_ok u2 [61, 62] w0 w _ V3 hM) rfl rfl ?_
          clear hM
          rintro _ w ⟨rfl, hM⟩
          cases hs2 : sym [61, 62] u2 with
          | false =>
            rw [hs2] at hfin
            (repeat (first | refine seq_ ?_ | refine sq_normal ?_ | refine sq_ret ?_ | refine rl_nil ?_ | refine cond_t rfl ?_ | refine ret_ ?_ | (refine region_ (id := 25) ?_; (try (refine rl_move (v := (Value.bool _ : Value)) rfl rfl ?_; (try (refine rl_not rfl rfl ?_))))) | (refine region_ (id := 26) ?_; (try (refine rl_loadAM (vs := [_, _, _, _, _, _, _, _, _]) 0 hM ag38 rfl rfl rfl rfl rfl ?_; (try ((refine rl_storeWM 1 hM ag38 rfl rfl rfl rfl rfl rfl rfl ?_; clear hM; intro w hM)))))) | refine rl_assign (v := (Value.bool _ : Value)) rfl rfl ?_))
            exact bp_x1 rfl rfl (res_M 1 hM ag38 rfl rfl rfl) (.inl ⟨V3, _, [], i, hV13, hM.dropn 2, rfl, hfin, PdSl.nil _, hi⟩)
          | true =>
            have hu2k4 := sym_k hs2
            have hum2 := hT.more _ u2 hu2 (by omega)
            rw [hs2, if_pos rfl] at hfin
            by_cases h16 : 16 < (acc ++ [(tk.s, x)]).length
            · rw [if_pos h16] at hfin
              have h16' : (16 : Int) < ((acc ++ [(tk.s, x)]).length : Nat) := by omega
              have hrt : VRow V3 vb (vo + i * 4) (tD t) := hr.le (hV13)
              (repeat (first | refine seq_ ?_ | refine sq_normal ?_ | refine rl_nil ?_ | refine cond_t rfl ?_ | refine cond_f rfl ?_ | refine skip_ ?_ | (refine region_ (id := 25) ?_; (try (refine rl_move (v := (Value.bool _ : Value)) rfl rfl ?_; (try (refine rl_not rfl rfl ?_))))) | (refine region_ (id := 27) ?_; (try (refine rl_move (v := (Value.slice _ _ _ : Value)) rfl rfl ?_; (try (refine rl_len sl26 rfl rfl ?_; (try ((refine rl_gtr_t rfl rfl rfl ?_ ?_; omega)))))))) | (refine region_ (id := 28) ?_; (try (refine rl_move (v := (Value.slice _ _ _ : Value)) rfl rfl ?_; (try (refine rl_move (v := (Value.int _ _ : Value)) rfl rfl ?_; (try ((refine rl_idx sl47 rfl rfl rfl rfl ?_ ?_ ?_; omega; omega); (try (refine rl_loadAV hM ag73 rfl rfl (by assumption) (by rfl) ?_))))))))) | refine rl_assign (v := (Value.bool _ : Value)) rfl rfl ?_))
              refine rl_callf fn33 (bad_ok t 2 w0 w _ V3 hM) rfl rfl ?_
              clear hM
              rintro _ w ⟨rfl, hM⟩
              (repeat (first | refine sq_normal ?_ | refine sq_ret ?_ | refine rl_nil ?_ | refine ret_ ?_ | (refine rl_storeWM 1 hM ag38 rfl rfl rfl rfl rfl rfl rfl ?_; clear hM; intro w hM)))
              exact bp_x1 rfl rfl (res_M 1 hM ag38 rfl rfl rfl) (.inr ⟨V3, 2, t.a, hV13, hM.dropn 2, rfl, hfin, by decide⟩)
            · rw [if_neg h16] at hfin
              have h16' : ((acc ++ [(tk.s, x)]).length : Nat) ≤ (16 : Int) := by omega
              (repeat (first | refine seq_ ?_ | refine sq_normal ?_ | refine rl_nil ?_ | refine cond_f rfl ?_ | refine skip_ ?_ | refine ret_ ?_ | (refine region_ (id := 25) ?_; (try (refine rl_move (v := (Value.bool _ : Value)) rfl rfl ?_; (try (refine rl_not rfl rfl ?_))))) | (refine region_ (id := 27) ?_; (try (refine rl_move (v := (Value.slice _ _ _ : Value)) rfl rfl ?_; (try (refine rl_len sl26 rfl rfl ?_; (try ((refine rl_gtr_f rfl rfl rfl ?_ ?_; omega)))))))) | (refine region_ (id := 29) ?_; (try (refine rl_move (v := (Value.slice _ _ _ : Value)) rfl rfl ?_; (try (refine rl_move (v := (Value.int _ _ : Value)) rfl rfl ?_; (try ((refine rl_add rfl rfl rfl ?_ ?_ ?_; omega; omega); (try (refine rl_build [(Value.int .i64 0), (Value.int .i64 0), (St []), (Value.slice none 0 0), _, (Value.slice none 0 0), _, (Value.int .i64 0), (Value.int .i64 0)] ag38 pl38 rfl rfl rfl ?_; (try ((refine rl_storeWM 1 hM ag38 rfl rfl rfl rfl rfl rfl rfl ?_; clear hM; intro w hM)))))))))))) | refine rl_assign (v := (Value.bool _ : Value)) rfl rfl ?_))
              exact bp_x1 rfl rfl (res_M 1 hM ag38 rfl rfl rfl) (.inl ⟨V3, _, acc ++ [(tk.s, x)], j + 1, hV13, hM.dropn 2, rfl, hfin, hqs, hum2⟩)
        | false =>
          (repeat (first | refine seq_ ?_ | refine sq_normal ?_ | refine sq_exit ?_ | refine rl_nil ?_ | refine cond_t rfl ?_ | refine cond_f rfl ?_ | refine skip_ ?_ | refine exit_ ?_ | refine inBlock_exit ?_ | refine inBlock_exit_ne rfl ?_ | refine kq_exit ?_ | (refine region_ (id := 17) ?_; (try (refine rl_move (v := (Value.int _ _ : Value)) rfl rfl ?_; (try ((refine rl_eql_t rfl rfl rfl ?_ ?_; omega); (try (refine rl_move (v := (Value.bool _ : Value)) rfl rfl ?_; (try (refine rl_off rfl ?_; (try (refine rl_off rfl ?_; (try (refine rl_pick (v := (Value.bool _ : Value)) rfl rfl rfl ?_))))))))))))) | (refine region_ (id := 19) ?_; (try (refine rl_move (v := (Value.int _ _ : Value)) rfl rfl ?_; (try ((refine rl_eql_f rfl rfl rfl ?_ ?_; omega)))))) | (refine region_ (id := 24) ?_; (try (refine rl_move (v := (Value.slice _ _ _ : Value)) rfl rfl ?_; (try (refine rl_move (v := (Value.int _ _ : Value)) rfl rfl ?_; (try ((refine rl_idx sl47 rfl rfl rfl rfl ?_ ?_ ?_; omega; omega); (try (refine rl_loadAV hM ag73 rfl rfl (by assumption) (by rfl) ?_))))))))) | refine rl_assign (v := (Value.bool _ : Value)) rfl rfl ?_))

          rw [← hal] at hM
          have hM := (hM.dropn 1)
          obtain ⟨V3, hV3, hM2, a3, c3, b4', e1, e2, e3, e4, e5⟩ := hM.freezeOwn
          cases e1
          clear hM
          have hM := hM2
          have hqs : PdSl V3 (.slice a' (acc.length + 1) c') (acc ++ [(tk.s, x)]) := by rw [← hal]; exact hO2.frozen hV3 rfl e2 e3 e4 e5
          have hV13 := hV1.trans (hV2.trans hV3)

          obtain ⟨u2, hu2, hu2e⟩ : ∃ u2, l[j]? = some u2 ∧ u2 = u := ⟨u, hu, rfl⟩
          subst hu2e
          have hru2 : VRow V3 vb (vo + j * 4) (tD u2) := (g4 _ u2 hu2).le (hV13)
          have hfin := preds_some hfull hu2 ht
          skip
          refine rl_callf fn45 (ris_ok u2 [61, 62] w0 w _ V3 hM) rfl rfl ?_
          clear hM
          rintro _ w ⟨rfl, hM⟩
          cases hs2 : sym [61, 62] u2 with
          | false =>
            rw [hs2] at hfin
            (repeat (first | refine seq_ ?_ | refine sq_normal ?_ | refine sq_ret ?_ | refine rl_nil ?_ | refine cond_t rfl ?_ | refine ret_ ?_ | (refine region_ (id := 25) ?_; (try (refine rl_move (v := (Value.bool _ : Value)) rfl rfl ?_; (try (refine rl_not rfl rfl ?_))))) | (refine region_ (id := 26) ?_; (try (refine rl_loadAM (vs := [_, _, _, _, _, _, _, _, _]) 0 hM ag38 rfl rfl rfl rfl rfl ?_; (try ((refine rl_storeWM 1 hM ag38 rfl rfl rfl rfl rfl rfl rfl ?_; clear hM; intro w hM)))))) | refine rl_assign (v := (Value.bool _ : Value)) rfl rfl ?_))
            exact bp_x1 rfl rfl (res_M 1 hM ag38 rfl rfl rfl) (.inl ⟨V3, _, [], i, hV13, hM.dropn 2, rfl, hfin, PdSl.nil _, hi⟩)
          | true =>
            have hu2k4 := sym_k hs2
            have hum2 := hT.more _ u2 hu2 (by omega)
            rw [hs2, if_pos rfl] at hfin
            by_cases h16 : 16 < (acc ++ [(tk.s, x)]).length
            · rw [if_pos h16] at hfin
              have h16' : (16 : Int) < ((acc ++ [(tk.s, x)]).length : Nat) := by omega
              have hrt : VRow V3 vb (vo + i * 4) (tD t) := hr.le (hV13)
              (repeat (first | refine seq_ ?_ | refine sq_normal ?_ | refine rl_nil ?_ | refine cond_t rfl ?_ | refine cond_f rfl ?_ | refine skip_ ?_ | (refine region_ (id := 25) ?_; (try (refine rl_move (v := (Value.bool _ : Value)) rfl rfl ?_; (try (refine rl_not rfl rfl ?_))))) | (refine region_ (id := 27) ?_; (try (refine rl_move (v := (Value.slice _ _ _ : Value)) rfl rfl ?_; (try (refine rl_len sl26 rfl rfl ?_; (try ((refine rl_gtr_t rfl rfl rfl ?_ ?_; omega)))))))) | (refine region_ (id := 28) ?_; (try (refine rl_move (v := (Value.slice _ _ _ : Value)) rfl rfl ?_; (try (refine rl_move (v := (Value.int _ _ : Value)) rfl rfl ?_; (try ((refine rl_idx sl47 rfl rfl rfl rfl ?_ ?_ ?_; omega; omega); (try (refine rl_loadAV hM ag73 rfl rfl (by assumption) (by rfl) ?_))))))))) | refine rl_assign (v := (Value.bool _ : Value)) rfl rfl ?_))
              refine rl_callf fn33 (bad_ok t 2 w0 w _ V3 hM) rfl rfl ?_
              clear hM
              rintro _ w ⟨rfl, hM⟩
              (repeat (first | refine sq_normal ?_ | refine sq_ret ?_ | refine rl_nil ?_ | refine ret_ ?_ | (refine rl_storeWM 1 hM ag38 rfl rfl rfl rfl rfl rfl rfl ?_; clear hM; intro w hM)))
              exact bp_x1 rfl rfl (res_M 1 hM ag38 rfl rfl rfl) (.inr ⟨V3, 2, t.a, hV13, hM.dropn 2, rfl, hfin, by decide⟩)
            · rw [if_neg h16] at hfin
              have h16' : ((acc ++ [(tk.s, x)]).length : Nat) ≤ (16 : Int) := by omega
              (repeat (first | refine seq_ ?_ | refine sq_normal ?_ | refine rl_nil ?_ | refine cond_f rfl ?_ | refine skip_ ?_ | refine ret_ ?_ | (refine region_ (id := 25) ?_; (try (refine rl_move (v := (Value.bool _ : Value)) rfl rfl ?_; (try (refine rl_not rfl rfl ?_))))) | (refine region_ (id := 27) ?_; (try (refine rl_move (v := (Value.slice _ _ _ : Value)) rfl rfl ?_; (try (refine rl_len sl26 rfl rfl ?_; (try ((refine rl_gtr_f rfl rfl rfl ?_ ?_; omega)))))))) | (refine region_ (id := 29) ?_; (try (refine rl_move (v := (Value.slice _ _ _ : Value)) rfl rfl ?_; (try (refine rl_move (v := (Value.int _ _ : Value)) rfl rfl ?_; (try ((refine rl_add rfl rfl rfl ?_ ?_ ?_; omega; omega); (try (refine rl_build [(Value.int .i64 0), (Value.int .i64 0), (St []), (Value.slice none 0 0), _, (Value.slice none 0 0), _, (Value.int .i64 0), (Value.int .i64 0)] ag38 pl38 rfl rfl rfl ?_; (try ((refine rl_storeWM 1 hM ag38 rfl rfl rfl rfl rfl rfl rfl ?_; clear hM; intro w hM)))))))))))) | refine rl_assign (v := (Value.bool _ : Value)) rfl rfl ?_))
              exact bp_x1 rfl rfl (res_M 1 hM ag38 rfl rfl rfl) (.inl ⟨V3, _, acc ++ [(tk.s, x)], j + 1, hV13, hM.dropn 2, rfl, hfin, hqs, hum2⟩)
      · (repeat (first | refine seq_ ?_ | refine sq_normal ?_ | refine sq_ret ?_ | refine rl_nil ?_ | refine cond_t rfl ?_ | refine ret_ ?_ | refine inBlock_ret ?_ | refine kq_ret ?_ | (refine region_ (id := 12) ?_; (try (refine rl_fld fd38_4 rfl rfl ?_; (try (refine rl_fld fd34_0 rfl rfl ?_; (try (refine rl_loadM 0 hM vt32 rfl rfl rfl (by first | rfl | assumption) ?_; (try ((refine rl_neq_t rfl rfl rfl ?_ ?_; omega)))))))))) | (refine region_ (id := 13) ?_; (try (refine rl_loadAM (vs := [_, _, _, _, _, _, _, _, _]) 2 hM ag38 rfl rfl rfl rfl rfl ?_; (try ((refine rl_storeWM 3 hM ag38 rfl rfl rfl rfl rfl rfl rfl ?_; clear hM; intro w hM)))))) | (refine rl_storeWM 0 hM ag38 rfl rfl rfl rfl rfl rfl rfl ?_; clear hM; intro w hM) | (refine rl_allocAM (d := 10) hM ag38 rfl ?_; clear hM; intro w b10 hM)))
        exact bp_x1 rfl rfl (res_M 3 hM ag38 rfl rfl rfl) (.inl ⟨V2, _, [], i, hV1.trans hV2, hM.dropn 4, rfl, preds_none (by rw [← hki, hpr, pred_err htk hx]; rfl), PdSl.nil _, hi⟩)
    · (repeat (first | refine seq_ ?_ | refine sq_normal ?_ | refine sq_ret ?_ | refine rl_nil ?_ | refine cond_t rfl ?_ | refine ret_ ?_ | refine block_ ?_ | refine inBlock_ret ?_ | refine kq_ret ?_ | (refine region_ (id := 9) ?_; (try (refine rl_move (v := (Value.slice _ _ _ : Value)) rfl rfl ?_; (try (refine rl_move (v := (Value.int _ _ : Value)) rfl rfl ?_; (try ((refine rl_idx sl47 rfl rfl rfl rfl ?_ ?_ ?_; omega; omega); (try (refine rl_fld fd73_0 rfl rfl ?_; (try (refine rl_loadV hM vt3 rfl rfl (by first | assumption | exact VRow.get (by assumption) rfl | exact VRow.get0 (by assumption) rfl) ?_; (try ((refine rl_neq_t rfl rfl rfl ?_ ?_; omega)))))))))))))) | (refine region_ (id := 10) ?_; (try (refine rl_loadAM (vs := [_, _, _, _, _, _, _, _, _]) 1 hM ag38 rfl rfl rfl rfl rfl ?_; (try ((refine rl_storeWM 2 hM ag38 rfl rfl rfl rfl rfl rfl rfl ?_; clear hM; intro w hM))))))))
      exact bp_x1 rfl rfl (res_M 2 hM ag38 rfl rfl rfl) (.inl ⟨V1, _, [], i, hV1, hM.dropn 3, rfl, preds_none (by rw [← hki, hpr, pred_not htk h2]; rfl), PdSl.nil _, hi⟩)
end Go.Proofs.Ytadbinckjmdokaa.Trd
