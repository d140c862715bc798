/- TreadVars. -/
import Derived.Test.YtadbinckjmdokaaDoorDrdL4
import Derived.Test.YtadbinckjmdokaaDoorEnC
import Derived.Test.YtadbinckjmdokaaDoorTxB
set_option linter.unusedVariables false
set_option linter.unusedSimpArgs false
namespace Go.Proofs.YtadbinckjmdokaaDoor.Trd
open Go Go.Eng Go.RowKit Go.Tr Go.Lx
attribute [local irreducible] RL RX KQ SQ Exit.inBlock Exit.then BP NP CallsOk IsSl IsRows IsInts IsBools Own Blk Code.wp Calls wpList
theorem rx_end' {P : Program} {N : NN} {l : List Oper} {Q : Exit → Act → World → Prop} {S : World → Prop} {σ : Env} {w : World} (h : Q .normal (Fr N σ) w) : RX P N l Q S l.length [] σ w :=
  rx_nil List.drop_length (rl_nil h)
set_option maxRecDepth 8000 in
set_option maxHeartbeats 16000000 in
theorem law3 (v : Value) (l : List Int) (many : Int) (w : World) (hI : IsInts w.cell? v l) (hm : I64 many) : CallsOk Tryd.prog 3 #[v, .int .i64 many] w fun r w' => r = .bool true ∧ Below w.heap.size w w' := by
  have hml := maxLen_le
  have hM := Mem.init w
  obtain ⟨w0, hw0⟩ : ∃ w0, w0 = w := ⟨_, rfl⟩
  obtain ⟨V, hVd⟩ : ∃ V, V = w.cell? := ⟨_, rfl⟩
  rw [← hVd] at hM hI
  have hM : Mem w0 w [] V := by rw [hw0]; exact hM
  have key : CallsOk Tryd.prog 3 #[v, .int .i64 many] w fun r w' => r = .bool true ∧ Below w0.heap.size w0 w' := by
    clear hVd hw0
    obtain ⟨_, _, _, _, rfl, _⟩ := id hI.open
    refine enter_ (N := 97) Tryd.func3 rfl rfl rfl ?_
    (repeat (first | refine seq_ ?_ | refine sq_normal ?_ | refine rl_nil ?_ | (refine region_ (id := 0) ?_; (try (refine rl_assign (v := (Value.bool _ : Value)) rfl rfl ?_))) | (refine region_ (id := 1) ?_; (try (refine rl_move (v := (Value.int _ _ : Value)) rfl rfl ?_)))))
    refine rl_callf fn5 (around_ok many 5 w hm.1 hm.2 (by omega) (by omega)) rfl rfl ?_
    rintro _ w ⟨rfl, rfl⟩
    have hr5 := around_lt many 5 (by omega)
    obtain ⟨k, hk⟩ : ∃ k : Nat, (k : Int) = around many 5 := ⟨(around many 5).toNat, by omega⟩
    rw [← hk] at hr5 ⊢
    clear hk
    (repeat (first | refine seq_ ?_ | refine sq_normal ?_ | refine rl_nil ?_ | (refine region_ (id := 2) ?_; (try (refine rl_move (v := (Value.slice _ _ _ : Value)) rfl rfl ?_))) | refine rl_assign (v := (Value.int _ _ : Value)) rfl rfl ?_))
    refine rl_callf fn6 (goodT_ok _ l w0 w _ V hM hI) rfl rfl ?_
    clear hM
    rintro _ w ⟨V1, cs, t, hV1, hM, rfl, hc, hg, hsz, hht⟩
    obtain ⟨f1, n1, s1, a1, k1, c1, rfl, _⟩ := id hc.shape
    have hprl := hg.pr_len 0
    have hI1 := hI.le hV1
    (repeat (first | refine seq_ ?_ | refine sq_normal ?_ | refine rl_nil ?_ | (refine rl_allocAM (d := 6) hM ag26 rfl ?_; clear hM; intro w b6 hM) | (refine rl_storeWM 0 hM ag26 rfl rfl rfl rfl rfl rfl rfl ?_; clear hM; intro w hM)))
    have hM : Mem w0 w [.blk b6 [.int .i64 f1, .int .i64 n1, St s1, .slice a1 k1 c1] 26] V1 := hM
    refine cut_seq2 [(7, 9), (17, 27)] 7 8 (fun v7 v8 wr => ∃ (b7 b8 : Nat) (V3 : Vw) (ps : List (B × B)) (cs7 : List Value), v7 = .pointer (some ⟨b7, 0, none⟩) ∧ v8 = .pointer (some ⟨b8, 0, none⟩) ∧ VLe V1 V3 ∧ ps.length = k ∧ SchV V3 ⟨varsOf ((ps.map pd).map (·.2) ++ [t]), ps.map pd, t⟩ cs7 ∧
        Mem w0 wr [.blk b8 [.int .i64 0, .int .i64 0] 35, .blk b7 cs7 32, .blk b6 [.int .i64 f1, .int .i64 n1, St s1, .slice a1 k1 c1] 26] V3) ?_ ?_
    · skip
      refine drawnT_ 13 hM mo (by kernel_rfl) ?_
      clear hM
      intro w hM
      refine wa_pre (f := 10) [0, 1, 3] (by kernel_rfl) ?_
      intro K hK
      (try (refine rx_move (v := (Value.slice _ _ _ : Value)) rfl rfl rfl ?_; (try (refine rx_move (v := (Value.int _ _ : Value)) rfl rfl rfl ?_; (try (refine rx_loadAM (vs := [_, _, _, _]) 0 rfl (fun _ h => h) ag26 rfl rfl rfl rfl rfl ?_))))))
      refine rx_end (kq_normal (hK _ ?_))
      clear hK
      refine wa_eff3 (f := 9) 2 10 11 (by kernel_rfl) rfl rfl rfl ?_ ?_ ?_
      · intro K hK
        refine rl_callf fn8 (context_ok _ l k w0 w _ V1 hM hI1 (by omega)) rfl rfl ?_
        clear hM
        rintro _ w ⟨ps, pb, rfl, hpl, hps, hpb, hM⟩
        have hcl := ctx_len (b := pb) hps
        refine rl_nil (kq_normal (hK _ _ hM ?_))
        clear hK
        refine wa_eff3 (f := 8) 4 10 11 (by kernel_rfl) rfl rfl rfl ?_ ?_ ?_
        · intro K hK
          refine rl_callf fn9 (tprint_ok t _ w0 w _ V1 hg.nm (by omega) hM hc) rfl rfl ?_
          clear hM
          rintro _ w ⟨rfl, hM⟩
          refine rl_nil (kq_normal (hK _ _ hM ?_))
          clear hK
          refine wa_pre (f := 7) [5] (by kernel_rfl) ?_
          intro K hK
          refine rx_sadd rfl rfl rfl rfl (by omega) ?_
          refine rx_end (kq_normal (hK _ ?_))
          clear hK
          refine wa_eff3 (f := 6) 6 10 11 (by kernel_rfl) rfl rfl rfl ?_ ?_ ?_
          · intro K hK
            refine rl_callf fn7 (readScheme_ok (ctx pb ps ++ pr t 0) w0 w _ V1 hM (by simp only [List.length_append]; omega)) rfl rfl ?_
            clear hM
            rintro _ w ⟨V3, cs3, sc, e, a, hV3, hM, rfl, hsc, hst⟩
            rw [readS_ctx hg (by omega) hps (fun h => by have := hpb h; omega) (by omega) (by simp only [List.length_append]; omega)] at hst
            obtain ⟨rfl, rfl, rfl⟩ : sc = ⟨varsOf ((ps.map pd).map (·.2) ++ [t]), ps.map pd, t⟩ ∧ e = 0 ∧ a = 0 := by
              rcases hst with ⟨h, h1, h2⟩ | ⟨h, _⟩
              · cases h; exact ⟨rfl, h1, h2⟩
              · cases h
            clear hst
            obtain ⟨va, vc, pa, pc, f2, n2, s2, a2, k2, c2, hsh⟩ := id hsc.shape
            subst hsh
            refine rl_nil (kq_normal (hK _ _ (hM.le hV3) ?_))
            clear hK
            refine wa_pre (f := 3) [7, 8, 9] (by kernel_rfl) ?_
            intro K hK
            (try (refine rx_move (v := (Value.tuple _ : Value)) rfl rfl rfl ?_; (try (refine rx_extract rfl rfl rfl rfl ?_; (try (refine rx_extract rfl rfl rfl rfl ?_))))))
            refine rx_end (kq_normal (hK _ ?_))
            clear hK
            refine wa_eff2 (f := 2) 10 11 (by kernel_rfl) rfl rfl ?_ ?_
            · intro K hK
              refine rl_allocAM (d := 7) hM ag32 rfl ?_
              clear hM
              intro w b7 hM
              refine rl_nil (kq_normal (hK _ _ ((hM.dropn 1).le hV3) ?_))
              clear hK
              refine wa_eff1 (f := 1) 11 (by kernel_rfl) rfl ?_
              · intro K hK
                refine rl_allocAM (d := 8) hM ag35 rfl ?_
                clear hM
                intro w b8 hM
                refine rl_nil (kq_normal (hK _ _ ((hM.dropn 2).le hV3) ?_))
                clear hK
                refine wa_eff1 (f := 0) 12 (by kernel_rfl) rfl ?_
                · intro K hK
                  refine rl_storeWM 1 hM ag32 rfl rfl rfl rfl rfl rfl rfl ?_
                  clear hM
                  intro w hM
                  refine rl_nil (kq_normal (hK _ _ ((hM.dropn 2).le hV3) ?_))
                  clear hK
                  refine wa_done (by kernel_rfl) ?_
                  refine rl_storeWM 0 hM ag35 rfl rfl rfl rfl rfl rfl rfl ?_
                  clear hM
                  intro w hM
                  refine rl_nil (np_normal (kq_normal ⟨by (repeat (first | with_reducible exact Agree.ov | with_reducible exact Agree.refl _ _ | refine Agree.upd rfl ?_ | refine Agree.ovs rfl ?_)), b7, b8, V3, ps, _, rfl, rfl, hV3, hpl, hsc, ?_⟩))
                  exact hM
            · intro K hK
              refine rl_allocAM (d := 8) hM ag35 rfl ?_
              clear hM
              intro w b8 hM
              refine rl_nil (kq_normal (hK _ _ ((hM.dropn 1).le hV3) ?_))
              clear hK
              refine wa_eff1 (f := 1) 10 (by kernel_rfl) rfl ?_
              · intro K hK
                refine rl_allocAM (d := 7) hM ag32 rfl ?_
                clear hM
                intro w b7 hM
                refine rl_nil (kq_normal (hK _ _ ((hM.dropn 2).le hV3) ?_))
                clear hK
                refine wa_eff1 (f := 0) 12 (by kernel_rfl) rfl ?_
                · intro K hK
                  refine rl_storeWM 0 hM ag32 rfl rfl rfl rfl rfl rfl rfl ?_
                  clear hM
                  intro w hM
                  refine rl_nil (kq_normal (hK _ _ ((hM.dropn 2).le hV3) ?_))
                  clear hK
                  refine wa_done (by kernel_rfl) ?_
                  refine rl_storeWM 1 hM ag35 rfl rfl rfl rfl rfl rfl rfl ?_
                  clear hM
                  intro w hM
                  refine rl_nil (np_normal (kq_normal ⟨by (repeat (first | with_reducible exact Agree.ov | with_reducible exact Agree.refl _ _ | refine Agree.upd rfl ?_ | refine Agree.ovs rfl ?_)), b7, b8, V3, ps, _, rfl, rfl, hV3, hpl, hsc, ?_⟩))
                  exact hM.front 1 rfl
          · intro K hK
            refine rl_allocAM (d := 7) hM ag32 rfl ?_
            clear hM
            intro w b7 hM
            refine rl_nil (kq_normal (hK _ _ (hM.dropn 1) ?_))
            clear hK
            refine wa_eff2 (f := 5) 6 11 (by kernel_rfl) rfl rfl ?_ ?_
            · intro K hK
              refine rl_callf fn7 (readScheme_ok (ctx pb ps ++ pr t 0) w0 w _ V1 hM (by simp only [List.length_append]; omega)) rfl rfl ?_
              clear hM
              rintro _ w ⟨V3, cs3, sc, e, a, hV3, hM, rfl, hsc, hst⟩
              rw [readS_ctx hg (by omega) hps (fun h => by have := hpb h; omega) (by omega) (by simp only [List.length_append]; omega)] at hst
              obtain ⟨rfl, rfl, rfl⟩ : sc = ⟨varsOf ((ps.map pd).map (·.2) ++ [t]), ps.map pd, t⟩ ∧ e = 0 ∧ a = 0 := by
                rcases hst with ⟨h, h1, h2⟩ | ⟨h, _⟩
                · cases h; exact ⟨rfl, h1, h2⟩
                · cases h
              clear hst
              obtain ⟨va, vc, pa, pc, f2, n2, s2, a2, k2, c2, hsh⟩ := id hsc.shape
              subst hsh
              refine rl_nil (kq_normal (hK _ _ ((hM.dropn 1).le hV3) ?_))
              clear hK
              refine wa_pre (f := 2) [7, 8, 9] (by kernel_rfl) ?_
              intro K hK
              (try (refine rx_move (v := (Value.tuple _ : Value)) rfl rfl rfl ?_; (try (refine rx_extract rfl rfl rfl rfl ?_; (try (refine rx_extract rfl rfl rfl rfl ?_))))))
              refine rx_end (kq_normal (hK _ ?_))
              clear hK
              refine wa_eff1 (f := 1) 11 (by kernel_rfl) rfl ?_
              · intro K hK
                refine rl_allocAM (d := 8) hM ag35 rfl ?_
                clear hM
                intro w b8 hM
                refine rl_nil (kq_normal (hK _ _ ((hM.dropn 2).le hV3) ?_))
                clear hK
                refine wa_eff1 (f := 0) 12 (by kernel_rfl) rfl ?_
                · intro K hK
                  refine rl_storeWM 1 hM ag32 rfl rfl rfl rfl rfl rfl rfl ?_
                  clear hM
                  intro w hM
                  refine rl_nil (kq_normal (hK _ _ ((hM.dropn 2).le hV3) ?_))
                  clear hK
                  refine wa_done (by kernel_rfl) ?_
                  refine rl_storeWM 0 hM ag35 rfl rfl rfl rfl rfl rfl rfl ?_
                  clear hM
                  intro w hM
                  refine rl_nil (np_normal (kq_normal ⟨by (repeat (first | with_reducible exact Agree.ov | with_reducible exact Agree.refl _ _ | refine Agree.upd rfl ?_ | refine Agree.ovs rfl ?_)), b7, b8, V3, ps, _, rfl, rfl, hV3, hpl, hsc, ?_⟩))
                  exact hM
            · intro K hK
              refine rl_allocAM (d := 8) hM ag35 rfl ?_
              clear hM
              intro w b8 hM
              refine rl_nil (kq_normal (hK _ _ (hM.dropn 2) ?_))
              clear hK
              refine wa_eff1 (f := 4) 6 (by kernel_rfl) rfl ?_
              · intro K hK
                refine rl_callf fn7 (readScheme_ok (ctx pb ps ++ pr t 0) w0 w _ V1 hM (by simp only [List.length_append]; omega)) rfl rfl ?_
                clear hM
                rintro _ w ⟨V3, cs3, sc, e, a, hV3, hM, rfl, hsc, hst⟩
                rw [readS_ctx hg (by omega) hps (fun h => by have := hpb h; omega) (by omega) (by simp only [List.length_append]; omega)] at hst
                obtain ⟨rfl, rfl, rfl⟩ : sc = ⟨varsOf ((ps.map pd).map (·.2) ++ [t]), ps.map pd, t⟩ ∧ e = 0 ∧ a = 0 := by
                  rcases hst with ⟨h, h1, h2⟩ | ⟨h, _⟩
                  · cases h; exact ⟨rfl, h1, h2⟩
                  · cases h
                clear hst
                obtain ⟨va, vc, pa, pc, f2, n2, s2, a2, k2, c2, hsh⟩ := id hsc.shape
                subst hsh
                refine rl_nil (kq_normal (hK _ _ ((hM.dropn 2).le hV3) ?_))
                clear hK
                refine wa_pre (f := 1) [7, 8, 9] (by kernel_rfl) ?_
                intro K hK
                (try (refine rx_move (v := (Value.tuple _ : Value)) rfl rfl rfl ?_; (try (refine rx_extract rfl rfl rfl rfl ?_; (try (refine rx_extract rfl rfl rfl rfl ?_))))))
                refine rx_end (kq_normal (hK _ ?_))
                clear hK
                refine wa_eff1 (f := 0) 12 (by kernel_rfl) rfl ?_
                · intro K hK
                  refine rl_storeWM 1 hM ag32 rfl rfl rfl rfl rfl rfl rfl ?_
                  clear hM
                  intro w hM
                  refine rl_nil (kq_normal (hK _ _ ((hM.dropn 2).le hV3) ?_))
                  clear hK
                  refine wa_done (by kernel_rfl) ?_
                  refine rl_storeWM 0 hM ag35 rfl rfl rfl rfl rfl rfl rfl ?_
                  clear hM
                  intro w hM
                  refine rl_nil (np_normal (kq_normal ⟨by (repeat (first | with_reducible exact Agree.ov | with_reducible exact Agree.refl _ _ | refine Agree.upd rfl ?_ | refine Agree.ovs rfl ?_)), b7, b8, V3, ps, _, rfl, rfl, hV3, hpl, hsc, ?_⟩))
                  exact hM
          · intro K hK
            refine rl_allocAM (d := 8) hM ag35 rfl ?_
            clear hM
            intro w b8 hM
            refine rl_nil (kq_normal (hK _ _ (hM.dropn 1) ?_))
            clear hK
            refine wa_eff2 (f := 5) 6 10 (by kernel_rfl) rfl rfl ?_ ?_
            · intro K hK
              refine rl_callf fn7 (readScheme_ok (ctx pb ps ++ pr t 0) w0 w _ V1 hM (by simp only [List.length_append]; omega)) rfl rfl ?_
              clear hM
              rintro _ w ⟨V3, cs3, sc, e, a, hV3, hM, rfl, hsc, hst⟩
              rw [readS_ctx hg (by omega) hps (fun h => by have := hpb h; omega) (by omega) (by simp only [List.length_append]; omega)] at hst
              obtain ⟨rfl, rfl, rfl⟩ : sc = ⟨varsOf ((ps.map pd).map (·.2) ++ [t]), ps.map pd, t⟩ ∧ e = 0 ∧ a = 0 := by
                rcases hst with ⟨h, h1, h2⟩ | ⟨h, _⟩
                · cases h; exact ⟨rfl, h1, h2⟩
                · cases h
              clear hst
              obtain ⟨va, vc, pa, pc, f2, n2, s2, a2, k2, c2, hsh⟩ := id hsc.shape
              subst hsh
              refine rl_nil (kq_normal (hK _ _ ((hM.dropn 1).le hV3) ?_))
              clear hK
              refine wa_pre (f := 2) [7, 8, 9] (by kernel_rfl) ?_
              intro K hK
              (try (refine rx_move (v := (Value.tuple _ : Value)) rfl rfl rfl ?_; (try (refine rx_extract rfl rfl rfl rfl ?_; (try (refine rx_extract rfl rfl rfl rfl ?_))))))
              refine rx_end (kq_normal (hK _ ?_))
              clear hK
              refine wa_eff1 (f := 1) 10 (by kernel_rfl) rfl ?_
              · intro K hK
                refine rl_allocAM (d := 7) hM ag32 rfl ?_
                clear hM
                intro w b7 hM
                refine rl_nil (kq_normal (hK _ _ ((hM.dropn 2).le hV3) ?_))
                clear hK
                refine wa_eff1 (f := 0) 12 (by kernel_rfl) rfl ?_
                · intro K hK
                  refine rl_storeWM 0 hM ag32 rfl rfl rfl rfl rfl rfl rfl ?_
                  clear hM
                  intro w hM
                  refine rl_nil (kq_normal (hK _ _ ((hM.dropn 2).le hV3) ?_))
                  clear hK
                  refine wa_done (by kernel_rfl) ?_
                  refine rl_storeWM 1 hM ag35 rfl rfl rfl rfl rfl rfl rfl ?_
                  clear hM
                  intro w hM
                  refine rl_nil (np_normal (kq_normal ⟨by (repeat (first | with_reducible exact Agree.ov | with_reducible exact Agree.refl _ _ | refine Agree.upd rfl ?_ | refine Agree.ovs rfl ?_)), b7, b8, V3, ps, _, rfl, rfl, hV3, hpl, hsc, ?_⟩))
                  exact hM.front 1 rfl
            · intro K hK
              refine rl_allocAM (d := 7) hM ag32 rfl ?_
              clear hM
              intro w b7 hM
              refine rl_nil (kq_normal (hK _ _ (hM.dropn 2) ?_))
              clear hK
              refine wa_eff1 (f := 4) 6 (by kernel_rfl) rfl ?_
              · intro K hK
                refine rl_callf fn7 (readScheme_ok (ctx pb ps ++ pr t 0) w0 w _ V1 hM (by simp only [List.length_append]; omega)) rfl rfl ?_
                clear hM
                rintro _ w ⟨V3, cs3, sc, e, a, hV3, hM, rfl, hsc, hst⟩
                rw [readS_ctx hg (by omega) hps (fun h => by have := hpb h; omega) (by omega) (by simp only [List.length_append]; omega)] at hst
                obtain ⟨rfl, rfl, rfl⟩ : sc = ⟨varsOf ((ps.map pd).map (·.2) ++ [t]), ps.map pd, t⟩ ∧ e = 0 ∧ a = 0 := by
                  rcases hst with ⟨h, h1, h2⟩ | ⟨h, _⟩
                  · cases h; exact ⟨rfl, h1, h2⟩
                  · cases h
                clear hst
                obtain ⟨va, vc, pa, pc, f2, n2, s2, a2, k2, c2, hsh⟩ := id hsc.shape
                subst hsh
                refine rl_nil (kq_normal (hK _ _ ((hM.dropn 2).le hV3) ?_))
                clear hK
                refine wa_pre (f := 1) [7, 8, 9] (by kernel_rfl) ?_
                intro K hK
                (try (refine rx_move (v := (Value.tuple _ : Value)) rfl rfl rfl ?_; (try (refine rx_extract rfl rfl rfl rfl ?_; (try (refine rx_extract rfl rfl rfl rfl ?_))))))
                refine rx_end (kq_normal (hK _ ?_))
                clear hK
                refine wa_eff1 (f := 0) 12 (by kernel_rfl) rfl ?_
                · intro K hK
                  refine rl_storeWM 0 hM ag32 rfl rfl rfl rfl rfl rfl rfl ?_
                  clear hM
                  intro w hM
                  refine rl_nil (kq_normal (hK _ _ ((hM.dropn 2).le hV3) ?_))
                  clear hK
                  refine wa_done (by kernel_rfl) ?_
                  refine rl_storeWM 1 hM ag35 rfl rfl rfl rfl rfl rfl rfl ?_
                  clear hM
                  intro w hM
                  refine rl_nil (np_normal (kq_normal ⟨by (repeat (first | with_reducible exact Agree.ov | with_reducible exact Agree.refl _ _ | refine Agree.upd rfl ?_ | refine Agree.ovs rfl ?_)), b7, b8, V3, ps, _, rfl, rfl, hV3, hpl, hsc, ?_⟩))
                  exact hM.front 1 rfl
        · intro K hK
          refine rl_allocAM (d := 7) hM ag32 rfl ?_
          clear hM
          intro w b7 hM
          refine rl_nil (kq_normal (hK _ _ (hM.dropn 1) ?_))
          clear hK
          refine wa_eff2 (f := 7) 4 11 (by kernel_rfl) rfl rfl ?_ ?_
          · intro K hK
            refine rl_callf fn9 (tprint_ok t _ w0 w _ V1 hg.nm (by omega) hM hc) rfl rfl ?_
            clear hM
            rintro _ w ⟨rfl, hM⟩
            refine rl_nil (kq_normal (hK _ _ (hM.dropn 1) ?_))
            clear hK
            refine wa_pre (f := 6) [5] (by kernel_rfl) ?_
            intro K hK
            refine rx_sadd rfl rfl rfl rfl (by omega) ?_
            refine rx_end (kq_normal (hK _ ?_))
            clear hK
            refine wa_eff2 (f := 5) 6 11 (by kernel_rfl) rfl rfl ?_ ?_
            · intro K hK
              refine rl_callf fn7 (readScheme_ok (ctx pb ps ++ pr t 0) w0 w _ V1 hM (by simp only [List.length_append]; omega)) rfl rfl ?_
              clear hM
              rintro _ w ⟨V3, cs3, sc, e, a, hV3, hM, rfl, hsc, hst⟩
              rw [readS_ctx hg (by omega) hps (fun h => by have := hpb h; omega) (by omega) (by simp only [List.length_append]; omega)] at hst
              obtain ⟨rfl, rfl, rfl⟩ : sc = ⟨varsOf ((ps.map pd).map (·.2) ++ [t]), ps.map pd, t⟩ ∧ e = 0 ∧ a = 0 := by
                rcases hst with ⟨h, h1, h2⟩ | ⟨h, _⟩
                · cases h; exact ⟨rfl, h1, h2⟩
                · cases h
              clear hst
              obtain ⟨va, vc, pa, pc, f2, n2, s2, a2, k2, c2, hsh⟩ := id hsc.shape
              subst hsh
              refine rl_nil (kq_normal (hK _ _ ((hM.dropn 1).le hV3) ?_))
              clear hK
              refine wa_pre (f := 2) [7, 8, 9] (by kernel_rfl) ?_
              intro K hK
              (try (refine rx_move (v := (Value.tuple _ : Value)) rfl rfl rfl ?_; (try (refine rx_extract rfl rfl rfl rfl ?_; (try (refine rx_extract rfl rfl rfl rfl ?_))))))
              refine rx_end (kq_normal (hK _ ?_))
              clear hK
              refine wa_eff1 (f := 1) 11 (by kernel_rfl) rfl ?_
              · intro K hK
                refine rl_allocAM (d := 8) hM ag35 rfl ?_
                clear hM
                intro w b8 hM
                refine rl_nil (kq_normal (hK _ _ ((hM.dropn 2).le hV3) ?_))
                clear hK
                refine wa_eff1 (f := 0) 12 (by kernel_rfl) rfl ?_
                · intro K hK
                  refine rl_storeWM 1 hM ag32 rfl rfl rfl rfl rfl rfl rfl ?_
                  clear hM
                  intro w hM
                  refine rl_nil (kq_normal (hK _ _ ((hM.dropn 2).le hV3) ?_))
                  clear hK
                  refine wa_done (by kernel_rfl) ?_
                  refine rl_storeWM 0 hM ag35 rfl rfl rfl rfl rfl rfl rfl ?_
                  clear hM
                  intro w hM
                  refine rl_nil (np_normal (kq_normal ⟨by (repeat (first | with_reducible exact Agree.ov | with_reducible exact Agree.refl _ _ | refine Agree.upd rfl ?_ | refine Agree.ovs rfl ?_)), b7, b8, V3, ps, _, rfl, rfl, hV3, hpl, hsc, ?_⟩))
                  exact hM
            · intro K hK
              refine rl_allocAM (d := 8) hM ag35 rfl ?_
              clear hM
              intro w b8 hM
              refine rl_nil (kq_normal (hK _ _ (hM.dropn 2) ?_))
              clear hK
              refine wa_eff1 (f := 4) 6 (by kernel_rfl) rfl ?_
              · intro K hK
                refine rl_callf fn7 (readScheme_ok (ctx pb ps ++ pr t 0) w0 w _ V1 hM (by simp only [List.length_append]; omega)) rfl rfl ?_
                clear hM
                rintro _ w ⟨V3, cs3, sc, e, a, hV3, hM, rfl, hsc, hst⟩
                rw [readS_ctx hg (by omega) hps (fun h => by have := hpb h; omega) (by omega) (by simp only [List.length_append]; omega)] at hst
                obtain ⟨rfl, rfl, rfl⟩ : sc = ⟨varsOf ((ps.map pd).map (·.2) ++ [t]), ps.map pd, t⟩ ∧ e = 0 ∧ a = 0 := by
                  rcases hst with ⟨h, h1, h2⟩ | ⟨h, _⟩
                  · cases h; exact ⟨rfl, h1, h2⟩
                  · cases h
                clear hst
                obtain ⟨va, vc, pa, pc, f2, n2, s2, a2, k2, c2, hsh⟩ := id hsc.shape
                subst hsh
                refine rl_nil (kq_normal (hK _ _ ((hM.dropn 2).le hV3) ?_))
                clear hK
                refine wa_pre (f := 1) [7, 8, 9] (by kernel_rfl) ?_
                intro K hK
                (try (refine rx_move (v := (Value.tuple _ : Value)) rfl rfl rfl ?_; (try (refine rx_extract rfl rfl rfl rfl ?_; (try (refine rx_extract rfl rfl rfl rfl ?_))))))
                refine rx_end (kq_normal (hK _ ?_))
                clear hK
                refine wa_eff1 (f := 0) 12 (by kernel_rfl) rfl ?_
                · intro K hK
                  refine rl_storeWM 1 hM ag32 rfl rfl rfl rfl rfl rfl rfl ?_
                  clear hM
                  intro w hM
                  refine rl_nil (kq_normal (hK _ _ ((hM.dropn 2).le hV3) ?_))
                  clear hK
                  refine wa_done (by kernel_rfl) ?_
                  refine rl_storeWM 0 hM ag35 rfl rfl rfl rfl rfl rfl rfl ?_
                  clear hM
                  intro w hM
                  refine rl_nil (np_normal (kq_normal ⟨by (repeat (first | with_reducible exact Agree.ov | with_reducible exact Agree.refl _ _ | refine Agree.upd rfl ?_ | refine Agree.ovs rfl ?_)), b7, b8, V3, ps, _, rfl, rfl, hV3, hpl, hsc, ?_⟩))
                  exact hM
          · intro K hK
            refine rl_allocAM (d := 8) hM ag35 rfl ?_
            clear hM
            intro w b8 hM
            refine rl_nil (kq_normal (hK _ _ (hM.dropn 2) ?_))
            clear hK
            refine wa_eff1 (f := 6) 4 (by kernel_rfl) rfl ?_
            · intro K hK
              refine rl_callf fn9 (tprint_ok t _ w0 w _ V1 hg.nm (by omega) hM hc) rfl rfl ?_
              clear hM
              rintro _ w ⟨rfl, hM⟩
              refine rl_nil (kq_normal (hK _ _ (hM.dropn 2) ?_))
              clear hK
              refine wa_pre (f := 5) [5] (by kernel_rfl) ?_
              intro K hK
              refine rx_sadd rfl rfl rfl rfl (by omega) ?_
              refine rx_end (kq_normal (hK _ ?_))
              clear hK
              refine wa_eff1 (f := 4) 6 (by kernel_rfl) rfl ?_
              · intro K hK
                refine rl_callf fn7 (readScheme_ok (ctx pb ps ++ pr t 0) w0 w _ V1 hM (by simp only [List.length_append]; omega)) rfl rfl ?_
                clear hM
                rintro _ w ⟨V3, cs3, sc, e, a, hV3, hM, rfl, hsc, hst⟩
                rw [readS_ctx hg (by omega) hps (fun h => by have := hpb h; omega) (by omega) (by simp only [List.length_append]; omega)] at hst
                obtain ⟨rfl, rfl, rfl⟩ : sc = ⟨varsOf ((ps.map pd).map (·.2) ++ [t]), ps.map pd, t⟩ ∧ e = 0 ∧ a = 0 := by
                  rcases hst with ⟨h, h1, h2⟩ | ⟨h, _⟩
                  · cases h; exact ⟨rfl, h1, h2⟩
                  · cases h
                clear hst
                obtain ⟨va, vc, pa, pc, f2, n2, s2, a2, k2, c2, hsh⟩ := id hsc.shape
                subst hsh
                refine rl_nil (kq_normal (hK _ _ ((hM.dropn 2).le hV3) ?_))
                clear hK
                refine wa_pre (f := 1) [7, 8, 9] (by kernel_rfl) ?_
                intro K hK
                (try (refine rx_move (v := (Value.tuple _ : Value)) rfl rfl rfl ?_; (try (refine rx_extract rfl rfl rfl rfl ?_; (try (refine rx_extract rfl rfl rfl rfl ?_))))))
                refine rx_end (kq_normal (hK _ ?_))
                clear hK
                refine wa_eff1 (f := 0) 12 (by kernel_rfl) rfl ?_
                · intro K hK
                  refine rl_storeWM 1 hM ag32 rfl rfl rfl rfl rfl rfl rfl ?_
                  clear hM
                  intro w hM
                  refine rl_nil (kq_normal (hK _ _ ((hM.dropn 2).le hV3) ?_))
                  clear hK
                  refine wa_done (by kernel_rfl) ?_
                  refine rl_storeWM 0 hM ag35 rfl rfl rfl rfl rfl rfl rfl ?_
                  clear hM
                  intro w hM
                  refine rl_nil (np_normal (kq_normal ⟨by (repeat (first | with_reducible exact Agree.ov | with_reducible exact Agree.refl _ _ | refine Agree.upd rfl ?_ | refine Agree.ovs rfl ?_)), b7, b8, V3, ps, _, rfl, rfl, hV3, hpl, hsc, ?_⟩))
                  exact hM
        · intro K hK
          refine rl_allocAM (d := 8) hM ag35 rfl ?_
          clear hM
          intro w b8 hM
          refine rl_nil (kq_normal (hK _ _ (hM.dropn 1) ?_))
          clear hK
          refine wa_eff2 (f := 7) 4 10 (by kernel_rfl) rfl rfl ?_ ?_
          · intro K hK
            refine rl_callf fn9 (tprint_ok t _ w0 w _ V1 hg.nm (by omega) hM hc) rfl rfl ?_
            clear hM
            rintro _ w ⟨rfl, hM⟩
            refine rl_nil (kq_normal (hK _ _ (hM.dropn 1) ?_))
            clear hK
            refine wa_pre (f := 6) [5] (by kernel_rfl) ?_
            intro K hK
            refine rx_sadd rfl rfl rfl rfl (by omega) ?_
            refine rx_end (kq_normal (hK _ ?_))
            clear hK
            refine wa_eff2 (f := 5) 6 10 (by kernel_rfl) rfl rfl ?_ ?_
            · intro K hK
              refine rl_callf fn7 (readScheme_ok (ctx pb ps ++ pr t 0) w0 w _ V1 hM (by simp only [List.length_append]; omega)) rfl rfl ?_
              clear hM
              rintro _ w ⟨V3, cs3, sc, e, a, hV3, hM, rfl, hsc, hst⟩
              rw [readS_ctx hg (by omega) hps (fun h => by have := hpb h; omega) (by omega) (by simp only [List.length_append]; omega)] at hst
              obtain ⟨rfl, rfl, rfl⟩ : sc = ⟨varsOf ((ps.map pd).map (·.2) ++ [t]), ps.map pd, t⟩ ∧ e = 0 ∧ a = 0 := by
                rcases hst with ⟨h, h1, h2⟩ | ⟨h, _⟩
                · cases h; exact ⟨rfl, h1, h2⟩
                · cases h
              clear hst
              obtain ⟨va, vc, pa, pc, f2, n2, s2, a2, k2, c2, hsh⟩ := id hsc.shape
              subst hsh
              refine rl_nil (kq_normal (hK _ _ ((hM.dropn 1).le hV3) ?_))
              clear hK
              refine wa_pre (f := 2) [7, 8, 9] (by kernel_rfl) ?_
              intro K hK
              (try (refine rx_move (v := (Value.tuple _ : Value)) rfl rfl rfl ?_; (try (refine rx_extract rfl rfl rfl rfl ?_; (try (refine rx_extract rfl rfl rfl rfl ?_))))))
              refine rx_end (kq_normal (hK _ ?_))
              clear hK
              refine wa_eff1 (f := 1) 10 (by kernel_rfl) rfl ?_
              · intro K hK
                refine rl_allocAM (d := 7) hM ag32 rfl ?_
                clear hM
                intro w b7 hM
                refine rl_nil (kq_normal (hK _ _ ((hM.dropn 2).le hV3) ?_))
                clear hK
                refine wa_eff1 (f := 0) 12 (by kernel_rfl) rfl ?_
                · intro K hK
                  refine rl_storeWM 0 hM ag32 rfl rfl rfl rfl rfl rfl rfl ?_
                  clear hM
                  intro w hM
                  refine rl_nil (kq_normal (hK _ _ ((hM.dropn 2).le hV3) ?_))
                  clear hK
                  refine wa_done (by kernel_rfl) ?_
                  refine rl_storeWM 1 hM ag35 rfl rfl rfl rfl rfl rfl rfl ?_
                  clear hM
                  intro w hM
                  refine rl_nil (np_normal (kq_normal ⟨by (repeat (first | with_reducible exact Agree.ov | with_reducible exact Agree.refl _ _ | refine Agree.upd rfl ?_ | refine Agree.ovs rfl ?_)), b7, b8, V3, ps, _, rfl, rfl, hV3, hpl, hsc, ?_⟩))
                  exact hM.front 1 rfl
            · intro K hK
              refine rl_allocAM (d := 7) hM ag32 rfl ?_
              clear hM
              intro w b7 hM
              refine rl_nil (kq_normal (hK _ _ (hM.dropn 2) ?_))
              clear hK
              refine wa_eff1 (f := 4) 6 (by kernel_rfl) rfl ?_
              · intro K hK
                refine rl_callf fn7 (readScheme_ok (ctx pb ps ++ pr t 0) w0 w _ V1 hM (by simp only [List.length_append]; omega)) rfl rfl ?_
                clear hM
                rintro _ w ⟨V3, cs3, sc, e, a, hV3, hM, rfl, hsc, hst⟩
                rw [readS_ctx hg (by omega) hps (fun h => by have := hpb h; omega) (by omega) (by simp only [List.length_append]; omega)] at hst
                obtain ⟨rfl, rfl, rfl⟩ : sc = ⟨varsOf ((ps.map pd).map (·.2) ++ [t]), ps.map pd, t⟩ ∧ e = 0 ∧ a = 0 := by
                  rcases hst with ⟨h, h1, h2⟩ | ⟨h, _⟩
                  · cases h; exact ⟨rfl, h1, h2⟩
                  · cases h
                clear hst
                obtain ⟨va, vc, pa, pc, f2, n2, s2, a2, k2, c2, hsh⟩ := id hsc.shape
                subst hsh
                refine rl_nil (kq_normal (hK _ _ ((hM.dropn 2).le hV3) ?_))
                clear hK
                refine wa_pre (f := 1) [7, 8, 9] (by kernel_rfl) ?_
                intro K hK
                (try (refine rx_move (v := (Value.tuple _ : Value)) rfl rfl rfl ?_; (try (refine rx_extract rfl rfl rfl rfl ?_; (try (refine rx_extract rfl rfl rfl rfl ?_))))))
                refine rx_end (kq_normal (hK _ ?_))
                clear hK
                refine wa_eff1 (f := 0) 12 (by kernel_rfl) rfl ?_
                · intro K hK
                  refine rl_storeWM 0 hM ag32 rfl rfl rfl rfl rfl rfl rfl ?_
                  clear hM
                  intro w hM
                  refine rl_nil (kq_normal (hK _ _ ((hM.dropn 2).le hV3) ?_))
                  clear hK
                  refine wa_done (by kernel_rfl) ?_
                  refine rl_storeWM 1 hM ag35 rfl rfl rfl rfl rfl rfl rfl ?_
                  clear hM
                  intro w hM
                  refine rl_nil (np_normal (kq_normal ⟨by (repeat (first | with_reducible exact Agree.ov | with_reducible exact Agree.refl _ _ | refine Agree.upd rfl ?_ | refine Agree.ovs rfl ?_)), b7, b8, V3, ps, _, rfl, rfl, hV3, hpl, hsc, ?_⟩))
                  exact hM.front 1 rfl
          · intro K hK
            refine rl_allocAM (d := 7) hM ag32 rfl ?_
            clear hM
            intro w b7 hM
            refine rl_nil (kq_normal (hK _ _ (hM.dropn 2) ?_))
            clear hK
            refine wa_eff1 (f := 6) 4 (by kernel_rfl) rfl ?_
            · intro K hK
              refine rl_callf fn9 (tprint_ok t _ w0 w _ V1 hg.nm (by omega) hM hc) rfl rfl ?_
              clear hM
              rintro _ w ⟨rfl, hM⟩
              refine rl_nil (kq_normal (hK _ _ (hM.dropn 2) ?_))
              clear hK
              refine wa_pre (f := 5) [5] (by kernel_rfl) ?_
              intro K hK
              refine rx_sadd rfl rfl rfl rfl (by omega) ?_
              refine rx_end (kq_normal (hK _ ?_))
              clear hK
              refine wa_eff1 (f := 4) 6 (by kernel_rfl) rfl ?_
              · intro K hK
                refine rl_callf fn7 (readScheme_ok (ctx pb ps ++ pr t 0) w0 w _ V1 hM (by simp only [List.length_append]; omega)) rfl rfl ?_
                clear hM
                rintro _ w ⟨V3, cs3, sc, e, a, hV3, hM, rfl, hsc, hst⟩
                rw [readS_ctx hg (by omega) hps (fun h => by have := hpb h; omega) (by omega) (by simp only [List.length_append]; omega)] at hst
                obtain ⟨rfl, rfl, rfl⟩ : sc = ⟨varsOf ((ps.map pd).map (·.2) ++ [t]), ps.map pd, t⟩ ∧ e = 0 ∧ a = 0 := by
                  rcases hst with ⟨h, h1, h2⟩ | ⟨h, _⟩
                  · cases h; exact ⟨rfl, h1, h2⟩
                  · cases h
                clear hst
                obtain ⟨va, vc, pa, pc, f2, n2, s2, a2, k2, c2, hsh⟩ := id hsc.shape
                subst hsh
                refine rl_nil (kq_normal (hK _ _ ((hM.dropn 2).le hV3) ?_))
                clear hK
                refine wa_pre (f := 1) [7, 8, 9] (by kernel_rfl) ?_
                intro K hK
                (try (refine rx_move (v := (Value.tuple _ : Value)) rfl rfl rfl ?_; (try (refine rx_extract rfl rfl rfl rfl ?_; (try (refine rx_extract rfl rfl rfl rfl ?_))))))
                refine rx_end (kq_normal (hK _ ?_))
                clear hK
                refine wa_eff1 (f := 0) 12 (by kernel_rfl) rfl ?_
                · intro K hK
                  refine rl_storeWM 0 hM ag32 rfl rfl rfl rfl rfl rfl rfl ?_
                  clear hM
                  intro w hM
                  refine rl_nil (kq_normal (hK _ _ ((hM.dropn 2).le hV3) ?_))
                  clear hK
                  refine wa_done (by kernel_rfl) ?_
                  refine rl_storeWM 1 hM ag35 rfl rfl rfl rfl rfl rfl rfl ?_
                  clear hM
                  intro w hM
                  refine rl_nil (np_normal (kq_normal ⟨by (repeat (first | with_reducible exact Agree.ov | with_reducible exact Agree.refl _ _ | refine Agree.upd rfl ?_ | refine Agree.ovs rfl ?_)), b7, b8, V3, ps, _, rfl, rfl, hV3, hpl, hsc, ?_⟩))
                  exact hM.front 1 rfl
      · intro K hK
        refine rl_allocAM (d := 7) hM ag32 rfl ?_
        clear hM
        intro w b7 hM
        refine rl_nil (kq_normal (hK _ _ (hM.dropn 1) ?_))
        clear hK
        refine wa_eff2 (f := 8) 2 11 (by kernel_rfl) rfl rfl ?_ ?_
        · intro K hK
          refine rl_callf fn8 (context_ok _ l k w0 w _ V1 hM hI1 (by omega)) rfl rfl ?_
          clear hM
          rintro _ w ⟨ps, pb, rfl, hpl, hps, hpb, hM⟩
          have hcl := ctx_len (b := pb) hps
          refine rl_nil (kq_normal (hK _ _ (hM.dropn 1) ?_))
          clear hK
          refine wa_eff2 (f := 7) 4 11 (by kernel_rfl) rfl rfl ?_ ?_
          · intro K hK
            refine rl_callf fn9 (tprint_ok t _ w0 w _ V1 hg.nm (by omega) hM hc) rfl rfl ?_
            clear hM
            rintro _ w ⟨rfl, hM⟩
            refine rl_nil (kq_normal (hK _ _ (hM.dropn 1) ?_))
            clear hK
            refine wa_pre (f := 6) [5] (by kernel_rfl) ?_
            intro K hK
            refine rx_sadd rfl rfl rfl rfl (by omega) ?_
            refine rx_end (kq_normal (hK _ ?_))
            clear hK
            refine wa_eff2 (f := 5) 6 11 (by kernel_rfl) rfl rfl ?_ ?_
            · intro K hK
              refine rl_callf fn7 (readScheme_ok (ctx pb ps ++ pr t 0) w0 w _ V1 hM (by simp only [List.length_append]; omega)) rfl rfl ?_
              clear hM
              rintro _ w ⟨V3, cs3, sc, e, a, hV3, hM, rfl, hsc, hst⟩
              rw [readS_ctx hg (by omega) hps (fun h => by have := hpb h; omega) (by omega) (by simp only [List.length_append]; omega)] at hst
              obtain ⟨rfl, rfl, rfl⟩ : sc = ⟨varsOf ((ps.map pd).map (·.2) ++ [t]), ps.map pd, t⟩ ∧ e = 0 ∧ a = 0 := by
                rcases hst with ⟨h, h1, h2⟩ | ⟨h, _⟩
                · cases h; exact ⟨rfl, h1, h2⟩
                · cases h
              clear hst
              obtain ⟨va, vc, pa, pc, f2, n2, s2, a2, k2, c2, hsh⟩ := id hsc.shape
              subst hsh
              refine rl_nil (kq_normal (hK _ _ ((hM.dropn 1).le hV3) ?_))
              clear hK
              refine wa_pre (f := 2) [7, 8, 9] (by kernel_rfl) ?_
              intro K hK
              (try (refine rx_move (v := (Value.tuple _ : Value)) rfl rfl rfl ?_; (try (refine rx_extract rfl rfl rfl rfl ?_; (try (refine rx_extract rfl rfl rfl rfl ?_))))))
              refine rx_end (kq_normal (hK _ ?_))
              clear hK
              refine wa_eff1 (f := 1) 11 (by kernel_rfl) rfl ?_
              · intro K hK
                refine rl_allocAM (d := 8) hM ag35 rfl ?_
                clear hM
                intro w b8 hM
                refine rl_nil (kq_normal (hK _ _ ((hM.dropn 2).le hV3) ?_))
                clear hK
                refine wa_eff1 (f := 0) 12 (by kernel_rfl) rfl ?_
                · intro K hK
                  refine rl_storeWM 1 hM ag32 rfl rfl rfl rfl rfl rfl rfl ?_
                  clear hM
                  intro w hM
                  refine rl_nil (kq_normal (hK _ _ ((hM.dropn 2).le hV3) ?_))
                  clear hK
                  refine wa_done (by kernel_rfl) ?_
                  refine rl_storeWM 0 hM ag35 rfl rfl rfl rfl rfl rfl rfl ?_
                  clear hM
                  intro w hM
                  refine rl_nil (np_normal (kq_normal ⟨by (repeat (first | with_reducible exact Agree.ov | with_reducible exact Agree.refl _ _ | refine Agree.upd rfl ?_ | refine Agree.ovs rfl ?_)), b7, b8, V3, ps, _, rfl, rfl, hV3, hpl, hsc, ?_⟩))
                  exact hM
            · intro K hK
              refine rl_allocAM (d := 8) hM ag35 rfl ?_
              clear hM
              intro w b8 hM
              refine rl_nil (kq_normal (hK _ _ (hM.dropn 2) ?_))
              clear hK
              refine wa_eff1 (f := 4) 6 (by kernel_rfl) rfl ?_
              · intro K hK
                refine rl_callf fn7 (readScheme_ok (ctx pb ps ++ pr t 0) w0 w _ V1 hM (by simp only [List.length_append]; omega)) rfl rfl ?_
                clear hM
                rintro _ w ⟨V3, cs3, sc, e, a, hV3, hM, rfl, hsc, hst⟩
                rw [readS_ctx hg (by omega) hps (fun h => by have := hpb h; omega) (by omega) (by simp only [List.length_append]; omega)] at hst
                obtain ⟨rfl, rfl, rfl⟩ : sc = ⟨varsOf ((ps.map pd).map (·.2) ++ [t]), ps.map pd, t⟩ ∧ e = 0 ∧ a = 0 := by
                  rcases hst with ⟨h, h1, h2⟩ | ⟨h, _⟩
                  · cases h; exact ⟨rfl, h1, h2⟩
                  · cases h
                clear hst
                obtain ⟨va, vc, pa, pc, f2, n2, s2, a2, k2, c2, hsh⟩ := id hsc.shape
                subst hsh
                refine rl_nil (kq_normal (hK _ _ ((hM.dropn 2).le hV3) ?_))
                clear hK
                refine wa_pre (f := 1) [7, 8, 9] (by kernel_rfl) ?_
                intro K hK
                (try (refine rx_move (v := (Value.tuple _ : Value)) rfl rfl rfl ?_; (try (refine rx_extract rfl rfl rfl rfl ?_; (try (refine rx_extract rfl rfl rfl rfl ?_))))))
                refine rx_end (kq_normal (hK _ ?_))
                clear hK
                refine wa_eff1 (f := 0) 12 (by kernel_rfl) rfl ?_
                · intro K hK
                  refine rl_storeWM 1 hM ag32 rfl rfl rfl rfl rfl rfl rfl ?_
                  clear hM
                  intro w hM
                  refine rl_nil (kq_normal (hK _ _ ((hM.dropn 2).le hV3) ?_))
                  clear hK
                  refine wa_done (by kernel_rfl) ?_
                  refine rl_storeWM 0 hM ag35 rfl rfl rfl rfl rfl rfl rfl ?_
                  clear hM
                  intro w hM
                  refine rl_nil (np_normal (kq_normal ⟨by (repeat (first | with_reducible exact Agree.ov | with_reducible exact Agree.refl _ _ | refine Agree.upd rfl ?_ | refine Agree.ovs rfl ?_)), b7, b8, V3, ps, _, rfl, rfl, hV3, hpl, hsc, ?_⟩))
                  exact hM
          · intro K hK
            refine rl_allocAM (d := 8) hM ag35 rfl ?_
            clear hM
            intro w b8 hM
            refine rl_nil (kq_normal (hK _ _ (hM.dropn 2) ?_))
            clear hK
            refine wa_eff1 (f := 6) 4 (by kernel_rfl) rfl ?_
            · intro K hK
              refine rl_callf fn9 (tprint_ok t _ w0 w _ V1 hg.nm (by omega) hM hc) rfl rfl ?_
              clear hM
              rintro _ w ⟨rfl, hM⟩
              refine rl_nil (kq_normal (hK _ _ (hM.dropn 2) ?_))
              clear hK
              refine wa_pre (f := 5) [5] (by kernel_rfl) ?_
              intro K hK
              refine rx_sadd rfl rfl rfl rfl (by omega) ?_
              refine rx_end (kq_normal (hK _ ?_))
              clear hK
              refine wa_eff1 (f := 4) 6 (by kernel_rfl) rfl ?_
              · intro K hK
                refine rl_callf fn7 (readScheme_ok (ctx pb ps ++ pr t 0) w0 w _ V1 hM (by simp only [List.length_append]; omega)) rfl rfl ?_
                clear hM
                rintro _ w ⟨V3, cs3, sc, e, a, hV3, hM, rfl, hsc, hst⟩
                rw [readS_ctx hg (by omega) hps (fun h => by have := hpb h; omega) (by omega) (by simp only [List.length_append]; omega)] at hst
                obtain ⟨rfl, rfl, rfl⟩ : sc = ⟨varsOf ((ps.map pd).map (·.2) ++ [t]), ps.map pd, t⟩ ∧ e = 0 ∧ a = 0 := by
                  rcases hst with ⟨h, h1, h2⟩ | ⟨h, _⟩
                  · cases h; exact ⟨rfl, h1, h2⟩
                  · cases h
                clear hst
                obtain ⟨va, vc, pa, pc, f2, n2, s2, a2, k2, c2, hsh⟩ := id hsc.shape
                subst hsh
                refine rl_nil (kq_normal (hK _ _ ((hM.dropn 2).le hV3) ?_))
                clear hK
                refine wa_pre (f := 1) [7, 8, 9] (by kernel_rfl) ?_
                intro K hK
                (try (refine rx_move (v := (Value.tuple _ : Value)) rfl rfl rfl ?_; (try (refine rx_extract rfl rfl rfl rfl ?_; (try (refine rx_extract rfl rfl rfl rfl ?_))))))
                refine rx_end (kq_normal (hK _ ?_))
                clear hK
                refine wa_eff1 (f := 0) 12 (by kernel_rfl) rfl ?_
                · intro K hK
                  refine rl_storeWM 1 hM ag32 rfl rfl rfl rfl rfl rfl rfl ?_
                  clear hM
                  intro w hM
                  refine rl_nil (kq_normal (hK _ _ ((hM.dropn 2).le hV3) ?_))
                  clear hK
                  refine wa_done (by kernel_rfl) ?_
                  refine rl_storeWM 0 hM ag35 rfl rfl rfl rfl rfl rfl rfl ?_
                  clear hM
                  intro w hM
                  refine rl_nil (np_normal (kq_normal ⟨by (repeat (first | with_reducible exact Agree.ov | with_reducible exact Agree.refl _ _ | refine Agree.upd rfl ?_ | refine Agree.ovs rfl ?_)), b7, b8, V3, ps, _, rfl, rfl, hV3, hpl, hsc, ?_⟩))
                  exact hM
        · intro K hK
          refine rl_allocAM (d := 8) hM ag35 rfl ?_
          clear hM
          intro w b8 hM
          refine rl_nil (kq_normal (hK _ _ (hM.dropn 2) ?_))
          clear hK
          refine wa_eff1 (f := 7) 2 (by kernel_rfl) rfl ?_
          · intro K hK
            refine rl_callf fn8 (context_ok _ l k w0 w _ V1 hM hI1 (by omega)) rfl rfl ?_
            clear hM
            rintro _ w ⟨ps, pb, rfl, hpl, hps, hpb, hM⟩
            have hcl := ctx_len (b := pb) hps
            refine rl_nil (kq_normal (hK _ _ (hM.dropn 2) ?_))
            clear hK
            refine wa_eff1 (f := 6) 4 (by kernel_rfl) rfl ?_
            · intro K hK
              refine rl_callf fn9 (tprint_ok t _ w0 w _ V1 hg.nm (by omega) hM hc) rfl rfl ?_
              clear hM
              rintro _ w ⟨rfl, hM⟩
              refine rl_nil (kq_normal (hK _ _ (hM.dropn 2) ?_))
              clear hK
              refine wa_pre (f := 5) [5] (by kernel_rfl) ?_
              intro K hK
              refine rx_sadd rfl rfl rfl rfl (by omega) ?_
              refine rx_end (kq_normal (hK _ ?_))
              clear hK
              refine wa_eff1 (f := 4) 6 (by kernel_rfl) rfl ?_
              · intro K hK
                refine rl_callf fn7 (readScheme_ok (ctx pb ps ++ pr t 0) w0 w _ V1 hM (by simp only [List.length_append]; omega)) rfl rfl ?_
                clear hM
                rintro _ w ⟨V3, cs3, sc, e, a, hV3, hM, rfl, hsc, hst⟩
                rw [readS_ctx hg (by omega) hps (fun h => by have := hpb h; omega) (by omega) (by simp only [List.length_append]; omega)] at hst
                obtain ⟨rfl, rfl, rfl⟩ : sc = ⟨varsOf ((ps.map pd).map (·.2) ++ [t]), ps.map pd, t⟩ ∧ e = 0 ∧ a = 0 := by
                  rcases hst with ⟨h, h1, h2⟩ | ⟨h, _⟩
                  · cases h; exact ⟨rfl, h1, h2⟩
                  · cases h
                clear hst
                obtain ⟨va, vc, pa, pc, f2, n2, s2, a2, k2, c2, hsh⟩ := id hsc.shape
                subst hsh
                refine rl_nil (kq_normal (hK _ _ ((hM.dropn 2).le hV3) ?_))
                clear hK
                refine wa_pre (f := 1) [7, 8, 9] (by kernel_rfl) ?_
                intro K hK
                (try (refine rx_move (v := (Value.tuple _ : Value)) rfl rfl rfl ?_; (try (refine rx_extract rfl rfl rfl rfl ?_; (try (refine rx_extract rfl rfl rfl rfl ?_))))))
                refine rx_end (kq_normal (hK _ ?_))
                clear hK
                refine wa_eff1 (f := 0) 12 (by kernel_rfl) rfl ?_
                · intro K hK
                  refine rl_storeWM 1 hM ag32 rfl rfl rfl rfl rfl rfl rfl ?_
                  clear hM
                  intro w hM
                  refine rl_nil (kq_normal (hK _ _ ((hM.dropn 2).le hV3) ?_))
                  clear hK
                  refine wa_done (by kernel_rfl) ?_
                  refine rl_storeWM 0 hM ag35 rfl rfl rfl rfl rfl rfl rfl ?_
                  clear hM
                  intro w hM
                  refine rl_nil (np_normal (kq_normal ⟨by (repeat (first | with_reducible exact Agree.ov | with_reducible exact Agree.refl _ _ | refine Agree.upd rfl ?_ | refine Agree.ovs rfl ?_)), b7, b8, V3, ps, _, rfl, rfl, hV3, hpl, hsc, ?_⟩))
                  exact hM
      · intro K hK
        refine rl_allocAM (d := 8) hM ag35 rfl ?_
        clear hM
        intro w b8 hM
        refine rl_nil (kq_normal (hK _ _ (hM.dropn 1) ?_))
        clear hK
        refine wa_eff2 (f := 8) 2 10 (by kernel_rfl) rfl rfl ?_ ?_
        · intro K hK
          refine rl_callf fn8 (context_ok _ l k w0 w _ V1 hM hI1 (by omega)) rfl rfl ?_
          clear hM
          rintro _ w ⟨ps, pb, rfl, hpl, hps, hpb, hM⟩
          have hcl := ctx_len (b := pb) hps
          refine rl_nil (kq_normal (hK _ _ (hM.dropn 1) ?_))
          clear hK
          refine wa_eff2 (f := 7) 4 10 (by kernel_rfl) rfl rfl ?_ ?_
          · intro K hK
            refine rl_callf fn9 (tprint_ok t _ w0 w _ V1 hg.nm (by omega) hM hc) rfl rfl ?_
            clear hM
            rintro _ w ⟨rfl, hM⟩
            refine rl_nil (kq_normal (hK _ _ (hM.dropn 1) ?_))
            clear hK
            refine wa_pre (f := 6) [5] (by kernel_rfl) ?_
            intro K hK
            refine rx_sadd rfl rfl rfl rfl (by omega) ?_
            refine rx_end (kq_normal (hK _ ?_))
            clear hK
            refine wa_eff2 (f := 5) 6 10 (by kernel_rfl) rfl rfl ?_ ?_
            · intro K hK
              refine rl_callf fn7 (readScheme_ok (ctx pb ps ++ pr t 0) w0 w _ V1 hM (by simp only [List.length_append]; omega)) rfl rfl ?_
              clear hM
              rintro _ w ⟨V3, cs3, sc, e, a, hV3, hM, rfl, hsc, hst⟩
              rw [readS_ctx hg (by omega) hps (fun h => by have := hpb h; omega) (by omega) (by simp only [List.length_append]; omega)] at hst
              obtain ⟨rfl, rfl, rfl⟩ : sc = ⟨varsOf ((ps.map pd).map (·.2) ++ [t]), ps.map pd, t⟩ ∧ e = 0 ∧ a = 0 := by
                rcases hst with ⟨h, h1, h2⟩ | ⟨h, _⟩
                · cases h; exact ⟨rfl, h1, h2⟩
                · cases h
              clear hst
              obtain ⟨va, vc, pa, pc, f2, n2, s2, a2, k2, c2, hsh⟩ := id hsc.shape
              subst hsh
              refine rl_nil (kq_normal (hK _ _ ((hM.dropn 1).le hV3) ?_))
              clear hK
              refine wa_pre (f := 2) [7, 8, 9] (by kernel_rfl) ?_
              intro K hK
              (try (refine rx_move (v := (Value.tuple _ : Value)) rfl rfl rfl ?_; (try (refine rx_extract rfl rfl rfl rfl ?_; (try (refine rx_extract rfl rfl rfl rfl ?_))))))
              refine rx_end (kq_normal (hK _ ?_))
              clear hK
              refine wa_eff1 (f := 1) 10 (by kernel_rfl) rfl ?_
              · intro K hK
                refine rl_allocAM (d := 7) hM ag32 rfl ?_
                clear hM
                intro w b7 hM
                refine rl_nil (kq_normal (hK _ _ ((hM.dropn 2).le hV3) ?_))
                clear hK
                refine wa_eff1 (f := 0) 12 (by kernel_rfl) rfl ?_
                · intro K hK
                  refine rl_storeWM 0 hM ag32 rfl rfl rfl rfl rfl rfl rfl ?_
                  clear hM
                  intro w hM
                  refine rl_nil (kq_normal (hK _ _ ((hM.dropn 2).le hV3) ?_))
                  clear hK
                  refine wa_done (by kernel_rfl) ?_
                  refine rl_storeWM 1 hM ag35 rfl rfl rfl rfl rfl rfl rfl ?_
                  clear hM
                  intro w hM
                  refine rl_nil (np_normal (kq_normal ⟨by (repeat (first | with_reducible exact Agree.ov | with_reducible exact Agree.refl _ _ | refine Agree.upd rfl ?_ | refine Agree.ovs rfl ?_)), b7, b8, V3, ps, _, rfl, rfl, hV3, hpl, hsc, ?_⟩))
                  exact hM.front 1 rfl
            · intro K hK
              refine rl_allocAM (d := 7) hM ag32 rfl ?_
              clear hM
              intro w b7 hM
              refine rl_nil (kq_normal (hK _ _ (hM.dropn 2) ?_))
              clear hK
              refine wa_eff1 (f := 4) 6 (by kernel_rfl) rfl ?_
              · intro K hK
                refine rl_callf fn7 (readScheme_ok (ctx pb ps ++ pr t 0) w0 w _ V1 hM (by simp only [List.length_append]; omega)) rfl rfl ?_
                clear hM
                rintro _ w ⟨V3, cs3, sc, e, a, hV3, hM, rfl, hsc, hst⟩
                rw [readS_ctx hg (by omega) hps (fun h => by have := hpb h; omega) (by omega) (by simp only [List.length_append]; omega)] at hst
                obtain ⟨rfl, rfl, rfl⟩ : sc = ⟨varsOf ((ps.map pd).map (·.2) ++ [t]), ps.map pd, t⟩ ∧ e = 0 ∧ a = 0 := by
                  rcases hst with ⟨h, h1, h2⟩ | ⟨h, _⟩
                  · cases h; exact ⟨rfl, h1, h2⟩
                  · cases h
                clear hst
                obtain ⟨va, vc, pa, pc, f2, n2, s2, a2, k2, c2, hsh⟩ := id hsc.shape
                subst hsh
                refine rl_nil (kq_normal (hK _ _ ((hM.dropn 2).le hV3) ?_))
                clear hK
                refine wa_pre (f := 1) [7, 8, 9] (by kernel_rfl) ?_
                intro K hK
                (try (refine rx_move (v := (Value.tuple _ : Value)) rfl rfl rfl ?_; (try (refine rx_extract rfl rfl rfl rfl ?_; (try (refine rx_extract rfl rfl rfl rfl ?_))))))
                refine rx_end (kq_normal (hK _ ?_))
                clear hK
                refine wa_eff1 (f := 0) 12 (by kernel_rfl) rfl ?_
                · intro K hK
                  refine rl_storeWM 0 hM ag32 rfl rfl rfl rfl rfl rfl rfl ?_
                  clear hM
                  intro w hM
                  refine rl_nil (kq_normal (hK _ _ ((hM.dropn 2).le hV3) ?_))
                  clear hK
                  refine wa_done (by kernel_rfl) ?_
                  refine rl_storeWM 1 hM ag35 rfl rfl rfl rfl rfl rfl rfl ?_
                  clear hM
                  intro w hM
                  refine rl_nil (np_normal (kq_normal ⟨by (repeat (first | with_reducible exact Agree.ov | with_reducible exact Agree.refl _ _ | refine Agree.upd rfl ?_ | refine Agree.ovs rfl ?_)), b7, b8, V3, ps, _, rfl, rfl, hV3, hpl, hsc, ?_⟩))
                  exact hM.front 1 rfl
          · intro K hK
            refine rl_allocAM (d := 7) hM ag32 rfl ?_
            clear hM
            intro w b7 hM
            refine rl_nil (kq_normal (hK _ _ (hM.dropn 2) ?_))
            clear hK
            refine wa_eff1 (f := 6) 4 (by kernel_rfl) rfl ?_
            · intro K hK
              refine rl_callf fn9 (tprint_ok t _ w0 w _ V1 hg.nm (by omega) hM hc) rfl rfl ?_
              clear hM
              rintro _ w ⟨rfl, hM⟩
              refine rl_nil (kq_normal (hK _ _ (hM.dropn 2) ?_))
              clear hK
              refine wa_pre (f := 5) [5] (by kernel_rfl) ?_
              intro K hK
              refine rx_sadd rfl rfl rfl rfl (by omega) ?_
              refine rx_end (kq_normal (hK _ ?_))
              clear hK
              refine wa_eff1 (f := 4) 6 (by kernel_rfl) rfl ?_
              · intro K hK
                refine rl_callf fn7 (readScheme_ok (ctx pb ps ++ pr t 0) w0 w _ V1 hM (by simp only [List.length_append]; omega)) rfl rfl ?_
                clear hM
                rintro _ w ⟨V3, cs3, sc, e, a, hV3, hM, rfl, hsc, hst⟩
                rw [readS_ctx hg (by omega) hps (fun h => by have := hpb h; omega) (by omega) (by simp only [List.length_append]; omega)] at hst
                obtain ⟨rfl, rfl, rfl⟩ : sc = ⟨varsOf ((ps.map pd).map (·.2) ++ [t]), ps.map pd, t⟩ ∧ e = 0 ∧ a = 0 := by
                  rcases hst with ⟨h, h1, h2⟩ | ⟨h, _⟩
                  · cases h; exact ⟨rfl, h1, h2⟩
                  · cases h
                clear hst
                obtain ⟨va, vc, pa, pc, f2, n2, s2, a2, k2, c2, hsh⟩ := id hsc.shape
                subst hsh
                refine rl_nil (kq_normal (hK _ _ ((hM.dropn 2).le hV3) ?_))
                clear hK
                refine wa_pre (f := 1) [7, 8, 9] (by kernel_rfl) ?_
                intro K hK
                (try (refine rx_move (v := (Value.tuple _ : Value)) rfl rfl rfl ?_; (try (refine rx_extract rfl rfl rfl rfl ?_; (try (refine rx_extract rfl rfl rfl rfl ?_))))))
                refine rx_end (kq_normal (hK _ ?_))
                clear hK
                refine wa_eff1 (f := 0) 12 (by kernel_rfl) rfl ?_
                · intro K hK
                  refine rl_storeWM 0 hM ag32 rfl rfl rfl rfl rfl rfl rfl ?_
                  clear hM
                  intro w hM
                  refine rl_nil (kq_normal (hK _ _ ((hM.dropn 2).le hV3) ?_))
                  clear hK
                  refine wa_done (by kernel_rfl) ?_
                  refine rl_storeWM 1 hM ag35 rfl rfl rfl rfl rfl rfl rfl ?_
                  clear hM
                  intro w hM
                  refine rl_nil (np_normal (kq_normal ⟨by (repeat (first | with_reducible exact Agree.ov | with_reducible exact Agree.refl _ _ | refine Agree.upd rfl ?_ | refine Agree.ovs rfl ?_)), b7, b8, V3, ps, _, rfl, rfl, hV3, hpl, hsc, ?_⟩))
                  exact hM.front 1 rfl
        · intro K hK
          refine rl_allocAM (d := 7) hM ag32 rfl ?_
          clear hM
          intro w b7 hM
          refine rl_nil (kq_normal (hK _ _ (hM.dropn 2) ?_))
          clear hK
          refine wa_eff1 (f := 7) 2 (by kernel_rfl) rfl ?_
          · intro K hK
            refine rl_callf fn8 (context_ok _ l k w0 w _ V1 hM hI1 (by omega)) rfl rfl ?_
            clear hM
            rintro _ w ⟨ps, pb, rfl, hpl, hps, hpb, hM⟩
            have hcl := ctx_len (b := pb) hps
            refine rl_nil (kq_normal (hK _ _ (hM.dropn 2) ?_))
            clear hK
            refine wa_eff1 (f := 6) 4 (by kernel_rfl) rfl ?_
            · intro K hK
              refine rl_callf fn9 (tprint_ok t _ w0 w _ V1 hg.nm (by omega) hM hc) rfl rfl ?_
              clear hM
              rintro _ w ⟨rfl, hM⟩
              refine rl_nil (kq_normal (hK _ _ (hM.dropn 2) ?_))
              clear hK
              refine wa_pre (f := 5) [5] (by kernel_rfl) ?_
              intro K hK
              refine rx_sadd rfl rfl rfl rfl (by omega) ?_
              refine rx_end (kq_normal (hK _ ?_))
              clear hK
              refine wa_eff1 (f := 4) 6 (by kernel_rfl) rfl ?_
              · intro K hK
                refine rl_callf fn7 (readScheme_ok (ctx pb ps ++ pr t 0) w0 w _ V1 hM (by simp only [List.length_append]; omega)) rfl rfl ?_
                clear hM
                rintro _ w ⟨V3, cs3, sc, e, a, hV3, hM, rfl, hsc, hst⟩
                rw [readS_ctx hg (by omega) hps (fun h => by have := hpb h; omega) (by omega) (by simp only [List.length_append]; omega)] at hst
                obtain ⟨rfl, rfl, rfl⟩ : sc = ⟨varsOf ((ps.map pd).map (·.2) ++ [t]), ps.map pd, t⟩ ∧ e = 0 ∧ a = 0 := by
                  rcases hst with ⟨h, h1, h2⟩ | ⟨h, _⟩
                  · cases h; exact ⟨rfl, h1, h2⟩
                  · cases h
                clear hst
                obtain ⟨va, vc, pa, pc, f2, n2, s2, a2, k2, c2, hsh⟩ := id hsc.shape
                subst hsh
                refine rl_nil (kq_normal (hK _ _ ((hM.dropn 2).le hV3) ?_))
                clear hK
                refine wa_pre (f := 1) [7, 8, 9] (by kernel_rfl) ?_
                intro K hK
                (try (refine rx_move (v := (Value.tuple _ : Value)) rfl rfl rfl ?_; (try (refine rx_extract rfl rfl rfl rfl ?_; (try (refine rx_extract rfl rfl rfl rfl ?_))))))
                refine rx_end (kq_normal (hK _ ?_))
                clear hK
                refine wa_eff1 (f := 0) 12 (by kernel_rfl) rfl ?_
                · intro K hK
                  refine rl_storeWM 0 hM ag32 rfl rfl rfl rfl rfl rfl rfl ?_
                  clear hM
                  intro w hM
                  refine rl_nil (kq_normal (hK _ _ ((hM.dropn 2).le hV3) ?_))
                  clear hK
                  refine wa_done (by kernel_rfl) ?_
                  refine rl_storeWM 1 hM ag35 rfl rfl rfl rfl rfl rfl rfl ?_
                  clear hM
                  intro w hM
                  refine rl_nil (np_normal (kq_normal ⟨by (repeat (first | with_reducible exact Agree.ov | with_reducible exact Agree.refl _ _ | refine Agree.upd rfl ?_ | refine Agree.ovs rfl ?_)), b7, b8, V3, ps, _, rfl, rfl, hV3, hpl, hsc, ?_⟩))
                  exact hM.front 1 rfl
    · clear hM
      rintro τ _ _ w ⟨b7, b8, V3, ps, cs7, rfl, rfl, hV3, hpl, hsc, hM⟩
      obtain ⟨sc, hsd⟩ : ∃ sc : Sch, sc = ⟨varsOf ((ps.map pd).map (·.2) ++ [t]), ps.map pd, t⟩ := ⟨_, rfl⟩
      rw [← hsd] at hsc
      have hv1 : sc.vars = varsOf ((ps.map pd).map (·.2) ++ [t]) := by rw [hsd]
      have hp1 : sc.preds = ps.map pd := by rw [hsd]
      have hpk : sc.preds.length = k := by rw [hp1]; simp [hpl]
      clear hsd
      obtain ⟨vv, pv, ts7, rfl, hvs, hps, hty, hvl, _⟩ := id hsc
      obtain ⟨va, vc, vb, vo, rfl, x1, x2, x3, x4⟩ := id hvs.open'
      obtain ⟨pa, pc, pb, po, rfl, y1, y2, y3, y4⟩ := id hps
      obtain ⟨f2, n2, s2, a2, k2, c2, rfl, _⟩ := id hty.shape
      obtain ⟨ts, hts⟩ : ∃ ts, ts = sc.preds.map (·.2) := ⟨_, rfl⟩
      have htl : ts.length = k := by rw [hts, List.length_map, hpk]
      have hocc : (ts.flatMap occ).length = k := by rw [hts, hp1, occ_pds, hpl]
      rw [hp1] at hts
      rw [← hts] at hv1
      have hot := occ_sz t
      have hft := free_len t
      (repeat (first | refine seq_ ?_ | refine sq_normal ?_ | refine rl_nil ?_ | refine cond_f rfl ?_ | refine skip_ ?_ | refine block_ ?_ | (refine region_ (id := 4) ?_; (try (refine rl_loadAM (vs := [_, _]) 0 hM ag35 rfl rfl rfl rfl rfl ?_; (try (refine rl_build [(Value.int .i64 0), (Value.int .i64 0)] ag35 pl35 rfl rfl rfl ?_; (try (refine rl_aneq_f eq35 rfl rfl rfl rfl rfl (by first | rfl | assumption) ?_; (try (refine rl_move (v := (Value.bool _ : Value)) rfl rfl ?_; (try (refine rl_fld fd32_2 rfl rfl ?_; (try (refine rl_loadM 1 hM vt30 rfl rfl rfl (by first | rfl | assumption) ?_; (try (refine rl_len sl30 rfl rfl ?_; (try (refine rl_move (v := (Value.int _ _ : Value)) rfl rfl ?_; (try ((refine rl_neq_f rfl rfl rfl ?_ ?_; omega); (try (refine rl_pick (v := (Value.bool _ : Value)) rfl rfl rfl ?_))))))))))))))))))))) | (refine region_ (id := 6) ?_; (try (refine rl_assign (v := (Value.slice _ _ _ : Value)) rfl rfl ?_))) | (refine region_ (id := 7) ?_; (try (refine rl_assign (v := (Value.int _ _ : Value)) rfl rfl ?_)))))
      have hM : Mem w0 w (.own (.slice none 0 0) 9 1 0 [] :: .blk b8 [.int .i64 0, .int .i64 0] 35 :: .blk b7 [.slice va sc.vars.length vc, .slice none 0 0, .slice pa sc.preds.length pc, .int .i64 f2, .int .i64 n2, St s2, .slice a2 k2 c2] 32 :: .blk b6 [.int .i64 f1, .int .i64 n1, St s1, .slice a1 k1 c1] 26 :: []) V3 := hM.newOwn 9 1
      refine loop2 [(9, 11), (37, 51)] 9 10 (fun m v9 v10 wr => ∃ (q : Nat) (acc : List B) (V4 : Vw) (a : Option Addr) (c : Nat), v9 = .slice a acc.length c ∧ v10 = .int .i64 q ∧ q ≤ k ∧ m = k - q ∧ VLe V3 V4 ∧ acc = (ts.take q).flatMap free ∧
          Mem w0 wr (.own (.slice a acc.length c) 9 1 acc.length (acc.map St) :: .blk b8 [.int .i64 0, .int .i64 0] 35 :: .blk b7 [.slice va sc.vars.length vc, .slice none 0 0, .slice pa sc.preds.length pc, .int .i64 f2, .int .i64 n2, St s2, .slice a2 k2 c2] 32 :: .blk b6 [.int .i64 f1, .int .i64 n1, St s1, .slice a1 k1 c1] 26 :: []) V4) _
        ⟨0, [], V3, none, 0, rfl, rfl, Nat.zero_le _, rfl, VLe.refl _, rfl, hM⟩ ?_
      clear hM
      rintro m τ2 v9 v10 w ⟨q, acc, V4, a, c, rfl, rfl, hq, rfl, hV4, hacc, hM⟩ K0 hL0
      have hal : acc.length ≤ 10 := by
        have h1 := flen (ts.take q)
        have h2 := take_occ' ts q
        rw [hacc]; omega
      have hmx : 100000000 ≤ maxLen := by unfold maxLen; omega
      by_cases hlt : q < k
      · obtain ⟨p, hp⟩ : ∃ p, sc.preds[q]? = some p := ⟨_, List.getElem?_eq_getElem (by omega)⟩
        have hx : ts[q]? = some p.2 := by rw [hts, ← hp1]; simp [hp]
        obtain ⟨ys, hr, hys⟩ := y4 q p hp
        have y3' := y3 (by omega)
        subst y3'
        obtain ⟨f0, n0, s0, a0, k0, c0, rfl, _⟩ := id hys.shape
        have hrt : VRow V4 pb (po + q * 5 + 1) [.int .i64 f0, .int .i64 n0, St s0, .slice a0 k0 c0] := fun j u hj => by
          have := (hr.le hV4) (j + 1) u (by simpa using hj)
          rwa [show po + q * 5 + 1 + j = po + q * 5 + (j + 1) by omega]
        have hxo := mem_occ (List.mem_of_getElem? hx)
        have hxf := free_len p.2
        have hstep := flatMap_take hx
        rw [← hacc] at hstep
        (repeat (first | refine seq_ ?_ | refine sq_normal ?_ | refine rl_nil ?_ | refine cond_t rfl ?_ | refine skip_ ?_ | refine block_ ?_ | (refine region_ (id := 8) ?_; (try (refine rl_move (v := (Value.int _ _ : Value)) rfl rfl ?_; (try (refine rl_move (v := (Value.int _ _ : Value)) rfl rfl ?_; (try ((refine rl_lss_t rfl rfl rfl ?_ ?_; omega)))))))) | (refine region_ (id := 10) ?_; (try (refine rl_move (v := (Value.slice _ _ _ : Value)) rfl rfl ?_; (try (refine rl_fld fd32_2 rfl rfl ?_; (try (refine rl_loadM 2 hM vt30 rfl rfl rfl (by first | rfl | assumption) ?_; (try (refine rl_move (v := (Value.int _ _ : Value)) rfl rfl ?_; (try ((refine rl_idx sl30 rfl rfl rfl rfl ?_ ?_ ?_; omega; omega); (try (refine rl_fld fd42_1 rfl rfl ?_; (try (refine rl_loadAV hM ag26 rfl rfl (by assumption) (by rfl) ?_)))))))))))))))))
        refine rl_callf fn10 (free_ok _ p.2 _ (Nat.lt_succ_self _) (by omega) w0 w _ V4 hM (hys.ty.le hV4)) rfl rfl ?_
        clear hM
        rintro _ w ⟨V5, hV5, hM, hfs⟩
        obtain ⟨fa, fc, fb, fo, rfl, r1, r2, r3, r4⟩ := id hfs.open'
        have r5 : ∀ (j : Nat) u, ((free p.2).map St)[j]? = some u → V5 ⟨fb, fo + j, none⟩ = some u := fun j u hj => by
          rw [List.getElem?_map, Option.map_eq_some_iff] at hj
          obtain ⟨s, hs, rfl⟩ := hj
          exact r4 j s hs
        refine rl_appendM 0 (news := (free p.2).map St) (B := fb) (off := fo) hM sl28 rfl (by decide) rfl (fun j u hj => hM.view (r5 j u hj)) rfl rfl rfl r3 (by simp) ?_ ?_ ?_ ?_
        · intro u hu
          obtain ⟨x, _, rfl⟩ := List.mem_map.1 hu
          rfl
        · omega
        · omega
        clear hM
        intro w a' c' hc1 hc2 hM
        have hal2 : (acc ++ free p.2).length = acc.length + (free p.2).length := by simp
        have hM : Mem w0 w (.own (.slice a' (acc.length + (free p.2).length) c') 9 1 (acc.length + (free p.2).length) (acc.map St ++ (free p.2).map St) :: .blk b8 [.int .i64 0, .int .i64 0] 35 :: .blk b7 [.slice va sc.vars.length vc, .slice none 0 0, .slice (some ⟨pb, po, none⟩) sc.preds.length pc, .int .i64 f2, .int .i64 n2, St s2, .slice a2 k2 c2] 32 :: .blk b6 [.int .i64 f1, .int .i64 n1, St s1, .slice a1 k1 c1] 26 :: []) V5 := hM
        rw [← List.map_append, ← hal2] at hM
        (repeat (first | refine sq_normal ?_ | refine rl_nil ?_ | refine inBlock_normal ?_ | (refine region_ (id := 9) ?_; (try (refine rl_move (v := (Value.int _ _ : Value)) rfl rfl ?_; (try ((refine rl_add rfl rfl rfl ?_ ?_ ?_; omega; omega); (try (refine rl_assign (v := (Value.int _ _ : Value)) rfl rfl ?_))))))) | refine rl_assign (v := (Value.slice _ _ _ : Value)) rfl rfl ?_))
        exact kq_normal (hL0 (k - (q + 1)) _ _ (by omega) (by (repeat (first | with_reducible exact Agree.ov | with_reducible exact Agree.refl _ _ | refine Agree.upd rfl ?_ | refine Agree.ovs rfl ?_))) ⟨q + 1, acc ++ free p.2, V5, a', c', by rw [hal2]; rfl, rfl, by omega, rfl, hV4.trans hV5, hstep.symm, hM⟩)
      · have hqe : q = k := by omega
        subst hqe
        rw [List.take_of_length_le (by omega)] at hacc
        (repeat (first | refine seq_ ?_ | refine sq_normal ?_ | refine sq_exit ?_ | refine rl_nil ?_ | refine cond_f rfl ?_ | refine exit_ ?_ | refine inBlock_exit ?_ | refine kq_exit ?_ | (refine region_ (id := 8) ?_; (try (refine rl_move (v := (Value.int _ _ : Value)) rfl rfl ?_; (try (refine rl_move (v := (Value.int _ _ : Value)) rfl rfl ?_; (try ((refine rl_lss_f rfl rfl rfl ?_ ?_; omega)))))))) | (refine region_ (id := 11) ?_; (try (refine rl_move (v := (Value.slice _ _ _ : Value)) rfl rfl ?_; (try (refine rl_loadAM (vs := [_, _, _, _]) 3 hM ag26 rfl rfl rfl rfl rfl ?_)))))))
        refine rl_callf fn10 (free_ok _ t _ (Nat.lt_succ_self _) (by omega) w0 w _ V4 hM ((hc.le hV3).le hV4)) rfl rfl ?_
        clear hM
        rintro _ w ⟨V5, hV5, hM, hfs⟩
        obtain ⟨fa, fc, fb, fo, rfl, r1, r2, r3, r4⟩ := id hfs.open'
        have r5 : ∀ (j : Nat) u, ((free t).map St)[j]? = some u → V5 ⟨fb, fo + j, none⟩ = some u := fun j u hj => by
          rw [List.getElem?_map, Option.map_eq_some_iff] at hj
          obtain ⟨s, hs, rfl⟩ := hj
          exact r4 j s hs
        refine rl_appendM 0 (news := (free t).map St) (B := fb) (off := fo) hM sl28 rfl (by decide) rfl (fun j u hj => hM.view (r5 j u hj)) rfl rfl rfl r3 (by simp) ?_ ?_ ?_ ?_
        · intro u hu
          obtain ⟨x, _, rfl⟩ := List.mem_map.1 hu
          rfl
        · omega
        · omega
        clear hM
        intro w a' c' hc1 hc2 hM
        obtain ⟨wt, hwt⟩ : ∃ wt, wt = acc ++ free t := ⟨_, rfl⟩
        have hwl : wt.length = acc.length + (free t).length := by rw [hwt]; simp
        replace hM : Mem w0 w (.own (.slice a' (acc.length + (free t).length) c') 9 1 (acc.length + (free t).length) (acc.map St ++ (free t).map St) :: .blk b8 [.int .i64 0, .int .i64 0] 35 :: .blk b7 [.slice va sc.vars.length vc, .slice none 0 0, .slice pa sc.preds.length pc, .int .i64 f2, .int .i64 n2, St s2, .slice a2 k2 c2] 32 :: .blk b6 [.int .i64 f1, .int .i64 n1, St s1, .slice a1 k1 c1] 26 :: []) V5 := hM
        rw [← List.map_append, ← hwl, ← hwt] at hM
        rw [← hwl]
        have hmem : ∀ u, u ∈ sc.vars ↔ u ∈ wt := fun u => by rw [hv1, mem_varsOf, hwt, hacc, List.flatMap_append]; simp
        have hnd : sc.vars.Nodup := by rw [hv1]; exact varsOf_nodup _
        have hvb : sc.vars.length ≤ 200 := by
          have h1 := varsOf_len (ts ++ [t])
          rw [List.flatMap_append, List.length_append, hocc] at h1
          simp only [List.flatMap_cons, List.flatMap_nil, List.append_nil] at h1
          rw [hv1]; omega
        obtain ⟨V6, hV6, hM2, hwts⟩ := own_ts hM
        clear hM
        have hM := hM2
        clear hM2
        have hvs6 : IsTs V6 (.slice va sc.vars.length vc) sc.vars := IsSl.mono hvs (hV4.trans (hV5.trans hV6))
        obtain ⟨wa, wc, wb, wo, hsh, u1, u2, u3, u4⟩ := id hwts.open'
        cases hsh
        have x4' : ∀ (i : Nat) s, sc.vars[i]? = some s → V6 ⟨vb, vo + i, none⟩ = some (St s) := fun i s hs => hV6 _ _ (hV5 _ _ (hV4 _ _ (x4 i s hs)))
        (repeat (first | refine seq_ ?_ | refine sq_normal ?_ | refine rl_nil ?_ | refine block_ ?_ | (refine region_ (id := 12) ?_; (try (refine rl_assign (v := (Value.int _ _ : Value)) rfl rfl ?_))) | refine rl_assign (v := (Value.slice _ _ _ : Value)) rfl rfl ?_))
        refine loop1 [(4, 5), (11, 12), (55, 69)] 11 (fun m v wr => ∃ i : Nat, v = .int .i64 i ∧ i ≤ wt.length ∧ m = wt.length - i ∧ Mem w0 wr [.blk b8 [.int .i64 0, .int .i64 0] 35, .blk b7 [.slice va sc.vars.length vc, .slice none 0 0, .slice pa sc.preds.length pc, .int .i64 f2, .int .i64 n2, St s2, .slice a2 k2 c2] 32, .blk b6 [.int .i64 f1, .int .i64 n1, St s1, .slice a1 k1 c1] 26] V6) _
          ⟨0, rfl, Nat.zero_le _, rfl, hM⟩ ?_
        clear hM
        rintro m τ3 v w ⟨i, rfl, hi, rfl, hM⟩ K1 hL1
        by_cases hlt2 : i < wt.length
        · obtain ⟨s, hs⟩ : ∃ s, wt[i]? = some s := ⟨_, List.getElem?_eq_getElem hlt2⟩
          have hcell := u4 i s hs
          have u3' := u3 (by omega)
          subst u3'
          have hin : s ∈ sc.vars := (hmem s).2 (List.mem_of_getElem? hs)
          (repeat (first | refine seq_ ?_ | refine sq_normal ?_ | refine rl_nil ?_ | refine cond_t rfl ?_ | refine skip_ ?_ | refine block_ ?_ | (refine region_ (id := 13) ?_; (try (refine rl_move (v := (Value.int _ _ : Value)) rfl rfl ?_; (try (refine rl_move (v := (Value.slice _ _ _ : Value)) rfl rfl ?_; (try (refine rl_len sl28 rfl rfl ?_; (try ((refine rl_lss_t rfl rfl rfl ?_ ?_; omega))))))))))))
          (refine drawnM_ 7 [(0, false), (1, false), (2, false), (3, false), (4, false), (5, false), (6, true)] (fun w => Mem w0 w _ _) hM mo (by kernel_rfl) (fun _ h => h) ?_; clear hM; intro w hM; (try (refine rx_fld rfl fd32_0 rfl rfl ?_; (try (refine rx_loadM 1 rfl (fun _ h => h) vt28 rfl rfl rfl (by first | rfl | assumption) ?_; (try (refine rx_move (v := (Value.slice _ _ _ : Value)) rfl rfl rfl ?_; (try (refine rx_move (v := (Value.int _ _ : Value)) rfl rfl rfl ?_; (try ((refine rx_idx1 rfl sl28 rfl rfl rfl rfl ?_ ?_ ?_; omega; omega); (try (refine rx_loadV rfl (fun _ h => h) vt9 rfl rfl (by first | assumption | exact VRow.get (by assumption) rfl | exact VRow.get0 (by assumption) rfl) ?_)))))))))))))
          refine rx_eff rfl (fun K hK => ?_)
          refine rl_callf fn11 (has_ok _ sc.vars s w (IsSl.mono hvs6 hM.vle) (by omega)) rfl rfl ?_
          rintro _ _ ⟨rfl, rfl⟩
          rw [decide_eq_true hin]
          refine rl_nil (kq_normal (hK _ _ hM ?_))
          refine rx_nil rfl ?_
          (repeat (first | refine sq_normal ?_ | refine rl_nil ?_ | refine cond_f rfl ?_ | refine skip_ ?_ | refine inBlock_normal ?_ | refine np_normal ?_ | (refine region_ (id := 14) ?_; (try (refine rl_move (v := (Value.int _ _ : Value)) rfl rfl ?_; (try ((refine rl_add rfl rfl rfl ?_ ?_ ?_; omega; omega); (try (refine rl_assign (v := (Value.int _ _ : Value)) rfl rfl ?_))))))) | refine rl_not rfl rfl ?_))
          exact kq_normal (hL1 (wt.length - (i + 1)) _ _ (by omega) (by (repeat (first | with_reducible exact Agree.ov | with_reducible exact Agree.refl _ _ | refine Agree.upd rfl ?_ | refine Agree.ovs rfl ?_))) ⟨i + 1, rfl, by omega, rfl, hM⟩)
        · have hie : i = wt.length := by omega
          subst hie
          (repeat (first | refine seq_ ?_ | refine sq_normal ?_ | refine sq_exit ?_ | refine rl_nil ?_ | refine cond_f rfl ?_ | refine exit_ ?_ | refine block_ ?_ | refine inBlock_exit ?_ | refine kq_exit ?_ | (refine region_ (id := 13) ?_; (try (refine rl_move (v := (Value.int _ _ : Value)) rfl rfl ?_; (try (refine rl_move (v := (Value.slice _ _ _ : Value)) rfl rfl ?_; (try (refine rl_len sl28 rfl rfl ?_; (try ((refine rl_lss_f rfl rfl rfl ?_ ?_; omega)))))))))) | (refine region_ (id := 17) ?_; (try (refine rl_assign (v := (Value.int _ _ : Value)) rfl rfl ?_)))))
          refine loop1 [(4, 5), (12, 13), (69, 96)] 12 (fun m v wr => ∃ i : Nat, v = .int .i64 i ∧ i ≤ sc.vars.length ∧ m = sc.vars.length - i ∧ Mem w0 wr [.blk b8 [.int .i64 0, .int .i64 0] 35, .blk b7 [.slice va sc.vars.length vc, .slice none 0 0, .slice pa sc.preds.length pc, .int .i64 f2, .int .i64 n2, St s2, .slice a2 k2 c2] 32, .blk b6 [.int .i64 f1, .int .i64 n1, St s1, .slice a1 k1 c1] 26] V6) _
            ⟨0, rfl, Nat.zero_le _, rfl, hM⟩ ?_
          clear hM
          rintro m τ4 v w ⟨i, rfl, hi, rfl, hM⟩ K2 hL2
          by_cases hlt3 : i < sc.vars.length
          · obtain ⟨s, hs⟩ : ∃ s, sc.vars[i]? = some s := ⟨_, List.getElem?_eq_getElem hlt3⟩
            have hcell := x4' i s hs
            have x3' := x3 (by omega)
            subst x3'
            have hin : s ∈ wt := (hmem s).1 (List.mem_of_getElem? hs)
            have hnot := nodup_take hnd hs
            have htk := IsTs.take hvs6 i (by omega)
            (repeat (first | refine seq_ ?_ | refine sq_normal ?_ | refine rl_nil ?_ | refine cond_t rfl ?_ | refine skip_ ?_ | refine block_ ?_ | (refine region_ (id := 18) ?_; (try (refine rl_move (v := (Value.int _ _ : Value)) rfl rfl ?_; (try (refine rl_fld fd32_0 rfl rfl ?_; (try (refine rl_loadM 1 hM vt28 rfl rfl rfl (by first | rfl | assumption) ?_; (try (refine rl_len sl28 rfl rfl ?_; (try ((refine rl_lss_t rfl rfl rfl ?_ ?_; omega))))))))))))))
            (refine drawnM_ 19 [(0, false), (1, false), (2, false), (3, false), (4, false), (5, false), (6, true), (7, false), (8, false), (9, false), (10, false), (11, false), (12, false), (13, false), (14, false), (15, false), (16, false), (17, false), (18, true)] (fun w => Mem w0 w _ _) hM mo (by kernel_rfl) (fun _ h => h) ?_; clear hM; intro w hM; (try (refine rx_move (v := (Value.slice _ _ _ : Value)) rfl rfl rfl ?_; (try (refine rx_fld rfl fd32_0 rfl rfl ?_; (try (refine rx_loadM 1 rfl (fun _ h => h) vt28 rfl rfl rfl (by first | rfl | assumption) ?_; (try (refine rx_move (v := (Value.int _ _ : Value)) rfl rfl rfl ?_; (try ((refine rx_idx1 rfl sl28 rfl rfl rfl rfl ?_ ?_ ?_; omega; omega); (try (refine rx_loadV rfl (fun _ h => h) vt9 rfl rfl (by first | assumption | exact VRow.get (by assumption) rfl | exact VRow.get0 (by assumption) rfl) ?_)))))))))))))
            refine rx_eff rfl (fun K hK => ?_)
            refine rl_callf fn11 (has_ok _ wt s w (IsSl.mono hwts hM.vle) (by omega)) rfl rfl ?_
            rintro _ _ ⟨rfl, rfl⟩
            rw [decide_eq_true hin]
            refine rl_nil (kq_normal (hK _ _ hM ?_))
            (try (refine rx_not rfl rfl rfl ?_; (try (refine rx_move (v := (Value.bool _ : Value)) rfl rfl rfl ?_; (try (refine rx_fld rfl fd32_0 rfl rfl ?_; (try (refine rx_loadM 1 rfl (fun _ h => h) vt28 rfl rfl rfl (by first | rfl | assumption) ?_; (try (refine rx_move (v := (Value.int _ _ : Value)) rfl rfl rfl ?_; (try ((refine rx_slice_h rfl sl28 rfl rfl rfl ?_ ?_ ?_ ?_; omega; omega; omega); (try (refine rx_fld rfl fd32_0 rfl rfl ?_; (try (refine rx_loadM 1 rfl (fun _ h => h) vt28 rfl rfl rfl (by first | rfl | assumption) ?_; (try (refine rx_move (v := (Value.int _ _ : Value)) rfl rfl rfl ?_; (try ((refine rx_idx1 rfl sl28 rfl rfl rfl rfl ?_ ?_ ?_; omega; omega); (try (refine rx_loadV rfl (fun _ h => h) vt9 rfl rfl (by first | assumption | exact VRow.get (by assumption) rfl | exact VRow.get0 (by assumption) rfl) ?_))))))))))))))))))))))
            refine rx_eff rfl (fun K hK => ?_)
            refine rl_callf fn11 (has_ok _ (sc.vars.take i) s _ (IsSl.mono htk hM.vle) (by rw [List.length_take]; omega)) rfl rfl ?_
            rintro _ _ ⟨rfl, rfl⟩
            rw [decide_eq_false hnot]
            refine rl_nil (kq_normal (hK _ _ hM ?_))
            refine rx_nil rfl ?_
            (repeat (first | refine sq_normal ?_ | refine rl_nil ?_ | refine cond_f rfl ?_ | refine skip_ ?_ | refine inBlock_normal ?_ | refine np_normal ?_ | (refine region_ (id := 19) ?_; (try (refine rl_move (v := (Value.int _ _ : Value)) rfl rfl ?_; (try ((refine rl_add rfl rfl rfl ?_ ?_ ?_; omega; omega); (try (refine rl_assign (v := (Value.int _ _ : Value)) rfl rfl ?_))))))) | refine rl_pick (v := (Value.bool _ : Value)) rfl rfl rfl ?_))
            exact kq_normal (hL2 (sc.vars.length - (i + 1)) _ _ (by omega) (by (repeat (first | with_reducible exact Agree.ov | with_reducible exact Agree.refl _ _ | refine Agree.upd rfl ?_ | refine Agree.ovs rfl ?_))) ⟨i + 1, rfl, by omega, rfl, hM⟩)
          · have hie : i = sc.vars.length := by omega
            subst hie
            (repeat (first | refine seq_ ?_ | refine sq_normal ?_ | refine sq_exit ?_ | refine rl_nil ?_ | refine cond_f rfl ?_ | refine exit_ ?_ | refine inBlock_exit ?_ | refine kq_exit ?_ | (refine region_ (id := 18) ?_; (try (refine rl_move (v := (Value.int _ _ : Value)) rfl rfl ?_; (try (refine rl_fld fd32_0 rfl rfl ?_; (try (refine rl_loadM 1 hM vt28 rfl rfl rfl (by first | rfl | assumption) ?_; (try (refine rl_len sl28 rfl rfl ?_; (try ((refine rl_lss_f rfl rfl rfl ?_ ?_; omega)))))))))))) | (refine region_ (id := 22) ?_)))
            refine rl_callf fn12 (lives_ok w0 w _ V6 hM) rfl rfl ?_
            clear hM
            rintro _ w ⟨rfl, hM⟩
            (repeat (first | refine sq_normal ?_ | refine rl_nil ?_ | refine ret_ ?_ | refine rl_assign (v := (Value.bool _ : Value)) rfl rfl ?_))
            exact bp_ret1 (v := Value.bool _) rfl rfl ⟨rfl, hM.below⟩
      
  rw [hw0] at key
  exact key
end Go.Proofs.YtadbinckjmdokaaDoor.Trd
