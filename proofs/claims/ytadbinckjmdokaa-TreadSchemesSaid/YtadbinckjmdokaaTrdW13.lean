/- The walk of fugueref05.Scheme. -/
import Derived.Test.YtadbinckjmdokaaTrdW9
import Derived.Test.YtadbinckjmdokaaTrdW10
import Derived.Test.YtadbinckjmdokaaTxB
set_option linter.unusedVariables false
set_option linter.unusedSimpArgs false
namespace Go.Eng
theorem VRow.tl {V : Vw} {b o : Nat} {x : Value} {xs : List Value} (h : VRow V b o (x :: xs)) : VRow V b (o + 1) xs := fun j u hj => by
  have := h (j + 1) u (by simpa using hj)
  rwa [show o + 1 + j = o + (j + 1) by omega]
end Go.Eng
namespace Go.Proofs.Ytadbinckjmdokaa.Trd
open Go Go.Eng Go.RowKit Go.Tr Go.Lx
attribute [local irreducible] RL RX KQ SQ Exit.inBlock Exit.then BP NP CallsOk IsSl IsRows IsInts IsBools Own Blk Code.wp Calls wpList
/-- A scheme and the place behind it, or a refusal, as the document's answer has it. -/
def XSch (w0 : World) (L : List Ent) (V : Vw) (n : Nat) (x : Except (Int × Int) (Sch × Nat)) (r : Value) (w' : World) : Prop :=
  (∃ V' vv pv cs sc, ∃ j : Nat, VLe V V' ∧ Mem w0 w' L V' ∧ r = .agg (xC cs pv vv j 0 0).toArray ∧ x = .ok (sc, j) ∧ IsTs V' vv sc.vars ∧ PdSl V' pv sc.preds ∧ TyV V' sc.ty cs ∧ j < n ∧ sc.vars.length ≤ n ∧ sc.preds.length ≤ 16) ∨
  (∃ V' e a, VLe V V' ∧ Mem w0 w' L V' ∧ r = .agg (xC zT nilS nilS 0 e a).toArray ∧ x = .error (e, a) ∧ e ≠ 0)
set_option maxRecDepth 4000 in
set_option maxHeartbeats 8000000 in
theorem rscheme_ok (l : List Tok) (i : Nat) (v : Value) (w0 w : World) (L : List Ent) (V : Vw) (hM : Mem w0 w L V) (hl : IsTk V v l) (hT : TOk l) (hi : i < l.length) :
    CallsOk Try.prog 25 #[v, .int .i64 i] w (XSch w0 L V l.length (scheme l i)) := by
  obtain ⟨va, vc, vb, vo, rfl, g1, g2, g3, g4⟩ := id hl
  have g3' := g3 (by omega)
  subst g3'
  have hfew := hT.few
  have hml := maxLen_le
  have hmx : 100000000 ≤ maxLen := by unfold maxLen; omega
  refine enter_ (N := 54) Try.func25 rfl rfl rfl ?_
  (repeat (first | refine seq_ ?_ | refine sq_normal ?_ | refine rl_nil ?_ | (refine region_ (id := 0) ?_; (try ((refine rl_allocAM (d := 4) hM ag38 rfl ?_; clear hM; intro w b4 hM)))) | (refine region_ (id := 1) ?_; (try (refine rl_move (v := (Value.slice _ _ _ : Value)) rfl rfl ?_; (try (refine rl_move (v := (Value.int _ _ : Value)) rfl rfl ?_)))))))
  refine rl_callf fn22 (rpreds_ok l i _ w0 w _ V hM hl hT hi) rfl rfl ?_
  clear hM
  rintro _ w hres
  rcases hres with ⟨V1, pv, ps, j, hV1, hM, rfl, hx, hps, hj⟩ | ⟨V1, e, a, hV1, hM, rfl, hx, he⟩
  · obtain ⟨pa, pc, pb, po, rfl, hpc1, hpc2, hpc3, hpc4⟩ := id hps
    obtain ⟨hpo, hp16⟩ := preds_occ hx
    (repeat (first | refine seq_ ?_ | refine sq_normal ?_ | refine rl_nil ?_ | refine cond_f rfl ?_ | refine skip_ ?_ | (refine region_ (id := 2) ?_; (try (refine rl_fld fd38_4 rfl rfl ?_; (try (refine rl_fld fd34_0 rfl rfl ?_; (try (refine rl_loadM 0 hM vt32 rfl rfl rfl (by first | rfl | assumption) ?_; (try ((refine rl_neq_f rfl rfl rfl ?_ ?_; omega)))))))))) | (refine region_ (id := 4) ?_; (try (refine rl_move (v := (Value.slice _ _ _ : Value)) rfl rfl ?_; (try (refine rl_fld fd38_3 rfl rfl ?_; (try (refine rl_loadM 0 hM vt3 rfl rfl rfl (by first | rfl | assumption) ?_))))))) | (refine rl_allocAM (d := 5) hM ag38 rfl ?_; clear hM; intro w b5 hM) | (refine rl_storeWM 0 hM ag38 rfl rfl rfl rfl rfl rfl rfl ?_; clear hM; intro w hM)))
    refine rl_callf fn17 ((rboth_ok _ _ (Nat.le_refl (fuel l))).2 l j 0 _ w0 w _ V1 hM (hl.le hV1) hT hj (by omega) (by unfold fuel; omega)) rfl rfl ?_
    clear hM
    rintro _ w hres
    rcases hres with ⟨V2, cs, x, k, hV2, hM, rfl, hx2, hc, hk⟩ | ⟨V2, e, a, hV2, hM, rfl, hx2, he⟩
    · have hxo := rd_occ0 hx2
      obtain ⟨f1, n1, s1, a1, k1, c1, rfl, _⟩ := id hc.shape
      have hps2 := hps.le hV2
      (repeat (first | refine seq_ ?_ | refine sq_normal ?_ | refine rl_nil ?_ | refine cond_f rfl ?_ | refine skip_ ?_ | refine block_ ?_ | (refine region_ (id := 5) ?_; (try (refine rl_fld fd38_4 rfl rfl ?_; (try (refine rl_fld fd34_0 rfl rfl ?_; (try (refine rl_loadM 0 hM vt32 rfl rfl rfl (by first | rfl | assumption) ?_; (try ((refine rl_neq_f rfl rfl rfl ?_ ?_; omega)))))))))) | (refine region_ (id := 7) ?_; (try (refine rl_fld fd38_1 rfl rfl ?_; (try (refine rl_loadM 1 hM vt26 rfl rfl rfl (by first | rfl | assumption) ?_; (try (refine rl_fld fd38_1 rfl rfl ?_; (try ((refine rl_storeM 0 hM vt26 rfl rfl rfl rfl rfl (by first | (simp; done) | (simp; omega) | omega) ?_; clear hM; intro w hM)))))))))) | (refine region_ (id := 8) ?_; (try (refine rl_assign (v := (Value.int _ _ : Value)) rfl rfl ?_))) | (refine rl_storeWM 0 hM ag38 rfl rfl rfl rfl rfl rfl rfl ?_; clear hM; intro w hM) | (refine rl_allocAM (d := 6) hM ag38 rfl ?_; clear hM; intro w b6 hM)))
      have hM : Mem w0 w (.blk b6 [.int .i64 f1, .int .i64 n1, St s1, .slice a1 k1 c1, .slice pa ps.length pc, .slice none 0 0, .int .i64 k, .int .i64 0, .int .i64 0] 38 :: .blk b5 (xP (.slice pa ps.length pc) j 0 0) 38 :: .blk b4 z9 38 :: L) V2 := hM
      have hM := hM.newOwn 9 1
      refine loop1 [(7, 8), (28, 46)] 7 (fun m v7 wr => ∃ (q : Nat) (acc : List B) (V3 : Vw) (a : Option Addr) (c : Nat), v7 = .int .i64 q ∧ q ≤ ps.length ∧ m = ps.length - q ∧ VLe V2 V3 ∧ acc = varsOf ((ps.map (·.2)).take q) ∧
          Mem w0 wr (.own (.slice a acc.length c) 9 1 acc.length (acc.map St) :: .blk b6 [.int .i64 f1, .int .i64 n1, St s1, .slice a1 k1 c1, .slice pa ps.length pc, .slice a acc.length c, .int .i64 k, .int .i64 0, .int .i64 0] 38 :: .blk b5 (xP (.slice pa ps.length pc) j 0 0) 38 :: .blk b4 z9 38 :: L) V3) _
        ⟨0, [], V2, none, 0, rfl, Nat.zero_le _, rfl, VLe.refl _, rfl, hM⟩ ?_
      clear hM
      rintro m τ v w ⟨q, acc, V3, a, c, rfl, hq, rfl, hV3, hacc, hM⟩ K0 hL0
      have hal : acc.length ≤ pOcc ps := by
        have h1 := varsOf_len ((ps.map (·.2)).take q)
        have h2 := take_occ' (ps.map (·.2)) q
        rw [flatMap_map_occ] at h2
        rw [hacc]; omega
      by_cases hlt : q < ps.length
      · obtain ⟨p, hp⟩ : ∃ p, ps[q]? = some p := ⟨_, List.getElem?_eq_getElem hlt⟩
        obtain ⟨ys, hr, hys⟩ := hpc4 q p hp
        have hpc3' := hpc3 (by omega)
        subst hpc3'
        obtain ⟨f0, n0, s0, a0, k0, c0, rfl, _⟩ := id hys.shape
        have hrt := (hr.tl.le hV2).le hV3
        have hpo2 := mem_occ (List.mem_of_getElem? (pd_take hp))
        rw [flatMap_map_occ] at hpo2
        have hpf := free_len p.2
        have hpacc := varsOf_take (pd_take hp)
        rw [← hacc] at hpacc
        (repeat (first | refine seq_ ?_ | refine sq_normal ?_ | refine rl_nil ?_ | refine cond_t rfl ?_ | refine skip_ ?_ | refine block_ ?_ | (refine region_ (id := 9) ?_; (try (refine rl_move (v := (Value.int _ _ : Value)) rfl rfl ?_; (try (refine rl_fld fd38_1 rfl rfl ?_; (try (refine rl_loadM 2 hM vt26 rfl rfl rfl (by first | rfl | assumption) ?_; (try (refine rl_len sl26 rfl rfl ?_; (try ((refine rl_lss_t rfl rfl rfl ?_ ?_; omega))))))))))))))
        have hM : Mem w0 w (.own (.slice a acc.length c) 9 1 acc.length (acc.map St) :: .blk b6 [.int .i64 f1, .int .i64 n1, St s1, .slice a1 k1 c1, .slice (some ⟨pb, po, none⟩) ps.length pc, .slice a acc.length c, .int .i64 k, .int .i64 0, .int .i64 0] 38 :: .blk b5 (xP (.slice (some ⟨pb, po, none⟩) ps.length pc) j 0 0) 38 :: .blk b4 z9 38 :: L) V3 := hM
        refine drawnM_ 11 [(0, false), (1, false), (2, false), (3, false), (4, false), (5, false), (6, false), (7, false), (8, true), (9, true), (10, false)] (fun w => Mem w0 w (.blk b6 [.int .i64 f1, .int .i64 n1, St s1, .slice a1 k1 c1, .slice (some ⟨pb, po, none⟩) ps.length pc, .slice a acc.length c, .int .i64 k, .int .i64 0, .int .i64 0] 38 :: .blk b5 (xP (.slice (some ⟨pb, po, none⟩) ps.length pc) j 0 0) 38 :: .blk b4 z9 38 :: L) V3) hM mo (by kernel_rfl) (fun _ h => h.dropn 1) ?_
        clear hM
        intro w hM
        (try (refine rx_fld rfl fd38_2 rfl rfl ?_; (try (refine rx_loadM 0 rfl (fun _ h => h) vt23 rfl rfl rfl (by first | rfl | assumption) ?_; (try (refine rx_fld rfl fd38_1 rfl rfl ?_; (try (refine rx_loadM 1 rfl (fun _ h => h) vt26 rfl rfl rfl (by first | rfl | assumption) ?_; (try (refine rx_move (v := (Value.int _ _ : Value)) rfl rfl rfl ?_; (try ((refine rx_idx rfl sl26 rfl rfl rfl rfl ?_ ?_ ?_; omega; omega); (try (refine rx_fld rfl fd92_1 rfl rfl ?_; (try (refine rx_loadAV rfl (fun _ h => h) ag29 rfl rfl (by assumption) (by rfl) ?_))))))))))))))))
        refine rx_eff rfl (fun K hK => ?_)
        refine rl_callf fn56 (rfree0_ok p.2 _ w0 w _ V3 hM ((hys.ty.le hV2).le hV3) (by omega)) rfl rfl ?_
        clear hM
        rintro _ w ⟨V4, hV4, hM, hfs⟩
        obtain ⟨fa, fc, fb, fo, rfl, r1, r2, r3, r4⟩ := id hfs.open'
        refine rl_nil (kq_normal (hK _ _ ((hM.dropn 1).le hV4) ?_))
        refine rx_eff rfl (fun K hK => ?_)
        refine rl_callf fn55 (vars_ok acc (free p.2) _ _ w0 w _ V4 (by omega) hM hfs) rfl rfl ?_
        clear hM
        intro r w hM
        obtain ⟨ra, rc, rfl, _, _⟩ := hM.ownShape (i := 0) rfl
        refine rl_nil (kq_normal (hK _ _ ((hM.dropn 1).le hV4) ?_))
        (try (refine rx_fld rfl fd38_2 rfl rfl ?_))
        refine rx_nil rfl ?_
        rw [← hpacc] at hM
        rw [← hpacc]
        (repeat (first | refine sq_normal ?_ | refine rl_nil ?_ | refine inBlock_normal ?_ | refine np_normal ?_ | (refine region_ (id := 10) ?_; (try (refine rl_move (v := (Value.int _ _ : Value)) rfl rfl ?_; (try ((refine rl_add rfl rfl rfl ?_ ?_ ?_; omega; omega); (try (refine rl_assign (v := (Value.int _ _ : Value)) rfl rfl ?_))))))) | (refine rl_storeM 1 hM vt23 rfl rfl rfl rfl rfl (by first | (simp; done) | (simp; omega) | omega) ?_; clear hM; intro w hM)))
        exact kq_normal (hL0 (ps.length - (q + 1)) _ _ (by omega) (by (repeat (first | with_reducible exact Agree.ov | with_reducible exact Agree.refl _ _ | refine Agree.upd rfl ?_ | refine Agree.ovs rfl ?_))) ⟨q + 1, _, V4, ra, rc, rfl, by omega, rfl, hV3.trans hV4, rfl, hM⟩)
      · have hqe : q = ps.length := by omega
        subst hqe
        have hlm : (ps.map (·.2)).take ps.length = ps.map (·.2) := by rw [← List.length_map (f := fun p : Pd => p.2), List.take_length]
        rw [hlm] at hacc
        (repeat (first | refine seq_ ?_ | refine sq_normal ?_ | refine sq_exit ?_ | refine rl_nil ?_ | refine cond_f rfl ?_ | refine exit_ ?_ | refine inBlock_exit ?_ | refine kq_exit ?_ | (refine region_ (id := 9) ?_; (try (refine rl_move (v := (Value.int _ _ : Value)) rfl rfl ?_; (try (refine rl_fld fd38_1 rfl rfl ?_; (try (refine rl_loadM 2 hM vt26 rfl rfl rfl (by first | rfl | assumption) ?_; (try (refine rl_len sl26 rfl rfl ?_; (try ((refine rl_lss_f rfl rfl rfl ?_ ?_; omega))))))))))))))
        refine drawnM_ 7 [(0, false), (1, false), (2, false), (3, false), (4, true), (5, true), (6, false)] (fun w => Mem w0 w (.blk b6 [.int .i64 f1, .int .i64 n1, St s1, .slice a1 k1 c1, .slice pa ps.length pc, .slice a acc.length c, .int .i64 k, .int .i64 0, .int .i64 0] 38 :: .blk b5 (xP (.slice pa ps.length pc) j 0 0) 38 :: .blk b4 z9 38 :: L) V3) hM mo (by kernel_rfl) (fun _ h => h.dropn 1) ?_
        clear hM
        intro w hM
        (try (refine rx_fld rfl fd38_2 rfl rfl ?_; (try (refine rx_loadM 0 rfl (fun _ h => h) vt23 rfl rfl rfl (by first | rfl | assumption) ?_; (try (refine rx_fld rfl fd38_0 rfl rfl ?_; (try (refine rx_loadAM (vs := [_, _, _, _]) 0 rfl (fun _ h => h) ag29 rfl rfl rfl rfl rfl ?_))))))))
        refine rx_eff rfl (fun K hK => ?_)
        have hfx := free_len x
        refine rl_callf fn56 (rfree0_ok x _ w0 w _ V3 hM (hc.le hV3) (by omega)) rfl rfl ?_
        clear hM
        rintro _ w ⟨V4, hV4, hM, hfs⟩
        obtain ⟨fa, fc, fb, fo, rfl, r1, r2, r3, r4⟩ := id hfs.open'
        refine rl_nil (kq_normal (hK _ _ ((hM.dropn 1).le hV4) ?_))
        refine rx_eff rfl (fun K hK => ?_)
        refine rl_callf fn55 (vars_ok acc (free x) _ _ w0 w _ V4 (by omega) hM hfs) rfl rfl ?_
        clear hM
        intro r w hM
        obtain ⟨ra, rc, rfl, _, _⟩ := hM.ownShape (i := 0) rfl
        refine rl_nil (kq_normal (hK _ _ ((hM.dropn 1).le hV4) ?_))
        (try (refine rx_fld rfl fd38_2 rfl rfl ?_))
        refine rx_nil rfl ?_
        have hfin := addAll_len (free x) acc
        obtain ⟨fin, hfi⟩ : ∃ fin, fin = addAll acc (free x) := ⟨_, rfl⟩
        rw [← hfi] at hM hfin
        rw [← hfi]
        rw [hacc, ← varsOf_snoc] at hfi
        (repeat (first | refine seq_ ?_ | refine sq_normal ?_ | refine rl_nil ?_ | refine ret_ ?_ | refine np_normal ?_ | (refine region_ (id := 13) ?_; (try (refine rl_loadAM (vs := [_, _, _, _, _, _, _, _, _]) 1 hM ag38 rfl rfl rfl rfl rfl ?_; (try ((refine rl_storeWM 3 hM ag38 rfl rfl rfl rfl rfl rfl rfl ?_; clear hM; intro w hM)))))) | (refine rl_storeM 1 hM vt23 rfl rfl rfl rfl rfl (by first | (simp; done) | (simp; omega) | omega) ?_; clear hM; intro w hM)))
        have hM : Mem w0 w (.own (.slice ra fin.length rc) 9 1 fin.length (fin.map St) :: .blk b6 [.int .i64 f1, .int .i64 n1, St s1, .slice a1 k1 c1, .slice pa ps.length pc, .slice ra fin.length rc, .int .i64 k, .int .i64 0, .int .i64 0] 38 :: .blk b5 (xP (.slice pa ps.length pc) j 0 0) 38 :: .blk b4 [.int .i64 f1, .int .i64 n1, St s1, .slice a1 k1 c1, .slice pa ps.length pc, .slice ra fin.length rc, .int .i64 k, .int .i64 0, .int .i64 0] 38 :: L) V4 := hM
        obtain ⟨V5, hV5, hM, hvs⟩ := own_ts hM
        exact bp_x1 rfl rfl (res_M 2 hM ag38 rfl rfl rfl) (.inl ⟨V5, _, _, [.int .i64 f1, .int .i64 n1, St s1, .slice a1 k1 c1], ⟨fin, ps, x⟩, k, hV1.trans (hV2.trans (hV3.trans (hV4.trans hV5))), hM.dropn 3, rfl, by rw [scheme_ok' hx hx2, hfi], hvs, hps2.le (hV3.trans (hV4.trans hV5)), hc.le (hV3.trans (hV4.trans hV5)), hk, by show fin.length ≤ _; omega, hp16⟩)
    · (repeat (first | refine seq_ ?_ | refine sq_normal ?_ | refine sq_ret ?_ | refine rl_nil ?_ | refine cond_t rfl ?_ | refine ret_ ?_ | (refine region_ (id := 5) ?_; (try (refine rl_fld fd38_4 rfl rfl ?_; (try (refine rl_fld fd34_0 rfl rfl ?_; (try (refine rl_loadM 0 hM vt32 rfl rfl rfl (by first | rfl | assumption) ?_; (try ((refine rl_neq_t rfl rfl rfl ?_ ?_; omega)))))))))) | (refine region_ (id := 6) ?_; (try (refine rl_loadAM (vs := [_, _, _, _, _, _, _, _, _]) 0 hM ag38 rfl rfl rfl rfl rfl ?_; (try ((refine rl_storeWM 2 hM ag38 rfl rfl rfl rfl rfl rfl rfl ?_; clear hM; intro w hM)))))) | (refine rl_storeWM 0 hM ag38 rfl rfl rfl rfl rfl rfl rfl ?_; clear hM; intro w hM) | (refine rl_allocAM (d := 6) hM ag38 rfl ?_; clear hM; intro w b6 hM)))
      exact bp_x1 rfl rfl (res_M 2 hM ag38 rfl rfl rfl) (.inr ⟨V2, e, a, hV1.trans hV2, hM.dropn 3, rfl, scheme_te hx hx2, he⟩)
  · (repeat (first | refine seq_ ?_ | refine sq_normal ?_ | refine sq_ret ?_ | refine rl_nil ?_ | refine cond_t rfl ?_ | refine ret_ ?_ | (refine region_ (id := 2) ?_; (try (refine rl_fld fd38_4 rfl rfl ?_; (try (refine rl_fld fd34_0 rfl rfl ?_; (try (refine rl_loadM 0 hM vt32 rfl rfl rfl (by first | rfl | assumption) ?_; (try ((refine rl_neq_t rfl rfl rfl ?_ ?_; omega)))))))))) | (refine region_ (id := 3) ?_; (try (refine rl_loadAM (vs := [_, _, _, _, _, _, _, _, _]) 0 hM ag38 rfl rfl rfl rfl rfl ?_; (try ((refine rl_storeWM 1 hM ag38 rfl rfl rfl rfl rfl rfl rfl ?_; clear hM; intro w hM)))))) | (refine rl_allocAM (d := 5) hM ag38 rfl ?_; clear hM; intro w b5 hM) | (refine rl_storeWM 0 hM ag38 rfl rfl rfl rfl rfl rfl rfl ?_; clear hM; intro w hM)))
    exact bp_x1 rfl rfl (res_M 1 hM ag38 rfl rfl rfl) (.inr ⟨V1, e, a, hV1, hM.dropn 2, rfl, scheme_pe hx, he⟩)
end Go.Proofs.Ytadbinckjmdokaa.Trd
