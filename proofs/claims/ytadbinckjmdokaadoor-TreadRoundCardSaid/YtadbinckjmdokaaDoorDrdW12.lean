/- The walk of tread.Scheme. -/
import Derived.Test.YtadbinckjmdokaaDoorDrdW11
import Derived.Test.YtadbinckjmdokaaDoorTxB
import Derived.Test.YtadbinckjmdokaaDoorEnC
set_option linter.unusedVariables false
set_option linter.unusedSimpArgs false
namespace Go.Proofs.YtadbinckjmdokaaDoor.Trd
open Go Go.Eng Go.RowKit Go.Tr Go.Lx
attribute [local irreducible] RL RX KQ SQ Exit.inBlock Exit.then BP NP CallsOk IsSl IsRows IsInts IsBools Own Blk Code.wp Calls wpList
abbrev z7 : List Value := [.slice none 0 0, .slice none 0 0, .slice none 0 0, .int .i64 0, .int .i64 0, St [], .slice none 0 0]
/-- A scheme and the place behind it, or a refusal. -/
def SchP (w0 : World) (L : List Ent) (V : Vw) (n : Nat) (x : Except (Int × Int) (Sch × Nat)) (r : Value) (w' : World) : Prop :=
  (∃ V' vv pv cs sc, ∃ j : Nat, VLe V V' ∧ Mem w0 w' L V' ∧ r = .tuple #[.agg (vv :: .slice none 0 0 :: pv :: cs).toArray, .int .i64 j, pairV 0 0] ∧ x = .ok (sc, j) ∧ IsTs V' vv sc.vars ∧ PdSl V' pv sc.preds ∧ TyV V' sc.ty cs ∧ j < n ∧ sc.vars.length ≤ n ∧ sc.preds.length ≤ 16) ∨
  (∃ V' e a, VLe V V' ∧ Mem w0 w' L V' ∧ r = .tuple #[.agg z7.toArray, .int .i64 0, pairV e a] ∧ x = .error (e, a) ∧ e ≠ 0)
set_option maxRecDepth 4000 in
set_option maxHeartbeats 8000000 in
theorem tscheme_ok (l : List Tok) (i : Nat) (v : Value) (w0 w : World) (L : List Ent) (V : Vw) (hM : Mem w0 w L V) (hl : IsTk V v l) (hT : TOk l) (hi : i < l.length) :
    CallsOk Tryd.prog 19 #[v, .int .i64 i] w (SchP w0 L V l.length (scheme l i)) := by
  obtain ⟨va, vc, vb, vo, rfl, g1, g2, g3, g4⟩ := id hl
  have g3' := g3 (by omega)
  subst g3'
  have hfew := hT.few
  have hml := maxLen_le
  have hmx : 100000000 ≤ maxLen := by unfold maxLen; omega
  refine enter_ (N := 74) Tryd.func19 rfl rfl rfl ?_
  (repeat (first | refine seq_ ?_ | refine sq_normal ?_ | refine rl_nil ?_ | (refine region_ (id := 0) ?_; (try ((refine rl_allocAM (d := 4) hM ag32 rfl ?_; clear hM; intro w b4 hM); (try (refine rl_assign (v := (Value.int _ _ : Value)) rfl rfl ?_; (try ((refine rl_allocAM (d := 6) hM ag35 rfl ?_; clear hM; intro w b6 hM)))))))) | (refine region_ (id := 1) ?_; (try (refine rl_move (v := (Value.slice _ _ _ : Value)) rfl rfl ?_; (try (refine rl_move (v := (Value.int _ _ : Value)) rfl rfl ?_)))))))
  refine rl_callf fn33 (preds_ok l i _ w0 w _ V hM hl hT hi) rfl rfl ?_
  clear hM
  rintro _ w hres
  rcases hres with ⟨V1, pv, ps, j, hV1, hM, rfl, hx, hps, hj⟩ | ⟨V1, e, a, hV1, hM, rfl, hx, he⟩
  · obtain ⟨pa, pc, rfl, hpc1, hpc2⟩ := id hps.open'
    obtain ⟨hpo, hp16⟩ := preds_occ hx
    (repeat (first | refine seq_ ?_ | refine sq_normal ?_ | refine rl_nil ?_ | refine cond_f rfl ?_ | refine skip_ ?_ | (refine region_ (id := 2) ?_; (try (refine rl_fld fd35_0 rfl rfl ?_; (try (refine rl_loadM 0 hM vt33 rfl rfl rfl (by first | rfl | assumption) ?_; (try ((refine rl_neq_f rfl rfl rfl ?_ ?_; omega)))))))) | (refine region_ (id := 4) ?_; (try (refine rl_move (v := (Value.slice _ _ _ : Value)) rfl rfl ?_; (try (refine rl_move (v := (Value.int _ _ : Value)) rfl rfl ?_))))) | refine rl_assign (v := (Value.int _ _ : Value)) rfl rfl ?_ | refine rl_move (v := (Value.tuple _ : Value)) rfl rfl ?_ | refine rl_extract rfl rfl rfl ?_ | (refine rl_allocAM (d := 8) hM ag35 rfl ?_; clear hM; intro w b8 hM) | refine rl_assign (v := (Value.slice _ _ _ : Value)) rfl rfl ?_ | (refine rl_storeWM 0 hM ag35 rfl rfl rfl rfl rfl rfl rfl ?_; clear hM; intro w hM)))
    refine rl_callf fn26 (ttype_ok l j _ w0 w _ V1 hM (hl.le hV1) hT hj) rfl rfl ?_
    clear hM
    rintro _ w hres
    rcases hres with ⟨V2, cs, x, k, hV2, hM, rfl, hx2, hc, hk⟩ | ⟨V2, e, a, hV2, hM, rfl, hx2, he⟩
    · have hxo := rd_occ0 hx2
      obtain ⟨f1, n1, s1, a1, k1, c1, rfl, _⟩ := id hc.shape
      have hps2 := hps.le hV2
      (repeat (first | refine seq_ ?_ | refine sq_normal ?_ | refine rl_nil ?_ | refine cond_f rfl ?_ | refine skip_ ?_ | (refine region_ (id := 5) ?_; (try (refine rl_fld fd35_0 rfl rfl ?_; (try (refine rl_loadM 1 hM vt33 rfl rfl rfl (by first | rfl | assumption) ?_; (try ((refine rl_neq_f rfl rfl rfl ?_ ?_; omega)))))))) | (refine region_ (id := 7) ?_; (try (refine rl_assign (v := (Value.slice _ _ _ : Value)) rfl rfl ?_))) | refine rl_assign (v := (Value.int _ _ : Value)) rfl rfl ?_ | refine rl_move (v := (Value.tuple _ : Value)) rfl rfl ?_ | refine rl_extract rfl rfl rfl ?_ | (refine rl_storeWM 1 hM ag35 rfl rfl rfl rfl rfl rfl rfl ?_; clear hM; intro w hM) | (refine rl_allocAM (d := 9) hM ag26 rfl ?_; clear hM; intro w b9 hM) | (refine rl_storeWM 0 hM ag26 rfl rfl rfl rfl rfl rfl rfl ?_; clear hM; intro w hM)))
      have hM : Mem w0 w (.blk b9 [.int .i64 f1, .int .i64 n1, St s1, .slice a1 k1 c1] 26 :: .blk b8 [.int .i64 0, .int .i64 0] 35 :: .blk b6 [.int .i64 0, .int .i64 0] 35 :: .blk b4 z7 32 :: L) V2 := hM
      refine cut_seq3 [(39, 47)] 44 45 46 (fun v44 v45 v46 wr => ∃ (us : List Value) (a : Option Addr) (c : Nat), v44 = .slice a (ps.length + 1) c ∧ v45 = .int .i64 ((ps.length + 1 : Nat) : Int) ∧ v46 = .int .i64 0 ∧ PdsO V2 (ps ++ [([], x)]) us ∧
        Mem w0 wr (.own (.slice a (ps.length + 1) c) 42 5 (ps.length + 1) us :: .blk b9 [.int .i64 f1, .int .i64 n1, St s1, .slice a1 k1 c1] 26 :: .blk b8 [.int .i64 0, .int .i64 0] 35 :: .blk b6 [.int .i64 0, .int .i64 0] 35 :: .blk b4 z7 32 :: L) V2) ?_ ?_
      · (refine drawn2F_ [(0, false), (2, false), (3, false), (7, false)] 1 4 [(4, true), (5, true), (6, false)] [(1, true), (5, true), (6, false)] [(0, false), (2, false), (3, false), (7, false), (1, true), (4, true), (5, true), (6, false)] [(0, false), (2, false), (3, false), (7, false), (4, true), (1, true), (5, true), (6, false)] rfl rfl hM mo (by kernel_rfl) ?_ ?_ <;> (clear hM; intro w hM; (try (refine rx_move (v := (Value.slice _ _ _ : Value)) rfl rfl rfl ?_; (try (refine rx_loadAM (vs := [_, _, _, _]) 0 rfl (fun _ h => h) ag26 rfl rfl rfl rfl rfl ?_; (try (refine rx_build [(St []), _, _, _, _] rfl ag42 pl42 rfl rfl rfl ?_; (try (refine rx_move (v := (Value.int _ _ : Value)) rfl rfl rfl ?_))))))))))
        · refine rx_eff rfl (fun K hK => ?_)
          refine rl_callf fn34 (clone_ok ps _ w0 w _ V2 hM hps2 (by omega)) rfl rfl ?_
          clear hM
          rintro r w ⟨us, hus, hM⟩
          obtain ⟨ra, rc, rfl, hrc1, hrc2⟩ := hM.ownShape (i := 0) rfl
          refine rl_nil (kq_normal (hK _ _ (hM.dropn 1) ?_))
          refine rx_eff rfl (fun K hK => ?_)
          refine rl_bsliceM (d := 43) [.agg [St [], Value.int .i64 f1, .int .i64 n1, St s1, .slice a1 k1 c1].toArray] hM sl30 rfl rfl rfl rfl rfl (by decide) (by decide) ?_
          clear hM
          intro w b43 hM
          refine rl_nil (kq_normal (hK _ _ (hM.dropn 2) ?_))
          refine rx_eff rfl (fun K hK => ?_)
          refine rl_appendM 1 (news := [St [], .int .i64 f1, .int .i64 n1, St s1, .slice a1 k1 c1]) (B := b43) (off := 0) hM sl30 rfl (by decide) rfl (hM.row (i := 0) rfl) rfl rfl rfl (fun _ => rfl) rfl (by simp [Value.oneCell', St]) (by omega) (by omega) ?_
          clear hM
          intro w a' c' hc1 hc2 hM
          have hO := hus.snoc (x := ([], x)) ⟨_, rfl, hc⟩
          have hM : Mem w0 w (.own (.slice a' (ps.length + 1) c') 42 5 (ps.length + 1) (us ++ [St [], .int .i64 f1, .int .i64 n1, St s1, .slice a1 k1 c1]) :: .blk b9 [.int .i64 f1, .int .i64 n1, St s1, .slice a1 k1 c1] 26 :: .blk b8 [.int .i64 0, .int .i64 0] 35 :: .blk b6 [.int .i64 0, .int .i64 0] 35 :: .blk b4 z7 32 :: L) V2 := hM.dropn 1
          refine rl_nil (kq_normal (hK _ _ (hM.dropn 1) ?_))
          refine rx_len rfl sl30 rfl rfl ?_
          refine rx_nil rfl ?_
          refine rl_nil ?_
          refine np_normal ?_
          exact kq_normal ⟨by (repeat (first | with_reducible exact Agree.ov | with_reducible exact Agree.refl _ _ | refine Agree.upd rfl ?_ | refine Agree.ovs rfl ?_)), _, a', c', rfl, rfl, rfl, hO, hM⟩
        · refine rx_eff rfl (fun K hK => ?_)
          refine rl_bsliceM (d := 43) [.agg [St [], Value.int .i64 f1, .int .i64 n1, St s1, .slice a1 k1 c1].toArray] hM sl30 rfl rfl rfl rfl rfl (by decide) (by decide) ?_
          clear hM
          intro w b43 hM
          refine rl_nil (kq_normal (hK _ _ (hM.dropn 1) ?_))
          refine rx_eff rfl (fun K hK => ?_)
          refine rl_callf fn34 (clone_ok ps _ w0 w _ V2 hM hps2 (by omega)) rfl rfl ?_
          clear hM
          rintro r w ⟨us, hus, hM⟩
          obtain ⟨ra, rc, rfl, hrc1, hrc2⟩ := hM.ownShape (i := 0) rfl
          refine rl_nil (kq_normal (hK _ _ (hM.dropn 2) ?_))
          refine rx_eff rfl (fun K hK => ?_)
          refine rl_appendM 0 (news := [St [], .int .i64 f1, .int .i64 n1, St s1, .slice a1 k1 c1]) (B := b43) (off := 0) hM sl30 rfl (by decide) rfl (hM.row (i := 1) rfl) rfl rfl rfl (fun _ => rfl) rfl (by simp [Value.oneCell', St]) (by omega) (by omega) ?_
          clear hM
          intro w a' c' hc1 hc2 hM
          have hO := hus.snoc (x := ([], x)) ⟨_, rfl, hc⟩
          have hM : Mem w0 w (.own (.slice a' (ps.length + 1) c') 42 5 (ps.length + 1) (us ++ [St [], .int .i64 f1, .int .i64 n1, St s1, .slice a1 k1 c1]) :: .blk b9 [.int .i64 f1, .int .i64 n1, St s1, .slice a1 k1 c1] 26 :: .blk b8 [.int .i64 0, .int .i64 0] 35 :: .blk b6 [.int .i64 0, .int .i64 0] 35 :: .blk b4 z7 32 :: L) V2 := hM.erase 1
          refine rl_nil (kq_normal (hK _ _ (hM.dropn 1) ?_))
          refine rx_len rfl sl30 rfl rfl ?_
          refine rx_nil rfl ?_
          refine rl_nil ?_
          refine np_normal ?_
          exact kq_normal ⟨by (repeat (first | with_reducible exact Agree.ov | with_reducible exact Agree.refl _ _ | refine Agree.upd rfl ?_ | refine Agree.ovs rfl ?_)), _, a', c', rfl, rfl, rfl, hO, hM⟩
      · rintro τ _ _ _ w ⟨us, qa, qc, rfl, rfl, rfl, hO, hM⟩
        obtain ⟨V3, hV3, hM2, qa2, qc2, qb, e1, e2, e3, e4, e5⟩ := Mem.freezeOwn hM
        clear hM
        cases e1
        have hM := hM2
        clear hM2
        have hql : (ps ++ [(([] : B), x)]).length = ps.length + 1 := by simp
        have hqs := hO.frozen hV3 hql.symm e2 e3 e4 e5
        obtain ⟨ma, mc, mb, mo, hsh, q1, q2, q3, q4⟩ := id hqs
        obtain ⟨qs, hqse⟩ : ∃ qs, qs = ps ++ [(([] : B), x)] := ⟨_, rfl⟩
        rw [← hqse] at hql hqs hsh q1 q3 q4
        rw [hql] at hsh q1 q3
        cases hsh
        have q3' := q3 (by omega)
        cases q3'
        have hts : qs.map (·.2) = ps.map (·.2) ++ [x] := by rw [hqse]; simp
        have hto : ((qs.map (·.2)).flatMap occ).length ≤ l.length := by
          rw [hts, List.flatMap_append, List.length_append, flatMap_map_occ]
          simp only [List.flatMap_cons, List.flatMap_nil, List.append_nil]
          omega
        (repeat (first | refine block_ ?_))
        have hM := hM.newOwn 9 1
        refine loop2 [(10, 11), (12, 13), (14, 15), (46, 68)] 10 46 (fun m v10 v wr => ∃ (q : Nat) (acc : List B) (V4 : Vw) (a : Option Addr) (c : Nat), v10 = .slice a acc.length c ∧ v = .int .i64 q ∧ q ≤ qs.length ∧ m = qs.length - q ∧ VLe V3 V4 ∧ acc = varsOf ((qs.map (·.2)).take q) ∧
            Mem w0 wr (.own (.slice a acc.length c) 9 1 acc.length (acc.map St) :: .blk b9 [.int .i64 f1, .int .i64 n1, St s1, .slice a1 k1 c1] 26 :: .blk b8 [.int .i64 0, .int .i64 0] 35 :: .blk b6 [.int .i64 0, .int .i64 0] 35 :: .blk b4 z7 32 :: L) V4) _
          ⟨0, [], V3, none, 0, rfl, rfl, Nat.zero_le _, rfl, VLe.refl _, rfl, hM⟩ ?_
        clear hM
        rintro m τ v10 v w ⟨q, acc, V4, a, c, rfl, rfl, hq, rfl, hV4, hacc, hM⟩ K0 hL0
        have hal : acc.length ≤ l.length := by
          have h1 := varsOf_len ((qs.map (·.2)).take q)
          have h2 := take_occ' (qs.map (·.2)) q
          rw [hacc]; omega
        by_cases hlt : q < qs.length
        · obtain ⟨p, hp⟩ : ∃ p, qs[q]? = some p := ⟨_, List.getElem?_eq_getElem hlt⟩
          obtain ⟨ys, hr, hys⟩ := q4 q p hp
          obtain ⟨f0, n0, s0, a0, k0, c0, rfl, _⟩ := id hys.shape
          have hr := hr.le hV4
          have hpo2 := mem_occ (List.mem_of_getElem? (pd_take hp))
          have hpf := free_len p.2
          have hpacc := varsOf_take (pd_take hp)
          rw [← hacc] at hpacc
          (repeat (first | refine seq_ ?_ | refine sq_normal ?_ | refine rl_nil ?_ | refine cond_t rfl ?_ | refine skip_ ?_ | refine block_ ?_ | (refine region_ (id := 9) ?_; (try ((refine rl_lss_t rfl rfl rfl ?_ ?_; omega)))) | (refine region_ (id := 10) ?_; (try ((refine rl_idx sl30 rfl rfl rfl rfl ?_ ?_ ?_; omega; omega); (try (refine rl_loadAV hM ag42 rfl rfl (by assumption) (by rfl) ?_; (try ((refine rl_allocAM (d := 12) hM ag42 rfl ?_; clear hM; intro w b12 hM); (try ((refine rl_storeWM 0 hM ag42 rfl rfl rfl rfl rfl rfl rfl ?_; clear hM; intro w hM)))))))))) | (refine region_ (id := 11) ?_; (try (refine rl_fld fd42_1 rfl rfl ?_; (try (refine rl_loadAM (vs := [_, _, _, _]) 0 hM ag26 rfl rfl rfl rfl rfl ?_)))))))
          refine rl_callf fn10 (free_ok _ p.2 _ (Nat.lt_succ_self _) (by omega) w0 w _ V4 hM (hys.ty.le hV4)) rfl rfl ?_
          clear hM
          rintro _ w ⟨V5, hV5, hM, hfs⟩
          obtain ⟨fa, fc, fb, fo, rfl, r1, r2, r3, r4⟩ := id hfs.open'
          (repeat (first | refine sq_normal ?_ | refine rl_nil ?_ | refine block_ ?_ | refine rl_move (v := (Value.int _ _ : Value)) rfl rfl ?_ | refine rl_len sl28 rfl rfl ?_))
          refine loop2 [(10, 11), (14, 15), (54, 67)] 10 54 (fun m v10 v wr => ∃ (t : Nat) (acc2 : List B) (a : Option Addr) (c : Nat), v10 = .slice a acc2.length c ∧ v = .int .i64 t ∧ t ≤ (free p.2).length ∧ m = (free p.2).length - t ∧ acc2 = addAll acc ((free p.2).take t) ∧
              Mem w0 wr (.blk b12 [St p.1, .int .i64 f0, .int .i64 n0, St s0, .slice a0 k0 c0] 42 :: .own (.slice a acc2.length c) 9 1 acc2.length (acc2.map St) :: .blk b9 [.int .i64 f1, .int .i64 n1, St s1, .slice a1 k1 c1] 26 :: .blk b8 [.int .i64 0, .int .i64 0] 35 :: .blk b6 [.int .i64 0, .int .i64 0] 35 :: .blk b4 z7 32 :: L) V5) _
            ⟨0, acc, a, c, rfl, rfl, Nat.zero_le _, rfl, rfl, hM⟩ ?_
          clear hM
          rintro m τ2 v10 v w ⟨t, acc2, a, c, rfl, rfl, ht, rfl, hacc2, hM⟩ K1 hL1
          by_cases hlp : t < (free p.2).length
          · obtain ⟨s, hs⟩ : ∃ s, (free p.2)[t]? = some s := ⟨_, List.getElem?_eq_getElem hlp⟩
            have r3' := r3 (by omega)
            subst r3'
            have hcs := r4 t s hs
            have hal2 : acc2.length ≤ 2000000 := by
              have h1 := addAll_len ((free p.2).take t) acc
              have h2 : ((free p.2).take t).length ≤ (free p.2).length := by rw [List.length_take]; omega
              rw [hacc2]; omega
            have hts2 := hM.ts (i := 1) rfl
            have hstep := addAll_take hs acc
            rw [← hacc2] at hstep
            (repeat (first | refine seq_ ?_ | refine sq_normal ?_ | refine rl_nil ?_ | refine cond_t rfl ?_ | refine skip_ ?_ | refine block_ ?_ | (refine region_ (id := 12) ?_; (try ((refine rl_lss_t rfl rfl rfl ?_ ?_; omega)))) | (refine region_ (id := 13) ?_; (try ((refine rl_idx1 sl28 rfl rfl rfl rfl ?_ ?_ ?_; omega; omega); (try (refine rl_loadV hM vt9 rfl rfl (by first | assumption | exact VRow.get (by assumption) rfl | exact VRow.get0 (by assumption) rfl) ?_; (try (refine rl_assign (v := (Value.string _ : Value)) rfl rfl ?_))))))) | (refine region_ (id := 14) ?_; (try (refine rl_move (v := (Value.slice _ _ _ : Value)) rfl rfl ?_; (try (refine rl_move (v := (Value.string _ : Value)) rfl rfl ?_)))))))
            refine rl_callf fn22 (contains_ok _ acc2 s w hts2 (by omega)) rfl rfl ?_
            rintro _ _ ⟨rfl, rfl⟩
            by_cases hmem : s ∈ acc2
            · rw [decide_eq_true hmem]
              rw [add_mem hmem] at hstep
              (repeat (first | refine sq_normal ?_ | refine rl_nil ?_ | refine cond_f rfl ?_ | refine skip_ ?_ | refine inBlock_normal ?_ | (refine region_ (id := 16) ?_; (try ((refine rl_add rfl rfl rfl ?_ ?_ ?_; omega; omega); (try (refine rl_move (v := (Value.int _ _ : Value)) rfl rfl ?_))))) | refine rl_not rfl rfl ?_))
              exact kq_normal (hL1 ((free p.2).length - (t + 1)) _ _ (by omega) (by (repeat (first | with_reducible exact Agree.ov | with_reducible exact Agree.refl _ _ | refine Agree.upd rfl ?_ | refine Agree.ovs rfl ?_))) ⟨t + 1, acc2, a, c, rfl, rfl, by omega, rfl, hstep.symm, hM⟩)
            · rw [decide_eq_false hmem]
              have hadd : add acc2 s = acc2 ++ [s] := by unfold add; rw [if_neg hmem]
              rw [hadd] at hstep
              have hal3 : (acc2 ++ [s]).length = acc2.length + 1 := by simp
              have hmap : acc2.map St ++ [St s] = (acc2 ++ [s]).map St := by simp
              (repeat (first | refine sq_normal ?_ | refine rl_nil ?_ | refine cond_t rfl ?_ | (refine region_ (id := 15) ?_; (try (refine rl_move (v := (Value.slice _ _ _ : Value)) rfl rfl ?_; (try (refine rl_move (v := (Value.string _ : Value)) rfl rfl ?_; (try ((refine rl_bsliceM (d := 64) [_] hM sl28 rfl rfl rfl rfl rfl (by decide) (by decide) ?_; clear hM; intro w b64 hM)))))))) | refine rl_not rfl rfl ?_))
              refine rl_appendM 2 (news := [St s]) (B := b64) (off := 0) hM sl28 rfl (by decide) rfl (hM.row (i := 0) rfl) rfl rfl rfl (fun _ => rfl) rfl (by simp [Value.oneCell', St]) (by omega) (by omega) ?_
              clear hM hts2
              intro w a' c' hc1 hc2 hM
              have hM : Mem w0 w (.blk b12 [St p.1, .int .i64 f0, .int .i64 n0, St s0, .slice a0 k0 c0] 42 :: .own (.slice a' (acc2.length + 1) c') 9 1 (acc2.length + 1) (acc2.map St ++ [St s]) :: .blk b9 [.int .i64 f1, .int .i64 n1, St s1, .slice a1 k1 c1] 26 :: .blk b8 [.int .i64 0, .int .i64 0] 35 :: .blk b6 [.int .i64 0, .int .i64 0] 35 :: .blk b4 z7 32 :: L) V5 := hM.dropn 1
              rw [hmap, ← hal3] at hM
              (repeat (first | refine sq_normal ?_ | refine rl_nil ?_ | refine inBlock_normal ?_ | (refine region_ (id := 16) ?_; (try ((refine rl_add rfl rfl rfl ?_ ?_ ?_; omega; omega); (try (refine rl_move (v := (Value.int _ _ : Value)) rfl rfl ?_))))) | refine rl_assign (v := (Value.slice _ _ _ : Value)) rfl rfl ?_))
              exact kq_normal (hL1 ((free p.2).length - (t + 1)) _ _ (by omega) (by (repeat (first | with_reducible exact Agree.ov | with_reducible exact Agree.refl _ _ | refine Agree.upd rfl ?_ | refine Agree.ovs rfl ?_))) ⟨t + 1, acc2 ++ [s], a', c', by rw [hal3]; rfl, rfl, by omega, rfl, hstep.symm, hM⟩)
          · have hpe : t = (free p.2).length := by omega
            subst hpe
            rw [List.take_length] at hacc2
            (repeat (first | refine seq_ ?_ | refine sq_normal ?_ | refine sq_exit ?_ | refine rl_nil ?_ | refine cond_f rfl ?_ | refine exit_ ?_ | refine inBlock_normal ?_ | refine inBlock_exit ?_ | refine kq_exit ?_ | (refine region_ (id := 12) ?_; (try ((refine rl_lss_f rfl rfl rfl ?_ ?_; omega)))) | (refine region_ (id := 17) ?_; (try ((refine rl_add rfl rfl rfl ?_ ?_ ?_; omega; omega); (try (refine rl_move (v := (Value.int _ _ : Value)) rfl rfl ?_)))))))
            exact kq_normal (hL0 (qs.length - (q + 1)) _ _ (by omega) (by (repeat (first | with_reducible exact Agree.ov | with_reducible exact Agree.refl _ _ | refine Agree.upd rfl ?_ | refine Agree.ovs rfl ?_))) ⟨q + 1, acc2, V5, a, c, rfl, rfl, by omega, rfl, hV4.trans hV5, by rw [hacc2, hpacc], hM.dropn 1⟩)
        · have hqe : q = qs.length := by omega
          subst hqe
          have hlm : (qs.map (·.2)).take qs.length = qs.map (·.2) := by rw [← List.length_map (f := fun p : Pd => p.2), List.take_length]
          rw [hlm, hts] at hacc
          (repeat (first | refine seq_ ?_ | refine sq_normal ?_ | refine sq_exit ?_ | refine rl_nil ?_ | refine cond_f rfl ?_ | refine ret_ ?_ | refine exit_ ?_ | refine inBlock_exit ?_ | refine kq_exit ?_ | (refine region_ (id := 9) ?_; (try ((refine rl_lss_f rfl rfl rfl ?_ ?_; omega)))) | (refine region_ (id := 18) ?_; (try (refine rl_move (v := (Value.slice _ _ _ : Value)) rfl rfl ?_; (try (refine rl_move (v := (Value.slice _ _ _ : Value)) rfl rfl ?_; (try (refine rl_loadAM (vs := [_, _, _, _]) 1 hM ag26 rfl rfl rfl rfl rfl ?_; (try (refine rl_build [_, (Value.slice none 0 0), _, _, _, _, _] ag32 pl32 rfl rfl rfl ?_; (try (refine rl_move (v := (Value.int _ _ : Value)) rfl rfl ?_; (try (refine rl_build [(Value.int .i64 0), (Value.int .i64 0)] ag35 pl35 rfl rfl rfl ?_; (try ((refine rl_storeWM 4 hM ag32 rfl rfl rfl rfl rfl rfl rfl ?_; clear hM; intro w hM); (try (refine rl_assign (v := (Value.int _ _ : Value)) rfl rfl ?_; (try ((refine rl_storeWM 3 hM ag35 rfl rfl rfl rfl rfl rfl rfl ?_; clear hM; intro w hM))))))))))))))))))))))
          have hM : Mem w0 w (.own (.slice a acc.length c) 9 1 acc.length (acc.map St) :: .blk b9 [.int .i64 f1, .int .i64 n1, St s1, .slice a1 k1 c1] 26 :: .blk b8 [.int .i64 0, .int .i64 0] 35 :: .blk b6 [.int .i64 0, .int .i64 0] 35 :: .blk b4 [.slice a acc.length c, .slice none 0 0, .slice pa ps.length pc, .int .i64 f1, .int .i64 n1, St s1, .slice a1 k1 c1] 32 :: L) V4 := hM
          obtain ⟨V5, hV5, hM, hvs⟩ := own_ts hM
          exact bp_x3 rfl rfl (res_M 3 hM ag32 rfl rfl rfl) (res_tmp rfl) (res_M 2 hM ag35 rfl rfl rfl) (.inl ⟨V5, _, _, [.int .i64 f1, .int .i64 n1, St s1, .slice a1 k1 c1], ⟨acc, ps, x⟩, k, hV1.trans (hV2.trans (hV3.trans (hV4.trans hV5))), hM.dropn 4, rfl, by rw [scheme_ok' hx hx2, hacc], hvs, hps2.le (hV3.trans (hV4.trans hV5)), hc.le (hV3.trans (hV4.trans hV5)), hk, hal, hp16⟩)
    · (repeat (first | refine seq_ ?_ | refine sq_normal ?_ | refine rl_nil ?_ | refine cond_t rfl ?_ | (refine region_ (id := 5) ?_; (try (refine rl_fld fd35_0 rfl rfl ?_; (try (refine rl_loadM 1 hM vt33 rfl rfl rfl (by first | rfl | assumption) ?_; (try ((refine rl_neq_t rfl rfl rfl ?_ ?_; omega)))))))) | refine rl_assign (v := (Value.int _ _ : Value)) rfl rfl ?_ | refine rl_move (v := (Value.tuple _ : Value)) rfl rfl ?_ | refine rl_extract rfl rfl rfl ?_ | (refine rl_storeWM 1 hM ag35 rfl rfl rfl rfl rfl rfl rfl ?_; clear hM; intro w hM) | (refine rl_allocAM (d := 9) hM ag26 rfl ?_; clear hM; intro w b9 hM) | (refine rl_storeWM 0 hM ag26 rfl rfl rfl rfl rfl rfl rfl ?_; clear hM; intro w hM)))
      (refine drawnM_ 4 [(0, false), (1, false), (2, true), (3, false)] (fun w => Mem w0 w _ _) hM mo (by kernel_rfl) (fun _ h => h) ?_; clear hM; intro w hM; (try (refine rx_build [(Value.slice none 0 0), (Value.slice none 0 0), (Value.slice none 0 0), (Value.int .i64 0), (Value.int .i64 0), (St []), (Value.slice none 0 0)] rfl ag32 pl32 rfl rfl rfl ?_; (try (refine rx_loadAM (vs := [_, _]) 1 rfl (fun _ h => h) ag35 rfl rfl rfl rfl rfl ?_)))))
      refine rx_eff rfl (fun K hK => ?_)
      (repeat (first | refine rl_nil ?_ | (refine rl_storeWM 3 hM ag32 rfl rfl rfl rfl rfl rfl rfl ?_; clear hM; intro w hM)))
      refine kq_normal (hK _ _ hM ?_)
      (try (refine rx_assign (v := (Value.int _ _ : Value)) rfl rfl rfl ?_))
      refine rx_nil rfl ?_
      (repeat (first | refine sq_normal ?_ | refine sq_ret ?_ | refine rl_nil ?_ | refine ret_ ?_ | refine np_normal ?_ | (refine rl_storeWM 2 hM ag35 rfl rfl rfl rfl rfl rfl rfl ?_; clear hM; intro w hM)))
      exact bp_x3 rfl rfl (res_M 3 hM ag32 rfl rfl rfl) (res_tmp rfl) (res_M 2 hM ag35 rfl rfl rfl) (.inr ⟨V2, e, a, hV1.trans hV2, hM.dropn 4, rfl, scheme_te hx hx2, he⟩)
  · (repeat (first | refine seq_ ?_ | refine sq_normal ?_ | refine rl_nil ?_ | refine cond_t rfl ?_ | (refine region_ (id := 2) ?_; (try (refine rl_fld fd35_0 rfl rfl ?_; (try (refine rl_loadM 0 hM vt33 rfl rfl rfl (by first | rfl | assumption) ?_; (try ((refine rl_neq_t rfl rfl rfl ?_ ?_; omega)))))))) | refine rl_assign (v := (Value.int _ _ : Value)) rfl rfl ?_ | refine rl_move (v := (Value.tuple _ : Value)) rfl rfl ?_ | refine rl_extract rfl rfl rfl ?_ | (refine rl_allocAM (d := 8) hM ag35 rfl ?_; clear hM; intro w b8 hM) | refine rl_assign (v := (Value.slice _ _ _ : Value)) rfl rfl ?_ | (refine rl_storeWM 0 hM ag35 rfl rfl rfl rfl rfl rfl rfl ?_; clear hM; intro w hM)))
    (refine drawnM_ 4 [(0, false), (1, false), (2, true), (3, false)] (fun w => Mem w0 w _ _) hM mo (by kernel_rfl) (fun _ h => h) ?_; clear hM; intro w hM; (try (refine rx_build [(Value.slice none 0 0), (Value.slice none 0 0), (Value.slice none 0 0), (Value.int .i64 0), (Value.int .i64 0), (St []), (Value.slice none 0 0)] rfl ag32 pl32 rfl rfl rfl ?_; (try (refine rx_loadAM (vs := [_, _]) 0 rfl (fun _ h => h) ag35 rfl rfl rfl rfl rfl ?_)))))
    refine rx_eff rfl (fun K hK => ?_)
    (repeat (first | refine rl_nil ?_ | (refine rl_storeWM 2 hM ag32 rfl rfl rfl rfl rfl rfl rfl ?_; clear hM; intro w hM)))
    refine kq_normal (hK _ _ hM ?_)
    (try (refine rx_assign (v := (Value.int _ _ : Value)) rfl rfl rfl ?_))
    refine rx_nil rfl ?_
    (repeat (first | refine sq_normal ?_ | refine sq_ret ?_ | refine rl_nil ?_ | refine ret_ ?_ | refine np_normal ?_ | (refine rl_storeWM 1 hM ag35 rfl rfl rfl rfl rfl rfl rfl ?_; clear hM; intro w hM)))
    exact bp_x3 rfl rfl (res_M 2 hM ag32 rfl rfl rfl) (res_tmp rfl) (res_M 1 hM ag35 rfl rfl rfl) (.inr ⟨V1, e, a, hV1, hM.dropn 3, rfl, scheme_pe hx, he⟩)
end Go.Proofs.YtadbinckjmdokaaDoor.Trd
