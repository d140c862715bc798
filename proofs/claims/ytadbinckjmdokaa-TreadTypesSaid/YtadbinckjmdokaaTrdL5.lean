/- TreadTypes. -/
import Derived.Test.YtadbinckjmdokaaTrdW23
set_option linter.unusedVariables false
set_option linter.unusedSimpArgs false
namespace Go.Proofs.Ytadbinckjmdokaa.Trd
open Go Go.Eng Go.RowKit Go.Tr Go.Lx
attribute [local irreducible] RL RX KQ SQ Exit.inBlock Exit.then BP NP CallsOk IsSl IsRows IsInts IsBools Own Blk Code.wp Calls wpList
theorem SchV.parts {V : Vw} {sc : Sch} {vv pv : Value} {ds : List Value} (h : SchV V sc (vv :: .slice none 0 0 :: pv :: ds)) : IsTs V vv sc.vars ∧ PdSl V pv sc.preds ∧ TyV V sc.ty ds := by
  obtain ⟨vv', pv', ts, he, h1, h2, h3, _⟩ := h
  cases he
  exact ⟨h1, h2, h3⟩
theorem types_agree {V : Vw} {x : Except (Int × Int) Ty} {t : Ty} {cs ds : List Value} {vv pv : Value} {e a e' a' : Int} (h1 : (x = .ok t ∧ e = 0 ∧ a = 0) ∨ (x = .error (e, a) ∧ e ≠ 0 ∧ cs = zT ∧ t = Ty.z))
    (h2 : (∃ t', x = .ok t' ∧ e' = 0 ∧ a' = 0 ∧ IT V t' (vv :: .slice none 0 0 :: pv :: ds)) ∨ (x = .error (e', a') ∧ e' ≠ 0 ∧ ds = zT ∧ pv = .slice none 0 0 ∧ vv = .slice none 0 0)) :
    e = e' ∧ a = a' ∧ TyV V t ds ∧ (∃ va vn vc, vv = .slice va vn vc) ∧ ∃ pa pn pc, pv = .slice pa pn pc := by
  rcases h1 with ⟨h, rfl, rfl⟩ | ⟨h, he, rfl, rfl⟩
  · rw [h] at h2
    rcases h2 with ⟨t', h', rfl, rfl, hi⟩ | ⟨h', _⟩
    · cases h'
      obtain ⟨q1, q2, q3⟩ := SchV.parts hi
      obtain ⟨va, vc, _, _, h1, _⟩ := q1.open'
      obtain ⟨pa, pc, h2, _⟩ := q2.open'
      exact ⟨rfl, rfl, q3, ⟨_, _, _, h1⟩, ⟨_, _, _, h2⟩⟩
    · cases h'
  · rw [h] at h2
    rcases h2 with ⟨t', h', _⟩ | ⟨h', _, rfl, rfl, rfl⟩
    · cases h'
    · cases h'
      exact ⟨rfl, rfl, tyz, ⟨_, _, _, rfl⟩, ⟨_, _, _, rfl⟩⟩
set_option maxRecDepth 4000 in
set_option maxHeartbeats 4000000 in
theorem law5 (s : B) (v : Value) (l : List Int) (at_ c : Int) (w : World) (hs : s.length ≤ maxLen) (hI : IsInts w.cell? v l) (hat : I64 at_) (hc : 0 ≤ c ∧ c ≤ 255) : CallsOk Try.prog 5 #[St s, v, .int .i64 at_, .int .u8 c] w fun r w' => r = .bool true ∧ Below w.heap.size w w' := by
  have hml := maxLen_le
  have hM := Mem.init w
  obtain ⟨w0, hw0⟩ : ∃ w0, w0 = w := ⟨_, rfl⟩
  obtain ⟨V, hVd⟩ : ∃ V, V = w.cell? := ⟨_, rfl⟩
  rw [← hVd] at hM hI
  have hM : Mem w0 w [] V := by rw [hw0]; exact hM
  obtain ⟨qc, hqc⟩ : ∃ q : UInt8, (q.toNat : Int) = c := ⟨UInt8.ofNat c.toNat, by rw [UInt8.toNat_ofNat']; omega⟩
  have key : CallsOk Try.prog 5 #[St s, v, .int .i64 at_, .int .u8 c] w fun r w' => r = .bool true ∧ Below w0.heap.size w0 w' := by
    clear hVd hw0
    subst hqc
    obtain ⟨_, _, _, _, rfl, _⟩ := id hI.open
    refine enter_ (N := 50) Try.func5 rfl rfl rfl ?_
    (repeat (first | refine seq_ ?_ | refine sq_normal ?_ | refine rl_nil ?_ | (refine region_ (id := 0) ?_; (try (refine rl_assign (v := (Value.bool _ : Value)) rfl rfl ?_))) | (refine region_ (id := 1) ?_; (try (refine rl_move (v := (Value.string _ : Value)) rfl rfl ?_; (try (refine rl_move (v := (Value.slice _ _ _ : Value)) rfl rfl ?_; (try (refine rl_move (v := (Value.int _ _ : Value)) rfl rfl ?_; (try (refine rl_move (v := (Value.int _ _ : Value)) rfl rfl ?_)))))))))))
    refine rl_callf fn7 (all_ok s _ l at_ qc w0 w _ V hM hs hI hat) rfl rfl ?_
    clear hM
    rintro _ w ⟨V1, ts, hV1, hM, hts, hl6, hlen⟩
    obtain ⟨ta, tc, tb, to, rfl, t1, t2, t3, t4⟩ := id hts.open'
    (repeat (first | refine seq_ ?_ | refine sq_normal ?_ | refine rl_nil ?_ | refine block_ ?_ | (refine region_ (id := 2) ?_; (try (refine rl_assign (v := (Value.int _ _ : Value)) rfl rfl ?_))) | refine rl_assign (v := (Value.slice _ _ _ : Value)) rfl rfl ?_))
    refine loop1 [(8, 9), (10, 14), (19, 49)] 10 (fun m v wr => ∃ (i : Nat) (V2 : Vw), v = .int .i64 i ∧ i ≤ ts.length ∧ m = ts.length - i ∧ VLe V1 V2 ∧ Mem w0 wr [] V2) _
      ⟨0, V1, rfl, by omega, rfl, VLe.refl _, hM⟩ ?_
    clear hM
    rintro m τ v w ⟨i, V2, rfl, hi, rfl, hV2, hM⟩ K0 hL0
    by_cases hlt : i < ts.length
    · obtain ⟨t, ht⟩ : ∃ t, ts[i]? = some t := ⟨_, List.getElem?_eq_getElem hlt⟩
      have hcell := hV2 _ _ (t4 i t ht)
      have t3' := t3 (by omega)
      subst t3'
      have htl := hlen t (List.mem_of_getElem? ht)
      (repeat (first | refine seq_ ?_ | refine sq_normal ?_ | refine rl_nil ?_ | refine cond_t rfl ?_ | refine skip_ ?_ | refine block_ ?_ | (refine region_ (id := 3) ?_; (try (refine rl_move (v := (Value.int _ _ : Value)) rfl rfl ?_; (try (refine rl_move (v := (Value.slice _ _ _ : Value)) rfl rfl ?_; (try (refine rl_len sl23 rfl rfl ?_; (try ((refine rl_lss_t rfl rfl rfl ?_ ?_; omega)))))))))) | (refine region_ (id := 5) ?_; (try (refine rl_move (v := (Value.slice _ _ _ : Value)) rfl rfl ?_; (try (refine rl_move (v := (Value.int _ _ : Value)) rfl rfl ?_; (try ((refine rl_idx1 sl23 rfl rfl rfl rfl ?_ ?_ ?_; omega; omega); (try (refine rl_loadV hM vt9 rfl rfl (by first | assumption | exact VRow.get (by assumption) rfl | exact VRow.get0 (by assumption) rfl) ?_)))))))))))
      refine rl_callf fn26 (readType_ok t w0 w _ V2 hM (by omega)) rfl rfl ?_
      clear hM
      rintro _ w ⟨V3, cs, ty, e, a, hV3, hM, rfl, hty, hst⟩
      obtain ⟨f1, n1, s1, a1, k1, c1, rfl, _⟩ := id hty.shape
      have hcell3 := hV3 _ _ hcell
      (repeat (first | refine seq_ ?_ | refine sq_normal ?_ | refine rl_nil ?_ | (refine region_ (id := 6) ?_; (try (refine rl_move (v := (Value.slice _ _ _ : Value)) rfl rfl ?_; (try (refine rl_move (v := (Value.int _ _ : Value)) rfl rfl ?_; (try ((refine rl_idx1 sl23 rfl rfl rfl rfl ?_ ?_ ?_; omega; omega); (try (refine rl_loadV hM vt9 rfl rfl (by first | assumption | exact VRow.get (by assumption) rfl | exact VRow.get0 (by assumption) rfl) ?_))))))))) | refine rl_move (v := (Value.tuple _ : Value)) rfl rfl ?_ | refine rl_extract rfl rfl rfl ?_ | (refine rl_allocAM (d := 11) hM ag29 rfl ?_; clear hM; intro w b11 hM) | (refine rl_allocAM (d := 12) hM ag34 rfl ?_; clear hM; intro w b12 hM) | (refine rl_storeWM 1 hM ag29 rfl rfl rfl rfl rfl rfl rfl ?_; clear hM; intro w hM) | (refine rl_storeWM 0 hM ag34 rfl rfl rfl rfl rfl rfl rfl ?_; clear hM; intro w hM)))
      refine rl_callf fn9 (rread0_ok t w0 w _ V3 hM (by omega)) rfl rfl ?_
      clear hM
      rintro _ w ⟨V4, ds, pv, vv, e', a', k, hV4, hM, rfl, hst2⟩
      obtain ⟨rfl, rfl, hd, ⟨va, vn, vc, rfl⟩, ⟨pa, pn, pc, rfl⟩⟩ := types_agree hst hst2
      obtain ⟨f2, n2, s2, a2, k2, c2, rfl, _⟩ := id hd.shape
      clear hst hst2
      (repeat (first | refine seq_ ?_ | refine sq_normal ?_ | refine rl_nil ?_ | (refine region_ (id := 7) ?_; (try (refine rl_loadAM (vs := [_, _]) 1 hM ag34 rfl rfl rfl rfl rfl ?_; (try (refine rl_fld fd38_4 rfl rfl ?_; (try (refine rl_loadAM (vs := [_, _]) 0 hM ag34 rfl rfl rfl rfl rfl ?_; (try (refine rl_aneq_f eq34 rfl rfl rfl rfl rfl (by first | rfl | assumption) ?_; (try (refine rl_move (v := (Value.bool _ : Value)) rfl rfl ?_; (try (refine rl_loadAM (vs := [_, _, _, _]) 2 hM ag29 rfl rfl rfl rfl rfl ?_; (try (refine rl_fld fd38_0 rfl rfl ?_; (try (refine rl_loadAM (vs := [_, _, _, _]) 0 hM ag29 rfl rfl rfl rfl rfl ?_))))))))))))))))) | (refine rl_allocAM (d := 13) hM ag38 rfl ?_; clear hM; intro w b13 hM) | (refine rl_storeWM 0 hM ag38 rfl rfl rfl rfl rfl rfl rfl ?_; clear hM; intro w hM)))
      refine rl_callf fn18 (equal_ok _ ty _ _ (Nat.lt_succ_self _) w0 w _ V4 hM (hty.le hV4) hd) rfl rfl ?_
      clear hM
      rintro _ w ⟨rfl, hM⟩
      (repeat (first | refine sq_normal ?_ | refine rl_nil ?_ | refine cond_f rfl ?_ | refine skip_ ?_ | refine inBlock_normal ?_ | (refine region_ (id := 4) ?_; (try (refine rl_move (v := (Value.int _ _ : Value)) rfl rfl ?_; (try ((refine rl_add rfl rfl rfl ?_ ?_ ?_; omega; omega); (try (refine rl_assign (v := (Value.int _ _ : Value)) rfl rfl ?_))))))) | refine rl_not rfl rfl ?_ | refine rl_pick (v := (Value.bool _ : Value)) rfl rfl rfl ?_))
      exact kq_normal (hL0 (ts.length - (i + 1)) _ _ (by omega) (by (repeat (first | with_reducible exact Agree.ov | with_reducible exact Agree.refl _ _ | refine Agree.upd rfl ?_ | refine Agree.ovs rfl ?_))) ⟨i + 1, V4, rfl, by omega, rfl, hV2.trans (hV3.trans hV4), hM.dropn 3⟩)
    · have hie : i = ts.length := by omega
      subst hie
      (repeat (first | refine seq_ ?_ | refine sq_normal ?_ | refine sq_exit ?_ | refine rl_nil ?_ | refine cond_f rfl ?_ | refine exit_ ?_ | refine inBlock_exit ?_ | refine kq_exit ?_ | (refine region_ (id := 3) ?_; (try (refine rl_move (v := (Value.int _ _ : Value)) rfl rfl ?_; (try (refine rl_move (v := (Value.slice _ _ _ : Value)) rfl rfl ?_; (try (refine rl_len sl23 rfl rfl ?_; (try ((refine rl_lss_f rfl rfl rfl ?_ ?_; omega)))))))))) | (refine region_ (id := 9) ?_)))
      refine rl_callf fn11 (lives_ok w0 w _ V2 hM) rfl rfl ?_
      clear hM
      rintro _ w ⟨rfl, hM⟩
      (repeat (first | refine sq_normal ?_ | refine rl_nil ?_ | refine ret_ ?_ | refine rl_assign (v := (Value.bool _ : Value)) rfl rfl ?_))
      exact bp_ret1 (v := Value.bool _) rfl rfl ⟨rfl, hM.below⟩
  rw [hw0] at key
  exact key
end Go.Proofs.Ytadbinckjmdokaa.Trd
