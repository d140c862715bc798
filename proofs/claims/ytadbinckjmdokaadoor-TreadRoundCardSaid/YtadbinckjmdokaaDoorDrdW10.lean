/- The walks of types.Free, fugueref04.Free, fugueref05.vars. -/
import Derived.Test.YtadbinckjmdokaaDoorDrdW2
set_option linter.unusedVariables false
set_option linter.unusedSimpArgs false
namespace Go.Eng
theorem Mem.ts {w0 w : World} {L : List Ent} {V : Vw} {i e n : Nat} {v : Value} {ts : List (List UInt8)} (h : Mem w0 w L V) (hi : L[i]? = some (.own v e 1 n (ts.map St))) : IsTs w.cell? v ts := by
  have hn : n = ts.length := by
    have := h.ownLen hi
    simpa using this.symm
  by_cases h0 : 0 < n
  · obtain ⟨b, c, rfl, h1, h2⟩ := h.ownA hi h0
    exact isTs_of hn (by omega) h2 (fun _ => rfl) (fun j u hj => by rw [Nat.zero_add]; exact h.cellO hi hj)
  · obtain ⟨a, c, rfl, h1, h2⟩ := h.ownShape hi
    exact isTs_of (b := 0) (off := 0) hn (by omega) h2 (fun h => absurd h (by omega)) (fun j u hj => by
      have := (List.getElem?_eq_some_iff.1 hj).1
      rw [List.length_map] at this; omega)
end Go.Eng
namespace Go.Proofs.YtadbinckjmdokaaDoor.Trd
open Go Go.Eng Go.RowKit Go.Tr Go.Lx
attribute [local irreducible] RL RX KQ SQ Exit.inBlock Exit.then BP NP CallsOk IsSl IsRows IsInts IsBools Own Blk Code.wp Calls wpList
theorem own_ts {w0 w : World} {L : List Ent} {V : Vw} {v : Value} {e n : Nat} {l : List (List UInt8)} (hM : Mem w0 w (.own v e 1 n (l.map St) :: L) V) : TsPost w0 L V l v w := by
  have hn : n = l.length := by
    have := hM.ownLen (i := 0) rfl
    simpa using this.symm
  obtain ⟨V', hV, hM', a, c, b, e1, e2, e3, e4, e5⟩ := Mem.freezeOwn hM
  subst e1
  exact ⟨V', hV, hM', isTs_of hn (by omega) e3 (fun h => e4 (by omega)) e5⟩
set_option maxRecDepth 4000 in
set_option maxHeartbeats 4000000 in
theorem free_ok : ∀ (N : Nat) (t : Ty) (cs : List Value), t.ht < N → (occ t).length ≤ 1000000 → ∀ (w0 w : World) (L : List Ent) (V : Vw), Mem w0 w L V → TyV V t cs →
    CallsOk Tryd.prog 10 #[.agg cs.toArray] w (TsPost w0 L V (free t)) := by
  intro N
  induction N with
  | zero => intro t cs hN; omega
  | succ N ih =>
  intro t cs hN hoc w0 w L V hM ht
  have hml := maxLen_le
  have hmx : 10000000 ≤ maxLen := by unfold maxLen; omega
  obtain ⟨v1, rfl, hsl, hi1, hi2, hi3⟩ := id ht.open
  obtain ⟨ka, kc, kb, ko, rfl, g1, g2, g3, g4⟩ := id hsl
  have hkl := Ty.kids_len t
  refine enter_ (N := 50) Tryd.func10 rfl rfl rfl ?_
  by_cases hf2 : t.form = 2
  · obtain ⟨n, s, rfl⟩ := form2 hf2
    (repeat (first | refine seq_ ?_ | refine sq_normal ?_ | refine sq_ret ?_ | refine rl_nil ?_ | refine cond_t rfl ?_ | refine ret_ ?_ | (refine region_ (id := 0) ?_; (try ((refine rl_boxAM (d := 1) hM rfl rfl ?_; clear hM; intro w b1 hM); (try (refine rl_assign (v := (Value.slice _ _ _ : Value)) rfl rfl ?_))))) | (refine region_ (id := 1) ?_; (try (refine rl_fld fd26_0 rfl rfl ?_; (try (refine rl_loadM 0 hM vt3 rfl rfl rfl (by first | rfl | assumption) ?_; (try ((refine rl_eql_t rfl rfl rfl ?_ ?_; omega)))))))) | (refine region_ (id := 2) ?_; (try (refine rl_fld fd26_2 rfl rfl ?_; (try (refine rl_loadM 0 hM vt9 rfl rfl rfl (by first | rfl | assumption) ?_; (try ((refine rl_bsliceM (d := 13) [_] hM sl28 rfl rfl rfl rfl rfl (by decide) (by decide) ?_; clear hM; intro w b13 hM); (try (refine rl_assign (v := (Value.slice _ _ _ : Value)) rfl rfl ?_)))))))))))
    have hM : Mem w0 w (.blk b13 ([s].map St) 9 :: .blk b1 [.int .i64 2, .int .i64 n, St s, .slice ka 0 kc] 26 :: L) V := hM
    obtain ⟨V', hV, hM', hc⟩ := hM.freezeBlk
    exact bp_ret1 (v := Value.slice _ _ _) rfl rfl ⟨V', hV, hM'.dropn 1, isTs_of (b := b13) (off := 0) rfl (Nat.le_refl _) (by unfold maxLen; simp) (fun _ => rfl) (fun j u hj => by rw [Nat.zero_add]; exact hc j u hj)⟩
  · have hf5 : t.form ≠ 5 := by omega
    (repeat (first | refine seq_ ?_ | refine sq_normal ?_ | refine rl_nil ?_ | refine cond_f rfl ?_ | refine skip_ ?_ | refine block_ ?_ | (refine region_ (id := 0) ?_; (try ((refine rl_boxAM (d := 1) hM rfl rfl ?_; clear hM; intro w b1 hM); (try (refine rl_assign (v := (Value.slice _ _ _ : Value)) rfl rfl ?_))))) | (refine region_ (id := 1) ?_; (try (refine rl_fld fd26_0 rfl rfl ?_; (try (refine rl_loadM 0 hM vt3 rfl rfl rfl (by first | rfl | assumption) ?_; (try ((refine rl_eql_f rfl rfl rfl ?_ ?_; omega)))))))) | (refine region_ (id := 3) ?_; (try (refine rl_assign (v := (Value.slice _ _ _ : Value)) rfl rfl ?_))) | (refine region_ (id := 4) ?_; (try (refine rl_fld fd26_3 rfl rfl ?_; (try (refine rl_loadM 0 hM vt24 rfl rfl rfl (by first | rfl | assumption) ?_; (try (refine rl_len sl24 rfl rfl ?_; (try (refine rl_move (v := (Value.int _ _ : Value)) rfl rfl ?_)))))))))))
    have hM := hM.newOwn 9 1
    refine loop2 [(3, 4), (5, 6), (7, 8), (17, 49)] 3 17 (fun m v3 v wr => ∃ (q : Nat) (acc : List B) (V1 : Vw) (a : Option Addr) (c : Nat), v3 = .slice a acc.length c ∧ v = .int .i64 q ∧ q ≤ t.kids.length ∧ m = t.kids.length - q ∧ VLe V V1 ∧ acc = kidsA (t.kids.take q) [] ∧
        Mem w0 wr (.own (.slice a acc.length c) 9 1 acc.length (acc.map St) :: .blk b1 [.int .i64 t.form, .int .i64 t.num, St t.name, .slice ka t.kids.length kc] 26 :: L) V1) _
      ⟨0, [], V, none, 0, rfl, rfl, Nat.zero_le _, rfl, VLe.refl _, rfl, hM⟩ ?_
    clear hM
    rintro m τ v3 v w ⟨q, acc, V1, a, c, rfl, rfl, hq, rfl, hV1, hacc, hM⟩ K0 hL0
    by_cases hlt : q < t.kids.length
    · obtain ⟨x, hx⟩ : ∃ x, t.kids[q]? = some x := ⟨_, List.getElem?_eq_getElem hlt⟩
      obtain ⟨ys, hr, hys⟩ := g4 q x hx
      have g3' := g3 (by omega)
      subst g3'
      obtain ⟨f0, n0, s0, a0, k0, c0, rfl, _⟩ := id hys.shape
      have hr := hr.le hV1
      have hxm := List.mem_of_getElem? hx
      have hxh := Ty.kids_ht hxm
      have hxo := kids_occ hxm
      have hxl := free_len x
      have hal : acc.length ≤ 1000000 := by
        have h1 := kidsA_len (t.kids.take q) []
        have h2 := take_occ (ks := t.kids) (q := q)
        rw [occ_kids t hf2] at h2
        rw [hacc]; simp only [List.length_nil] at h1; omega
      have hxacc := kidsA_take hx []
      rw [← hacc, ← addAll_free] at hxacc
      (repeat (first | refine seq_ ?_ | refine sq_normal ?_ | refine rl_nil ?_ | refine cond_t rfl ?_ | refine skip_ ?_ | refine block_ ?_ | (refine region_ (id := 5) ?_; (try ((refine rl_lss_t rfl rfl rfl ?_ ?_; omega)))) | (refine region_ (id := 6) ?_; (try ((refine rl_idx sl24 rfl rfl rfl rfl ?_ ?_ ?_; omega; omega); (try (refine rl_loadAV hM ag26 rfl rfl (by assumption) (by rfl) ?_; (try ((refine rl_allocAM (d := 5) hM ag26 rfl ?_; clear hM; intro w b5 hM); (try ((refine rl_storeWM 0 hM ag26 rfl rfl rfl rfl rfl rfl rfl ?_; clear hM; intro w hM)))))))))) | (refine region_ (id := 7) ?_; (try (refine rl_loadAM (vs := [_, _, _, _]) 0 hM ag26 rfl rfl rfl rfl rfl ?_)))))
      refine rl_callf fn10 (ih x _ (by omega) (by omega) w0 w _ V1 hM (hys.le hV1)) rfl rfl ?_
      clear hM
      rintro _ w ⟨V2, hV2, hM, hts⟩
      obtain ⟨fa, fc, fb, fo, rfl, q1, q2, q3, q4⟩ := id hts.open'
      (repeat (first | refine sq_normal ?_ | refine rl_nil ?_ | refine block_ ?_ | refine rl_move (v := (Value.int _ _ : Value)) rfl rfl ?_ | refine rl_len sl28 rfl rfl ?_))
      refine loop2 [(3, 4), (7, 8), (24, 48)] 3 24 (fun m v3 v wr => ∃ (p : Nat) (acc2 : List B) (a : Option Addr) (c : Nat), v3 = .slice a acc2.length c ∧ v = .int .i64 p ∧ p ≤ (free x).length ∧ m = (free x).length - p ∧ acc2 = addAll acc ((free x).take p) ∧
          Mem w0 wr (.blk b5 [.int .i64 f0, .int .i64 n0, St s0, .slice a0 k0 c0] 26 :: .own (.slice a acc2.length c) 9 1 acc2.length (acc2.map St) :: .blk b1 [.int .i64 t.form, .int .i64 t.num, St t.name, .slice (some ⟨kb, ko, none⟩) t.kids.length kc] 26 :: L) V2) _
        ⟨0, acc, a, c, rfl, rfl, Nat.zero_le _, rfl, rfl, hM⟩ ?_
      clear hM
      rintro m τ2 v3 v w ⟨p, acc2, a, c, rfl, rfl, hp, rfl, hacc2, hM⟩ K1 hL1
      by_cases hlp : p < (free x).length
      · obtain ⟨s, hs⟩ : ∃ s, (free x)[p]? = some s := ⟨_, List.getElem?_eq_getElem hlp⟩
        have q3' := q3 (by omega)
        subst q3'
        have hc := q4 p s hs
        have hal2 : acc2.length ≤ 2000000 := by
          have h1 := addAll_len ((free x).take p) acc
          have h2 : ((free x).take p).length ≤ (free x).length := by rw [List.length_take]; omega
          rw [hacc2]; omega
        have hts2 := hM.ts (i := 1) rfl
        have hstep := addAll_take hs acc
        rw [← hacc2] at hstep
        (repeat (first | refine seq_ ?_ | refine sq_normal ?_ | refine rl_nil ?_ | refine cond_t rfl ?_ | refine skip_ ?_ | refine block_ ?_ | (refine region_ (id := 8) ?_; (try ((refine rl_lss_t rfl rfl rfl ?_ ?_; omega)))) | (refine region_ (id := 9) ?_; (try ((refine rl_idx1 sl28 rfl rfl rfl rfl ?_ ?_ ?_; omega; omega); (try (refine rl_loadV hM vt9 rfl rfl (by first | assumption | exact VRow.get (by assumption) rfl | exact VRow.get0 (by assumption) rfl) ?_; (try (refine rl_assign (v := (Value.string _ : Value)) rfl rfl ?_))))))) | (refine region_ (id := 10) ?_; (try (refine rl_move (v := (Value.slice _ _ _ : Value)) rfl rfl ?_; (try (refine rl_move (v := (Value.string _ : Value)) rfl rfl ?_)))))))
        refine rl_callf fn22 (contains_ok _ acc2 s w hts2 (by omega)) rfl rfl ?_
        rintro _ _ ⟨rfl, rfl⟩
        by_cases hmem : s ∈ acc2
        · rw [decide_eq_true hmem]
          rw [add_mem hmem] at hstep
          (repeat (first | refine sq_normal ?_ | refine rl_nil ?_ | refine cond_f rfl ?_ | refine skip_ ?_ | refine inBlock_normal ?_ | (refine region_ (id := 12) ?_; (try ((refine rl_add rfl rfl rfl ?_ ?_ ?_; omega; omega); (try (refine rl_move (v := (Value.int _ _ : Value)) rfl rfl ?_))))) | refine rl_not rfl rfl ?_ | refine rl_move (v := (Value.bool _ : Value)) rfl rfl ?_ | refine rl_off rfl ?_ | refine rl_pick (v := (Value.bool _ : Value)) rfl rfl rfl ?_))
          exact kq_normal (hL1 ((free x).length - (p + 1)) _ _ (by omega) (by (repeat (first | with_reducible exact Agree.ov | with_reducible exact Agree.refl _ _ | refine Agree.upd rfl ?_ | refine Agree.ovs rfl ?_))) ⟨p + 1, acc2, a, c, rfl, rfl, by omega, rfl, hstep.symm, hM⟩)
        · rw [decide_eq_false hmem]
          have hadd : add acc2 s = acc2 ++ [s] := by unfold add; rw [if_neg hmem]
          rw [hadd] at hstep
          have hal3 : (acc2 ++ [s]).length = acc2.length + 1 := by simp
          have hmap : acc2.map St ++ [St s] = (acc2 ++ [s]).map St := by simp
          (repeat (first | refine sq_normal ?_ | refine rl_nil ?_ | refine cond_t rfl ?_ | (refine region_ (id := 11) ?_; (try (refine rl_move (v := (Value.slice _ _ _ : Value)) rfl rfl ?_; (try (refine rl_move (v := (Value.string _ : Value)) rfl rfl ?_; (try ((refine rl_bsliceM (d := 45) [_] hM sl28 rfl rfl rfl rfl rfl (by decide) (by decide) ?_; clear hM; intro w b45 hM)))))))) | refine rl_fld fd26_0 rfl rfl ?_ | refine rl_loadM 2 hM vt3 rfl rfl rfl (by first | rfl | assumption) ?_ | refine rl_not rfl rfl ?_ | refine rl_move (v := (Value.bool _ : Value)) rfl rfl ?_ | refine rl_off rfl ?_ | (refine rl_neq_t rfl rfl rfl ?_ ?_; omega) | refine rl_pick (v := (Value.bool _ : Value)) rfl rfl rfl ?_))
          refine rl_appendM 2 (news := [St s]) (B := b45) (off := 0) hM sl28 rfl (by decide) rfl (hM.row (i := 0) rfl) rfl rfl rfl (fun _ => rfl) rfl (by simp [Value.oneCell', St]) (by omega) (by omega) ?_
          clear hM
          intro w a' c' hc1 hc2 hM
          have hM : Mem w0 w (.blk b5 [.int .i64 f0, .int .i64 n0, St s0, .slice a0 k0 c0] 26 :: .own (.slice a' (acc2.length + 1) c') 9 1 (acc2.length + 1) (acc2.map St ++ [St s]) :: .blk b1 [.int .i64 t.form, .int .i64 t.num, St t.name, .slice (some ⟨kb, ko, none⟩) t.kids.length kc] 26 :: L) V2 := hM.dropn 1
          rw [hmap, ← hal3] at hM
          (repeat (first | refine sq_normal ?_ | refine rl_nil ?_ | refine inBlock_normal ?_ | (refine region_ (id := 12) ?_; (try ((refine rl_add rfl rfl rfl ?_ ?_ ?_; omega; omega); (try (refine rl_move (v := (Value.int _ _ : Value)) rfl rfl ?_))))) | refine rl_assign (v := (Value.slice _ _ _ : Value)) rfl rfl ?_))
          exact kq_normal (hL1 ((free x).length - (p + 1)) _ _ (by omega) (by (repeat (first | with_reducible exact Agree.ov | with_reducible exact Agree.refl _ _ | refine Agree.upd rfl ?_ | refine Agree.ovs rfl ?_))) ⟨p + 1, acc2 ++ [s], a', c', by rw [hal3]; rfl, rfl, by omega, rfl, hstep.symm, hM⟩)
      · have hpe : p = (free x).length := by omega
        subst hpe
        rw [List.take_length] at hacc2
        (repeat (first | refine seq_ ?_ | refine sq_normal ?_ | refine sq_exit ?_ | refine rl_nil ?_ | refine cond_f rfl ?_ | refine exit_ ?_ | refine inBlock_normal ?_ | refine inBlock_exit ?_ | refine kq_exit ?_ | (refine region_ (id := 8) ?_; (try ((refine rl_lss_f rfl rfl rfl ?_ ?_; omega)))) | (refine region_ (id := 13) ?_; (try ((refine rl_add rfl rfl rfl ?_ ?_ ?_; omega; omega); (try (refine rl_move (v := (Value.int _ _ : Value)) rfl rfl ?_)))))))
        exact kq_normal (hL0 (t.kids.length - (q + 1)) _ _ (by omega) (by (repeat (first | with_reducible exact Agree.ov | with_reducible exact Agree.refl _ _ | refine Agree.upd rfl ?_ | refine Agree.ovs rfl ?_))) ⟨q + 1, acc2, V2, a, c, rfl, rfl, by omega, rfl, hV1.trans hV2, by rw [hacc2, hxacc], hM.dropn 1⟩)
    · have hqe : q = t.kids.length := by omega
      subst hqe
      rw [List.take_length, kidsA_all t hf2] at hacc
      (repeat (first | refine seq_ ?_ | refine sq_normal ?_ | refine sq_exit ?_ | refine rl_nil ?_ | refine cond_f rfl ?_ | refine ret_ ?_ | refine exit_ ?_ | refine inBlock_exit ?_ | refine kq_exit ?_ | (refine region_ (id := 5) ?_; (try ((refine rl_lss_f rfl rfl rfl ?_ ?_; omega)))) | (refine region_ (id := 14) ?_; (try (refine rl_move (v := (Value.slice _ _ _ : Value)) rfl rfl ?_; (try (refine rl_assign (v := (Value.slice _ _ _ : Value)) rfl rfl ?_)))))))
      have hM := hM.erase 1
      rw [hacc] at hM ⊢
      obtain ⟨V3, hV3, hM3, hts⟩ := own_ts (l := free t) hM
      exact bp_ret1 (v := Value.slice _ _ _) rfl rfl ⟨V3, hV1.trans hV3, hM3, hts⟩
end Go.Proofs.YtadbinckjmdokaaDoor.Trd
