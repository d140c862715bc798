/- The walks of fuguelaw05.lives, source, all. -/
import Derived.Test.YtadbinckjmdokaaTrdW14
import Derived.Test.YtadbinckjmdokaaTrdW22
import Derived.Test.YtadbinckjmdokaaTrdP5
import Derived.Test.YtadbinckjmdokaaEnC
set_option linter.unusedVariables false
set_option linter.unusedSimpArgs false
namespace Go.Proofs.Ytadbinckjmdokaa.Trd
open Go Go.Eng Go.RowKit Go.Tr Go.Lx
attribute [local irreducible] RL RX KQ SQ Exit.inBlock Exit.then BP NP CallsOk IsSl IsRows IsInts IsBools Own Blk Code.wp Calls wpList
set_option maxRecDepth 4000 in
set_option maxHeartbeats 4000000 in
theorem lives_ok (w0 w : World) (L : List Ent) (V : Vw) (hM : Mem w0 w L V) : CallsOk Try.prog 11 #[] w fun r w' => r = .bool true ∧ Mem w0 w' L V := by
  refine enter_ (N := 28) Try.func11 rfl rfl rfl ?_
  (repeat (first | refine seq_ ?_ | refine sq_normal ?_ | refine rl_nil ?_ | (refine region_ (id := 0) ?_; (try (refine rl_assign (v := (Value.bool _ : Value)) rfl rfl ?_))) | (refine region_ (id := 1) ?_)))
  refine rl_callf fn8 (readScheme_ok liveSrc w0 w _ V hM (by decide)) rfl rfl ?_
  clear hM
  rintro _ w ⟨V1, cs, sc, e, a, hV1, hM, rfl, hc, hst⟩
  rw [live_read] at hst
  rcases hst with ⟨h, rfl, rfl⟩ | ⟨h, _⟩
  · cases h
    obtain ⟨vv, pv, ts, rfl, hvs, hps, hty, _⟩ := id hc
    obtain ⟨va, vc, vb, vo, rfl, _⟩ := id hvs.open'
    obtain ⟨pa, pc, rfl, _⟩ := id hps.open'
    obtain ⟨f1, n1, s1, a1, k1, c1, rfl, _⟩ := id hty.shape
    have h2 : ((liveSch.preds.length : Nat) : Int) = 2 := rfl
    (repeat (first | refine seq_ ?_ | refine sq_normal ?_ | refine rl_nil ?_ | (refine region_ (id := 2) ?_; (try (refine rl_loadAM (vs := [_, _]) 0 hM ag34 rfl rfl rfl rfl rfl ?_; (try (refine rl_build [(Value.int .i64 0), (Value.int .i64 0)] ag34 pl34 rfl rfl rfl ?_; (try (refine rl_aeql_t eq34 rfl rfl rfl rfl rfl (by first | rfl | assumption) ?_; (try (refine rl_move (v := (Value.bool _ : Value)) rfl rfl ?_; (try (refine rl_fld fd31_0 rfl rfl ?_; (try (refine rl_loadM 1 hM vt23 rfl rfl rfl (by first | rfl | assumption) ?_; (try ((refine rl_bsliceM (d := 13) [_, _] hM sl23 rfl rfl rfl rfl rfl (by decide) (by decide) ?_; clear hM; intro w b13 hM)))))))))))))))) | refine rl_move (v := (Value.tuple _ : Value)) rfl rfl ?_ | refine rl_extract rfl rfl rfl ?_ | (refine rl_allocAM (d := 1) hM ag31 rfl ?_; clear hM; intro w b1 hM) | (refine rl_allocAM (d := 2) hM ag34 rfl ?_; clear hM; intro w b2 hM) | (refine rl_storeWM 1 hM ag31 rfl rfl rfl rfl rfl rfl rfl ?_; clear hM; intro w hM) | (refine rl_storeWM 0 hM ag34 rfl rfl rfl rfl rfl rfl rfl ?_; clear hM; intro w hM)))
    have hM : Mem w0 w (.blk b13 (([[97], [98]] : List B).map St) 9 :: .blk b2 [.int .i64 0, .int .i64 0] 34 :: .blk b1 [.slice va liveSch.vars.length vc, .slice none 0 0, .slice pa liveSch.preds.length pc, .int .i64 f1, .int .i64 n1, St s1, .slice a1 k1 c1] 31 :: L) V1 := hM
    obtain ⟨V2, hV2, hM2, hts2⟩ := ts_ret hM rfl (by decide)
    clear hM
    refine rl_callf fn34 (sameTexts_ok _ _ liveSch.vars [[97], [98]] w0 w _ V2 hM2 (IsSl.mono hvs hV2) hts2 (by decide) (by decide)) rfl rfl ?_
    clear hM2
    rintro _ w ⟨rfl, hM⟩
    rw [show decide (liveSch.vars = [[97], [98]]) = true from rfl]
    (repeat (first | refine rl_move (v := (Value.bool _ : Value)) rfl rfl ?_ | refine rl_pick (v := (Value.bool _ : Value)) rfl rfl rfl ?_ | refine rl_fld fd31_2 rfl rfl ?_ | refine rl_loadM 1 hM vt26 rfl rfl rfl (by first | rfl | assumption) ?_ | refine rl_len sl26 rfl rfl ?_ | (refine rl_eql_t rfl rfl rfl ?_ ?_; omega) | refine rl_fld fd31_3 rfl rfl ?_ | refine rl_loadAM (vs := [_, _, _, _]) 1 hM ag29 rfl rfl rfl rfl rfl ?_))
    refine rl_callf fn28 (rprint_ok _ liveTy _ (Nat.lt_succ_self _) live_nm (by rw [live_pr]; decide) w0 w _ V2 hM (hty.le hV2)) rfl rfl ?_
    clear hM
    rintro _ w ⟨rfl, hM⟩
    rw [live_pr]
    (repeat (first | refine sq_normal ?_ | refine rl_nil ?_ | refine ret_ ?_ | refine rl_assign (v := (Value.bool _ : Value)) rfl rfl ?_ | refine rl_pick (v := (Value.bool _ : Value)) rfl rfl rfl ?_ | refine rl_seql_t rfl rfl rfl (by first | rfl | assumption) ?_))
    exact bp_ret1 (v := Value.bool _) rfl rfl ⟨rfl, (hM.le (hV1.trans hV2)).dropn 2⟩
  · cases h
theorem table_len : ∀ w ∈ table, w.length ≤ 40 := by decide
theorem words_len (xs : List Int) : ∀ w ∈ words xs, w.length ≤ 40 := by
  intro w hw
  simp only [words, List.mem_map] at hw
  obtain ⟨n, _, rfl⟩ := hw
  have hr := around_lt n 34 (by omega)
  obtain ⟨y, hy⟩ : ∃ y, table[(around n 34).toNat]? = some y := ⟨_, List.getElem?_eq_getElem (by show _ < 34; omega)⟩
  have : word n = y := by unfold word; rw [hy]; rfl
  rw [this]; exact table_len _ (List.mem_of_getElem? hy)
theorem srcT_words (xs : List Int) : (srcT (words xs)).length ≤ 1230 := by
  have h1 := srcT_len (words_len xs)
  have h2 : (words xs).length ≤ 30 := by simp only [words, List.length_map, List.length_take]; omega
  omega
set_option maxHeartbeats 4000000 in
theorem source_ok (v : Value) (xs : List Int) (w0 w : World) (L : List Ent) (V : Vw) (hM : Mem w0 w L V) (hx : IsInts V v xs) :
    CallsOk Try.prog 13 #[v] w fun r w' => ∃ V', VLe V V' ∧ Mem w0 w' L V' ∧ r = St (srcT (words xs)) := by
  obtain ⟨a, c, b, off, rfl, g1, g2, g3, g4⟩ := id hx.open
  have hml := maxLen_le
  refine enter_ (N := 22) Try.func13 rfl rfl rfl ?_
  (repeat (first | refine seq_ ?_ | refine sq_normal ?_ | refine rl_nil ?_ | (refine region_ (id := 0) ?_; (try (refine rl_assign (v := (Value.string _ : Value)) rfl rfl ?_))) | (refine region_ (id := 1) ?_; (try (refine rl_move (v := (Value.slice _ _ _ : Value)) rfl rfl ?_)))))
  refine rl_callf fn40 (texts_ok _ xs w0 w _ V hM hx) rfl rfl ?_
  clear hM
  rintro _ w ⟨V1, hV1, hM, hts⟩
  obtain ⟨ta, tc, tb, to, rfl, t1, t2, t3, t4⟩ := id hts.open'
  have hwl : (words xs).length ≤ 30 := by simp only [words, List.length_map, List.length_take]; omega
  (repeat (first | refine seq_ ?_ | refine sq_normal ?_ | refine rl_nil ?_ | refine block_ ?_ | (refine region_ (id := 2) ?_; (try (refine rl_assign (v := (Value.string _ : Value)) rfl rfl ?_))) | (refine region_ (id := 3) ?_; (try (refine rl_assign (v := (Value.int _ _ : Value)) rfl rfl ?_))) | refine rl_assign (v := (Value.slice _ _ _ : Value)) rfl rfl ?_))
  refine loop2 [(4, 6), (8, 21)] 4 5 (fun m v4 v5 wr => ∃ q : Nat, v4 = St (srcT ((words xs).take q)) ∧ v5 = .int .i64 q ∧ q ≤ (words xs).length ∧ m = (words xs).length - q ∧ Mem w0 wr L V1) _
    ⟨0, rfl, rfl, Nat.zero_le _, rfl, hM⟩ ?_
  clear hM
  rintro m τ v4 v5 w ⟨q, rfl, rfl, hq, rfl, hM⟩ K0 hL0
  by_cases hlt : q < (words xs).length
  · obtain ⟨t, ht⟩ : ∃ t, (words xs)[q]? = some t := ⟨_, List.getElem?_eq_getElem hlt⟩
    have hcell := t4 q t ht
    have t3' := t3 (by omega)
    subst t3'
    have hl1 := words_len xs t (List.mem_of_getElem? ht)
    have hl2 : (srcT ((words xs).take q)).length ≤ 1230 := by
      have h1 := srcT_len (ws := (words xs).take q) (m := 40) (fun w hw => words_len xs w (List.mem_of_mem_take hw))
      have h2 : ((words xs).take q).length ≤ 30 := by rw [List.length_take]; omega
      omega
    have hst := srcT_take ht
    (repeat (first | refine seq_ ?_ | refine sq_normal ?_ | refine rl_nil ?_ | refine cond_t rfl ?_ | refine skip_ ?_ | refine block_ ?_ | refine inBlock_normal ?_ | (refine region_ (id := 4) ?_; (try (refine rl_move (v := (Value.int _ _ : Value)) rfl rfl ?_; (try (refine rl_move (v := (Value.slice _ _ _ : Value)) rfl rfl ?_; (try (refine rl_len sl23 rfl rfl ?_; (try ((refine rl_lss_t rfl rfl rfl ?_ ?_; omega)))))))))) | (refine region_ (id := 5) ?_; (try (refine rl_move (v := (Value.int _ _ : Value)) rfl rfl ?_; (try ((refine rl_add rfl rfl rfl ?_ ?_ ?_; omega; omega); (try (refine rl_assign (v := (Value.int _ _ : Value)) rfl rfl ?_))))))) | (refine region_ (id := 6) ?_; (try (refine rl_move (v := (Value.string _ : Value)) rfl rfl ?_; (try (refine rl_move (v := (Value.slice _ _ _ : Value)) rfl rfl ?_; (try (refine rl_move (v := (Value.int _ _ : Value)) rfl rfl ?_; (try ((refine rl_idx1 sl23 rfl rfl rfl rfl ?_ ?_ ?_; omega; omega); (try (refine rl_loadV hM vt9 rfl rfl (by first | assumption | exact VRow.get (by assumption) rfl | exact VRow.get0 (by assumption) rfl) ?_; (try ((refine rl_sadd rfl rfl rfl (by (first | omega | (simp only [List.length_append, List.length_cons, List.length_nil, List.length_take, List.length_drop] at *; omega))) ?_); (try ((refine rl_sadd rfl rfl rfl (by (first | omega | (simp only [List.length_append, List.length_cons, List.length_nil, List.length_take, List.length_drop] at *; omega))) ?_); (try (refine rl_assign (v := (Value.string _ : Value)) rfl rfl ?_)))))))))))))))))))
    exact kq_normal (hL0 ((words xs).length - (q + 1)) _ _ (by omega) (by (repeat (first | with_reducible exact Agree.ov | with_reducible exact Agree.refl _ _ | refine Agree.upd rfl ?_ | refine Agree.ovs rfl ?_))) ⟨q + 1, by rw [hst]; rfl, rfl, by omega, rfl, hM⟩)
  · have hqe : q = (words xs).length := by omega
    subst hqe
    (repeat (first | refine seq_ ?_ | refine sq_normal ?_ | refine sq_exit ?_ | refine rl_nil ?_ | refine cond_f rfl ?_ | refine ret_ ?_ | refine exit_ ?_ | refine inBlock_exit ?_ | refine kq_exit ?_ | (refine region_ (id := 4) ?_; (try (refine rl_move (v := (Value.int _ _ : Value)) rfl rfl ?_; (try (refine rl_move (v := (Value.slice _ _ _ : Value)) rfl rfl ?_; (try (refine rl_len sl23 rfl rfl ?_; (try ((refine rl_lss_f rfl rfl rfl ?_ ?_; omega)))))))))) | (refine region_ (id := 7) ?_; (try (refine rl_move (v := (Value.string _ : Value)) rfl rfl ?_; (try (refine rl_assign (v := (Value.string _ : Value)) rfl rfl ?_)))))))
    exact bp_ret1 (v := St _) rfl rfl ⟨V1, hV1, hM, by rw [List.take_length]⟩
/-- The texts that are asked. -/
def AllP (w0 : World) (L : List Ent) (V : Vw) (r : Value) (w' : World) : Prop := ∃ V' ts, VLe V V' ∧ Mem w0 w' L V' ∧ IsTs V' r ts ∧ ts.length = 6 ∧ ∀ t ∈ ts, t.length ≤ 10000
set_option maxHeartbeats 4000000 in
theorem all_ok (s : B) (v : Value) (xs : List Int) (at_ : Int) (qc : UInt8) (w0 w : World) (L : List Ent) (V : Vw) (hM : Mem w0 w L V) (hs : s.length ≤ maxLen) (hx : IsInts V v xs) (hat : I64 at_) :
    CallsOk Try.prog 7 #[St s, v, .int .i64 at_, .int .u8 qc.toNat] w (AllP w0 L V) := by
  obtain ⟨a, c, b, off, rfl, g1, g2, g3, g4⟩ := id hx.open
  have hml := maxLen_le
  refine enter_ (N := 43) Try.func7 rfl rfl rfl ?_
  (repeat (first | refine seq_ ?_ | refine sq_normal ?_ | refine rl_nil ?_ | (refine region_ (id := 0) ?_; (try (refine rl_assign (v := (Value.slice _ _ _ : Value)) rfl rfl ?_))) | (refine region_ (id := 1) ?_; (try (refine rl_move (v := (Value.slice _ _ _ : Value)) rfl rfl ?_; (try (refine rl_move (v := (Value.int _ _ : Value)) rfl rfl ?_)))))))
  refine rl_callf fn15 (around_ok at_ 4 w hat.1 hat.2 (by omega) (by omega)) rfl rfl ?_
  rintro _ w ⟨rfl, rfl⟩
  have hr4 := around_lt at_ 4 (by omega)
  obtain ⟨m4, hm4⟩ : ∃ m4 : Nat, (m4 : Int) = around at_ 4 := ⟨(around at_ 4).toNat, by omega⟩
  rw [← hm4] at hr4 ⊢
  skip
  refine rl_callf fn27 (context_ok _ xs m4 w0 w _ V hM hx (by omega)) rfl rfl ?_
  clear hM
  rintro _ w ⟨ps, pb, rfl, hpl, hps, _, hM⟩
  have hcl := ctx_len (b := pb) hps
  (repeat (first | refine rl_move (v := (Value.slice _ _ _ : Value)) rfl rfl ?_))
  refine rl_callf fn29 (goodT_ok _ xs w0 w _ V hM hx) rfl rfl ?_
  clear hM
  rintro _ w ⟨V1, cs, t, hV1, hM, rfl, hc, hg, hsz, hht⟩
  have hpl := hg.pr_len 0
  have hpp := hg.pr_pos 0
  skip
  refine rl_callf fn28 (rprint_ok _ t _ (Nat.lt_succ_self _) hg.nm (by omega) w0 w _ V1 hM hc) rfl rfl ?_
  clear hM
  rintro _ w ⟨rfl, hM⟩
  (repeat (first | refine seq_ ?_ | refine sq_normal ?_ | refine rl_nil ?_ | (refine region_ (id := 2) ?_; (try (refine rl_move (v := (Value.int _ _ : Value)) rfl rfl ?_; (try (refine rl_move (v := (Value.string _ : Value)) rfl rfl ?_; (try (refine rl_slen us9 rfl rfl ?_))))))) | (refine rl_sadd rfl rfl rfl (by (first | omega | (simp only [List.length_append, List.length_cons, List.length_nil, List.length_take, List.length_drop] at *; omega))) ?_) | refine rl_assign (v := (Value.string _ : Value)) rfl rfl ?_))
  obtain ⟨p, hp⟩ : ∃ p, p = ctx pb ps ++ pr t 0 := ⟨_, rfl⟩
  have hp1 : p.length = (ctx pb ps).length + (pr t 0).length := by rw [hp, List.length_append]
  rw [← hp]
  have hp0 : 0 < p.length := by omega
  have hp2 : p.length ≤ 5000 := by omega
  clear hp hp1
  refine rl_callf fn15 (around_ok at_ p.length w hat.1 hat.2 (by omega) (by omega)) rfl rfl ?_
  rintro _ w ⟨rfl, rfl⟩
  have hk := around_lt at_ p.length (by omega)
  obtain ⟨k, hkd⟩ : ∃ k : Nat, around at_ p.length = (k : Int) := ⟨(around at_ p.length).toNat, by omega⟩
  rw [hkd] at hk ⊢
  clear hkd
  (repeat (first | refine seq_ ?_ | refine sq_normal ?_ | refine rl_nil ?_ | (refine region_ (id := 3) ?_; (try (refine rl_move (v := (Value.string _ : Value)) rfl rfl ?_))) | refine rl_assign (v := (Value.int _ _ : Value)) rfl rfl ?_))
  refine rl_s2b hM us9 sl68.und (by kernel_rfl) rfl rfl (by unfold maxLen; omega) ?_
  clear hM
  intro w bb sp hsp hM
  have hcl : (by8 p ++ sp).length = p.length + sp.length := by rw [List.length_append, by8_len]
  (repeat (first | refine seq_ ?_ | refine sq_normal ?_ | refine rl_nil ?_ | (refine region_ (id := 4) ?_; (try (refine rl_move (v := (Value.slice _ _ _ : Value)) rfl rfl ?_; (try (refine rl_move (v := (Value.int _ _ : Value)) rfl rfl ?_; (try (refine rl_move (v := (Value.int _ _ : Value)) rfl rfl ?_; (try ((refine rl_idx1 sl68 rfl rfl rfl rfl ?_ ?_ ?_; omega; omega)))))))))) | refine rl_assign (v := (Value.slice _ _ _ : Value)) rfl rfl ?_))
  refine rl_storeR 0 hM vt5 rfl rfl rfl rfl rfl (by omega) (by omega) ?_
  clear hM
  intro w hM
  have hM : Mem w0 w (.row bb ((by8 p ++ sp).set (0 + (k : Int).toNat) (.int .u8 qc.toNat)) 5 ((by8 p ++ sp).length, (by8 p ++ sp).length + 1) :: L) V1 := hM
  rw [Nat.zero_add, show (k : Int).toNat = k from rfl, List.set_append_left _ _ (by rw [by8_len]; omega), by8_set] at hM
  refine rl_nil (sq_normal ?_)
  have hql : (p.set k qc).length = p.length := List.length_set
  have hcx : ∀ w : World, Mem w0 w (.row bb (by8 (p.set k qc) ++ sp) 5 ((by8 p ++ sp).length, (by8 p ++ sp).length + 1) :: L) V1 → ∀ (j : Nat) u, (p.set k qc)[j]? = some u → w.cell? ⟨bb, 0 + j, none⟩ = some (.int .u8 u.toNat) := fun w h j u hj => by
    rw [Nat.zero_add]
    refine h.cellR (i := 0) rfl ?_
    rw [List.getElem?_append_left (by rw [by8_len]; exact (List.getElem?_eq_some_iff.1 hj).1)]
    exact by8_get hj
  (repeat (first | refine seq_ ?_))
  (refine drawnM_ 12 [(0, false), (2, false), (4, false), (5, false), (6, false), (7, false), (8, false), (9, false), (10, false), (11, false), (1, true), (3, true)] (fun w => Mem w0 w _ _) hM mo (by kernel_rfl) (fun _ h => h) ?_; clear hM; intro w hM; (try (refine rx_move (v := (Value.string _ : Value)) rfl rfl rfl ?_; (try (refine rx_move (v := (Value.slice _ _ _ : Value)) rfl rfl rfl ?_; (try (refine rx_move (v := (Value.string _ : Value)) rfl rfl rfl ?_; (try (refine rx_move (v := (Value.slice _ _ _ : Value)) rfl rfl rfl ?_)))))))))
  refine rx_b2s (p.set k qc) rfl sl68.und (by kernel_rfl) us9 rfl rfl hql.symm hcx ?_
  (try (refine rx_move (v := (Value.string _ : Value)) rfl rfl rfl ?_; (try (refine rx_move (v := (Value.int _ _ : Value)) rfl rfl rfl ?_; (try ((refine rx_sslice_h rfl us9 rfl rfl rfl ?_ ?_ ?_; omega; omega); (try (refine rx_move (v := (Value.string _ : Value)) rfl rfl rfl ?_; (try ((refine rx_sadd rfl rfl rfl rfl (by (first | omega | (simp only [List.length_append, List.length_cons, List.length_nil, List.length_take, List.length_drop] at *; omega))) ?_)))))))))))
  refine rx_eff rfl (fun K hK => ?_)
  refine rl_callf fn30 (short_ok s 60 w (by omega) (by omega) (by omega)) rfl rfl ?_
  rintro _ _ ⟨rfl, rfl⟩
  refine rl_nil (kq_normal (hK _ _ hM ?_))
  refine rx_eff rfl (fun K hK => ?_)
  refine rl_callf fn13 (source_ok _ xs w0 _ _ V1 hM (hx.le hV1)) rfl rfl ?_
  clear hM
  rintro _ w ⟨V2, hV2, hM, rfl⟩
  refine rl_nil (kq_normal (hK _ _ (hM.le hV2) ?_))
  refine rx_nil rfl ?_
  (repeat (first | refine sq_normal ?_ | refine rl_nil ?_ | refine ret_ ?_ | refine np_normal ?_ | refine rl_assign (v := (Value.slice _ _ _ : Value)) rfl rfl ?_ | (refine rl_bsliceM (d := 42) [_, _, _, _, _, _] hM sl23 rfl rfl rfl rfl rfl (by decide) (by decide) ?_; clear hM; intro w b42 hM)))
  obtain ⟨A, hA⟩ : ∃ A : List B, A = [s.take 60, srcT (words xs), p, p.set k qc, p.take k, p ++ [32, 41]] := ⟨_, rfl⟩
  have hM : Mem w0 w (.blk b42 (A.map St) 9 :: .row bb (by8 (p.set k qc) ++ sp) 5 ((by8 p ++ sp).length, (by8 p ++ sp).length + 1) :: L) V2 := by rw [hA]; exact hM
  have hAl : A.length = 6 := by rw [hA]; rfl
  have hsw := srcT_words xs
  have hA1 : ∀ x ∈ A, x.length ≤ 10000 := by
    intro x hx
    rw [hA] at hx
    simp only [List.mem_cons, List.not_mem_nil, or_false] at hx
    rcases hx with rfl | rfl | rfl | rfl | rfl | rfl
    · rw [List.length_take]; omega
    · omega
    · omega
    · omega
    · rw [List.length_take]; omega
    · simp only [List.length_append, List.length_cons, List.length_nil]; omega
  clear hA hcx
  obtain ⟨V3, hV3, hM3, hts⟩ := ts_ret (n := 6) hM hAl (by decide)
  exact bp_ret1 (v := Value.slice _ _ _) rfl rfl ⟨V3, A, hV1.trans (hV2.trans hV3), hM3.dropn 1, hts, hAl, hA1⟩
end Go.Proofs.Ytadbinckjmdokaa.Trd
