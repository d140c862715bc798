/- The walks of tread.Type, Atom, pred, list. -/
import Derived.Test.YtadbinckjmdokaaDoorDrdW4
import Derived.Test.YtadbinckjmdokaaDoorTxB
set_option linter.unusedVariables false
set_option linter.unusedSimpArgs false
namespace Go.Proofs.YtadbinckjmdokaaDoor.Trd
open Go Go.Eng Go.RowKit Go.Tr Go.Lx
attribute [local irreducible] RL RX KQ SQ Exit.inBlock Exit.then BP NP CallsOk IsSl IsRows IsInts IsBools Own Blk Code.wp Calls wpList
theorem ttype_ok (l : List Tok) (i : Nat) (v : Value) (w0 w : World) (L : List Ent) (V : Vw) (hM : Mem w0 w L V) (hl : IsTk V v l) (hT : TOk l) (hi : i < l.length) :
    CallsOk Tryd.prog 26 #[v, .int .i64 i] w (RdP w0 L V l.length (rd l (fuel l) .whole i 0)) := by
  obtain ⟨va, vc, vb, vo, rfl, g1, g2, g3, g4⟩ := id hl
  have g3' := g3 (by omega)
  subst g3'
  have hfew := hT.few
  refine enter_ (N := 13) Tryd.func26 rfl rfl rfl ?_
  (repeat (first | refine seq_ ?_ | refine sq_normal ?_ | refine rl_nil ?_ | (refine region_ (id := 0) ?_; (try ((refine rl_allocAM (d := 4) hM ag26 rfl ?_; clear hM; intro w b4 hM); (try (refine rl_assign (v := (Value.int _ _ : Value)) rfl rfl ?_; (try ((refine rl_allocAM (d := 6) hM ag35 rfl ?_; clear hM; intro w b6 hM)))))))) | (refine region_ (id := 1) ?_; (try (refine rl_move (v := (Value.slice _ _ _ : Value)) rfl rfl ?_; (try (refine rl_move (v := (Value.int _ _ : Value)) rfl rfl ?_)))))))
  refine rl_callf fn41 ((both_ok _ _ (Nat.le_refl (fuel l))).2 l i 0 _ w0 w _ V hM hl hT hi (by omega) (by unfold fuel; omega)) rfl rfl ?_
  clear hM
  rintro _ w hres
  rcases hres with ⟨V1, cs, x, j, hV1, hM, rfl, hx, hc, hj⟩ | ⟨V1, e, a, hV1, hM, rfl, hx, he⟩
  · obtain ⟨f1, n1, s1, a1, k1, c1, rfl, _⟩ := id hc.shape
    (repeat (first | refine sq_normal ?_ | refine rl_nil ?_ | refine ret_ ?_ | refine rl_assign (v := (Value.int _ _ : Value)) rfl rfl ?_ | refine rl_extract rfl rfl rfl ?_ | (refine rl_storeWM 1 hM ag26 rfl rfl rfl rfl rfl rfl rfl ?_; clear hM; intro w hM) | (refine rl_storeWM 0 hM ag35 rfl rfl rfl rfl rfl rfl rfl ?_; clear hM; intro w hM)))
    exact bp_x3 rfl rfl (res_M 1 hM ag26 rfl rfl rfl) (res_tmp rfl) (res_M 0 hM ag35 rfl rfl rfl) (.inl ⟨V1, _, x, j, hV1, hM.dropn 2, rfl, hx, hc, hj⟩)
  · (repeat (first | refine sq_normal ?_ | refine rl_nil ?_ | refine ret_ ?_ | refine rl_assign (v := (Value.int _ _ : Value)) rfl rfl ?_ | refine rl_extract rfl rfl rfl ?_ | (refine rl_storeWM 1 hM ag26 rfl rfl rfl rfl rfl rfl rfl ?_; clear hM; intro w hM) | (refine rl_storeWM 0 hM ag35 rfl rfl rfl rfl rfl rfl rfl ?_; clear hM; intro w hM)))
    exact bp_x3 rfl rfl (res_M 1 hM ag26 rfl rfl rfl) (res_tmp rfl) (res_M 0 hM ag35 rfl rfl rfl) (.inr ⟨V1, e, a, hV1, hM.dropn 2, rfl, hx, he⟩)
/-- A predicate, told. -/
def PredP (w0 : World) (L : List Ent) (V : Vw) (n : Nat) (x : Option (Pd × Nat)) (r : Value) (w' : World) : Prop :=
  ∃ V' cs p, ∃ (j : Nat) (b : Bool), VLe V V' ∧ Mem w0 w' L V' ∧ r = .tuple #[.agg cs.toArray, .int .i64 j, .bool b] ∧ PdV V' p cs ∧ ((b = true ∧ x = some (p, j) ∧ j < n) ∨ (b = false ∧ x = none ∧ j = 0))
set_option maxRecDepth 4000 in
set_option maxHeartbeats 4000000 in
theorem pred_ok (l : List Tok) (i op : Nat) (v : Value) (w0 w : World) (L : List Ent) (V : Vw) (hM : Mem w0 w L V) (hl : IsTk V v l) (hT : TOk l) (hi : i < l.length) (ho : op ≤ 40) :
    CallsOk Tryd.prog 49 #[v, .int .i64 i, .int .i64 op] w (PredP w0 L V l.length (pred l i op)) := by
  obtain ⟨va, vc, vb, vo, rfl, g1, g2, g3, g4⟩ := id hl
  have g3' := g3 (by omega)
  subst g3'
  have hfew := hT.few
  have hml := maxLen_le
  obtain ⟨t, ht⟩ : ∃ t, l[i]? = some t := ⟨_, List.getElem?_eq_getElem hi⟩
  have hr : VRow V vb (vo + i * 4) (tC t) := g4 i t ht
  have hr0 : V ⟨vb, vo + i * 4 + 0, none⟩ = some (.int .i64 t.k) := hr 0 _ rfl
  refine enter_ (N := 39) Tryd.func49 rfl rfl rfl ?_
  by_cases h2 : t.k = 2
  · have hmore := hT.more i t ht (by omega)
    (repeat (first | refine seq_ ?_ | refine sq_normal ?_ | refine rl_nil ?_ | refine cond_f rfl ?_ | refine skip_ ?_ | (refine region_ (id := 0) ?_; (try ((refine rl_allocAM (d := 6) hM ag42 rfl ?_; clear hM; intro w b6 hM); (try (refine rl_assign (v := (Value.int _ _ : Value)) rfl rfl ?_; (try (refine rl_assign (v := (Value.bool _ : Value)) rfl rfl ?_))))))) | (refine region_ (id := 1) ?_; (try (refine rl_move (v := (Value.slice _ _ _ : Value)) rfl rfl ?_; (try (refine rl_move (v := (Value.int _ _ : Value)) rfl rfl ?_; (try ((refine rl_idx sl52 rfl rfl rfl rfl ?_ ?_ ?_; omega; omega); (try (refine rl_fld fd70_0 rfl rfl ?_; (try (refine rl_loadV hM vt3 rfl rfl (by first | assumption | exact VRow.get (by assumption) rfl | exact VRow.get0 (by assumption) rfl) ?_; (try ((refine rl_neq_f rfl rfl rfl ?_ ?_; omega)))))))))))))) | (refine region_ (id := 3) ?_; (try (refine rl_move (v := (Value.slice _ _ _ : Value)) rfl rfl ?_; (try (refine rl_move (v := (Value.int _ _ : Value)) rfl rfl ?_; (try ((refine rl_add rfl rfl rfl ?_ ?_ ?_; omega; omega); (try (refine rl_move (v := (Value.int _ _ : Value)) rfl rfl ?_)))))))))))
    refine rl_callf fn54 ((both_ok _ _ (Nat.le_refl (fuel l))).1 l (i + 1) op _ w0 w _ V hM hl hT hmore ho (by unfold fuel; omega)) rfl rfl ?_
    clear hM
    rintro _ w hres
    rcases hres with ⟨V1, cs, x, j, hV1, hM, rfl, hx, hc, hj⟩ | ⟨V1, e, a, hV1, hM, rfl, hx, he⟩
    · obtain ⟨f1, n1, s1, a1, k1, c1, rfl, _⟩ := id hc.shape
      have hr1 : V1 ⟨vb, vo + i * 4 + 1, none⟩ = some (St t.s) := (hr.le hV1) 1 _ rfl
      (repeat (first | refine seq_ ?_ | refine sq_normal ?_ | refine rl_nil ?_ | refine rl_assign (v := (Value.int _ _ : Value)) rfl rfl ?_ | refine rl_move (v := (Value.tuple _ : Value)) rfl rfl ?_ | refine rl_extract rfl rfl rfl ?_ | (refine rl_allocAM (d := 9) hM ag26 rfl ?_; clear hM; intro w b9 hM) | (refine rl_allocAM (d := 11) hM ag35 rfl ?_; clear hM; intro w b11 hM) | (refine rl_storeWM 1 hM ag26 rfl rfl rfl rfl rfl rfl rfl ?_; clear hM; intro w hM) | (refine rl_storeWM 0 hM ag35 rfl rfl rfl rfl rfl rfl rfl ?_; clear hM; intro w hM)))
      have hM : Mem w0 w (.blk b11 [.int .i64 0, .int .i64 0] 35 :: .blk b9 [.int .i64 f1, .int .i64 n1, St s1, .slice a1 k1 c1] 26 :: .blk b6 [St [], .int .i64 0, .int .i64 0, St [], .slice none 0 0] 42 :: L) V1 := hM
      refine drawnM_ 13 [(0, false), (1, false), (2, false), (3, false), (4, false), (5, false), (6, false), (7, false), (8, false), (9, false), (10, false), (11, true), (12, false)] (fun w => Mem w0 w (.blk b11 [.int .i64 0, .int .i64 0] 35 :: .blk b9 [.int .i64 f1, .int .i64 n1, St s1, .slice a1 k1 c1] 26 :: L) V1) hM mo (by kernel_rfl) (fun _ h => h.erase 2) ?_
      clear hM
      intro w hM
      (try (refine rx_move (v := (Value.slice _ _ _ : Value)) rfl rfl rfl ?_; (try (refine rx_move (v := (Value.int _ _ : Value)) rfl rfl rfl ?_; (try ((refine rx_idx rfl sl52 rfl rfl rfl rfl ?_ ?_ ?_; omega; omega); (try (refine rx_fld rfl fd70_1 rfl rfl ?_; (try (refine rx_loadV rfl (fun _ h => h) vt9 rfl rfl (by first | assumption | exact VRow.get (by assumption) rfl | exact VRow.get0 (by assumption) rfl) ?_; (try (refine rx_loadAM (vs := [_, _, _, _]) 1 rfl (fun _ h => h) ag26 rfl rfl rfl rfl rfl ?_; (try (refine rx_build [_, _, _, _, _] rfl ag42 pl42 rfl rfl rfl ?_; (try (refine rx_move (v := (Value.int _ _ : Value)) rfl rfl rfl ?_; (try (refine rx_fld rfl fd35_0 rfl rfl ?_; (try (refine rx_loadM 0 rfl (fun _ h => h) vt33 rfl rfl rfl (by first | rfl | assumption) ?_; (try ((refine rx_eql_t rfl rfl rfl rfl ?_ ?_; omega)))))))))))))))))))))))
      refine rx_eff rfl (fun K hK => ?_)
      (repeat (first | refine rl_nil ?_ | (refine rl_storeWM 2 hM ag42 rfl rfl rfl rfl rfl rfl rfl ?_; clear hM; intro w hM)))
      refine kq_normal (hK _ _ (hM.erase 2) ?_)
      (try (refine rx_assign (v := (Value.int _ _ : Value)) rfl rfl rfl ?_))
      refine rx_nil rfl ?_
      (repeat (first | refine sq_normal ?_ | refine rl_nil ?_ | refine ret_ ?_ | refine np_normal ?_ | refine rl_assign (v := (Value.bool _ : Value)) rfl rfl ?_))
      exact bp_x3 rfl rfl (res_M 2 hM ag42 rfl rfl rfl) (res_tmp rfl) (res_tmp rfl) ⟨V1, [St t.s, .int .i64 f1, .int .i64 n1, St s1, .slice a1 k1 c1], (t.s, x), j, true, hV1, hM.dropn 3, rfl, ⟨_, rfl, hc⟩, .inl ⟨rfl, pred_some ht h2 hx, hj⟩⟩
    · have hr1 : V1 ⟨vb, vo + i * 4 + 1, none⟩ = some (St t.s) := (hr.le hV1) 1 _ rfl
      (repeat (first | refine seq_ ?_ | refine sq_normal ?_ | refine rl_nil ?_ | refine rl_assign (v := (Value.int _ _ : Value)) rfl rfl ?_ | refine rl_move (v := (Value.tuple _ : Value)) rfl rfl ?_ | refine rl_extract rfl rfl rfl ?_ | (refine rl_allocAM (d := 9) hM ag26 rfl ?_; clear hM; intro w b9 hM) | (refine rl_allocAM (d := 11) hM ag35 rfl ?_; clear hM; intro w b11 hM) | (refine rl_storeWM 1 hM ag26 rfl rfl rfl rfl rfl rfl rfl ?_; clear hM; intro w hM) | (refine rl_storeWM 0 hM ag35 rfl rfl rfl rfl rfl rfl rfl ?_; clear hM; intro w hM)))
      have hM : Mem w0 w (.blk b11 [.int .i64 e, .int .i64 a] 35 :: .blk b9 zT 26 :: .blk b6 [St [], .int .i64 0, .int .i64 0, St [], .slice none 0 0] 42 :: L) V1 := hM
      refine drawnM_ 13 [(0, false), (1, false), (2, false), (3, false), (4, false), (5, false), (6, false), (7, false), (8, false), (9, false), (10, false), (11, true), (12, false)] (fun w => Mem w0 w (.blk b11 [.int .i64 e, .int .i64 a] 35 :: .blk b9 zT 26 :: L) V1) hM mo (by kernel_rfl) (fun _ h => h.erase 2) ?_
      clear hM
      intro w hM
      (try (refine rx_move (v := (Value.slice _ _ _ : Value)) rfl rfl rfl ?_; (try (refine rx_move (v := (Value.int _ _ : Value)) rfl rfl rfl ?_; (try ((refine rx_idx rfl sl52 rfl rfl rfl rfl ?_ ?_ ?_; omega; omega); (try (refine rx_fld rfl fd70_1 rfl rfl ?_; (try (refine rx_loadV rfl (fun _ h => h) vt9 rfl rfl (by first | assumption | exact VRow.get (by assumption) rfl | exact VRow.get0 (by assumption) rfl) ?_; (try (refine rx_loadAM (vs := [_, _, _, _]) 1 rfl (fun _ h => h) ag26 rfl rfl rfl rfl rfl ?_; (try (refine rx_build [_, _, _, _, _] rfl ag42 pl42 rfl rfl rfl ?_; (try (refine rx_move (v := (Value.int _ _ : Value)) rfl rfl rfl ?_; (try (refine rx_fld rfl fd35_0 rfl rfl ?_; (try (refine rx_loadM 0 rfl (fun _ h => h) vt33 rfl rfl rfl (by first | rfl | assumption) ?_; (try ((refine rx_eql_f rfl rfl rfl rfl ?_ ?_; omega)))))))))))))))))))))))
      refine rx_eff rfl (fun K hK => ?_)
      (repeat (first | refine rl_nil ?_ | (refine rl_storeWM 2 hM ag42 rfl rfl rfl rfl rfl rfl rfl ?_; clear hM; intro w hM)))
      refine kq_normal (hK _ _ (hM.erase 2) ?_)
      (try (refine rx_assign (v := (Value.int _ _ : Value)) rfl rfl rfl ?_))
      refine rx_nil rfl ?_
      (repeat (first | refine sq_normal ?_ | refine rl_nil ?_ | refine ret_ ?_ | refine np_normal ?_ | refine rl_assign (v := (Value.bool _ : Value)) rfl rfl ?_))
      exact bp_x3 rfl rfl (res_M 2 hM ag42 rfl rfl rfl) (res_tmp rfl) (res_tmp rfl) ⟨V1, [St t.s, .int .i64 0, .int .i64 0, St [], .slice none 0 0], (t.s, Ty.z), 0, false, hV1, hM.dropn 3, rfl, ⟨_, rfl, tyz⟩, .inr ⟨rfl, pred_err ht hx, rfl⟩⟩
  · (repeat (first | refine seq_ ?_ | refine sq_normal ?_ | refine sq_ret ?_ | refine rl_nil ?_ | refine cond_t rfl ?_ | refine ret_ ?_ | (refine region_ (id := 0) ?_; (try ((refine rl_allocAM (d := 6) hM ag42 rfl ?_; clear hM; intro w b6 hM); (try (refine rl_assign (v := (Value.int _ _ : Value)) rfl rfl ?_; (try (refine rl_assign (v := (Value.bool _ : Value)) rfl rfl ?_))))))) | (refine region_ (id := 1) ?_; (try (refine rl_move (v := (Value.slice _ _ _ : Value)) rfl rfl ?_; (try (refine rl_move (v := (Value.int _ _ : Value)) rfl rfl ?_; (try ((refine rl_idx sl52 rfl rfl rfl rfl ?_ ?_ ?_; omega; omega); (try (refine rl_fld fd70_0 rfl rfl ?_; (try (refine rl_loadV hM vt3 rfl rfl (by first | assumption | exact VRow.get (by assumption) rfl | exact VRow.get0 (by assumption) rfl) ?_; (try ((refine rl_neq_t rfl rfl rfl ?_ ?_; omega)))))))))))))) | (refine region_ (id := 2) ?_; (try (refine rl_build [(St []), (Value.int .i64 0), (Value.int .i64 0), (St []), (Value.slice none 0 0)] ag42 pl42 rfl rfl rfl ?_; (try ((refine rl_storeWM 0 hM ag42 rfl rfl rfl rfl rfl rfl rfl ?_; clear hM; intro w hM); (try (refine rl_assign (v := (Value.int _ _ : Value)) rfl rfl ?_; (try (refine rl_assign (v := (Value.bool _ : Value)) rfl rfl ?_)))))))))))
    exact bp_x3 rfl rfl (res_M 0 hM ag42 rfl rfl rfl) (res_tmp rfl) (res_tmp rfl) ⟨V, _, ([], Ty.z), 0, false, VLe.refl _, hM.dropn 1, rfl, ⟨zT, rfl, tyz⟩, .inr ⟨rfl, pred_not ht h2, rfl⟩⟩
/-- Predicates up to what shuts them, told. -/
def ListP (w0 : World) (L : List Ent) (V : Vw) (n : Nat) (x : Option (List Pd × Nat)) (r : Value) (w' : World) : Prop :=
  (∃ V' v ps, ∃ j : Nat, VLe V V' ∧ Mem w0 w' L V' ∧ r = .tuple #[v, .int .i64 j, .bool true] ∧ x = some (ps, j) ∧ PdSl V' v ps ∧ j < n) ∨
  (∃ V', VLe V V' ∧ Mem w0 w' L V' ∧ r = .tuple #[.slice none 0 0, .int .i64 0, .bool false] ∧ x = none)
set_option maxRecDepth 4000 in
set_option maxHeartbeats 4000000 in
theorem list_ok (l : List Tok) (i : Nat) (v : Value) (w0 w : World) (L : List Ent) (V : Vw) (hM : Mem w0 w L V) (hl : IsTk V v l) (hT : TOk l) (hi : i < l.length) :
    CallsOk Tryd.prog 51 #[v, .int .i64 i] w (ListP w0 L V l.length (plist l l.length i)) := by
  obtain ⟨va, vc, vb, vo, rfl, g1, g2, g3, g4⟩ := id hl
  have g3' := g3 (by omega)
  subst g3'
  have hfew := hT.few
  have hml := maxLen_le
  have hmx : 10000000 ≤ maxLen := by unfold maxLen; omega
  refine enter_ (N := 42) Tryd.func51 rfl rfl rfl ?_
  (repeat (first | refine seq_ ?_ | refine sq_normal ?_ | refine rl_nil ?_ | refine block_ ?_ | (refine region_ (id := 0) ?_; (try (refine rl_assign (v := (Value.slice _ _ _ : Value)) rfl rfl ?_; (try (refine rl_assign (v := (Value.int _ _ : Value)) rfl rfl ?_; (try (refine rl_assign (v := (Value.bool _ : Value)) rfl rfl ?_))))))) | (refine region_ (id := 1) ?_; (try (refine rl_assign (v := (Value.slice _ _ _ : Value)) rfl rfl ?_)))))
  have hM := hM.newOwn 42 5
  refine loop2 [(1, 2), (4, 42)] 1 7 (fun m v1 v7 wr => ∃ (k g : Nat) (acc : List Pd) (xs : List Value) (V1 : Vw) (a : Option Addr) (c : Nat), v1 = .int .i64 k ∧ v7 = .slice a acc.length c ∧ VLe V V1 ∧ PdsO V1 acc xs ∧ k < l.length ∧ m = l.length - k ∧ acc.length ≤ k ∧
    plist l l.length i = (plist l g k).map (fun r => (acc ++ r.1, r.2)) ∧ l.length - k ≤ g ∧ Mem w0 wr (.own (.slice a acc.length c) 42 5 acc.length xs :: L) V1) _
    ⟨i, l.length, [], [], V, none, 0, rfl, rfl, VLe.refl _, PdsO.nil _, hi, rfl, Nat.zero_le _, by cases plist l l.length i <;> rfl, Nat.sub_le _ _, hM⟩ ?_
  clear hM
  rintro m τ v1 v7 w ⟨k, g, acc, xs, V1, a, c, rfl, rfl, hV1, hO, hk, rfl, hak, hg1, hg2, hM⟩ K0 hL0
  obtain ⟨g, rfl⟩ : ∃ g', g = g' + 1 := ⟨g - 1, by omega⟩
  (repeat (first | refine seq_ ?_ | refine block_ ?_ | (refine region_ (id := 2) ?_; (try (refine rl_move (v := (Value.slice _ _ _ : Value)) rfl rfl ?_; (try (refine rl_move (v := (Value.int _ _ : Value)) rfl rfl ?_)))))))
  refine rl_callf fn49 (pred_ok l k 1 _ w0 w _ V1 hM (hl.le hV1) hT hk (by omega)) rfl rfl ?_
  clear hM
  rintro _ w ⟨V2, ps, p, j, bo, hV2, hM, rfl, hp, hst⟩
  obtain ⟨f1, n1, s1, a1, k1, c1, rfl, _⟩ := id hp.shape
  rcases hst with ⟨rfl, hx, hj⟩ | ⟨rfl, hx, rfl⟩
  · have hadv := pred_adv hx
    obtain ⟨t, ht⟩ : ∃ t, l[j]? = some t := ⟨_, List.getElem?_eq_getElem hj⟩
    have hr : VRow V2 vb (vo + j * 4) (tC t) := ((g4 j t ht).le hV1).le hV2
    obtain ⟨hn4, hkI, hnI, haI, hsl⟩ := hT.sane t (List.mem_of_getElem? ht)
    (repeat (first | refine seq_ ?_ | refine sq_normal ?_ | refine rl_nil ?_ | refine cond_f rfl ?_ | refine skip_ ?_ | (refine region_ (id := 3) ?_; (try (refine rl_move (v := (Value.bool _ : Value)) rfl rfl ?_; (try (refine rl_not rfl rfl ?_))))) | (refine region_ (id := 5) ?_; (try (refine rl_move (v := (Value.slice _ _ _ : Value)) rfl rfl ?_; (try (refine rl_loadAM (vs := [_, _, _, _, _]) 0 hM ag42 rfl rfl rfl rfl rfl ?_; (try ((refine rl_bsliceM (d := 22) [_] hM sl30 rfl rfl rfl rfl rfl (by decide) (by decide) ?_; clear hM; intro w b22 hM)))))))) | refine rl_assign (v := (Value.int _ _ : Value)) rfl rfl ?_ | refine rl_assign (v := (Value.bool _ : Value)) rfl rfl ?_ | refine rl_move (v := (Value.tuple _ : Value)) rfl rfl ?_ | refine rl_extract rfl rfl rfl ?_ | (refine rl_allocAM (d := 8) hM ag42 rfl ?_; clear hM; intro w b8 hM) | (refine rl_storeWM 0 hM ag42 rfl rfl rfl rfl rfl rfl rfl ?_; clear hM; intro w hM)))
    refine rl_appendM 2 (news := [St p.1, .int .i64 f1, .int .i64 n1, St s1, .slice a1 k1 c1]) (B := b22) (off := 0) hM sl30 rfl (by decide) rfl (hM.row (i := 0) rfl) rfl rfl rfl (fun _ => rfl) rfl (by simp [Value.oneCell', St]) (by omega) (by omega) ?_
    clear hM
    intro w a' c' hc1 hc2 hM
    have hO2 := (hO.le hV2).snoc hp
    have hM : Mem w0 w (.own (.slice a' (acc.length + 1) c') 42 5 (acc.length + 1) (xs ++ [St p.1, .int .i64 f1, .int .i64 n1, St s1, .slice a1 k1 c1]) :: L) V2 := hM.dropn 2
    have hal : (acc ++ [p]).length = acc.length + 1 := by simp
    (repeat (first | refine seq_ ?_ | refine sq_normal ?_ | refine rl_nil ?_ | refine block_ ?_ | (refine region_ (id := 6) ?_; (try (refine rl_move (v := (Value.slice _ _ _ : Value)) rfl rfl ?_; (try (refine rl_move (v := (Value.int _ _ : Value)) rfl rfl ?_; (try ((refine rl_idx sl52 rfl rfl rfl rfl ?_ ?_ ?_; omega; omega); (try (refine rl_loadAV hM ag70 rfl rfl (by assumption) (by rfl) ?_))))))))) | refine rl_assign (v := (Value.slice _ _ _ : Value)) rfl rfl ?_))
    refine rl_callf fn50 (is_ok t [41] w0 w _ V2 hM hn4) rfl rfl ?_
    clear hM
    rintro _ w ⟨rfl, hM⟩
    cases hs : sym [41] t with
    | true =>
      have hk4 := sym_k hs
      have hmore := hT.more j t ht (by omega)
      (repeat (first | refine seq_ ?_ | refine sq_normal ?_ | refine sq_ret ?_ | refine rl_nil ?_ | refine cond_t rfl ?_ | refine ret_ ?_ | refine inBlock_ret ?_ | refine kq_ret ?_ | (refine region_ (id := 7) ?_; (try (refine rl_move (v := (Value.slice _ _ _ : Value)) rfl rfl ?_; (try (refine rl_move (v := (Value.int _ _ : Value)) rfl rfl ?_; (try ((refine rl_add rfl rfl rfl ?_ ?_ ?_; omega; omega); (try (refine rl_assign (v := (Value.slice _ _ _ : Value)) rfl rfl ?_; (try (refine rl_assign (v := (Value.int _ _ : Value)) rfl rfl ?_; (try (refine rl_assign (v := (Value.bool _ : Value)) rfl rfl ?_))))))))))))) | refine rl_assign (v := (Value.bool _ : Value)) rfl rfl ?_))
      rw [← hal] at hM
      obtain ⟨V3, hV3, hM2, a3, c3, b4, e1, e2, e3, e4, e5⟩ := hM.freezeOwn
      cases e1
      refine bp_x3 rfl rfl (res_tmp rfl) (res_tmp rfl) (res_tmp rfl) (.inl ⟨V3, _, acc ++ [p], j + 1, hV1.trans (hV2.trans hV3), hM2, rfl, ?_, by rw [← hal]; exact hO2.frozen hV3 rfl e2 e3 e4 e5, hmore⟩)
      rw [hg1, plist_shut hx ht hs]; rfl
    | false =>
      (repeat (first | refine seq_ ?_ | refine sq_normal ?_ | refine rl_nil ?_ | refine cond_f rfl ?_ | (refine region_ (id := 8) ?_; (try (refine rl_move (v := (Value.slice _ _ _ : Value)) rfl rfl ?_; (try (refine rl_move (v := (Value.int _ _ : Value)) rfl rfl ?_; (try ((refine rl_idx sl52 rfl rfl rfl rfl ?_ ?_ ?_; omega; omega); (try (refine rl_loadAV hM ag70 rfl rfl (by assumption) (by rfl) ?_))))))))) | refine rl_assign (v := (Value.bool _ : Value)) rfl rfl ?_))
      refine rl_callf fn50 (is_ok t [44] w0 w _ V2 hM hn4) rfl rfl ?_
      clear hM
      rintro _ w ⟨rfl, hM⟩
      cases hc : sym [44] t with
      | true =>
        have hk4 := sym_k hc
        have hmore := hT.more j t ht (by omega)
        (repeat (first | refine sq_normal ?_ | refine rl_nil ?_ | refine cond_f rfl ?_ | refine skip_ ?_ | refine inBlock_normal ?_ | (refine region_ (id := 10) ?_; (try (refine rl_move (v := (Value.int _ _ : Value)) rfl rfl ?_; (try ((refine rl_add rfl rfl rfl ?_ ?_ ?_; omega; omega); (try (refine rl_assign (v := (Value.int _ _ : Value)) rfl rfl ?_))))))) | refine rl_assign (v := (Value.bool _ : Value)) rfl rfl ?_ | refine rl_not rfl rfl ?_))
        rw [← hal] at hM
        refine kq_normal (hL0 (l.length - (j + 1)) _ _ (by omega) (by (repeat (first | with_reducible exact Agree.ov | with_reducible exact Agree.refl _ _ | refine Agree.upd rfl ?_ | refine Agree.ovs rfl ?_))) ⟨j + 1, g, acc ++ [p], _, V2, a', c', rfl, by rw [hal]; rfl, hV1.trans hV2, hO2, hmore, rfl, by omega, ?_, by omega, hM⟩)
        rw [hg1, plist_next hx ht hs hc, Option.map_map]
        congr 1
        funext r
        simp
      | false =>
        (repeat (first | refine seq_ ?_ | refine sq_normal ?_ | refine sq_ret ?_ | refine rl_nil ?_ | refine cond_t rfl ?_ | refine ret_ ?_ | refine inBlock_ret ?_ | refine kq_ret ?_ | (refine region_ (id := 9) ?_; (try (refine rl_assign (v := (Value.slice _ _ _ : Value)) rfl rfl ?_; (try (refine rl_assign (v := (Value.int _ _ : Value)) rfl rfl ?_; (try (refine rl_assign (v := (Value.bool _ : Value)) rfl rfl ?_))))))) | refine rl_assign (v := (Value.bool _ : Value)) rfl rfl ?_ | refine rl_not rfl rfl ?_))
        exact bp_x3 rfl rfl (res_tmp rfl) (res_tmp rfl) (res_tmp rfl) (.inr ⟨V2, hV1.trans hV2, hM.dropn 1, rfl, by rw [hg1, plist_stop hx ht hs hc]; rfl⟩)
  · (repeat (first | refine seq_ ?_ | refine sq_normal ?_ | refine sq_ret ?_ | refine rl_nil ?_ | refine cond_t rfl ?_ | refine ret_ ?_ | refine inBlock_ret ?_ | refine kq_ret ?_ | (refine region_ (id := 3) ?_; (try (refine rl_move (v := (Value.bool _ : Value)) rfl rfl ?_; (try (refine rl_not rfl rfl ?_))))) | (refine region_ (id := 4) ?_; (try (refine rl_assign (v := (Value.slice _ _ _ : Value)) rfl rfl ?_; (try (refine rl_assign (v := (Value.int _ _ : Value)) rfl rfl ?_; (try (refine rl_assign (v := (Value.bool _ : Value)) rfl rfl ?_))))))) | refine rl_assign (v := (Value.int _ _ : Value)) rfl rfl ?_ | refine rl_assign (v := (Value.bool _ : Value)) rfl rfl ?_ | refine rl_move (v := (Value.tuple _ : Value)) rfl rfl ?_ | refine rl_extract rfl rfl rfl ?_ | (refine rl_allocAM (d := 8) hM ag42 rfl ?_; clear hM; intro w b8 hM) | (refine rl_storeWM 0 hM ag42 rfl rfl rfl rfl rfl rfl rfl ?_; clear hM; intro w hM)))
    exact bp_x3 rfl rfl (res_tmp rfl) (res_tmp rfl) (res_tmp rfl) (.inr ⟨V2, hV1.trans hV2, hM.dropn 2, rfl, by rw [hg1, plist_none hx]; rfl⟩)
end Go.Proofs.YtadbinckjmdokaaDoor.Trd
