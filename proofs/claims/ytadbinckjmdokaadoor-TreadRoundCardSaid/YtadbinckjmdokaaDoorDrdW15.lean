/- The walks of tread.read, ReadType, ReadScheme. -/
import Derived.Test.YtadbinckjmdokaaDoorDrdW12
import Derived.Test.YtadbinckjmdokaaDoorTxB
set_option linter.unusedVariables false
set_option linter.unusedSimpArgs false
namespace Go.Proofs.YtadbinckjmdokaaDoor.Trd
open Go Go.Eng Go.RowKit Go.Tr Go.Lx
attribute [local irreducible] RL RX KQ SQ Exit.inBlock Exit.then BP NP CallsOk IsSl IsRows IsInts IsBools Own Blk Code.wp Calls wpList
/-- What all of a source is read by: it may turn the entry X, and tells a place and a refusal. -/
def WhatC (f : Nat) (cap : List Value) (w0 : World) (L : List Ent) (V : Vw) (X : Ent) (W : Vw → Ent → List Tok → Nat → Int → Int → Prop) : Prop :=
  ∀ (E1 E2 : Ent) (l : List Tok) (v : Value) (V1 : Vw) (w1 : World), VLe V V1 → Mem w0 w1 (E1 :: E2 :: X :: L) V1 → IsTk V1 v l → TOk l → 0 < l.length →
    CallsOk Tryd.prog f (v :: cap).toArray w1 fun r w' => ∃ V2 k e a X', VLe V1 V2 ∧ Mem w0 w' (E1 :: E2 :: X' :: L) V2 ∧ r = .tuple #[.int .i64 (k : Nat), pairV e a] ∧ W V2 X' l k e a ∧ (e = 0 → a = 0 ∧ k < l.length)
def ReadC (w0 : World) (L : List Ent) (V : Vw) (X : Ent) (W : Vw → Ent → List Tok → Nat → Int → Int → Prop) (x : Except (Int × Nat) (List Tok)) (r : Value) (w' : World) : Prop :=
  ∃ V' X' e a, VLe V V' ∧ Mem w0 w' (X' :: L) V' ∧ r = pairV e a ∧
    ((∃ n : Nat, x = .error (e, n) ∧ a = n ∧ e ≠ 0 ∧ X' = X) ∨ (∃ l k e' a', x = .ok l ∧ W V' X' l k e' a' ∧ ((e' ≠ 0 ∧ e = e' ∧ a = a') ∨ (e' = 0 ∧ ∃ t, l[k]? = some t ∧ ((t.k = 6 ∧ e = 0 ∧ a = 0) ∨ (t.k ≠ 6 ∧ e = 12 ∧ a = t.a))))))
set_option maxRecDepth 4000 in
set_option maxHeartbeats 4000000 in
theorem read_ok (f : Nat) (hfn : FnT Tryd.prog f) (cap : List Value) (s : List UInt8) (w0 w : World) (L : List Ent) (V : Vw) (X : Ent) (W : Vw → Ent → List Tok → Nat → Int → Int → Prop)
    (hW : ∀ V V' X l k e a, VLe V V' → W V X l k e a → W V' X l k e a) (hM : Mem w0 w (X :: L) V) (hs : s.length ≤ 1000000) (hw : WhatC f cap w0 L V X W) :
    CallsOk Tryd.prog 17 #[St s, .func (.func f) #[] cap.toArray] w (ReadC w0 L V X W (lexA s)) := by
  have hml := maxLen_le
  refine enter_ (N := 40) Tryd.func17 rfl rfl rfl ?_
  (repeat (first | refine seq_ ?_ | refine sq_normal ?_ | refine rl_nil ?_ | (refine region_ (id := 0) ?_; (try ((refine rl_allocAM (d := 4) hM ag35 rfl ?_; clear hM; intro w b4 hM)))) | (refine region_ (id := 1) ?_; (try (refine rl_move (v := (Value.string _ : Value)) rfl rfl ?_)))))
  refine rl_callf fn31 (lex_ok s w0 w _ V hM hs) rfl rfl ?_
  clear hM
  rintro _ w ⟨V1, v, l, e, a, hV1, hM, rfl, hl, hst⟩
  obtain ⟨va, vc, vb, vo, rfl, g1, g2, g3, g4⟩ := id hl
  rcases hst with ⟨hx, rfl, rfl⟩ | ⟨rfl, he, n, hx, rfl⟩
  · obtain ⟨hT, hpos, hlen⟩ := lexA_tok hx
    have g3' := g3 hpos
    subst g3'
    (repeat (first | refine seq_ ?_ | refine sq_normal ?_ | refine rl_nil ?_ | refine cond_f rfl ?_ | refine skip_ ?_ | (refine region_ (id := 2) ?_; (try (refine rl_fld fd35_0 rfl rfl ?_; (try (refine rl_loadM 0 hM vt33 rfl rfl rfl (by first | rfl | assumption) ?_; (try ((refine rl_neq_f rfl rfl rfl ?_ ?_; omega)))))))) | (refine region_ (id := 4) ?_; (try (refine rl_move (v := (Value.func _ _ _ : Value)) rfl rfl ?_; (try (refine rl_move (v := (Value.slice _ _ _ : Value)) rfl rfl ?_))))) | refine rl_move (v := (Value.tuple _ : Value)) rfl rfl ?_ | refine rl_extract rfl rfl rfl ?_ | (refine rl_allocAM (d := 6) hM ag35 rfl ?_; clear hM; intro w b6 hM) | refine rl_assign (v := (Value.slice _ _ _ : Value)) rfl rfl ?_ | (refine rl_storeWM 0 hM ag35 rfl rfl rfl rfl rfl rfl rfl ?_; clear hM; intro w hM)))
    have hM : Mem w0 w (.blk b6 [.int .i64 0, .int .i64 0] 35 :: .blk b4 [.int .i64 0, .int .i64 0] 35 :: X :: L) V1 := hM
    refine rl_callv hfn (cap := cap) (hw _ _ l _ V1 w hV1 hM hl hT hpos) rfl rfl rfl ?_
    clear hM
    rintro _ w ⟨V2, k, e, a, X', hV2, hM, rfl, hWx, hk⟩
    by_cases he : e = 0
    · obtain ⟨rfl, hk2⟩ := hk he
      subst he
      obtain ⟨t, ht⟩ : ∃ t, l[k]? = some t := ⟨_, List.getElem?_eq_getElem hk2⟩
      have hr : VRow V2 vb (vo + k * 4) (tC t) := (g4 k t ht).le hV2
      by_cases h6 : t.k = 6
      · (repeat (first | refine seq_ ?_ | refine sq_normal ?_ | refine rl_nil ?_ | refine cond_f rfl ?_ | refine skip_ ?_ | refine ret_ ?_ | (refine region_ (id := 5) ?_; (try (refine rl_fld fd35_0 rfl rfl ?_; (try (refine rl_loadM 0 hM vt33 rfl rfl rfl (by first | rfl | assumption) ?_; (try ((refine rl_eql_t rfl rfl rfl ?_ ?_; omega); (try (refine rl_move (v := (Value.bool _ : Value)) rfl rfl ?_; (try (refine rl_move (v := (Value.slice _ _ _ : Value)) rfl rfl ?_; (try (refine rl_move (v := (Value.int _ _ : Value)) rfl rfl ?_; (try ((refine rl_idx sl52 rfl rfl rfl rfl ?_ ?_ ?_; omega; omega); (try (refine rl_fld fd70_0 rfl rfl ?_; (try (refine rl_loadV hM vt3 rfl rfl (by first | assumption | exact VRow.get (by assumption) rfl | exact VRow.get0 (by assumption) rfl) ?_; (try ((refine rl_neq_f rfl rfl rfl ?_ ?_; omega); (try (refine rl_pick (v := (Value.bool _ : Value)) rfl rfl rfl ?_))))))))))))))))))))))) | (refine region_ (id := 7) ?_; (try (refine rl_loadAM (vs := [_, _]) 0 hM ag35 rfl rfl rfl rfl rfl ?_; (try ((refine rl_storeWM 1 hM ag35 rfl rfl rfl rfl rfl rfl rfl ?_; clear hM; intro w hM)))))) | refine rl_move (v := (Value.tuple _ : Value)) rfl rfl ?_ | refine rl_extract rfl rfl rfl ?_ | (refine rl_storeWM 0 hM ag35 rfl rfl rfl rfl rfl rfl rfl ?_; clear hM; intro w hM) | refine rl_assign (v := (Value.int _ _ : Value)) rfl rfl ?_))
        exact bp_x1 rfl rfl (res_M 1 hM ag35 rfl rfl rfl) ⟨V2, X', 0, 0, hV1.trans hV2, hM.dropn 2, rfl, .inr ⟨l, k, 0, 0, hx, hWx, .inr ⟨rfl, t, ht, .inl ⟨h6, rfl, rfl⟩⟩⟩⟩
      · (repeat (first | refine seq_ ?_ | refine sq_normal ?_ | refine rl_nil ?_ | refine cond_t rfl ?_ | (refine region_ (id := 5) ?_; (try (refine rl_fld fd35_0 rfl rfl ?_; (try (refine rl_loadM 0 hM vt33 rfl rfl rfl (by first | rfl | assumption) ?_; (try ((refine rl_eql_t rfl rfl rfl ?_ ?_; omega); (try (refine rl_move (v := (Value.bool _ : Value)) rfl rfl ?_; (try (refine rl_move (v := (Value.slice _ _ _ : Value)) rfl rfl ?_; (try (refine rl_move (v := (Value.int _ _ : Value)) rfl rfl ?_; (try ((refine rl_idx sl52 rfl rfl rfl rfl ?_ ?_ ?_; omega; omega); (try (refine rl_fld fd70_0 rfl rfl ?_; (try (refine rl_loadV hM vt3 rfl rfl (by first | assumption | exact VRow.get (by assumption) rfl | exact VRow.get0 (by assumption) rfl) ?_; (try ((refine rl_neq_t rfl rfl rfl ?_ ?_; omega); (try (refine rl_pick (v := (Value.bool _ : Value)) rfl rfl rfl ?_))))))))))))))))))))))) | (refine region_ (id := 6) ?_; (try (refine rl_move (v := (Value.slice _ _ _ : Value)) rfl rfl ?_; (try (refine rl_move (v := (Value.int _ _ : Value)) rfl rfl ?_; (try ((refine rl_idx sl52 rfl rfl rfl rfl ?_ ?_ ?_; omega; omega); (try (refine rl_loadAV hM ag70 rfl rfl (by assumption) (by rfl) ?_))))))))) | refine rl_move (v := (Value.tuple _ : Value)) rfl rfl ?_ | refine rl_extract rfl rfl rfl ?_ | (refine rl_storeWM 0 hM ag35 rfl rfl rfl rfl rfl rfl rfl ?_; clear hM; intro w hM) | refine rl_assign (v := (Value.int _ _ : Value)) rfl rfl ?_))
        refine rl_callf fn32 (refuse_ok t 12 w0 w _ V2 hM) rfl rfl ?_
        clear hM
        rintro _ w ⟨rfl, hM⟩
        (repeat (first | refine sq_normal ?_ | refine sq_ret ?_ | refine rl_nil ?_ | refine ret_ ?_ | (refine rl_storeWM 1 hM ag35 rfl rfl rfl rfl rfl rfl rfl ?_; clear hM; intro w hM)))
        exact bp_x1 rfl rfl (res_M 1 hM ag35 rfl rfl rfl) ⟨V2, X', 12, t.a, hV1.trans hV2, hM.dropn 2, rfl, .inr ⟨l, k, 0, 0, hx, hWx, .inr ⟨rfl, t, ht, .inr ⟨h6, rfl, rfl⟩⟩⟩⟩
    · (repeat (first | refine seq_ ?_ | refine sq_normal ?_ | refine rl_nil ?_ | refine cond_f rfl ?_ | refine skip_ ?_ | refine ret_ ?_ | (refine region_ (id := 5) ?_; (try (refine rl_fld fd35_0 rfl rfl ?_; (try (refine rl_loadM 0 hM vt33 rfl rfl rfl (by first | rfl | assumption) ?_; (try ((refine rl_eql_f rfl rfl rfl ?_ ?_; omega); (try (refine rl_move (v := (Value.bool _ : Value)) rfl rfl ?_; (try (refine rl_off rfl ?_; (try (refine rl_off rfl ?_; (try (refine rl_off rfl ?_; (try (refine rl_off rfl ?_; (try (refine rl_off rfl ?_; (try (refine rl_off rfl ?_; (try (refine rl_pick (v := (Value.bool _ : Value)) rfl rfl rfl ?_))))))))))))))))))))))) | (refine region_ (id := 7) ?_; (try (refine rl_loadAM (vs := [_, _]) 0 hM ag35 rfl rfl rfl rfl rfl ?_; (try ((refine rl_storeWM 1 hM ag35 rfl rfl rfl rfl rfl rfl rfl ?_; clear hM; intro w hM)))))) | refine rl_move (v := (Value.tuple _ : Value)) rfl rfl ?_ | refine rl_extract rfl rfl rfl ?_ | (refine rl_storeWM 0 hM ag35 rfl rfl rfl rfl rfl rfl rfl ?_; clear hM; intro w hM) | refine rl_assign (v := (Value.int _ _ : Value)) rfl rfl ?_))
      exact bp_x1 rfl rfl (res_M 1 hM ag35 rfl rfl rfl) ⟨V2, X', e, a, hV1.trans hV2, hM.dropn 2, rfl, .inr ⟨l, k, e, a, hx, hWx, .inl ⟨he, rfl, rfl⟩⟩⟩
  · (repeat (first | refine seq_ ?_ | refine sq_normal ?_ | refine sq_ret ?_ | refine rl_nil ?_ | refine cond_t rfl ?_ | refine ret_ ?_ | (refine region_ (id := 2) ?_; (try (refine rl_fld fd35_0 rfl rfl ?_; (try (refine rl_loadM 0 hM vt33 rfl rfl rfl (by first | rfl | assumption) ?_; (try ((refine rl_neq_t rfl rfl rfl ?_ ?_; omega)))))))) | (refine region_ (id := 3) ?_; (try (refine rl_loadAM (vs := [_, _]) 0 hM ag35 rfl rfl rfl rfl rfl ?_; (try ((refine rl_storeWM 1 hM ag35 rfl rfl rfl rfl rfl rfl rfl ?_; clear hM; intro w hM)))))) | refine rl_move (v := (Value.tuple _ : Value)) rfl rfl ?_ | refine rl_extract rfl rfl rfl ?_ | (refine rl_allocAM (d := 6) hM ag35 rfl ?_; clear hM; intro w b6 hM) | refine rl_assign (v := (Value.slice _ _ _ : Value)) rfl rfl ?_ | (refine rl_storeWM 0 hM ag35 rfl rfl rfl rfl rfl rfl rfl ?_; clear hM; intro w hM)))
    exact bp_x1 rfl rfl (res_M 1 hM ag35 rfl rfl rfl) ⟨V1, X, e, n, hV1, hM.dropn 2, rfl, .inl ⟨n, hx, rfl, he, rfl⟩⟩
def WT (b : Nat) (V : Vw) (X : Ent) (l : List Tok) (k : Nat) (e a : Int) : Prop :=
  ∃ cs, X = .blk b cs 26 ∧ ((e = 0 ∧ ∃ t, rd l (fuel l) .whole 0 0 = .ok (t, k) ∧ TyV V t cs) ∨ (e ≠ 0 ∧ rd l (fuel l) .whole 0 0 = .error (e, a) ∧ cs = zT))
theorem rtype1_ok (b : Nat) (w0 : World) (L : List Ent) (V : Vw) : WhatC 25 [.pointer (some ⟨b, 0, none⟩)] w0 L V (.blk b zT 26) (WT b) := by
  intro E1 E2 l v V1 w hV1 hM hl hT hpos
  obtain ⟨va, vc, vb, vo, rfl, g1, g2, g3, g4⟩ := id hl
  refine enter_ (N := 13) Tryd.func25 rfl rfl rfl ?_
  (repeat (first | refine seq_ ?_ | refine sq_normal ?_ | refine rl_nil ?_ | (refine region_ (id := 0) ?_; (try (refine rl_assign (v := (Value.int _ _ : Value)) rfl rfl ?_; (try ((refine rl_allocAM (d := 4) hM ag35 rfl ?_; clear hM; intro w b4 hM)))))) | (refine region_ (id := 1) ?_; (try (refine rl_move (v := (Value.slice _ _ _ : Value)) rfl rfl ?_)))))
  refine rl_callf fn26 (ttype_ok l 0 _ w0 w _ V1 hM hl hT hpos) rfl rfl ?_
  clear hM
  rintro _ w hres
  rcases hres with ⟨V2, cs, x, k, hV2, hM, rfl, hx2, hc, hk⟩ | ⟨V2, e, a, hV2, hM, rfl, hx2, he⟩
  · obtain ⟨f1, n1, s1, a1, k1, c1, rfl, _⟩ := id hc.shape
    (repeat (first | refine seq_ ?_ | refine sq_normal ?_ | refine rl_nil ?_ | refine rl_assign (v := (Value.int _ _ : Value)) rfl rfl ?_ | refine rl_move (v := (Value.tuple _ : Value)) rfl rfl ?_ | refine rl_extract rfl rfl rfl ?_ | (refine rl_storeWM 3 hM ag26 rfl rfl rfl rfl rfl rfl rfl ?_; clear hM; intro w hM) | (refine rl_storeWM 0 hM ag35 rfl rfl rfl rfl rfl rfl rfl ?_; clear hM; intro w hM)))
    (refine drawnM_ 3 [(0, false), (1, false), (2, false)] (fun w => Mem w0 w _ _) hM mo (by kernel_rfl) (fun _ h => h) ?_; clear hM; intro w hM; (try (refine rx_move (v := (Value.int _ _ : Value)) rfl rfl rfl ?_; (try (refine rx_loadAM (vs := [_, _]) 0 rfl (fun _ h => h) ag35 rfl rfl rfl rfl rfl ?_; (try (refine rx_assign (v := (Value.int _ _ : Value)) rfl rfl rfl ?_)))))))
    refine rx_nil rfl ?_
    (repeat (first | refine sq_normal ?_ | refine rl_nil ?_ | refine ret_ ?_ | refine np_normal ?_ | (refine rl_storeWM 0 hM ag35 rfl rfl rfl rfl rfl rfl rfl ?_; clear hM; intro w hM)))
    exact bp_x2 rfl rfl (res_tmp rfl) (res_M 0 hM ag35 rfl rfl rfl) ⟨V2, k, 0, 0, _, hV2, hM.dropn 1, rfl, ⟨_, rfl, .inl ⟨rfl, x, hx2, hc⟩⟩, fun _ => ⟨rfl, hk⟩⟩
  · (repeat (first | refine seq_ ?_ | refine sq_normal ?_ | refine rl_nil ?_ | refine rl_assign (v := (Value.int _ _ : Value)) rfl rfl ?_ | refine rl_move (v := (Value.tuple _ : Value)) rfl rfl ?_ | refine rl_extract rfl rfl rfl ?_ | (refine rl_storeWM 3 hM ag26 rfl rfl rfl rfl rfl rfl rfl ?_; clear hM; intro w hM) | (refine rl_storeWM 0 hM ag35 rfl rfl rfl rfl rfl rfl rfl ?_; clear hM; intro w hM)))
    (refine drawnM_ 3 [(0, false), (1, false), (2, false)] (fun w => Mem w0 w _ _) hM mo (by kernel_rfl) (fun _ h => h) ?_; clear hM; intro w hM; (try (refine rx_move (v := (Value.int _ _ : Value)) rfl rfl rfl ?_; (try (refine rx_loadAM (vs := [_, _]) 0 rfl (fun _ h => h) ag35 rfl rfl rfl rfl rfl ?_; (try (refine rx_assign (v := (Value.int _ _ : Value)) rfl rfl rfl ?_)))))))
    refine rx_nil rfl ?_
    (repeat (first | refine sq_normal ?_ | refine rl_nil ?_ | refine ret_ ?_ | refine np_normal ?_ | (refine rl_storeWM 0 hM ag35 rfl rfl rfl rfl rfl rfl rfl ?_; clear hM; intro w hM)))
    exact bp_x2 rfl rfl (res_tmp rfl) (res_M 0 hM ag35 rfl rfl rfl) ⟨V2, 0, e, a, _, hV2, hM.dropn 1, rfl, ⟨_, rfl, .inr ⟨he, hx2, rfl⟩⟩, fun h => absurd h he⟩
/-- A source's type, or its first refusal. -/
def RTP (w0 : World) (L : List Ent) (V : Vw) (x : Except (Int × Int) Ty) (r : Value) (w' : World) : Prop :=
  ∃ V' cs t e a, VLe V V' ∧ Mem w0 w' L V' ∧ r = .tuple #[.agg cs.toArray, pairV e a] ∧ TyV V' t cs ∧ ((x = .ok t ∧ e = 0 ∧ a = 0) ∨ (x = .error (e, a) ∧ e ≠ 0 ∧ cs = zT ∧ t = Ty.z))
theorem WT.le {b : Nat} {V V' : Vw} {X : Ent} {l : List Tok} {k : Nat} {e a : Int} (hV : VLe V V') (h : WT b V X l k e a) : WT b V' X l k e a := by
  obtain ⟨cs, h1, h2⟩ := h
  refine ⟨cs, h1, ?_⟩
  rcases h2 with ⟨h3, t, h4, h5⟩ | h3
  · exact .inl ⟨h3, t, h4, h5.le hV⟩
  · exact .inr h3
theorem WT.shape {b : Nat} {V : Vw} {X : Ent} {l : List Tok} {k : Nat} {e a : Int} (h : WT b V X l k e a) : ∃ t cs, X = .blk b cs 26 ∧ TyV V t cs ∧ ((e = 0 ∧ rd l (fuel l) .whole 0 0 = .ok (t, k)) ∨ (e ≠ 0 ∧ rd l (fuel l) .whole 0 0 = .error (e, a) ∧ cs = zT)) := by
  obtain ⟨cs, h1, h2⟩ := h
  rcases h2 with ⟨h3, t, h4, h5⟩ | ⟨h3, h4, rfl⟩
  · exact ⟨t, cs, h1, h5, .inl ⟨h3, h4⟩⟩
  · exact ⟨Ty.z, zT, h1, tyz, .inr ⟨h3, h4, rfl⟩⟩
theorem readT_fin {s : List UInt8} {l : List Tok} {t : Ty} {k : Nat} {u : Tok} {e a : Int} (h : lexA s = .ok l) (h2 : rd l (fuel l) .whole 0 0 = .ok (t, k)) (h3 : l[k]? = some u) (h4 : (u.k = 6 ∧ e = 0 ∧ a = 0) ∨ (u.k ≠ 6 ∧ e = 12 ∧ a = u.a)) :
    (readT s = .ok t ∧ e = 0 ∧ a = 0) ∨ (readT s = .error (e, a) ∧ e ≠ 0) := by
  rw [readT_k h h2 h3]
  rcases h4 with ⟨h5, rfl, rfl⟩ | ⟨h5, rfl, rfl⟩
  · rw [if_pos h5]; exact .inl ⟨rfl, rfl, rfl⟩
  · rw [if_neg h5]; exact .inr ⟨rfl, by decide⟩
set_option maxHeartbeats 4000000 in
theorem readType_ok (s : List UInt8) (w0 w : World) (L : List Ent) (V : Vw) (hM : Mem w0 w L V) (hs : s.length ≤ 1000000) : CallsOk Tryd.prog 13 #[St s] w (RTP w0 L V (readT s)) := by
  refine enter_ (N := 16) Tryd.func13 rfl rfl rfl ?_
  (repeat (first | refine seq_ ?_ | refine sq_normal ?_ | refine rl_nil ?_ | (refine region_ (id := 0) ?_; (try ((refine rl_allocAM (d := 2) hM ag26 rfl ?_; clear hM; intro w b2 hM); (try ((refine rl_allocAM (d := 3) hM ag35 rfl ?_; clear hM; intro w b3 hM)))))) | (refine region_ (id := 1) ?_; (try ((refine rl_allocAM (d := 4) hM ag26 rfl ?_; clear hM; intro w b4 hM)))) | (refine region_ (id := 2) ?_; (try (refine rl_move (v := (Value.string _ : Value)) rfl rfl ?_; (try (refine rl_mkfunc1 (v1 := Value.pointer (some _)) rfl rfl ?_)))))))
  refine rl_callf fn17 (read_ok 25 fn25 [.pointer (some ⟨b4, 0, none⟩)] s w0 w _ V (.blk b4 zT 26) (WT b4) (fun _ _ _ _ _ _ _ h1 h2 => h2.le h1) hM hs (rtype1_ok b4 w0 _ V)) rfl rfl ?_
  clear hM
  rintro _ w ⟨V1, X', e, a, hV1, hM, rfl, hst⟩
  have key : ∃ t cs, X' = .blk b4 cs 26 ∧ TyV V1 t cs ∧ ((readT s = .ok t ∧ e = 0 ∧ a = 0) ∨ (readT s = .error (e, a) ∧ e ≠ 0)) := by
    rcases hst with ⟨n, hx, rfl, he, rfl⟩ | ⟨l, k, e', a', hx, hW, hst⟩
    · exact ⟨Ty.z, zT, rfl, tyz, .inr ⟨readT_l hx, he⟩⟩
    · obtain ⟨t, cs, rfl, hc, h3⟩ := hW.shape
      refine ⟨t, cs, rfl, hc, ?_⟩
      rcases hst with ⟨h4, rfl, rfl⟩ | ⟨rfl, u, hu, h5⟩
      · rcases h3 with ⟨h5, _⟩ | ⟨_, h5, _⟩
        · exact absurd h5 h4
        · exact .inr ⟨readT_e hx h5, h4⟩
      · rcases h3 with ⟨_, h6⟩ | ⟨h6, _⟩
        · exact readT_fin hx h6 hu h5
        · exact absurd rfl h6
  clear hst
  obtain ⟨t, cs, rfl, hc, hst⟩ := key
  obtain ⟨f1, n1, s1, a1, k1, c1, rfl, _⟩ := id hc.shape
  rcases hst with ⟨hx, rfl, rfl⟩ | ⟨hx, he⟩
  · (repeat (first | refine seq_ ?_ | refine sq_normal ?_ | refine rl_nil ?_ | refine cond_f rfl ?_ | refine skip_ ?_ | refine ret_ ?_ | (refine region_ (id := 3) ?_; (try (refine rl_fld fd35_0 rfl rfl ?_; (try (refine rl_loadM 0 hM vt33 rfl rfl rfl (by first | rfl | assumption) ?_; (try ((refine rl_neq_f rfl rfl rfl ?_ ?_; omega)))))))) | (refine region_ (id := 5) ?_; (try (refine rl_loadAM (vs := [_, _, _, _]) 1 hM ag26 rfl rfl rfl rfl rfl ?_; (try (refine rl_build [(Value.int .i64 0), (Value.int .i64 0)] ag35 pl35 rfl rfl rfl ?_; (try ((refine rl_storeWM 3 hM ag26 rfl rfl rfl rfl rfl rfl rfl ?_; clear hM; intro w hM); (try ((refine rl_storeWM 2 hM ag35 rfl rfl rfl rfl rfl rfl rfl ?_; clear hM; intro w hM)))))))))) | (refine rl_allocAM (d := 5) hM ag35 rfl ?_; clear hM; intro w b5 hM) | (refine rl_storeWM 0 hM ag35 rfl rfl rfl rfl rfl rfl rfl ?_; clear hM; intro w hM)))
    exact bp_x2 rfl rfl (res_M 3 hM ag26 rfl rfl rfl) (res_M 2 hM ag35 rfl rfl rfl) ⟨V1, _, t, 0, 0, hV1, hM.dropn 4, rfl, hc, .inl ⟨hx, rfl, rfl⟩⟩
  · (repeat (first | refine seq_ ?_ | refine sq_normal ?_ | refine rl_nil ?_ | refine cond_t rfl ?_ | (refine region_ (id := 3) ?_; (try (refine rl_fld fd35_0 rfl rfl ?_; (try (refine rl_loadM 0 hM vt33 rfl rfl rfl (by first | rfl | assumption) ?_; (try ((refine rl_neq_t rfl rfl rfl ?_ ?_; omega)))))))) | (refine rl_allocAM (d := 5) hM ag35 rfl ?_; clear hM; intro w b5 hM) | (refine rl_storeWM 0 hM ag35 rfl rfl rfl rfl rfl rfl rfl ?_; clear hM; intro w hM)))
    (refine drawnM_ 3 [(0, false), (1, false), (2, true)] (fun w => Mem w0 w _ _) hM mo (by kernel_rfl) (fun _ h => h) ?_; clear hM; intro w hM; (try (refine rx_build [(Value.int .i64 0), (Value.int .i64 0), (St []), (Value.slice none 0 0)] rfl ag26 pl26 rfl rfl rfl ?_; (try (refine rx_loadAM (vs := [_, _]) 0 rfl (fun _ h => h) ag35 rfl rfl rfl rfl rfl ?_)))))
    refine rx_eff rfl (fun K hK => ?_)
    (repeat (first | refine rl_nil ?_ | (refine rl_storeWM 3 hM ag26 rfl rfl rfl rfl rfl rfl rfl ?_; clear hM; intro w hM)))
    refine kq_normal (hK _ _ hM ?_)
    refine rx_nil rfl ?_
    (repeat (first | refine sq_normal ?_ | refine sq_ret ?_ | refine rl_nil ?_ | refine ret_ ?_ | refine np_normal ?_ | (refine rl_storeWM 2 hM ag35 rfl rfl rfl rfl rfl rfl rfl ?_; clear hM; intro w hM)))
    exact bp_x2 rfl rfl (res_M 3 hM ag26 rfl rfl rfl) (res_M 2 hM ag35 rfl rfl rfl) ⟨V1, _, Ty.z, e, a, hV1, hM.dropn 4, rfl, tyz, .inr ⟨hx, he, rfl, rfl⟩⟩
end Go.Proofs.YtadbinckjmdokaaDoor.Trd
