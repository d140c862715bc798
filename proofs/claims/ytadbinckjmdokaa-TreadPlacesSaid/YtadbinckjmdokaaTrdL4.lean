/- TreadPlaces. -/
import Derived.Test.YtadbinckjmdokaaTrdL3
import Derived.Test.YtadbinckjmdokaaTrdP6
set_option linter.unusedVariables false
set_option linter.unusedSimpArgs false
namespace Go.Proofs.Ytadbinckjmdokaa.Trd
open Go Go.Eng Go.RowKit Go.Tr Go.Lx
attribute [local irreducible] RL RX KQ SQ Exit.inBlock Exit.then BP NP CallsOk IsSl IsRows IsInts IsBools Own Blk Code.wp Calls wpList
def RdS (x : Rs) (t : Ty) (k : Nat) (e a : Int) : Prop := (x = .ok (t, k) ∧ e = 0 ∧ a = 0) ∨ (x = .error (e, a) ∧ k = 0 ∧ t = Ty.z)
theorem RdS.eq {x : Rs} {t t' : Ty} {k k' : Nat} {e a e' a' : Int} (h : RdS x t k e a) (h' : RdS x t' k' e' a') : t = t' ∧ k = k' ∧ e = e' ∧ a = a' := by
  rcases h with ⟨h1, rfl, rfl⟩ | ⟨h1, rfl, rfl⟩ <;> rcases h' with ⟨h2, rfl, rfl⟩ | ⟨h2, rfl, rfl⟩ <;> rw [h1] at h2 <;> cases h2 <;> exact ⟨rfl, rfl, rfl, rfl⟩
theorem RdP.s {w0 w' : World} {L : List Ent} {V : Vw} {n : Nat} {x : Rs} {r : Value} (h : RdP w0 L V n x r w') : ∃ V' cs t, ∃ (k : Nat) (e a : Int), VLe V V' ∧ Mem w0 w' L V' ∧ r = .tuple #[.agg cs.toArray, .int .i64 k, pairV e a] ∧ TyV V' t cs ∧ RdS x t k e a := by
  rcases h with ⟨V', cs, t, k, h1, h2, h3, h4, h5, h6⟩ | ⟨V', e, a, h1, h2, h3, h4, h5⟩
  · exact ⟨V', cs, t, k, 0, 0, h1, h2, h3, h5, .inl ⟨h4, rfl, rfl⟩⟩
  · exact ⟨V', zT, Ty.z, 0, e, a, h1, h2, h3, tyz, .inr ⟨h4, rfl, rfl⟩⟩
theorem XP.s {w0 w' : World} {L : List Ent} {V : Vw} {n : Nat} {x : Rs} {r : Value} (h : XP w0 L V n x r w') : ∃ V' cs t, ∃ (k : Nat) (e a : Int), VLe V V' ∧ Mem w0 w' L V' ∧ r = .agg (xC cs nilS nilS k e a).toArray ∧ TyV V' t cs ∧ RdS x t k e a := by
  rcases h with ⟨V', cs, t, k, h1, h2, h3, h4, h5, h6⟩ | ⟨V', e, a, h1, h2, h3, h4, h5⟩
  · exact ⟨V', cs, t, k, 0, 0, h1, h2, h3, h5, .inl ⟨h4, rfl, rfl⟩⟩
  · exact ⟨V', zT, Ty.z, 0, e, a, h1, h2, h3, tyz, .inr ⟨h4, rfl, rfl⟩⟩
def PsS (x : Except (Int × Int) (List Pd × Nat)) (t : List Pd) (k : Nat) (e a : Int) : Prop := (x = .ok (t, k) ∧ e = 0 ∧ a = 0) ∨ (x = .error (e, a) ∧ k = 0 ∧ t = [])
theorem PsS.eq {x : Except (Int × Int) (List Pd × Nat)} {t t' : List Pd} {k k' : Nat} {e a e' a' : Int} (h : PsS x t k e a) (h' : PsS x t' k' e' a') : t = t' ∧ k = k' ∧ e = e' ∧ a = a' := by
  rcases h with ⟨h1, rfl, rfl⟩ | ⟨h1, rfl, rfl⟩ <;> rcases h' with ⟨h2, rfl, rfl⟩ | ⟨h2, rfl, rfl⟩ <;> rw [h1] at h2 <;> cases h2 <;> exact ⟨rfl, rfl, rfl, rfl⟩
theorem PsP.s {w0 w' : World} {L : List Ent} {V : Vw} {l : List Tok} {n i : Nat} {r : Value} (h : PsP w0 L V n (preds l i) r w') : ∃ V' v t, ∃ (k : Nat) (e a : Int), VLe V V' ∧ Mem w0 w' L V' ∧ r = .tuple #[v, .int .i64 k, pairV e a] ∧ PdSl V' v t ∧ PsS (preds l i) t k e a ∧ t.length ≤ 16 := by
  rcases h with ⟨V', v, t, k, h1, h2, h3, h4, h5, h6⟩ | ⟨V', e, a, h1, h2, h3, h4, h5⟩
  · exact ⟨V', v, t, k, 0, 0, h1, h2, h3, h5, .inl ⟨h4, rfl, rfl⟩, (preds_occ h4).2⟩
  · exact ⟨V', _, [], 0, e, a, h1, h2, h3, PdSl.nil _, .inr ⟨h4, rfl, rfl⟩, by simp⟩
theorem XPs.s {w0 w' : World} {L : List Ent} {V : Vw} {n : Nat} {x : Except (Int × Int) (List Pd × Nat)} {r : Value} (h : XPs w0 L V n x r w') : ∃ V' v t, ∃ (k : Nat) (e a : Int), VLe V V' ∧ Mem w0 w' L V' ∧ r = .agg (xP v k e a).toArray ∧ PdSl V' v t ∧ PsS x t k e a := by
  rcases h with ⟨V', v, t, k, h1, h2, h3, h4, h5, h6⟩ | ⟨V', e, a, h1, h2, h3, h4, h5⟩
  · exact ⟨V', v, t, k, 0, 0, h1, h2, h3, h5, .inl ⟨h4, rfl, rfl⟩⟩
  · exact ⟨V', _, [], 0, e, a, h1, h2, h3, PdSl.nil _, .inr ⟨h4, rfl, rfl⟩⟩
def ScS (x : Except (Int × Int) (Sch × Nat)) (t : Sch) (k : Nat) (e a : Int) : Prop := (x = .ok (t, k) ∧ e = 0 ∧ a = 0) ∨ (x = .error (e, a) ∧ k = 0 ∧ t = schz)
theorem ScS.eq {x : Except (Int × Int) (Sch × Nat)} {t t' : Sch} {k k' : Nat} {e a e' a' : Int} (h : ScS x t k e a) (h' : ScS x t' k' e' a') : t = t' ∧ k = k' ∧ e = e' ∧ a = a' := by
  rcases h with ⟨h1, rfl, rfl⟩ | ⟨h1, rfl, rfl⟩ <;> rcases h' with ⟨h2, rfl, rfl⟩ | ⟨h2, rfl, rfl⟩ <;> rw [h1] at h2 <;> cases h2 <;> exact ⟨rfl, rfl, rfl, rfl⟩
theorem SchP.s {w0 w' : World} {L : List Ent} {V : Vw} {n : Nat} {x : Except (Int × Int) (Sch × Nat)} {r : Value} (hn : n ≤ 1000000) (h : SchP w0 L V n x r w') : ∃ V' cs t, ∃ (k : Nat) (e a : Int), VLe V V' ∧ Mem w0 w' L V' ∧ r = .tuple #[.agg cs.toArray, .int .i64 k, pairV e a] ∧ SchV V' t cs ∧ ScS x t k e a := by
  rcases h with ⟨V', vv, pv, cs, t, k, h1, h2, h3, h4, h5, h6, h7, h8, h9, h10⟩ | ⟨V', e, a, h1, h2, h3, h4, h5⟩
  · exact ⟨V', _, t, k, 0, 0, h1, h2, h3, ⟨_, _, _, rfl, h5, h6, h7, by omega, h10⟩, .inl ⟨h4, rfl, rfl⟩⟩
  · exact ⟨V', _, schz, 0, e, a, h1, h2, h3, SchV.z _, .inr ⟨h4, rfl, rfl⟩⟩
theorem XSch.s {w0 w' : World} {L : List Ent} {V : Vw} {n : Nat} {x : Except (Int × Int) (Sch × Nat)} {r : Value} (hn : n ≤ 1000000) (h : XSch w0 L V n x r w') : ∃ V' vv pv cs t, ∃ (k : Nat) (e a : Int), VLe V V' ∧ Mem w0 w' L V' ∧ r = .agg (xC cs pv vv k e a).toArray ∧ SchV V' t (vv :: .slice none 0 0 :: pv :: cs) ∧ ScS x t k e a := by
  rcases h with ⟨V', vv, pv, cs, t, k, h1, h2, h3, h4, h5, h6, h7, h8, h9, h10⟩ | ⟨V', e, a, h1, h2, h3, h4, h5⟩
  · exact ⟨V', _, _, _, t, k, 0, 0, h1, h2, h3, ⟨_, _, _, rfl, h5, h6, h7, by omega, h10⟩, .inl ⟨h4, rfl, rfl⟩⟩
  · exact ⟨V', _, _, _, schz, 0, e, a, h1, h2, h3, SchV.z _, .inr ⟨h4, rfl, rfl⟩⟩
theorem told {x : Except (Int × Nat) (List Tok)} {l l' : List Tok} {e a : Int} (h : (x = .ok l ∧ e = 0 ∧ a = 0) ∨ (l = [] ∧ e ≠ 0 ∧ ∃ n : Nat, x = .error (e, n) ∧ a = n)) (h' : x = .ok l') : l = l' ∧ e = 0 ∧ a = 0 := by
  rcases h with ⟨h1, h2, h3⟩ | ⟨h1, h2, n, h3, h4⟩
  · rw [h'] at h1; cases h1; exact ⟨rfl, h2, h3⟩
  · rw [h'] at h3; cases h3
set_option maxRecDepth 8000 in
set_option maxHeartbeats 8000000 in
theorem law4 (v : Value) (xs : List Int) (at_ : Int) (w : World) (hI : IsInts w.cell? v xs) (hat : I64 at_) : CallsOk Try.prog 4 #[v, .int .i64 at_] w fun r w' => r = .bool true ∧ Below w.heap.size w w' := by
  have hml := maxLen_le
  have hM := Mem.init w
  obtain ⟨w0, hw0⟩ : ∃ w0, w0 = w := ⟨_, rfl⟩
  obtain ⟨V, hVd⟩ : ∃ V, V = w.cell? := ⟨_, rfl⟩
  rw [← hVd] at hM hI
  have hM : Mem w0 w [] V := by rw [hw0]; exact hM
  have key : CallsOk Try.prog 4 #[v, .int .i64 at_] w fun r w' => r = .bool true ∧ Below w0.heap.size w0 w' := by
    clear hVd hw0
    obtain ⟨_, _, _, _, rfl, _⟩ := id hI.open
    have hsl := srcT_words xs
    obtain ⟨l, hlex⟩ := lex_words (words xs) 0 (words_mem xs)
    have hlex : lexA (srcT (words xs)) = .ok l := by rw [lexA_le (by omega)]; exact hlex
    obtain ⟨hT, hpos, hlen⟩ := lexA_tok hlex
    refine enter_ (N := 177) Try.func4 rfl rfl rfl ?_
    (repeat (first | refine seq_ ?_ | refine sq_normal ?_ | refine rl_nil ?_ | (refine region_ (id := 0) ?_; (try (refine rl_assign (v := (Value.bool _ : Value)) rfl rfl ?_))) | (refine region_ (id := 1) ?_; (try (refine rl_move (v := (Value.slice _ _ _ : Value)) rfl rfl ?_)))))
    refine rl_callf fn13 (source_ok _ xs w0 w _ V hM hI) rfl rfl ?_
    clear hM
    rintro _ w ⟨V1, hV1, hM, rfl⟩
    skip
    refine rl_callf fn12 (lex_ok _ w0 w _ V1 hM (by omega)) rfl rfl ?_
    clear hM
    rintro _ w ⟨V2, v1, l1, e1, a1, hV2, hM, rfl, htk1, ho1⟩
    obtain ⟨rfl, rfl, rfl⟩ := told ho1 hlex
    clear ho1
    obtain ⟨va1, vc1, vb1, vo1, rfl, _⟩ := id htk1
    (repeat (first | refine seq_ ?_ | refine sq_normal ?_ | refine rl_nil ?_ | (refine region_ (id := 2) ?_; (try (refine rl_move (v := (Value.slice _ _ _ : Value)) rfl rfl ?_))) | refine rl_move (v := (Value.tuple _ : Value)) rfl rfl ?_ | refine rl_extract rfl rfl rfl ?_ | (refine rl_allocAM (d := 6) hM ag34 rfl ?_; clear hM; intro w b6 hM) | refine rl_assign (v := (Value.slice _ _ _ : Value)) rfl rfl ?_ | (refine rl_storeWM 0 hM ag34 rfl rfl rfl rfl rfl rfl rfl ?_; clear hM; intro w hM)))
    refine rl_callf fn13 (source_ok _ xs w0 w _ V2 hM ((hI.le hV1).le hV2)) rfl rfl ?_
    clear hM
    rintro _ w ⟨V3, hV3, hM, rfl⟩
    skip
    refine rl_callf fn14 (reflex_ok _ w0 w _ V3 hM (by omega)) rfl rfl ?_
    clear hM
    rintro _ w ⟨V4, v2, l2, e2, a2, hV4, hM, rfl, htk2, ho2⟩
    obtain ⟨rfl, rfl, rfl⟩ := told ho2 hlex
    clear ho2
    obtain ⟨va2, vc2, vb2, vo2, rfl, _⟩ := id htk2
    have htk1 := (htk1.le hV3).le hV4
    (repeat (first | refine seq_ ?_ | refine sq_normal ?_ | refine rl_nil ?_ | refine cond_f rfl ?_ | refine skip_ ?_ | (refine region_ (id := 3) ?_; (try (refine rl_loadAM (vs := [_, _]) 1 hM ag34 rfl rfl rfl rfl rfl ?_; (try (refine rl_build [(Value.int .i64 0), (Value.int .i64 0)] ag34 pl34 rfl rfl rfl ?_; (try (refine rl_aneq_f eq34 rfl rfl rfl rfl rfl (by first | rfl | assumption) ?_; (try (refine rl_move (v := (Value.bool _ : Value)) rfl rfl ?_; (try (refine rl_loadAM (vs := [_, _]) 0 hM ag34 rfl rfl rfl rfl rfl ?_; (try (refine rl_build [(Value.int .i64 0), (Value.int .i64 0)] ag34 pl34 rfl rfl rfl ?_; (try (refine rl_aneq_f eq34 rfl rfl rfl rfl rfl (by first | rfl | assumption) ?_; (try (refine rl_pick (v := (Value.bool _ : Value)) rfl rfl rfl ?_; (try (refine rl_move (v := (Value.bool _ : Value)) rfl rfl ?_; (try (refine rl_move (v := (Value.slice _ _ _ : Value)) rfl rfl ?_; (try (refine rl_len sl43 rfl rfl ?_; (try (refine rl_move (v := (Value.slice _ _ _ : Value)) rfl rfl ?_; (try (refine rl_len sl47 rfl rfl ?_; (try ((refine rl_neq_f rfl rfl rfl ?_ ?_; omega); (try (refine rl_pick (v := (Value.bool _ : Value)) rfl rfl rfl ?_; (try (refine rl_move (v := (Value.bool _ : Value)) rfl rfl ?_; (try (refine rl_move (v := (Value.slice _ _ _ : Value)) rfl rfl ?_; (try (refine rl_len sl43 rfl rfl ?_; (try ((refine rl_eql_f rfl rfl rfl ?_ ?_; omega); (try (refine rl_pick (v := (Value.bool _ : Value)) rfl rfl rfl ?_))))))))))))))))))))))))))))))))))))))))) | (refine region_ (id := 5) ?_; (try (refine rl_move (v := (Value.int _ _ : Value)) rfl rfl ?_; (try (refine rl_move (v := (Value.slice _ _ _ : Value)) rfl rfl ?_; (try (refine rl_len sl43 rfl rfl ?_))))))) | refine rl_move (v := (Value.tuple _ : Value)) rfl rfl ?_ | refine rl_extract rfl rfl rfl ?_ | refine rl_assign (v := (Value.slice _ _ _ : Value)) rfl rfl ?_ | (refine rl_storeWM 0 hM ag34 rfl rfl rfl rfl rfl rfl rfl ?_; clear hM; intro w hM) | (refine rl_allocAM (d := 8) hM ag34 rfl ?_; clear hM; intro w b8 hM)))
    have hM := hM.dropn 2
    have hfew := hT.few
    refine rl_callf fn15 (around_ok at_ l2.length w hat.1 hat.2 (by omega) (by omega)) rfl rfl ?_
    rintro _ w ⟨rfl, rfl⟩
    have hk := around_lt at_ l2.length (by omega)
    obtain ⟨i, hid⟩ : ∃ i : Nat, around at_ l2.length = (i : Int) := ⟨(around at_ l2.length).toNat, by omega⟩
    rw [hid] at hk ⊢
    clear hid
    have hi : i < l2.length := by omega
    have hM : Mem w0 w [] V4 := hM
    (repeat (first | refine seq_ ?_ | refine sq_normal ?_ | refine rl_nil ?_ | (refine region_ (id := 6) ?_; (try (refine rl_move (v := (Value.slice _ _ _ : Value)) rfl rfl ?_; (try (refine rl_move (v := (Value.int _ _ : Value)) rfl rfl ?_))))) | refine rl_assign (v := (Value.int _ _ : Value)) rfl rfl ?_))
    refine rl_callf fn16 (ttype_ok l2 i _ w0 w _ V4 hM htk1 hT hi) rfl rfl ?_
    clear hM
    rintro _ w hres
    obtain ⟨V5, cs, t, k, e, a, hV5, hM, rfl, hc, hst⟩ := hres.s
    clear hres
    obtain ⟨f1, n1, s1, ad1, k1, c1, rfl, _⟩ := id hc.shape
    (repeat (first | refine seq_ ?_ | refine sq_normal ?_ | refine rl_nil ?_ | (refine region_ (id := 7) ?_; (try (refine rl_move (v := (Value.slice _ _ _ : Value)) rfl rfl ?_; (try (refine rl_move (v := (Value.int _ _ : Value)) rfl rfl ?_))))) | refine rl_move (v := (Value.tuple _ : Value)) rfl rfl ?_ | refine rl_extract rfl rfl rfl ?_ | (refine rl_storeWM 0 hM ag34 rfl rfl rfl rfl rfl rfl rfl ?_; clear hM; intro w hM) | refine rl_assign (v := (Value.int _ _ : Value)) rfl rfl ?_ | (refine rl_allocAM (d := 10) hM ag29 rfl ?_; clear hM; intro w b10 hM) | (refine rl_allocAM (d := 12) hM ag34 rfl ?_; clear hM; intro w b12 hM) | (refine rl_storeWM 1 hM ag29 rfl rfl rfl rfl rfl rfl rfl ?_; clear hM; intro w hM)))
    refine rl_callf fn17 ((rboth_ok _ _ (Nat.le_refl (fuel l2))).2 l2 i 0 _ w0 w _ V5 hM (htk2.le hV5) hT hi (by omega) (by unfold fuel; omega)) rfl rfl ?_
    clear hM
    rintro _ w hres
    obtain ⟨V6, ds, t', k', e', a', hV6, hM, rfl, hd, hst'⟩ := hres.s
    clear hres
    obtain ⟨rfl, rfl, rfl, rfl⟩ := hst.eq hst'
    obtain ⟨f2, n2, s2, ad2, k2, c2, rfl, _⟩ := id hd.shape
    clear hst hst'
    (repeat (first | refine seq_ ?_ | refine sq_normal ?_ | refine rl_nil ?_ | (refine region_ (id := 8) ?_; (try (refine rl_move (v := (Value.int _ _ : Value)) rfl rfl ?_; (try (refine rl_fld fd38_3 rfl rfl ?_; (try (refine rl_loadM 0 hM vt3 rfl rfl rfl (by first | rfl | assumption) ?_; (try ((refine rl_neq_f rfl rfl rfl ?_ ?_; omega); (try (refine rl_move (v := (Value.bool _ : Value)) rfl rfl ?_; (try (refine rl_loadAM (vs := [_, _]) 1 hM ag34 rfl rfl rfl rfl rfl ?_; (try (refine rl_fld fd38_4 rfl rfl ?_; (try (refine rl_loadAM (vs := [_, _]) 0 hM ag34 rfl rfl rfl rfl rfl ?_; (try (refine rl_aneq_f eq34 rfl rfl rfl rfl rfl (by first | rfl | assumption) ?_; (try (refine rl_pick (v := (Value.bool _ : Value)) rfl rfl rfl ?_; (try (refine rl_move (v := (Value.bool _ : Value)) rfl rfl ?_; (try (refine rl_loadAM (vs := [_, _, _, _]) 2 hM ag29 rfl rfl rfl rfl rfl ?_; (try (refine rl_fld fd38_0 rfl rfl ?_; (try (refine rl_loadAM (vs := [_, _, _, _]) 0 hM ag29 rfl rfl rfl rfl rfl ?_))))))))))))))))))))))))))))) | (refine rl_allocAM (d := 13) hM ag38 rfl ?_; clear hM; intro w b13 hM) | (refine rl_storeWM 0 hM ag38 rfl rfl rfl rfl rfl rfl rfl ?_; clear hM; intro w hM)))
    refine rl_callf fn18 (equal_ok _ t _ _ (Nat.lt_succ_self _) w0 w _ V6 hM (hc.le hV6) hd) rfl rfl ?_
    clear hM
    rintro _ w ⟨rfl, hM⟩
    have hM : Mem w0 w [] V6 := hM.dropn 3
    clear hc hd
    (repeat (first | refine seq_ ?_ | refine sq_normal ?_ | refine rl_nil ?_ | refine cond_f rfl ?_ | refine skip_ ?_ | (refine region_ (id := 10) ?_; (try (refine rl_move (v := (Value.slice _ _ _ : Value)) rfl rfl ?_; (try (refine rl_move (v := (Value.int _ _ : Value)) rfl rfl ?_))))) | refine rl_pick (v := (Value.bool _ : Value)) rfl rfl rfl ?_ | refine rl_not rfl rfl ?_))
    refine rl_callf fn19 (tatom_ok l2 i _ w0 w _ V6 hM ((htk1.le hV5).le hV6) hT hi) rfl rfl ?_
    clear hM
    rintro _ w hres
    obtain ⟨V7, cs, t, k, e, a, hV7, hM, rfl, hc, hst⟩ := hres.s
    clear hres
    obtain ⟨f1, n1, s1, ad1, k1, c1, rfl, _⟩ := id hc.shape
    (repeat (first | refine seq_ ?_ | refine sq_normal ?_ | refine rl_nil ?_ | (refine region_ (id := 11) ?_; (try (refine rl_move (v := (Value.slice _ _ _ : Value)) rfl rfl ?_; (try (refine rl_move (v := (Value.int _ _ : Value)) rfl rfl ?_))))) | refine rl_move (v := (Value.tuple _ : Value)) rfl rfl ?_ | refine rl_extract rfl rfl rfl ?_ | (refine rl_storeWM 0 hM ag34 rfl rfl rfl rfl rfl rfl rfl ?_; clear hM; intro w hM) | refine rl_assign (v := (Value.int _ _ : Value)) rfl rfl ?_ | (refine rl_storeWM 1 hM ag29 rfl rfl rfl rfl rfl rfl rfl ?_; clear hM; intro w hM) | (refine rl_allocAM (d := 14) hM ag29 rfl ?_; clear hM; intro w b14 hM) | (refine rl_allocAM (d := 16) hM ag34 rfl ?_; clear hM; intro w b16 hM)))
    refine rl_callf fn20 ((rboth_ok _ _ (Nat.le_refl (fuel l2))).1 l2 i 0 _ w0 w _ V7 hM (((htk2.le hV5).le hV6).le hV7) hT hi (by omega) (by unfold fuel; omega)) rfl rfl ?_
    clear hM
    rintro _ w hres
    obtain ⟨V8, ds, t', k', e', a', hV8, hM, rfl, hd, hst'⟩ := hres.s
    clear hres
    obtain ⟨rfl, rfl, rfl, rfl⟩ := hst.eq hst'
    obtain ⟨f2, n2, s2, ad2, k2, c2, rfl, _⟩ := id hd.shape
    clear hst hst'
    (repeat (first | refine seq_ ?_ | refine sq_normal ?_ | refine rl_nil ?_ | (refine region_ (id := 12) ?_; (try (refine rl_move (v := (Value.int _ _ : Value)) rfl rfl ?_; (try (refine rl_fld fd38_3 rfl rfl ?_; (try (refine rl_loadM 0 hM vt3 rfl rfl rfl (by first | rfl | assumption) ?_; (try ((refine rl_neq_f rfl rfl rfl ?_ ?_; omega); (try (refine rl_move (v := (Value.bool _ : Value)) rfl rfl ?_; (try (refine rl_loadAM (vs := [_, _]) 1 hM ag34 rfl rfl rfl rfl rfl ?_; (try (refine rl_fld fd38_4 rfl rfl ?_; (try (refine rl_loadAM (vs := [_, _]) 0 hM ag34 rfl rfl rfl rfl rfl ?_; (try (refine rl_aneq_f eq34 rfl rfl rfl rfl rfl (by first | rfl | assumption) ?_; (try (refine rl_pick (v := (Value.bool _ : Value)) rfl rfl rfl ?_; (try (refine rl_move (v := (Value.bool _ : Value)) rfl rfl ?_; (try (refine rl_loadAM (vs := [_, _, _, _]) 2 hM ag29 rfl rfl rfl rfl rfl ?_; (try (refine rl_fld fd38_0 rfl rfl ?_; (try (refine rl_loadAM (vs := [_, _, _, _]) 0 hM ag29 rfl rfl rfl rfl rfl ?_))))))))))))))))))))))))))))) | (refine rl_storeWM 0 hM ag38 rfl rfl rfl rfl rfl rfl rfl ?_; clear hM; intro w hM) | (refine rl_allocAM (d := 17) hM ag38 rfl ?_; clear hM; intro w b17 hM)))
    refine rl_callf fn18 (equal_ok _ t _ _ (Nat.lt_succ_self _) w0 w _ V8 hM (hc.le hV8) hd) rfl rfl ?_
    clear hM
    rintro _ w ⟨rfl, hM⟩
    have hM : Mem w0 w [] V8 := hM.dropn 3
    clear hc hd
    have htk1 := (((htk1.le hV5).le hV6).le hV7).le hV8
    have htk2 := (((htk2.le hV5).le hV6).le hV7).le hV8
    (repeat (first | refine seq_ ?_ | refine sq_normal ?_ | refine rl_nil ?_ | refine cond_f rfl ?_ | refine skip_ ?_ | (refine region_ (id := 14) ?_; (try (refine rl_move (v := (Value.slice _ _ _ : Value)) rfl rfl ?_; (try (refine rl_move (v := (Value.int _ _ : Value)) rfl rfl ?_))))) | refine rl_pick (v := (Value.bool _ : Value)) rfl rfl rfl ?_ | refine rl_not rfl rfl ?_))
    refine rl_callf fn21 (preds_ok l2 i _ w0 w _ V8 hM htk1 hT hi) rfl rfl ?_
    clear hM
    rintro _ w hres
    obtain ⟨V9, pv, ps, k, e, a, hV9, hM, rfl, hps, hst, hpl⟩ := hres.s
    clear hres
    obtain ⟨pa, pc, rfl, _⟩ := id hps.open'
    (repeat (first | refine seq_ ?_ | refine sq_normal ?_ | refine rl_nil ?_ | (refine region_ (id := 15) ?_; (try (refine rl_move (v := (Value.slice _ _ _ : Value)) rfl rfl ?_; (try (refine rl_move (v := (Value.int _ _ : Value)) rfl rfl ?_))))) | refine rl_move (v := (Value.tuple _ : Value)) rfl rfl ?_ | refine rl_extract rfl rfl rfl ?_ | refine rl_assign (v := (Value.slice _ _ _ : Value)) rfl rfl ?_ | (refine rl_storeWM 0 hM ag34 rfl rfl rfl rfl rfl rfl rfl ?_; clear hM; intro w hM) | refine rl_assign (v := (Value.int _ _ : Value)) rfl rfl ?_ | (refine rl_allocAM (d := 20) hM ag34 rfl ?_; clear hM; intro w b20 hM)))
    refine rl_callf fn22 (rpreds_ok l2 i _ w0 w _ V9 hM (htk2.le hV9) hT hi) rfl rfl ?_
    clear hM
    rintro _ w hres
    obtain ⟨V10, pv', ps', k', e', a', hV10, hM, rfl, hps', hst'⟩ := hres.s
    clear hres
    obtain ⟨rfl, rfl, rfl, rfl⟩ := hst.eq hst'
    obtain ⟨pa', pc', rfl, _⟩ := id hps'.open'
    clear hst hst'
    (repeat (first | refine seq_ ?_ | refine sq_normal ?_ | refine rl_nil ?_ | (refine region_ (id := 16) ?_; (try (refine rl_move (v := (Value.int _ _ : Value)) rfl rfl ?_; (try (refine rl_fld fd38_3 rfl rfl ?_; (try (refine rl_loadM 0 hM vt3 rfl rfl rfl (by first | rfl | assumption) ?_; (try ((refine rl_neq_f rfl rfl rfl ?_ ?_; omega); (try (refine rl_move (v := (Value.bool _ : Value)) rfl rfl ?_; (try (refine rl_loadAM (vs := [_, _]) 1 hM ag34 rfl rfl rfl rfl rfl ?_; (try (refine rl_fld fd38_4 rfl rfl ?_; (try (refine rl_loadAM (vs := [_, _]) 0 hM ag34 rfl rfl rfl rfl rfl ?_; (try (refine rl_aneq_f eq34 rfl rfl rfl rfl rfl (by first | rfl | assumption) ?_; (try (refine rl_pick (v := (Value.bool _ : Value)) rfl rfl rfl ?_; (try (refine rl_move (v := (Value.bool _ : Value)) rfl rfl ?_; (try (refine rl_move (v := (Value.slice _ _ _ : Value)) rfl rfl ?_; (try (refine rl_fld fd38_1 rfl rfl ?_; (try (refine rl_loadM 0 hM vt26 rfl rfl rfl (by first | rfl | assumption) ?_))))))))))))))))))))))))))))) | (refine rl_storeWM 0 hM ag38 rfl rfl rfl rfl rfl rfl rfl ?_; clear hM; intro w hM) | (refine rl_allocAM (d := 21) hM ag38 rfl ?_; clear hM; intro w b21 hM)))
    refine rl_callf fn23 (samePreds_ok ps _ _ w0 w _ V10 hM (hps.le hV10) hps' (by omega)) rfl rfl ?_
    clear hM
    rintro _ w ⟨rfl, hM⟩
    have hM : Mem w0 w [] V10 := hM.dropn 2
    clear hps hps'
    have htk1 := (htk1.le hV9).le hV10
    have htk2 := (htk2.le hV9).le hV10
    (repeat (first | refine seq_ ?_ | refine sq_normal ?_ | refine rl_nil ?_ | refine cond_f rfl ?_ | refine skip_ ?_ | (refine region_ (id := 18) ?_; (try (refine rl_move (v := (Value.slice _ _ _ : Value)) rfl rfl ?_; (try (refine rl_move (v := (Value.int _ _ : Value)) rfl rfl ?_))))) | refine rl_pick (v := (Value.bool _ : Value)) rfl rfl rfl ?_ | refine rl_not rfl rfl ?_))
    refine rl_callf fn24 (tscheme_ok l2 i _ w0 w _ V10 hM htk1 hT hi) rfl rfl ?_
    clear hM
    rintro _ w hres
    obtain ⟨V11, cs, sc, k, e, a, hV11, hM, rfl, hsc, hst⟩ := hres.s hfew
    clear hres
    obtain ⟨va, vc, pa, pc, f1, n1, s1, a1, k1, c1, hsh⟩ := id hsc.shape
    subst hsh
    (repeat (first | refine seq_ ?_ | refine sq_normal ?_ | refine rl_nil ?_ | (refine region_ (id := 19) ?_; (try (refine rl_move (v := (Value.slice _ _ _ : Value)) rfl rfl ?_; (try (refine rl_move (v := (Value.int _ _ : Value)) rfl rfl ?_))))) | refine rl_move (v := (Value.tuple _ : Value)) rfl rfl ?_ | refine rl_extract rfl rfl rfl ?_ | (refine rl_storeWM 0 hM ag34 rfl rfl rfl rfl rfl rfl rfl ?_; clear hM; intro w hM) | refine rl_assign (v := (Value.int _ _ : Value)) rfl rfl ?_ | (refine rl_allocAM (d := 22) hM ag31 rfl ?_; clear hM; intro w b22 hM) | (refine rl_allocAM (d := 24) hM ag34 rfl ?_; clear hM; intro w b24 hM) | (refine rl_storeWM 1 hM ag31 rfl rfl rfl rfl rfl rfl rfl ?_; clear hM; intro w hM)))
    refine rl_callf fn25 (rscheme_ok l2 i _ w0 w _ V11 hM (htk2.le hV11) hT hi) rfl rfl ?_
    clear hM
    rintro _ w hres
    obtain ⟨V12, vv, pv, ds, sc', k', e', a', hV12, hM, rfl, hd, hst'⟩ := hres.s hfew
    clear hres
    obtain ⟨rfl, rfl, rfl, rfl⟩ := hst.eq hst'
    obtain ⟨va2, vc2, pa2, pc2, f2, n2, s2, a2, k2, c2, hsh⟩ := id hd.shape
    cases hsh
    clear hst hst'
    (repeat (first | refine seq_ ?_ | refine sq_normal ?_ | refine rl_nil ?_ | (refine region_ (id := 20) ?_; (try (refine rl_move (v := (Value.int _ _ : Value)) rfl rfl ?_; (try (refine rl_fld fd38_3 rfl rfl ?_; (try (refine rl_loadM 0 hM vt3 rfl rfl rfl (by first | rfl | assumption) ?_; (try ((refine rl_eql_t rfl rfl rfl ?_ ?_; omega); (try (refine rl_move (v := (Value.bool _ : Value)) rfl rfl ?_; (try (refine rl_loadAM (vs := [_, _]) 1 hM ag34 rfl rfl rfl rfl rfl ?_; (try (refine rl_fld fd38_4 rfl rfl ?_; (try (refine rl_loadAM (vs := [_, _]) 0 hM ag34 rfl rfl rfl rfl rfl ?_; (try (refine rl_aeql_t eq34 rfl rfl rfl rfl rfl (by first | rfl | assumption) ?_; (try (refine rl_pick (v := (Value.bool _ : Value)) rfl rfl rfl ?_; (try (refine rl_move (v := (Value.bool _ : Value)) rfl rfl ?_; (try (refine rl_loadAM (vs := [_, _, _, _, _, _, _]) 2 hM ag31 rfl rfl rfl rfl rfl ?_; (try (refine rl_fld fd38_2 rfl rfl ?_; (try (refine rl_loadM 0 hM vt23 rfl rfl rfl (by first | rfl | assumption) ?_; (try (refine rl_fld fd38_1 rfl rfl ?_; (try (refine rl_loadM 0 hM vt26 rfl rfl rfl (by first | rfl | assumption) ?_; (try (refine rl_fld fd38_0 rfl rfl ?_; (try (refine rl_loadAM (vs := [_, _, _, _]) 0 hM ag29 rfl rfl rfl rfl rfl ?_; (try (refine rl_build [_, (Value.slice none 0 0), _, _, _, _, _] ag31 pl31 rfl rfl rfl ?_))))))))))))))))))))))))))))))))))))))) | (refine rl_storeWM 0 hM ag38 rfl rfl rfl rfl rfl rfl rfl ?_; clear hM; intro w hM) | (refine rl_allocAM (d := 25) hM ag38 rfl ?_; clear hM; intro w b25 hM)))
    refine rl_callf fn10 (sameSchV_ok sc [.slice va sc.vars.length vc, .slice none 0 0, .slice pa sc.preds.length pc, .int .i64 f1, .int .i64 n1, St s1, .slice a1 k1 c1] [.slice va2 sc.vars.length vc2, .slice none 0 0, .slice pa2 sc.preds.length pc2, .int .i64 f2, .int .i64 n2, St s2, .slice a2 k2 c2] w0 w _ V12 hM (hsc.le hV12) hd) rfl rfl ?_
    clear hM
    rintro _ w ⟨rfl, hM⟩
    (repeat (first | refine rl_move (v := (Value.bool _ : Value)) rfl rfl ?_ | refine rl_pick (v := (Value.bool _ : Value)) rfl rfl rfl ?_))
    refine rl_callf fn11 (lives_ok w0 w _ V12 hM) rfl rfl ?_
    clear hM
    rintro _ w ⟨rfl, hM⟩
    (repeat (first | refine sq_normal ?_ | refine rl_nil ?_ | refine ret_ ?_ | refine rl_assign (v := (Value.bool _ : Value)) rfl rfl ?_ | refine rl_pick (v := (Value.bool _ : Value)) rfl rfl rfl ?_))
    exact bp_ret1 (v := Value.bool _) rfl rfl ⟨rfl, hM.below⟩
  rw [hw0] at key
  exact key
end Go.Proofs.Ytadbinckjmdokaa.Trd
