/- The walks of tread.atom, whole. -/
import Derived.Test.YtadbinckjmdokaaDoorDrdW2
set_option linter.unusedVariables false
set_option linter.unusedSimpArgs false
namespace Go.Proofs.YtadbinckjmdokaaDoor.Trd
open Go Go.Eng Go.RowKit Go.Tr Go.Lx
attribute [local irreducible] RL RX KQ SQ Exit.inBlock Exit.then BP NP CallsOk IsSl IsRows IsInts IsBools Own Blk Code.wp Calls wpList
abbrev tC (t : Tok) : List Value := [.int .i64 t.k, St t.s, .int .i64 t.n, .int .i64 t.a]
abbrev pairV (e a : Int) : Value := .agg #[.int .i64 e, .int .i64 a]
/-- What is read from a place on, told: a type and the place behind it, or a refusal. -/
def RdP (w0 : World) (L : List Ent) (V : Vw) (n : Nat) (x : Rs) (r : Value) (w' : World) : Prop :=
  (∃ V' cs t, ∃ k : Nat, VLe V V' ∧ Mem w0 w' L V' ∧ r = .tuple #[.agg cs.toArray, .int .i64 k, pairV 0 0] ∧ x = .ok (t, k) ∧ TyV V' t cs ∧ k < n) ∨
  (∃ V' e a, VLe V V' ∧ Mem w0 w' L V' ∧ r = .tuple #[.agg zT.toArray, .int .i64 0, pairV e a] ∧ x = .error (e, a) ∧ e ≠ 0)
def AtomC (f : Nat) : Prop := ∀ (l : List Tok) (i op : Nat) (v : Value) (w0 w : World) (L : List Ent) (V : Vw), Mem w0 w L V → IsTk V v l → TOk l → i < l.length → op ≤ 40 → 3 * (l.length - i) + 1 ≤ f →
  CallsOk Tryd.prog 54 #[v, .int .i64 i, .int .i64 op] w (RdP w0 L V l.length (rd l f .atom i op))
def WholeC (f : Nat) : Prop := ∀ (l : List Tok) (i op : Nat) (v : Value) (w0 w : World) (L : List Ent) (V : Vw), Mem w0 w L V → IsTk V v l → TOk l → i < l.length → op ≤ 40 → 3 * (l.length - i) + 2 ≤ f →
  CallsOk Tryd.prog 41 #[v, .int .i64 i, .int .i64 op] w (RdP w0 L V l.length (rd l f .whole i op))
theorem tyz {V : Vw} : TyV V Ty.z zT := TyV.hlf (by decide) (by decide) i64z (by decide)
set_option maxRecDepth 4000 in
set_option maxHeartbeats 4000000 in
theorem atom_ok (f : Nat) (ih : WholeC f) : AtomC (f + 1) := by
  intro l i op v w0 w L V hM hl hT hi ho hf
  obtain ⟨va, vc, vb, vo, rfl, g1, g2, g3, g4⟩ := id hl
  have g3' := g3 (by omega)
  subst g3'
  have hfew := hT.few
  have hml := maxLen_le
  obtain ⟨t, ht⟩ : ∃ t, l[i]? = some t := ⟨_, List.getElem?_eq_getElem hi⟩
  have hr : VRow V vb (vo + i * 4) (tC t) := g4 i t ht
  obtain ⟨hn4, hkI, hnI, haI, hsl⟩ := hT.sane t (List.mem_of_getElem? ht)
  refine enter_ (N := 83) Tryd.func54 rfl rfl rfl ?_
  by_cases h2 : t.k = 2
  · have hmore := hT.more i t ht (by omega)
    (repeat (first | refine seq_ ?_ | refine sq_normal ?_ | refine rl_nil ?_ | refine cond_t rfl ?_ | refine block_ ?_ | (refine region_ (id := 0) ?_; (try ((refine rl_allocAM (d := 6) hM ag26 rfl ?_; clear hM; intro w b6 hM); (try (refine rl_assign (v := (Value.int _ _ : Value)) rfl rfl ?_; (try ((refine rl_allocAM (d := 8) hM ag35 rfl ?_; clear hM; intro w b8 hM)))))))) | (refine region_ (id := 1) ?_; (try (refine rl_move (v := (Value.slice _ _ _ : Value)) rfl rfl ?_; (try (refine rl_move (v := (Value.int _ _ : Value)) rfl rfl ?_; (try ((refine rl_idx sl52 rfl rfl rfl rfl ?_ ?_ ?_; omega; omega); (try (refine rl_loadAV hM ag70 rfl rfl (by assumption) (by rfl) ?_; (try ((refine rl_allocAM (d := 9) hM ag70 rfl ?_; clear hM; intro w b9 hM); (try ((refine rl_storeWM 0 hM ag70 rfl rfl rfl rfl rfl rfl rfl ?_; clear hM; intro w hM)))))))))))))) | (refine region_ (id := 2) ?_; (try (refine rl_fld fd70_0 rfl rfl ?_; (try (refine rl_loadM 0 hM vt3 rfl rfl rfl (by first | rfl | assumption) ?_; (try ((refine rl_eql_t rfl rfl rfl ?_ ?_; omega); (try (refine rl_assign (v := (Value.bool _ : Value)) rfl rfl ?_))))))))) | (refine region_ (id := 3) ?_; (try (refine rl_fld fd70_1 rfl rfl ?_; (try (refine rl_loadM 0 hM vt9 rfl rfl rfl (by first | rfl | assumption) ?_)))))))
    refine rl_callf fn67 (con_ok t.s w0 w _ V hM hsl) rfl rfl ?_
    clear hM
    rintro _ w ⟨V1, cs, hV1, hM, rfl, hc⟩
    obtain ⟨f1, n1, s1, a1, k1, c1, rfl, _⟩ := id hc.shape
    (repeat (first | refine sq_normal ?_ | refine sq_ret ?_ | refine rl_nil ?_ | refine ret_ ?_ | refine inBlock_ret ?_ | refine rl_assign (v := (Value.int _ _ : Value)) rfl rfl ?_ | refine rl_move (v := (Value.int _ _ : Value)) rfl rfl ?_ | (refine rl_add rfl rfl rfl ?_ ?_ ?_; omega; omega) | refine rl_build [(Value.int .i64 0), (Value.int .i64 0)] ag35 pl35 rfl rfl rfl ?_ | (refine rl_storeWM 2 hM ag26 rfl rfl rfl rfl rfl rfl rfl ?_; clear hM; intro w hM) | (refine rl_storeWM 1 hM ag35 rfl rfl rfl rfl rfl rfl rfl ?_; clear hM; intro w hM)))
    exact bp_x3 rfl rfl (res_M 2 hM ag26 rfl rfl rfl) (res_tmp rfl) (res_M 1 hM ag35 rfl rfl rfl) (.inl ⟨V1, _, .con t.s, i + 1, hV1, hM.dropn 3, rfl, rd_con ht h2, hc, hmore⟩)
  by_cases h1 : t.k = 1
  · have hmore := hT.more i t ht (by omega)
    (repeat (first | refine seq_ ?_ | refine sq_normal ?_ | refine rl_nil ?_ | refine cond_t rfl ?_ | refine cond_f rfl ?_ | refine block_ ?_ | (refine region_ (id := 0) ?_; (try ((refine rl_allocAM (d := 6) hM ag26 rfl ?_; clear hM; intro w b6 hM); (try (refine rl_assign (v := (Value.int _ _ : Value)) rfl rfl ?_; (try ((refine rl_allocAM (d := 8) hM ag35 rfl ?_; clear hM; intro w b8 hM)))))))) | (refine region_ (id := 1) ?_; (try (refine rl_move (v := (Value.slice _ _ _ : Value)) rfl rfl ?_; (try (refine rl_move (v := (Value.int _ _ : Value)) rfl rfl ?_; (try ((refine rl_idx sl52 rfl rfl rfl rfl ?_ ?_ ?_; omega; omega); (try (refine rl_loadAV hM ag70 rfl rfl (by assumption) (by rfl) ?_; (try ((refine rl_allocAM (d := 9) hM ag70 rfl ?_; clear hM; intro w b9 hM); (try ((refine rl_storeWM 0 hM ag70 rfl rfl rfl rfl rfl rfl rfl ?_; clear hM; intro w hM)))))))))))))) | (refine region_ (id := 2) ?_; (try (refine rl_fld fd70_0 rfl rfl ?_; (try (refine rl_loadM 0 hM vt3 rfl rfl rfl (by first | rfl | assumption) ?_; (try ((refine rl_eql_f rfl rfl rfl ?_ ?_; omega); (try (refine rl_assign (v := (Value.bool _ : Value)) rfl rfl ?_))))))))) | (refine region_ (id := 4) ?_; (try (refine rl_fld fd70_0 rfl rfl ?_; (try (refine rl_loadM 0 hM vt3 rfl rfl rfl (by first | rfl | assumption) ?_; (try ((refine rl_eql_t rfl rfl rfl ?_ ?_; omega); (try (refine rl_assign (v := (Value.bool _ : Value)) rfl rfl ?_))))))))) | (refine region_ (id := 5) ?_; (try (refine rl_fld fd70_1 rfl rfl ?_; (try (refine rl_loadM 0 hM vt9 rfl rfl rfl (by first | rfl | assumption) ?_)))))))
    refine rl_callf fn68 (var_ok t.s w0 w _ V hM hsl) rfl rfl ?_
    clear hM
    rintro _ w ⟨V1, cs, hV1, hM, rfl, hc⟩
    obtain ⟨f1, n1, s1, a1, k1, c1, rfl, _⟩ := id hc.shape
    (repeat (first | refine sq_normal ?_ | refine sq_ret ?_ | refine rl_nil ?_ | refine ret_ ?_ | refine inBlock_ret ?_ | refine rl_assign (v := (Value.int _ _ : Value)) rfl rfl ?_ | refine rl_move (v := (Value.int _ _ : Value)) rfl rfl ?_ | (refine rl_add rfl rfl rfl ?_ ?_ ?_; omega; omega) | refine rl_build [(Value.int .i64 0), (Value.int .i64 0)] ag35 pl35 rfl rfl rfl ?_ | (refine rl_storeWM 2 hM ag26 rfl rfl rfl rfl rfl rfl rfl ?_; clear hM; intro w hM) | (refine rl_storeWM 1 hM ag35 rfl rfl rfl rfl rfl rfl rfl ?_; clear hM; intro w hM)))
    exact bp_x3 rfl rfl (res_M 2 hM ag26 rfl rfl rfl) (res_tmp rfl) (res_M 1 hM ag35 rfl rfl rfl) (.inl ⟨V1, _, .var t.s, i + 1, hV1, hM.dropn 3, rfl, rd_var ht h1, hc, hmore⟩)
  (repeat (first | refine seq_ ?_ | refine sq_normal ?_ | refine rl_nil ?_ | refine cond_f rfl ?_ | refine block_ ?_ | (refine region_ (id := 0) ?_; (try ((refine rl_allocAM (d := 6) hM ag26 rfl ?_; clear hM; intro w b6 hM); (try (refine rl_assign (v := (Value.int _ _ : Value)) rfl rfl ?_; (try ((refine rl_allocAM (d := 8) hM ag35 rfl ?_; clear hM; intro w b8 hM)))))))) | (refine region_ (id := 1) ?_; (try (refine rl_move (v := (Value.slice _ _ _ : Value)) rfl rfl ?_; (try (refine rl_move (v := (Value.int _ _ : Value)) rfl rfl ?_; (try ((refine rl_idx sl52 rfl rfl rfl rfl ?_ ?_ ?_; omega; omega); (try (refine rl_loadAV hM ag70 rfl rfl (by assumption) (by rfl) ?_; (try ((refine rl_allocAM (d := 9) hM ag70 rfl ?_; clear hM; intro w b9 hM); (try ((refine rl_storeWM 0 hM ag70 rfl rfl rfl rfl rfl rfl rfl ?_; clear hM; intro w hM)))))))))))))) | (refine region_ (id := 2) ?_; (try (refine rl_fld fd70_0 rfl rfl ?_; (try (refine rl_loadM 0 hM vt3 rfl rfl rfl (by first | rfl | assumption) ?_; (try ((refine rl_eql_f rfl rfl rfl ?_ ?_; omega); (try (refine rl_assign (v := (Value.bool _ : Value)) rfl rfl ?_))))))))) | (refine region_ (id := 4) ?_; (try (refine rl_fld fd70_0 rfl rfl ?_; (try (refine rl_loadM 0 hM vt3 rfl rfl rfl (by first | rfl | assumption) ?_; (try ((refine rl_eql_f rfl rfl rfl ?_ ?_; omega); (try (refine rl_assign (v := (Value.bool _ : Value)) rfl rfl ?_))))))))) | (refine region_ (id := 6) ?_; (try (refine rl_loadAM (vs := [_, _, _, _]) 0 hM ag70 rfl rfl rfl rfl rfl ?_)))))
  refine rl_callf fn50 (is_ok t [40] w0 w _ V hM hn4) rfl rfl ?_
  clear hM
  rintro _ w ⟨rfl, hM⟩
  cases h3 : sym [40] t with
  | false =>
    (repeat (first | refine seq_ ?_ | refine sq_normal ?_ | refine rl_nil ?_ | refine cond_t rfl ?_ | (refine region_ (id := 7) ?_; (try (refine rl_build [(Value.int .i64 0), (Value.int .i64 0), (St []), (Value.slice none 0 0)] ag26 pl26 rfl rfl rfl ?_; (try (refine rl_loadAM (vs := [_, _, _, _]) 0 hM ag70 rfl rfl rfl rfl rfl ?_))))) | refine rl_assign (v := (Value.bool _ : Value)) rfl rfl ?_ | refine rl_not rfl rfl ?_))
    refine rl_callf fn32 (refuse_ok t 12 w0 w _ V hM) rfl rfl ?_
    clear hM
    rintro _ w ⟨rfl, hM⟩
    (repeat (first | refine sq_normal ?_ | refine sq_ret ?_ | refine rl_nil ?_ | refine ret_ ?_ | refine inBlock_ret ?_ | refine rl_assign (v := (Value.int _ _ : Value)) rfl rfl ?_ | (refine rl_storeWM 2 hM ag26 rfl rfl rfl rfl rfl rfl rfl ?_; clear hM; intro w hM) | (refine rl_storeWM 1 hM ag35 rfl rfl rfl rfl rfl rfl rfl ?_; clear hM; intro w hM)))
    exact bp_x3 rfl rfl (res_M 2 hM ag26 rfl rfl rfl) (res_tmp rfl) (res_M 1 hM ag35 rfl rfl rfl) (.inr ⟨V, 12, t.a, VLe.refl _, hM.dropn 3, rfl, rd_not ht h2 h1 h3, by decide⟩)
  | true =>
    have hk4 := sym_k h3
    have hmore := hT.more i t ht (by omega)
    by_cases ho40 : op = 40
    · have ho' : (op : Int) = 40 := by omega
      (repeat (first | refine seq_ ?_ | refine sq_normal ?_ | refine rl_nil ?_ | refine cond_t rfl ?_ | refine cond_f rfl ?_ | (refine region_ (id := 8) ?_; (try (refine rl_move (v := (Value.int _ _ : Value)) rfl rfl ?_; (try ((refine rl_eql_t rfl rfl rfl ?_ ?_; omega); (try (refine rl_assign (v := (Value.bool _ : Value)) rfl rfl ?_))))))) | (refine region_ (id := 9) ?_; (try (refine rl_build [(Value.int .i64 0), (Value.int .i64 0), (St []), (Value.slice none 0 0)] ag26 pl26 rfl rfl rfl ?_; (try (refine rl_loadAM (vs := [_, _, _, _]) 0 hM ag70 rfl rfl rfl rfl rfl ?_))))) | refine rl_assign (v := (Value.bool _ : Value)) rfl rfl ?_ | refine rl_not rfl rfl ?_))
      refine rl_callf fn32 (refuse_ok t 13 w0 w _ V hM) rfl rfl ?_
      clear hM
      rintro _ w ⟨rfl, hM⟩
      (repeat (first | refine sq_normal ?_ | refine sq_ret ?_ | refine rl_nil ?_ | refine ret_ ?_ | refine inBlock_ret ?_ | refine rl_assign (v := (Value.int _ _ : Value)) rfl rfl ?_ | (refine rl_storeWM 2 hM ag26 rfl rfl rfl rfl rfl rfl rfl ?_; clear hM; intro w hM) | (refine rl_storeWM 1 hM ag35 rfl rfl rfl rfl rfl rfl rfl ?_; clear hM; intro w hM)))
      exact bp_x3 rfl rfl (res_M 2 hM ag26 rfl rfl rfl) (res_tmp rfl) (res_M 1 hM ag35 rfl rfl rfl) (.inr ⟨V, 13, t.a, VLe.refl _, hM.dropn 3, rfl, rd_deep ht h2 h1 h3 ho40, by decide⟩)
    · have ho' : (op : Int) ≠ 40 := by omega
      (repeat (first | refine seq_ ?_ | refine sq_normal ?_ | refine rl_nil ?_ | refine cond_f rfl ?_ | refine skip_ ?_ | refine inBlock_normal ?_ | (refine region_ (id := 8) ?_; (try (refine rl_move (v := (Value.int _ _ : Value)) rfl rfl ?_; (try ((refine rl_eql_f rfl rfl rfl ?_ ?_; omega); (try (refine rl_assign (v := (Value.bool _ : Value)) rfl rfl ?_))))))) | (refine region_ (id := 10) ?_; (try (refine rl_move (v := (Value.slice _ _ _ : Value)) rfl rfl ?_; (try (refine rl_move (v := (Value.int _ _ : Value)) rfl rfl ?_; (try ((refine rl_add rfl rfl rfl ?_ ?_ ?_; omega; omega); (try (refine rl_move (v := (Value.int _ _ : Value)) rfl rfl ?_; (try ((refine rl_add rfl rfl rfl ?_ ?_ ?_; omega; omega)))))))))))) | refine rl_assign (v := (Value.bool _ : Value)) rfl rfl ?_ | refine rl_not rfl rfl ?_))
      refine rl_callf fn41 (ih l (i + 1) (op + 1) _ w0 w _ V hM hl hT hmore (by omega) (by omega)) rfl rfl ?_
      clear hM
      rintro _ w hres
      rcases hres with ⟨V1, cs, x, j, hV1, hM, rfl, hx, hc, hj⟩ | ⟨V1, e, a, hV1, hM, rfl, hx, he⟩
      · obtain ⟨u, hu⟩ : ∃ u, l[j]? = some u := ⟨_, List.getElem?_eq_getElem hj⟩
        have hru : VRow V1 vb (vo + j * 4) (tC u) := (g4 j u hu).le hV1
        obtain ⟨hun4, huk, hun, hua, husl⟩ := hT.sane u (List.mem_of_getElem? hu)
        obtain ⟨f1, n1, s1, a1, k1, c1, rfl, _⟩ := id hc.shape
        have hfin := rd_in (f := f) (op := op) ht h2 h1 h3 ho40 hx hu
        (repeat (first | refine seq_ ?_ | refine sq_normal ?_ | refine rl_nil ?_ | refine cond_f rfl ?_ | refine block_ ?_ | (refine region_ (id := 11) ?_; (try (refine rl_fld fd35_0 rfl rfl ?_; (try (refine rl_loadM 0 hM vt33 rfl rfl rfl (by first | rfl | assumption) ?_; (try ((refine rl_neq_f rfl rfl rfl ?_ ?_; omega); (try (refine rl_assign (v := (Value.bool _ : Value)) rfl rfl ?_))))))))) | (refine region_ (id := 13) ?_; (try (refine rl_move (v := (Value.slice _ _ _ : Value)) rfl rfl ?_; (try (refine rl_move (v := (Value.int _ _ : Value)) rfl rfl ?_; (try ((refine rl_idx sl52 rfl rfl rfl rfl ?_ ?_ ?_; omega; omega); (try (refine rl_loadAV hM ag70 rfl rfl (by assumption) (by rfl) ?_))))))))) | refine rl_assign (v := (Value.int _ _ : Value)) rfl rfl ?_ | (refine rl_storeWM 1 hM ag26 rfl rfl rfl rfl rfl rfl rfl ?_; clear hM; intro w hM) | (refine rl_storeWM 0 hM ag35 rfl rfl rfl rfl rfl rfl rfl ?_; clear hM; intro w hM) | refine rl_move (v := (Value.tuple _ : Value)) rfl rfl ?_ | refine rl_extract rfl rfl rfl ?_ | (refine rl_allocAM (d := 10) hM ag26 rfl ?_; clear hM; intro w b10 hM) | (refine rl_allocAM (d := 12) hM ag35 rfl ?_; clear hM; intro w b12 hM)))
        refine rl_callf fn50 (is_ok u [41] w0 w _ V1 hM hun4) rfl rfl ?_
        clear hM
        rintro _ w ⟨rfl, hM⟩
        cases h5 : sym [41] u with
        | false =>
          rw [h5] at hfin
          (repeat (first | refine seq_ ?_ | refine sq_normal ?_ | refine rl_nil ?_ | refine cond_t rfl ?_ | (refine region_ (id := 14) ?_; (try (refine rl_build [(Value.int .i64 0), (Value.int .i64 0), (St []), (Value.slice none 0 0)] ag26 pl26 rfl rfl rfl ?_; (try (refine rl_move (v := (Value.slice _ _ _ : Value)) rfl rfl ?_; (try (refine rl_move (v := (Value.int _ _ : Value)) rfl rfl ?_; (try ((refine rl_idx sl52 rfl rfl rfl rfl ?_ ?_ ?_; omega; omega); (try (refine rl_loadAV hM ag70 rfl rfl (by assumption) (by rfl) ?_))))))))))) | refine rl_assign (v := (Value.bool _ : Value)) rfl rfl ?_ | refine rl_not rfl rfl ?_))
          refine rl_callf fn32 (refuse_ok u 12 w0 w _ V1 hM) rfl rfl ?_
          clear hM
          rintro _ w ⟨rfl, hM⟩
          (repeat (first | refine sq_normal ?_ | refine sq_ret ?_ | refine rl_nil ?_ | refine ret_ ?_ | refine inBlock_ret ?_ | refine rl_assign (v := (Value.int _ _ : Value)) rfl rfl ?_ | (refine rl_storeWM 4 hM ag26 rfl rfl rfl rfl rfl rfl rfl ?_; clear hM; intro w hM) | (refine rl_storeWM 3 hM ag35 rfl rfl rfl rfl rfl rfl rfl ?_; clear hM; intro w hM)))
          exact bp_x3 rfl rfl (res_M 4 hM ag26 rfl rfl rfl) (res_tmp rfl) (res_M 3 hM ag35 rfl rfl rfl) (.inr ⟨V1, 12, u.a, hV1, hM.dropn 5, rfl, hfin, by decide⟩)
        | true =>
          have huk4 := sym_k h5
          rw [h5] at hfin
          have hm2 := hT.more j u hu (by omega)
          (repeat (first | refine seq_ ?_ | refine sq_normal ?_ | refine rl_nil ?_ | refine cond_f rfl ?_ | refine skip_ ?_ | refine ret_ ?_ | refine inBlock_normal ?_ | (refine region_ (id := 15) ?_; (try (refine rl_loadAM (vs := [_, _, _, _]) 1 hM ag26 rfl rfl rfl rfl rfl ?_; (try (refine rl_move (v := (Value.int _ _ : Value)) rfl rfl ?_; (try ((refine rl_add rfl rfl rfl ?_ ?_ ?_; omega; omega); (try (refine rl_build [(Value.int .i64 0), (Value.int .i64 0)] ag35 pl35 rfl rfl rfl ?_; (try ((refine rl_storeWM 4 hM ag26 rfl rfl rfl rfl rfl rfl rfl ?_; clear hM; intro w hM); (try (refine rl_assign (v := (Value.int _ _ : Value)) rfl rfl ?_; (try ((refine rl_storeWM 3 hM ag35 rfl rfl rfl rfl rfl rfl rfl ?_; clear hM; intro w hM)))))))))))))))) | refine rl_assign (v := (Value.bool _ : Value)) rfl rfl ?_ | refine rl_not rfl rfl ?_))
          exact bp_x3 rfl rfl (res_M 4 hM ag26 rfl rfl rfl) (res_tmp rfl) (res_M 3 hM ag35 rfl rfl rfl) (.inl ⟨V1, _, x, j + 1, hV1, hM.dropn 5, rfl, hfin, hc, hm2⟩)
      · (repeat (first | refine seq_ ?_ | refine sq_normal ?_ | refine rl_nil ?_ | refine cond_t rfl ?_ | refine block_ ?_ | (refine region_ (id := 11) ?_; (try (refine rl_fld fd35_0 rfl rfl ?_; (try (refine rl_loadM 0 hM vt33 rfl rfl rfl (by first | rfl | assumption) ?_; (try ((refine rl_neq_t rfl rfl rfl ?_ ?_; omega); (try (refine rl_assign (v := (Value.bool _ : Value)) rfl rfl ?_))))))))) | refine rl_assign (v := (Value.int _ _ : Value)) rfl rfl ?_ | (refine rl_storeWM 1 hM ag26 rfl rfl rfl rfl rfl rfl rfl ?_; clear hM; intro w hM) | (refine rl_storeWM 0 hM ag35 rfl rfl rfl rfl rfl rfl rfl ?_; clear hM; intro w hM) | refine rl_move (v := (Value.tuple _ : Value)) rfl rfl ?_ | refine rl_extract rfl rfl rfl ?_ | (refine rl_allocAM (d := 10) hM ag26 rfl ?_; clear hM; intro w b10 hM) | (refine rl_allocAM (d := 12) hM ag35 rfl ?_; clear hM; intro w b12 hM)))
        (refine drawnM_ 4 [(0, false), (1, false), (2, true), (3, false)] (fun w => Mem w0 w _ _) hM mo (by kernel_rfl) (fun _ h => h) ?_; clear hM; intro w hM; (try (refine rx_build [(Value.int .i64 0), (Value.int .i64 0), (St []), (Value.slice none 0 0)] rfl ag26 pl26 rfl rfl rfl ?_; (try (refine rx_loadAM (vs := [_, _]) 0 rfl (fun _ h => h) ag35 rfl rfl rfl rfl rfl ?_)))))
        refine rx_eff rfl (fun K hK => ?_)
        (repeat (first | refine rl_nil ?_ | (refine rl_storeWM 4 hM ag26 rfl rfl rfl rfl rfl rfl rfl ?_; clear hM; intro w hM)))
        refine kq_normal (hK _ _ hM ?_)
        (try (refine rx_assign (v := (Value.int _ _ : Value)) rfl rfl rfl ?_))
        refine rx_nil rfl ?_
        (repeat (first | refine sq_normal ?_ | refine sq_ret ?_ | refine rl_nil ?_ | refine ret_ ?_ | refine inBlock_ret ?_ | refine np_normal ?_ | (refine rl_storeWM 3 hM ag35 rfl rfl rfl rfl rfl rfl rfl ?_; clear hM; intro w hM)))
        exact bp_x3 rfl rfl (res_M 4 hM ag26 rfl rfl rfl) (res_tmp rfl) (res_M 3 hM ag35 rfl rfl rfl) (.inr ⟨V1, e, a, hV1, hM.dropn 5, rfl, rd_inE ht h2 h1 h3 ho40 hx, he⟩)
end Go.Proofs.YtadbinckjmdokaaDoor.Trd
