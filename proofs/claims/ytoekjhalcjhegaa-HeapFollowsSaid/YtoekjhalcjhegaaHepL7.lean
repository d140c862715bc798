/- The walk of fuguelaw27.HeapFollows. -/
import Derived.Test.YtoekjhalcjhegaaHepP2
set_option linter.unusedVariables false
set_option linter.unusedSimpArgs false
namespace Go.Proofs.Ytoekjhalcjhegaa.Hep
open Go Go.Eng Go.RowKit Go.Hp
attribute [local irreducible] RL RX KQ SQ Exit.inBlock Exit.then BP NP CallsOk IsSl IsRows IsInts IsBools Own Blk Code.wp Calls wpList
theorem len_empty {l : List Nd} (h : (l.length : Int) = 0) : l = [] := List.eq_nil_of_length_eq_zero (by omega)
set_option maxRecDepth 4000 in
set_option maxHeartbeats 4000000 in
theorem law7 (v : Value) (xs : List Ac) (a0 b0 : Int) (w : World) (hx : IsActs w.cell? v xs) (h0 : I64 a0) (h1 : I64 b0) : CallsOk Try.prog 7 #[v, .int .i64 a0, .int .i64 b0] w fun r w' => r = .bool true ∧ Below w.heap.size w w' := by
  have hM := Mem.init w
  obtain ⟨w0, hw0⟩ : ∃ w0, w0 = w := ⟨_, rfl⟩
  obtain ⟨V, hVd⟩ : ∃ V, V = w.cell? := ⟨_, rfl⟩
  rw [← hVd] at hM hx
  have hM : Mem w0 w [] V := by rw [hw0]; exact hM
  have key : CallsOk Try.prog 7 #[v, .int .i64 a0, .int .i64 b0] w fun r w' => r = .bool true ∧ Below w0.heap.size w0 w' := by
    clear hVd hw0
    obtain ⟨va, vc, _, _, hvv, _⟩ := id hx
    refine enter_ (N := 205) Try.func7 rfl rfl rfl ?_
    subst hvv
    (repeat (first | refine seq_ ?_ | refine sq_normal ?_ | refine rl_nil ?_ | (refine region_ (id := 0) ?_; (try (refine rl_assign (v := (Value.bool _ : Value)) rfl rfl ?_))) | (refine region_ (id := 1) ?_; (try (refine rl_move (v := (Value.slice _ _ _ : Value)) rfl rfl ?_)))))
    refine rl_callf fn28 (built_ok w0 w [] V _ xs hM hx) rfl rfl ?_
    clear hM
    rintro _ w ⟨V1, h, hV1, rfl, hH⟩
    have hO := builtN_ok xs
    have hl := builtN_len xs
    obtain ⟨l, hld⟩ : ∃ l, l = builtN xs := ⟨_, rfl⟩
    rw [← hld] at hH hO hl
    clear hld
    (repeat (first | refine seq_ ?_ | refine sq_normal ?_ | refine rl_nil ?_ | refine cond_f rfl ?_ | refine skip_ ?_ | (refine region_ (id := 2) ?_; (try (refine rl_move (v := (Value.bool _ : Value)) rfl rfl ?_; (try (refine rl_not rfl rfl ?_))))) | (refine region_ (id := 4) ?_; (try (refine rl_move (v := (Value.pointer _ : Value)) rfl rfl ?_))) | refine rl_assign (v := (Value.bool _ : Value)) rfl rfl ?_ | refine rl_move (v := (Value.tuple _ : Value)) rfl rfl ?_ | refine rl_extract rfl rfl rfl ?_ | refine rl_assign (v := (Value.pointer _ : Value)) rfl rfl ?_))
    refine rl_callf fn14 (len_ok w0 w [] V1 h 40 l hH) rfl rfl ?_
    rintro _ w ⟨rfl, rfl⟩
    by_cases hz : (l.length : Int) = 0
    · have hl0 := len_empty hz
      subst hl0
      (repeat (first | refine seq_ ?_ | refine sq_normal ?_ | refine rl_nil ?_ | refine cond_t rfl ?_ | (refine region_ (id := 5) ?_; (try (refine rl_move (v := (Value.pointer _ : Value)) rfl rfl ?_; (try (refine rl_move (v := (Value.int _ _ : Value)) rfl rfl ?_))))) | (first | (refine rl_eql_t rfl rfl rfl ?_ ?_; omega) | (refine rl_eql_f rfl rfl rfl ?_ ?_; omega))))
      refine rl_callf fn26 (follow_ok w0 w [] V1 h 40 a0 [] hH hO.ends) rfl rfl ?_
      clear hH
      rintro _ w ⟨rfl, hH⟩
      rw [show fol [] a0 = a0 from fol_out (by unfold inB; cases h1 : decide (0 ≤ a0) <;> simp; simp at h1; omega)]
      (repeat (first | refine rl_move (v := (Value.bool _ : Value)) rfl rfl ?_ | refine rl_move (v := (Value.pointer _ : Value)) rfl rfl ?_ | (first | (refine rl_eql_t rfl rfl rfl ?_ ?_; omega) | (refine rl_eql_f rfl rfl rfl ?_ ?_; omega)) | refine rl_move (v := (Value.int _ _ : Value)) rfl rfl ?_ | (first | refine rl_off rfl ?_ | refine rl_build [_, (Value.int .i64 0), (St []), (Value.slice none 0 0)] ag31 pl31 rfl rfl rfl ?_)))
      refine rl_callf fn21 (set_ok w0 w [] V1 h 40 a0 [] ⟨6, 0, [], []⟩ (.slice none 0 0) hH hO.ends (ints_nil V1)) rfl rfl ?_
      clear hH
      rintro _ w ⟨V2, hV2, hH, rfl⟩
      rw [show (setN [] a0 ⟨6, 0, [], []⟩).2 = 1 by unfold setN; rw [if_pos (.inl (by unfold inB; cases h1 : decide (0 ≤ a0) <;> simp; simp at h1; omega))]]
      (repeat (first | refine rl_move (v := (Value.bool _ : Value)) rfl rfl ?_ | (first | (refine rl_eql_t rfl rfl rfl ?_ ?_; omega) | (refine rl_eql_f rfl rfl rfl ?_ ?_; omega)) | refine rl_pick (v := (Value.bool _ : Value)) rfl rfl rfl ?_))
      refine rl_callf fn17 (lives_ok w0 w [] V2 (HP.drop hH)) rfl rfl ?_
      rintro _ w ⟨V3, hV3, rfl, hM⟩
      (repeat (first | refine sq_normal ?_ | refine sq_ret ?_ | refine rl_nil ?_ | refine ret_ ?_ | refine rl_assign (v := (Value.bool _ : Value)) rfl rfl ?_ | refine rl_pick (v := (Value.bool _ : Value)) rfl rfl rfl ?_))
      exact bp_ret1 (v := Value.bool _) rfl rfl ⟨rfl, hM.below⟩
    · have hn0 : 0 < l.length := by omega
      have haa := around_lt a0 (l.length : Int) (by omega)
      have hbb := around_lt b0 (l.length : Int) (by omega)
      (repeat (first | refine seq_ ?_ | refine sq_normal ?_ | refine rl_nil ?_ | refine cond_f rfl ?_ | refine skip_ ?_ | (refine region_ (id := 6) ?_; (try (refine rl_move (v := (Value.int _ _ : Value)) rfl rfl ?_; (try (refine rl_move (v := (Value.pointer _ : Value)) rfl rfl ?_))))) | (first | (refine rl_eql_t rfl rfl rfl ?_ ?_; omega) | (refine rl_eql_f rfl rfl rfl ?_ ?_; omega))))
      refine rl_callf fn14 (len_ok w0 w [] V1 h 40 l hH) rfl rfl ?_
      rintro _ w ⟨rfl, rfl⟩
      skip
      refine rl_callf fn11 (around_ok a0 (l.length : Int) w h0.1 h0.2 (by omega) (by omega)) rfl rfl ?_
      rintro _ w ⟨rfl, rfl⟩
      obtain ⟨a, had⟩ : ∃ a, a = around a0 (l.length : Int) := ⟨_, rfl⟩
      rw [← had] at haa ⊢
      (repeat (first | refine seq_ ?_ | refine sq_normal ?_ | refine rl_nil ?_ | (refine region_ (id := 7) ?_; (try (refine rl_move (v := (Value.int _ _ : Value)) rfl rfl ?_; (try (refine rl_move (v := (Value.pointer _ : Value)) rfl rfl ?_))))) | refine rl_assign (v := (Value.int _ _ : Value)) rfl rfl ?_))
      refine rl_callf fn14 (len_ok w0 w [] V1 h 40 l hH) rfl rfl ?_
      rintro _ w ⟨rfl, rfl⟩
      skip
      refine rl_callf fn11 (around_ok b0 (l.length : Int) w h1.1 h1.2 (by omega) (by omega)) rfl rfl ?_
      rintro _ w ⟨rfl, rfl⟩
      obtain ⟨b, hbd⟩ : ∃ b, b = around b0 (l.length : Int) := ⟨_, rfl⟩
      rw [← hbd] at hbb ⊢
      clear had hbd hx
      obtain ⟨hv, hcs0, hM, hcs⟩ := hH
      replace hM : Mem w0 w (hp 67 31 h hv 40 l hcs0 [.own (.slice none 0 0) 31 4 0 []]) V1 := ((hM.newOwn 31 4).front 2 rfl).front 2 rfl
      (repeat (first | refine seq_ ?_ | refine sq_normal ?_ | refine rl_nil ?_ | refine block_ ?_ | (refine region_ (id := 8) ?_; (try (refine rl_assign (v := (Value.slice _ _ _ : Value)) rfl rfl ?_))) | (refine region_ (id := 9) ?_; (try (refine rl_assign (v := (Value.int _ _ : Value)) rfl rfl ?_))) | refine rl_assign (v := (Value.int _ _ : Value)) rfl rfl ?_))
      refine loop2 [(6, 7), (9, 16), (56, 95)] 9 10 (fun m bv vi wr => ∃ (i : Nat) (V1 : Vw) (hv : Value) (cs cs2 : List Value), vi = .int .i64 i ∧ i ≤ l.length ∧ m = l.length - i ∧ Mem w0 wr (hp 67 31 h hv 40 l cs [.own bv 31 4 i cs2]) V1 ∧ NdCells V1 l cs ∧ NdCells V1 (l.take i) cs2) _
        ⟨0, V1, hv, hcs0, [], rfl, Nat.zero_le _, rfl, hM, hcs, rfl⟩ ?_
      clear hM hcs hcs0 hv hV1 V1
      rintro m τ bv vi w ⟨i, V, hv, cs, cs2, rfl, hi, rfl, hM, hcs, hcs2⟩ K0 hL0
      obtain ⟨ba, bc, rfl, _, _⟩ := hM.ownShape (i := 2) rfl
      (repeat (first | refine seq_ ?_ | (refine region_ (id := 10) ?_; (try (refine rl_move (v := (Value.int _ _ : Value)) rfl rfl ?_; (try (refine rl_move (v := (Value.pointer _ : Value)) rfl rfl ?_)))))))
      refine rl_callf fn14 (len_ok w0 w _ V h 40 l ⟨hv, cs, hM, hcs⟩) rfl rfl ?_
      rintro _ w ⟨rfl, rfl⟩
      by_cases hlt : i < l.length
      · obtain ⟨g1, g2⟩ := getN_in hlt
        (repeat (first | refine seq_ ?_ | refine sq_normal ?_ | refine rl_nil ?_ | refine cond_t rfl ?_ | refine skip_ ?_ | refine block_ ?_ | (refine region_ (id := 12) ?_; (try (refine rl_move (v := (Value.pointer _ : Value)) rfl rfl ?_; (try (refine rl_move (v := (Value.int _ _ : Value)) rfl rfl ?_))))) | (first | (refine rl_lss_t rfl rfl rfl ?_ ?_; omega) | (refine rl_lss_f rfl rfl rfl ?_ ?_; omega))))
        refine rl_callf fn16 (get_ok w0 w _ V h 40 i l ⟨hv, cs, hM, hcs⟩ hO.short) rfl rfl ?_
        clear hM hcs
        rintro _ w ⟨V2, kv, hV2, ⟨hv, cs, hM, hcs⟩, rfl, hkv⟩
        rw [g1] at hkv ⊢
        rw [g2]
        obtain ⟨ka, kc, _, _, rfl, _⟩ := id hkv.open
        replace hcs2 := hcs2.le hV2
        (repeat (first | refine seq_ ?_ | refine sq_normal ?_ | refine rl_nil ?_ | (refine region_ (id := 13) ?_; (try (refine rl_move (v := (Value.pointer _ : Value)) rfl rfl ?_; (try (refine rl_move (v := (Value.int _ _ : Value)) rfl rfl ?_))))) | refine rl_assign (v := (Value.bool _ : Value)) rfl rfl ?_ | refine rl_move (v := (Value.tuple _ : Value)) rfl rfl ?_ | refine rl_extract rfl rfl rfl ?_ | (refine rl_allocAM (d := 11) hM ag31 rfl ?_; clear hM; intro w b11 hM) | (first | (refine rl_storeWM 0 hM ag31 rfl rfl rfl rfl rfl rfl rfl ?_; clear hM; intro w hM) | (refine rl_storeWM 1 hM ag31 rfl rfl rfl rfl rfl rfl rfl ?_; clear hM; intro w hM) | (refine rl_storeWM 2 hM ag31 rfl rfl rfl rfl rfl rfl rfl ?_; clear hM; intro w hM) | (refine rl_storeWM 3 hM ag31 rfl rfl rfl rfl rfl rfl rfl ?_; clear hM; intro w hM) | (refine rl_storeWM 4 hM ag31 rfl rfl rfl rfl rfl rfl rfl ?_; clear hM; intro w hM) | (refine rl_storeWM 5 hM ag31 rfl rfl rfl rfl rfl rfl rfl ?_; clear hM; intro w hM) | (refine rl_storeWM 6 hM ag31 rfl rfl rfl rfl rfl rfl rfl ?_; clear hM; intro w hM) | (refine rl_storeWM 7 hM ag31 rfl rfl rfl rfl rfl rfl rfl ?_; clear hM; intro w hM))))
        replace hM : Mem w0 w (hp 67 31 h hv 40 l cs [.blk b11 (ndCells l[i] (.slice ka l[i].kids.length kc)) 31, .own (.slice ba i bc) 31 4 i cs2]) V2 := (hM.front 2 rfl).front 2 rfl
        obtain ⟨f0, f1, f2⟩ := fol_form hO.ends (p := (i : Int)) (by omega) (by omega)
        have ff := fol_fol hO.ends (p := (i : Int)) (by omega) (by omega)
        obtain ⟨p, hpd⟩ : ∃ p, p = fol l i := ⟨_, rfl⟩
        rw [← hpd] at f0 f1 f2 ff
        obtain ⟨g3, g4⟩ := getN_at f0 f1
        refine rl_callf fn26 (follow_ok w0 w _ V2 h 40 i l ⟨hv, cs, hM, hcs⟩ hO.ends) rfl rfl ?_
        clear hM hcs
        rintro _ w ⟨rfl, hv, cs, hM, hcs⟩
        rw [← hpd]
        (repeat (first | refine seq_ ?_ | refine sq_normal ?_ | refine rl_nil ?_ | (refine region_ (id := 14) ?_; (try (refine rl_move (v := (Value.pointer _ : Value)) rfl rfl ?_; (try (refine rl_move (v := (Value.int _ _ : Value)) rfl rfl ?_))))) | refine rl_assign (v := (Value.int _ _ : Value)) rfl rfl ?_))
        refine rl_callf fn16 (get_ok w0 w _ V2 h 40 p l ⟨hv, cs, hM, hcs⟩ hO.short) rfl rfl ?_
        clear hM hcs
        rintro _ w ⟨V3, kv3, hV3, ⟨hv, cs, hM, hcs⟩, rfl, hkv3⟩
        rw [g3] at hkv3 ⊢
        rw [g4]
        obtain ⟨nd3, hnd3⟩ : ∃ nd3, nd3 = nodeAt l p := ⟨_, rfl⟩
        rw [← hnd3] at hkv3 f2 ⊢
        obtain ⟨k3a, k3c, _, _, rfl, _⟩ := id hkv3.open
        unfold ndCells
        replace hcs2 := hcs2.le hV3
        (repeat (first | refine seq_ ?_ | refine sq_normal ?_ | refine rl_nil ?_ | (refine region_ (id := 15) ?_; (try (refine rl_move (v := (Value.bool _ : Value)) rfl rfl ?_; (try (refine rl_not rfl rfl ?_; (try (refine rl_move (v := (Value.bool _ : Value)) rfl rfl ?_; (try ((first | refine rl_off rfl ?_ | refine rl_fld fd31_0 rfl rfl ?_); (try ((first | refine rl_off rfl ?_ | refine rl_loadV hM vt3 rfl rfl (by first | assumption | exact VRow.get (by assumption) rfl | exact VRow.get0 (by assumption) rfl) ?_ | refine rl_loadM 0 hM vt3 rfl rfl rfl (by first | rfl | assumption) ?_ | refine rl_loadM 1 hM vt3 rfl rfl rfl (by first | rfl | assumption) ?_ | refine rl_loadM 2 hM vt3 rfl rfl rfl (by first | rfl | assumption) ?_ | refine rl_loadM 3 hM vt3 rfl rfl rfl (by first | rfl | assumption) ?_ | refine rl_loadM 4 hM vt3 rfl rfl rfl (by first | rfl | assumption) ?_ | refine rl_loadM 5 hM vt3 rfl rfl rfl (by first | rfl | assumption) ?_ | refine rl_loadM 6 hM vt3 rfl rfl rfl (by first | rfl | assumption) ?_ | refine rl_loadM 7 hM vt3 rfl rfl rfl (by first | rfl | assumption) ?_ | refine rl_loadO 0 hM vt3 rfl rfl rfl (by first | assumption | exact ORow.get (by assumption) rfl | exact ORow.get0 (by assumption) rfl) ?_ | refine rl_loadO 1 hM vt3 rfl rfl rfl (by first | assumption | exact ORow.get (by assumption) rfl | exact ORow.get0 (by assumption) rfl) ?_ | refine rl_loadO 2 hM vt3 rfl rfl rfl (by first | assumption | exact ORow.get (by assumption) rfl | exact ORow.get0 (by assumption) rfl) ?_ | refine rl_loadO 3 hM vt3 rfl rfl rfl (by first | assumption | exact ORow.get (by assumption) rfl | exact ORow.get0 (by assumption) rfl) ?_ | refine rl_loadO 4 hM vt3 rfl rfl rfl (by first | assumption | exact ORow.get (by assumption) rfl | exact ORow.get0 (by assumption) rfl) ?_ | refine rl_loadO 5 hM vt3 rfl rfl rfl (by first | assumption | exact ORow.get (by assumption) rfl | exact ORow.get0 (by assumption) rfl) ?_ | refine rl_loadO 6 hM vt3 rfl rfl rfl (by first | assumption | exact ORow.get (by assumption) rfl | exact ORow.get0 (by assumption) rfl) ?_ | refine rl_loadO 7 hM vt3 rfl rfl rfl (by first | assumption | exact ORow.get (by assumption) rfl | exact ORow.get0 (by assumption) rfl) ?_); (try ((first | refine rl_off rfl ?_ | (refine rl_eql_t rfl rfl rfl ?_ ?_; omega) | (refine rl_eql_f rfl rfl rfl ?_ ?_; omega)); (try (refine rl_pick (v := (Value.bool _ : Value)) rfl rfl rfl ?_; (try (refine rl_move (v := (Value.bool _ : Value)) rfl rfl ?_; (try ((first | refine rl_off rfl ?_ | refine rl_move (v := (Value.pointer _ : Value)) rfl rfl ?_); (try ((first | refine rl_off rfl ?_ | refine rl_move (v := (Value.int _ _ : Value)) rfl rfl ?_)))))))))))))))))))))) | refine rl_assign (v := (Value.bool _ : Value)) rfl rfl ?_ | refine rl_move (v := (Value.tuple _ : Value)) rfl rfl ?_ | refine rl_extract rfl rfl rfl ?_ | (first | (refine rl_storeWM 0 hM ag31 rfl rfl rfl rfl rfl rfl rfl ?_; clear hM; intro w hM) | (refine rl_storeWM 1 hM ag31 rfl rfl rfl rfl rfl rfl rfl ?_; clear hM; intro w hM) | (refine rl_storeWM 2 hM ag31 rfl rfl rfl rfl rfl rfl rfl ?_; clear hM; intro w hM) | (refine rl_storeWM 3 hM ag31 rfl rfl rfl rfl rfl rfl rfl ?_; clear hM; intro w hM) | (refine rl_storeWM 4 hM ag31 rfl rfl rfl rfl rfl rfl rfl ?_; clear hM; intro w hM) | (refine rl_storeWM 5 hM ag31 rfl rfl rfl rfl rfl rfl rfl ?_; clear hM; intro w hM) | (refine rl_storeWM 6 hM ag31 rfl rfl rfl rfl rfl rfl rfl ?_; clear hM; intro w hM) | (refine rl_storeWM 7 hM ag31 rfl rfl rfl rfl rfl rfl rfl ?_; clear hM; intro w hM)) | (refine rl_allocAM (d := 14) hM ag31 rfl ?_; clear hM; intro w b14 hM)))
        replace hM : Mem w0 w (hp 67 31 h hv 40 l cs [.blk b14 [.int .i64 nd3.form, .int .i64 nd3.n, St nd3.name, .slice k3a nd3.kids.length k3c] 31, .blk b11 [.int .i64 l[i].form, .int .i64 l[i].n, St l[i].name, .slice ka l[i].kids.length kc] 31, .own (.slice ba i bc) 31 4 i cs2]) V3 := (hM.front 2 rfl).front 2 rfl
        refine rl_callf fn26 (follow_ok w0 w _ V3 h 40 p l ⟨hv, cs, hM, hcs⟩ hO.ends) rfl rfl ?_
        clear hM hcs
        rintro _ w ⟨rfl, hv, cs, hM, hcs⟩
        rw [ff]
        (repeat (first | refine sq_normal ?_ | refine rl_nil ?_ | refine cond_f rfl ?_ | refine skip_ ?_ | (refine region_ (id := 17) ?_; (try (refine rl_move (v := (Value.slice _ _ _ : Value)) rfl rfl ?_; (try ((first | refine rl_loadAV hM ag31 rfl rfl (by assumption) (by rfl) ?_ | refine rl_loadAM (vs := [_, _, _, _]) 0 hM ag31 rfl rfl rfl rfl rfl ?_ | refine rl_loadAM (vs := [_, _, _, _]) 1 hM ag31 rfl rfl rfl rfl rfl ?_ | refine rl_loadAM (vs := [_, _, _, _]) 2 hM ag31 rfl rfl rfl rfl rfl ?_ | refine rl_loadAM (vs := [_, _, _, _]) 3 hM ag31 rfl rfl rfl rfl rfl ?_ | refine rl_loadAM (vs := [_, _, _, _]) 4 hM ag31 rfl rfl rfl rfl rfl ?_ | refine rl_loadAM (vs := [_, _, _, _]) 5 hM ag31 rfl rfl rfl rfl rfl ?_ | refine rl_loadAM (vs := [_, _, _, _]) 6 hM ag31 rfl rfl rfl rfl rfl ?_ | refine rl_loadAM (vs := [_, _, _, _]) 7 hM ag31 rfl rfl rfl rfl rfl ?_ | refine rl_loadAO (vs := [_, _, _, _]) 0 hM ag31 rfl rfl rfl (by assumption) rfl ?_ | refine rl_loadAO (vs := [_, _, _, _]) 1 hM ag31 rfl rfl rfl (by assumption) rfl ?_ | refine rl_loadAO (vs := [_, _, _, _]) 2 hM ag31 rfl rfl rfl (by assumption) rfl ?_ | refine rl_loadAO (vs := [_, _, _, _]) 3 hM ag31 rfl rfl rfl (by assumption) rfl ?_ | refine rl_loadAO (vs := [_, _, _, _]) 4 hM ag31 rfl rfl rfl (by assumption) rfl ?_ | refine rl_loadAO (vs := [_, _, _, _]) 5 hM ag31 rfl rfl rfl (by assumption) rfl ?_ | refine rl_loadAO (vs := [_, _, _, _]) 6 hM ag31 rfl rfl rfl (by assumption) rfl ?_ | refine rl_loadAO (vs := [_, _, _, _]) 7 hM ag31 rfl rfl rfl (by assumption) rfl ?_); (try ((refine rl_bsliceM (d := 93) [_] hM sl60 rfl rfl rfl rfl rfl (by decide) (by decide) ?_; clear hM; intro w b93 hM)))))))) | refine rl_move (v := (Value.int _ _ : Value)) rfl rfl ?_ | refine rl_pick (v := (Value.bool _ : Value)) rfl rfl rfl ?_ | (first | refine rl_off rfl ?_ | (refine rl_neq_t rfl rfl rfl ?_ ?_; omega) | (refine rl_neq_f rfl rfl rfl ?_ ?_; omega))))
        refine rl_appendM 5 (news := ndCells l[i] (.slice ka l[i].kids.length kc)) (B := b93) (off := 0) hM sl60 rfl (by decide) rfl (hM.row (i := 0) rfl) rfl rfl rfl (fun _ => rfl) rfl (by simp [ndCells, Value.oneCell', St]) (by unfold maxLen; omega) (by omega) ?_
        clear hM
        intro w a' c' _ _ hM
        replace hM : Mem w0 w (hp 67 31 h hv 40 l cs [.own (.slice a' (i + 1) c') 31 4 (i + 1) (cs2 ++ ndCells l[i] (.slice ka l[i].kids.length kc))]) V3 := ((hM.erase 0).erase 2).erase 2
        have hcs3 : NdCells V3 (l.take (i + 1)) (cs2 ++ ndCells l[i] (.slice ka l[i].kids.length kc)) := by
          rw [List.take_add_one, List.getElem?_eq_getElem hlt]
          exact hcs2.snoc (hkv.le hV3)
        (repeat (first | refine sq_normal ?_ | refine rl_nil ?_ | refine inBlock_normal ?_ | (refine region_ (id := 11) ?_; (try (refine rl_move (v := (Value.int _ _ : Value)) rfl rfl ?_; (try ((refine rl_add rfl rfl rfl ?_ ?_ ?_; omega; omega); (try (refine rl_assign (v := (Value.int _ _ : Value)) rfl rfl ?_))))))) | refine rl_assign (v := (Value.slice _ _ _ : Value)) rfl rfl ?_))
        exact kq_normal (hL0 (l.length - (i + 1)) _ _ (by omega) (by (repeat (first | with_reducible exact Agree.ov | with_reducible exact Agree.refl _ _ | refine Agree.upd rfl ?_ | refine Agree.ovs rfl ?_))) ⟨i + 1, V3, hv, cs, _, rfl, by omega, rfl, hM, hcs, hcs3⟩)
      · obtain rfl : i = l.length := by omega
        rw [List.take_length] at hcs2
        obtain ⟨ps, hps⟩ := hO.ends b hbb.1 hbb.2
        clear hL0
        (repeat (first | refine seq_ ?_ | refine sq_normal ?_ | refine sq_exit ?_ | refine rl_nil ?_ | refine cond_f rfl ?_ | refine exit_ ?_ | refine inBlock_exit ?_ | refine kq_exit ?_ | (refine region_ (id := 18) ?_; (try (refine rl_move (v := (Value.pointer _ : Value)) rfl rfl ?_; (try (refine rl_move (v := (Value.int _ _ : Value)) rfl rfl ?_))))) | (first | (refine rl_lss_t rfl rfl rfl ?_ ?_; omega) | (refine rl_lss_f rfl rfl rfl ?_ ?_; omega))))
        refine rl_callf fn26 (follow_ok w0 w _ V h 40 b l ⟨hv, cs, hM, hcs⟩ hO.ends) rfl rfl ?_
        clear hM hcs
        rintro _ w ⟨rfl, hv, cs, hM, hcs⟩
        (repeat (first | refine seq_ ?_ | refine sq_normal ?_ | refine rl_nil ?_ | (refine region_ (id := 19) ?_; (try (refine rl_move (v := (Value.pointer _ : Value)) rfl rfl ?_; (try (refine rl_move (v := (Value.int _ _ : Value)) rfl rfl ?_; (try (refine rl_move (v := (Value.int _ _ : Value)) rfl rfl ?_; (try ((refine rl_bsliceM (d := 101) [_] hM sl29 rfl rfl rfl rfl rfl (by decide) (by decide) ?_; clear hM; intro w b101 hM); (try (refine rl_build [_, (Value.int .i64 0), (St []), _] ag31 pl31 rfl rfl rfl ?_))))))))))) | refine rl_assign (v := (Value.int _ _ : Value)) rfl rfl ?_))
        obtain ⟨V2, hV2, hM2, hi2⟩ := ints_blk [b] hM rfl (by simp) (by intro x hx; simp at hx; subst hx; unfold I64; omega)
        clear hM
        refine rl_callf fn21 (set_ok w0 w _ V2 h 40 a l ⟨5, 0, [], [b]⟩ _ ⟨hv, cs, hM2, hcs.le hV2⟩ hO.ends hi2) rfl rfl ?_
        clear hM2 hcs hi2
        replace hcs2 := hcs2.le hV2
        rintro _ w ⟨V3, hV3, hH, rfl⟩
        replace hcs2 := hcs2.le hV3
        have hsi := setInd hO haa.1 haa.2 hbb.1 hbb.2 hps
        obtain ⟨l2, hl2⟩ : ∃ l2, l2 = (setN l a ⟨5, 0, [], [b]⟩).1 := ⟨_, rfl⟩
        obtain ⟨er, her⟩ : ∃ er, er = (setN l a ⟨5, 0, [], [b]⟩).2 := ⟨_, rfl⟩
        rw [← hl2] at hH
        rw [← her]
        have hO2 : Ok l2 := by rw [hl2]; exact setN_ok hO
        have hll : l2.length = l.length := by rw [hl2]; exact setN_len
        have her2 : (a ∉ ps ∧ l2 = l.set a.toNat ⟨5, 0, [], [b]⟩ ∧ er = 0) ∨ (a ∈ ps ∧ l2 = l ∧ er = 1) := by
          rcases hsi with ⟨h1, h2⟩ | ⟨h1, h2⟩
          · exact .inl ⟨h1, by rw [hl2, h2], by rw [her, h2]⟩
          · exact .inr ⟨h1, by rw [hl2, h2], by rw [her, h2]⟩
        clear hsi hl2 her
        (repeat (first | refine seq_ ?_ | refine sq_normal ?_ | refine rl_nil ?_ | refine block_ ?_ | (refine region_ (id := 20) ?_; (try (refine rl_assign (v := (Value.int _ _ : Value)) rfl rfl ?_))) | refine rl_assign (v := (Value.int _ _ : Value)) rfl rfl ?_))
        obtain ⟨hv, cs, hM, hcs⟩ := hH
        have hsame : ∀ j : Nat, (hj : j < l.length) → (hj2 : j < l2.length) → oneB (plainN l2[j]) (plainN l[j]) = true ∨ ((j : Int) = a ∧ er = 0) := by
          intro j hj hj2
          rcases her2 with ⟨_, rfl, rfl⟩ | ⟨_, rfl, rfl⟩
          · by_cases hja : (j : Int) = a
            · exact .inr ⟨hja, rfl⟩
            · left
              have e : (l.set a.toNat ⟨5, 0, [], [b]⟩)[j] = l[j] := List.getElem_set_ne (by omega) _
              rw [e]; exact oneB_self _
          · left; exact oneB_self _
        refine loop1 [(6, 7), (18, 21), (104, 134)] 18 (fun m vi wr => ∃ (i : Nat) (V1 : Vw) (hv : Value) (cs : List Value), vi = .int .i64 i ∧ i ≤ l.length ∧ m = l.length - i ∧ Mem w0 wr (hp 67 31 h hv 40 l2 cs [.own (.slice ba l.length bc) 31 4 l.length cs2]) V1 ∧ NdCells V1 l2 cs ∧ NdCells V1 l cs2) _
          ⟨0, V3, hv, cs, rfl, Nat.zero_le _, rfl, hM, hcs, hcs2⟩ ?_
        clear hM hcs hcs2 cs hv
        rintro m τ2 vi w ⟨i, V, hv, cs, rfl, hi, rfl, hM, hcs, hcs2⟩ K0 hL0
        (repeat (first | refine seq_ ?_ | (refine region_ (id := 21) ?_; (try (refine rl_move (v := (Value.int _ _ : Value)) rfl rfl ?_; (try (refine rl_move (v := (Value.pointer _ : Value)) rfl rfl ?_)))))))
        refine rl_callf fn14 (len_ok w0 w _ V h 40 l2 ⟨hv, cs, hM, hcs⟩) rfl rfl ?_
        rintro _ w ⟨rfl, rfl⟩
        rw [hll]
        by_cases hlt : i < l.length
        · have hlt2 : i < l2.length := by omega
          obtain ⟨g1, g2⟩ := getN_in hlt2
          (repeat (first | refine seq_ ?_ | refine sq_normal ?_ | refine rl_nil ?_ | refine cond_t rfl ?_ | refine skip_ ?_ | refine block_ ?_ | (refine region_ (id := 23) ?_; (try (refine rl_move (v := (Value.pointer _ : Value)) rfl rfl ?_; (try (refine rl_move (v := (Value.int _ _ : Value)) rfl rfl ?_))))) | (first | (refine rl_lss_t rfl rfl rfl ?_ ?_; omega) | (refine rl_lss_f rfl rfl rfl ?_ ?_; omega))))
          refine rl_callf fn16 (get_ok w0 w _ V h 40 i l2 ⟨hv, cs, hM, hcs⟩ hO2.short) rfl rfl ?_
          clear hM hcs
          rintro _ w ⟨V2, kv, hV2, ⟨hv, cs, hM, hcs⟩, rfl, hkv⟩
          rw [g1] at hkv ⊢
          rw [g2]
          obtain ⟨ka, kc, _, _, rfl, _⟩ := id hkv.open
          replace hcs2 := hcs2.le hV2
          obtain ⟨k0, hrow, hk0⟩ := hcs2.get (i := i) (List.getElem?_eq_getElem hlt)
          obtain ⟨k0a, k0c, _, _, rfl, _⟩ := id hk0.open
          obtain ⟨bb, bcc, hbe, _, _⟩ := hM.ownA (i := 2) rfl hn0
          obtain ⟨rfl, rfl⟩ : ba = some ⟨bb, 0, none⟩ ∧ bc = bcc := by simpa using hbe
          have hcl := hcs2.len
          (repeat (first | refine seq_ ?_ | refine sq_normal ?_ | refine rl_nil ?_ | refine rl_assign (v := (Value.bool _ : Value)) rfl rfl ?_ | refine rl_move (v := (Value.tuple _ : Value)) rfl rfl ?_ | refine rl_extract rfl rfl rfl ?_ | (first | (refine rl_storeWM 0 hM ag31 rfl rfl rfl rfl rfl rfl rfl ?_; clear hM; intro w hM) | (refine rl_storeWM 1 hM ag31 rfl rfl rfl rfl rfl rfl rfl ?_; clear hM; intro w hM) | (refine rl_storeWM 2 hM ag31 rfl rfl rfl rfl rfl rfl rfl ?_; clear hM; intro w hM) | (refine rl_storeWM 3 hM ag31 rfl rfl rfl rfl rfl rfl rfl ?_; clear hM; intro w hM) | (refine rl_storeWM 4 hM ag31 rfl rfl rfl rfl rfl rfl rfl ?_; clear hM; intro w hM) | (refine rl_storeWM 5 hM ag31 rfl rfl rfl rfl rfl rfl rfl ?_; clear hM; intro w hM) | (refine rl_storeWM 6 hM ag31 rfl rfl rfl rfl rfl rfl rfl ?_; clear hM; intro w hM) | (refine rl_storeWM 7 hM ag31 rfl rfl rfl rfl rfl rfl rfl ?_; clear hM; intro w hM)) | (refine rl_allocAM (d := 19) hM ag31 rfl ?_; clear hM; intro w b19 hM)))
          replace hM : Mem w0 w (hp 67 31 h hv 40 l2 cs [.blk b19 (ndCells l2[i] (.slice ka l2[i].kids.length kc)) 31, .own (.slice (some ⟨bb, 0, none⟩) l.length bc) 31 4 l.length cs2]) V2 := (hM.front 2 rfl).front 2 rfl
          unfold ndCells at hrow hM
          refine drawnM_ 12 [(0, false), (2, false), (3, false), (4, false), (5, false), (1, true), (6, true), (7, true), (8, false), (9, false), (10, false), (11, false)] (fun w => Mem w0 w [.blk b19 [.int .i64 l2[i].form, .int .i64 l2[i].n, St l2[i].name, .slice ka l2[i].kids.length kc] 31, .own (.slice (some ⟨bb, 0, none⟩) l.length bc) 31 4 l.length cs2] V2) hM mo (by kernel_rfl) (fun _ h => h.dropn 2) ?_
          clear hM
          intro w hM
          (try ((first | refine rx_loadAV rfl (fun _ h => h) ag31 rfl rfl (by assumption) (by rfl) ?_ | refine rx_loadAM (vs := [_, _, _, _]) 0 rfl (fun _ h => h) ag31 rfl rfl rfl rfl rfl ?_ | refine rx_loadAM (vs := [_, _, _, _]) 1 rfl (fun _ h => h) ag31 rfl rfl rfl rfl rfl ?_ | refine rx_loadAM (vs := [_, _, _, _]) 2 rfl (fun _ h => h) ag31 rfl rfl rfl rfl rfl ?_ | refine rx_loadAM (vs := [_, _, _, _]) 3 rfl (fun _ h => h) ag31 rfl rfl rfl rfl rfl ?_ | refine rx_loadAM (vs := [_, _, _, _]) 4 rfl (fun _ h => h) ag31 rfl rfl rfl rfl rfl ?_ | refine rx_loadAM (vs := [_, _, _, _]) 5 rfl (fun _ h => h) ag31 rfl rfl rfl rfl rfl ?_ | refine rx_loadAM (vs := [_, _, _, _]) 6 rfl (fun _ h => h) ag31 rfl rfl rfl rfl rfl ?_ | refine rx_loadAM (vs := [_, _, _, _]) 7 rfl (fun _ h => h) ag31 rfl rfl rfl rfl rfl ?_ | refine rx_loadAO (vs := [_, _, _, _]) 0 rfl (fun _ h => h) ag31 rfl rfl rfl (by assumption) rfl ?_ | refine rx_loadAO (vs := [_, _, _, _]) 1 rfl (fun _ h => h) ag31 rfl rfl rfl (by assumption) rfl ?_ | refine rx_loadAO (vs := [_, _, _, _]) 2 rfl (fun _ h => h) ag31 rfl rfl rfl (by assumption) rfl ?_ | refine rx_loadAO (vs := [_, _, _, _]) 3 rfl (fun _ h => h) ag31 rfl rfl rfl (by assumption) rfl ?_ | refine rx_loadAO (vs := [_, _, _, _]) 4 rfl (fun _ h => h) ag31 rfl rfl rfl (by assumption) rfl ?_ | refine rx_loadAO (vs := [_, _, _, _]) 5 rfl (fun _ h => h) ag31 rfl rfl rfl (by assumption) rfl ?_ | refine rx_loadAO (vs := [_, _, _, _]) 6 rfl (fun _ h => h) ag31 rfl rfl rfl (by assumption) rfl ?_ | refine rx_loadAO (vs := [_, _, _, _]) 7 rfl (fun _ h => h) ag31 rfl rfl rfl (by assumption) rfl ?_); (try (refine rx_move (v := (Value.slice _ _ _ : Value)) rfl rfl rfl ?_; (try (refine rx_move (v := (Value.int _ _ : Value)) rfl rfl rfl ?_; (try ((first | (refine rx_idx rfl sl60 rfl rfl rfl rfl ?_ ?_ ?_; omega; omega) | (apply rx_idx rfl sl60 rfl rfl rfl; assumption; omega; omega)); (try ((first | refine rx_loadAV rfl (fun _ h => h) ag31 rfl rfl (by assumption) (by rfl) ?_ | refine rx_loadAM (vs := [_, _, _, _]) 0 rfl (fun _ h => h) ag31 rfl rfl rfl rfl rfl ?_ | refine rx_loadAM (vs := [_, _, _, _]) 1 rfl (fun _ h => h) ag31 rfl rfl rfl rfl rfl ?_ | refine rx_loadAM (vs := [_, _, _, _]) 2 rfl (fun _ h => h) ag31 rfl rfl rfl rfl rfl ?_ | refine rx_loadAM (vs := [_, _, _, _]) 3 rfl (fun _ h => h) ag31 rfl rfl rfl rfl rfl ?_ | refine rx_loadAM (vs := [_, _, _, _]) 4 rfl (fun _ h => h) ag31 rfl rfl rfl rfl rfl ?_ | refine rx_loadAM (vs := [_, _, _, _]) 5 rfl (fun _ h => h) ag31 rfl rfl rfl rfl rfl ?_ | refine rx_loadAM (vs := [_, _, _, _]) 6 rfl (fun _ h => h) ag31 rfl rfl rfl rfl rfl ?_ | refine rx_loadAM (vs := [_, _, _, _]) 7 rfl (fun _ h => h) ag31 rfl rfl rfl rfl rfl ?_ | refine rx_loadAO (vs := [_, _, _, _]) 0 rfl (fun _ h => h) ag31 rfl rfl rfl (by assumption) rfl ?_ | refine rx_loadAO (vs := [_, _, _, _]) 1 rfl (fun _ h => h) ag31 rfl rfl rfl (by assumption) rfl ?_ | refine rx_loadAO (vs := [_, _, _, _]) 2 rfl (fun _ h => h) ag31 rfl rfl rfl (by assumption) rfl ?_ | refine rx_loadAO (vs := [_, _, _, _]) 3 rfl (fun _ h => h) ag31 rfl rfl rfl (by assumption) rfl ?_ | refine rx_loadAO (vs := [_, _, _, _]) 4 rfl (fun _ h => h) ag31 rfl rfl rfl (by assumption) rfl ?_ | refine rx_loadAO (vs := [_, _, _, _]) 5 rfl (fun _ h => h) ag31 rfl rfl rfl (by assumption) rfl ?_ | refine rx_loadAO (vs := [_, _, _, _]) 6 rfl (fun _ h => h) ag31 rfl rfl rfl (by assumption) rfl ?_ | refine rx_loadAO (vs := [_, _, _, _]) 7 rfl (fun _ h => h) ag31 rfl rfl rfl (by assumption) rfl ?_)))))))))))
          have hS : ∀ {w : World}, Mem w0 w (hp 67 31 h hv 40 l2 cs [.blk b19 [.int .i64 l2[i].form, .int .i64 l2[i].n, St l2[i].name, .slice ka l2[i].kids.length kc] 31, .own (.slice (some ⟨bb, 0, none⟩) l.length bc) 31 4 l.length cs2]) V2 → Mem w0 w [.blk b19 [.int .i64 l2[i].form, .int .i64 l2[i].n, St l2[i].name, .slice ka l2[i].kids.length kc] 31, .own (.slice (some ⟨bb, 0, none⟩) l.length bc) 31 4 l.length cs2] V2 := fun h => h.dropn 2
          refine rx_eff rfl (fun Kx hKx => ?_)
          refine rl_callf fn20 (plain_ok w0 w _ V2 l2[i] _ hM hkv) rfl rfl ?_
          clear hM
          rintro _ w ⟨rfl, hM⟩
          refine rl_nil (kq_normal (hKx _ _ (hS hM) ?_))
          refine rx_eff rfl (fun Kx hKx => ?_)
          refine rl_callf fn20 (plain_ok w0 w _ V2 l[i] _ hM hk0) rfl rfl ?_
          clear hM
          rintro _ w ⟨rfl, hM⟩
          refine rl_nil (kq_normal (hKx _ _ (hS hM) ?_))
          refine rx_eff rfl (fun Kx hKx => ?_)
          refine rl_callf fn31 (one_ok w0 w _ V2 (plainN l2[i]) (plainN l[i]) _ _ hM hkv hk0) rfl rfl ?_
          clear hM
          rintro _ w ⟨rfl, hM⟩
          refine rl_nil (kq_normal (hKx _ _ (hS hM) ?_))
          have hsm := hsame i hlt hlt2
          cases ho : oneB (plainN l2[i]) (plainN l[i]) with
          | true =>
            (try (refine rx_not rfl rfl rfl ?_; (try (refine rx_move (v := (Value.bool _ : Value)) rfl rfl rfl ?_; (try ((first | refine rx_off rfl rfl ?_ | refine rx_move (v := (Value.int _ _ : Value)) rfl rfl rfl ?_); (try ((first | refine rx_off rfl rfl ?_ | refine rx_move (v := (Value.int _ _ : Value)) rfl rfl rfl ?_)))))))))
            refine rx_nil rfl ?_
            (repeat (first | refine sq_normal ?_ | refine rl_nil ?_ | refine cond_f rfl ?_ | refine skip_ ?_ | refine inBlock_normal ?_ | refine np_normal ?_ | (refine region_ (id := 22) ?_; (try (refine rl_move (v := (Value.int _ _ : Value)) rfl rfl ?_; (try ((refine rl_add rfl rfl rfl ?_ ?_ ?_; omega; omega); (try (refine rl_assign (v := (Value.int _ _ : Value)) rfl rfl ?_))))))) | (first | refine rl_off rfl ?_ | refine rl_move (v := (Value.pointer _ : Value)) rfl rfl ?_) | refine rl_pick (v := (Value.bool _ : Value)) rfl rfl rfl ?_))
            exact kq_normal (hL0 (l.length - (i + 1)) _ _ (by omega) (by (repeat (first | with_reducible exact Agree.ov | with_reducible exact Agree.refl _ _ | refine Agree.upd rfl ?_ | refine Agree.ovs rfl ?_))) ⟨i + 1, V2, hv, cs, rfl, by omega, rfl, hM.erase 2, hcs, hcs2⟩)
          | false =>
            obtain ⟨hia, her0⟩ : (i : Int) = a ∧ er = 0 := by
              rcases hsm with h | h
              · rw [ho] at h; cases h
              · exact h
            (try (refine rx_not rfl rfl rfl ?_; (try (refine rx_move (v := (Value.bool _ : Value)) rfl rfl rfl ?_; (try ((first | refine rx_off rfl rfl ?_ | refine rx_move (v := (Value.int _ _ : Value)) rfl rfl rfl ?_); (try ((first | refine rx_off rfl rfl ?_ | refine rx_move (v := (Value.int _ _ : Value)) rfl rfl rfl ?_)))))))))
            refine rx_nil rfl ?_
            (repeat (first | refine sq_normal ?_ | refine rl_nil ?_ | refine cond_f rfl ?_ | refine skip_ ?_ | refine inBlock_normal ?_ | refine np_normal ?_ | (refine region_ (id := 22) ?_; (try (refine rl_move (v := (Value.int _ _ : Value)) rfl rfl ?_; (try ((refine rl_add rfl rfl rfl ?_ ?_ ?_; omega; omega); (try (refine rl_assign (v := (Value.int _ _ : Value)) rfl rfl ?_))))))) | refine rl_move (v := (Value.bool _ : Value)) rfl rfl ?_ | refine rl_move (v := (Value.int _ _ : Value)) rfl rfl ?_ | refine rl_pick (v := (Value.bool _ : Value)) rfl rfl rfl ?_ | (first | refine rl_off rfl ?_ | (refine rl_neq_t rfl rfl rfl ?_ ?_; omega) | (refine rl_neq_f rfl rfl rfl ?_ ?_; omega))))
            exact kq_normal (hL0 (l.length - (i + 1)) _ _ (by omega) (by (repeat (first | with_reducible exact Agree.ov | with_reducible exact Agree.refl _ _ | refine Agree.upd rfl ?_ | refine Agree.ovs rfl ?_))) ⟨i + 1, V2, hv, cs, rfl, by omega, rfl, hM.erase 2, hcs, hcs2⟩)
        · clear hL0
          rcases her2 with ⟨hm, hl2, her0⟩ | ⟨hm, hl2, her0⟩
          · obtain ⟨s1, s2, s3⟩ := setInd_fol hO haa.1 haa.2 hbb.1 hbb.2 hps hm
            rw [← hl2] at s1 s3
            subst her0
            (repeat (first | refine seq_ ?_ | refine sq_normal ?_ | refine sq_exit ?_ | refine rl_nil ?_ | refine cond_t rfl ?_ | refine cond_f rfl ?_ | refine exit_ ?_ | refine inBlock_exit ?_ | refine kq_exit ?_ | (refine region_ (id := 26) ?_; (try (refine rl_move (v := (Value.int _ _ : Value)) rfl rfl ?_; (try ((first | (refine rl_eql_t rfl rfl rfl ?_ ?_; omega) | (refine rl_eql_f rfl rfl rfl ?_ ?_; omega))))))) | (refine region_ (id := 27) ?_; (try (refine rl_move (v := (Value.pointer _ : Value)) rfl rfl ?_; (try (refine rl_move (v := (Value.int _ _ : Value)) rfl rfl ?_))))) | (first | (refine rl_lss_t rfl rfl rfl ?_ ?_; omega) | (refine rl_lss_f rfl rfl rfl ?_ ?_; omega))))
            refine rl_callf fn26 (follow_ok w0 w _ V h 40 a l2 ⟨hv, cs, hM, hcs⟩ hO2.ends) rfl rfl ?_
            clear hM hcs
            rintro _ w ⟨rfl, hv, cs, hM, hcs⟩
            rw [s1]
            (repeat (first | refine rl_move (v := (Value.bool _ : Value)) rfl rfl ?_ | refine rl_move (v := (Value.pointer _ : Value)) rfl rfl ?_ | (first | (refine rl_eql_t rfl rfl rfl ?_ ?_; omega) | (refine rl_eql_f rfl rfl rfl ?_ ?_; omega)) | refine rl_move (v := (Value.int _ _ : Value)) rfl rfl ?_ | refine rl_pick (v := (Value.bool _ : Value)) rfl rfl rfl ?_ | (first | refine rl_off rfl ?_ | (refine rl_neq_t rfl rfl rfl ?_ ?_; omega) | (refine rl_neq_f rfl rfl rfl ?_ ?_; omega))))
            refine rl_callf fn26 (follow_ok w0 w _ V h 40 b l2 ⟨hv, cs, hM, hcs⟩ hO2.ends) rfl rfl ?_
            clear hM hcs
            rintro _ w ⟨rfl, hv, cs, hM, hcs⟩
            rw [s3]
            (repeat (first | refine rl_move (v := (Value.bool _ : Value)) rfl rfl ?_ | (first | (refine rl_eql_t rfl rfl rfl ?_ ?_; omega) | (refine rl_eql_f rfl rfl rfl ?_ ?_; omega)) | refine rl_move (v := (Value.int _ _ : Value)) rfl rfl ?_ | refine rl_pick (v := (Value.bool _ : Value)) rfl rfl rfl ?_))
            refine rl_callf fn17 (lives_ok w0 w _ V hM) rfl rfl ?_
            clear hM hcs
            rintro _ w ⟨V3, hV3, rfl, hM⟩
            (repeat (first | refine sq_normal ?_ | refine sq_ret ?_ | refine rl_nil ?_ | refine ret_ ?_ | refine rl_assign (v := (Value.bool _ : Value)) rfl rfl ?_ | refine rl_pick (v := (Value.bool _ : Value)) rfl rfl rfl ?_))
            exact bp_ret1 (v := Value.bool _) rfl rfl ⟨rfl, hM.below⟩
          · subst her0 hl2
            obtain ⟨bb, bcc, hbe, _, _⟩ := hM.ownA (i := 2) rfl hn0
            obtain ⟨rfl, rfl⟩ : ba = some ⟨bb, 0, none⟩ ∧ bc = bcc := by simpa using hbe
            have hcl := hcs2.len
            have hpl := hps.len
            obtain ⟨q, hq⟩ := List.mem_iff_getElem?.1 hm
            have hql := (List.getElem?_eq_some_iff.1 hq).1
            (repeat (first | refine seq_ ?_ | refine sq_normal ?_ | refine sq_exit ?_ | refine rl_nil ?_ | refine cond_f rfl ?_ | refine skip_ ?_ | refine exit_ ?_ | refine block_ ?_ | refine inBlock_exit ?_ | refine kq_exit ?_ | (refine region_ (id := 26) ?_; (try (refine rl_move (v := (Value.int _ _ : Value)) rfl rfl ?_; (try ((first | (refine rl_eql_t rfl rfl rfl ?_ ?_; omega) | (refine rl_eql_f rfl rfl rfl ?_ ?_; omega))))))) | (refine region_ (id := 28) ?_; (try (refine rl_move (v := (Value.int _ _ : Value)) rfl rfl ?_; (try (refine rl_assign (v := (Value.int _ _ : Value)) rfl rfl ?_))))) | (refine region_ (id := 29) ?_; (try (refine rl_assign (v := (Value.int _ _ : Value)) rfl rfl ?_))) | (first | (refine rl_lss_t rfl rfl rfl ?_ ?_; omega) | (refine rl_lss_f rfl rfl rfl ?_ ?_; omega))))
            refine loop2 [(21, 23), (157, 195)] 21 22 (fun m vp vi wr => ∃ (i : Nat) (p : Int), vp = .int .i64 p ∧ vi = .int .i64 i ∧ i ≤ q ∧ m = q - i ∧ ps[i]? = some p ∧ wr = w) _
              ⟨0, b, rfl, rfl, Nat.zero_le _, rfl, by have := hps.head; rwa [List.head?_eq_getElem?] at this, rfl⟩ ?_
            rintro m τ3 vp vi w1 ⟨i, p, rfl, rfl, hi, rfl, hpi, hww⟩ K0 hL0
            subst hww
            obtain ⟨hp0, nd, hnd, hnext⟩ := hps.nth i p hpi
            have hplt := (List.getElem?_eq_some_iff.1 hnd).1
            obtain ⟨kv, hrow, hkv⟩ := hcs2.get hnd
            obtain ⟨ka, kc, kb, koff, rfl, _, _, hka, hkel⟩ := id hkv.open
            unfold ndCells at hrow
            by_cases hpa : p = a
            · (repeat (first | refine seq_ ?_ | refine sq_normal ?_ | refine sq_exit ?_ | refine rl_nil ?_ | refine cond_f rfl ?_ | refine exit_ ?_ | refine inBlock_exit ?_ | refine kq_exit ?_ | (refine region_ (id := 30) ?_; (try (refine rl_move (v := (Value.int _ _ : Value)) rfl rfl ?_; (try (refine rl_move (v := (Value.slice _ _ _ : Value)) rfl rfl ?_; (try (refine rl_len sl60 rfl rfl ?_; (try ((first | (refine rl_lss_t rfl rfl rfl ?_ ?_; omega) | (refine rl_lss_f rfl rfl rfl ?_ ?_; omega)); (try (refine rl_move (v := (Value.bool _ : Value)) rfl rfl ?_; (try ((first | refine rl_off rfl ?_ | refine rl_move (v := (Value.int _ _ : Value)) rfl rfl ?_); (try ((first | refine rl_off rfl ?_ | refine rl_move (v := (Value.int _ _ : Value)) rfl rfl ?_); (try ((first | refine rl_off rfl ?_ | (refine rl_neq_t rfl rfl rfl ?_ ?_; omega) | (refine rl_neq_f rfl rfl rfl ?_ ?_; omega)); (try (refine rl_pick (v := (Value.bool _ : Value)) rfl rfl rfl ?_; (try (refine rl_move (v := (Value.bool _ : Value)) rfl rfl ?_; (try ((first | refine rl_off rfl ?_ | refine rl_move (v := (Value.slice _ _ _ : Value)) rfl rfl ?_); (try ((first | refine rl_off rfl ?_ | refine rl_move (v := (Value.int _ _ : Value)) rfl rfl ?_); (try ((first | refine rl_off rfl ?_ | (refine rl_idx sl60 rfl rfl rfl rfl ?_ ?_ ?_; omega; omega) | (apply rl_idx sl60 rfl rfl rfl; assumption; omega; omega)); (try ((first | refine rl_off rfl ?_ | refine rl_fld fd31_0 rfl rfl ?_); (try ((first | refine rl_off rfl ?_ | refine rl_loadV hM vt3 rfl rfl (by first | assumption | exact VRow.get (by assumption) rfl | exact VRow.get0 (by assumption) rfl) ?_ | refine rl_loadM 0 hM vt3 rfl rfl rfl (by first | rfl | assumption) ?_ | refine rl_loadM 1 hM vt3 rfl rfl rfl (by first | rfl | assumption) ?_ | refine rl_loadM 2 hM vt3 rfl rfl rfl (by first | rfl | assumption) ?_ | refine rl_loadM 3 hM vt3 rfl rfl rfl (by first | rfl | assumption) ?_ | refine rl_loadM 4 hM vt3 rfl rfl rfl (by first | rfl | assumption) ?_ | refine rl_loadM 5 hM vt3 rfl rfl rfl (by first | rfl | assumption) ?_ | refine rl_loadM 6 hM vt3 rfl rfl rfl (by first | rfl | assumption) ?_ | refine rl_loadM 7 hM vt3 rfl rfl rfl (by first | rfl | assumption) ?_ | refine rl_loadO 0 hM vt3 rfl rfl rfl (by first | assumption | exact ORow.get (by assumption) rfl | exact ORow.get0 (by assumption) rfl) ?_ | refine rl_loadO 1 hM vt3 rfl rfl rfl (by first | assumption | exact ORow.get (by assumption) rfl | exact ORow.get0 (by assumption) rfl) ?_ | refine rl_loadO 2 hM vt3 rfl rfl rfl (by first | assumption | exact ORow.get (by assumption) rfl | exact ORow.get0 (by assumption) rfl) ?_ | refine rl_loadO 3 hM vt3 rfl rfl rfl (by first | assumption | exact ORow.get (by assumption) rfl | exact ORow.get0 (by assumption) rfl) ?_ | refine rl_loadO 4 hM vt3 rfl rfl rfl (by first | assumption | exact ORow.get (by assumption) rfl | exact ORow.get0 (by assumption) rfl) ?_ | refine rl_loadO 5 hM vt3 rfl rfl rfl (by first | assumption | exact ORow.get (by assumption) rfl | exact ORow.get0 (by assumption) rfl) ?_ | refine rl_loadO 6 hM vt3 rfl rfl rfl (by first | assumption | exact ORow.get (by assumption) rfl | exact ORow.get0 (by assumption) rfl) ?_ | refine rl_loadO 7 hM vt3 rfl rfl rfl (by first | assumption | exact ORow.get (by assumption) rfl | exact ORow.get0 (by assumption) rfl) ?_); (try ((first | refine rl_off rfl ?_ | (refine rl_eql_t rfl rfl rfl ?_ ?_; omega) | (refine rl_eql_f rfl rfl rfl ?_ ?_; omega)); (try (refine rl_pick (v := (Value.bool _ : Value)) rfl rfl rfl ?_; (try (refine rl_move (v := (Value.bool _ : Value)) rfl rfl ?_; (try ((first | refine rl_off rfl ?_ | refine rl_move (v := (Value.slice _ _ _ : Value)) rfl rfl ?_); (try ((first | refine rl_off rfl ?_ | refine rl_move (v := (Value.int _ _ : Value)) rfl rfl ?_); (try ((first | refine rl_off rfl ?_ | (refine rl_idx sl60 rfl rfl rfl rfl ?_ ?_ ?_; omega; omega) | (apply rl_idx sl60 rfl rfl rfl; assumption; omega; omega)); (try ((first | refine rl_off rfl ?_ | refine rl_fld fd31_3 rfl rfl ?_); (try ((first | refine rl_off rfl ?_ | refine rl_loadV hM vt29 rfl rfl (by first | assumption | exact VRow.get (by assumption) rfl | exact VRow.get0 (by assumption) rfl) ?_ | refine rl_loadM 0 hM vt29 rfl rfl rfl (by first | rfl | assumption) ?_ | refine rl_loadM 1 hM vt29 rfl rfl rfl (by first | rfl | assumption) ?_ | refine rl_loadM 2 hM vt29 rfl rfl rfl (by first | rfl | assumption) ?_ | refine rl_loadM 3 hM vt29 rfl rfl rfl (by first | rfl | assumption) ?_ | refine rl_loadM 4 hM vt29 rfl rfl rfl (by first | rfl | assumption) ?_ | refine rl_loadM 5 hM vt29 rfl rfl rfl (by first | rfl | assumption) ?_ | refine rl_loadM 6 hM vt29 rfl rfl rfl (by first | rfl | assumption) ?_ | refine rl_loadM 7 hM vt29 rfl rfl rfl (by first | rfl | assumption) ?_ | refine rl_loadO 0 hM vt29 rfl rfl rfl (by first | assumption | exact ORow.get (by assumption) rfl | exact ORow.get0 (by assumption) rfl) ?_ | refine rl_loadO 1 hM vt29 rfl rfl rfl (by first | assumption | exact ORow.get (by assumption) rfl | exact ORow.get0 (by assumption) rfl) ?_ | refine rl_loadO 2 hM vt29 rfl rfl rfl (by first | assumption | exact ORow.get (by assumption) rfl | exact ORow.get0 (by assumption) rfl) ?_ | refine rl_loadO 3 hM vt29 rfl rfl rfl (by first | assumption | exact ORow.get (by assumption) rfl | exact ORow.get0 (by assumption) rfl) ?_ | refine rl_loadO 4 hM vt29 rfl rfl rfl (by first | assumption | exact ORow.get (by assumption) rfl | exact ORow.get0 (by assumption) rfl) ?_ | refine rl_loadO 5 hM vt29 rfl rfl rfl (by first | assumption | exact ORow.get (by assumption) rfl | exact ORow.get0 (by assumption) rfl) ?_ | refine rl_loadO 6 hM vt29 rfl rfl rfl (by first | assumption | exact ORow.get (by assumption) rfl | exact ORow.get0 (by assumption) rfl) ?_ | refine rl_loadO 7 hM vt29 rfl rfl rfl (by first | assumption | exact ORow.get (by assumption) rfl | exact ORow.get0 (by assumption) rfl) ?_); (try ((first | refine rl_off rfl ?_ | refine rl_len sl29 rfl rfl ?_); (try ((first | refine rl_off rfl ?_ | (refine rl_eql_t rfl rfl rfl ?_ ?_; omega) | (refine rl_eql_f rfl rfl rfl ?_ ?_; omega)); (try (refine rl_pick (v := (Value.bool _ : Value)) rfl rfl rfl ?_))))))))))))))))))))))))))))))))))))))))))))))))))))) | (refine region_ (id := 33) ?_; (try (refine rl_move (v := (Value.int _ _ : Value)) rfl rfl ?_; (try ((first | (refine rl_eql_t rfl rfl rfl ?_ ?_; omega) | (refine rl_eql_f rfl rfl rfl ?_ ?_; omega)); (try (refine rl_move (v := (Value.bool _ : Value)) rfl rfl ?_; (try ((first | refine rl_off rfl ?_ | refine rl_move (v := (Value.int _ _ : Value)) rfl rfl ?_); (try ((first | refine rl_off rfl ?_ | refine rl_move (v := (Value.int _ _ : Value)) rfl rfl ?_); (try ((first | refine rl_off rfl ?_ | (refine rl_eql_t rfl rfl rfl ?_ ?_; omega) | (refine rl_eql_f rfl rfl rfl ?_ ?_; omega)); (try (refine rl_pick (v := (Value.bool _ : Value)) rfl rfl rfl ?_; (try (refine rl_move (v := (Value.bool _ : Value)) rfl rfl ?_)))))))))))))))))))
              refine rl_callf fn17 (lives_ok w0 w1 _ V hM) rfl rfl ?_
              clear hM hcs
              rintro _ w ⟨V3, hV3, rfl, hM⟩
              (repeat (first | refine sq_normal ?_ | refine rl_nil ?_ | refine ret_ ?_ | refine rl_assign (v := (Value.bool _ : Value)) rfl rfl ?_ | refine rl_pick (v := (Value.bool _ : Value)) rfl rfl rfl ?_))
              exact bp_ret1 (v := Value.bool _) rfl rfl ⟨rfl, hM.below⟩
            · have hiq : i < q := by
                rcases Nat.lt_or_ge i q with h | h
                · exact h
                · obtain rfl : i = q := by omega
                  rw [hpi] at hq; cases hq; exact absurd rfl hpa
              rcases hnext with ⟨hlt, hf, k, hk, hkn⟩ | ⟨hlt, hf⟩
              · have hkb := hps.bound k (List.mem_of_getElem? hkn)
                have hkl : nd.kids.length = 1 := by rw [hk]; rfl
                have hka' := hka (by omega)
                subst hka'
                have hkv0 : V ⟨kb, koff + (0 : Int).toNat, none⟩ = some (.int .i64 k) := hkel 0 k (by rw [hk]; rfl)
                have hak : around k (l2.length : Int) = k := by unfold around; rw [if_neg (by omega)]; exact Int.emod_eq_of_lt hkb.1 hkb.2
                (repeat (first | refine seq_ ?_ | refine sq_normal ?_ | refine rl_nil ?_ | refine cond_t rfl ?_ | refine skip_ ?_ | refine block_ ?_ | (refine region_ (id := 30) ?_; (try (refine rl_move (v := (Value.int _ _ : Value)) rfl rfl ?_; (try (refine rl_move (v := (Value.slice _ _ _ : Value)) rfl rfl ?_; (try (refine rl_len sl60 rfl rfl ?_; (try ((first | (refine rl_lss_t rfl rfl rfl ?_ ?_; omega) | (refine rl_lss_f rfl rfl rfl ?_ ?_; omega)); (try (refine rl_move (v := (Value.bool _ : Value)) rfl rfl ?_; (try ((first | refine rl_off rfl ?_ | refine rl_move (v := (Value.int _ _ : Value)) rfl rfl ?_); (try ((first | refine rl_off rfl ?_ | refine rl_move (v := (Value.int _ _ : Value)) rfl rfl ?_); (try ((first | refine rl_off rfl ?_ | (refine rl_neq_t rfl rfl rfl ?_ ?_; omega) | (refine rl_neq_f rfl rfl rfl ?_ ?_; omega)); (try (refine rl_pick (v := (Value.bool _ : Value)) rfl rfl rfl ?_; (try (refine rl_move (v := (Value.bool _ : Value)) rfl rfl ?_; (try ((first | refine rl_off rfl ?_ | refine rl_move (v := (Value.slice _ _ _ : Value)) rfl rfl ?_); (try ((first | refine rl_off rfl ?_ | refine rl_move (v := (Value.int _ _ : Value)) rfl rfl ?_); (try ((first | refine rl_off rfl ?_ | (refine rl_idx sl60 rfl rfl rfl rfl ?_ ?_ ?_; omega; omega) | (apply rl_idx sl60 rfl rfl rfl; assumption; omega; omega)); (try ((first | refine rl_off rfl ?_ | refine rl_fld fd31_0 rfl rfl ?_); (try ((first | refine rl_off rfl ?_ | refine rl_loadV hM vt3 rfl rfl (by first | assumption | exact VRow.get (by assumption) rfl | exact VRow.get0 (by assumption) rfl) ?_ | refine rl_loadM 0 hM vt3 rfl rfl rfl (by first | rfl | assumption) ?_ | refine rl_loadM 1 hM vt3 rfl rfl rfl (by first | rfl | assumption) ?_ | refine rl_loadM 2 hM vt3 rfl rfl rfl (by first | rfl | assumption) ?_ | refine rl_loadM 3 hM vt3 rfl rfl rfl (by first | rfl | assumption) ?_ | refine rl_loadM 4 hM vt3 rfl rfl rfl (by first | rfl | assumption) ?_ | refine rl_loadM 5 hM vt3 rfl rfl rfl (by first | rfl | assumption) ?_ | refine rl_loadM 6 hM vt3 rfl rfl rfl (by first | rfl | assumption) ?_ | refine rl_loadM 7 hM vt3 rfl rfl rfl (by first | rfl | assumption) ?_ | refine rl_loadO 0 hM vt3 rfl rfl rfl (by first | assumption | exact ORow.get (by assumption) rfl | exact ORow.get0 (by assumption) rfl) ?_ | refine rl_loadO 1 hM vt3 rfl rfl rfl (by first | assumption | exact ORow.get (by assumption) rfl | exact ORow.get0 (by assumption) rfl) ?_ | refine rl_loadO 2 hM vt3 rfl rfl rfl (by first | assumption | exact ORow.get (by assumption) rfl | exact ORow.get0 (by assumption) rfl) ?_ | refine rl_loadO 3 hM vt3 rfl rfl rfl (by first | assumption | exact ORow.get (by assumption) rfl | exact ORow.get0 (by assumption) rfl) ?_ | refine rl_loadO 4 hM vt3 rfl rfl rfl (by first | assumption | exact ORow.get (by assumption) rfl | exact ORow.get0 (by assumption) rfl) ?_ | refine rl_loadO 5 hM vt3 rfl rfl rfl (by first | assumption | exact ORow.get (by assumption) rfl | exact ORow.get0 (by assumption) rfl) ?_ | refine rl_loadO 6 hM vt3 rfl rfl rfl (by first | assumption | exact ORow.get (by assumption) rfl | exact ORow.get0 (by assumption) rfl) ?_ | refine rl_loadO 7 hM vt3 rfl rfl rfl (by first | assumption | exact ORow.get (by assumption) rfl | exact ORow.get0 (by assumption) rfl) ?_); (try ((first | refine rl_off rfl ?_ | (refine rl_eql_t rfl rfl rfl ?_ ?_; omega) | (refine rl_eql_f rfl rfl rfl ?_ ?_; omega)); (try (refine rl_pick (v := (Value.bool _ : Value)) rfl rfl rfl ?_; (try (refine rl_move (v := (Value.bool _ : Value)) rfl rfl ?_; (try ((first | refine rl_off rfl ?_ | refine rl_move (v := (Value.slice _ _ _ : Value)) rfl rfl ?_); (try ((first | refine rl_off rfl ?_ | refine rl_move (v := (Value.int _ _ : Value)) rfl rfl ?_); (try ((first | refine rl_off rfl ?_ | (refine rl_idx sl60 rfl rfl rfl rfl ?_ ?_ ?_; omega; omega) | (apply rl_idx sl60 rfl rfl rfl; assumption; omega; omega)); (try ((first | refine rl_off rfl ?_ | refine rl_fld fd31_3 rfl rfl ?_); (try ((first | refine rl_off rfl ?_ | refine rl_loadV hM vt29 rfl rfl (by first | assumption | exact VRow.get (by assumption) rfl | exact VRow.get0 (by assumption) rfl) ?_ | refine rl_loadM 0 hM vt29 rfl rfl rfl (by first | rfl | assumption) ?_ | refine rl_loadM 1 hM vt29 rfl rfl rfl (by first | rfl | assumption) ?_ | refine rl_loadM 2 hM vt29 rfl rfl rfl (by first | rfl | assumption) ?_ | refine rl_loadM 3 hM vt29 rfl rfl rfl (by first | rfl | assumption) ?_ | refine rl_loadM 4 hM vt29 rfl rfl rfl (by first | rfl | assumption) ?_ | refine rl_loadM 5 hM vt29 rfl rfl rfl (by first | rfl | assumption) ?_ | refine rl_loadM 6 hM vt29 rfl rfl rfl (by first | rfl | assumption) ?_ | refine rl_loadM 7 hM vt29 rfl rfl rfl (by first | rfl | assumption) ?_ | refine rl_loadO 0 hM vt29 rfl rfl rfl (by first | assumption | exact ORow.get (by assumption) rfl | exact ORow.get0 (by assumption) rfl) ?_ | refine rl_loadO 1 hM vt29 rfl rfl rfl (by first | assumption | exact ORow.get (by assumption) rfl | exact ORow.get0 (by assumption) rfl) ?_ | refine rl_loadO 2 hM vt29 rfl rfl rfl (by first | assumption | exact ORow.get (by assumption) rfl | exact ORow.get0 (by assumption) rfl) ?_ | refine rl_loadO 3 hM vt29 rfl rfl rfl (by first | assumption | exact ORow.get (by assumption) rfl | exact ORow.get0 (by assumption) rfl) ?_ | refine rl_loadO 4 hM vt29 rfl rfl rfl (by first | assumption | exact ORow.get (by assumption) rfl | exact ORow.get0 (by assumption) rfl) ?_ | refine rl_loadO 5 hM vt29 rfl rfl rfl (by first | assumption | exact ORow.get (by assumption) rfl | exact ORow.get0 (by assumption) rfl) ?_ | refine rl_loadO 6 hM vt29 rfl rfl rfl (by first | assumption | exact ORow.get (by assumption) rfl | exact ORow.get0 (by assumption) rfl) ?_ | refine rl_loadO 7 hM vt29 rfl rfl rfl (by first | assumption | exact ORow.get (by assumption) rfl | exact ORow.get0 (by assumption) rfl) ?_); (try ((first | refine rl_off rfl ?_ | refine rl_len sl29 rfl rfl ?_); (try ((first | refine rl_off rfl ?_ | (refine rl_eql_t rfl rfl rfl ?_ ?_; omega) | (refine rl_eql_f rfl rfl rfl ?_ ?_; omega)); (try (refine rl_pick (v := (Value.bool _ : Value)) rfl rfl rfl ?_))))))))))))))))))))))))))))))))))))))))))))))))))))) | (refine region_ (id := 32) ?_; (try (refine rl_move (v := (Value.slice _ _ _ : Value)) rfl rfl ?_; (try (refine rl_move (v := (Value.int _ _ : Value)) rfl rfl ?_; (try ((first | (refine rl_idx sl60 rfl rfl rfl rfl ?_ ?_ ?_; omega; omega) | (apply rl_idx sl60 rfl rfl rfl; assumption; omega; omega)); (try (refine rl_fld fd31_3 rfl rfl ?_; (try ((first | refine rl_loadV hM vt29 rfl rfl (by first | assumption | exact VRow.get (by assumption) rfl | exact VRow.get0 (by assumption) rfl) ?_ | refine rl_loadM 0 hM vt29 rfl rfl rfl (by first | rfl | assumption) ?_ | refine rl_loadM 1 hM vt29 rfl rfl rfl (by first | rfl | assumption) ?_ | refine rl_loadM 2 hM vt29 rfl rfl rfl (by first | rfl | assumption) ?_ | refine rl_loadM 3 hM vt29 rfl rfl rfl (by first | rfl | assumption) ?_ | refine rl_loadM 4 hM vt29 rfl rfl rfl (by first | rfl | assumption) ?_ | refine rl_loadM 5 hM vt29 rfl rfl rfl (by first | rfl | assumption) ?_ | refine rl_loadM 6 hM vt29 rfl rfl rfl (by first | rfl | assumption) ?_ | refine rl_loadM 7 hM vt29 rfl rfl rfl (by first | rfl | assumption) ?_ | refine rl_loadO 0 hM vt29 rfl rfl rfl (by first | assumption | exact ORow.get (by assumption) rfl | exact ORow.get0 (by assumption) rfl) ?_ | refine rl_loadO 1 hM vt29 rfl rfl rfl (by first | assumption | exact ORow.get (by assumption) rfl | exact ORow.get0 (by assumption) rfl) ?_ | refine rl_loadO 2 hM vt29 rfl rfl rfl (by first | assumption | exact ORow.get (by assumption) rfl | exact ORow.get0 (by assumption) rfl) ?_ | refine rl_loadO 3 hM vt29 rfl rfl rfl (by first | assumption | exact ORow.get (by assumption) rfl | exact ORow.get0 (by assumption) rfl) ?_ | refine rl_loadO 4 hM vt29 rfl rfl rfl (by first | assumption | exact ORow.get (by assumption) rfl | exact ORow.get0 (by assumption) rfl) ?_ | refine rl_loadO 5 hM vt29 rfl rfl rfl (by first | assumption | exact ORow.get (by assumption) rfl | exact ORow.get0 (by assumption) rfl) ?_ | refine rl_loadO 6 hM vt29 rfl rfl rfl (by first | assumption | exact ORow.get (by assumption) rfl | exact ORow.get0 (by assumption) rfl) ?_ | refine rl_loadO 7 hM vt29 rfl rfl rfl (by first | assumption | exact ORow.get (by assumption) rfl | exact ORow.get0 (by assumption) rfl) ?_); (try ((first | (refine rl_idx1 sl29 rfl rfl rfl rfl ?_ ?_ ?_; omega; omega) | (apply rl_idx1 sl29 rfl rfl rfl; assumption; omega; omega)); (try ((first | refine rl_loadV hM vt3 rfl rfl (by first | assumption | exact VRow.get (by assumption) rfl | exact VRow.get0 (by assumption) rfl) ?_ | refine rl_loadM 0 hM vt3 rfl rfl rfl (by first | rfl | assumption) ?_ | refine rl_loadM 1 hM vt3 rfl rfl rfl (by first | rfl | assumption) ?_ | refine rl_loadM 2 hM vt3 rfl rfl rfl (by first | rfl | assumption) ?_ | refine rl_loadM 3 hM vt3 rfl rfl rfl (by first | rfl | assumption) ?_ | refine rl_loadM 4 hM vt3 rfl rfl rfl (by first | rfl | assumption) ?_ | refine rl_loadM 5 hM vt3 rfl rfl rfl (by first | rfl | assumption) ?_ | refine rl_loadM 6 hM vt3 rfl rfl rfl (by first | rfl | assumption) ?_ | refine rl_loadM 7 hM vt3 rfl rfl rfl (by first | rfl | assumption) ?_ | refine rl_loadO 0 hM vt3 rfl rfl rfl (by first | assumption | exact ORow.get (by assumption) rfl | exact ORow.get0 (by assumption) rfl) ?_ | refine rl_loadO 1 hM vt3 rfl rfl rfl (by first | assumption | exact ORow.get (by assumption) rfl | exact ORow.get0 (by assumption) rfl) ?_ | refine rl_loadO 2 hM vt3 rfl rfl rfl (by first | assumption | exact ORow.get (by assumption) rfl | exact ORow.get0 (by assumption) rfl) ?_ | refine rl_loadO 3 hM vt3 rfl rfl rfl (by first | assumption | exact ORow.get (by assumption) rfl | exact ORow.get0 (by assumption) rfl) ?_ | refine rl_loadO 4 hM vt3 rfl rfl rfl (by first | assumption | exact ORow.get (by assumption) rfl | exact ORow.get0 (by assumption) rfl) ?_ | refine rl_loadO 5 hM vt3 rfl rfl rfl (by first | assumption | exact ORow.get (by assumption) rfl | exact ORow.get0 (by assumption) rfl) ?_ | refine rl_loadO 6 hM vt3 rfl rfl rfl (by first | assumption | exact ORow.get (by assumption) rfl | exact ORow.get0 (by assumption) rfl) ?_ | refine rl_loadO 7 hM vt3 rfl rfl rfl (by first | assumption | exact ORow.get (by assumption) rfl | exact ORow.get0 (by assumption) rfl) ?_); (try (refine rl_move (v := (Value.slice _ _ _ : Value)) rfl rfl ?_; (try (refine rl_len sl60 rfl rfl ?_)))))))))))))))))))))
                refine rl_callf fn11 (around_ok k (l2.length : Int) w1 (by omega) (by omega) (by omega) (by omega)) rfl rfl ?_
                rintro _ w ⟨rfl, rfl⟩
                rw [hak]
                (repeat (first | refine sq_normal ?_ | refine rl_nil ?_ | refine inBlock_normal ?_ | (refine region_ (id := 31) ?_; (try (refine rl_move (v := (Value.int _ _ : Value)) rfl rfl ?_; (try ((refine rl_add rfl rfl rfl ?_ ?_ ?_; omega; omega); (try (refine rl_assign (v := (Value.int _ _ : Value)) rfl rfl ?_))))))) | refine rl_assign (v := (Value.int _ _ : Value)) rfl rfl ?_))
                exact kq_normal (hL0 (q - (i + 1)) _ _ (by omega) (by (repeat (first | with_reducible exact Agree.ov | with_reducible exact Agree.refl _ _ | refine Agree.upd rfl ?_ | refine Agree.ovs rfl ?_))) ⟨i + 1, k, rfl, rfl, by omega, rfl, hkn, rfl⟩)
              · omega
  rw [hw0] at key
  exact key
end Go.Proofs.Ytoekjhalcjhegaa.Hep
