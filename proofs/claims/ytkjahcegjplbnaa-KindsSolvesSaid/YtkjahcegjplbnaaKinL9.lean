/- The walk of fuguelaw03.KindsSolves. -/
import Derived.Test.YtkjahcegjplbnaaKinL7
import Derived.Test.YtkjahcegjplbnaaKinW17
set_option linter.unusedVariables false
set_option linter.unusedSimpArgs false
namespace Go.Proofs.Ytkjahcegjplbnaa.Kin
open Go Go.Eng Go.RowKit Go.Kn
attribute [local irreducible] RL RX KQ SQ Exit.inBlock Exit.then BP NP CallsOk IsSl IsRows IsInts IsBools Own Blk Code.wp Calls wpList
theorem GoodSt.upto {st : St1} {a b : Tm} {res : Except Er St1} (h : GoodSt st) (hs : Sol st a b res) (ha : Low a) (hb : Low b) : GoodSt (upto res st) := by
  cases res with
  | ok st' => exact h.step hs ha hb rfl
  | error e => exact h
theorem Fine.upto {st : St1} {a b : Tm} {res : Except Er St1} (h : Fine st) (hs : Sol st a b res) (ha : Low a) (hb : Low b) : Fine (upto res st) := by
  cases res with
  | ok st' => exact h.step hs ha.2 hb.2 st' rfl
  | error e => exact h
set_option maxRecDepth 4000 in
set_option maxHeartbeats 4000000 in
theorem law8 (v : Value) (ls : List (List Int)) (w : World) (hI : IsRows w.cell? v ls) : CallsOk Try.prog 8 #[v] w fun r w' => r = .bool true ∧ Below w.heap.size w w' := by
  have hM := Mem.init w
  obtain ⟨w0, hw0⟩ : ∃ w0, w0 = w := ⟨_, rfl⟩
  obtain ⟨V, hVd⟩ : ∃ V, V = w.cell? := ⟨_, rfl⟩
  rw [← hVd] at hM hI
  have hM : Mem w0 w [] V := by rw [hw0]; exact hM
  have hml := maxLen_le
  have key : CallsOk Try.prog 8 #[v] w fun r w' => r = .bool true ∧ Below w0.heap.size w0 w' := by
    obtain ⟨ra, rc, rb, ro, rfl, r1, r2, r3, r4⟩ := id hI.open
    refine enter_ (N := 92) Try.func8 rfl rfl rfl ?_
    (repeat (first | refine seq_ ?_ | refine sq_normal ?_ | refine rl_nil ?_ | (refine region_ (id := 0) ?_; (try (refine rl_assign (v := (Value.bool _ : Value)) rfl rfl ?_))) | (refine region_ (id := 1) ?_)))
    refine rl_callf fn22 (new_ok w0 w _ V hM) rfl rfl ?_
    clear hM
    rintro _ w ⟨s, mb, o, rfl, hM, hk⟩
    (repeat (first | refine seq_ ?_ | refine sq_normal ?_ | refine rl_nil ?_ | refine cond_f rfl ?_ | refine skip_ ?_ | refine block_ ?_ | (refine region_ (id := 2) ?_; (try (refine rl_move (v := (Value.pointer _ : Value)) rfl rfl ?_; (try (refine rl_peqnil up45 rfl rfl rfl ?_))))) | (refine region_ (id := 4) ?_; (try (refine rl_assign (v := (Value.int _ _ : Value)) rfl rfl ?_))) | refine rl_assign (v := (Value.pointer _ : Value)) rfl rfl ?_))
    refine loop1 [(2, 3), (4, 6), (17, 28)] 4 (fun m v4 wr => ∃ q : Nat, v4 = .int .i64 (q + 1) ∧ q ≤ 5 ∧ m = 5 - q ∧ Mem w0 wr (sv s q mb o []) V) _
      ⟨0, rfl, by omega, rfl, hM⟩ ?_
    clear hM
    rintro m τ v4 w ⟨q, rfl, hq, rfl, hM⟩ K0 hL0
    by_cases hlt : q < 5
    · (repeat (first | refine seq_ ?_ | refine sq_normal ?_ | refine rl_nil ?_ | refine cond_t rfl ?_ | refine skip_ ?_ | refine block_ ?_ | (refine region_ (id := 5) ?_; (try (refine rl_move (v := (Value.int _ _ : Value)) rfl rfl ?_; (try ((first | (refine rl_leq_t rfl rfl rfl ?_ ?_; omega) | (refine rl_leq_f rfl rfl rfl ?_ ?_; omega))))))) | (refine region_ (id := 7) ?_; (try (refine rl_move (v := (Value.pointer _ : Value)) rfl rfl ?_)))))
      refine rl_callf fn30 (fresh_ok w0 w _ V s q _ hM (by omega) (by omega)) rfl rfl ?_
      clear hM
      rintro _ w ⟨cs, rfl, hv, hM⟩
      obtain ⟨f2, n2, a2, k2, c2, rfl, _⟩ := id hv.shape
      have hv2 : TmV V (.var ((q : Int) + 1)) [.int .i64 1, .int .i64 ((q : Int) + 1), .slice none 0 0] := ⟨none, 0, rfl, Nat.zero_le _, by constructor <;> omega⟩
      (repeat (first | refine seq_ ?_ | refine sq_normal ?_ | refine rl_nil ?_ | (refine region_ (id := 8) ?_; (try ((first | refine rl_loadAV hM ag55 rfl rfl (by assumption) (by rfl) ?_ | refine rl_loadAM (vs := [_, _, _]) 0 hM ag55 rfl rfl rfl rfl rfl ?_ | refine rl_loadAM (vs := [_, _, _]) 1 hM ag55 rfl rfl rfl rfl rfl ?_ | refine rl_loadAM (vs := [_, _, _]) 2 hM ag55 rfl rfl rfl rfl rfl ?_ | refine rl_loadAM (vs := [_, _, _]) 3 hM ag55 rfl rfl rfl rfl rfl ?_ | refine rl_loadAM (vs := [_, _, _]) 4 hM ag55 rfl rfl rfl rfl rfl ?_ | refine rl_loadAM (vs := [_, _, _]) 5 hM ag55 rfl rfl rfl rfl rfl ?_ | refine rl_loadAM (vs := [_, _, _]) 6 hM ag55 rfl rfl rfl rfl rfl ?_ | refine rl_loadAM (vs := [_, _, _]) 7 hM ag55 rfl rfl rfl rfl rfl ?_); (try (refine rl_move (v := (Value.int _ _ : Value)) rfl rfl ?_; (try (refine rl_build [_, _, (Value.slice none 0 0)] ag49 pl49 rfl rfl rfl ?_))))))) | (refine rl_allocAM (d := 5) hM ag55 rfl ?_; clear hM; intro w b5 hM) | (first | (refine rl_storeWM 0 hM ag55 rfl rfl rfl rfl rfl rfl rfl ?_; clear hM; intro w hM) | (refine rl_storeWM 1 hM ag55 rfl rfl rfl rfl rfl rfl rfl ?_; clear hM; intro w hM) | (refine rl_storeWM 2 hM ag55 rfl rfl rfl rfl rfl rfl rfl ?_; clear hM; intro w hM) | (refine rl_storeWM 3 hM ag55 rfl rfl rfl rfl rfl rfl rfl ?_; clear hM; intro w hM) | (refine rl_storeWM 4 hM ag55 rfl rfl rfl rfl rfl rfl rfl ?_; clear hM; intro w hM) | (refine rl_storeWM 5 hM ag55 rfl rfl rfl rfl rfl rfl rfl ?_; clear hM; intro w hM) | (refine rl_storeWM 6 hM ag55 rfl rfl rfl rfl rfl rfl rfl ?_; clear hM; intro w hM) | (refine rl_storeWM 7 hM ag55 rfl rfl rfl rfl rfl rfl rfl ?_; clear hM; intro w hM))))
      refine rl_callf fn31 (tsame_ok _ _ _ _ _ (Nat.lt_succ_self _) w0 w _ V hM hv hv2) rfl rfl ?_
      clear hM
      rintro _ w ⟨rfl, hM⟩
      rw [decide_eq_true rfl]
      (repeat (first | refine sq_normal ?_ | refine rl_nil ?_ | refine cond_f rfl ?_ | refine skip_ ?_ | refine inBlock_normal ?_ | (refine region_ (id := 6) ?_; (try (refine rl_move (v := (Value.int _ _ : Value)) rfl rfl ?_; (try ((refine rl_add rfl rfl rfl ?_ ?_ ?_; omega; omega); (try (refine rl_assign (v := (Value.int _ _ : Value)) rfl rfl ?_))))))) | refine rl_not rfl rfl ?_))
      exact kq_normal (hL0 (5 - (q + 1)) _ _ (by omega) (by (repeat (first | with_reducible exact Agree.ov | with_reducible exact Agree.refl _ _ | refine Agree.upd rfl ?_ | refine Agree.ovs rfl ?_))) ⟨q + 1, rfl, by omega, rfl, hM.dropn 1⟩)
    · have hq5 : q = 5 := by omega
      subst hq5
      (repeat (first | refine seq_ ?_ | refine sq_normal ?_ | refine sq_exit ?_ | refine rl_nil ?_ | refine cond_f rfl ?_ | refine exit_ ?_ | refine block_ ?_ | refine inBlock_exit ?_ | refine kq_exit ?_ | (refine region_ (id := 5) ?_; (try (refine rl_move (v := (Value.int _ _ : Value)) rfl rfl ?_; (try ((first | (refine rl_leq_t rfl rfl rfl ?_ ?_; omega) | (refine rl_leq_f rfl rfl rfl ?_ ?_; omega))))))) | (refine region_ (id := 10) ?_; (try ((refine rl_allocAM (d := 6) hM ag60 rfl ?_; clear hM; intro w b6 hM)))) | (refine region_ (id := 11) ?_; (try (refine rl_assign (v := (Value.int _ _ : Value)) rfl rfl ?_)))))
      have hS0 : RefS V [.slice none 0 0, .slice none 0 0] [] := ⟨_, _, rfl, isInts_of (b := 0) (off := 0) rfl (Nat.le_refl _) (Nat.zero_le _) (fun h => absurd h (by simp)) (fun i u hu => by simp at hu) (fun x hx => by simp at hx), ⟨none, 0, 0, 0, rfl, Nat.le_refl _, Nat.zero_le _, fun h => absurd h (by simp), fun i x hx => by simp at hx⟩⟩
      refine loop1 [(2, 3), (7, 14), (28, 91)] 7 (fun m v7 wr => ∃ (q : Nat) (V5 : Vw) (mb : Nat) (o : Obj) (st : St1) (ss : List Value), v7 = .int .i64 q ∧ q ≤ 5 ∧ m = 5 - q ∧ VLe V V5 ∧ Mem w0 wr (.blk b6 ss 60 :: sv s 5 mb o []) V5 ∧ Knows V5 o st ∧ GoodSt st ∧ Fine st ∧ RefS V5 ss st) _
        ⟨0, V, mb, o, [], _, rfl, by omega, rfl, VLe.refl _, hM, hk, GoodSt.nil, ⟨.nil, GoodSt.nil.2.2.1, GoodSt.nil.2.1⟩, hS0⟩ ?_
      clear hM hk hS0
      rintro m τ2 v7 w ⟨q, V5, mb, o, st, ss, rfl, hq, rfl, hV5, hM, hk, hG, hF, hS⟩ K1 hL1
      have fin : CallsOk Try.prog 15 #[] w fun r w' => r = .bool true ∧ ∃ V', VLe V5 V' ∧ Mem w0 w' _ V' := lives_ok w0 w _ V5 hM
      by_cases hq1 : q < ls.length
      · by_cases hq2 : q < 5
        · obtain ⟨r, hr⟩ : ∃ r, ls[q]? = some r := ⟨_, List.getElem?_eq_getElem (by omega)⟩
          obtain ⟨u, hu, hui⟩ := r4 q r hr
          have r3' := r3 (by omega)
          subst r3'
          have hu := hV5 _ _ hu
          have hui := hui.le hV5
          obtain ⟨_, _, _, _, rfl, _⟩ := id hui.open
          obtain ⟨na, nc, ta, tc, rfl⟩ := hS.shape
          (repeat (first | refine seq_ ?_ | refine sq_normal ?_ | refine rl_nil ?_ | refine cond_t rfl ?_ | refine skip_ ?_ | refine block_ ?_ | (refine region_ (id := 12) ?_; (try (refine rl_move (v := (Value.int _ _ : Value)) rfl rfl ?_; (try (refine rl_move (v := (Value.slice _ _ _ : Value)) rfl rfl ?_; (try (refine rl_len sl44 rfl rfl ?_; (try ((first | (refine rl_lss_t rfl rfl rfl ?_ ?_; omega) | (refine rl_lss_f rfl rfl rfl ?_ ?_; omega)); (try (refine rl_move (v := (Value.bool _ : Value)) rfl rfl ?_; (try ((first | refine rl_off rfl ?_ | refine rl_move (v := (Value.int _ _ : Value)) rfl rfl ?_); (try ((first | refine rl_off rfl ?_ | (refine rl_lss_t rfl rfl rfl ?_ ?_; omega) | (refine rl_lss_f rfl rfl rfl ?_ ?_; omega)); (try (refine rl_pick (v := (Value.bool _ : Value)) rfl rfl rfl ?_))))))))))))))))) | (refine region_ (id := 14) ?_; (try (refine rl_move (v := (Value.slice _ _ _ : Value)) rfl rfl ?_; (try (refine rl_move (v := (Value.int _ _ : Value)) rfl rfl ?_; (try ((first | (refine rl_idx1 sl44 rfl rfl rfl rfl ?_ ?_ ?_; omega; omega) | (apply rl_idx1 sl44 rfl rfl rfl; assumption; omega; omega)); (try ((first | refine rl_loadV hM vt22 rfl rfl (by first | assumption | exact VRow.get (by assumption) rfl | exact VRow.get0 (by assumption) rfl) ?_ | refine rl_loadM 0 hM vt22 rfl rfl rfl (by first | rfl | assumption) ?_ | refine rl_loadM 1 hM vt22 rfl rfl rfl (by first | rfl | assumption) ?_ | refine rl_loadM 2 hM vt22 rfl rfl rfl (by first | rfl | assumption) ?_ | refine rl_loadM 3 hM vt22 rfl rfl rfl (by first | rfl | assumption) ?_ | refine rl_loadM 4 hM vt22 rfl rfl rfl (by first | rfl | assumption) ?_ | refine rl_loadM 5 hM vt22 rfl rfl rfl (by first | rfl | assumption) ?_ | refine rl_loadM 6 hM vt22 rfl rfl rfl (by first | rfl | assumption) ?_ | refine rl_loadM 7 hM vt22 rfl rfl rfl (by first | rfl | assumption) ?_))))))))))))
          refine rl_callf fn23 (terms_ok r w0 w _ V5 _ hM hui) rfl rfl ?_
          clear hM fin
          rintro _ w ⟨V6, xs, ys, hV6, hM, rfl, hx, hy⟩
          obtain ⟨hla, hlb⟩ := tt_low r
          obtain ⟨a, ha⟩ : ∃ a, a = (tt r).1 := ⟨_, rfl⟩
          obtain ⟨b, hb⟩ : ∃ b, b = (tt r).2 := ⟨_, rfl⟩
          have hx : TmV V6 a xs := by rw [ha]; exact hx
          have hy : TmV V6 b ys := by rw [hb]; exact hy
          rw [← ha] at hla
          rw [← hb] at hlb
          obtain ⟨f4, n4, a4, k4, c4, rfl, _⟩ := id hx.shape
          obtain ⟨f5, n5, a5, k5, c5, rfl, _⟩ := id hy.shape
          obtain ⟨res, hres⟩ := hG.ex hla hlb
          have hkI := hG.1
          have hS := hS.le hV6
          have hk := hk.le hV6
          have hG' := GoodSt.upto hG hres hla hlb
          have hF' := Fine.upto hF hres hla hlb
          (repeat (first | refine seq_ ?_ | refine sq_normal ?_ | refine rl_nil ?_ | (refine region_ (id := 15) ?_; (try ((first | refine rl_loadAV hM ag60 rfl rfl (by assumption) (by rfl) ?_ | refine rl_loadAM (vs := [_, _]) 0 hM ag60 rfl rfl rfl rfl rfl ?_ | refine rl_loadAM (vs := [_, _]) 1 hM ag60 rfl rfl rfl rfl rfl ?_ | refine rl_loadAM (vs := [_, _]) 2 hM ag60 rfl rfl rfl rfl rfl ?_ | refine rl_loadAM (vs := [_, _]) 3 hM ag60 rfl rfl rfl rfl rfl ?_ | refine rl_loadAM (vs := [_, _]) 4 hM ag60 rfl rfl rfl rfl rfl ?_ | refine rl_loadAM (vs := [_, _]) 5 hM ag60 rfl rfl rfl rfl rfl ?_ | refine rl_loadAM (vs := [_, _]) 6 hM ag60 rfl rfl rfl rfl rfl ?_ | refine rl_loadAM (vs := [_, _]) 7 hM ag60 rfl rfl rfl rfl rfl ?_); (try ((first | refine rl_loadAV hM ag49 rfl rfl (by assumption) (by rfl) ?_ | refine rl_loadAM (vs := [_, _, _]) 0 hM ag49 rfl rfl rfl rfl rfl ?_ | refine rl_loadAM (vs := [_, _, _]) 1 hM ag49 rfl rfl rfl rfl rfl ?_ | refine rl_loadAM (vs := [_, _, _]) 2 hM ag49 rfl rfl rfl rfl rfl ?_ | refine rl_loadAM (vs := [_, _, _]) 3 hM ag49 rfl rfl rfl rfl rfl ?_ | refine rl_loadAM (vs := [_, _, _]) 4 hM ag49 rfl rfl rfl rfl rfl ?_ | refine rl_loadAM (vs := [_, _, _]) 5 hM ag49 rfl rfl rfl rfl rfl ?_ | refine rl_loadAM (vs := [_, _, _]) 6 hM ag49 rfl rfl rfl rfl rfl ?_ | refine rl_loadAM (vs := [_, _, _]) 7 hM ag49 rfl rfl rfl rfl rfl ?_); (try ((first | refine rl_loadAV hM ag49 rfl rfl (by assumption) (by rfl) ?_ | refine rl_loadAM (vs := [_, _, _]) 0 hM ag49 rfl rfl rfl rfl rfl ?_ | refine rl_loadAM (vs := [_, _, _]) 1 hM ag49 rfl rfl rfl rfl rfl ?_ | refine rl_loadAM (vs := [_, _, _]) 2 hM ag49 rfl rfl rfl rfl rfl ?_ | refine rl_loadAM (vs := [_, _, _]) 3 hM ag49 rfl rfl rfl rfl rfl ?_ | refine rl_loadAM (vs := [_, _, _]) 4 hM ag49 rfl rfl rfl rfl rfl ?_ | refine rl_loadAM (vs := [_, _, _]) 5 hM ag49 rfl rfl rfl rfl rfl ?_ | refine rl_loadAM (vs := [_, _, _]) 6 hM ag49 rfl rfl rfl rfl rfl ?_ | refine rl_loadAM (vs := [_, _, _]) 7 hM ag49 rfl rfl rfl rfl rfl ?_)))))))) | refine rl_move (v := (Value.tuple _ : Value)) rfl rfl ?_ | refine rl_extract rfl rfl rfl ?_ | (refine rl_allocAM (d := 8) hM ag49 rfl ?_; clear hM; intro w b8 hM) | (refine rl_allocAM (d := 9) hM ag49 rfl ?_; clear hM; intro w b9 hM) | (first | (refine rl_storeWM 0 hM ag49 rfl rfl rfl rfl rfl rfl rfl ?_; clear hM; intro w hM) | (refine rl_storeWM 1 hM ag49 rfl rfl rfl rfl rfl rfl rfl ?_; clear hM; intro w hM) | (refine rl_storeWM 2 hM ag49 rfl rfl rfl rfl rfl rfl rfl ?_; clear hM; intro w hM) | (refine rl_storeWM 3 hM ag49 rfl rfl rfl rfl rfl rfl rfl ?_; clear hM; intro w hM) | (refine rl_storeWM 4 hM ag49 rfl rfl rfl rfl rfl rfl rfl ?_; clear hM; intro w hM) | (refine rl_storeWM 5 hM ag49 rfl rfl rfl rfl rfl rfl rfl ?_; clear hM; intro w hM) | (refine rl_storeWM 6 hM ag49 rfl rfl rfl rfl rfl rfl rfl ?_; clear hM; intro w hM) | (refine rl_storeWM 7 hM ag49 rfl rfl rfl rfl rfl rfl rfl ?_; clear hM; intro w hM))))
          refine rl_callf fn32 (refEqual_ok hres _ _ _ w0 w _ V6 hM hF hla.2 hlb.2 hS hx hy) rfl rfl ?_
          clear hM
          rintro _ w ⟨V7, ss', hV7, hM, rfl, hS⟩
          obtain ⟨na', nc', ta', tc', rfl⟩ := hS.shape
          have hx := hx.le hV7
          have hy := hy.le hV7
          have hk := hk.le hV7
          (repeat (first | refine seq_ ?_ | refine sq_normal ?_ | refine rl_nil ?_ | (refine region_ (id := 16) ?_; (try ((first | refine rl_loadAV hM ag60 rfl rfl (by assumption) (by rfl) ?_ | refine rl_loadAM (vs := [_, _]) 0 hM ag60 rfl rfl rfl rfl rfl ?_ | refine rl_loadAM (vs := [_, _]) 1 hM ag60 rfl rfl rfl rfl rfl ?_ | refine rl_loadAM (vs := [_, _]) 2 hM ag60 rfl rfl rfl rfl rfl ?_ | refine rl_loadAM (vs := [_, _]) 3 hM ag60 rfl rfl rfl rfl rfl ?_ | refine rl_loadAM (vs := [_, _]) 4 hM ag60 rfl rfl rfl rfl rfl ?_ | refine rl_loadAM (vs := [_, _]) 5 hM ag60 rfl rfl rfl rfl rfl ?_ | refine rl_loadAM (vs := [_, _]) 6 hM ag60 rfl rfl rfl rfl rfl ?_ | refine rl_loadAM (vs := [_, _]) 7 hM ag60 rfl rfl rfl rfl rfl ?_); (try ((first | (refine rl_storeWM 0 hM ag60 rfl rfl rfl rfl rfl rfl rfl ?_; clear hM; intro w hM) | (refine rl_storeWM 1 hM ag60 rfl rfl rfl rfl rfl rfl rfl ?_; clear hM; intro w hM) | (refine rl_storeWM 2 hM ag60 rfl rfl rfl rfl rfl rfl rfl ?_; clear hM; intro w hM) | (refine rl_storeWM 3 hM ag60 rfl rfl rfl rfl rfl rfl rfl ?_; clear hM; intro w hM) | (refine rl_storeWM 4 hM ag60 rfl rfl rfl rfl rfl rfl rfl ?_; clear hM; intro w hM) | (refine rl_storeWM 5 hM ag60 rfl rfl rfl rfl rfl rfl rfl ?_; clear hM; intro w hM) | (refine rl_storeWM 6 hM ag60 rfl rfl rfl rfl rfl rfl rfl ?_; clear hM; intro w hM) | (refine rl_storeWM 7 hM ag60 rfl rfl rfl rfl rfl rfl rfl ?_; clear hM; intro w hM))))))) | refine rl_assign (v := (Value.int _ _ : Value)) rfl rfl ?_ | refine rl_move (v := (Value.tuple _ : Value)) rfl rfl ?_ | refine rl_extract rfl rfl rfl ?_ | (refine rl_allocAM (d := 10) hM ag60 rfl ?_; clear hM; intro w b10 hM) | (first | (refine rl_storeWM 0 hM ag60 rfl rfl rfl rfl rfl rfl rfl ?_; clear hM; intro w hM) | (refine rl_storeWM 1 hM ag60 rfl rfl rfl rfl rfl rfl rfl ?_; clear hM; intro w hM) | (refine rl_storeWM 2 hM ag60 rfl rfl rfl rfl rfl rfl rfl ?_; clear hM; intro w hM) | (refine rl_storeWM 3 hM ag60 rfl rfl rfl rfl rfl rfl rfl ?_; clear hM; intro w hM) | (refine rl_storeWM 4 hM ag60 rfl rfl rfl rfl rfl rfl rfl ?_; clear hM; intro w hM) | (refine rl_storeWM 5 hM ag60 rfl rfl rfl rfl rfl rfl rfl ?_; clear hM; intro w hM) | (refine rl_storeWM 6 hM ag60 rfl rfl rfl rfl rfl rfl rfl ?_; clear hM; intro w hM) | (refine rl_storeWM 7 hM ag60 rfl rfl rfl rfl rfl rfl rfl ?_; clear hM; intro w hM))))
          refine drawnM_ 7 [(0, false), (1, false), (3, false), (6, false), (2, true), (4, true), (5, true)] (fun w => Mem w0 w [.blk b10 [.slice na' (upto res st).length nc', .slice ta' (upto res st).length tc'] 60, .blk b9 [.int .i64 f5, .int .i64 n5, .slice a5 k5 c5] 49, .blk b8 [.int .i64 f4, .int .i64 n4, .slice a4 k4 c4] 49] V7) hM mo (by kernel_rfl) (fun _ h => h.first 3) ?_
          clear hM
          intro w hM
          (try (refine rx_move (v := (Value.pointer _ : Value)) rfl rfl rfl ?_; (try ((first | refine rx_loadAV rfl (fun _ h => h) ag49 rfl rfl (by assumption) (by rfl) ?_ | refine rx_loadAM (vs := [_, _, _]) 0 rfl (fun _ h => h) ag49 rfl rfl rfl rfl rfl ?_ | refine rx_loadAM (vs := [_, _, _]) 1 rfl (fun _ h => h) ag49 rfl rfl rfl rfl rfl ?_ | refine rx_loadAM (vs := [_, _, _]) 2 rfl (fun _ h => h) ag49 rfl rfl rfl rfl rfl ?_ | refine rx_loadAM (vs := [_, _, _]) 3 rfl (fun _ h => h) ag49 rfl rfl rfl rfl rfl ?_ | refine rx_loadAM (vs := [_, _, _]) 4 rfl (fun _ h => h) ag49 rfl rfl rfl rfl rfl ?_ | refine rx_loadAM (vs := [_, _, _]) 5 rfl (fun _ h => h) ag49 rfl rfl rfl rfl rfl ?_ | refine rx_loadAM (vs := [_, _, _]) 6 rfl (fun _ h => h) ag49 rfl rfl rfl rfl rfl ?_ | refine rx_loadAM (vs := [_, _, _]) 7 rfl (fun _ h => h) ag49 rfl rfl rfl rfl rfl ?_); (try ((first | refine rx_loadAV rfl (fun _ h => h) ag49 rfl rfl (by assumption) (by rfl) ?_ | refine rx_loadAM (vs := [_, _, _]) 0 rfl (fun _ h => h) ag49 rfl rfl rfl rfl rfl ?_ | refine rx_loadAM (vs := [_, _, _]) 1 rfl (fun _ h => h) ag49 rfl rfl rfl rfl rfl ?_ | refine rx_loadAM (vs := [_, _, _]) 2 rfl (fun _ h => h) ag49 rfl rfl rfl rfl rfl ?_ | refine rx_loadAM (vs := [_, _, _]) 3 rfl (fun _ h => h) ag49 rfl rfl rfl rfl rfl ?_ | refine rx_loadAM (vs := [_, _, _]) 4 rfl (fun _ h => h) ag49 rfl rfl rfl rfl rfl ?_ | refine rx_loadAM (vs := [_, _, _]) 5 rfl (fun _ h => h) ag49 rfl rfl rfl rfl rfl ?_ | refine rx_loadAM (vs := [_, _, _]) 6 rfl (fun _ h => h) ag49 rfl rfl rfl rfl rfl ?_ | refine rx_loadAM (vs := [_, _, _]) 7 rfl (fun _ h => h) ag49 rfl rfl rfl rfl rfl ?_); (try (refine rx_move (v := (Value.int _ _ : Value)) rfl rfl rfl ?_))))))))
          refine rx_eff rfl (fun K hK => ?_)
          refine rl_callf fn25 (of_ok _ _ _ (Nat.lt_succ_self _) w0 w _ V7 hM hx) rfl rfl ?_
          clear hM
          rintro _ w ⟨V8, p1, hV8, hM, rfl, hp1⟩
          refine rl_nil (kq_normal (hK _ _ ((hM.le hV8).first 3) ?_))
          refine rx_eff rfl (fun K hK => ?_)
          refine rl_callf fn25 (of_ok _ _ _ (Nat.lt_succ_self _) w0 w _ V8 hM (hy.le hV8)) rfl rfl ?_
          clear hM
          rintro _ w ⟨V9, p2, hV9, hM, rfl, hp2⟩
          refine rl_nil (kq_normal (hK _ _ ((hM.le (hV8.trans hV9)).first 3) ?_))
          refine rx_eff rfl (fun K hK => ?_)
          refine rl_callf fn24 (Equal_ok hres _ _ w0 w _ V9 s mb 5 o (hM.rot (A := [_, _, _, _]) (S := [_, _])) (hk.le (hV8.trans hV9)) (hp1.le hV9) hp2) rfl rfl ?_
          clear hM hk
          rintro _ w ⟨V10, mb', o', rfl, hV10, hM, hk⟩
          replace hM := hM.rot (A := [_, _]) (S := [_, _, _, _])
          refine rl_nil (kq_normal (hK _ _ ((hM.le (hV8.trans (hV9.trans hV10))).first 3) ?_))
          refine rx_nil rfl ?_
          have hVc := hV8.trans (hV9.trans hV10)
          have hx := hx.le hVc
          have hy := hy.le hVc
          replace hS := hS.le hVc
          have hkw : ∀ t : Tm, t.ht ≤ 100 → (ap (upto res st) t).ht ≤ 1000000 := fun t ht => by
            obtain ⟨_, M, _, _, h3⟩ := hk
            exact hG'.low h3 ht
          have hVd := hV5.trans (hV6.trans (hV7.trans hVc))
          obtain ⟨st', hst'⟩ : ∃ st', st' = upto res st := ⟨_, rfl⟩
          rw [← hst'] at hM hS hk hG' hF' hkw
          clear hG hF hV5 hV6 hV7 hV8 hV9 hV10 hVc
          (repeat (first | refine seq_ ?_ | refine sq_normal ?_ | refine rl_nil ?_ | refine cond_f rfl ?_ | refine skip_ ?_ | refine block_ ?_ | refine np_normal ?_ | (refine region_ (id := 19) ?_; (try (refine rl_assign (v := (Value.int _ _ : Value)) rfl rfl ?_))) | (first | (refine rl_neq_t rfl rfl rfl ?_ ?_; omega) | (refine rl_neq_f rfl rfl rfl ?_ ?_; omega))))
          refine loop1 [(2, 3), (12, 14), (62, 77)] 12 (fun m v wr => ∃ (i : Nat) (V2 : Vw), v = .int .i64 i ∧ 1 ≤ i ∧ i ≤ 6 ∧ m = 6 - i ∧ VLe V10 V2 ∧ Mem w0 wr (.blk b10 [.slice na' st'.length nc', .slice ta' st'.length tc'] 60 :: .blk b9 [.int .i64 f5, .int .i64 n5, .slice a5 k5 c5] 49 :: .blk b8 [.int .i64 f4, .int .i64 n4, .slice a4 k4 c4] 49 :: .blk b6 [.slice na' st'.length nc', .slice ta' st'.length tc'] 60 :: sv s 5 mb' o' []) V2) _
            ⟨1, V10, rfl, by omega, by omega, rfl, VLe.refl _, hM⟩ ?_
          clear hM
          rintro m τ3 v w ⟨i, V2, rfl, hi1, hi6, rfl, hV2, hM⟩ K2 hL2
          by_cases hi : i ≤ 5
          · have hv : TmV V2 (.var i) [.int .i64 1, .int .i64 i, .slice none 0 0] := ⟨none, 0, rfl, Nat.zero_le _, by constructor <;> omega⟩
            have ht1 := hkw (.var i) (by simp [Tm.ht])
            (repeat (first | refine seq_ ?_ | refine sq_normal ?_ | refine rl_nil ?_ | refine cond_t rfl ?_ | refine skip_ ?_ | refine block_ ?_ | (refine region_ (id := 20) ?_; (try (refine rl_move (v := (Value.int _ _ : Value)) rfl rfl ?_; (try ((first | (refine rl_leq_t rfl rfl rfl ?_ ?_; omega) | (refine rl_leq_f rfl rfl rfl ?_ ?_; omega))))))) | (refine region_ (id := 22) ?_; (try (refine rl_move (v := (Value.int _ _ : Value)) rfl rfl ?_; (try (refine rl_build [_, _, (Value.slice none 0 0)] ag49 pl49 rfl rfl rfl ?_; (try ((refine rl_allocAM (d := 13) hM ag49 rfl ?_; clear hM; intro w b13 hM); (try ((first | (refine rl_storeWM 0 hM ag49 rfl rfl rfl rfl rfl rfl rfl ?_; clear hM; intro w hM) | (refine rl_storeWM 1 hM ag49 rfl rfl rfl rfl rfl rfl rfl ?_; clear hM; intro w hM) | (refine rl_storeWM 2 hM ag49 rfl rfl rfl rfl rfl rfl rfl ?_; clear hM; intro w hM) | (refine rl_storeWM 3 hM ag49 rfl rfl rfl rfl rfl rfl rfl ?_; clear hM; intro w hM) | (refine rl_storeWM 4 hM ag49 rfl rfl rfl rfl rfl rfl rfl ?_; clear hM; intro w hM) | (refine rl_storeWM 5 hM ag49 rfl rfl rfl rfl rfl rfl rfl ?_; clear hM; intro w hM) | (refine rl_storeWM 6 hM ag49 rfl rfl rfl rfl rfl rfl rfl ?_; clear hM; intro w hM) | (refine rl_storeWM 7 hM ag49 rfl rfl rfl rfl rfl rfl rfl ?_; clear hM; intro w hM)))))))))))))
            (refine drawnM_ 7 [(0, false), (1, false), (4, false), (5, false), (2, true), (3, true), (6, true)] (fun w => Mem w0 w _ _) hM mo (by kernel_rfl) (fun _ h => h) ?_; clear hM; intro w hM; (try (refine rx_move (v := (Value.pointer _ : Value)) rfl rfl rfl ?_; (try ((first | refine rx_loadAV rfl (fun _ h => h) ag49 rfl rfl (by assumption) (by rfl) ?_ | refine rx_loadAM (vs := [_, _, _]) 0 rfl (fun _ h => h) ag49 rfl rfl rfl rfl rfl ?_ | refine rx_loadAM (vs := [_, _, _]) 1 rfl (fun _ h => h) ag49 rfl rfl rfl rfl rfl ?_ | refine rx_loadAM (vs := [_, _, _]) 2 rfl (fun _ h => h) ag49 rfl rfl rfl rfl rfl ?_ | refine rx_loadAM (vs := [_, _, _]) 3 rfl (fun _ h => h) ag49 rfl rfl rfl rfl rfl ?_ | refine rx_loadAM (vs := [_, _, _]) 4 rfl (fun _ h => h) ag49 rfl rfl rfl rfl rfl ?_ | refine rx_loadAM (vs := [_, _, _]) 5 rfl (fun _ h => h) ag49 rfl rfl rfl rfl rfl ?_ | refine rx_loadAM (vs := [_, _, _]) 6 rfl (fun _ h => h) ag49 rfl rfl rfl rfl rfl ?_ | refine rx_loadAM (vs := [_, _, _]) 7 rfl (fun _ h => h) ag49 rfl rfl rfl rfl rfl ?_); (try ((first | refine rx_loadAV rfl (fun _ h => h) ag60 rfl rfl (by assumption) (by rfl) ?_ | refine rx_loadAM (vs := [_, _]) 0 rfl (fun _ h => h) ag60 rfl rfl rfl rfl rfl ?_ | refine rx_loadAM (vs := [_, _]) 1 rfl (fun _ h => h) ag60 rfl rfl rfl rfl rfl ?_ | refine rx_loadAM (vs := [_, _]) 2 rfl (fun _ h => h) ag60 rfl rfl rfl rfl rfl ?_ | refine rx_loadAM (vs := [_, _]) 3 rfl (fun _ h => h) ag60 rfl rfl rfl rfl rfl ?_ | refine rx_loadAM (vs := [_, _]) 4 rfl (fun _ h => h) ag60 rfl rfl rfl rfl rfl ?_ | refine rx_loadAM (vs := [_, _]) 5 rfl (fun _ h => h) ag60 rfl rfl rfl rfl rfl ?_ | refine rx_loadAM (vs := [_, _]) 6 rfl (fun _ h => h) ag60 rfl rfl rfl rfl rfl ?_ | refine rx_loadAM (vs := [_, _]) 7 rfl (fun _ h => h) ag60 rfl rfl rfl rfl rfl ?_); (try ((first | refine rx_loadAV rfl (fun _ h => h) ag49 rfl rfl (by assumption) (by rfl) ?_ | refine rx_loadAM (vs := [_, _, _]) 0 rfl (fun _ h => h) ag49 rfl rfl rfl rfl rfl ?_ | refine rx_loadAM (vs := [_, _, _]) 1 rfl (fun _ h => h) ag49 rfl rfl rfl rfl rfl ?_ | refine rx_loadAM (vs := [_, _, _]) 2 rfl (fun _ h => h) ag49 rfl rfl rfl rfl rfl ?_ | refine rx_loadAM (vs := [_, _, _]) 3 rfl (fun _ h => h) ag49 rfl rfl rfl rfl rfl ?_ | refine rx_loadAM (vs := [_, _, _]) 4 rfl (fun _ h => h) ag49 rfl rfl rfl rfl rfl ?_ | refine rx_loadAM (vs := [_, _, _]) 5 rfl (fun _ h => h) ag49 rfl rfl rfl rfl rfl ?_ | refine rx_loadAM (vs := [_, _, _]) 6 rfl (fun _ h => h) ag49 rfl rfl rfl rfl rfl ?_ | refine rx_loadAM (vs := [_, _, _]) 7 rfl (fun _ h => h) ag49 rfl rfl rfl rfl rfl ?_))))))))))
            refine rx_eff rfl (fun K hK => ?_)
            refine rl_callf fn25 (of_ok _ _ _ (Nat.lt_succ_self _) w0 w _ V2 hM hv) rfl rfl ?_
            clear hM
            rintro _ w ⟨V3, p1, hV3, hM, rfl, hp1⟩
            refine rl_nil (kq_normal (hK _ _ (hM.le hV3) ?_))
            refine rx_eff rfl (fun K hK => ?_)
            refine rl_callf fn26 (Kind_ok _ st' (.var i) _ (Nat.le_refl _) ht1 w0 w _ V3 s mb' 5 o' (hM.rot (A := [_, _, _, _, _]) (S := [_, _])) (hk.le (hV2.trans hV3)) hp1) rfl rfl ?_
            clear hM
            rintro _ w ⟨V4, v4, hV4, hM, rfl, hk4⟩
            replace hM := hM.rot (A := [_, _]) (S := [_, _, _, _, _])
            obtain ⟨_, _, rfl⟩ := hk4.shape
            refine rl_nil (kq_normal (hK _ _ (hM.le (hV3.trans hV4)) ?_))
            refine rx_eff rfl (fun K hK => ?_)
            refine rl_callf fn29 (kindof_ok _ st' (.var i) _ _ (Nat.le_refl _) ht1 w0 w _ V4 hM hF'.1 (hS.le (hV2.trans (hV3.trans hV4))) (hv.le (hV3.trans hV4))) rfl rfl ?_
            clear hM
            rintro _ w ⟨V5, v5, hV5, hM, rfl, hk5⟩
            obtain ⟨_, _, rfl⟩ := hk5.shape
            refine rl_nil (kq_normal (hK _ _ (hM.le (hV3.trans (hV4.trans hV5))) ?_))
            refine rx_nil rfl ?_
            refine rl_callf fn14 (refsame_ok _ _ _ (Nat.lt_succ_self _) w0 w _ V5 _ _ hM (hk4.le hV5) hk5) rfl rfl ?_
            clear hM
            rintro _ w ⟨rfl, hM⟩
            rw [Kd.same_iff.2 rfl]
            (repeat (first | refine sq_normal ?_ | refine rl_nil ?_ | refine cond_f rfl ?_ | refine skip_ ?_ | refine inBlock_normal ?_ | refine np_normal ?_ | (refine region_ (id := 21) ?_; (try (refine rl_move (v := (Value.int _ _ : Value)) rfl rfl ?_; (try ((refine rl_add rfl rfl rfl ?_ ?_ ?_; omega; omega); (try (refine rl_assign (v := (Value.int _ _ : Value)) rfl rfl ?_))))))) | refine rl_not rfl rfl ?_))
            exact kq_normal (hL2 (6 - (i + 1)) _ _ (by omega) (by (repeat (first | with_reducible exact Agree.ov | with_reducible exact Agree.refl _ _ | refine Agree.upd rfl ?_ | refine Agree.ovs rfl ?_))) ⟨i + 1, V5, rfl, by omega, by omega, rfl, hV2.trans (hV3.trans (hV4.trans hV5)), hM.dropn 1⟩)
          · have hx := hx.le hV2
            have hy := hy.le hV2
            have hS := hS.le hV2
            have hk := hk.le hV2
            have hVe := hVd.trans hV2
            cases res with
            | ok st2 =>
              have hcd : code (.ok st2) = 0 := rfl
              have hst2 : st' = st2 := hst'
              have hmade := (hres.made hkI _ rfl).2.2
              rw [← hst2] at hmade
              have ht1 := hkw a hla.1
              have ht2 := hkw b hlb.1
              (repeat (first | refine seq_ ?_ | refine sq_normal ?_ | refine sq_exit ?_ | refine rl_nil ?_ | refine cond_f rfl ?_ | refine exit_ ?_ | refine inBlock_exit ?_ | refine kq_exit ?_ | (refine region_ (id := 20) ?_; (try (refine rl_move (v := (Value.int _ _ : Value)) rfl rfl ?_; (try ((first | (refine rl_leq_t rfl rfl rfl ?_ ?_; omega) | (refine rl_leq_f rfl rfl rfl ?_ ?_; omega)))))))))
              (refine drawnM_ 10 [(0, false), (1, false), (2, false), (3, false), (4, false), (7, false), (8, false), (5, true), (6, true), (9, true)] (fun w => Mem w0 w _ _) hM mo (by kernel_rfl) (fun _ h => h) ?_; clear hM; intro w hM; (try (refine rx_move (v := (Value.int _ _ : Value)) rfl rfl rfl ?_; (try ((first | (refine rx_eql_t rfl rfl rfl rfl ?_ ?_; omega) | (refine rx_eql_f rfl rfl rfl rfl ?_ ?_; omega)); (try (refine rx_move (v := (Value.bool _ : Value)) rfl rfl rfl ?_; (try ((first | refine rx_off rfl rfl ?_ | refine rx_move (v := (Value.pointer _ : Value)) rfl rfl rfl ?_); (try ((first | refine rx_off rfl rfl ?_ | refine rx_loadAV rfl (fun _ h => h) ag49 rfl rfl (by assumption) (by rfl) ?_ | refine rx_loadAM (vs := [_, _, _]) 0 rfl (fun _ h => h) ag49 rfl rfl rfl rfl rfl ?_ | refine rx_loadAM (vs := [_, _, _]) 1 rfl (fun _ h => h) ag49 rfl rfl rfl rfl rfl ?_ | refine rx_loadAM (vs := [_, _, _]) 2 rfl (fun _ h => h) ag49 rfl rfl rfl rfl rfl ?_ | refine rx_loadAM (vs := [_, _, _]) 3 rfl (fun _ h => h) ag49 rfl rfl rfl rfl rfl ?_ | refine rx_loadAM (vs := [_, _, _]) 4 rfl (fun _ h => h) ag49 rfl rfl rfl rfl rfl ?_ | refine rx_loadAM (vs := [_, _, _]) 5 rfl (fun _ h => h) ag49 rfl rfl rfl rfl rfl ?_ | refine rx_loadAM (vs := [_, _, _]) 6 rfl (fun _ h => h) ag49 rfl rfl rfl rfl rfl ?_ | refine rx_loadAM (vs := [_, _, _]) 7 rfl (fun _ h => h) ag49 rfl rfl rfl rfl rfl ?_); (try ((first | refine rx_off rfl rfl ?_ | refine rx_move (v := (Value.pointer _ : Value)) rfl rfl rfl ?_); (try ((first | refine rx_off rfl rfl ?_ | refine rx_loadAV rfl (fun _ h => h) ag49 rfl rfl (by assumption) (by rfl) ?_ | refine rx_loadAM (vs := [_, _, _]) 0 rfl (fun _ h => h) ag49 rfl rfl rfl rfl rfl ?_ | refine rx_loadAM (vs := [_, _, _]) 1 rfl (fun _ h => h) ag49 rfl rfl rfl rfl rfl ?_ | refine rx_loadAM (vs := [_, _, _]) 2 rfl (fun _ h => h) ag49 rfl rfl rfl rfl rfl ?_ | refine rx_loadAM (vs := [_, _, _]) 3 rfl (fun _ h => h) ag49 rfl rfl rfl rfl rfl ?_ | refine rx_loadAM (vs := [_, _, _]) 4 rfl (fun _ h => h) ag49 rfl rfl rfl rfl rfl ?_ | refine rx_loadAM (vs := [_, _, _]) 5 rfl (fun _ h => h) ag49 rfl rfl rfl rfl rfl ?_ | refine rx_loadAM (vs := [_, _, _]) 6 rfl (fun _ h => h) ag49 rfl rfl rfl rfl rfl ?_ | refine rx_loadAM (vs := [_, _, _]) 7 rfl (fun _ h => h) ag49 rfl rfl rfl rfl rfl ?_))))))))))))))))
              refine rx_eff rfl (fun K hK => ?_)
              refine rl_callf fn25 (of_ok _ _ _ (Nat.lt_succ_self _) w0 w _ V2 hM hx) rfl rfl ?_
              clear hM
              rintro _ w ⟨V3, p1, hV3, hM, rfl, hp1⟩
              refine rl_nil (kq_normal (hK _ _ (hM.le hV3) ?_))
              refine rx_eff rfl (fun K hK => ?_)
              refine rl_callf fn26 (Kind_ok _ st' a _ (Nat.le_refl _) ht1 w0 w _ V3 s mb' 5 o' (hM.rot (A := [_, _, _, _]) (S := [_, _])) (hk.le hV3) hp1) rfl rfl ?_
              clear hM
              rintro _ w ⟨V4, v4, hV4, hM, rfl, hk4⟩
              replace hM := hM.rot (A := [_, _]) (S := [_, _, _, _])
              obtain ⟨_, _, rfl⟩ := hk4.shape
              refine rl_nil (kq_normal (hK _ _ (hM.le (hV3.trans hV4)) ?_))
              refine rx_eff rfl (fun K hK => ?_)
              refine rl_callf fn25 (of_ok _ _ _ (Nat.lt_succ_self _) w0 w _ V4 hM (hy.le (hV3.trans hV4))) rfl rfl ?_
              clear hM
              rintro _ w ⟨V5, p2, hV5, hM, rfl, hp2⟩
              refine rl_nil (kq_normal (hK _ _ (hM.le (hV3.trans (hV4.trans hV5))) ?_))
              refine rx_nil rfl ?_
              refine rl_callf fn26 (Kind_ok _ st' b _ (Nat.le_refl _) ht2 w0 w _ V5 s mb' 5 o' (hM.rot (A := [_, _, _, _]) (S := [_, _])) (hk.le (hV3.trans (hV4.trans hV5))) hp2) rfl rfl ?_
              clear hM
              rintro _ w ⟨V6, v6, hV6, hM, rfl, hk6⟩
              replace hM := hM.rot (A := [_, _]) (S := [_, _, _, _])
              obtain ⟨_, _, rfl⟩ := hk6.shape
              refine rl_callf fn14 (refsame_ok _ _ _ (Nat.lt_succ_self _) w0 w _ V6 _ _ hM (hk4.le (hV5.trans hV6)) hk6) rfl rfl ?_
              clear hM
              rintro _ w ⟨rfl, hM⟩
              rw [Kd.same_iff.2 (show (ap st' a).kd = (ap st' b).kd by rw [hmade])]
              have hVf := hV3.trans (hV4.trans (hV5.trans hV6))
              (repeat (first | refine sq_normal ?_ | refine rl_nil ?_ | refine cond_f rfl ?_ | refine skip_ ?_ | refine inBlock_normal ?_ | refine np_normal ?_ | (refine region_ (id := 13) ?_; (try (refine rl_move (v := (Value.int _ _ : Value)) rfl rfl ?_; (try ((refine rl_add rfl rfl rfl ?_ ?_ ?_; omega; omega); (try (refine rl_assign (v := (Value.int _ _ : Value)) rfl rfl ?_))))))) | refine rl_not rfl rfl ?_ | refine rl_pick (v := (Value.bool _ : Value)) rfl rfl rfl ?_))
              exact kq_normal (hL1 (5 - (q + 1)) _ _ (by omega) (by (repeat (first | with_reducible exact Agree.ov | with_reducible exact Agree.refl _ _ | refine Agree.upd rfl ?_ | refine Agree.ovs rfl ?_))) ⟨q + 1, V6, mb', o', st', _, rfl, by omega, rfl, hVe.trans hVf, hM.dropn 3, hk.le hVf, hG', hF', hS.le hVf⟩)
            | error e =>
              have hcd : code (.error e) = 30 ∨ code (.error e) = 32 := by cases e <;> simp [code]
              (repeat (first | refine seq_ ?_ | refine sq_normal ?_ | refine sq_exit ?_ | refine rl_nil ?_ | refine cond_f rfl ?_ | refine exit_ ?_ | refine inBlock_exit ?_ | refine kq_exit ?_ | (refine region_ (id := 20) ?_; (try (refine rl_move (v := (Value.int _ _ : Value)) rfl rfl ?_; (try ((first | (refine rl_leq_t rfl rfl rfl ?_ ?_; omega) | (refine rl_leq_f rfl rfl rfl ?_ ?_; omega)))))))))
              (refine drawnM_ 10 [(0, false), (1, false), (2, false), (3, false), (4, false), (7, false), (8, false), (5, true), (6, true), (9, true)] (fun w => Mem w0 w _ _) hM mo (by kernel_rfl) (fun _ h => h) ?_; clear hM; intro w hM; (try (refine rx_move (v := (Value.int _ _ : Value)) rfl rfl rfl ?_; (try ((first | (refine rx_eql_t rfl rfl rfl rfl ?_ ?_; omega) | (refine rx_eql_f rfl rfl rfl rfl ?_ ?_; omega)); (try (refine rx_move (v := (Value.bool _ : Value)) rfl rfl rfl ?_; (try ((first | refine rx_off rfl rfl ?_ | refine rx_move (v := (Value.pointer _ : Value)) rfl rfl rfl ?_); (try ((first | refine rx_off rfl rfl ?_ | refine rx_loadAV rfl (fun _ h => h) ag49 rfl rfl (by assumption) (by rfl) ?_ | refine rx_loadAM (vs := [_, _, _]) 0 rfl (fun _ h => h) ag49 rfl rfl rfl rfl rfl ?_ | refine rx_loadAM (vs := [_, _, _]) 1 rfl (fun _ h => h) ag49 rfl rfl rfl rfl rfl ?_ | refine rx_loadAM (vs := [_, _, _]) 2 rfl (fun _ h => h) ag49 rfl rfl rfl rfl rfl ?_ | refine rx_loadAM (vs := [_, _, _]) 3 rfl (fun _ h => h) ag49 rfl rfl rfl rfl rfl ?_ | refine rx_loadAM (vs := [_, _, _]) 4 rfl (fun _ h => h) ag49 rfl rfl rfl rfl rfl ?_ | refine rx_loadAM (vs := [_, _, _]) 5 rfl (fun _ h => h) ag49 rfl rfl rfl rfl rfl ?_ | refine rx_loadAM (vs := [_, _, _]) 6 rfl (fun _ h => h) ag49 rfl rfl rfl rfl rfl ?_ | refine rx_loadAM (vs := [_, _, _]) 7 rfl (fun _ h => h) ag49 rfl rfl rfl rfl rfl ?_); (try ((first | refine rx_off rfl rfl ?_ | refine rx_move (v := (Value.pointer _ : Value)) rfl rfl rfl ?_); (try ((first | refine rx_off rfl rfl ?_ | refine rx_loadAV rfl (fun _ h => h) ag49 rfl rfl (by assumption) (by rfl) ?_ | refine rx_loadAM (vs := [_, _, _]) 0 rfl (fun _ h => h) ag49 rfl rfl rfl rfl rfl ?_ | refine rx_loadAM (vs := [_, _, _]) 1 rfl (fun _ h => h) ag49 rfl rfl rfl rfl rfl ?_ | refine rx_loadAM (vs := [_, _, _]) 2 rfl (fun _ h => h) ag49 rfl rfl rfl rfl rfl ?_ | refine rx_loadAM (vs := [_, _, _]) 3 rfl (fun _ h => h) ag49 rfl rfl rfl rfl rfl ?_ | refine rx_loadAM (vs := [_, _, _]) 4 rfl (fun _ h => h) ag49 rfl rfl rfl rfl rfl ?_ | refine rx_loadAM (vs := [_, _, _]) 5 rfl (fun _ h => h) ag49 rfl rfl rfl rfl rfl ?_ | refine rx_loadAM (vs := [_, _, _]) 6 rfl (fun _ h => h) ag49 rfl rfl rfl rfl rfl ?_ | refine rx_loadAM (vs := [_, _, _]) 7 rfl (fun _ h => h) ag49 rfl rfl rfl rfl rfl ?_))))))))))))))))
              refine rx_eff rfl (fun K hK => ?_)
              refine rl_off rfl ?_
              refine rl_nil (kq_normal (hK _ _ hM ?_))
              refine rx_eff rfl (fun K hK => ?_)
              refine rl_off rfl ?_
              refine rl_nil (kq_normal (hK _ _ hM ?_))
              refine rx_eff rfl (fun K hK => ?_)
              refine rl_off rfl ?_
              refine rl_nil (kq_normal (hK _ _ hM ?_))
              refine rx_nil rfl ?_
              (repeat (first | refine sq_normal ?_ | refine rl_nil ?_ | refine cond_f rfl ?_ | refine skip_ ?_ | refine inBlock_normal ?_ | refine np_normal ?_ | (refine region_ (id := 13) ?_; (try (refine rl_move (v := (Value.int _ _ : Value)) rfl rfl ?_; (try ((refine rl_add rfl rfl rfl ?_ ?_ ?_; omega; omega); (try (refine rl_assign (v := (Value.int _ _ : Value)) rfl rfl ?_))))))) | (first | refine rl_off rfl ?_ | refine rl_move (v := (Value.int _ _ : Value)) rfl rfl ?_) | refine rl_pick (v := (Value.bool _ : Value)) rfl rfl rfl ?_))
              exact kq_normal (hL1 (5 - (q + 1)) _ _ (by omega) (by (repeat (first | with_reducible exact Agree.ov | with_reducible exact Agree.refl _ _ | refine Agree.upd rfl ?_ | refine Agree.ovs rfl ?_))) ⟨q + 1, V2, mb', o', st', _, rfl, by omega, rfl, hVe, hM.dropn 3, hk, hG', hF', hS⟩)
        · (repeat (first | refine seq_ ?_ | refine sq_normal ?_ | refine sq_exit ?_ | refine rl_nil ?_ | refine cond_f rfl ?_ | refine exit_ ?_ | refine inBlock_exit ?_ | refine kq_exit ?_ | (refine region_ (id := 12) ?_; (try (refine rl_move (v := (Value.int _ _ : Value)) rfl rfl ?_; (try (refine rl_move (v := (Value.slice _ _ _ : Value)) rfl rfl ?_; (try (refine rl_len sl44 rfl rfl ?_; (try ((first | (refine rl_lss_t rfl rfl rfl ?_ ?_; omega) | (refine rl_lss_f rfl rfl rfl ?_ ?_; omega)); (try (refine rl_move (v := (Value.bool _ : Value)) rfl rfl ?_; (try ((first | refine rl_off rfl ?_ | refine rl_move (v := (Value.int _ _ : Value)) rfl rfl ?_); (try ((first | refine rl_off rfl ?_ | (refine rl_lss_t rfl rfl rfl ?_ ?_; omega) | (refine rl_lss_f rfl rfl rfl ?_ ?_; omega)); (try (refine rl_pick (v := (Value.bool _ : Value)) rfl rfl rfl ?_))))))))))))))))) | (refine region_ (id := 27) ?_)))
          refine rl_callf fn15 fin rfl rfl ?_
          clear hM fin
          rintro _ w ⟨rfl, V3, hV3, hM⟩
          (repeat (first | refine sq_normal ?_ | refine rl_nil ?_ | refine ret_ ?_ | refine rl_assign (v := (Value.bool _ : Value)) rfl rfl ?_))
          exact bp_ret1 (v := Value.bool _) rfl rfl ⟨rfl, hM.below⟩
      · (repeat (first | refine seq_ ?_ | refine sq_normal ?_ | refine sq_exit ?_ | refine rl_nil ?_ | refine cond_f rfl ?_ | refine exit_ ?_ | refine inBlock_exit ?_ | refine kq_exit ?_ | (refine region_ (id := 12) ?_; (try (refine rl_move (v := (Value.int _ _ : Value)) rfl rfl ?_; (try (refine rl_move (v := (Value.slice _ _ _ : Value)) rfl rfl ?_; (try (refine rl_len sl44 rfl rfl ?_; (try ((first | (refine rl_lss_t rfl rfl rfl ?_ ?_; omega) | (refine rl_lss_f rfl rfl rfl ?_ ?_; omega)); (try (refine rl_move (v := (Value.bool _ : Value)) rfl rfl ?_; (try ((first | refine rl_off rfl ?_ | refine rl_move (v := (Value.int _ _ : Value)) rfl rfl ?_); (try ((first | refine rl_off rfl ?_ | (refine rl_lss_t rfl rfl rfl ?_ ?_; omega) | (refine rl_lss_f rfl rfl rfl ?_ ?_; omega)); (try (refine rl_pick (v := (Value.bool _ : Value)) rfl rfl rfl ?_))))))))))))))))) | (refine region_ (id := 27) ?_)))
        refine rl_callf fn15 fin rfl rfl ?_
        clear hM fin
        rintro _ w ⟨rfl, V3, hV3, hM⟩
        (repeat (first | refine sq_normal ?_ | refine rl_nil ?_ | refine ret_ ?_ | refine rl_assign (v := (Value.bool _ : Value)) rfl rfl ?_))
        exact bp_ret1 (v := Value.bool _) rfl rfl ⟨rfl, hM.below⟩
  rw [hw0] at key
  exact key
end Go.Proofs.Ytkjahcegjplbnaa.Kin
