/- The walk of fuguelaw03.KindsRow. -/
import Derived.Test.YtkjahcegjplbnaaKinL3
import Derived.Test.YtkjahcegjplbnaaKinP2
import Derived.Test.YtkjahcegjplbnaaKinW18
set_option linter.unusedVariables false
set_option linter.unusedSimpArgs false
namespace Go.Proofs.Ytkjahcegjplbnaa.Kin
open Go Go.Eng Go.RowKit Go.Kn
attribute [local irreducible] RL RX KQ SQ Exit.inBlock Exit.then BP NP CallsOk IsSl IsRows IsInts IsBools Own Blk Code.wp Calls wpList
/-- Two terms, made of numbers. -/
def tt (r : List Int) : Tm × Tm := ((term 3 (r.take 14)).1, (term 3 (term 3 (r.take 14)).2).1)
theorem tt_low (r : List Int) : Low (tt r).1 ∧ Low (tt r).2 := by
  have h1 := term_ht 3 (r.take 14)
  have h2 := term_ht 3 (term 3 (r.take 14)).2
  exact ⟨⟨by show (term 3 (r.take 14)).1.ht ≤ 100; omega, term_vars 3 _⟩, ⟨by show (term 3 (term 3 (r.take 14)).2).1.ht ≤ 100; omega, term_vars 3 _⟩⟩
def eqs (ls : List (List Int)) : List (Tm × Tm) := (ls.take 4).map tt
def eqsR (ls : List (List Int)) : List (Tm × Tm) := (eqs ls).reverse.map fun p => (p.2, p.1)
theorem eqs_len (ls : List (List Int)) : (eqs ls).length = min 4 ls.length := by simp [eqs]
theorem eqs_get {ls : List (List Int)} {q : Nat} {r : List Int} (hq : q < (eqs ls).length) (hr : ls[q]? = some r) : (eqs ls)[q]? = some (tt r) := by
  have := eqs_len ls
  simp only [eqs, List.getElem?_map, List.getElem?_take]
  rw [if_pos (by omega), hr]; rfl
theorem eqsR_get {ls : List (List Int)} {q : Nat} {r : List Int} (hq : q < (eqs ls).length) (hr : ls[(eqs ls).length - 1 - q]? = some r) : (eqsR ls)[q]? = some ((tt r).2, (tt r).1) := by
  unfold eqsR
  rw [List.getElem?_map, List.getElem?_reverse hq, eqs_get (by omega) hr]; rfl
theorem eqs_alike (ls : List (List Int)) : (∀ p, p ∈ eqsR ls → (p ∈ eqs ls ∨ (p.2, p.1) ∈ eqs ls)) ∧ (∀ p, p ∈ eqs ls → (p ∈ eqsR ls ∨ (p.2, p.1) ∈ eqsR ls)) := by
  refine ⟨fun p hp => .inr ?_, fun p hp => .inr ?_⟩
  · obtain ⟨q, hq, rfl⟩ := List.mem_map.1 hp
    exact List.mem_reverse.1 hq
  · exact List.mem_map.2 ⟨p, List.mem_reverse.2 hp, rfl⟩
/-- A solver that has been asked these equations. -/
structure Asked (V : Vw) (o : Obj) (l : List (Tm × Tm)) (bad : Bool) (st : St1) : Prop where
  knows : Knows V o st
  good : GoodSt st
  sols : SolsB l bad st
theorem Asked.le {V V' : Vw} {o : Obj} {l : List (Tm × Tm)} {bad : Bool} {st : St1} (h : Asked V o l bad st) (hv : VLe V V') : Asked V' o l bad st := ⟨h.knows.le hv, h.good, h.sols⟩
theorem Asked.low {V : Vw} {o : Obj} {l : List (Tm × Tm)} {bad : Bool} {st : St1} (h : Asked V o l bad st) {t : Tm} (ht : t.ht ≤ 100) : (ap st t).ht ≤ 1000000 := by
  obtain ⟨m, M, h1, h2, h3⟩ := h.knows
  exact h.good.low h3 ht
set_option maxRecDepth 4000 in
set_option maxHeartbeats 4000000 in
theorem law6 (v : Value) (ls : List (List Int)) (w : World) (hI : IsRows w.cell? v ls) : CallsOk Try.prog 6 #[v] w fun r w' => r = .bool true ∧ Below w.heap.size w w' := by
  have hM := Mem.init w
  obtain ⟨w0, hw0⟩ : ∃ w0, w0 = w := ⟨_, rfl⟩
  obtain ⟨V, hVd⟩ : ∃ V, V = w.cell? := ⟨_, rfl⟩
  rw [← hVd] at hM hI
  have hM : Mem w0 w [] V := by rw [hw0]; exact hM
  have hml := maxLen_le
  have key : CallsOk Try.prog 6 #[v] w fun r w' => r = .bool true ∧ Below w0.heap.size w0 w' := by
    obtain ⟨ra, rc, rb, ro, rfl, r1, r2, r3, r4⟩ := id hI.open
    refine enter_ (N := 95) Try.func6 rfl rfl rfl ?_
    (repeat (first | refine seq_ ?_ | refine sq_normal ?_ | refine rl_nil ?_ | (refine region_ (id := 0) ?_; (try (refine rl_assign (v := (Value.bool _ : Value)) rfl rfl ?_))) | (refine region_ (id := 1) ?_)))
    refine rl_callf fn22 (new_ok w0 w _ V hM) rfl rfl ?_
    clear hM
    rintro _ w ⟨s1, mb1, o1, rfl, hM, hk1⟩
    (repeat (first | refine seq_ ?_ | refine sq_normal ?_ | refine rl_nil ?_ | (refine region_ (id := 2) ?_) | refine rl_assign (v := (Value.pointer _ : Value)) rfl rfl ?_))
    refine rl_callf fn22 (new_ok w0 w _ V hM) rfl rfl ?_
    clear hM
    rintro _ w ⟨s2, mb2, o2, rfl, hM, hk2⟩
    (repeat (first | refine seq_ ?_ | refine sq_normal ?_ | refine rl_nil ?_ | refine cond_f rfl ?_ | refine skip_ ?_ | refine block_ ?_ | (refine region_ (id := 3) ?_; (try (refine rl_move (v := (Value.pointer _ : Value)) rfl rfl ?_; (try (refine rl_peqnil up45 rfl rfl rfl ?_; (try (refine rl_move (v := (Value.bool _ : Value)) rfl rfl ?_; (try ((first | refine rl_off rfl ?_ | refine rl_move (v := (Value.pointer _ : Value)) rfl rfl ?_); (try ((first | refine rl_off rfl ?_ | refine rl_peqnil up45 rfl rfl rfl ?_); (try (refine rl_pick (v := (Value.bool _ : Value)) rfl rfl rfl ?_))))))))))))) | (refine region_ (id := 5) ?_; (try (refine rl_move (v := (Value.slice _ _ _ : Value)) rfl rfl ?_; (try (refine rl_len sl44 rfl rfl ?_; (try (refine rl_min rfl rfl rfl ?_; (try (refine rl_assign (v := (Value.int _ _ : Value)) rfl rfl ?_))))))))) | (refine region_ (id := 6) ?_; (try (refine rl_assign (v := (Value.bool _ : Value)) rfl rfl ?_))) | (refine region_ (id := 7) ?_; (try (refine rl_assign (v := (Value.bool _ : Value)) rfl rfl ?_))) | (refine region_ (id := 8) ?_; (try (refine rl_assign (v := (Value.int _ _ : Value)) rfl rfl ?_))) | refine rl_assign (v := (Value.pointer _ : Value)) rfl rfl ?_))
    obtain ⟨K, hK⟩ : ∃ K : Nat, K = (eqs ls).length := ⟨_, rfl⟩
    have hKl := eqs_len ls
    have hmin : min (ls.length : Int) 4 = (K : Int) := by omega
    rw [hmin]
    refine loop3 [(6, 13), (26, 70)] 6 7 8 (fun m v6 v7 v8 wr => ∃ (q : Nat) (V1 : Vw) (mb1 mb2 : Nat) (o1 o2 : Obj) (st1 st2 : St1) (bad worse : Bool), v6 = .bool bad ∧ v7 = .bool worse ∧ v8 = .int .i64 q ∧ q ≤ K ∧ m = K - q ∧ VLe V V1 ∧ Mem w0 wr (sv s2 0 mb2 o2 (sv s1 0 mb1 o1 [])) V1 ∧
        Asked V1 o1 ((eqs ls).take q) bad st1 ∧ Asked V1 o2 ((eqsR ls).take q) worse st2) _
      ⟨0, V, mb1, mb2, o1, o2, [], [], false, false, rfl, rfl, rfl, by omega, rfl, VLe.refl _, hM, ⟨hk1, GoodSt.nil, SolsB.nil⟩, ⟨hk2, GoodSt.nil, SolsB.nil⟩⟩ ?_
    clear hM hk1 hk2
    rintro m τ v6 v7 v8 w ⟨q, V1, mb1, mb2, o1, o2, st1, st2, bad, worse, rfl, rfl, rfl, hq, rfl, hV1, hM, hA1, hA2⟩ K0 hL0
    by_cases hlt : q < K
    · obtain ⟨r, hr⟩ : ∃ r, ls[q]? = some r := ⟨_, List.getElem?_eq_getElem (by omega)⟩
      obtain ⟨r', hr'⟩ : ∃ r', ls[K - 1 - q]? = some r' := ⟨_, List.getElem?_eq_getElem (by omega)⟩
      obtain ⟨u, hu, hui⟩ := r4 q r hr
      obtain ⟨u', hu', hui'⟩ := r4 (K - 1 - q) r' hr'
      have r3' := r3 (by omega)
      subst r3'
      have hu := hV1 _ _ hu
      have hu' := hV1 _ _ hu'
      obtain ⟨_, _, _, _, rfl, _⟩ := id hui.open
      obtain ⟨ia', ic', _, _, rfl, _⟩ := id hui'.open
      have ex := eqs_get (ls := ls) (q := q) (by omega) hr
      have ey := eqsR_get (ls := ls) (q := q) (by omega) (by rw [← hK]; exact hr')
      have hidx : (K : Int) - 1 - q = ((K - 1 - q : Nat) : Int) := by omega
      (repeat (first | refine seq_ ?_ | refine sq_normal ?_ | refine rl_nil ?_ | refine cond_t rfl ?_ | refine skip_ ?_ | refine block_ ?_ | (refine region_ (id := 9) ?_; (try (refine rl_move (v := (Value.int _ _ : Value)) rfl rfl ?_; (try (refine rl_move (v := (Value.int _ _ : Value)) rfl rfl ?_; (try ((first | (refine rl_lss_t rfl rfl rfl ?_ ?_; omega) | (refine rl_lss_f rfl rfl rfl ?_ ?_; omega))))))))) | (refine region_ (id := 11) ?_; (try (refine rl_move (v := (Value.slice _ _ _ : Value)) rfl rfl ?_; (try (refine rl_move (v := (Value.int _ _ : Value)) rfl rfl ?_; (try ((first | (refine rl_idx1 sl44 rfl rfl rfl rfl ?_ ?_ ?_; omega; omega) | (apply rl_idx1 sl44 rfl rfl rfl; assumption; omega; omega)); (try ((first | refine rl_loadV hM vt22 rfl rfl (by first | assumption | exact VRow.get (by assumption) rfl | exact VRow.get0 (by assumption) rfl) ?_ | refine rl_loadM 0 hM vt22 rfl rfl rfl (by first | rfl | assumption) ?_ | refine rl_loadM 1 hM vt22 rfl rfl rfl (by first | rfl | assumption) ?_ | refine rl_loadM 2 hM vt22 rfl rfl rfl (by first | rfl | assumption) ?_ | refine rl_loadM 3 hM vt22 rfl rfl rfl (by first | rfl | assumption) ?_ | refine rl_loadM 4 hM vt22 rfl rfl rfl (by first | rfl | assumption) ?_ | refine rl_loadM 5 hM vt22 rfl rfl rfl (by first | rfl | assumption) ?_ | refine rl_loadM 6 hM vt22 rfl rfl rfl (by first | rfl | assumption) ?_ | refine rl_loadM 7 hM vt22 rfl rfl rfl (by first | rfl | assumption) ?_))))))))))))
      refine rl_callf fn23 (terms_ok r w0 w _ V1 _ hM (hui.le hV1)) rfl rfl ?_
      clear hM
      rintro _ w ⟨V2, xs, ys, hV2, hM, rfl, hx, hy⟩
      obtain ⟨f2, n2, a2, k2, c2, rfl, _⟩ := id hx.shape
      obtain ⟨f3, n3, a3, k3, c3, rfl, _⟩ := id hy.shape
      have hu'' : V2 ⟨rb, ro + ((K : Int) - 1 - (q : Int)).toNat, none⟩ = some (.slice ia' r'.length ic') := by rw [hidx]; exact hV2 _ _ hu'
      (repeat (first | refine seq_ ?_ | refine sq_normal ?_ | refine rl_nil ?_ | (refine region_ (id := 12) ?_; (try (refine rl_move (v := (Value.slice _ _ _ : Value)) rfl rfl ?_; (try (refine rl_move (v := (Value.int _ _ : Value)) rfl rfl ?_; (try ((refine rl_sub rfl rfl rfl ?_ ?_ ?_; omega; omega); (try (refine rl_move (v := (Value.int _ _ : Value)) rfl rfl ?_; (try ((refine rl_sub rfl rfl rfl ?_ ?_ ?_; omega; omega); (try ((first | (refine rl_idx1 sl44 rfl rfl rfl rfl ?_ ?_ ?_; omega; omega) | (apply rl_idx1 sl44 rfl rfl rfl; assumption; omega; omega)); (try ((first | refine rl_loadV hM vt22 rfl rfl (by first | assumption | exact VRow.get (by assumption) rfl | exact VRow.get0 (by assumption) rfl) ?_ | refine rl_loadM 0 hM vt22 rfl rfl rfl (by first | rfl | assumption) ?_ | refine rl_loadM 1 hM vt22 rfl rfl rfl (by first | rfl | assumption) ?_ | refine rl_loadM 2 hM vt22 rfl rfl rfl (by first | rfl | assumption) ?_ | refine rl_loadM 3 hM vt22 rfl rfl rfl (by first | rfl | assumption) ?_ | refine rl_loadM 4 hM vt22 rfl rfl rfl (by first | rfl | assumption) ?_ | refine rl_loadM 5 hM vt22 rfl rfl rfl (by first | rfl | assumption) ?_ | refine rl_loadM 6 hM vt22 rfl rfl rfl (by first | rfl | assumption) ?_ | refine rl_loadM 7 hM vt22 rfl rfl rfl (by first | rfl | assumption) ?_)))))))))))))))) | refine rl_move (v := (Value.tuple _ : Value)) rfl rfl ?_ | refine rl_extract rfl rfl rfl ?_ | (refine rl_allocAM (d := 9) hM ag49 rfl ?_; clear hM; intro w b9 hM) | (refine rl_allocAM (d := 10) hM ag49 rfl ?_; clear hM; intro w b10 hM) | (first | (refine rl_storeWM 0 hM ag49 rfl rfl rfl rfl rfl rfl rfl ?_; clear hM; intro w hM) | (refine rl_storeWM 1 hM ag49 rfl rfl rfl rfl rfl rfl rfl ?_; clear hM; intro w hM) | (refine rl_storeWM 2 hM ag49 rfl rfl rfl rfl rfl rfl rfl ?_; clear hM; intro w hM) | (refine rl_storeWM 3 hM ag49 rfl rfl rfl rfl rfl rfl rfl ?_; clear hM; intro w hM) | (refine rl_storeWM 4 hM ag49 rfl rfl rfl rfl rfl rfl rfl ?_; clear hM; intro w hM) | (refine rl_storeWM 5 hM ag49 rfl rfl rfl rfl rfl rfl rfl ?_; clear hM; intro w hM) | (refine rl_storeWM 6 hM ag49 rfl rfl rfl rfl rfl rfl rfl ?_; clear hM; intro w hM) | (refine rl_storeWM 7 hM ag49 rfl rfl rfl rfl rfl rfl rfl ?_; clear hM; intro w hM))))
      refine rl_callf fn23 (terms_ok r' w0 w _ V2 _ hM (hui'.le (hV1.trans hV2))) rfl rfl ?_
      clear hM
      rintro _ w ⟨V3, xs', ys', hV3, hM, rfl, hx2, hy2⟩
      obtain ⟨f4, n4, a4, k4, c4, rfl, _⟩ := id hx2.shape
      obtain ⟨f5, n5, a5, k5, c5, rfl, _⟩ := id hy2.shape
      have hx := hx.le hV3
      have hy := hy.le hV3
      have hA1 := hA1.le (hV2.trans hV3)
      have hA2 := hA2.le (hV2.trans hV3)
      (repeat (first | refine seq_ ?_ | refine sq_normal ?_ | refine rl_nil ?_ | refine rl_move (v := (Value.tuple _ : Value)) rfl rfl ?_ | refine rl_extract rfl rfl rfl ?_ | (first | (refine rl_storeWM 0 hM ag49 rfl rfl rfl rfl rfl rfl rfl ?_; clear hM; intro w hM) | (refine rl_storeWM 1 hM ag49 rfl rfl rfl rfl rfl rfl rfl ?_; clear hM; intro w hM) | (refine rl_storeWM 2 hM ag49 rfl rfl rfl rfl rfl rfl rfl ?_; clear hM; intro w hM) | (refine rl_storeWM 3 hM ag49 rfl rfl rfl rfl rfl rfl rfl ?_; clear hM; intro w hM) | (refine rl_storeWM 4 hM ag49 rfl rfl rfl rfl rfl rfl rfl ?_; clear hM; intro w hM) | (refine rl_storeWM 5 hM ag49 rfl rfl rfl rfl rfl rfl rfl ?_; clear hM; intro w hM) | (refine rl_storeWM 6 hM ag49 rfl rfl rfl rfl rfl rfl rfl ?_; clear hM; intro w hM) | (refine rl_storeWM 7 hM ag49 rfl rfl rfl rfl rfl rfl rfl ?_; clear hM; intro w hM)) | (refine rl_allocAM (d := 11) hM ag49 rfl ?_; clear hM; intro w b11 hM) | (refine rl_allocAM (d := 12) hM ag49 rfl ?_; clear hM; intro w b12 hM)))
      have hVV := hV1.trans (hV2.trans hV3)
      obtain ⟨VV, hVVd⟩ : ∃ VV, VV = V3 := ⟨_, rfl⟩
      rw [← hVVd] at hM hx hy hx2 hy2 hA1 hA2 hVV
      clear hVVd
      refine cut_seq1 [(6, 7), (50, 60)] 6 (fun v w' => ∃ (bad' : Bool) (V' : Vw) (mb' : Nat) (o' : Obj) (st' : St1), v = .bool bad' ∧ VLe VV V' ∧ Mem w0 w' ([.blk b12 [.int .i64 f5, .int .i64 n5, .slice a5 k5 c5] 49, .blk b11 [.int .i64 f4, .int .i64 n4, .slice a4 k4 c4] 49, .blk b10 [.int .i64 f3, .int .i64 n3, .slice a3 k3 c3] 49, .blk b9 [.int .i64 f2, .int .i64 n2, .slice a2 k2 c2] 49] ++ sv s2 0 mb2 o2 (sv s1 0 mb' o' [])) V' ∧ Asked V' o' ((eqs ls).take (q + 1)) bad' st') ?_ ?_
      · cases bad with
        | true =>
          (refine drawnM_ 7 [(0, false), (1, false), (2, false), (3, false), (5, false), (4, true), (6, true)] (fun w => Mem w0 w _ _) hM mo (by kernel_rfl) (fun _ h => h) ?_; clear hM; intro w hM; (try (refine rx_move (v := (Value.bool _ : Value)) rfl rfl rfl ?_; (try (refine rx_move (v := (Value.bool _ : Value)) rfl rfl rfl ?_; (try ((first | refine rx_off rfl rfl ?_ | refine rx_move (v := (Value.pointer _ : Value)) rfl rfl rfl ?_); (try ((first | refine rx_off rfl rfl ?_ | refine rx_loadAV rfl (fun _ h => h) ag49 rfl rfl (by assumption) (by rfl) ?_ | refine rx_loadAM (vs := [_, _, _]) 0 rfl (fun _ h => h) ag49 rfl rfl rfl rfl rfl ?_ | refine rx_loadAM (vs := [_, _, _]) 1 rfl (fun _ h => h) ag49 rfl rfl rfl rfl rfl ?_ | refine rx_loadAM (vs := [_, _, _]) 2 rfl (fun _ h => h) ag49 rfl rfl rfl rfl rfl ?_ | refine rx_loadAM (vs := [_, _, _]) 3 rfl (fun _ h => h) ag49 rfl rfl rfl rfl rfl ?_ | refine rx_loadAM (vs := [_, _, _]) 4 rfl (fun _ h => h) ag49 rfl rfl rfl rfl rfl ?_ | refine rx_loadAM (vs := [_, _, _]) 5 rfl (fun _ h => h) ag49 rfl rfl rfl rfl rfl ?_ | refine rx_loadAM (vs := [_, _, _]) 6 rfl (fun _ h => h) ag49 rfl rfl rfl rfl rfl ?_ | refine rx_loadAM (vs := [_, _, _]) 7 rfl (fun _ h => h) ag49 rfl rfl rfl rfl rfl ?_); (try ((first | refine rx_off rfl rfl ?_ | refine rx_loadAV rfl (fun _ h => h) ag49 rfl rfl (by assumption) (by rfl) ?_ | refine rx_loadAM (vs := [_, _, _]) 0 rfl (fun _ h => h) ag49 rfl rfl rfl rfl rfl ?_ | refine rx_loadAM (vs := [_, _, _]) 1 rfl (fun _ h => h) ag49 rfl rfl rfl rfl rfl ?_ | refine rx_loadAM (vs := [_, _, _]) 2 rfl (fun _ h => h) ag49 rfl rfl rfl rfl rfl ?_ | refine rx_loadAM (vs := [_, _, _]) 3 rfl (fun _ h => h) ag49 rfl rfl rfl rfl rfl ?_ | refine rx_loadAM (vs := [_, _, _]) 4 rfl (fun _ h => h) ag49 rfl rfl rfl rfl rfl ?_ | refine rx_loadAM (vs := [_, _, _]) 5 rfl (fun _ h => h) ag49 rfl rfl rfl rfl rfl ?_ | refine rx_loadAM (vs := [_, _, _]) 6 rfl (fun _ h => h) ag49 rfl rfl rfl rfl rfl ?_ | refine rx_loadAM (vs := [_, _, _]) 7 rfl (fun _ h => h) ag49 rfl rfl rfl rfl rfl ?_))))))))))))
          refine rx_eff rfl (fun K hK => ?_)
          refine rl_off rfl ?_
          refine rl_nil (kq_normal (hK _ _ hM ?_))
          refine rx_eff rfl (fun K hK => ?_)
          refine rl_off rfl ?_
          refine rl_nil (kq_normal (hK _ _ hM ?_))
          refine rx_nil rfl ?_
          (repeat (first | refine rl_nil ?_ | refine np_normal ?_ | refine rl_assign (v := (Value.bool _ : Value)) rfl rfl ?_ | (first | refine rl_off rfl ?_ | refine rl_move (v := (Value.pointer _ : Value)) rfl rfl ?_) | refine rl_pick (v := (Value.bool _ : Value)) rfl rfl rfl ?_))
          refine kq_normal ⟨by (repeat (first | with_reducible exact Agree.ov | with_reducible exact Agree.refl _ _ | refine Agree.upd rfl ?_ | refine Agree.ovs rfl ?_)), true, VV, mb1, o1, st1, rfl, VLe.refl _, hM, hA1.knows, hA1.good, ?_⟩
          rw [List.take_add_one, ex]
          exact hA1.sols.bad
        | false =>
          (refine drawnM_ 7 [(0, false), (1, false), (2, false), (3, false), (5, false), (4, true), (6, true)] (fun w => Mem w0 w _ _) hM mo (by kernel_rfl) (fun _ h => h) ?_; clear hM; intro w hM; (try (refine rx_move (v := (Value.bool _ : Value)) rfl rfl rfl ?_; (try (refine rx_move (v := (Value.bool _ : Value)) rfl rfl rfl ?_; (try ((first | refine rx_off rfl rfl ?_ | refine rx_move (v := (Value.pointer _ : Value)) rfl rfl rfl ?_); (try ((first | refine rx_off rfl rfl ?_ | refine rx_loadAV rfl (fun _ h => h) ag49 rfl rfl (by assumption) (by rfl) ?_ | refine rx_loadAM (vs := [_, _, _]) 0 rfl (fun _ h => h) ag49 rfl rfl rfl rfl rfl ?_ | refine rx_loadAM (vs := [_, _, _]) 1 rfl (fun _ h => h) ag49 rfl rfl rfl rfl rfl ?_ | refine rx_loadAM (vs := [_, _, _]) 2 rfl (fun _ h => h) ag49 rfl rfl rfl rfl rfl ?_ | refine rx_loadAM (vs := [_, _, _]) 3 rfl (fun _ h => h) ag49 rfl rfl rfl rfl rfl ?_ | refine rx_loadAM (vs := [_, _, _]) 4 rfl (fun _ h => h) ag49 rfl rfl rfl rfl rfl ?_ | refine rx_loadAM (vs := [_, _, _]) 5 rfl (fun _ h => h) ag49 rfl rfl rfl rfl rfl ?_ | refine rx_loadAM (vs := [_, _, _]) 6 rfl (fun _ h => h) ag49 rfl rfl rfl rfl rfl ?_ | refine rx_loadAM (vs := [_, _, _]) 7 rfl (fun _ h => h) ag49 rfl rfl rfl rfl rfl ?_); (try ((first | refine rx_off rfl rfl ?_ | refine rx_loadAV rfl (fun _ h => h) ag49 rfl rfl (by assumption) (by rfl) ?_ | refine rx_loadAM (vs := [_, _, _]) 0 rfl (fun _ h => h) ag49 rfl rfl rfl rfl rfl ?_ | refine rx_loadAM (vs := [_, _, _]) 1 rfl (fun _ h => h) ag49 rfl rfl rfl rfl rfl ?_ | refine rx_loadAM (vs := [_, _, _]) 2 rfl (fun _ h => h) ag49 rfl rfl rfl rfl rfl ?_ | refine rx_loadAM (vs := [_, _, _]) 3 rfl (fun _ h => h) ag49 rfl rfl rfl rfl rfl ?_ | refine rx_loadAM (vs := [_, _, _]) 4 rfl (fun _ h => h) ag49 rfl rfl rfl rfl rfl ?_ | refine rx_loadAM (vs := [_, _, _]) 5 rfl (fun _ h => h) ag49 rfl rfl rfl rfl rfl ?_ | refine rx_loadAM (vs := [_, _, _]) 6 rfl (fun _ h => h) ag49 rfl rfl rfl rfl rfl ?_ | refine rx_loadAM (vs := [_, _, _]) 7 rfl (fun _ h => h) ag49 rfl rfl rfl rfl rfl ?_))))))))))))
          refine rx_eff rfl (fun K hK => ?_)
          refine rl_callf fn25 (of_ok _ _ _ (Nat.lt_succ_self _) w0 w _ VV hM hx) rfl rfl ?_
          clear hM
          rintro _ w ⟨V3, p1, hV3, hM, rfl, hp1⟩
          refine rl_nil (kq_normal (hK _ _ (hM.le hV3) ?_))
          refine rx_eff rfl (fun K hK => ?_)
          refine rl_callf fn25 (of_ok _ _ _ (Nat.lt_succ_self _) w0 w _ V3 hM (hy.le hV3)) rfl rfl ?_
          clear hM
          rintro _ w ⟨V4, p2, hV4, hM, rfl, hp2⟩
          refine rl_nil (kq_normal (hK _ _ (hM.le (hV3.trans hV4)) ?_))
          refine rx_nil rfl ?_
          obtain ⟨res, hres⟩ := hA1.good.ex (tt_low r).1 (tt_low r).2
          refine rl_callf fn24 (Equal_ok hres _ _ w0 w _ V4 s1 mb1 0 o1 (hM.rot (A := [_, _, _, _, _, _]) (S := [_, _])) (hA1.knows.le (hV3.trans hV4)) (hp1.le hV4) hp2) rfl rfl ?_
          clear hM
          rintro _ w ⟨V5, mb', o', rfl, hV5, hM, hk'⟩
          replace hM := hM.rot (A := [_, _]) (S := [_, _, _, _, _, _])
          obtain ⟨h1, h2⟩ := hA1.sols.step hres
          cases res with
          | ok st' =>
            have hcd : code (.ok st') = 0 := rfl
            (repeat (first | refine rl_nil ?_ | refine np_normal ?_ | refine rl_assign (v := (Value.bool _ : Value)) rfl rfl ?_ | refine rl_pick (v := (Value.bool _ : Value)) rfl rfl rfl ?_ | (first | refine rl_off rfl ?_ | (refine rl_neq_t rfl rfl rfl ?_ ?_; omega) | (refine rl_neq_f rfl rfl rfl ?_ ?_; omega))))
            refine kq_normal ⟨by (repeat (first | with_reducible exact Agree.ov | with_reducible exact Agree.refl _ _ | refine Agree.upd rfl ?_ | refine Agree.ovs rfl ?_)), false, V5, mb', o', st', rfl, hV3.trans (hV4.trans hV5), hM, hk', hA1.good.step hres (tt_low r).1 (tt_low r).2 rfl, ?_⟩
            rw [List.take_add_one, ex]
            exact h1 st' rfl
          | error e =>
            have hcd : code (.error e) = 30 ∨ code (.error e) = 32 := by cases e <;> simp [code]
            (repeat (first | refine rl_nil ?_ | refine np_normal ?_ | refine rl_assign (v := (Value.bool _ : Value)) rfl rfl ?_ | refine rl_pick (v := (Value.bool _ : Value)) rfl rfl rfl ?_ | (first | refine rl_off rfl ?_ | (refine rl_neq_t rfl rfl rfl ?_ ?_; omega) | (refine rl_neq_f rfl rfl rfl ?_ ?_; omega))))
            refine kq_normal ⟨by (repeat (first | with_reducible exact Agree.ov | with_reducible exact Agree.refl _ _ | refine Agree.upd rfl ?_ | refine Agree.ovs rfl ?_)), true, V5, mb', o', st1, rfl, hV3.trans (hV4.trans hV5), hM, hk', hA1.good, ?_⟩
            rw [List.take_add_one, ex]
            exact h2 e rfl _
      clear hM hA1
      rintro τ2 _ w ⟨bad, V4, mb1, o1, st1, rfl, hV4, hM, hA1⟩
      have hx2 := hx2.le hV4
      have hy2 := hy2.le hV4
      have hA2 := hA2.le hV4
      have hVV := hVV.trans hV4
      clear hx hy
      obtain ⟨VV, hVVd⟩ : ∃ VV, VV = V4 := ⟨_, rfl⟩
      rw [← hVVd] at hM hx2 hy2 hA1 hA2 hVV
      clear hVVd
      refine cut_blk1 [(7, 8), (60, 70)] 7 (fun v w' => ∃ (bad' : Bool) (V' : Vw) (mb' : Nat) (o' : Obj) (st' : St1), v = .bool bad' ∧ VLe VV V' ∧ Mem w0 w' ([.blk b12 [.int .i64 f5, .int .i64 n5, .slice a5 k5 c5] 49, .blk b11 [.int .i64 f4, .int .i64 n4, .slice a4 k4 c4] 49, .blk b10 [.int .i64 f3, .int .i64 n3, .slice a3 k3 c3] 49, .blk b9 [.int .i64 f2, .int .i64 n2, .slice a2 k2 c2] 49] ++ sv s2 0 mb' o' (sv s1 0 mb1 o1 [])) V' ∧ Asked V' o' ((eqsR ls).take (q + 1)) bad' st') ?_ ?_
      · cases worse with
        | true =>
          (refine drawnM_ 7 [(0, false), (1, false), (2, false), (3, false), (5, false), (4, true), (6, true)] (fun w => Mem w0 w _ _) hM mo (by kernel_rfl) (fun _ h => h) ?_; clear hM; intro w hM; (try (refine rx_move (v := (Value.bool _ : Value)) rfl rfl rfl ?_; (try (refine rx_move (v := (Value.bool _ : Value)) rfl rfl rfl ?_; (try ((first | refine rx_off rfl rfl ?_ | refine rx_move (v := (Value.pointer _ : Value)) rfl rfl rfl ?_); (try ((first | refine rx_off rfl rfl ?_ | refine rx_loadAV rfl (fun _ h => h) ag49 rfl rfl (by assumption) (by rfl) ?_ | refine rx_loadAM (vs := [_, _, _]) 0 rfl (fun _ h => h) ag49 rfl rfl rfl rfl rfl ?_ | refine rx_loadAM (vs := [_, _, _]) 1 rfl (fun _ h => h) ag49 rfl rfl rfl rfl rfl ?_ | refine rx_loadAM (vs := [_, _, _]) 2 rfl (fun _ h => h) ag49 rfl rfl rfl rfl rfl ?_ | refine rx_loadAM (vs := [_, _, _]) 3 rfl (fun _ h => h) ag49 rfl rfl rfl rfl rfl ?_ | refine rx_loadAM (vs := [_, _, _]) 4 rfl (fun _ h => h) ag49 rfl rfl rfl rfl rfl ?_ | refine rx_loadAM (vs := [_, _, _]) 5 rfl (fun _ h => h) ag49 rfl rfl rfl rfl rfl ?_ | refine rx_loadAM (vs := [_, _, _]) 6 rfl (fun _ h => h) ag49 rfl rfl rfl rfl rfl ?_ | refine rx_loadAM (vs := [_, _, _]) 7 rfl (fun _ h => h) ag49 rfl rfl rfl rfl rfl ?_); (try ((first | refine rx_off rfl rfl ?_ | refine rx_loadAV rfl (fun _ h => h) ag49 rfl rfl (by assumption) (by rfl) ?_ | refine rx_loadAM (vs := [_, _, _]) 0 rfl (fun _ h => h) ag49 rfl rfl rfl rfl rfl ?_ | refine rx_loadAM (vs := [_, _, _]) 1 rfl (fun _ h => h) ag49 rfl rfl rfl rfl rfl ?_ | refine rx_loadAM (vs := [_, _, _]) 2 rfl (fun _ h => h) ag49 rfl rfl rfl rfl rfl ?_ | refine rx_loadAM (vs := [_, _, _]) 3 rfl (fun _ h => h) ag49 rfl rfl rfl rfl rfl ?_ | refine rx_loadAM (vs := [_, _, _]) 4 rfl (fun _ h => h) ag49 rfl rfl rfl rfl rfl ?_ | refine rx_loadAM (vs := [_, _, _]) 5 rfl (fun _ h => h) ag49 rfl rfl rfl rfl rfl ?_ | refine rx_loadAM (vs := [_, _, _]) 6 rfl (fun _ h => h) ag49 rfl rfl rfl rfl rfl ?_ | refine rx_loadAM (vs := [_, _, _]) 7 rfl (fun _ h => h) ag49 rfl rfl rfl rfl rfl ?_))))))))))))
          refine rx_eff rfl (fun K hK => ?_)
          refine rl_off rfl ?_
          refine rl_nil (kq_normal (hK _ _ hM ?_))
          refine rx_eff rfl (fun K hK => ?_)
          refine rl_off rfl ?_
          refine rl_nil (kq_normal (hK _ _ hM ?_))
          refine rx_nil rfl ?_
          (repeat (first | refine rl_nil ?_ | refine inBlock_normal ?_ | refine np_normal ?_ | refine rl_assign (v := (Value.bool _ : Value)) rfl rfl ?_ | (first | refine rl_off rfl ?_ | refine rl_move (v := (Value.pointer _ : Value)) rfl rfl ?_) | refine rl_pick (v := (Value.bool _ : Value)) rfl rfl rfl ?_))
          refine kq_normal ⟨by (repeat (first | with_reducible exact Agree.ov | with_reducible exact Agree.refl _ _ | refine Agree.upd rfl ?_ | refine Agree.ovs rfl ?_)), true, VV, mb2, o2, st2, rfl, VLe.refl _, hM, hA2.knows, hA2.good, ?_⟩
          rw [List.take_add_one, ey]
          exact hA2.sols.bad
        | false =>
          (refine drawnM_ 7 [(0, false), (1, false), (2, false), (3, false), (5, false), (4, true), (6, true)] (fun w => Mem w0 w _ _) hM mo (by kernel_rfl) (fun _ h => h) ?_; clear hM; intro w hM; (try (refine rx_move (v := (Value.bool _ : Value)) rfl rfl rfl ?_; (try (refine rx_move (v := (Value.bool _ : Value)) rfl rfl rfl ?_; (try ((first | refine rx_off rfl rfl ?_ | refine rx_move (v := (Value.pointer _ : Value)) rfl rfl rfl ?_); (try ((first | refine rx_off rfl rfl ?_ | refine rx_loadAV rfl (fun _ h => h) ag49 rfl rfl (by assumption) (by rfl) ?_ | refine rx_loadAM (vs := [_, _, _]) 0 rfl (fun _ h => h) ag49 rfl rfl rfl rfl rfl ?_ | refine rx_loadAM (vs := [_, _, _]) 1 rfl (fun _ h => h) ag49 rfl rfl rfl rfl rfl ?_ | refine rx_loadAM (vs := [_, _, _]) 2 rfl (fun _ h => h) ag49 rfl rfl rfl rfl rfl ?_ | refine rx_loadAM (vs := [_, _, _]) 3 rfl (fun _ h => h) ag49 rfl rfl rfl rfl rfl ?_ | refine rx_loadAM (vs := [_, _, _]) 4 rfl (fun _ h => h) ag49 rfl rfl rfl rfl rfl ?_ | refine rx_loadAM (vs := [_, _, _]) 5 rfl (fun _ h => h) ag49 rfl rfl rfl rfl rfl ?_ | refine rx_loadAM (vs := [_, _, _]) 6 rfl (fun _ h => h) ag49 rfl rfl rfl rfl rfl ?_ | refine rx_loadAM (vs := [_, _, _]) 7 rfl (fun _ h => h) ag49 rfl rfl rfl rfl rfl ?_); (try ((first | refine rx_off rfl rfl ?_ | refine rx_loadAV rfl (fun _ h => h) ag49 rfl rfl (by assumption) (by rfl) ?_ | refine rx_loadAM (vs := [_, _, _]) 0 rfl (fun _ h => h) ag49 rfl rfl rfl rfl rfl ?_ | refine rx_loadAM (vs := [_, _, _]) 1 rfl (fun _ h => h) ag49 rfl rfl rfl rfl rfl ?_ | refine rx_loadAM (vs := [_, _, _]) 2 rfl (fun _ h => h) ag49 rfl rfl rfl rfl rfl ?_ | refine rx_loadAM (vs := [_, _, _]) 3 rfl (fun _ h => h) ag49 rfl rfl rfl rfl rfl ?_ | refine rx_loadAM (vs := [_, _, _]) 4 rfl (fun _ h => h) ag49 rfl rfl rfl rfl rfl ?_ | refine rx_loadAM (vs := [_, _, _]) 5 rfl (fun _ h => h) ag49 rfl rfl rfl rfl rfl ?_ | refine rx_loadAM (vs := [_, _, _]) 6 rfl (fun _ h => h) ag49 rfl rfl rfl rfl rfl ?_ | refine rx_loadAM (vs := [_, _, _]) 7 rfl (fun _ h => h) ag49 rfl rfl rfl rfl rfl ?_))))))))))))
          refine rx_eff rfl (fun K hK => ?_)
          refine rl_callf fn25 (of_ok _ _ _ (Nat.lt_succ_self _) w0 w _ VV hM hy2) rfl rfl ?_
          clear hM
          rintro _ w ⟨V3, p1, hV3, hM, rfl, hp1⟩
          refine rl_nil (kq_normal (hK _ _ (hM.le hV3) ?_))
          refine rx_eff rfl (fun K hK => ?_)
          refine rl_callf fn25 (of_ok _ _ _ (Nat.lt_succ_self _) w0 w _ V3 hM (hx2.le hV3)) rfl rfl ?_
          clear hM
          rintro _ w ⟨V4, p2, hV4, hM, rfl, hp2⟩
          refine rl_nil (kq_normal (hK _ _ (hM.le (hV3.trans hV4)) ?_))
          refine rx_nil rfl ?_
          obtain ⟨res, hres⟩ := hA2.good.ex (tt_low r').2 (tt_low r').1
          refine rl_callf fn24 (Equal_ok hres _ _ w0 w _ V4 s2 mb2 0 o2 (hM.rot (A := [_, _, _, _]) (S := [_, _])) (hA2.knows.le (hV3.trans hV4)) (hp1.le hV4) hp2) rfl rfl ?_
          clear hM
          rintro _ w ⟨V5, mb', o', rfl, hV5, hM, hk'⟩
          replace hM := hM.rot (A := [_, _]) (S := [_, _, _, _])
          obtain ⟨h1, h2⟩ := hA2.sols.step hres
          cases res with
          | ok st' =>
            have hcd : code (.ok st') = 0 := rfl
            (repeat (first | refine rl_nil ?_ | refine inBlock_normal ?_ | refine np_normal ?_ | refine rl_assign (v := (Value.bool _ : Value)) rfl rfl ?_ | refine rl_pick (v := (Value.bool _ : Value)) rfl rfl rfl ?_ | (first | refine rl_off rfl ?_ | (refine rl_neq_t rfl rfl rfl ?_ ?_; omega) | (refine rl_neq_f rfl rfl rfl ?_ ?_; omega))))
            refine kq_normal ⟨by (repeat (first | with_reducible exact Agree.ov | with_reducible exact Agree.refl _ _ | refine Agree.upd rfl ?_ | refine Agree.ovs rfl ?_)), false, V5, mb', o', st', rfl, hV3.trans (hV4.trans hV5), hM, hk', hA2.good.step hres (tt_low r').2 (tt_low r').1 rfl, ?_⟩
            rw [List.take_add_one, ey]
            exact h1 st' rfl
          | error e =>
            have hcd : code (.error e) = 30 ∨ code (.error e) = 32 := by cases e <;> simp [code]
            (repeat (first | refine rl_nil ?_ | refine inBlock_normal ?_ | refine np_normal ?_ | refine rl_assign (v := (Value.bool _ : Value)) rfl rfl ?_ | refine rl_pick (v := (Value.bool _ : Value)) rfl rfl rfl ?_ | (first | refine rl_off rfl ?_ | (refine rl_neq_t rfl rfl rfl ?_ ?_; omega) | (refine rl_neq_f rfl rfl rfl ?_ ?_; omega))))
            refine kq_normal ⟨by (repeat (first | with_reducible exact Agree.ov | with_reducible exact Agree.refl _ _ | refine Agree.upd rfl ?_ | refine Agree.ovs rfl ?_)), true, V5, mb', o', st2, rfl, hV3.trans (hV4.trans hV5), hM, hk', hA2.good, ?_⟩
            rw [List.take_add_one, ey]
            exact h2 e rfl _
      clear hM hA2
      rintro τ3 _ w ⟨worse, V5, mb2, o2, st2, rfl, hV5, hM, hA2⟩
      (repeat (first | refine rl_nil ?_ | (refine region_ (id := 10) ?_; (try (refine rl_move (v := (Value.int _ _ : Value)) rfl rfl ?_; (try ((refine rl_add rfl rfl rfl ?_ ?_ ?_; omega; omega); (try (refine rl_assign (v := (Value.int _ _ : Value)) rfl rfl ?_)))))))))
      exact kq_normal (hL0 (K - (q + 1)) _ _ (by omega) (by (repeat (first | with_reducible exact Agree.ov | with_reducible exact Agree.refl _ _ | refine Agree.upd rfl ?_ | refine Agree.ovs rfl ?_))) ⟨q + 1, V5, mb1, mb2, o1, o2, st1, st2, bad, worse, rfl, rfl, rfl, by omega, rfl, hVV.trans hV5, hM.dropn 4, hA1.le hV5, hA2⟩)
    · have hqK : q = K := by omega
      subst hqK
      have hR : (eqsR ls).length = (eqs ls).length := by simp [eqsR]
      have e1 : (eqs ls).take q = eqs ls := List.take_of_length_le (by omega)
      have e2 : (eqsR ls).take q = eqsR ls := List.take_of_length_le (by omega)
      rw [e1] at hA1
      rw [e2] at hA2
      obtain ⟨hl1, hl2⟩ := eqs_alike ls
      obtain ⟨hbw, hkd⟩ := hA1.sols.alike hA2.sols hl1 hl2
      subst hbw
      cases bad with
      | true =>
        (repeat (first | refine seq_ ?_ | refine sq_normal ?_ | refine sq_exit ?_ | refine rl_nil ?_ | refine cond_t rfl ?_ | refine cond_f rfl ?_ | refine exit_ ?_ | refine inBlock_exit ?_ | refine kq_exit ?_ | (refine region_ (id := 9) ?_; (try (refine rl_move (v := (Value.int _ _ : Value)) rfl rfl ?_; (try (refine rl_move (v := (Value.int _ _ : Value)) rfl rfl ?_; (try ((first | (refine rl_lss_t rfl rfl rfl ?_ ?_; omega) | (refine rl_lss_f rfl rfl rfl ?_ ?_; omega))))))))) | (refine region_ (id := 15) ?_; (try (refine rl_move (v := (Value.bool _ : Value)) rfl rfl ?_; (try (refine rl_move (v := (Value.bool _ : Value)) rfl rfl ?_; (try ((first | refine rl_off rfl ?_ | refine rl_move (v := (Value.bool _ : Value)) rfl rfl ?_); (try (refine rl_pick (v := (Value.bool _ : Value)) rfl rfl rfl ?_))))))))) | (refine region_ (id := 16) ?_; (try (refine rl_move (v := (Value.bool _ : Value)) rfl rfl ?_; (try (refine rl_move (v := (Value.bool _ : Value)) rfl rfl ?_; (try (refine rl_eqbool ub4 rfl rfl rfl ?_; (try (refine rl_move (v := (Value.bool _ : Value)) rfl rfl ?_)))))))))))
        refine rl_callf fn15 (lives_ok w0 w _ V1 hM) rfl rfl ?_
        clear hM
        rintro _ w ⟨rfl, V2, hV2, hM⟩
        (repeat (first | refine sq_normal ?_ | refine sq_ret ?_ | refine rl_nil ?_ | refine ret_ ?_ | refine rl_assign (v := (Value.bool _ : Value)) rfl rfl ?_ | refine rl_pick (v := (Value.bool _ : Value)) rfl rfl rfl ?_))
        exact bp_ret1 (v := Value.bool _) rfl rfl ⟨rfl, hM.below⟩
      | false =>
        have hkd := hkd rfl
        (repeat (first | refine seq_ ?_ | refine sq_normal ?_ | refine sq_exit ?_ | refine rl_nil ?_ | refine cond_f rfl ?_ | refine skip_ ?_ | refine exit_ ?_ | refine block_ ?_ | refine inBlock_exit ?_ | refine kq_exit ?_ | (refine region_ (id := 9) ?_; (try (refine rl_move (v := (Value.int _ _ : Value)) rfl rfl ?_; (try (refine rl_move (v := (Value.int _ _ : Value)) rfl rfl ?_; (try ((first | (refine rl_lss_t rfl rfl rfl ?_ ?_; omega) | (refine rl_lss_f rfl rfl rfl ?_ ?_; omega))))))))) | (refine region_ (id := 15) ?_; (try (refine rl_move (v := (Value.bool _ : Value)) rfl rfl ?_; (try (refine rl_move (v := (Value.bool _ : Value)) rfl rfl ?_; (try ((first | refine rl_off rfl ?_ | refine rl_move (v := (Value.bool _ : Value)) rfl rfl ?_); (try (refine rl_pick (v := (Value.bool _ : Value)) rfl rfl rfl ?_))))))))) | (refine region_ (id := 17) ?_; (try (refine rl_assign (v := (Value.int _ _ : Value)) rfl rfl ?_)))))
        refine loop1 [(2, 3), (13, 15), (80, 94)] 13 (fun m v wr => ∃ (q : Nat) (V2 : Vw), v = .int .i64 q ∧ 1 ≤ q ∧ q ≤ 6 ∧ m = 6 - q ∧ VLe V1 V2 ∧ Mem w0 wr (sv s2 0 mb2 o2 (sv s1 0 mb1 o1 [])) V2) _
          ⟨1, V1, rfl, by omega, by omega, rfl, VLe.refl _, hM⟩ ?_
        clear hM
        rintro m τ2 v w ⟨i, V2, rfl, hi1, hi6, rfl, hV2, hM⟩ K1 hL1
        by_cases hi : i ≤ 5
        · have hv : TmV V2 (.var i) [.int .i64 1, .int .i64 i, .slice none 0 0] := ⟨none, 0, rfl, Nat.zero_le _, by constructor <;> omega⟩
          have hk1 := hA1.knows.le hV2
          have hk2 := hA2.knows.le hV2
          have ht1 := hA1.low (t := .var i) (by simp [Tm.ht])
          have ht2 := hA2.low (t := .var i) (by simp [Tm.ht])
          have hkdi := hkd (.var i)
          (repeat (first | refine seq_ ?_ | refine sq_normal ?_ | refine rl_nil ?_ | refine cond_t rfl ?_ | refine skip_ ?_ | refine block_ ?_ | (refine region_ (id := 18) ?_; (try (refine rl_move (v := (Value.int _ _ : Value)) rfl rfl ?_; (try ((first | (refine rl_leq_t rfl rfl rfl ?_ ?_; omega) | (refine rl_leq_f rfl rfl rfl ?_ ?_; omega))))))) | (refine region_ (id := 20) ?_; (try (refine rl_move (v := (Value.int _ _ : Value)) rfl rfl ?_; (try (refine rl_build [_, _, (Value.slice none 0 0)] ag55 pl55 rfl rfl rfl ?_; (try ((refine rl_allocAM (d := 14) hM ag55 rfl ?_; clear hM; intro w b14 hM); (try ((first | (refine rl_storeWM 0 hM ag55 rfl rfl rfl rfl rfl rfl rfl ?_; clear hM; intro w hM) | (refine rl_storeWM 1 hM ag55 rfl rfl rfl rfl rfl rfl rfl ?_; clear hM; intro w hM) | (refine rl_storeWM 2 hM ag55 rfl rfl rfl rfl rfl rfl rfl ?_; clear hM; intro w hM) | (refine rl_storeWM 3 hM ag55 rfl rfl rfl rfl rfl rfl rfl ?_; clear hM; intro w hM) | (refine rl_storeWM 4 hM ag55 rfl rfl rfl rfl rfl rfl rfl ?_; clear hM; intro w hM) | (refine rl_storeWM 5 hM ag55 rfl rfl rfl rfl rfl rfl rfl ?_; clear hM; intro w hM) | (refine rl_storeWM 6 hM ag55 rfl rfl rfl rfl rfl rfl rfl ?_; clear hM; intro w hM) | (refine rl_storeWM 7 hM ag55 rfl rfl rfl rfl rfl rfl rfl ?_; clear hM; intro w hM)))))))))))))
          (refine drawnM_ 6 [(0, false), (1, false), (3, false), (4, false), (2, true), (5, true)] (fun w => Mem w0 w _ _) hM mo (by kernel_rfl) (fun _ h => h) ?_; clear hM; intro w hM; (try (refine rx_move (v := (Value.pointer _ : Value)) rfl rfl rfl ?_; (try ((first | refine rx_loadAV rfl (fun _ h => h) ag55 rfl rfl (by assumption) (by rfl) ?_ | refine rx_loadAM (vs := [_, _, _]) 0 rfl (fun _ h => h) ag55 rfl rfl rfl rfl rfl ?_ | refine rx_loadAM (vs := [_, _, _]) 1 rfl (fun _ h => h) ag55 rfl rfl rfl rfl rfl ?_ | refine rx_loadAM (vs := [_, _, _]) 2 rfl (fun _ h => h) ag55 rfl rfl rfl rfl rfl ?_ | refine rx_loadAM (vs := [_, _, _]) 3 rfl (fun _ h => h) ag55 rfl rfl rfl rfl rfl ?_ | refine rx_loadAM (vs := [_, _, _]) 4 rfl (fun _ h => h) ag55 rfl rfl rfl rfl rfl ?_ | refine rx_loadAM (vs := [_, _, _]) 5 rfl (fun _ h => h) ag55 rfl rfl rfl rfl rfl ?_ | refine rx_loadAM (vs := [_, _, _]) 6 rfl (fun _ h => h) ag55 rfl rfl rfl rfl rfl ?_ | refine rx_loadAM (vs := [_, _, _]) 7 rfl (fun _ h => h) ag55 rfl rfl rfl rfl rfl ?_); (try (refine rx_move (v := (Value.pointer _ : Value)) rfl rfl rfl ?_; (try ((first | refine rx_loadAV rfl (fun _ h => h) ag55 rfl rfl (by assumption) (by rfl) ?_ | refine rx_loadAM (vs := [_, _, _]) 0 rfl (fun _ h => h) ag55 rfl rfl rfl rfl rfl ?_ | refine rx_loadAM (vs := [_, _, _]) 1 rfl (fun _ h => h) ag55 rfl rfl rfl rfl rfl ?_ | refine rx_loadAM (vs := [_, _, _]) 2 rfl (fun _ h => h) ag55 rfl rfl rfl rfl rfl ?_ | refine rx_loadAM (vs := [_, _, _]) 3 rfl (fun _ h => h) ag55 rfl rfl rfl rfl rfl ?_ | refine rx_loadAM (vs := [_, _, _]) 4 rfl (fun _ h => h) ag55 rfl rfl rfl rfl rfl ?_ | refine rx_loadAM (vs := [_, _, _]) 5 rfl (fun _ h => h) ag55 rfl rfl rfl rfl rfl ?_ | refine rx_loadAM (vs := [_, _, _]) 6 rfl (fun _ h => h) ag55 rfl rfl rfl rfl rfl ?_ | refine rx_loadAM (vs := [_, _, _]) 7 rfl (fun _ h => h) ag55 rfl rfl rfl rfl rfl ?_))))))))))
          refine rx_eff rfl (fun K hK => ?_)
          refine rl_callf fn26 (Kind_ok _ st1 (.var i) _ (Nat.le_refl _) ht1 w0 w _ V2 s1 mb1 0 o1 (hM.rot (A := [_, _, _]) (S := [_, _])) hk1 hv) rfl rfl ?_
          clear hM
          rintro _ w ⟨V3, v3, hV3, hM, rfl, hk3⟩
          replace hM := hM.rot (A := [_, _]) (S := [_, _, _])
          obtain ⟨_, _, rfl⟩ := hk3.shape
          refine rl_nil (kq_normal (hK _ _ (hM.le hV3) ?_))
          refine rx_eff rfl (fun K hK => ?_)
          refine rl_callf fn26 (Kind_ok _ st2 (.var i) _ (Nat.le_refl _) ht2 w0 w _ V3 s2 mb2 0 o2 (hM.rot (A := [_]) (S := [_, _])) (hk2.le hV3) (hv.le hV3)) rfl rfl ?_
          clear hM
          rintro _ w ⟨V4, v4, hV4, hM, rfl, hk4⟩
          replace hM := hM.rot (A := [_, _]) (S := [_])
          obtain ⟨_, _, rfl⟩ := hk4.shape
          refine rl_nil (kq_normal (hK _ _ (hM.le (hV3.trans hV4)) ?_))
          refine rx_nil rfl ?_
          refine rl_callf fn14 (refsame_ok _ _ _ (Nat.lt_succ_self _) w0 w _ V4 _ _ hM (hk3.le hV4) hk4) rfl rfl ?_
          clear hM
          rintro _ w ⟨rfl, hM⟩
          rw [Kd.same_iff.2 hkdi]
          (repeat (first | refine sq_normal ?_ | refine rl_nil ?_ | refine cond_f rfl ?_ | refine skip_ ?_ | refine inBlock_normal ?_ | refine np_normal ?_ | (refine region_ (id := 19) ?_; (try (refine rl_move (v := (Value.int _ _ : Value)) rfl rfl ?_; (try ((refine rl_add rfl rfl rfl ?_ ?_ ?_; omega; omega); (try (refine rl_assign (v := (Value.int _ _ : Value)) rfl rfl ?_))))))) | refine rl_not rfl rfl ?_))
          exact kq_normal (hL1 (6 - (i + 1)) _ _ (by omega) (by (repeat (first | with_reducible exact Agree.ov | with_reducible exact Agree.refl _ _ | refine Agree.upd rfl ?_ | refine Agree.ovs rfl ?_))) ⟨i + 1, V4, rfl, by omega, by omega, rfl, hV2.trans (hV3.trans hV4), hM.dropn 1⟩)
        · (repeat (first | refine seq_ ?_ | refine sq_normal ?_ | refine sq_exit ?_ | refine rl_nil ?_ | refine cond_f rfl ?_ | refine exit_ ?_ | refine inBlock_exit ?_ | refine kq_exit ?_ | (refine region_ (id := 18) ?_; (try (refine rl_move (v := (Value.int _ _ : Value)) rfl rfl ?_; (try ((first | (refine rl_leq_t rfl rfl rfl ?_ ?_; omega) | (refine rl_leq_f rfl rfl rfl ?_ ?_; omega))))))) | (refine region_ (id := 23) ?_)))
          refine rl_callf fn15 (lives_ok w0 w _ V2 hM) rfl rfl ?_
          clear hM
          rintro _ w ⟨rfl, V3, hV3, hM⟩
          (repeat (first | refine sq_normal ?_ | refine rl_nil ?_ | refine ret_ ?_ | refine rl_assign (v := (Value.bool _ : Value)) rfl rfl ?_))
          exact bp_ret1 (v := Value.bool _) rfl rfl ⟨rfl, hM.below⟩
  rw [hw0] at key
  exact key
end Go.Proofs.Ytkjahcegjplbnaa.Kin
