/- The walk of fuguelaw27.HeapRow. -/
import Derived.Test.YtoekjhalcjhegaaHepP4
import Derived.Test.YtoekjhalcjhegaaHepP1
import Derived.Test.YtoekjhalcjhegaaEng26
set_option linter.unusedVariables false
set_option linter.unusedSimpArgs false
namespace Go.Proofs.Ytoekjhalcjhegaa.Hep
open Go Go.Eng Go.RowKit Go.Hp
attribute [local irreducible] RL RX KQ SQ Exit.inBlock Exit.then BP NP CallsOk IsSl IsRows IsInts IsBools Own Blk Code.wp Calls wpList
theorem downN_get {n k : Nat} (h : k < n) : (downN n n)[k]? = some ((n : Int) - 1 - k) := by
  unfold downN; rw [List.getElem?_map, List.getElem?_range h]; rfl
theorem downN_mem {n : Nat} {p : Int} (h0 : 0 ≤ p) (h1 : p < n) : p ∈ downN n n := by
  have := downN_get (n := n) (k := (n : Int) - 1 - p |>.toNat) (by omega)
  have h := List.mem_of_getElem? this
  have e : (n : Int) - 1 - (((n : Int) - 1 - p).toNat : Nat) = p := by omega
  rwa [e] at h
set_option maxRecDepth 4000 in
set_option maxHeartbeats 4000000 in
theorem law9 (v : Value) (xs : List Ac) (rv : Value) (rs : List Int) (w : World) (hx : IsActs w.cell? v xs) (hr : IsInts w.cell? rv rs) : CallsOk Try.prog 9 #[v, rv] w fun r w' => r = .bool true ∧ Below w.heap.size w w' := by
  have hM := Mem.init w
  obtain ⟨w0, hw0⟩ : ∃ w0, w0 = w := ⟨_, rfl⟩
  obtain ⟨V, hVd⟩ : ∃ V, V = w.cell? := ⟨_, rfl⟩
  rw [← hVd] at hM hx hr
  replace hM : Mem w0 w [] V := by rw [hw0]; exact hM
  have key : CallsOk Try.prog 9 #[v, rv] w fun r w' => r = .bool true ∧ Below w0.heap.size w0 w' := by
    clear hVd hw0
    obtain ⟨va, vc, _, _, hvv, _⟩ := id hx
    obtain ⟨ra, rc, rb, roff, hrr, hrc, hrcm, hra, hrel⟩ := id hr.open
    refine enter_ (N := 140) Try.func9 rfl rfl rfl ?_
    subst hvv hrr
    (repeat (first | refine seq_ ?_ | refine sq_normal ?_ | refine rl_nil ?_ | (refine region_ (id := 0) ?_; (try (refine rl_assign (v := (Value.bool _ : Value)) rfl rfl ?_))) | (refine region_ (id := 1) ?_; (try (refine rl_move (v := (Value.slice _ _ _ : Value)) rfl rfl ?_)))))
    refine rl_callf fn28 (built_ok w0 w [] V _ xs hM hx) rfl rfl ?_
    clear hM
    rintro _ w ⟨V1, h, hV1, rfl, hv, hcs0, hM, hcs⟩
    (repeat (first | refine seq_ ?_ | refine sq_normal ?_ | refine rl_nil ?_ | (refine region_ (id := 2) ?_; (try (refine rl_move (v := (Value.slice _ _ _ : Value)) rfl rfl ?_))) | refine rl_assign (v := (Value.bool _ : Value)) rfl rfl ?_ | refine rl_move (v := (Value.tuple _ : Value)) rfl rfl ?_ | refine rl_extract rfl rfl rfl ?_ | refine rl_assign (v := (Value.pointer _ : Value)) rfl rfl ?_))
    refine rl_callf fn28 (built_ok w0 w _ V1 _ xs hM (hx.le hV1)) rfl rfl ?_
    clear hM
    rintro _ w ⟨V2, g, hV2, rfl, gv, gcs0, hM, hgs⟩
    replace hcs := hcs.le hV2
    have hO := builtN_ok xs
    have hl := builtN_len xs
    obtain ⟨l, hld⟩ : ∃ l, l = builtN xs := ⟨_, rfl⟩
    rw [← hld] at hM hcs hgs hO hl
    clear hld
    obtain ⟨hv, hcs0, gv, gcs, hM, hcs, hgs⟩ : H2 w0 w V2 h 40 l g 40 l [] := H2.swap ⟨gv, gcs0, hv, hcs0, hM, hgs, hcs⟩
    (repeat (first | refine seq_ ?_ | refine sq_normal ?_ | refine rl_nil ?_ | refine cond_f rfl ?_ | refine skip_ ?_ | (refine region_ (id := 3) ?_; (try (refine rl_move (v := (Value.bool _ : Value)) rfl rfl ?_; (try (refine rl_not rfl rfl ?_; (try (refine rl_move (v := (Value.bool _ : Value)) rfl rfl ?_; (try ((first | refine rl_off rfl ?_ | refine rl_move (v := (Value.bool _ : Value)) rfl rfl ?_); (try ((first | refine rl_off rfl ?_ | refine rl_not rfl rfl ?_); (try (refine rl_pick (v := (Value.bool _ : Value)) rfl rfl rfl ?_))))))))))))) | (refine region_ (id := 5) ?_; (try (refine rl_move (v := (Value.pointer _ : Value)) rfl rfl ?_))) | refine rl_assign (v := (Value.bool _ : Value)) rfl rfl ?_ | refine rl_move (v := (Value.tuple _ : Value)) rfl rfl ?_ | refine rl_extract rfl rfl rfl ?_ | refine rl_assign (v := (Value.pointer _ : Value)) rfl rfl ?_))
    refine rl_callf fn14 (len_ok w0 w _ V2 h 40 l ⟨_, _, hM, hcs⟩) rfl rfl ?_
    rintro _ w ⟨rfl, rfl⟩
    by_cases hz : (l.length : Int) = 0
    · have hl0 := emp_of hz
      subst hl0
      (repeat (first | refine seq_ ?_ | refine sq_normal ?_ | refine rl_nil ?_ | refine cond_t rfl ?_ | (refine region_ (id := 6) ?_; (try (refine rl_move (v := (Value.int _ _ : Value)) rfl rfl ?_; (try ((first | (refine rl_eql_t rfl rfl rfl ?_ ?_; omega) | (refine rl_eql_f rfl rfl rfl ?_ ?_; omega))))))) | (refine region_ (id := 7) ?_; (try (refine rl_move (v := (Value.pointer _ : Value)) rfl rfl ?_))) | refine rl_assign (v := (Value.int _ _ : Value)) rfl rfl ?_))
      refine rl_callf fn15 (collect_ok w0 w _ V2 h 40 [] (.slice none 0 0) [] ⟨_, _, hM, hcs⟩ hO (ints_nil V2) (by decide) (by decide)) rfl rfl ?_
      clear hM
      rintro tv w ⟨V3, hV3, hH, htv⟩
      rw [collect_nil] at htv
      obtain ⟨ta, tc, _, _, rfl, _⟩ := htv.open
      (repeat (first | refine rl_move (v := (Value.bool _ : Value)) rfl rfl ?_ | (first | (refine rl_eql_t rfl rfl rfl ?_ ?_; omega) | (refine rl_eql_f rfl rfl rfl ?_ ?_; omega)) | refine rl_len sl29 rfl rfl ?_))
      refine rl_callf fn17 (lives_ok w0 w _ V3 (HP.drop hH)) rfl rfl ?_
      rintro _ w ⟨V4, hV4, rfl, hM⟩
      (repeat (first | refine sq_normal ?_ | refine sq_ret ?_ | refine rl_nil ?_ | refine ret_ ?_ | refine rl_assign (v := (Value.bool _ : Value)) rfl rfl ?_ | refine rl_pick (v := (Value.bool _ : Value)) rfl rfl rfl ?_))
      exact bp_ret1 (v := Value.bool _) rfl rfl ⟨rfl, hM.below⟩
    · have hn0 : 0 < l.length := by omega
      -- all places, the last one first
      replace hM : Mem w0 w (hp 67 31 g gv 40 l gcs (hp 67 31 h hv 40 l hcs0 [.own (.slice none 0 0) 3 1 0 []])) V2 := ((((hM.newOwn 3 1).front 2 rfl).front 2 rfl).front 4 rfl).front 4 rfl
      (repeat (first | refine seq_ ?_ | refine sq_normal ?_ | refine rl_nil ?_ | refine cond_f rfl ?_ | refine skip_ ?_ | refine block_ ?_ | (refine region_ (id := 6) ?_; (try (refine rl_move (v := (Value.int _ _ : Value)) rfl rfl ?_; (try ((first | (refine rl_eql_t rfl rfl rfl ?_ ?_; omega) | (refine rl_eql_f rfl rfl rfl ?_ ?_; omega))))))) | (refine region_ (id := 8) ?_; (try (refine rl_assign (v := (Value.slice _ _ _ : Value)) rfl rfl ?_))) | (refine region_ (id := 9) ?_; (try (refine rl_move (v := (Value.int _ _ : Value)) rfl rfl ?_; (try ((refine rl_sub rfl rfl rfl ?_ ?_ ?_; omega; omega); (try (refine rl_assign (v := (Value.int _ _ : Value)) rfl rfl ?_))))))) | refine rl_assign (v := (Value.int _ _ : Value)) rfl rfl ?_))
      refine loop2 [(10, 12), (53, 61)] 10 11 (fun m pv vi wr => ∃ (i : Nat), vi = .int .i64 ((l.length : Int) - 1 - i) ∧ i ≤ l.length ∧ m = l.length - i ∧ Mem w0 wr (hp 67 31 g gv 40 l gcs (hp 67 31 h hv 40 l hcs0 [.own pv 3 1 i ((downN l.length i).map (Value.int .i64))])) V2) _
        ⟨0, by show Value.int .i64 ((l.length : Int) - 1) = _; congr 1; omega, Nat.zero_le _, rfl, hM⟩ ?_
      clear hM
      rintro m τ pv vi w ⟨i, rfl, hi, rfl, hM⟩ K0 hL0
      obtain ⟨pa, pc, rfl, _, _⟩ := hM.ownShape (i := 4) rfl
      by_cases hlt : i < l.length
      · (repeat (first | refine seq_ ?_ | refine sq_normal ?_ | refine rl_nil ?_ | refine cond_t rfl ?_ | refine skip_ ?_ | refine block_ ?_ | (refine region_ (id := 10) ?_; (try (refine rl_move (v := (Value.int _ _ : Value)) rfl rfl ?_; (try ((first | (refine rl_geq_t rfl rfl rfl ?_ ?_; omega) | (refine rl_geq_f rfl rfl rfl ?_ ?_; omega))))))) | (refine region_ (id := 12) ?_; (try (refine rl_move (v := (Value.slice _ _ _ : Value)) rfl rfl ?_; (try (refine rl_move (v := (Value.int _ _ : Value)) rfl rfl ?_; (try ((refine rl_bsliceM (d := 59) [_] hM sl29 rfl rfl rfl rfl rfl (by decide) (by decide) ?_; clear hM; intro w b59 hM))))))))))
        refine rl_appendM 5 (news := [.int .i64 ((l.length : Int) - 1 - i)]) (B := b59) (off := 0) hM sl29 rfl (by decide) rfl (hM.row (i := 0) rfl) rfl rfl rfl (fun _ => rfl) rfl (by simp [Value.oneCell']) (by unfold maxLen; omega) (by omega) ?_
        clear hM
        intro w a' c' _ _ hM
        replace hM : Mem w0 w (hp 67 31 g gv 40 l gcs (hp 67 31 h hv 40 l hcs0 [.own (.slice a' (i + 1) c') 3 1 (i + 1) ((downN l.length i).map (Value.int .i64) ++ [.int .i64 ((l.length : Int) - 1 - i)])])) V2 := hM.dropn 1
        rw [show (downN l.length i).map (Value.int .i64) ++ [Value.int .i64 ((l.length : Int) - 1 - i)] = (downN l.length (i + 1)).map (Value.int .i64) by rw [downN_succ]; simp] at hM
        (repeat (first | refine sq_normal ?_ | refine rl_nil ?_ | refine inBlock_normal ?_ | (refine region_ (id := 11) ?_; (try (refine rl_move (v := (Value.int _ _ : Value)) rfl rfl ?_; (try ((refine rl_sub rfl rfl rfl ?_ ?_ ?_; omega; omega); (try (refine rl_assign (v := (Value.int _ _ : Value)) rfl rfl ?_))))))) | refine rl_assign (v := (Value.slice _ _ _ : Value)) rfl rfl ?_))
        exact kq_normal (hL0 (l.length - (i + 1)) _ _ (by omega) (by (repeat (first | with_reducible exact Agree.ov | with_reducible exact Agree.refl _ _ | refine Agree.upd rfl ?_ | refine Agree.ovs rfl ?_))) ⟨i + 1, by show Value.int .i64 ((l.length : Int) - 1 - i - 1) = _; congr 1; omega, by omega, rfl, hM⟩)
      · have hil : i = l.length := by omega
        subst hil
        clear hL0
        have hdl := downN_len l.length l.length
        have hdr := downN_rng (Nat.le_refl l.length)
        obtain ⟨all, hall⟩ : ∃ all, all = downN l.length l.length := ⟨_, rfl⟩
        have hget : ∀ p : Int, 0 ≤ p → p < l.length → all[((l.length : Int) - 1 - p).toNat]? = some p := by
          intro p h0 h1
          rw [hall, downN_get (by omega)]
          congr 1; omega
        rw [← hall] at hM hdl hdr
        clear hall
        obtain ⟨V3, hV3, hM3, pa', pc', pb, er, e5, e6, e7, e8⟩ := Mem.freezeOwn (hM.front 4 rfl)
        cases er
        replace hM3 : Mem w0 w (hp 67 31 g gv 40 l gcs (hp 67 31 h hv 40 l hcs0 [])) V3 := hM3
        have hpi : IsInts V3 (.slice pa l.length pc) all := isInts_of hdl.symm (by rw [hdl]; exact e5) e6 (by rw [hdl]; exact e7) e8 (fun x hx => by have := hdr x hx; unfold I64; omega)
        clear hM e7 e8
        (repeat (first | refine seq_ ?_ | refine sq_normal ?_ | refine sq_exit ?_ | refine rl_nil ?_ | refine cond_f rfl ?_ | refine exit_ ?_ | refine inBlock_exit ?_ | refine kq_exit ?_ | (refine region_ (id := 10) ?_; (try (refine rl_move (v := (Value.int _ _ : Value)) rfl rfl ?_; (try ((first | (refine rl_geq_t rfl rfl rfl ?_ ?_; omega) | (refine rl_geq_f rfl rfl rfl ?_ ?_; omega))))))) | (refine region_ (id := 13) ?_; (try (refine rl_move (v := (Value.pointer _ : Value)) rfl rfl ?_; (try (refine rl_move (v := (Value.slice _ _ _ : Value)) rfl rfl ?_)))))))
        refine rl_callf fn15 (collect_ok w0 w _ V3 g 40 l _ all ⟨_, _, hM3, hgs.le hV3⟩ hO hpi (by omega) (by omega)) rfl rfl ?_
        clear hM3 hgs
        rintro tv w ⟨V4, hV4, ⟨gv, gcs, hM, hgs⟩, htv⟩
        rw [col_out] at htv
        obtain ⟨ta, tc, tb, toff, rfl, _, _, hta, htel⟩ := htv.open
        have htl : (all.map (outv l (kept l all))).length = l.length := by rw [List.length_map, hdl]
        simp only [htl] at hta htel ⊢
        have hta' := hta (by omega)
        subst hta'
        replace hcs := (hcs.le hV3).le hV4
        clear hpi
        replace hM : Mem w0 w (hp 67 31 h hv 40 l hcs0 (hp 67 31 g gv 40 (collect l all).1 gcs [.own (.slice none 0 0) 3 1 0 [], .own (.slice none 0 0) 3 1 0 []])) V4 := (((((hM.newOwn 3 1).newOwn 3 1).front 3 rfl).front 3 rfl).front 5 rfl).front 5 rfl
        (repeat (first | refine seq_ ?_ | refine sq_normal ?_ | refine rl_nil ?_ | refine cond_f rfl ?_ | refine skip_ ?_ | refine block_ ?_ | (refine region_ (id := 14) ?_; (try (refine rl_move (v := (Value.slice _ _ _ : Value)) rfl rfl ?_; (try (refine rl_len sl29 rfl rfl ?_; (try (refine rl_move (v := (Value.int _ _ : Value)) rfl rfl ?_; (try ((first | (refine rl_neq_t rfl rfl rfl ?_ ?_; omega) | (refine rl_neq_f rfl rfl rfl ?_ ?_; omega))))))))))) | (refine region_ (id := 16) ?_; (try (refine rl_assign (v := (Value.slice _ _ _ : Value)) rfl rfl ?_))) | (refine region_ (id := 17) ?_; (try (refine rl_assign (v := (Value.slice _ _ _ : Value)) rfl rfl ?_))) | (refine region_ (id := 18) ?_; (try (refine rl_assign (v := (Value.int _ _ : Value)) rfl rfl ?_))) | refine rl_assign (v := (Value.slice _ _ _ : Value)) rfl rfl ?_))
        refine cut_blk2 [(13, 17), (68, 98)] 13 14 (fun pv mv wr => Mem w0 wr (hp 67 31 h hv 40 l hcs0 (hp 67 31 g gv 40 (collect l all).1 gcs [.own pv 3 1 (min rs.length 6) ((placesN rs l.length (min rs.length 6)).map (Value.int .i64)), .own mv 3 1 (min rs.length 6) (((placesN rs l.length (min rs.length 6)).map (outv l (kept l all))).map (Value.int .i64))])) V4) ?_ ?_
        · refine loop3 [(13, 17), (68, 98)] 13 14 15 (fun m pv mv vi wr => ∃ (i : Nat), vi = .int .i64 i ∧ i ≤ rs.length ∧ i ≤ 6 ∧ m = 6 - i ∧ Mem w0 wr (hp 67 31 h hv 40 l hcs0 (hp 67 31 g gv 40 (collect l all).1 gcs [.own pv 3 1 i ((placesN rs l.length i).map (Value.int .i64)), .own mv 3 1 i (((placesN rs l.length i).map (outv l (kept l all))).map (Value.int .i64))])) V4) _
            ⟨0, rfl, Nat.zero_le _, Nat.zero_le _, rfl, hM⟩ ?_
          clear hM
          rintro m τ2 pv mv vi w ⟨i, rfl, hi, hi6, rfl, hM⟩ K0 hL0
          obtain ⟨pa, pc, rfl, _, _⟩ := hM.ownShape (i := 4) rfl
          obtain ⟨ma, mc, rfl, _, _⟩ := hM.ownShape (i := 5) rfl
          by_cases hlt1 : i < rs.length
          · by_cases hlt2 : i < 6
            · obtain ⟨r, hri⟩ : ∃ r, rs[i]? = some r := ⟨_, List.getElem?_eq_getElem hlt1⟩
              have hra' := hra (by omega)
              subst hra'
              have hv0 : V4 ⟨rb, roff + (i : Int).toNat, none⟩ = some (.int .i64 r) := hV4 _ _ (hV3 _ _ (hV2 _ _ (hV1 _ _ (hrel i r hri))))
              have hr64 := hr.rng r (List.mem_of_getElem? hri)
              have hpr := around_lt r (l.length : Int) (by omega)
              (repeat (first | refine seq_ ?_ | refine sq_normal ?_ | refine rl_nil ?_ | refine cond_t rfl ?_ | refine skip_ ?_ | refine block_ ?_ | (refine region_ (id := 19) ?_; (try (refine rl_move (v := (Value.int _ _ : Value)) rfl rfl ?_; (try (refine rl_move (v := (Value.slice _ _ _ : Value)) rfl rfl ?_; (try (refine rl_len sl29 rfl rfl ?_; (try ((first | (refine rl_lss_t rfl rfl rfl ?_ ?_; omega) | (refine rl_lss_f rfl rfl rfl ?_ ?_; omega)); (try (refine rl_move (v := (Value.bool _ : Value)) rfl rfl ?_; (try ((first | refine rl_off rfl ?_ | refine rl_move (v := (Value.int _ _ : Value)) rfl rfl ?_); (try ((first | refine rl_off rfl ?_ | (refine rl_lss_t rfl rfl rfl ?_ ?_; omega) | (refine rl_lss_f rfl rfl rfl ?_ ?_; omega)); (try (refine rl_pick (v := (Value.bool _ : Value)) rfl rfl rfl ?_))))))))))))))))) | (refine region_ (id := 21) ?_; (try (refine rl_move (v := (Value.slice _ _ _ : Value)) rfl rfl ?_; (try (refine rl_move (v := (Value.int _ _ : Value)) rfl rfl ?_; (try ((first | (refine rl_idx1 sl29 rfl rfl rfl rfl ?_ ?_ ?_; omega; omega) | (apply rl_idx1 sl29 rfl rfl rfl; assumption; omega; omega)); (try ((first | refine rl_loadV hM vt3 rfl rfl (by first | assumption | exact VRow.get (by assumption) rfl | exact VRow.get0 (by assumption) rfl) ?_ | refine rl_loadM 0 hM vt3 rfl rfl rfl (by first | rfl | assumption) ?_ | refine rl_loadM 1 hM vt3 rfl rfl rfl (by first | rfl | assumption) ?_ | refine rl_loadM 2 hM vt3 rfl rfl rfl (by first | rfl | assumption) ?_ | refine rl_loadM 3 hM vt3 rfl rfl rfl (by first | rfl | assumption) ?_ | refine rl_loadM 4 hM vt3 rfl rfl rfl (by first | rfl | assumption) ?_ | refine rl_loadM 5 hM vt3 rfl rfl rfl (by first | rfl | assumption) ?_ | refine rl_loadM 6 hM vt3 rfl rfl rfl (by first | rfl | assumption) ?_ | refine rl_loadM 7 hM vt3 rfl rfl rfl (by first | rfl | assumption) ?_ | refine rl_loadM 8 hM vt3 rfl rfl rfl (by first | rfl | assumption) ?_ | refine rl_loadO 0 hM vt3 rfl rfl rfl (by first | assumption | exact ORow.get (by assumption) rfl | exact ORow.get0 (by assumption) rfl) ?_ | refine rl_loadO 1 hM vt3 rfl rfl rfl (by first | assumption | exact ORow.get (by assumption) rfl | exact ORow.get0 (by assumption) rfl) ?_ | refine rl_loadO 2 hM vt3 rfl rfl rfl (by first | assumption | exact ORow.get (by assumption) rfl | exact ORow.get0 (by assumption) rfl) ?_ | refine rl_loadO 3 hM vt3 rfl rfl rfl (by first | assumption | exact ORow.get (by assumption) rfl | exact ORow.get0 (by assumption) rfl) ?_ | refine rl_loadO 4 hM vt3 rfl rfl rfl (by first | assumption | exact ORow.get (by assumption) rfl | exact ORow.get0 (by assumption) rfl) ?_ | refine rl_loadO 5 hM vt3 rfl rfl rfl (by first | assumption | exact ORow.get (by assumption) rfl | exact ORow.get0 (by assumption) rfl) ?_ | refine rl_loadO 6 hM vt3 rfl rfl rfl (by first | assumption | exact ORow.get (by assumption) rfl | exact ORow.get0 (by assumption) rfl) ?_ | refine rl_loadO 7 hM vt3 rfl rfl rfl (by first | assumption | exact ORow.get (by assumption) rfl | exact ORow.get0 (by assumption) rfl) ?_ | refine rl_loadO 8 hM vt3 rfl rfl rfl (by first | assumption | exact ORow.get (by assumption) rfl | exact ORow.get0 (by assumption) rfl) ?_); (try (refine rl_move (v := (Value.int _ _ : Value)) rfl rfl ?_)))))))))))))
              refine rl_callf fn11 (around_ok r (l.length : Int) w hr64.1 hr64.2 (by omega) (by omega)) rfl rfl ?_
              rintro _ w ⟨rfl, rfl⟩
              obtain ⟨p, hpd⟩ : ∃ p, p = around r (l.length : Int) := ⟨_, rfl⟩
              rw [← hpd] at hpr ⊢
              have hv1 : V4 ⟨tb, toff + ((l.length : Int) - 1 - p).toNat, none⟩ = some (.int .i64 (outv l (kept l all) p)) := htel _ _ (by rw [List.getElem?_map, hget p hpr.1 hpr.2]; rfl)
              have hps := placesN_succ (n := l.length) hri
              rw [← hpd] at hps
              (repeat (first | refine seq_ ?_ | refine sq_normal ?_ | refine rl_nil ?_ | (refine region_ (id := 22) ?_; (try (refine rl_move (v := (Value.slice _ _ _ : Value)) rfl rfl ?_; (try (refine rl_move (v := (Value.int _ _ : Value)) rfl rfl ?_; (try ((refine rl_bsliceM (d := 86) [_] hM sl29 rfl rfl rfl rfl rfl (by decide) (by decide) ?_; clear hM; intro w b86 hM)))))))) | refine rl_assign (v := (Value.int _ _ : Value)) rfl rfl ?_))
              refine rl_appendM 5 (news := [.int .i64 p]) (B := b86) (off := 0) hM sl29 rfl (by decide) rfl (hM.row (i := 0) rfl) rfl rfl rfl (fun _ => rfl) rfl (by simp [Value.oneCell']) (by unfold maxLen; omega) (by omega) ?_
              clear hM
              intro w a' c' _ _ hM
              replace hM : Mem w0 w (hp 67 31 h hv 40 l hcs0 (hp 67 31 g gv 40 (collect l all).1 gcs [.own (.slice a' (i + 1) c') 3 1 (i + 1) ((placesN rs l.length i).map (Value.int .i64) ++ [.int .i64 p]), .own (.slice ma i mc) 3 1 i (((placesN rs l.length i).map (outv l (kept l all))).map (Value.int .i64))])) V4 := hM.dropn 1
              (repeat (first | refine sq_normal ?_ | refine rl_nil ?_ | (refine region_ (id := 23) ?_; (try (refine rl_move (v := (Value.slice _ _ _ : Value)) rfl rfl ?_; (try (refine rl_move (v := (Value.slice _ _ _ : Value)) rfl rfl ?_; (try (refine rl_move (v := (Value.int _ _ : Value)) rfl rfl ?_; (try ((refine rl_sub rfl rfl rfl ?_ ?_ ?_; omega; omega); (try (refine rl_move (v := (Value.int _ _ : Value)) rfl rfl ?_; (try ((refine rl_sub rfl rfl rfl ?_ ?_ ?_; omega; omega); (try ((first | (refine rl_idx1 sl29 rfl rfl rfl rfl ?_ ?_ ?_; omega; omega) | (apply rl_idx1 sl29 rfl rfl rfl; assumption; omega; omega)); (try ((first | refine rl_loadV hM vt3 rfl rfl (by first | assumption | exact VRow.get (by assumption) rfl | exact VRow.get0 (by assumption) rfl) ?_ | refine rl_loadM 0 hM vt3 rfl rfl rfl (by first | rfl | assumption) ?_ | refine rl_loadM 1 hM vt3 rfl rfl rfl (by first | rfl | assumption) ?_ | refine rl_loadM 2 hM vt3 rfl rfl rfl (by first | rfl | assumption) ?_ | refine rl_loadM 3 hM vt3 rfl rfl rfl (by first | rfl | assumption) ?_ | refine rl_loadM 4 hM vt3 rfl rfl rfl (by first | rfl | assumption) ?_ | refine rl_loadM 5 hM vt3 rfl rfl rfl (by first | rfl | assumption) ?_ | refine rl_loadM 6 hM vt3 rfl rfl rfl (by first | rfl | assumption) ?_ | refine rl_loadM 7 hM vt3 rfl rfl rfl (by first | rfl | assumption) ?_ | refine rl_loadM 8 hM vt3 rfl rfl rfl (by first | rfl | assumption) ?_ | refine rl_loadO 0 hM vt3 rfl rfl rfl (by first | assumption | exact ORow.get (by assumption) rfl | exact ORow.get0 (by assumption) rfl) ?_ | refine rl_loadO 1 hM vt3 rfl rfl rfl (by first | assumption | exact ORow.get (by assumption) rfl | exact ORow.get0 (by assumption) rfl) ?_ | refine rl_loadO 2 hM vt3 rfl rfl rfl (by first | assumption | exact ORow.get (by assumption) rfl | exact ORow.get0 (by assumption) rfl) ?_ | refine rl_loadO 3 hM vt3 rfl rfl rfl (by first | assumption | exact ORow.get (by assumption) rfl | exact ORow.get0 (by assumption) rfl) ?_ | refine rl_loadO 4 hM vt3 rfl rfl rfl (by first | assumption | exact ORow.get (by assumption) rfl | exact ORow.get0 (by assumption) rfl) ?_ | refine rl_loadO 5 hM vt3 rfl rfl rfl (by first | assumption | exact ORow.get (by assumption) rfl | exact ORow.get0 (by assumption) rfl) ?_ | refine rl_loadO 6 hM vt3 rfl rfl rfl (by first | assumption | exact ORow.get (by assumption) rfl | exact ORow.get0 (by assumption) rfl) ?_ | refine rl_loadO 7 hM vt3 rfl rfl rfl (by first | assumption | exact ORow.get (by assumption) rfl | exact ORow.get0 (by assumption) rfl) ?_ | refine rl_loadO 8 hM vt3 rfl rfl rfl (by first | assumption | exact ORow.get (by assumption) rfl | exact ORow.get0 (by assumption) rfl) ?_); (try ((refine rl_bsliceM (d := 96) [_] hM sl29 rfl rfl rfl rfl rfl (by decide) (by decide) ?_; clear hM; intro w b96 hM)))))))))))))))))))) | refine rl_assign (v := (Value.slice _ _ _ : Value)) rfl rfl ?_))
              refine rl_appendM 6 (news := [.int .i64 (outv l (kept l all) p)]) (B := b96) (off := 0) hM sl29 rfl (by decide) rfl (hM.row (i := 0) rfl) rfl rfl rfl (fun _ => rfl) rfl (by simp [Value.oneCell']) (by unfold maxLen; omega) (by omega) ?_
              clear hM
              intro w a2 c2 _ _ hM
              replace hM : Mem w0 w (hp 67 31 h hv 40 l hcs0 (hp 67 31 g gv 40 (collect l all).1 gcs [.own (.slice a' (i + 1) c') 3 1 (i + 1) ((placesN rs l.length i).map (Value.int .i64) ++ [.int .i64 p]), .own (.slice a2 (i + 1) c2) 3 1 (i + 1) (((placesN rs l.length i).map (outv l (kept l all))).map (Value.int .i64) ++ [.int .i64 (outv l (kept l all) p)])])) V4 := hM.dropn 1
              rw [show (placesN rs l.length i).map (Value.int .i64) ++ [Value.int .i64 p] = (placesN rs l.length (i + 1)).map (Value.int .i64) by rw [hps]; simp,
                show ((placesN rs l.length i).map (outv l (kept l all))).map (Value.int .i64) ++ [Value.int .i64 (outv l (kept l all) p)] = ((placesN rs l.length (i + 1)).map (outv l (kept l all))).map (Value.int .i64) by rw [hps]; simp] at hM
              (repeat (first | refine sq_normal ?_ | refine rl_nil ?_ | refine inBlock_normal ?_ | (refine region_ (id := 20) ?_; (try (refine rl_move (v := (Value.int _ _ : Value)) rfl rfl ?_; (try ((refine rl_add rfl rfl rfl ?_ ?_ ?_; omega; omega); (try (refine rl_assign (v := (Value.int _ _ : Value)) rfl rfl ?_))))))) | refine rl_assign (v := (Value.slice _ _ _ : Value)) rfl rfl ?_))
              exact kq_normal (hL0 (6 - (i + 1)) _ _ (by omega) (by (repeat (first | with_reducible exact Agree.ov | with_reducible exact Agree.refl _ _ | refine Agree.upd rfl ?_ | refine Agree.ovs rfl ?_))) ⟨i + 1, rfl, by omega, by omega, rfl, hM⟩)
            · obtain rfl : i = 6 := by omega
              (repeat (first | refine seq_ ?_ | refine sq_normal ?_ | refine sq_exit ?_ | refine rl_nil ?_ | refine cond_f rfl ?_ | refine exit_ ?_ | refine inBlock_exit ?_ | refine kq_exit ?_ | (refine region_ (id := 19) ?_; (try (refine rl_move (v := (Value.int _ _ : Value)) rfl rfl ?_; (try (refine rl_move (v := (Value.slice _ _ _ : Value)) rfl rfl ?_; (try (refine rl_len sl29 rfl rfl ?_; (try ((first | (refine rl_lss_t rfl rfl rfl ?_ ?_; omega) | (refine rl_lss_f rfl rfl rfl ?_ ?_; omega)); (try (refine rl_move (v := (Value.bool _ : Value)) rfl rfl ?_; (try ((first | refine rl_off rfl ?_ | refine rl_move (v := (Value.int _ _ : Value)) rfl rfl ?_); (try ((first | refine rl_off rfl ?_ | (refine rl_lss_t rfl rfl rfl ?_ ?_; omega) | (refine rl_lss_f rfl rfl rfl ?_ ?_; omega)); (try (refine rl_pick (v := (Value.bool _ : Value)) rfl rfl rfl ?_)))))))))))))))))))
              exact kq_normal ⟨by (repeat (first | with_reducible exact Agree.ov | with_reducible exact Agree.refl _ _ | refine Agree.upd rfl ?_ | refine Agree.ovs rfl ?_)), by rw [show min rs.length 6 = 6 by omega]; exact hM⟩
          · obtain rfl : i = rs.length := by omega
            (repeat (first | refine seq_ ?_ | refine sq_normal ?_ | refine sq_exit ?_ | refine rl_nil ?_ | refine cond_f rfl ?_ | refine exit_ ?_ | refine inBlock_exit ?_ | refine kq_exit ?_ | (refine region_ (id := 19) ?_; (try (refine rl_move (v := (Value.int _ _ : Value)) rfl rfl ?_; (try (refine rl_move (v := (Value.slice _ _ _ : Value)) rfl rfl ?_; (try (refine rl_len sl29 rfl rfl ?_; (try ((first | (refine rl_lss_t rfl rfl rfl ?_ ?_; omega) | (refine rl_lss_f rfl rfl rfl ?_ ?_; omega)); (try (refine rl_move (v := (Value.bool _ : Value)) rfl rfl ?_; (try ((first | refine rl_off rfl ?_ | refine rl_move (v := (Value.int _ _ : Value)) rfl rfl ?_); (try ((first | refine rl_off rfl ?_ | (refine rl_lss_t rfl rfl rfl ?_ ?_; omega) | (refine rl_lss_f rfl rfl rfl ?_ ?_; omega)); (try (refine rl_pick (v := (Value.bool _ : Value)) rfl rfl rfl ?_)))))))))))))))))))
            exact kq_normal ⟨by (repeat (first | with_reducible exact Agree.ov | with_reducible exact Agree.refl _ _ | refine Agree.upd rfl ?_ | refine Agree.ovs rfl ?_)), by rw [show min rs.length 6 = rs.length by omega]; exact hM⟩
        clear hM
        rintro τ pv mv w hM
        obtain ⟨n6, hn6⟩ : ∃ n6, n6 = min rs.length 6 := ⟨_, rfl⟩
        rw [← hn6] at hM
        obtain ⟨pa, pc, rfl, _, _⟩ := hM.ownShape (i := 4) rfl
        obtain ⟨ma, mc, rfl, _, _⟩ := hM.ownShape (i := 5) rfl
        obtain ⟨ps, hps⟩ : ∃ ps, ps = placesN rs l.length n6 := ⟨_, rfl⟩
        have hpl : ps.length = n6 := by rw [hps]; exact placesN_len (by omega)
        have hpr : ∀ p ∈ ps, 0 ≤ p ∧ p < l.length := by rw [hps]; exact placesN_rng (by omega)
        rw [← hps] at hM
        clear hps
        have hml : (ps.map (outv l (kept l all))).length = n6 := by rw [List.length_map, hpl]
        have hkk := kept_kp hO all
        have hkl := hkk.len
        have hagain : collect (collect l all).1 (ps.map (outv l (kept l all))) = collect l ps :=
          collect_again hO (fun p hp hb => kept_root hO (by have := hpr p hp; exact List.mem_of_getElem? (hget p this.1 this.2)) hb)
        obtain ⟨V5, hV5, hM5, pa', pc', pb, er, e5, e6, e7, e8⟩ := Mem.freezeOwn (hM.front 4 rfl)
        cases er
        have hpi : IsInts V5 (.slice pa n6 pc) ps := isInts_of hpl.symm (by rw [hpl]; exact e5) e6 (by rw [hpl]; exact e7) e8 (fun x hx => by have := hpr x hx; unfold I64; omega)
        clear hM e7 e8
        obtain ⟨V6, hV6, hM6, ma', mc', mb, er, e9, e10, e11, e12⟩ := Mem.freezeOwn (hM5.front 4 rfl)
        cases er
        have hmi : IsInts V6 (.slice ma n6 mc) (ps.map (outv l (kept l all))) := isInts_of hml.symm (by rw [hml]; exact e9) e10 (by rw [hml]; exact e11) e12 (fun x hx => by obtain ⟨y, _, rfl⟩ := List.mem_map.1 hx; exact outv_I64 (by omega))
        clear hM5 e11 e12
        replace hM6 : Mem w0 w (hp 67 31 h hv 40 l hcs0 (hp 67 31 g gv 40 (collect l all).1 gcs [])) V6 := hM6
        replace hcs := (hcs.le hV5).le hV6
        replace hgs := (hgs.le hV5).le hV6
        replace hpi := hpi.le hV6
        (repeat (first | refine seq_ ?_ | (refine region_ (id := 24) ?_; (try (refine rl_move (v := (Value.pointer _ : Value)) rfl rfl ?_; (try (refine rl_move (v := (Value.slice _ _ _ : Value)) rfl rfl ?_)))))))
        refine rl_callf fn15 (collect_ok w0 w _ V6 h 40 l _ ps ⟨_, _, hM6, hcs⟩ hO hpi (by omega) (by omega)) rfl rfl ?_
        clear hM6 hcs hpi
        rintro av w ⟨V7, hV7, ⟨hv, hcs0, hM, hcs⟩, hav⟩
        obtain ⟨ava, avc, _, _, rfl, _⟩ := id hav.open
        replace hgs := hgs.le hV7
        obtain ⟨gv, gcs, hv, hcs0, hM, hgs, hcs⟩ := H2.swap ⟨hv, hcs0, gv, gcs, hM, hcs, hgs⟩
        (repeat (first | refine seq_ ?_ | refine sq_normal ?_ | refine rl_nil ?_ | (refine region_ (id := 25) ?_; (try (refine rl_move (v := (Value.pointer _ : Value)) rfl rfl ?_; (try (refine rl_move (v := (Value.slice _ _ _ : Value)) rfl rfl ?_))))) | refine rl_assign (v := (Value.slice _ _ _ : Value)) rfl rfl ?_))
        refine rl_callf fn15 (collect_ok w0 w _ V7 g 40 (collect l all).1 _ _ ⟨_, _, hM, hgs⟩ (col_ok hO all) (hmi.le hV7) (by rw [hml]; omega) (by rw [col_len]; omega)) rfl rfl ?_
        clear hM hgs hmi
        rintro bv w ⟨V8, hV8, ⟨gv, gcs, hM, hgs⟩, hbv⟩
        rw [hagain] at hM hgs hbv
        obtain ⟨bva, bvc, _, _, rfl, _⟩ := id hbv.open
        replace hcs := hcs.le hV8
        obtain ⟨hv, hcs0, gv, gcs, hM, hcs, hgs⟩ := H2.swap ⟨gv, gcs, hv, hcs0, hM, hgs, hcs⟩
        (repeat (first | refine seq_ ?_ | refine sq_normal ?_ | refine rl_nil ?_ | (refine region_ (id := 26) ?_; (try (refine rl_move (v := (Value.slice _ _ _ : Value)) rfl rfl ?_; (try (refine rl_move (v := (Value.slice _ _ _ : Value)) rfl rfl ?_))))) | refine rl_assign (v := (Value.slice _ _ _ : Value)) rfl rfl ?_))
        refine rl_callf fn23 (sameInts_ok w0 w _ V8 _ _ _ _ hM (hav.le hV8) hbv) rfl rfl ?_
        clear hM
        rintro _ w ⟨rfl, hM⟩
        rw [decide_eq_true rfl]
        have hO3 := col_ok hO ps
        have hl3 := col_len l ps
        have hl4 := (kept_kp hO ps).len
        obtain ⟨l3, hl3d⟩ : ∃ l3, l3 = (collect l ps).1 := ⟨_, rfl⟩
        rw [← hl3d] at hM hcs hgs hO3 hl3
        (repeat (first | refine rl_move (v := (Value.bool _ : Value)) rfl rfl ?_ | refine rl_not rfl rfl ?_ | refine rl_move (v := (Value.pointer _ : Value)) rfl rfl ?_))
        refine rl_callf fn14 (len_ok w0 w _ V8 h 40 l3 ⟨_, _, hM, hcs⟩) rfl rfl ?_
        rintro _ w ⟨rfl, rfl⟩
        obtain ⟨gv, gcs, hv, hcs0, hM, hgs, hcs⟩ := H2.swap ⟨hv, hcs0, gv, gcs, hM, hcs, hgs⟩
        (repeat (first | refine rl_move (v := (Value.pointer _ : Value)) rfl rfl ?_))
        refine rl_callf fn14 (len_ok w0 w _ V8 g 40 l3 ⟨_, _, hM, hgs⟩) rfl rfl ?_
        rintro _ w ⟨rfl, rfl⟩
        (repeat (first | refine seq_ ?_ | refine sq_normal ?_ | refine rl_nil ?_ | refine cond_f rfl ?_ | refine skip_ ?_ | refine block_ ?_ | (refine region_ (id := 28) ?_; (try (refine rl_assign (v := (Value.int _ _ : Value)) rfl rfl ?_))) | refine rl_pick (v := (Value.bool _ : Value)) rfl rfl rfl ?_ | (first | (refine rl_neq_t rfl rfl rfl ?_ ?_; omega) | (refine rl_neq_f rfl rfl rfl ?_ ?_; omega))))
        have hH2 := H2.swap ⟨gv, gcs, hv, hcs0, hM, hgs, hcs⟩
        clear hM hgs hcs hav hbv
        refine loop1 [(4, 5), (19, 24), (115, 139)] 19 (fun m vi wr => ∃ (i : Nat) (V9 : Vw), vi = .int .i64 i ∧ i ≤ l3.length ∧ m = l3.length - i ∧ H2 w0 wr V9 h 40 l3 g 40 l3 []) _
          ⟨0, V8, rfl, Nat.zero_le _, rfl, hH2⟩ ?_
        clear hH2
        rintro m τ3 vi w ⟨i, V9, rfl, hi, rfl, hv, hcs0, gv, gcs, hM, hcs, hgs⟩ K0 hL0
        (repeat (first | refine seq_ ?_ | (refine region_ (id := 29) ?_; (try (refine rl_move (v := (Value.int _ _ : Value)) rfl rfl ?_; (try (refine rl_move (v := (Value.pointer _ : Value)) rfl rfl ?_)))))))
        refine rl_callf fn14 (len_ok w0 w _ V9 h 40 l3 ⟨_, _, hM, hcs⟩) rfl rfl ?_
        rintro _ w ⟨rfl, rfl⟩
        by_cases hlt : i < l3.length
        · obtain ⟨g1, g2⟩ := getN_in hlt
          obtain ⟨nd, hnd⟩ : ∃ nd, nd = l3[i] := ⟨_, rfl⟩
          rw [← hnd] at g1
          (repeat (first | refine seq_ ?_ | refine sq_normal ?_ | refine rl_nil ?_ | refine cond_t rfl ?_ | refine skip_ ?_ | refine block_ ?_ | (refine region_ (id := 31) ?_; (try (refine rl_move (v := (Value.pointer _ : Value)) rfl rfl ?_; (try (refine rl_move (v := (Value.int _ _ : Value)) rfl rfl ?_))))) | (first | (refine rl_lss_t rfl rfl rfl ?_ ?_; omega) | (refine rl_lss_f rfl rfl rfl ?_ ?_; omega))))
          refine rl_callf fn16 (get_ok w0 w _ V9 h 40 i l3 ⟨_, _, hM, hcs⟩ hO3.short) rfl rfl ?_
          clear hM hcs
          rintro _ w ⟨V10, kv, hV10, ⟨hv, hcs0, hM, hcs⟩, rfl, hkv⟩
          rw [g1] at hkv ⊢
          rw [g2]
          obtain ⟨ka, kc, _, _, rfl, _⟩ := id hkv.open
          replace hgs := hgs.le hV10
          unfold ndCells
          (repeat (first | refine seq_ ?_ | refine sq_normal ?_ | refine rl_nil ?_ | (refine region_ (id := 32) ?_; (try (refine rl_move (v := (Value.pointer _ : Value)) rfl rfl ?_; (try (refine rl_move (v := (Value.int _ _ : Value)) rfl rfl ?_))))) | refine rl_assign (v := (Value.bool _ : Value)) rfl rfl ?_ | refine rl_move (v := (Value.tuple _ : Value)) rfl rfl ?_ | refine rl_extract rfl rfl rfl ?_ | (refine rl_allocAM (d := 20) hM ag31 rfl ?_; clear hM; intro w b20 hM) | (first | (refine rl_storeWM 0 hM ag31 rfl rfl rfl rfl rfl rfl rfl ?_; clear hM; intro w hM) | (refine rl_storeWM 1 hM ag31 rfl rfl rfl rfl rfl rfl rfl ?_; clear hM; intro w hM) | (refine rl_storeWM 2 hM ag31 rfl rfl rfl rfl rfl rfl rfl ?_; clear hM; intro w hM) | (refine rl_storeWM 3 hM ag31 rfl rfl rfl rfl rfl rfl rfl ?_; clear hM; intro w hM) | (refine rl_storeWM 4 hM ag31 rfl rfl rfl rfl rfl rfl rfl ?_; clear hM; intro w hM) | (refine rl_storeWM 5 hM ag31 rfl rfl rfl rfl rfl rfl rfl ?_; clear hM; intro w hM) | (refine rl_storeWM 6 hM ag31 rfl rfl rfl rfl rfl rfl rfl ?_; clear hM; intro w hM) | (refine rl_storeWM 7 hM ag31 rfl rfl rfl rfl rfl rfl rfl ?_; clear hM; intro w hM) | (refine rl_storeWM 8 hM ag31 rfl rfl rfl rfl rfl rfl rfl ?_; clear hM; intro w hM))))
          replace hM : Mem w0 w (hp 67 31 g gv 40 l3 gcs (hp 67 31 h hv 40 l3 hcs0 [.blk b20 [.int .i64 nd.form, .int .i64 nd.n, St nd.name, .slice ka nd.kids.length kc] 31])) V10 :=
            ((((hM.front 2 rfl).front 2 rfl).front 4 rfl).front 4 rfl)
          refine rl_callf fn16 (get_ok w0 w _ V10 g 40 i l3 ⟨_, _, hM, hgs⟩ hO3.short) rfl rfl ?_
          clear hM hgs
          rintro _ w ⟨V11, kv2, hV11, ⟨gv, gcs, hM, hgs⟩, rfl, hkv2⟩
          rw [g1] at hkv2 ⊢
          rw [g2]
          obtain ⟨ka2, kc2, _, _, rfl, _⟩ := id hkv2.open
          replace hcs := hcs.le hV11
          replace hkv := hkv.le hV11
          unfold ndCells
          (repeat (first | refine seq_ ?_ | refine sq_normal ?_ | refine rl_nil ?_ | refine rl_assign (v := (Value.bool _ : Value)) rfl rfl ?_ | refine rl_move (v := (Value.tuple _ : Value)) rfl rfl ?_ | refine rl_extract rfl rfl rfl ?_ | (first | (refine rl_storeWM 0 hM ag31 rfl rfl rfl rfl rfl rfl rfl ?_; clear hM; intro w hM) | (refine rl_storeWM 1 hM ag31 rfl rfl rfl rfl rfl rfl rfl ?_; clear hM; intro w hM) | (refine rl_storeWM 2 hM ag31 rfl rfl rfl rfl rfl rfl rfl ?_; clear hM; intro w hM) | (refine rl_storeWM 3 hM ag31 rfl rfl rfl rfl rfl rfl rfl ?_; clear hM; intro w hM) | (refine rl_storeWM 4 hM ag31 rfl rfl rfl rfl rfl rfl rfl ?_; clear hM; intro w hM) | (refine rl_storeWM 5 hM ag31 rfl rfl rfl rfl rfl rfl rfl ?_; clear hM; intro w hM) | (refine rl_storeWM 6 hM ag31 rfl rfl rfl rfl rfl rfl rfl ?_; clear hM; intro w hM) | (refine rl_storeWM 7 hM ag31 rfl rfl rfl rfl rfl rfl rfl ?_; clear hM; intro w hM) | (refine rl_storeWM 8 hM ag31 rfl rfl rfl rfl rfl rfl rfl ?_; clear hM; intro w hM)) | (refine rl_allocAM (d := 22) hM ag31 rfl ?_; clear hM; intro w b22 hM)))
          replace hM : Mem w0 w (hp 67 31 h hv 40 l3 hcs0 (hp 67 31 g gv 40 l3 gcs [.blk b22 [.int .i64 nd.form, .int .i64 nd.n, St nd.name, .slice ka2 nd.kids.length kc2] 31, .blk b20 [.int .i64 nd.form, .int .i64 nd.n, St nd.name, .slice ka nd.kids.length kc] 31])) V11 :=
            ((((hM.front 2 rfl).front 2 rfl).front 4 rfl).front 4 rfl)
          refine drawnM_ 5 [(0, false), (2, false), (1, true), (3, true), (4, true)] (fun w => Mem w0 w [.blk b22 [.int .i64 nd.form, .int .i64 nd.n, St nd.name, .slice ka2 nd.kids.length kc2] 31, .blk b20 [.int .i64 nd.form, .int .i64 nd.n, St nd.name, .slice ka nd.kids.length kc] 31] V11) hM mo (by kernel_rfl) (fun _ h => h.dropn 4) ?_
          clear hM
          intro w hM
          (try ((first | refine rx_loadAV rfl (fun _ h => h) ag31 rfl rfl (by assumption) (by rfl) ?_ | refine rx_loadAM (vs := [_, _, _, _]) 0 rfl (fun _ h => h) ag31 rfl rfl rfl rfl rfl ?_ | refine rx_loadAM (vs := [_, _, _, _]) 1 rfl (fun _ h => h) ag31 rfl rfl rfl rfl rfl ?_ | refine rx_loadAM (vs := [_, _, _, _]) 2 rfl (fun _ h => h) ag31 rfl rfl rfl rfl rfl ?_ | refine rx_loadAM (vs := [_, _, _, _]) 3 rfl (fun _ h => h) ag31 rfl rfl rfl rfl rfl ?_ | refine rx_loadAM (vs := [_, _, _, _]) 4 rfl (fun _ h => h) ag31 rfl rfl rfl rfl rfl ?_ | refine rx_loadAM (vs := [_, _, _, _]) 5 rfl (fun _ h => h) ag31 rfl rfl rfl rfl rfl ?_ | refine rx_loadAM (vs := [_, _, _, _]) 6 rfl (fun _ h => h) ag31 rfl rfl rfl rfl rfl ?_ | refine rx_loadAM (vs := [_, _, _, _]) 7 rfl (fun _ h => h) ag31 rfl rfl rfl rfl rfl ?_ | refine rx_loadAM (vs := [_, _, _, _]) 8 rfl (fun _ h => h) ag31 rfl rfl rfl rfl rfl ?_ | refine rx_loadAO (vs := [_, _, _, _]) 0 rfl (fun _ h => h) ag31 rfl rfl rfl (by assumption) rfl ?_ | refine rx_loadAO (vs := [_, _, _, _]) 1 rfl (fun _ h => h) ag31 rfl rfl rfl (by assumption) rfl ?_ | refine rx_loadAO (vs := [_, _, _, _]) 2 rfl (fun _ h => h) ag31 rfl rfl rfl (by assumption) rfl ?_ | refine rx_loadAO (vs := [_, _, _, _]) 3 rfl (fun _ h => h) ag31 rfl rfl rfl (by assumption) rfl ?_ | refine rx_loadAO (vs := [_, _, _, _]) 4 rfl (fun _ h => h) ag31 rfl rfl rfl (by assumption) rfl ?_ | refine rx_loadAO (vs := [_, _, _, _]) 5 rfl (fun _ h => h) ag31 rfl rfl rfl (by assumption) rfl ?_ | refine rx_loadAO (vs := [_, _, _, _]) 6 rfl (fun _ h => h) ag31 rfl rfl rfl (by assumption) rfl ?_ | refine rx_loadAO (vs := [_, _, _, _]) 7 rfl (fun _ h => h) ag31 rfl rfl rfl (by assumption) rfl ?_ | refine rx_loadAO (vs := [_, _, _, _]) 8 rfl (fun _ h => h) ag31 rfl rfl rfl (by assumption) rfl ?_); (try ((first | refine rx_loadAV rfl (fun _ h => h) ag31 rfl rfl (by assumption) (by rfl) ?_ | refine rx_loadAM (vs := [_, _, _, _]) 0 rfl (fun _ h => h) ag31 rfl rfl rfl rfl rfl ?_ | refine rx_loadAM (vs := [_, _, _, _]) 1 rfl (fun _ h => h) ag31 rfl rfl rfl rfl rfl ?_ | refine rx_loadAM (vs := [_, _, _, _]) 2 rfl (fun _ h => h) ag31 rfl rfl rfl rfl rfl ?_ | refine rx_loadAM (vs := [_, _, _, _]) 3 rfl (fun _ h => h) ag31 rfl rfl rfl rfl rfl ?_ | refine rx_loadAM (vs := [_, _, _, _]) 4 rfl (fun _ h => h) ag31 rfl rfl rfl rfl rfl ?_ | refine rx_loadAM (vs := [_, _, _, _]) 5 rfl (fun _ h => h) ag31 rfl rfl rfl rfl rfl ?_ | refine rx_loadAM (vs := [_, _, _, _]) 6 rfl (fun _ h => h) ag31 rfl rfl rfl rfl rfl ?_ | refine rx_loadAM (vs := [_, _, _, _]) 7 rfl (fun _ h => h) ag31 rfl rfl rfl rfl rfl ?_ | refine rx_loadAM (vs := [_, _, _, _]) 8 rfl (fun _ h => h) ag31 rfl rfl rfl rfl rfl ?_ | refine rx_loadAO (vs := [_, _, _, _]) 0 rfl (fun _ h => h) ag31 rfl rfl rfl (by assumption) rfl ?_ | refine rx_loadAO (vs := [_, _, _, _]) 1 rfl (fun _ h => h) ag31 rfl rfl rfl (by assumption) rfl ?_ | refine rx_loadAO (vs := [_, _, _, _]) 2 rfl (fun _ h => h) ag31 rfl rfl rfl (by assumption) rfl ?_ | refine rx_loadAO (vs := [_, _, _, _]) 3 rfl (fun _ h => h) ag31 rfl rfl rfl (by assumption) rfl ?_ | refine rx_loadAO (vs := [_, _, _, _]) 4 rfl (fun _ h => h) ag31 rfl rfl rfl (by assumption) rfl ?_ | refine rx_loadAO (vs := [_, _, _, _]) 5 rfl (fun _ h => h) ag31 rfl rfl rfl (by assumption) rfl ?_ | refine rx_loadAO (vs := [_, _, _, _]) 6 rfl (fun _ h => h) ag31 rfl rfl rfl (by assumption) rfl ?_ | refine rx_loadAO (vs := [_, _, _, _]) 7 rfl (fun _ h => h) ag31 rfl rfl rfl (by assumption) rfl ?_ | refine rx_loadAO (vs := [_, _, _, _]) 8 rfl (fun _ h => h) ag31 rfl rfl rfl (by assumption) rfl ?_)))))
          refine rx_eff rfl (fun Kx hKx => ?_)
          refine rl_callf fn20 (plain_ok w0 w _ V11 nd _ hM hkv) rfl rfl ?_
          clear hM
          rintro _ w ⟨rfl, hM⟩
          refine rl_nil (kq_normal (hKx _ _ (hM.dropn 4) ?_))
          refine rx_eff rfl (fun Kx hKx => ?_)
          refine rl_callf fn20 (plain_ok w0 w _ V11 nd _ hM hkv2) rfl rfl ?_
          clear hM
          rintro _ w ⟨rfl, hM⟩
          refine rl_nil (kq_normal (hKx _ _ (hM.dropn 4) ?_))
          refine rx_eff rfl (fun Kx hKx => ?_)
          refine rl_callf fn31 (one_ok w0 w _ V11 (plainN nd) (plainN nd) _ _ hM hkv hkv2) rfl rfl ?_
          clear hM
          rintro _ w ⟨rfl, hM⟩
          rw [oneB_self]
          refine rl_nil (kq_normal (hKx _ _ (hM.dropn 4) ?_))
          refine rx_nil rfl ?_
          (repeat (first | refine sq_normal ?_ | refine rl_nil ?_ | refine cond_f rfl ?_ | refine skip_ ?_ | refine inBlock_normal ?_ | refine np_normal ?_ | (refine region_ (id := 30) ?_; (try (refine rl_move (v := (Value.int _ _ : Value)) rfl rfl ?_; (try ((refine rl_add rfl rfl rfl ?_ ?_ ?_; omega; omega); (try (refine rl_assign (v := (Value.int _ _ : Value)) rfl rfl ?_))))))) | refine rl_not rfl rfl ?_))
          exact kq_normal (hL0 (l3.length - (i + 1)) _ _ (by omega) (by (repeat (first | with_reducible exact Agree.ov | with_reducible exact Agree.refl _ _ | refine Agree.upd rfl ?_ | refine Agree.ovs rfl ?_))) ⟨i + 1, V11, rfl, by omega, rfl, ⟨hv, hcs0, gv, gcs, (hM.erase 4).erase 4, hcs, hgs⟩⟩)
        · (repeat (first | refine seq_ ?_ | refine sq_normal ?_ | refine sq_exit ?_ | refine rl_nil ?_ | refine cond_f rfl ?_ | refine exit_ ?_ | refine inBlock_exit ?_ | refine kq_exit ?_ | (refine region_ (id := 35) ?_) | (first | (refine rl_lss_t rfl rfl rfl ?_ ?_; omega) | (refine rl_lss_f rfl rfl rfl ?_ ?_; omega))))
          refine rl_callf fn17 (lives_ok w0 w [] V9 (hM.dropn 4)) rfl rfl ?_
          rintro _ w ⟨V10, hV10, rfl, hM⟩
          (repeat (first | refine sq_normal ?_ | refine rl_nil ?_ | refine ret_ ?_ | refine rl_assign (v := (Value.bool _ : Value)) rfl rfl ?_))
          exact bp_ret1 (v := Value.bool _) rfl rfl ⟨rfl, hM.below⟩
  rw [hw0] at key
  exact key
end Go.Proofs.Ytoekjhalcjhegaa.Hep
