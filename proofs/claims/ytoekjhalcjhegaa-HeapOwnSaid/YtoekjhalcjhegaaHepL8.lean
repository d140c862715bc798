/- The walk of fuguelaw27.HeapOwn. -/
import Derived.Test.YtoekjhalcjhegaaMrgC
import Derived.Test.YtoekjhalcjhegaaHepP1
import Derived.Test.YtoekjhalcjhegaaMrgD
set_option linter.unusedVariables false
set_option linter.unusedSimpArgs false
namespace Go.Proofs.Ytoekjhalcjhegaa.Hep
open Go Go.Eng Go.RowKit Go.Hp
attribute [local irreducible] RL RX KQ SQ Exit.inBlock Exit.then BP NP CallsOk IsSl IsRows IsInts IsBools Own Blk Code.wp Calls wpList
def placesM (rs : List Int) (i : Nat) : List Int := (rs.take i).map fun r => around r 3
theorem placesM_succ {rs : List Int} {i : Nat} {r : Int} (h : rs[i]? = some r) : placesM rs (i + 1) = placesM rs i ++ [around r 3] := by
  unfold placesM
  rw [List.take_add_one, h]; simp
theorem placesM_len {rs : List Int} {i : Nat} (h : i ≤ rs.length) : (placesM rs i).length = i := by
  unfold placesM; simp; omega
theorem placesM_rng {rs : List Int} {i : Nat} : ∀ p ∈ placesM rs i, 0 ≤ p ∧ p < 3 := by
  intro p hp
  obtain ⟨r, _, rfl⟩ := List.mem_map.1 hp
  exact around_lt r 3 (by decide)
set_option maxRecDepth 4000 in
set_option maxHeartbeats 4000000 in
theorem law8 (rv : Value) (rs : List Int) (n0 : Int) (w : World) (hr : IsInts w.cell? rv rs) (h0 : I64 n0) : CallsOk Try.prog 8 #[rv, .int .i64 n0] w fun r w' => r = .bool true ∧ Below w.heap.size w w' := by
  have hM := Mem.init w
  obtain ⟨w0, hw0⟩ : ∃ w0, w0 = w := ⟨_, rfl⟩
  obtain ⟨V, hVd⟩ : ∃ V, V = w.cell? := ⟨_, rfl⟩
  rw [← hVd] at hM hr
  replace hM : Mem w0 w [] V := by rw [hw0]; exact hM
  have key : CallsOk Try.prog 8 #[rv, .int .i64 n0] w fun r w' => r = .bool true ∧ Below w0.heap.size w0 w' := by
    clear hVd hw0
    obtain ⟨ra, rc, rb, roff, hrr, hrc, hrcm, hra, hrel⟩ := id hr.open
    refine enter_ (N := 170) Try.func8 rfl rfl rfl ?_
    subst hrr
    (repeat (first | refine seq_ ?_ | refine sq_normal ?_ | refine rl_nil ?_ | (refine region_ (id := 0) ?_; (try (refine rl_assign (v := (Value.bool _ : Value)) rfl rfl ?_))) | (refine region_ (id := 1) ?_)))
    refine rl_callf fn12 (new_ok w0 w [] V 9 hM) rfl rfl ?_
    clear hM
    rintro _ w (⟨h1, _⟩ | ⟨_, h, rfl, hH⟩)
    · exact absurd h1 (by decide)
    (repeat (first | refine seq_ ?_ | refine sq_normal ?_ | refine rl_nil ?_ | refine cond_f rfl ?_ | refine skip_ ?_ | refine block_ ?_ | (refine region_ (id := 2) ?_; (try (refine rl_move (v := (Value.int _ _ : Value)) rfl rfl ?_; (try ((first | (refine rl_neq_t rfl rfl rfl ?_ ?_; omega) | (refine rl_neq_f rfl rfl rfl ?_ ?_; omega)); (try (refine rl_move (v := (Value.bool _ : Value)) rfl rfl ?_; (try ((first | refine rl_off rfl ?_ | refine rl_move (v := (Value.pointer _ : Value)) rfl rfl ?_); (try ((first | refine rl_off rfl ?_ | refine rl_peqnil up23 rfl rfl rfl ?_); (try (refine rl_pick (v := (Value.bool _ : Value)) rfl rfl rfl ?_))))))))))))) | (refine region_ (id := 4) ?_; (try (refine rl_assign (v := (Value.int _ _ : Value)) rfl rfl ?_))) | refine rl_move (v := (Value.tuple _ : Value)) rfl rfl ?_ | refine rl_extract rfl rfl rfl ?_ | refine rl_assign (v := (Value.pointer _ : Value)) rfl rfl ?_ | refine rl_assign (v := (Value.int _ _ : Value)) rfl rfl ?_))
    refine loop1 [(7, 8), (34, 42)] 7 (fun m vi wr => ∃ (i : Nat) (V1 : Vw), vi = .int .i64 i ∧ i ≤ 3 ∧ m = 3 - i ∧ VLe V V1 ∧ HP 67 31 w0 wr V1 h 9 (intsN i) []) _
      ⟨0, V, rfl, Nat.zero_le _, rfl, VLe.refl _, hH⟩ ?_
    clear hH
    rintro m τ vi w ⟨i, V1, rfl, hi, rfl, hV1, hH⟩ K0 hL0
    by_cases hlt : i < 3
    · (repeat (first | refine seq_ ?_ | refine sq_normal ?_ | refine rl_nil ?_ | refine cond_t rfl ?_ | refine skip_ ?_ | refine block_ ?_ | (refine region_ (id := 5) ?_; (try (refine rl_move (v := (Value.int _ _ : Value)) rfl rfl ?_; (try ((first | (refine rl_lss_t rfl rfl rfl ?_ ?_; omega) | (refine rl_lss_f rfl rfl rfl ?_ ?_; omega))))))) | (refine region_ (id := 7) ?_; (try (refine rl_move (v := (Value.pointer _ : Value)) rfl rfl ?_; (try (refine rl_move (v := (Value.int _ _ : Value)) rfl rfl ?_; (try (refine rl_build [_, _, (St []), (Value.slice none 0 0)] ag31 pl31 rfl rfl rfl ?_)))))))))
      refine rl_callf fn13 (alloc_ok w0 w [] V1 h 9 (intsN i) ⟨1, i, [], []⟩ (.slice none 0 0) hH (ints_nil V1) (by rw [intsN_len]; omega) (by omega)) rfl rfl ?_
      clear hH
      rintro _ w ⟨V2, hV2, hH, rfl⟩
      rw [show (alloc 9 (intsN i) ⟨1, i, [], []⟩).1 = intsN (i + 1) by
        unfold alloc; rw [if_neg (by rw [show right (intsN i).length ⟨1, i, [], []⟩ = true from rfl]; decide), if_neg (by rw [intsN_len]; omega)]
        exact (intsN_succ i).symm] at hH
      (repeat (first | refine sq_normal ?_ | refine rl_nil ?_ | refine inBlock_normal ?_ | (refine region_ (id := 6) ?_; (try (refine rl_move (v := (Value.int _ _ : Value)) rfl rfl ?_; (try ((refine rl_add rfl rfl rfl ?_ ?_ ?_; omega; omega); (try (refine rl_assign (v := (Value.int _ _ : Value)) rfl rfl ?_)))))))))
      exact kq_normal (hL0 (3 - (i + 1)) _ _ (by omega) (by (repeat (first | with_reducible exact Agree.ov | with_reducible exact Agree.refl _ _ | refine Agree.upd rfl ?_ | refine Agree.ovs rfl ?_))) ⟨i + 1, V2, rfl, by omega, rfl, hV1.trans hV2, hH⟩)
    · obtain rfl : i = 3 := by omega
      clear hL0
      obtain ⟨hv, cs, hM, hcs⟩ := hH
      obtain ⟨l, hld⟩ : ∃ l, l = intsN 3 := ⟨_, rfl⟩
      have hll : l.length = 3 := by rw [hld, intsN_len]
      have hO : Ok l := by rw [hld]; exact intsN_ok 3
      rw [← hld] at hM hcs
      (repeat (first | refine seq_ ?_ | refine sq_normal ?_ | refine sq_exit ?_ | refine rl_nil ?_ | refine cond_f rfl ?_ | refine exit_ ?_ | refine inBlock_exit ?_ | refine kq_exit ?_ | (refine region_ (id := 5) ?_; (try (refine rl_move (v := (Value.int _ _ : Value)) rfl rfl ?_; (try ((first | (refine rl_lss_t rfl rfl rfl ?_ ?_; omega) | (refine rl_lss_f rfl rfl rfl ?_ ?_; omega))))))) | (refine region_ (id := 8) ?_)))
      refine rl_makeRM hM sl29 rfl rfl rfl rfl (by decide) (by decide) (by decide) ?_
      clear hM
      intro w ab hM
      replace hM : Mem w0 w (hp 67 31 h hv 9 l cs [.own (.slice (some ⟨ab, 0, none⟩) 0 20) 3 1 0 []]) V1 := (hM.front 2 rfl).front 2 rfl
      (repeat (first | refine seq_ ?_ | refine sq_normal ?_ | refine rl_nil ?_ | refine block_ ?_ | (refine region_ (id := 9) ?_; (try (refine rl_assign (v := (Value.int _ _ : Value)) rfl rfl ?_))) | refine rl_assign (v := (Value.slice _ _ _ : Value)) rfl rfl ?_))
      refine cut_blk1 [(8, 10), (43, 61)] 8 (fun pv wr => Mem w0 wr (hp 67 31 h hv 9 l cs [.own pv 3 1 (min rs.length 8) ((placesM rs (min rs.length 8)).map (Value.int .i64))]) V1) ?_ ?_
      · refine loop2 [(8, 10), (43, 61)] 8 9 (fun m pv vi wr => ∃ (i : Nat), vi = .int .i64 i ∧ i ≤ rs.length ∧ i ≤ 8 ∧ m = 8 - i ∧ Mem w0 wr (hp 67 31 h hv 9 l cs [.own pv 3 1 i ((placesM rs i).map (Value.int .i64))]) V1) _
          ⟨0, rfl, Nat.zero_le _, Nat.zero_le _, rfl, hM⟩ ?_
        clear hM
        rintro m τ pv vi w ⟨i, rfl, hi, hi8, rfl, hM⟩ K0 hL0
        obtain ⟨pa, pc, rfl, _, _⟩ := hM.ownShape (i := 2) rfl
        by_cases hlt1 : i < rs.length
        · by_cases hlt2 : i < 8
          · obtain ⟨r, hri⟩ : ∃ r, rs[i]? = some r := ⟨_, List.getElem?_eq_getElem hlt1⟩
            have hra' := hra (by omega)
            subst hra'
            have hv0 : V1 ⟨rb, roff + (i : Int).toNat, none⟩ = some (.int .i64 r) := hV1 _ _ (hrel i r hri)
            have hr64 := hr.rng r (List.mem_of_getElem? hri)
            have hps := placesM_succ hri
            (repeat (first | refine seq_ ?_ | refine sq_normal ?_ | refine rl_nil ?_ | refine cond_t rfl ?_ | refine skip_ ?_ | refine block_ ?_ | (refine region_ (id := 10) ?_; (try (refine rl_move (v := (Value.int _ _ : Value)) rfl rfl ?_; (try (refine rl_move (v := (Value.slice _ _ _ : Value)) rfl rfl ?_; (try (refine rl_len sl29 rfl rfl ?_; (try ((first | (refine rl_lss_t rfl rfl rfl ?_ ?_; omega) | (refine rl_lss_f rfl rfl rfl ?_ ?_; omega)); (try (refine rl_move (v := (Value.bool _ : Value)) rfl rfl ?_; (try ((first | refine rl_off rfl ?_ | refine rl_move (v := (Value.int _ _ : Value)) rfl rfl ?_); (try ((first | refine rl_off rfl ?_ | (refine rl_lss_t rfl rfl rfl ?_ ?_; omega) | (refine rl_lss_f rfl rfl rfl ?_ ?_; omega)); (try (refine rl_pick (v := (Value.bool _ : Value)) rfl rfl rfl ?_))))))))))))))))) | (refine region_ (id := 12) ?_; (try (refine rl_move (v := (Value.slice _ _ _ : Value)) rfl rfl ?_; (try (refine rl_move (v := (Value.slice _ _ _ : Value)) rfl rfl ?_; (try (refine rl_move (v := (Value.int _ _ : Value)) rfl rfl ?_; (try ((first | (refine rl_idx1 sl29 rfl rfl rfl rfl ?_ ?_ ?_; omega; omega) | (apply rl_idx1 sl29 rfl rfl rfl; assumption; omega; omega)); (try ((first | refine rl_loadV hM vt3 rfl rfl (by first | assumption | exact VRow.get (by assumption) rfl | exact VRow.get0 (by assumption) rfl) ?_ | refine rl_loadM 0 hM vt3 rfl rfl rfl (by first | rfl | assumption) ?_ | refine rl_loadM 1 hM vt3 rfl rfl rfl (by first | rfl | assumption) ?_ | refine rl_loadM 2 hM vt3 rfl rfl rfl (by first | rfl | assumption) ?_ | refine rl_loadM 3 hM vt3 rfl rfl rfl (by first | rfl | assumption) ?_ | refine rl_loadM 4 hM vt3 rfl rfl rfl (by first | rfl | assumption) ?_ | refine rl_loadM 5 hM vt3 rfl rfl rfl (by first | rfl | assumption) ?_ | refine rl_loadM 6 hM vt3 rfl rfl rfl (by first | rfl | assumption) ?_ | refine rl_loadM 7 hM vt3 rfl rfl rfl (by first | rfl | assumption) ?_ | refine rl_loadM 8 hM vt3 rfl rfl rfl (by first | rfl | assumption) ?_ | refine rl_loadO 0 hM vt3 rfl rfl rfl (by first | assumption | exact ORow.get (by assumption) rfl | exact ORow.get0 (by assumption) rfl) ?_ | refine rl_loadO 1 hM vt3 rfl rfl rfl (by first | assumption | exact ORow.get (by assumption) rfl | exact ORow.get0 (by assumption) rfl) ?_ | refine rl_loadO 2 hM vt3 rfl rfl rfl (by first | assumption | exact ORow.get (by assumption) rfl | exact ORow.get0 (by assumption) rfl) ?_ | refine rl_loadO 3 hM vt3 rfl rfl rfl (by first | assumption | exact ORow.get (by assumption) rfl | exact ORow.get0 (by assumption) rfl) ?_ | refine rl_loadO 4 hM vt3 rfl rfl rfl (by first | assumption | exact ORow.get (by assumption) rfl | exact ORow.get0 (by assumption) rfl) ?_ | refine rl_loadO 5 hM vt3 rfl rfl rfl (by first | assumption | exact ORow.get (by assumption) rfl | exact ORow.get0 (by assumption) rfl) ?_ | refine rl_loadO 6 hM vt3 rfl rfl rfl (by first | assumption | exact ORow.get (by assumption) rfl | exact ORow.get0 (by assumption) rfl) ?_ | refine rl_loadO 7 hM vt3 rfl rfl rfl (by first | assumption | exact ORow.get (by assumption) rfl | exact ORow.get0 (by assumption) rfl) ?_ | refine rl_loadO 8 hM vt3 rfl rfl rfl (by first | assumption | exact ORow.get (by assumption) rfl | exact ORow.get0 (by assumption) rfl) ?_))))))))))))))
            refine rl_callf fn11 (around_ok r 3 w hr64.1 hr64.2 (by decide) (by decide)) rfl rfl ?_
            rintro _ w ⟨rfl, rfl⟩
            (repeat (first | (refine rl_bsliceM (d := 59) [_] hM sl29 rfl rfl rfl rfl rfl (by decide) (by decide) ?_; clear hM; intro w b59 hM)))
            refine rl_appendM 3 (news := [.int .i64 (around r 3)]) (B := b59) (off := 0) hM sl29 rfl (by decide) rfl (hM.row (i := 0) rfl) rfl rfl rfl (fun _ => rfl) rfl (by simp [Value.oneCell']) (by unfold maxLen; omega) (by omega) ?_
            clear hM
            intro w a' c' _ _ hM
            replace hM : Mem w0 w (hp 67 31 h hv 9 l cs [.own (.slice a' (i + 1) c') 3 1 (i + 1) ((placesM rs i).map (Value.int .i64) ++ [.int .i64 (around r 3)])]) V1 := hM.dropn 1
            rw [show (placesM rs i).map (Value.int .i64) ++ [Value.int .i64 (around r 3)] = (placesM rs (i + 1)).map (Value.int .i64) by rw [hps]; simp] at hM
            (repeat (first | refine sq_normal ?_ | refine rl_nil ?_ | refine inBlock_normal ?_ | (refine region_ (id := 11) ?_; (try (refine rl_move (v := (Value.int _ _ : Value)) rfl rfl ?_; (try ((refine rl_add rfl rfl rfl ?_ ?_ ?_; omega; omega); (try (refine rl_assign (v := (Value.int _ _ : Value)) rfl rfl ?_))))))) | refine rl_assign (v := (Value.slice _ _ _ : Value)) rfl rfl ?_))
            exact kq_normal (hL0 (8 - (i + 1)) _ _ (by omega) (by (repeat (first | with_reducible exact Agree.ov | with_reducible exact Agree.refl _ _ | refine Agree.upd rfl ?_ | refine Agree.ovs rfl ?_))) ⟨i + 1, rfl, by omega, by omega, rfl, hM⟩)
          · obtain rfl : i = 8 := by omega
            (repeat (first | refine seq_ ?_ | refine sq_normal ?_ | refine sq_exit ?_ | refine rl_nil ?_ | refine cond_f rfl ?_ | refine exit_ ?_ | refine inBlock_exit ?_ | refine kq_exit ?_ | (refine region_ (id := 10) ?_; (try (refine rl_move (v := (Value.int _ _ : Value)) rfl rfl ?_; (try (refine rl_move (v := (Value.slice _ _ _ : Value)) rfl rfl ?_; (try (refine rl_len sl29 rfl rfl ?_; (try ((first | (refine rl_lss_t rfl rfl rfl ?_ ?_; omega) | (refine rl_lss_f rfl rfl rfl ?_ ?_; omega)); (try (refine rl_move (v := (Value.bool _ : Value)) rfl rfl ?_; (try ((first | refine rl_off rfl ?_ | refine rl_move (v := (Value.int _ _ : Value)) rfl rfl ?_); (try ((first | refine rl_off rfl ?_ | (refine rl_lss_t rfl rfl rfl ?_ ?_; omega) | (refine rl_lss_f rfl rfl rfl ?_ ?_; omega)); (try (refine rl_pick (v := (Value.bool _ : Value)) rfl rfl rfl ?_)))))))))))))))))))
            exact kq_normal ⟨by (repeat (first | with_reducible exact Agree.ov | with_reducible exact Agree.refl _ _ | refine Agree.upd rfl ?_ | refine Agree.ovs rfl ?_)), by rw [show min rs.length 8 = 8 by omega]; exact hM⟩
        · obtain rfl : i = rs.length := by omega
          (repeat (first | refine seq_ ?_ | refine sq_normal ?_ | refine sq_exit ?_ | refine rl_nil ?_ | refine cond_f rfl ?_ | refine exit_ ?_ | refine inBlock_exit ?_ | refine kq_exit ?_ | (refine region_ (id := 10) ?_; (try (refine rl_move (v := (Value.int _ _ : Value)) rfl rfl ?_; (try (refine rl_move (v := (Value.slice _ _ _ : Value)) rfl rfl ?_; (try (refine rl_len sl29 rfl rfl ?_; (try ((first | (refine rl_lss_t rfl rfl rfl ?_ ?_; omega) | (refine rl_lss_f rfl rfl rfl ?_ ?_; omega)); (try (refine rl_move (v := (Value.bool _ : Value)) rfl rfl ?_; (try ((first | refine rl_off rfl ?_ | refine rl_move (v := (Value.int _ _ : Value)) rfl rfl ?_); (try ((first | refine rl_off rfl ?_ | (refine rl_lss_t rfl rfl rfl ?_ ?_; omega) | (refine rl_lss_f rfl rfl rfl ?_ ?_; omega)); (try (refine rl_pick (v := (Value.bool _ : Value)) rfl rfl rfl ?_)))))))))))))))))))
          exact kq_normal ⟨by (repeat (first | with_reducible exact Agree.ov | with_reducible exact Agree.refl _ _ | refine Agree.upd rfl ?_ | refine Agree.ovs rfl ?_)), by rw [show min rs.length 8 = rs.length by omega]; exact hM⟩
      clear hM
      rintro τ2 pv w hM
      obtain ⟨ps, hps⟩ : ∃ ps, ps = placesM rs (min rs.length 8) := ⟨_, rfl⟩
      have hpl : ps.length = min rs.length 8 := by rw [hps]; exact placesM_len (by omega)
      have hpr : ∀ p ∈ ps, 0 ≤ p ∧ p < 3 := by rw [hps]; exact placesM_rng
      rw [← hps, ← hpl] at hM
      have hp8 : ps.length ≤ 8 := by omega
      have hp64 : ∀ p ∈ ps, I64 p := fun p hp => by have := hpr p hp; unfold I64; omega
      clear hps hpl
      obtain ⟨pa, pc, rfl, _, _⟩ := hM.ownShape (i := 2) rfl
      (repeat (first | refine seq_ ?_ | (refine region_ (id := 13) ?_; (try ((refine rl_bslice0M (d := 61) hM sl29 rfl ?_; clear hM; intro w b61 hM); (try (refine rl_move (v := (Value.slice _ _ _ : Value)) rfl rfl ?_)))))))
      -- the wanted kids
      obtain ⟨pa2, pc2, pb, poff, hpv, _, _, hp3, hp4⟩ := (hM.ownInts (i := 3) rfl hp64).open
      obtain ⟨rfl, _, _⟩ := Value.slice.inj hpv
      refine rl_appendM 0 (news := ps.map (Value.int .i64)) (B := pb) (off := poff) (hM.asOwn (n := 0) (sz := 1) 0 rfl rfl (by decide)) sl29 rfl (by decide) rfl ?_ rfl rfl rfl hp3 ?_ ?_ ?_ ?_ ?_
      · intro j u hu
        rw [List.getElem?_map, Option.map_eq_some_iff] at hu
        obtain ⟨x, hx, rfl⟩ := hu
        exact hp4 _ _ hx
      · simp
      · intro u hu
        obtain ⟨x, _, rfl⟩ := List.mem_map.1 hu
        rfl
      · unfold maxLen; omega
      · omega
      clear hM hp4
      intro w wa wc hwc hwm hM
      rw [Nat.zero_add ps.length] at hM hwc ⊢
      rw [List.nil_append] at hM
      obtain ⟨V2, hV2, hM2, wa', wc', wb, er, e5, e6, e7, e8⟩ := Mem.freezeOwn hM
      cases er
      have hwant : IsInts V2 (.slice wa ps.length wc) ps := isInts_of rfl e5 e6 e7 e8 hp64
      clear hM e7 e8
      replace hcs := hcs.le hV2
      have hM : Mem w0 w (hp 67 31 h hv 9 l cs [.own (.slice pa ps.length pc) 3 1 ps.length (ps.map (Value.int .i64))]) V2 := hM2
      clear hM2
      have har := around_lt n0 9 (by decide)
      obtain ⟨nn, hnn⟩ : ∃ nn, nn = around n0 9 := ⟨_, rfl⟩
      rw [← hnn] at har
      have hright : ∀ (m : Nat) (k : Int) (nm : List UInt8), 3 ≤ m → 0 ≤ k → right m ⟨4, k, nm, ps⟩ = true := by
        intro m k nm hm hk
        unfold right shapeOk kidsIn
        have h1 : ps.length ≤ 40 := by omega
        simp [hk, h1]
        exact fun x hx => inB_iff.2 ⟨(hpr x hx).1, by have := (hpr x hx).2; omega⟩
      (repeat (first | refine seq_ ?_ | refine sq_normal ?_ | refine rl_nil ?_ | (refine region_ (id := 14) ?_; (try (refine rl_move (v := (Value.pointer _ : Value)) rfl rfl ?_; (try (refine rl_move (v := (Value.int _ _ : Value)) rfl rfl ?_))))) | refine rl_assign (v := (Value.slice _ _ _ : Value)) rfl rfl ?_))
      refine rl_callf fn11 (around_ok n0 9 w h0.1 h0.2 (by decide) (by decide)) rfl rfl ?_
      rintro _ w ⟨rfl, rfl⟩
      rw [← hnn]
      (repeat (first | refine rl_move (v := (Value.slice _ _ _ : Value)) rfl rfl ?_ | refine rl_build [_, _, _, _] ag31 pl31 rfl rfl rfl ?_))
      refine rl_callf fn13 (allocR_ok w0 w _ V2 h 9 l ⟨4, nn, [67], ps⟩ (.slice pa ps.length pc) ⟨_, _, hM, hcs⟩ (fun v cs l => Rd.own (i := 2) rfl hp64) hp64 (by omega) (by decide)) rfl rfl ?_
      clear hM hcs
      rintro _ w ⟨V3, hV3, ⟨hv, cs, hM, hcs⟩, rfl⟩
      have hal : (alloc 9 l ⟨4, nn, [67], ps⟩).1 = l ++ [⟨4, nn, [67], ps⟩] ∧ (alloc 9 l ⟨4, nn, [67], ps⟩).2.1 = 3 ∧ (alloc 9 l ⟨4, nn, [67], ps⟩).2.2 = 0 := by
        unfold alloc
        rw [if_neg (by rw [hright l.length nn [67] (by omega) har.1]; decide), if_neg (by omega)]
        exact ⟨rfl, by show (l.length : Int) = 3; omega, rfl⟩
      rw [hal.1] at hM hcs
      rw [hal.2.1, hal.2.2]
      obtain ⟨l4, hl4⟩ : ∃ l4, l4 = l ++ [⟨4, nn, [67], ps⟩] := ⟨_, rfl⟩
      have hO4 : Ok l4 := by rw [hl4]; exact hO.snoc (hright l.length nn [67] (by omega) har.1)
      have hll4 : l4.length = 4 := by rw [hl4]; simp [hll]
      have hg3 : l4[(3 : Int).toNat]? = some ⟨4, nn, [67], ps⟩ := by
        rw [hl4, List.getElem?_append_right (by rw [hll]; decide), hll]; rfl
      rw [← hl4] at hM hcs
      replace hwant := hwant.le hV3
      have hpl0 : (ps.map (Value.int .i64)).length = ps.length := by simp
      (repeat (first | refine seq_ ?_ | refine sq_normal ?_ | refine rl_nil ?_ | refine block_ ?_ | (refine region_ (id := 15) ?_; (try (refine rl_assign (v := (Value.int _ _ : Value)) rfl rfl ?_))) | refine rl_move (v := (Value.tuple _ : Value)) rfl rfl ?_ | refine rl_extract rfl rfl rfl ?_ | refine rl_assign (v := (Value.int _ _ : Value)) rfl rfl ?_))
      refine cut_blk [(13, 14), (73, 82)] (fun wr => ∃ us : List Value, Mem w0 wr (hp 67 31 h hv 9 l4 cs [.own (.slice pa ps.length pc) 3 1 ps.length us]) V3) ?_ ?_
      · refine loop1 [(13, 14), (73, 82)] 13 (fun m vi wr => ∃ (i : Nat) (us : List Value), vi = .int .i64 i ∧ i ≤ ps.length ∧ m = ps.length - i ∧ us.length = ps.length ∧ Mem w0 wr (hp 67 31 h hv 9 l4 cs [.own (.slice pa ps.length pc) 3 1 ps.length us]) V3) _
          ⟨0, _, rfl, Nat.zero_le _, rfl, hpl0, hM⟩ ?_
        clear hM
        rintro m τ vi w ⟨i, us, rfl, hi, rfl, hus, hM⟩ K0 hL0
        by_cases hlt : i < ps.length
        · have hpa' := hp3 (by omega)
          obtain ⟨pb3, _, hpb3, _, _⟩ := hM.ownA (i := 2) rfl (by omega)
          obtain ⟨rfl, _⟩ : pa = some ⟨pb3, 0, none⟩ ∧ _ := by simpa using hpb3
          (repeat (first | refine seq_ ?_ | refine sq_normal ?_ | refine rl_nil ?_ | refine cond_t rfl ?_ | refine skip_ ?_ | refine block_ ?_ | (refine region_ (id := 16) ?_; (try (refine rl_move (v := (Value.int _ _ : Value)) rfl rfl ?_; (try (refine rl_move (v := (Value.slice _ _ _ : Value)) rfl rfl ?_; (try (refine rl_len sl29 rfl rfl ?_; (try ((first | (refine rl_lss_t rfl rfl rfl ?_ ?_; omega) | (refine rl_lss_f rfl rfl rfl ?_ ?_; omega))))))))))) | (refine region_ (id := 18) ?_; (try (refine rl_move (v := (Value.slice _ _ _ : Value)) rfl rfl ?_; (try (refine rl_move (v := (Value.int _ _ : Value)) rfl rfl ?_; (try ((first | (refine rl_idx1 sl29 rfl rfl rfl rfl ?_ ?_ ?_; omega; omega) | (apply rl_idx1 sl29 rfl rfl rfl; assumption; omega; omega)); (try ((first | (refine rl_storeM 0 hM vt3 rfl rfl rfl rfl rfl (by first | (simp; done) | (simp; omega) | omega) ?_; clear hM; intro w hM) | (refine rl_storeM 1 hM vt3 rfl rfl rfl rfl rfl (by first | (simp; done) | (simp; omega) | omega) ?_; clear hM; intro w hM) | (refine rl_storeM 2 hM vt3 rfl rfl rfl rfl rfl (by first | (simp; done) | (simp; omega) | omega) ?_; clear hM; intro w hM) | (refine rl_storeM 3 hM vt3 rfl rfl rfl rfl rfl (by first | (simp; done) | (simp; omega) | omega) ?_; clear hM; intro w hM) | (refine rl_storeM 4 hM vt3 rfl rfl rfl rfl rfl (by first | (simp; done) | (simp; omega) | omega) ?_; clear hM; intro w hM) | (refine rl_storeM 5 hM vt3 rfl rfl rfl rfl rfl (by first | (simp; done) | (simp; omega) | omega) ?_; clear hM; intro w hM) | (refine rl_storeM 6 hM vt3 rfl rfl rfl rfl rfl (by first | (simp; done) | (simp; omega) | omega) ?_; clear hM; intro w hM) | (refine rl_storeM 7 hM vt3 rfl rfl rfl rfl rfl (by first | (simp; done) | (simp; omega) | omega) ?_; clear hM; intro w hM) | (refine rl_storeM 8 hM vt3 rfl rfl rfl rfl rfl (by first | (simp; done) | (simp; omega) | omega) ?_; clear hM; intro w hM)))))))))))))
          refine rl_storeO (i := 2) hM vt3 rfl rfl rfl rfl rfl (by omega) ?_
          clear hM
          intro w hM
          (repeat (first | refine sq_normal ?_ | refine rl_nil ?_ | refine inBlock_normal ?_ | (refine region_ (id := 17) ?_; (try (refine rl_move (v := (Value.int _ _ : Value)) rfl rfl ?_; (try ((refine rl_add rfl rfl rfl ?_ ?_ ?_; omega; omega); (try (refine rl_assign (v := (Value.int _ _ : Value)) rfl rfl ?_)))))))))
          exact kq_normal (hL0 (ps.length - (i + 1)) _ _ (by omega) (by (repeat (first | with_reducible exact Agree.ov | with_reducible exact Agree.refl _ _ | refine Agree.upd rfl ?_ | refine Agree.ovs rfl ?_))) ⟨i + 1, _, rfl, by omega, rfl, by rw [List.length_set]; exact hus, hM⟩)
        · (repeat (first | refine seq_ ?_ | refine sq_normal ?_ | refine sq_exit ?_ | refine rl_nil ?_ | refine cond_f rfl ?_ | refine exit_ ?_ | refine inBlock_exit ?_ | refine kq_exit ?_ | (refine region_ (id := 16) ?_; (try (refine rl_move (v := (Value.int _ _ : Value)) rfl rfl ?_; (try (refine rl_move (v := (Value.slice _ _ _ : Value)) rfl rfl ?_; (try (refine rl_len sl29 rfl rfl ?_; (try ((first | (refine rl_lss_t rfl rfl rfl ?_ ?_; omega) | (refine rl_lss_f rfl rfl rfl ?_ ?_; omega)))))))))))))
          exact kq_normal ⟨by (repeat (first | with_reducible exact Agree.ov | with_reducible exact Agree.refl _ _ | refine Agree.upd rfl ?_ | refine Agree.ovs rfl ?_)), us, hM⟩
      clear hM
      rintro τ3 w ⟨us, hM⟩
      (repeat (first | refine seq_ ?_ | (refine region_ (id := 19) ?_; (try (refine rl_move (v := (Value.pointer _ : Value)) rfl rfl ?_; (try (refine rl_move (v := (Value.int _ _ : Value)) rfl rfl ?_)))))))
      refine rl_callf fn16 (getO_ok w0 w _ V3 h 9 3 l4 ⟨4, nn, [67], ps⟩ ⟨_, _, hM, hcs⟩ (by decide) (by omega) hg3 (by show ps.length ≤ 1000; omega)) rfl rfl ?_
      clear hM hcs
      rintro _ w ⟨xv, rfl, hv, cs, hM, hcs⟩
      have hM : Mem w0 w (hp 67 31 h hv 9 l4 cs [.own xv 3 1 ps.length (ps.map (Value.int .i64)), .own (.slice pa ps.length pc) 3 1 ps.length us]) V3 := hM
      obtain ⟨xa, xc, rfl, _, _⟩ := hM.ownShape (i := 2) rfl
      rw [show ndCells ⟨4, nn, [67], ps⟩ (.slice xa ps.length xc) = [.int .i64 4, .int .i64 nn, St [67], .slice xa ps.length xc] from rfl]
      (repeat (first | refine seq_ ?_ | refine sq_normal ?_ | refine rl_nil ?_ | (refine region_ (id := 20) ?_; (try (refine rl_move (v := (Value.int _ _ : Value)) rfl rfl ?_; (try ((first | (refine rl_neq_t rfl rfl rfl ?_ ?_; omega) | (refine rl_neq_f rfl rfl rfl ?_ ?_; omega)); (try (refine rl_move (v := (Value.bool _ : Value)) rfl rfl ?_; (try ((first | refine rl_off rfl ?_ | refine rl_move (v := (Value.int _ _ : Value)) rfl rfl ?_); (try ((first | refine rl_off rfl ?_ | (refine rl_neq_t rfl rfl rfl ?_ ?_; omega) | (refine rl_neq_f rfl rfl rfl ?_ ?_; omega)); (try (refine rl_pick (v := (Value.bool _ : Value)) rfl rfl rfl ?_; (try (refine rl_move (v := (Value.bool _ : Value)) rfl rfl ?_; (try ((first | refine rl_off rfl ?_ | refine rl_move (v := (Value.bool _ : Value)) rfl rfl ?_); (try ((first | refine rl_off rfl ?_ | refine rl_not rfl rfl ?_); (try (refine rl_pick (v := (Value.bool _ : Value)) rfl rfl rfl ?_; (try (refine rl_move (v := (Value.bool _ : Value)) rfl rfl ?_; (try ((first | refine rl_off rfl ?_ | refine rl_fld fd31_3 rfl rfl ?_); (try ((first | refine rl_off rfl ?_ | refine rl_loadV hM vt29 rfl rfl (by first | assumption | exact VRow.get (by assumption) rfl | exact VRow.get0 (by assumption) rfl) ?_ | refine rl_loadM 0 hM vt29 rfl rfl rfl (by first | rfl | assumption) ?_ | refine rl_loadM 1 hM vt29 rfl rfl rfl (by first | rfl | assumption) ?_ | refine rl_loadM 2 hM vt29 rfl rfl rfl (by first | rfl | assumption) ?_ | refine rl_loadM 3 hM vt29 rfl rfl rfl (by first | rfl | assumption) ?_ | refine rl_loadM 4 hM vt29 rfl rfl rfl (by first | rfl | assumption) ?_ | refine rl_loadM 5 hM vt29 rfl rfl rfl (by first | rfl | assumption) ?_ | refine rl_loadM 6 hM vt29 rfl rfl rfl (by first | rfl | assumption) ?_ | refine rl_loadM 7 hM vt29 rfl rfl rfl (by first | rfl | assumption) ?_ | refine rl_loadM 8 hM vt29 rfl rfl rfl (by first | rfl | assumption) ?_ | refine rl_loadO 0 hM vt29 rfl rfl rfl (by first | assumption | exact ORow.get (by assumption) rfl | exact ORow.get0 (by assumption) rfl) ?_ | refine rl_loadO 1 hM vt29 rfl rfl rfl (by first | assumption | exact ORow.get (by assumption) rfl | exact ORow.get0 (by assumption) rfl) ?_ | refine rl_loadO 2 hM vt29 rfl rfl rfl (by first | assumption | exact ORow.get (by assumption) rfl | exact ORow.get0 (by assumption) rfl) ?_ | refine rl_loadO 3 hM vt29 rfl rfl rfl (by first | assumption | exact ORow.get (by assumption) rfl | exact ORow.get0 (by assumption) rfl) ?_ | refine rl_loadO 4 hM vt29 rfl rfl rfl (by first | assumption | exact ORow.get (by assumption) rfl | exact ORow.get0 (by assumption) rfl) ?_ | refine rl_loadO 5 hM vt29 rfl rfl rfl (by first | assumption | exact ORow.get (by assumption) rfl | exact ORow.get0 (by assumption) rfl) ?_ | refine rl_loadO 6 hM vt29 rfl rfl rfl (by first | assumption | exact ORow.get (by assumption) rfl | exact ORow.get0 (by assumption) rfl) ?_ | refine rl_loadO 7 hM vt29 rfl rfl rfl (by first | assumption | exact ORow.get (by assumption) rfl | exact ORow.get0 (by assumption) rfl) ?_ | refine rl_loadO 8 hM vt29 rfl rfl rfl (by first | assumption | exact ORow.get (by assumption) rfl | exact ORow.get0 (by assumption) rfl) ?_); (try ((first | refine rl_off rfl ?_ | refine rl_move (v := (Value.slice _ _ _ : Value)) rfl rfl ?_)))))))))))))))))))))))))))))) | refine rl_assign (v := (Value.bool _ : Value)) rfl rfl ?_ | refine rl_move (v := (Value.tuple _ : Value)) rfl rfl ?_ | refine rl_extract rfl rfl rfl ?_ | (refine rl_allocAM (d := 14) hM ag31 rfl ?_; clear hM; intro w b14 hM) | (first | (refine rl_storeWM 0 hM ag31 rfl rfl rfl rfl rfl rfl rfl ?_; clear hM; intro w hM) | (refine rl_storeWM 1 hM ag31 rfl rfl rfl rfl rfl rfl rfl ?_; clear hM; intro w hM) | (refine rl_storeWM 2 hM ag31 rfl rfl rfl rfl rfl rfl rfl ?_; clear hM; intro w hM) | (refine rl_storeWM 3 hM ag31 rfl rfl rfl rfl rfl rfl rfl ?_; clear hM; intro w hM) | (refine rl_storeWM 4 hM ag31 rfl rfl rfl rfl rfl rfl rfl ?_; clear hM; intro w hM) | (refine rl_storeWM 5 hM ag31 rfl rfl rfl rfl rfl rfl rfl ?_; clear hM; intro w hM) | (refine rl_storeWM 6 hM ag31 rfl rfl rfl rfl rfl rfl rfl ?_; clear hM; intro w hM) | (refine rl_storeWM 7 hM ag31 rfl rfl rfl rfl rfl rfl rfl ?_; clear hM; intro w hM) | (refine rl_storeWM 8 hM ag31 rfl rfl rfl rfl rfl rfl rfl ?_; clear hM; intro w hM))))
      have hsi := sameInts_ok w w [] w.cell? _ _ ps ps (Mem.init w) (hM.ownInts (i := 3) rfl hp64) (hwant.le hM.vle)
      refine rl_callf fn23 hsi rfl rfl ?_
      clear hsi
      rintro _ w2 ⟨rfl, hM0⟩
      replace hM := hM.ext hM0.below
      clear hM0
      rw [decide_eq_true rfl]
      (repeat (first | refine seq_ ?_ | refine sq_normal ?_ | refine rl_nil ?_ | refine cond_f rfl ?_ | refine skip_ ?_ | refine block_ ?_ | (refine region_ (id := 22) ?_; (try (refine rl_assign (v := (Value.int _ _ : Value)) rfl rfl ?_))) | refine rl_pick (v := (Value.bool _ : Value)) rfl rfl rfl ?_ | (first | refine rl_off rfl ?_ | refine rl_not rfl rfl ?_)))
      refine cut_blk [(16, 17), (105, 116)] (fun wr => Mem w0 wr (hp 67 31 h hv 9 l4 cs []) V3) ?_ ?_
      · refine loop1 [(16, 17), (105, 116)] 16 (fun m vi wr => ∃ (i : Nat) (ys : List Value), vi = .int .i64 i ∧ i ≤ ps.length ∧ m = ps.length - i ∧ ys.length = ps.length ∧ Mem w0 wr (.blk b14 [.int .i64 4, .int .i64 nn, St [67], .slice xa ps.length xc] 31 :: hp 67 31 h hv 9 l4 cs [.own (.slice xa ps.length xc) 3 1 ps.length ys, .own (.slice pa ps.length pc) 3 1 ps.length us]) V3) _
          ⟨0, _, rfl, Nat.zero_le _, rfl, hpl0, hM⟩ ?_
        clear hM
        rintro m τ vi w ⟨i, ys, rfl, hi, rfl, hys, hM⟩ K0 hL0
        by_cases hlt : i < ps.length
        · obtain ⟨xb, _, hxb, _, _⟩ := hM.ownA (i := 3) rfl (by omega)
          obtain ⟨rfl, _⟩ : xa = some ⟨xb, 0, none⟩ ∧ _ := by simpa using hxb
          (repeat (first | refine seq_ ?_ | refine sq_normal ?_ | refine rl_nil ?_ | refine cond_t rfl ?_ | refine skip_ ?_ | refine block_ ?_ | (refine region_ (id := 23) ?_; (try (refine rl_move (v := (Value.int _ _ : Value)) rfl rfl ?_; (try (refine rl_fld fd31_3 rfl rfl ?_; (try ((first | refine rl_loadV hM vt29 rfl rfl (by first | assumption | exact VRow.get (by assumption) rfl | exact VRow.get0 (by assumption) rfl) ?_ | refine rl_loadM 0 hM vt29 rfl rfl rfl (by first | rfl | assumption) ?_ | refine rl_loadM 1 hM vt29 rfl rfl rfl (by first | rfl | assumption) ?_ | refine rl_loadM 2 hM vt29 rfl rfl rfl (by first | rfl | assumption) ?_ | refine rl_loadM 3 hM vt29 rfl rfl rfl (by first | rfl | assumption) ?_ | refine rl_loadM 4 hM vt29 rfl rfl rfl (by first | rfl | assumption) ?_ | refine rl_loadM 5 hM vt29 rfl rfl rfl (by first | rfl | assumption) ?_ | refine rl_loadM 6 hM vt29 rfl rfl rfl (by first | rfl | assumption) ?_ | refine rl_loadM 7 hM vt29 rfl rfl rfl (by first | rfl | assumption) ?_ | refine rl_loadM 8 hM vt29 rfl rfl rfl (by first | rfl | assumption) ?_ | refine rl_loadO 0 hM vt29 rfl rfl rfl (by first | assumption | exact ORow.get (by assumption) rfl | exact ORow.get0 (by assumption) rfl) ?_ | refine rl_loadO 1 hM vt29 rfl rfl rfl (by first | assumption | exact ORow.get (by assumption) rfl | exact ORow.get0 (by assumption) rfl) ?_ | refine rl_loadO 2 hM vt29 rfl rfl rfl (by first | assumption | exact ORow.get (by assumption) rfl | exact ORow.get0 (by assumption) rfl) ?_ | refine rl_loadO 3 hM vt29 rfl rfl rfl (by first | assumption | exact ORow.get (by assumption) rfl | exact ORow.get0 (by assumption) rfl) ?_ | refine rl_loadO 4 hM vt29 rfl rfl rfl (by first | assumption | exact ORow.get (by assumption) rfl | exact ORow.get0 (by assumption) rfl) ?_ | refine rl_loadO 5 hM vt29 rfl rfl rfl (by first | assumption | exact ORow.get (by assumption) rfl | exact ORow.get0 (by assumption) rfl) ?_ | refine rl_loadO 6 hM vt29 rfl rfl rfl (by first | assumption | exact ORow.get (by assumption) rfl | exact ORow.get0 (by assumption) rfl) ?_ | refine rl_loadO 7 hM vt29 rfl rfl rfl (by first | assumption | exact ORow.get (by assumption) rfl | exact ORow.get0 (by assumption) rfl) ?_ | refine rl_loadO 8 hM vt29 rfl rfl rfl (by first | assumption | exact ORow.get (by assumption) rfl | exact ORow.get0 (by assumption) rfl) ?_); (try (refine rl_len sl29 rfl rfl ?_; (try ((first | (refine rl_lss_t rfl rfl rfl ?_ ?_; omega) | (refine rl_lss_f rfl rfl rfl ?_ ?_; omega))))))))))))) | (refine region_ (id := 25) ?_; (try (refine rl_fld fd31_3 rfl rfl ?_; (try ((first | refine rl_loadV hM vt29 rfl rfl (by first | assumption | exact VRow.get (by assumption) rfl | exact VRow.get0 (by assumption) rfl) ?_ | refine rl_loadM 0 hM vt29 rfl rfl rfl (by first | rfl | assumption) ?_ | refine rl_loadM 1 hM vt29 rfl rfl rfl (by first | rfl | assumption) ?_ | refine rl_loadM 2 hM vt29 rfl rfl rfl (by first | rfl | assumption) ?_ | refine rl_loadM 3 hM vt29 rfl rfl rfl (by first | rfl | assumption) ?_ | refine rl_loadM 4 hM vt29 rfl rfl rfl (by first | rfl | assumption) ?_ | refine rl_loadM 5 hM vt29 rfl rfl rfl (by first | rfl | assumption) ?_ | refine rl_loadM 6 hM vt29 rfl rfl rfl (by first | rfl | assumption) ?_ | refine rl_loadM 7 hM vt29 rfl rfl rfl (by first | rfl | assumption) ?_ | refine rl_loadM 8 hM vt29 rfl rfl rfl (by first | rfl | assumption) ?_ | refine rl_loadO 0 hM vt29 rfl rfl rfl (by first | assumption | exact ORow.get (by assumption) rfl | exact ORow.get0 (by assumption) rfl) ?_ | refine rl_loadO 1 hM vt29 rfl rfl rfl (by first | assumption | exact ORow.get (by assumption) rfl | exact ORow.get0 (by assumption) rfl) ?_ | refine rl_loadO 2 hM vt29 rfl rfl rfl (by first | assumption | exact ORow.get (by assumption) rfl | exact ORow.get0 (by assumption) rfl) ?_ | refine rl_loadO 3 hM vt29 rfl rfl rfl (by first | assumption | exact ORow.get (by assumption) rfl | exact ORow.get0 (by assumption) rfl) ?_ | refine rl_loadO 4 hM vt29 rfl rfl rfl (by first | assumption | exact ORow.get (by assumption) rfl | exact ORow.get0 (by assumption) rfl) ?_ | refine rl_loadO 5 hM vt29 rfl rfl rfl (by first | assumption | exact ORow.get (by assumption) rfl | exact ORow.get0 (by assumption) rfl) ?_ | refine rl_loadO 6 hM vt29 rfl rfl rfl (by first | assumption | exact ORow.get (by assumption) rfl | exact ORow.get0 (by assumption) rfl) ?_ | refine rl_loadO 7 hM vt29 rfl rfl rfl (by first | assumption | exact ORow.get (by assumption) rfl | exact ORow.get0 (by assumption) rfl) ?_ | refine rl_loadO 8 hM vt29 rfl rfl rfl (by first | assumption | exact ORow.get (by assumption) rfl | exact ORow.get0 (by assumption) rfl) ?_); (try (refine rl_move (v := (Value.int _ _ : Value)) rfl rfl ?_; (try ((first | (refine rl_idx1 sl29 rfl rfl rfl rfl ?_ ?_ ?_; omega; omega) | (apply rl_idx1 sl29 rfl rfl rfl; assumption; omega; omega)); (try ((first | (refine rl_storeM 0 hM vt3 rfl rfl rfl rfl rfl (by first | (simp; done) | (simp; omega) | omega) ?_; clear hM; intro w hM) | (refine rl_storeM 1 hM vt3 rfl rfl rfl rfl rfl (by first | (simp; done) | (simp; omega) | omega) ?_; clear hM; intro w hM) | (refine rl_storeM 2 hM vt3 rfl rfl rfl rfl rfl (by first | (simp; done) | (simp; omega) | omega) ?_; clear hM; intro w hM) | (refine rl_storeM 3 hM vt3 rfl rfl rfl rfl rfl (by first | (simp; done) | (simp; omega) | omega) ?_; clear hM; intro w hM) | (refine rl_storeM 4 hM vt3 rfl rfl rfl rfl rfl (by first | (simp; done) | (simp; omega) | omega) ?_; clear hM; intro w hM) | (refine rl_storeM 5 hM vt3 rfl rfl rfl rfl rfl (by first | (simp; done) | (simp; omega) | omega) ?_; clear hM; intro w hM) | (refine rl_storeM 6 hM vt3 rfl rfl rfl rfl rfl (by first | (simp; done) | (simp; omega) | omega) ?_; clear hM; intro w hM) | (refine rl_storeM 7 hM vt3 rfl rfl rfl rfl rfl (by first | (simp; done) | (simp; omega) | omega) ?_; clear hM; intro w hM) | (refine rl_storeM 8 hM vt3 rfl rfl rfl rfl rfl (by first | (simp; done) | (simp; omega) | omega) ?_; clear hM; intro w hM)))))))))))))))
          refine rl_storeO (i := 3) hM vt3 rfl rfl rfl rfl rfl (by omega) ?_
          clear hM
          intro w hM
          (repeat (first | refine sq_normal ?_ | refine rl_nil ?_ | refine inBlock_normal ?_ | (refine region_ (id := 24) ?_; (try (refine rl_move (v := (Value.int _ _ : Value)) rfl rfl ?_; (try ((refine rl_add rfl rfl rfl ?_ ?_ ?_; omega; omega); (try (refine rl_assign (v := (Value.int _ _ : Value)) rfl rfl ?_)))))))))
          exact kq_normal (hL0 (ps.length - (i + 1)) _ _ (by omega) (by (repeat (first | with_reducible exact Agree.ov | with_reducible exact Agree.refl _ _ | refine Agree.upd rfl ?_ | refine Agree.ovs rfl ?_))) ⟨i + 1, _, rfl, by omega, rfl, by rw [List.length_set]; exact hys, hM⟩)
        · (repeat (first | refine seq_ ?_ | refine sq_normal ?_ | refine sq_exit ?_ | refine rl_nil ?_ | refine cond_f rfl ?_ | refine exit_ ?_ | refine inBlock_exit ?_ | refine kq_exit ?_ | (refine region_ (id := 23) ?_; (try (refine rl_move (v := (Value.int _ _ : Value)) rfl rfl ?_; (try (refine rl_fld fd31_3 rfl rfl ?_; (try ((first | refine rl_loadV hM vt29 rfl rfl (by first | assumption | exact VRow.get (by assumption) rfl | exact VRow.get0 (by assumption) rfl) ?_ | refine rl_loadM 0 hM vt29 rfl rfl rfl (by first | rfl | assumption) ?_ | refine rl_loadM 1 hM vt29 rfl rfl rfl (by first | rfl | assumption) ?_ | refine rl_loadM 2 hM vt29 rfl rfl rfl (by first | rfl | assumption) ?_ | refine rl_loadM 3 hM vt29 rfl rfl rfl (by first | rfl | assumption) ?_ | refine rl_loadM 4 hM vt29 rfl rfl rfl (by first | rfl | assumption) ?_ | refine rl_loadM 5 hM vt29 rfl rfl rfl (by first | rfl | assumption) ?_ | refine rl_loadM 6 hM vt29 rfl rfl rfl (by first | rfl | assumption) ?_ | refine rl_loadM 7 hM vt29 rfl rfl rfl (by first | rfl | assumption) ?_ | refine rl_loadM 8 hM vt29 rfl rfl rfl (by first | rfl | assumption) ?_ | refine rl_loadO 0 hM vt29 rfl rfl rfl (by first | assumption | exact ORow.get (by assumption) rfl | exact ORow.get0 (by assumption) rfl) ?_ | refine rl_loadO 1 hM vt29 rfl rfl rfl (by first | assumption | exact ORow.get (by assumption) rfl | exact ORow.get0 (by assumption) rfl) ?_ | refine rl_loadO 2 hM vt29 rfl rfl rfl (by first | assumption | exact ORow.get (by assumption) rfl | exact ORow.get0 (by assumption) rfl) ?_ | refine rl_loadO 3 hM vt29 rfl rfl rfl (by first | assumption | exact ORow.get (by assumption) rfl | exact ORow.get0 (by assumption) rfl) ?_ | refine rl_loadO 4 hM vt29 rfl rfl rfl (by first | assumption | exact ORow.get (by assumption) rfl | exact ORow.get0 (by assumption) rfl) ?_ | refine rl_loadO 5 hM vt29 rfl rfl rfl (by first | assumption | exact ORow.get (by assumption) rfl | exact ORow.get0 (by assumption) rfl) ?_ | refine rl_loadO 6 hM vt29 rfl rfl rfl (by first | assumption | exact ORow.get (by assumption) rfl | exact ORow.get0 (by assumption) rfl) ?_ | refine rl_loadO 7 hM vt29 rfl rfl rfl (by first | assumption | exact ORow.get (by assumption) rfl | exact ORow.get0 (by assumption) rfl) ?_ | refine rl_loadO 8 hM vt29 rfl rfl rfl (by first | assumption | exact ORow.get (by assumption) rfl | exact ORow.get0 (by assumption) rfl) ?_); (try (refine rl_len sl29 rfl rfl ?_; (try ((first | (refine rl_lss_t rfl rfl rfl ?_ ?_; omega) | (refine rl_lss_f rfl rfl rfl ?_ ?_; omega)))))))))))))))
          exact kq_normal ⟨by (repeat (first | with_reducible exact Agree.ov | with_reducible exact Agree.refl _ _ | refine Agree.upd rfl ?_ | refine Agree.ovs rfl ?_)), (((hM.erase 0).erase 2).erase 2)⟩
      clear hM
      rintro τ4 w hM
      obtain ⟨wpa, wpc, wpb, wpoff, hwv, _, _, hw3, hw4⟩ := id hwant.open
      obtain ⟨rfl, _, _⟩ := Value.slice.inj hwv
      (repeat (first | refine seq_ ?_ | (refine region_ (id := 26) ?_; (try ((refine rl_bslice0M (d := 116) hM sl29 rfl ?_; clear hM; intro w b116 hM); (try (refine rl_move (v := (Value.slice _ _ _ : Value)) rfl rfl ?_)))))))
      refine rl_appendM 0 (news := ps.map (Value.int .i64)) (B := wpb) (off := wpoff) (hM.asOwn (n := 0) (sz := 1) 0 rfl rfl (by decide)) sl29 rfl (by decide) rfl ?_ rfl rfl rfl hw3 ?_ ?_ ?_ ?_ ?_
      · intro j u hu
        rw [List.getElem?_map, Option.map_eq_some_iff] at hu
        obtain ⟨x, hx, rfl⟩ := hu
        exact hM.view (hw4 _ _ hx)
      · simp
      · intro u hu
        obtain ⟨x, _, rfl⟩ := List.mem_map.1 hu
        rfl
      · unfold maxLen; omega
      · omega
      clear hM
      intro w ga gc _ _ hM
      rw [Nat.zero_add ps.length] at hM ⊢
      rw [List.nil_append] at hM
      replace hM : Mem w0 w (hp 67 31 h hv 9 l4 cs [.own (.slice ga ps.length gc) 3 1 ps.length (ps.map (Value.int .i64))]) V3 := (hM.front 2 rfl).front 2 rfl
      (repeat (first | refine seq_ ?_ | refine sq_normal ?_ | refine rl_nil ?_ | (refine region_ (id := 27) ?_; (try (refine rl_move (v := (Value.pointer _ : Value)) rfl rfl ?_; (try (refine rl_move (v := (Value.slice _ _ _ : Value)) rfl rfl ?_; (try (refine rl_build [_, (Value.int .i64 0), _, _] ag31 pl31 rfl rfl rfl ?_))))))) | refine rl_assign (v := (Value.slice _ _ _ : Value)) rfl rfl ?_))
      refine rl_callf fn21 (setR_ok w0 w _ V3 h 9 0 l4 ⟨4, 0, [68], ps⟩ (.slice ga ps.length gc) ⟨_, _, hM, hcs⟩ hO4.ends (fun v cs l => Rd.own (i := 2) rfl hp64) hp64 (show (4 : Int) ≠ 5 by decide)) rfl rfl ?_
      clear hM hcs
      rintro _ w ⟨V4, hV4, ⟨hv, cs, hM, hcs⟩, rfl⟩
      have hst : setN l4 0 ⟨4, 0, [68], ps⟩ = (l4.set 0 ⟨4, 0, [68], ps⟩, 0) := by
        unfold setN
        rw [if_neg (by rw [inB_iff.2 ⟨by decide, by omega⟩, hright l4.length 0 [68] (by omega) (by decide)]; simp), if_neg (fun hl => absurd hl.1 (show ¬ (4 : Int) = 5 by decide))]
        rfl
      have hO5 : Ok (l4.set 0 ⟨4, 0, [68], ps⟩) := by
        have := setN_ok (p := 0) (a := ⟨4, 0, [68], ps⟩) hO4
        rw [hst] at this; exact this
      rw [show (setN l4 0 ⟨4, 0, [68], ps⟩).1 = l4.set 0 ⟨4, 0, [68], ps⟩ by rw [hst]] at hM hcs
      rw [show (setN l4 0 ⟨4, 0, [68], ps⟩).2 = 0 by rw [hst]]
      obtain ⟨l5, hl5⟩ : ∃ l5, l5 = l4.set 0 ⟨4, 0, [68], ps⟩ := ⟨_, rfl⟩
      have hll5 : l5.length = 4 := by rw [hl5]; simp [hll4]
      have hg50 : (getN l5 0).1 = ⟨4, 0, [68], ps⟩ := by
        have h1 := (getN_at (l := l5) (p := 0) (by decide) (by omega)).1
        rw [h1]
        refine nodeAt_eq ?_
        rw [hl5]
        exact List.getElem?_set_self (by omega)
      have hg53 : (getN l5 3).1 = ⟨4, nn, [67], ps⟩ := by
        have h1 := (getN_at (l := l5) (p := 3) (by decide) (by omega)).1
        rw [h1]
        refine nodeAt_eq ?_
        rw [hl5, List.getElem?_set_ne (by decide)]
        exact hg3
      rw [← hl5] at hM hcs hO5
      replace hwant := hwant.le hV4
      (repeat (first | refine seq_ ?_ | refine sq_normal ?_ | refine rl_nil ?_ | refine block_ ?_ | (refine region_ (id := 28) ?_; (try (refine rl_assign (v := (Value.int _ _ : Value)) rfl rfl ?_))) | refine rl_assign (v := (Value.int _ _ : Value)) rfl rfl ?_))
      refine cut_blk [(19, 20), (123, 132)] (fun wr => Mem w0 wr (hp 67 31 h hv 9 l5 cs []) V4) ?_ ?_
      · refine loop1 [(19, 20), (123, 132)] 19 (fun m vi wr => ∃ (i : Nat) (ys : List Value), vi = .int .i64 i ∧ i ≤ ps.length ∧ m = ps.length - i ∧ ys.length = ps.length ∧ Mem w0 wr (hp 67 31 h hv 9 l5 cs [.own (.slice ga ps.length gc) 3 1 ps.length ys]) V4) _
          ⟨0, _, rfl, Nat.zero_le _, rfl, hpl0, hM⟩ ?_
        clear hM
        rintro m τ vi w ⟨i, ys, rfl, hi, rfl, hys, hM⟩ K0 hL0
        by_cases hlt : i < ps.length
        · obtain ⟨xb, _, hxb, _, _⟩ := hM.ownA (i := 2) rfl (by omega)
          obtain ⟨rfl, _⟩ : ga = some ⟨xb, 0, none⟩ ∧ _ := by simpa using hxb
          (repeat (first | refine seq_ ?_ | refine sq_normal ?_ | refine rl_nil ?_ | refine cond_t rfl ?_ | refine skip_ ?_ | refine block_ ?_ | (refine region_ (id := 29) ?_; (try (refine rl_move (v := (Value.int _ _ : Value)) rfl rfl ?_; (try (refine rl_move (v := (Value.slice _ _ _ : Value)) rfl rfl ?_; (try (refine rl_len sl29 rfl rfl ?_; (try ((first | (refine rl_lss_t rfl rfl rfl ?_ ?_; omega) | (refine rl_lss_f rfl rfl rfl ?_ ?_; omega))))))))))) | (refine region_ (id := 31) ?_; (try (refine rl_move (v := (Value.slice _ _ _ : Value)) rfl rfl ?_; (try (refine rl_move (v := (Value.int _ _ : Value)) rfl rfl ?_; (try ((first | (refine rl_idx1 sl29 rfl rfl rfl rfl ?_ ?_ ?_; omega; omega) | (apply rl_idx1 sl29 rfl rfl rfl; assumption; omega; omega)); (try ((first | (refine rl_storeM 0 hM vt3 rfl rfl rfl rfl rfl (by first | (simp; done) | (simp; omega) | omega) ?_; clear hM; intro w hM) | (refine rl_storeM 1 hM vt3 rfl rfl rfl rfl rfl (by first | (simp; done) | (simp; omega) | omega) ?_; clear hM; intro w hM) | (refine rl_storeM 2 hM vt3 rfl rfl rfl rfl rfl (by first | (simp; done) | (simp; omega) | omega) ?_; clear hM; intro w hM) | (refine rl_storeM 3 hM vt3 rfl rfl rfl rfl rfl (by first | (simp; done) | (simp; omega) | omega) ?_; clear hM; intro w hM) | (refine rl_storeM 4 hM vt3 rfl rfl rfl rfl rfl (by first | (simp; done) | (simp; omega) | omega) ?_; clear hM; intro w hM) | (refine rl_storeM 5 hM vt3 rfl rfl rfl rfl rfl (by first | (simp; done) | (simp; omega) | omega) ?_; clear hM; intro w hM) | (refine rl_storeM 6 hM vt3 rfl rfl rfl rfl rfl (by first | (simp; done) | (simp; omega) | omega) ?_; clear hM; intro w hM) | (refine rl_storeM 7 hM vt3 rfl rfl rfl rfl rfl (by first | (simp; done) | (simp; omega) | omega) ?_; clear hM; intro w hM) | (refine rl_storeM 8 hM vt3 rfl rfl rfl rfl rfl (by first | (simp; done) | (simp; omega) | omega) ?_; clear hM; intro w hM)))))))))))))
          refine rl_storeO (i := 2) hM vt3 rfl rfl rfl rfl rfl (by omega) ?_
          clear hM
          intro w hM
          (repeat (first | refine sq_normal ?_ | refine rl_nil ?_ | refine inBlock_normal ?_ | (refine region_ (id := 30) ?_; (try (refine rl_move (v := (Value.int _ _ : Value)) rfl rfl ?_; (try ((refine rl_add rfl rfl rfl ?_ ?_ ?_; omega; omega); (try (refine rl_assign (v := (Value.int _ _ : Value)) rfl rfl ?_)))))))))
          exact kq_normal (hL0 (ps.length - (i + 1)) _ _ (by omega) (by (repeat (first | with_reducible exact Agree.ov | with_reducible exact Agree.refl _ _ | refine Agree.upd rfl ?_ | refine Agree.ovs rfl ?_))) ⟨i + 1, _, rfl, by omega, rfl, by rw [List.length_set]; exact hys, hM⟩)
        · (repeat (first | refine seq_ ?_ | refine sq_normal ?_ | refine sq_exit ?_ | refine rl_nil ?_ | refine cond_f rfl ?_ | refine exit_ ?_ | refine inBlock_exit ?_ | refine kq_exit ?_ | (refine region_ (id := 29) ?_; (try (refine rl_move (v := (Value.int _ _ : Value)) rfl rfl ?_; (try (refine rl_move (v := (Value.slice _ _ _ : Value)) rfl rfl ?_; (try (refine rl_len sl29 rfl rfl ?_; (try ((first | (refine rl_lss_t rfl rfl rfl ?_ ?_; omega) | (refine rl_lss_f rfl rfl rfl ?_ ?_; omega)))))))))))))
          exact kq_normal ⟨by (repeat (first | with_reducible exact Agree.ov | with_reducible exact Agree.refl _ _ | refine Agree.upd rfl ?_ | refine Agree.ovs rfl ?_)), hM.erase 2⟩
      clear hM
      rintro τ5 w hM
      (repeat (first | refine seq_ ?_ | (refine region_ (id := 32) ?_; (try (refine rl_move (v := (Value.pointer _ : Value)) rfl rfl ?_)))))
      refine rl_callf fn16 (get_ok w0 w _ V4 h 9 0 l5 ⟨_, _, hM, hcs⟩ hO5.short) rfl rfl ?_
      clear hM hcs
      rintro _ w ⟨V5, yv, hV5, ⟨hv, cs, hM, hcs⟩, rfl, hyv⟩
      rw [hg50] at hyv ⊢
      obtain ⟨ya, yc, _, _, rfl, _⟩ := id hyv.open
      rw [show ndCells ⟨4, 0, [68], ps⟩ (.slice ya (Nd.mk 4 0 [68] ps).kids.length yc) = [.int .i64 4, .int .i64 0, St [68], .slice ya ps.length yc] from rfl]
      (repeat (first | refine seq_ ?_ | refine sq_normal ?_ | refine rl_nil ?_ | (refine region_ (id := 33) ?_; (try (refine rl_move (v := (Value.pointer _ : Value)) rfl rfl ?_; (try (refine rl_move (v := (Value.int _ _ : Value)) rfl rfl ?_))))) | refine rl_assign (v := (Value.bool _ : Value)) rfl rfl ?_ | refine rl_move (v := (Value.tuple _ : Value)) rfl rfl ?_ | refine rl_extract rfl rfl rfl ?_ | (first | (refine rl_storeWM 0 hM ag31 rfl rfl rfl rfl rfl rfl rfl ?_; clear hM; intro w hM) | (refine rl_storeWM 1 hM ag31 rfl rfl rfl rfl rfl rfl rfl ?_; clear hM; intro w hM) | (refine rl_storeWM 2 hM ag31 rfl rfl rfl rfl rfl rfl rfl ?_; clear hM; intro w hM) | (refine rl_storeWM 3 hM ag31 rfl rfl rfl rfl rfl rfl rfl ?_; clear hM; intro w hM) | (refine rl_storeWM 4 hM ag31 rfl rfl rfl rfl rfl rfl rfl ?_; clear hM; intro w hM) | (refine rl_storeWM 5 hM ag31 rfl rfl rfl rfl rfl rfl rfl ?_; clear hM; intro w hM) | (refine rl_storeWM 6 hM ag31 rfl rfl rfl rfl rfl rfl rfl ?_; clear hM; intro w hM) | (refine rl_storeWM 7 hM ag31 rfl rfl rfl rfl rfl rfl rfl ?_; clear hM; intro w hM) | (refine rl_storeWM 8 hM ag31 rfl rfl rfl rfl rfl rfl rfl ?_; clear hM; intro w hM)) | (refine rl_allocAM (d := 20) hM ag31 rfl ?_; clear hM; intro w b20 hM)))
      replace hM : Mem w0 w (hp 67 31 h hv 9 l5 cs [.blk b20 [.int .i64 4, .int .i64 0, St [68], .slice ya ps.length yc] 31]) V5 := (hM.front 2 rfl).front 2 rfl
      refine rl_callf fn16 (get_ok w0 w _ V5 h 9 3 l5 ⟨_, _, hM, hcs⟩ hO5.short) rfl rfl ?_
      clear hM hcs
      rintro _ w ⟨V6, zv, hV6, ⟨hv, cs, hM, hcs⟩, rfl, hzv⟩
      rw [hg53] at hzv ⊢
      obtain ⟨za, zc, _, _, rfl, _⟩ := id hzv.open
      rw [show ndCells ⟨4, nn, [67], ps⟩ (.slice za (Nd.mk 4 nn [67] ps).kids.length zc) = [.int .i64 4, .int .i64 nn, St [67], .slice za ps.length zc] from rfl]
      replace hwant := (hwant.le hV5).le hV6
      (repeat (first | refine seq_ ?_ | refine sq_normal ?_ | refine rl_nil ?_ | (refine region_ (id := 34) ?_; (try (refine rl_move (v := (Value.int _ _ : Value)) rfl rfl ?_; (try ((first | (refine rl_eql_t rfl rfl rfl ?_ ?_; omega) | (refine rl_eql_f rfl rfl rfl ?_ ?_; omega)); (try (refine rl_move (v := (Value.bool _ : Value)) rfl rfl ?_; (try ((first | refine rl_off rfl ?_ | refine rl_fld fd31_3 rfl rfl ?_); (try ((first | refine rl_off rfl ?_ | refine rl_loadV hM vt29 rfl rfl (by first | assumption | exact VRow.get (by assumption) rfl | exact VRow.get0 (by assumption) rfl) ?_ | refine rl_loadM 0 hM vt29 rfl rfl rfl (by first | rfl | assumption) ?_ | refine rl_loadM 1 hM vt29 rfl rfl rfl (by first | rfl | assumption) ?_ | refine rl_loadM 2 hM vt29 rfl rfl rfl (by first | rfl | assumption) ?_ | refine rl_loadM 3 hM vt29 rfl rfl rfl (by first | rfl | assumption) ?_ | refine rl_loadM 4 hM vt29 rfl rfl rfl (by first | rfl | assumption) ?_ | refine rl_loadM 5 hM vt29 rfl rfl rfl (by first | rfl | assumption) ?_ | refine rl_loadM 6 hM vt29 rfl rfl rfl (by first | rfl | assumption) ?_ | refine rl_loadM 7 hM vt29 rfl rfl rfl (by first | rfl | assumption) ?_ | refine rl_loadM 8 hM vt29 rfl rfl rfl (by first | rfl | assumption) ?_ | refine rl_loadO 0 hM vt29 rfl rfl rfl (by first | assumption | exact ORow.get (by assumption) rfl | exact ORow.get0 (by assumption) rfl) ?_ | refine rl_loadO 1 hM vt29 rfl rfl rfl (by first | assumption | exact ORow.get (by assumption) rfl | exact ORow.get0 (by assumption) rfl) ?_ | refine rl_loadO 2 hM vt29 rfl rfl rfl (by first | assumption | exact ORow.get (by assumption) rfl | exact ORow.get0 (by assumption) rfl) ?_ | refine rl_loadO 3 hM vt29 rfl rfl rfl (by first | assumption | exact ORow.get (by assumption) rfl | exact ORow.get0 (by assumption) rfl) ?_ | refine rl_loadO 4 hM vt29 rfl rfl rfl (by first | assumption | exact ORow.get (by assumption) rfl | exact ORow.get0 (by assumption) rfl) ?_ | refine rl_loadO 5 hM vt29 rfl rfl rfl (by first | assumption | exact ORow.get (by assumption) rfl | exact ORow.get0 (by assumption) rfl) ?_ | refine rl_loadO 6 hM vt29 rfl rfl rfl (by first | assumption | exact ORow.get (by assumption) rfl | exact ORow.get0 (by assumption) rfl) ?_ | refine rl_loadO 7 hM vt29 rfl rfl rfl (by first | assumption | exact ORow.get (by assumption) rfl | exact ORow.get0 (by assumption) rfl) ?_ | refine rl_loadO 8 hM vt29 rfl rfl rfl (by first | assumption | exact ORow.get (by assumption) rfl | exact ORow.get0 (by assumption) rfl) ?_); (try ((first | refine rl_off rfl ?_ | refine rl_move (v := (Value.slice _ _ _ : Value)) rfl rfl ?_)))))))))))))) | refine rl_assign (v := (Value.bool _ : Value)) rfl rfl ?_ | refine rl_move (v := (Value.tuple _ : Value)) rfl rfl ?_ | refine rl_extract rfl rfl rfl ?_ | (first | (refine rl_storeWM 0 hM ag31 rfl rfl rfl rfl rfl rfl rfl ?_; clear hM; intro w hM) | (refine rl_storeWM 1 hM ag31 rfl rfl rfl rfl rfl rfl rfl ?_; clear hM; intro w hM) | (refine rl_storeWM 2 hM ag31 rfl rfl rfl rfl rfl rfl rfl ?_; clear hM; intro w hM) | (refine rl_storeWM 3 hM ag31 rfl rfl rfl rfl rfl rfl rfl ?_; clear hM; intro w hM) | (refine rl_storeWM 4 hM ag31 rfl rfl rfl rfl rfl rfl rfl ?_; clear hM; intro w hM) | (refine rl_storeWM 5 hM ag31 rfl rfl rfl rfl rfl rfl rfl ?_; clear hM; intro w hM) | (refine rl_storeWM 6 hM ag31 rfl rfl rfl rfl rfl rfl rfl ?_; clear hM; intro w hM) | (refine rl_storeWM 7 hM ag31 rfl rfl rfl rfl rfl rfl rfl ?_; clear hM; intro w hM) | (refine rl_storeWM 8 hM ag31 rfl rfl rfl rfl rfl rfl rfl ?_; clear hM; intro w hM)) | (refine rl_allocAM (d := 22) hM ag31 rfl ?_; clear hM; intro w b22 hM)))
      refine rl_callf fn23 (sameInts_ok w0 w _ V6 _ _ ps ps hM (hyv.le hV6) hwant) rfl rfl ?_
      clear hM
      rintro _ w ⟨rfl, hM⟩
      rw [decide_eq_true rfl]
      (repeat (first | refine rl_move (v := (Value.bool _ : Value)) rfl rfl ?_ | refine rl_pick (v := (Value.bool _ : Value)) rfl rfl rfl ?_ | refine rl_move (v := (Value.slice _ _ _ : Value)) rfl rfl ?_ | (first | refine rl_off rfl ?_ | refine rl_fld fd31_3 rfl rfl ?_) | (first | refine rl_off rfl ?_ | refine rl_loadV hM vt29 rfl rfl (by first | assumption | exact VRow.get (by assumption) rfl | exact VRow.get0 (by assumption) rfl) ?_ | refine rl_loadM 0 hM vt29 rfl rfl rfl (by first | rfl | assumption) ?_ | refine rl_loadM 1 hM vt29 rfl rfl rfl (by first | rfl | assumption) ?_ | refine rl_loadM 2 hM vt29 rfl rfl rfl (by first | rfl | assumption) ?_ | refine rl_loadM 3 hM vt29 rfl rfl rfl (by first | rfl | assumption) ?_ | refine rl_loadM 4 hM vt29 rfl rfl rfl (by first | rfl | assumption) ?_ | refine rl_loadM 5 hM vt29 rfl rfl rfl (by first | rfl | assumption) ?_ | refine rl_loadM 6 hM vt29 rfl rfl rfl (by first | rfl | assumption) ?_ | refine rl_loadM 7 hM vt29 rfl rfl rfl (by first | rfl | assumption) ?_ | refine rl_loadM 8 hM vt29 rfl rfl rfl (by first | rfl | assumption) ?_ | refine rl_loadO 0 hM vt29 rfl rfl rfl (by first | assumption | exact ORow.get (by assumption) rfl | exact ORow.get0 (by assumption) rfl) ?_ | refine rl_loadO 1 hM vt29 rfl rfl rfl (by first | assumption | exact ORow.get (by assumption) rfl | exact ORow.get0 (by assumption) rfl) ?_ | refine rl_loadO 2 hM vt29 rfl rfl rfl (by first | assumption | exact ORow.get (by assumption) rfl | exact ORow.get0 (by assumption) rfl) ?_ | refine rl_loadO 3 hM vt29 rfl rfl rfl (by first | assumption | exact ORow.get (by assumption) rfl | exact ORow.get0 (by assumption) rfl) ?_ | refine rl_loadO 4 hM vt29 rfl rfl rfl (by first | assumption | exact ORow.get (by assumption) rfl | exact ORow.get0 (by assumption) rfl) ?_ | refine rl_loadO 5 hM vt29 rfl rfl rfl (by first | assumption | exact ORow.get (by assumption) rfl | exact ORow.get0 (by assumption) rfl) ?_ | refine rl_loadO 6 hM vt29 rfl rfl rfl (by first | assumption | exact ORow.get (by assumption) rfl | exact ORow.get0 (by assumption) rfl) ?_ | refine rl_loadO 7 hM vt29 rfl rfl rfl (by first | assumption | exact ORow.get (by assumption) rfl | exact ORow.get0 (by assumption) rfl) ?_ | refine rl_loadO 8 hM vt29 rfl rfl rfl (by first | assumption | exact ORow.get (by assumption) rfl | exact ORow.get0 (by assumption) rfl) ?_)))
      refine rl_callf fn23 (sameInts_ok w0 w _ V6 _ _ ps ps hM hzv hwant) rfl rfl ?_
      clear hM
      rintro _ w ⟨rfl, hM⟩
      rw [decide_eq_true rfl]
      (repeat (first | refine rl_move (v := (Value.bool _ : Value)) rfl rfl ?_ | refine rl_pick (v := (Value.bool _ : Value)) rfl rfl rfl ?_ | (first | refine rl_off rfl ?_ | refine rl_fld fd31_2 rfl rfl ?_) | (first | refine rl_off rfl ?_ | refine rl_loadV hM vt9 rfl rfl (by first | assumption | exact VRow.get (by assumption) rfl | exact VRow.get0 (by assumption) rfl) ?_ | refine rl_loadM 0 hM vt9 rfl rfl rfl (by first | rfl | assumption) ?_ | refine rl_loadM 1 hM vt9 rfl rfl rfl (by first | rfl | assumption) ?_ | refine rl_loadM 2 hM vt9 rfl rfl rfl (by first | rfl | assumption) ?_ | refine rl_loadM 3 hM vt9 rfl rfl rfl (by first | rfl | assumption) ?_ | refine rl_loadM 4 hM vt9 rfl rfl rfl (by first | rfl | assumption) ?_ | refine rl_loadM 5 hM vt9 rfl rfl rfl (by first | rfl | assumption) ?_ | refine rl_loadM 6 hM vt9 rfl rfl rfl (by first | rfl | assumption) ?_ | refine rl_loadM 7 hM vt9 rfl rfl rfl (by first | rfl | assumption) ?_ | refine rl_loadM 8 hM vt9 rfl rfl rfl (by first | rfl | assumption) ?_ | refine rl_loadO 0 hM vt9 rfl rfl rfl (by first | assumption | exact ORow.get (by assumption) rfl | exact ORow.get0 (by assumption) rfl) ?_ | refine rl_loadO 1 hM vt9 rfl rfl rfl (by first | assumption | exact ORow.get (by assumption) rfl | exact ORow.get0 (by assumption) rfl) ?_ | refine rl_loadO 2 hM vt9 rfl rfl rfl (by first | assumption | exact ORow.get (by assumption) rfl | exact ORow.get0 (by assumption) rfl) ?_ | refine rl_loadO 3 hM vt9 rfl rfl rfl (by first | assumption | exact ORow.get (by assumption) rfl | exact ORow.get0 (by assumption) rfl) ?_ | refine rl_loadO 4 hM vt9 rfl rfl rfl (by first | assumption | exact ORow.get (by assumption) rfl | exact ORow.get0 (by assumption) rfl) ?_ | refine rl_loadO 5 hM vt9 rfl rfl rfl (by first | assumption | exact ORow.get (by assumption) rfl | exact ORow.get0 (by assumption) rfl) ?_ | refine rl_loadO 6 hM vt9 rfl rfl rfl (by first | assumption | exact ORow.get (by assumption) rfl | exact ORow.get0 (by assumption) rfl) ?_ | refine rl_loadO 7 hM vt9 rfl rfl rfl (by first | assumption | exact ORow.get (by assumption) rfl | exact ORow.get0 (by assumption) rfl) ?_ | refine rl_loadO 8 hM vt9 rfl rfl rfl (by first | assumption | exact ORow.get (by assumption) rfl | exact ORow.get0 (by assumption) rfl) ?_) | (first | refine rl_off rfl ?_ | refine rl_seql_t rfl rfl rfl (by first | rfl | assumption) ?_ | refine rl_seql_f rfl rfl rfl (by first | assumption | decide) ?_)))
      refine rl_callf fn17 (lives_ok w0 w _ V6 hM) rfl rfl ?_
      clear hM
      rintro _ w ⟨V7, hV7, rfl, hM⟩
      (repeat (first | refine sq_normal ?_ | refine rl_nil ?_ | refine ret_ ?_ | refine rl_assign (v := (Value.bool _ : Value)) rfl rfl ?_ | refine rl_pick (v := (Value.bool _ : Value)) rfl rfl rfl ?_))
      exact bp_ret1 (v := Value.bool _) rfl rfl ⟨rfl, hM.below⟩
  rw [hw0] at key
  exact key
end Go.Proofs.Ytoekjhalcjhegaa.Hep
