/- The walk of fuguelaw27.HeapCounts. -/
import Derived.Test.YtoekjhalcjhegaaHepP4
import Derived.Test.YtoekjhalcjhegaaHepP5
import Derived.Test.YtoekjhalcjhegaaEng26
set_option linter.unusedVariables false
set_option linter.unusedSimpArgs false
namespace Go.Hp
open Go Go.Eng
theorem collect_none (rs : List Int) : (collect [] rs).1 = [] := by
  have e : isPlaces [] rs = [] := List.filter_eq_nil_iff.2 fun p _ h => by have := inB_iff.1 h; simp at this; omega
  have k : kept [] rs = [] := kept_eq (by rw [e]; exact Bfs.done (Nat.le_refl _))
  unfold collect; rw [k]; rfl
def seenC (n : Nat) (S : List Int) : List Value := (List.range n).map fun (j : Nat) => Value.bool (decide ((j : Int) ∈ S))
theorem seenC_nil (n : Nat) : List.replicate n (Value.bool false) = seenC n [] := by
  unfold seenC
  apply List.ext_getElem?
  intro j
  rw [List.getElem?_map]
  rcases Nat.lt_or_ge j n with h | h
  · rw [List.getElem?_range h, List.getElem?_replicate, if_pos h]; simp
  · rw [List.getElem?_eq_none (by simpa using h), List.getElem?_eq_none (by simpa using h)]; rfl
theorem seenC_len (n : Nat) (S : List Int) : (seenC n S).length = n := by simp [seenC]
theorem seenC_get {n : Nat} {S : List Int} {q : Int} (h0 : 0 ≤ q) (h1 : q < n) : (seenC n S)[0 + q.toNat]? = some (.bool (decide (q ∈ S))) := by
  unfold seenC
  rw [Nat.zero_add, List.getElem?_map, List.getElem?_range (by omega)]
  have : (q.toNat : Int) = q := by omega
  simp only [Option.map_some, this]
theorem seenC_set {n : Nat} {S : List Int} {q : Int} (h0 : 0 ≤ q) (h1 : q < n) : (seenC n S).set (0 + q.toNat) (.bool true) = seenC n (S ++ [q]) := by
  rw [Nat.zero_add]
  apply List.ext_getElem?
  intro j
  by_cases hj : j = q.toNat
  · subst hj
    rw [List.getElem?_set_self (by rw [seenC_len]; omega)]
    unfold seenC
    rw [List.getElem?_map, List.getElem?_range (by omega)]
    have : (q.toNat : Int) = q := by omega
    simp [this]
  · rw [List.getElem?_set_ne (Ne.symm hj)]
    unfold seenC
    rw [List.getElem?_map, List.getElem?_map]
    rcases Nat.lt_or_ge j n with h | h
    · rw [List.getElem?_range h]
      have : ¬ (j : Int) = q := by omega
      simp [this]
    · rw [List.getElem?_eq_none (by simpa using h)]; rfl
end Go.Hp
namespace Go.Proofs.Ytoekjhalcjhegaa.Hep
open Go Go.Eng Go.RowKit Go.Hp
attribute [local irreducible] RL RX KQ SQ Exit.inBlock Exit.then BP NP CallsOk IsSl IsRows IsInts IsBools Own Blk Code.wp Calls wpList
set_option maxRecDepth 4000 in
set_option maxHeartbeats 4000000 in
theorem law10 (v : Value) (xs : List Ac) (rv : Value) (rs : List Int) (w : World) (hx : IsActs w.cell? v xs) (hr : IsInts w.cell? rv rs) : CallsOk Try.prog 10 #[v, rv] w fun r w' => r = .bool true ∧ Below w.heap.size w w' := by
  have hM := Mem.init w
  obtain ⟨w0, hw0⟩ : ∃ w0, w0 = w := ⟨_, rfl⟩
  obtain ⟨V, hVd⟩ : ∃ V, V = w.cell? := ⟨_, rfl⟩
  rw [← hVd] at hM hx hr
  replace hM : Mem w0 w [] V := by rw [hw0]; exact hM
  have key : CallsOk Try.prog 10 #[v, rv] w fun r w' => r = .bool true ∧ Below w0.heap.size w0 w' := by
    clear hVd hw0
    obtain ⟨va, vc, _, _, hvv, _⟩ := id hx
    obtain ⟨ra, rc, rb, roff, hrr, hrc, hrcm, hra, hrel⟩ := id hr.open
    refine enter_ (N := 117) Try.func10 rfl rfl rfl ?_
    subst hvv hrr
    (repeat (first | refine seq_ ?_ | refine sq_normal ?_ | refine rl_nil ?_ | (refine region_ (id := 0) ?_; (try (refine rl_assign (v := (Value.bool _ : Value)) rfl rfl ?_))) | (refine region_ (id := 1) ?_; (try (refine rl_move (v := (Value.slice _ _ _ : Value)) rfl rfl ?_)))))
    refine rl_callf fn28 (built_ok w0 w [] V _ xs hM hx) rfl rfl ?_
    clear hM
    rintro _ w ⟨V1, h, hV1, rfl, hv, hcs0, hM, hcs⟩
    have hO := builtN_ok xs
    have hl := builtN_len xs
    obtain ⟨l, hld⟩ : ∃ l, l = builtN xs := ⟨_, rfl⟩
    rw [← hld] at hM hcs hO hl
    clear hld
    (repeat (first | refine seq_ ?_ | refine sq_normal ?_ | refine rl_nil ?_ | refine cond_f rfl ?_ | refine skip_ ?_ | (refine region_ (id := 2) ?_; (try (refine rl_move (v := (Value.bool _ : Value)) rfl rfl ?_; (try (refine rl_not rfl rfl ?_))))) | (refine region_ (id := 4) ?_; (try (refine rl_move (v := (Value.pointer _ : Value)) rfl rfl ?_))) | refine rl_assign (v := (Value.bool _ : Value)) rfl rfl ?_ | refine rl_move (v := (Value.tuple _ : Value)) rfl rfl ?_ | refine rl_extract rfl rfl rfl ?_ | refine rl_assign (v := (Value.pointer _ : Value)) rfl rfl ?_))
    refine rl_callf fn14 (len_ok w0 w _ V1 h 40 l ⟨_, _, hM, hcs⟩) rfl rfl ?_
    rintro _ w ⟨rfl, rfl⟩
    by_cases hz : (l.length : Int) = 0
    · have hl0 := emp_of hz
      subst hl0
      (repeat (first | refine seq_ ?_ | refine sq_normal ?_ | refine rl_nil ?_ | refine cond_t rfl ?_ | (refine region_ (id := 5) ?_; (try (refine rl_move (v := (Value.int _ _ : Value)) rfl rfl ?_; (try ((first | (refine rl_eql_t rfl rfl rfl ?_ ?_; omega) | (refine rl_eql_f rfl rfl rfl ?_ ?_; omega))))))) | (refine region_ (id := 6) ?_; (try (refine rl_move (v := (Value.pointer _ : Value)) rfl rfl ?_; (try ((refine rl_bsliceM (d := 29) [_] hM sl29 rfl rfl rfl rfl rfl (by decide) (by decide) ?_; clear hM; intro w b29 hM)))))) | refine rl_assign (v := (Value.int _ _ : Value)) rfl rfl ?_))
      obtain ⟨V2, hV2, hM2, hi2⟩ := ints_blk [0] hM rfl (by decide) (by intro x hx; simp at hx; subst hx; unfold I64; omega)
      clear hM
      refine rl_callf fn15 (collect_ok w0 w _ V2 h 40 [] _ [0] ⟨_, _, hM2, hcs.le hV2⟩ hO hi2 (by decide) (by decide)) rfl rfl ?_
      clear hM2
      rintro tv w ⟨V3, hV3, hH, htv⟩
      rw [collect_none] at hH
      obtain ⟨ta, tc, _, _, rfl, _⟩ := htv.open
      rw [show (collect [] [0]).2.length = 1 from rfl]
      (repeat (first | refine rl_move (v := (Value.bool _ : Value)) rfl rfl ?_ | refine rl_move (v := (Value.pointer _ : Value)) rfl rfl ?_ | (first | (refine rl_eql_t rfl rfl rfl ?_ ?_; omega) | (refine rl_eql_f rfl rfl rfl ?_ ?_; omega)) | refine rl_len sl29 rfl rfl ?_))
      refine rl_callf fn14 (len_ok w0 w _ V3 h 40 [] hH) rfl rfl ?_
      rintro _ w ⟨rfl, rfl⟩
      (repeat (first | refine rl_move (v := (Value.bool _ : Value)) rfl rfl ?_ | (first | (refine rl_eql_t rfl rfl rfl ?_ ?_; omega) | (refine rl_eql_f rfl rfl rfl ?_ ?_; omega)) | refine rl_pick (v := (Value.bool _ : Value)) rfl rfl rfl ?_))
      refine rl_callf fn17 (lives_ok w0 w _ V3 (HP.drop hH)) rfl rfl ?_
      rintro _ w ⟨V4, hV4, rfl, hM⟩
      (repeat (first | refine sq_normal ?_ | refine sq_ret ?_ | refine rl_nil ?_ | refine ret_ ?_ | refine rl_assign (v := (Value.bool _ : Value)) rfl rfl ?_ | refine rl_pick (v := (Value.bool _ : Value)) rfl rfl rfl ?_))
      exact bp_ret1 (v := Value.bool _) rfl rfl ⟨rfl, hM.below⟩
    · have hn0 : 0 < l.length := by omega
      (repeat (first | refine seq_ ?_ | refine sq_normal ?_ | refine rl_nil ?_ | refine cond_f rfl ?_ | refine skip_ ?_ | (refine region_ (id := 5) ?_; (try (refine rl_move (v := (Value.int _ _ : Value)) rfl rfl ?_; (try ((first | (refine rl_eql_t rfl rfl rfl ?_ ?_; omega) | (refine rl_eql_f rfl rfl rfl ?_ ?_; omega))))))) | (refine region_ (id := 7) ?_; (try (refine rl_move (v := (Value.int _ _ : Value)) rfl rfl ?_))) | refine rl_assign (v := (Value.int _ _ : Value)) rfl rfl ?_))
      refine rl_makeM hM sl65 rfl rfl rfl (by omega) (by omega) (by decide) ?_
      clear hM
      intro w sb hM
      replace hM : Mem w0 w (hp 67 31 h hv 40 l hcs0 [.blk sb (seenC l.length []) 4, .own (.slice none 0 0) 3 1 0 [], .own (.slice none 0 0) 3 1 0 []]) V1 := by
        rw [← seenC_nil]
        exact (((((hM.newOwn 3 1).newOwn 3 1).front 2 rfl).front 4 rfl).front 4 rfl)
      (repeat (first | refine seq_ ?_ | refine sq_normal ?_ | refine rl_nil ?_ | refine block_ ?_ | (refine region_ (id := 8) ?_; (try (refine rl_assign (v := (Value.slice _ _ _ : Value)) rfl rfl ?_))) | (refine region_ (id := 9) ?_; (try (refine rl_assign (v := (Value.slice _ _ _ : Value)) rfl rfl ?_))) | (refine region_ (id := 10) ?_; (try (refine rl_assign (v := (Value.int _ _ : Value)) rfl rfl ?_))) | refine rl_assign (v := (Value.slice _ _ _ : Value)) rfl rfl ?_))
      refine cut_blk2 [(9, 12), (43, 69)] 9 10 (fun pv nv wr => Mem w0 wr (hp 67 31 h hv 40 l hcs0 [.blk sb (seenC l.length []) 4, .own pv 3 1 (min rs.length 6) ((placesN rs l.length (min rs.length 6)).map (Value.int .i64)), .own nv 3 1 (min rs.length 6) ((placesN rs l.length (min rs.length 6)).map (Value.int .i64))]) V1) ?_ ?_
      · refine loop3 [(9, 12), (43, 69)] 9 10 11 (fun m pv nv vi wr => ∃ (i : Nat), vi = .int .i64 i ∧ i ≤ rs.length ∧ i ≤ 6 ∧ m = 6 - i ∧ Mem w0 wr (hp 67 31 h hv 40 l hcs0 [.blk sb (seenC l.length []) 4, .own pv 3 1 i ((placesN rs l.length i).map (Value.int .i64)), .own nv 3 1 i ((placesN rs l.length i).map (Value.int .i64))]) V1) _
          ⟨0, rfl, Nat.zero_le _, Nat.zero_le _, rfl, hM⟩ ?_
        clear hM
        rintro m τ2 pv nv vi w ⟨i, rfl, hi, hi6, rfl, hM⟩ K0 hL0
        obtain ⟨pa, pc, rfl, _, _⟩ := hM.ownShape (i := 3) rfl
        obtain ⟨na, nc, rfl, _, _⟩ := hM.ownShape (i := 4) rfl
        by_cases hlt1 : i < rs.length
        · by_cases hlt2 : i < 6
          · obtain ⟨r, hri⟩ : ∃ r, rs[i]? = some r := ⟨_, List.getElem?_eq_getElem hlt1⟩
            have hra' := hra (by omega)
            subst hra'
            have hv0 : V1 ⟨rb, roff + (i : Int).toNat, none⟩ = some (.int .i64 r) := hV1 _ _ (hrel i r hri)
            have hr64 := hr.rng r (List.mem_of_getElem? hri)
            have hpl := placesN_len (n := l.length) hi
            (repeat (first | refine seq_ ?_ | refine sq_normal ?_ | refine rl_nil ?_ | refine cond_t rfl ?_ | refine skip_ ?_ | refine block_ ?_ | (refine region_ (id := 11) ?_; (try (refine rl_move (v := (Value.int _ _ : Value)) rfl rfl ?_; (try (refine rl_move (v := (Value.slice _ _ _ : Value)) rfl rfl ?_; (try (refine rl_len sl29 rfl rfl ?_; (try ((first | (refine rl_lss_t rfl rfl rfl ?_ ?_; omega) | (refine rl_lss_f rfl rfl rfl ?_ ?_; omega)); (try (refine rl_move (v := (Value.bool _ : Value)) rfl rfl ?_; (try ((first | refine rl_off rfl ?_ | refine rl_move (v := (Value.int _ _ : Value)) rfl rfl ?_); (try ((first | refine rl_off rfl ?_ | (refine rl_lss_t rfl rfl rfl ?_ ?_; omega) | (refine rl_lss_f rfl rfl rfl ?_ ?_; omega)); (try (refine rl_pick (v := (Value.bool _ : Value)) rfl rfl rfl ?_))))))))))))))))) | (refine region_ (id := 13) ?_; (try (refine rl_move (v := (Value.slice _ _ _ : Value)) rfl rfl ?_; (try (refine rl_move (v := (Value.slice _ _ _ : Value)) rfl rfl ?_; (try (refine rl_move (v := (Value.int _ _ : Value)) rfl rfl ?_; (try ((first | (refine rl_idx1 sl29 rfl rfl rfl rfl ?_ ?_ ?_; omega; omega) | (apply rl_idx1 sl29 rfl rfl rfl; assumption; omega; omega)); (try ((first | refine rl_loadV hM vt3 rfl rfl (by first | assumption | exact VRow.get (by assumption) rfl | exact VRow.get0 (by assumption) rfl) ?_ | refine rl_loadM 0 hM vt3 rfl rfl rfl (by first | rfl | assumption) ?_ | refine rl_loadM 1 hM vt3 rfl rfl rfl (by first | rfl | assumption) ?_ | refine rl_loadM 2 hM vt3 rfl rfl rfl (by first | rfl | assumption) ?_ | refine rl_loadM 3 hM vt3 rfl rfl rfl (by first | rfl | assumption) ?_ | refine rl_loadM 4 hM vt3 rfl rfl rfl (by first | rfl | assumption) ?_ | refine rl_loadM 5 hM vt3 rfl rfl rfl (by first | rfl | assumption) ?_ | refine rl_loadM 6 hM vt3 rfl rfl rfl (by first | rfl | assumption) ?_ | refine rl_loadM 7 hM vt3 rfl rfl rfl (by first | rfl | assumption) ?_ | refine rl_loadM 8 hM vt3 rfl rfl rfl (by first | rfl | assumption) ?_ | refine rl_loadO 0 hM vt3 rfl rfl rfl (by first | assumption | exact ORow.get (by assumption) rfl | exact ORow.get0 (by assumption) rfl) ?_ | refine rl_loadO 1 hM vt3 rfl rfl rfl (by first | assumption | exact ORow.get (by assumption) rfl | exact ORow.get0 (by assumption) rfl) ?_ | refine rl_loadO 2 hM vt3 rfl rfl rfl (by first | assumption | exact ORow.get (by assumption) rfl | exact ORow.get0 (by assumption) rfl) ?_ | refine rl_loadO 3 hM vt3 rfl rfl rfl (by first | assumption | exact ORow.get (by assumption) rfl | exact ORow.get0 (by assumption) rfl) ?_ | refine rl_loadO 4 hM vt3 rfl rfl rfl (by first | assumption | exact ORow.get (by assumption) rfl | exact ORow.get0 (by assumption) rfl) ?_ | refine rl_loadO 5 hM vt3 rfl rfl rfl (by first | assumption | exact ORow.get (by assumption) rfl | exact ORow.get0 (by assumption) rfl) ?_ | refine rl_loadO 6 hM vt3 rfl rfl rfl (by first | assumption | exact ORow.get (by assumption) rfl | exact ORow.get0 (by assumption) rfl) ?_ | refine rl_loadO 7 hM vt3 rfl rfl rfl (by first | assumption | exact ORow.get (by assumption) rfl | exact ORow.get0 (by assumption) rfl) ?_ | refine rl_loadO 8 hM vt3 rfl rfl rfl (by first | assumption | exact ORow.get (by assumption) rfl | exact ORow.get0 (by assumption) rfl) ?_); (try (refine rl_move (v := (Value.int _ _ : Value)) rfl rfl ?_)))))))))))))))
            refine rl_callf fn11 (around_ok r (l.length : Int) w hr64.1 hr64.2 (by omega) (by omega)) rfl rfl ?_
            rintro _ w ⟨rfl, rfl⟩
            obtain ⟨p, hpd⟩ : ∃ p, p = around r (l.length : Int) := ⟨_, rfl⟩
            have hps := placesN_succ (n := l.length) hri
            rw [← hpd] at hps ⊢
            (repeat (first | (refine rl_bsliceM (d := 60) [_] hM sl29 rfl rfl rfl rfl rfl (by decide) (by decide) ?_; clear hM; intro w b60 hM)))
            refine rl_appendM 4 (news := [.int .i64 p]) (B := b60) (off := 0) hM sl29 rfl (by decide) rfl (hM.row (i := 0) rfl) rfl rfl rfl (fun _ => rfl) rfl (by simp [Value.oneCell']) (by unfold maxLen; omega) (by omega) ?_
            clear hM
            intro w a' c' _ _ hM
            replace hM : Mem w0 w (hp 67 31 h hv 40 l hcs0 [.blk sb (seenC l.length []) 4, .own (.slice a' (i + 1) c') 3 1 (i + 1) ((placesN rs l.length i).map (Value.int .i64) ++ [.int .i64 p]), .own (.slice na i nc) 3 1 i ((placesN rs l.length i).map (Value.int .i64))]) V1 := hM.dropn 1
            obtain ⟨ab, _, hab, _, _⟩ := hM.ownA (i := 3) rfl (by omega)
            obtain ⟨rfl, _⟩ : a' = some ⟨ab, 0, none⟩ ∧ _ := by simpa using hab
            have hget : ((placesN rs l.length i).map (Value.int .i64) ++ [Value.int .i64 p])[0 + (i : Int).toNat]? = some (.int .i64 p) := by
              rw [List.getElem?_append_right (by simp [hpl])]
              simp [hpl]
            (repeat (first | refine sq_normal ?_ | refine rl_nil ?_ | (refine region_ (id := 14) ?_; (try (refine rl_move (v := (Value.slice _ _ _ : Value)) rfl rfl ?_; (try (refine rl_move (v := (Value.slice _ _ _ : Value)) rfl rfl ?_; (try (refine rl_move (v := (Value.int _ _ : Value)) rfl rfl ?_; (try ((first | (refine rl_idx1 sl29 rfl rfl rfl rfl ?_ ?_ ?_; omega; omega) | (apply rl_idx1 sl29 rfl rfl rfl; assumption; omega; omega)); (try ((first | refine rl_loadV hM vt3 rfl rfl (by first | assumption | exact VRow.get (by assumption) rfl | exact VRow.get0 (by assumption) rfl) ?_ | refine rl_loadM 0 hM vt3 rfl rfl rfl (by first | rfl | assumption) ?_ | refine rl_loadM 1 hM vt3 rfl rfl rfl (by first | rfl | assumption) ?_ | refine rl_loadM 2 hM vt3 rfl rfl rfl (by first | rfl | assumption) ?_ | refine rl_loadM 3 hM vt3 rfl rfl rfl (by first | rfl | assumption) ?_ | refine rl_loadM 4 hM vt3 rfl rfl rfl (by first | rfl | assumption) ?_ | refine rl_loadM 5 hM vt3 rfl rfl rfl (by first | rfl | assumption) ?_ | refine rl_loadM 6 hM vt3 rfl rfl rfl (by first | rfl | assumption) ?_ | refine rl_loadM 7 hM vt3 rfl rfl rfl (by first | rfl | assumption) ?_ | refine rl_loadM 8 hM vt3 rfl rfl rfl (by first | rfl | assumption) ?_ | refine rl_loadO 0 hM vt3 rfl rfl rfl (by first | assumption | exact ORow.get (by assumption) rfl | exact ORow.get0 (by assumption) rfl) ?_ | refine rl_loadO 1 hM vt3 rfl rfl rfl (by first | assumption | exact ORow.get (by assumption) rfl | exact ORow.get0 (by assumption) rfl) ?_ | refine rl_loadO 2 hM vt3 rfl rfl rfl (by first | assumption | exact ORow.get (by assumption) rfl | exact ORow.get0 (by assumption) rfl) ?_ | refine rl_loadO 3 hM vt3 rfl rfl rfl (by first | assumption | exact ORow.get (by assumption) rfl | exact ORow.get0 (by assumption) rfl) ?_ | refine rl_loadO 4 hM vt3 rfl rfl rfl (by first | assumption | exact ORow.get (by assumption) rfl | exact ORow.get0 (by assumption) rfl) ?_ | refine rl_loadO 5 hM vt3 rfl rfl rfl (by first | assumption | exact ORow.get (by assumption) rfl | exact ORow.get0 (by assumption) rfl) ?_ | refine rl_loadO 6 hM vt3 rfl rfl rfl (by first | assumption | exact ORow.get (by assumption) rfl | exact ORow.get0 (by assumption) rfl) ?_ | refine rl_loadO 7 hM vt3 rfl rfl rfl (by first | assumption | exact ORow.get (by assumption) rfl | exact ORow.get0 (by assumption) rfl) ?_ | refine rl_loadO 8 hM vt3 rfl rfl rfl (by first | assumption | exact ORow.get (by assumption) rfl | exact ORow.get0 (by assumption) rfl) ?_); (try ((refine rl_bsliceM (d := 67) [_] hM sl29 rfl rfl rfl rfl rfl (by decide) (by decide) ?_; clear hM; intro w b67 hM)))))))))))))) | refine rl_assign (v := (Value.slice _ _ _ : Value)) rfl rfl ?_))
            refine rl_appendM 5 (news := [.int .i64 p]) (B := b67) (off := 0) hM sl29 rfl (by decide) rfl (hM.row (i := 0) rfl) rfl rfl rfl (fun _ => rfl) rfl (by simp [Value.oneCell']) (by unfold maxLen; omega) (by omega) ?_
            clear hM
            intro w a2 c2 _ _ hM
            replace hM : Mem w0 w (hp 67 31 h hv 40 l hcs0 [.blk sb (seenC l.length []) 4, .own (.slice (some ⟨ab, 0, none⟩) (i + 1) c') 3 1 (i + 1) ((placesN rs l.length i).map (Value.int .i64) ++ [.int .i64 p]), .own (.slice a2 (i + 1) c2) 3 1 (i + 1) ((placesN rs l.length i).map (Value.int .i64) ++ [.int .i64 p])]) V1 := hM.dropn 1
            rw [show (placesN rs l.length i).map (Value.int .i64) ++ [Value.int .i64 p] = (placesN rs l.length (i + 1)).map (Value.int .i64) by rw [hps]; simp] at hM
            (repeat (first | refine sq_normal ?_ | refine rl_nil ?_ | refine inBlock_normal ?_ | (refine region_ (id := 12) ?_; (try (refine rl_move (v := (Value.int _ _ : Value)) rfl rfl ?_; (try ((refine rl_add rfl rfl rfl ?_ ?_ ?_; omega; omega); (try (refine rl_assign (v := (Value.int _ _ : Value)) rfl rfl ?_))))))) | refine rl_assign (v := (Value.slice _ _ _ : Value)) rfl rfl ?_))
            exact kq_normal (hL0 (6 - (i + 1)) _ _ (by omega) (by (repeat (first | with_reducible exact Agree.ov | with_reducible exact Agree.refl _ _ | refine Agree.upd rfl ?_ | refine Agree.ovs rfl ?_))) ⟨i + 1, rfl, by omega, by omega, rfl, hM⟩)
          · obtain rfl : i = 6 := by omega
            (repeat (first | refine seq_ ?_ | refine sq_normal ?_ | refine sq_exit ?_ | refine rl_nil ?_ | refine cond_f rfl ?_ | refine exit_ ?_ | refine inBlock_exit ?_ | refine kq_exit ?_ | (refine region_ (id := 11) ?_; (try (refine rl_move (v := (Value.int _ _ : Value)) rfl rfl ?_; (try (refine rl_move (v := (Value.slice _ _ _ : Value)) rfl rfl ?_; (try (refine rl_len sl29 rfl rfl ?_; (try ((first | (refine rl_lss_t rfl rfl rfl ?_ ?_; omega) | (refine rl_lss_f rfl rfl rfl ?_ ?_; omega)); (try (refine rl_move (v := (Value.bool _ : Value)) rfl rfl ?_; (try ((first | refine rl_off rfl ?_ | refine rl_move (v := (Value.int _ _ : Value)) rfl rfl ?_); (try ((first | refine rl_off rfl ?_ | (refine rl_lss_t rfl rfl rfl ?_ ?_; omega) | (refine rl_lss_f rfl rfl rfl ?_ ?_; omega)); (try (refine rl_pick (v := (Value.bool _ : Value)) rfl rfl rfl ?_)))))))))))))))))))
            exact kq_normal ⟨by (repeat (first | with_reducible exact Agree.ov | with_reducible exact Agree.refl _ _ | refine Agree.upd rfl ?_ | refine Agree.ovs rfl ?_)), by rw [show min rs.length 6 = 6 by omega]; exact hM⟩
        · obtain rfl : i = rs.length := by omega
          (repeat (first | refine seq_ ?_ | refine sq_normal ?_ | refine sq_exit ?_ | refine rl_nil ?_ | refine cond_f rfl ?_ | refine exit_ ?_ | refine inBlock_exit ?_ | refine kq_exit ?_ | (refine region_ (id := 11) ?_; (try (refine rl_move (v := (Value.int _ _ : Value)) rfl rfl ?_; (try (refine rl_move (v := (Value.slice _ _ _ : Value)) rfl rfl ?_; (try (refine rl_len sl29 rfl rfl ?_; (try ((first | (refine rl_lss_t rfl rfl rfl ?_ ?_; omega) | (refine rl_lss_f rfl rfl rfl ?_ ?_; omega)); (try (refine rl_move (v := (Value.bool _ : Value)) rfl rfl ?_; (try ((first | refine rl_off rfl ?_ | refine rl_move (v := (Value.int _ _ : Value)) rfl rfl ?_); (try ((first | refine rl_off rfl ?_ | (refine rl_lss_t rfl rfl rfl ?_ ?_; omega) | (refine rl_lss_f rfl rfl rfl ?_ ?_; omega)); (try (refine rl_pick (v := (Value.bool _ : Value)) rfl rfl rfl ?_)))))))))))))))))))
          exact kq_normal ⟨by (repeat (first | with_reducible exact Agree.ov | with_reducible exact Agree.refl _ _ | refine Agree.upd rfl ?_ | refine Agree.ovs rfl ?_)), by rw [show min rs.length 6 = rs.length by omega]; exact hM⟩
      clear hM
      rintro τ pv nv w hM
      obtain ⟨n6, hn6⟩ : ∃ n6, n6 = min rs.length 6 := ⟨_, rfl⟩
      rw [← hn6] at hM
      obtain ⟨pa, pc, rfl, _, _⟩ := hM.ownShape (i := 3) rfl
      obtain ⟨ps, hps⟩ : ∃ ps, ps = placesN rs l.length n6 := ⟨_, rfl⟩
      have hpl : ps.length = n6 := by rw [hps]; exact placesN_len (by omega)
      have hpr : ∀ p ∈ ps, 0 ≤ p ∧ p < l.length := by rw [hps]; exact placesN_rng hn0
      rw [← hps] at hM
      clear hps
      have hkk := kept_kp hO ps
      subst hpl
      have hCn0 : Cn l (kept l ps) [] ps 0 := ⟨by simp, by simp, fun p hp => ⟨hpr p hp, kept_root hO hp (inB_iff.2 (hpr p hp))⟩, by simp⟩
      (repeat (first | refine seq_ ?_ | refine sq_normal ?_ | refine rl_nil ?_ | refine block_ ?_ | (refine region_ (id := 15) ?_; (try (refine rl_assign (v := (Value.int _ _ : Value)) rfl rfl ?_))) | (refine region_ (id := 16) ?_; (try (refine rl_assign (v := (Value.int _ _ : Value)) rfl rfl ?_)))))
      refine loop3 [(4, 5), (10, 11), (12, 17), (69, 107)] 10 12 13 (fun m nv vc vi wr => ∃ (i : Nat) (S next : List Int) (V2 : Vw) (hv : Value) (cs : List Value), vc = .int .i64 S.length ∧ vi = .int .i64 i ∧ i ≤ next.length ∧ m = (l.length - S.length) * 50 + (next.length - i) ∧ Cn l (kept l ps) S next i ∧ (∃ r, next = ps ++ r) ∧ (∀ (j : Nat) p, j < i → next[j]? = some p → fol l p ∈ S) ∧ next.length ≤ 6 + 40 * S.length ∧
          Mem w0 wr (hp 67 31 h hv 40 l cs [.blk sb (seenC l.length S) 4, .own (.slice pa ps.length pc) 3 1 ps.length (ps.map (Value.int .i64)), .own nv 3 1 next.length (next.map (Value.int .i64))]) V2 ∧ NdCells V2 l cs) _
        ⟨0, [], ps, V1, hv, hcs0, rfl, rfl, Nat.zero_le _, rfl, hCn0, ⟨[], by simp⟩, fun j p hj => absurd hj (by omega), by simp; omega, hM, hcs⟩ ?_
      clear hM hcs hcs0 hv hCn0
      rintro m τ2 nv vc vi w ⟨i, S, next, V2, hv, cs, rfl, rfl, hi, rfl, hC, hpre, hsn, hnl, hM, hcs⟩ K0 hL0
      obtain ⟨na, nc, rfl, hnc1, hnc2⟩ := hM.ownShape (i := 4) rfl
      have hSl := hC.len hkk
      by_cases hlt : i < next.length
      · obtain ⟨p, hpn⟩ : ∃ p, next[i]? = some p := ⟨_, List.getElem?_eq_getElem hlt⟩
        obtain ⟨⟨hp0, hp1⟩, hpK⟩ := hC.rng p (List.mem_of_getElem? hpn)
        obtain ⟨f0, f1, f2⟩ := fol_form hO.ends hp0 hp1
        obtain ⟨nb, _, hab, _, _⟩ := hM.ownA (i := 4) rfl (by omega)
        obtain ⟨rfl, _⟩ : na = some ⟨nb, 0, none⟩ ∧ _ := by simpa using hab
        have hget : (next.map (Value.int .i64))[0 + (i : Int).toNat]? = some (.int .i64 p) := by
          rw [Nat.zero_add, List.getElem?_map]
          show (next[i]?).map _ = _
          rw [hpn]; rfl
        (repeat (first | refine seq_ ?_ | refine sq_normal ?_ | refine rl_nil ?_ | refine cond_t rfl ?_ | refine skip_ ?_ | refine block_ ?_ | (refine region_ (id := 17) ?_; (try (refine rl_move (v := (Value.int _ _ : Value)) rfl rfl ?_; (try (refine rl_move (v := (Value.slice _ _ _ : Value)) rfl rfl ?_; (try (refine rl_len sl29 rfl rfl ?_; (try ((first | (refine rl_lss_t rfl rfl rfl ?_ ?_; omega) | (refine rl_lss_f rfl rfl rfl ?_ ?_; omega))))))))))) | (refine region_ (id := 19) ?_; (try (refine rl_move (v := (Value.pointer _ : Value)) rfl rfl ?_; (try (refine rl_move (v := (Value.slice _ _ _ : Value)) rfl rfl ?_; (try (refine rl_move (v := (Value.int _ _ : Value)) rfl rfl ?_; (try ((first | (refine rl_idx1 sl29 rfl rfl rfl rfl ?_ ?_ ?_; omega; omega) | (apply rl_idx1 sl29 rfl rfl rfl; assumption; omega; omega)); (try ((first | refine rl_loadV hM vt3 rfl rfl (by first | assumption | exact VRow.get (by assumption) rfl | exact VRow.get0 (by assumption) rfl) ?_ | refine rl_loadM 0 hM vt3 rfl rfl rfl (by first | rfl | assumption) ?_ | refine rl_loadM 1 hM vt3 rfl rfl rfl (by first | rfl | assumption) ?_ | refine rl_loadM 2 hM vt3 rfl rfl rfl (by first | rfl | assumption) ?_ | refine rl_loadM 3 hM vt3 rfl rfl rfl (by first | rfl | assumption) ?_ | refine rl_loadM 4 hM vt3 rfl rfl rfl (by first | rfl | assumption) ?_ | refine rl_loadM 5 hM vt3 rfl rfl rfl (by first | rfl | assumption) ?_ | refine rl_loadM 6 hM vt3 rfl rfl rfl (by first | rfl | assumption) ?_ | refine rl_loadM 7 hM vt3 rfl rfl rfl (by first | rfl | assumption) ?_ | refine rl_loadM 8 hM vt3 rfl rfl rfl (by first | rfl | assumption) ?_ | refine rl_loadO 0 hM vt3 rfl rfl rfl (by first | assumption | exact ORow.get (by assumption) rfl | exact ORow.get0 (by assumption) rfl) ?_ | refine rl_loadO 1 hM vt3 rfl rfl rfl (by first | assumption | exact ORow.get (by assumption) rfl | exact ORow.get0 (by assumption) rfl) ?_ | refine rl_loadO 2 hM vt3 rfl rfl rfl (by first | assumption | exact ORow.get (by assumption) rfl | exact ORow.get0 (by assumption) rfl) ?_ | refine rl_loadO 3 hM vt3 rfl rfl rfl (by first | assumption | exact ORow.get (by assumption) rfl | exact ORow.get0 (by assumption) rfl) ?_ | refine rl_loadO 4 hM vt3 rfl rfl rfl (by first | assumption | exact ORow.get (by assumption) rfl | exact ORow.get0 (by assumption) rfl) ?_ | refine rl_loadO 5 hM vt3 rfl rfl rfl (by first | assumption | exact ORow.get (by assumption) rfl | exact ORow.get0 (by assumption) rfl) ?_ | refine rl_loadO 6 hM vt3 rfl rfl rfl (by first | assumption | exact ORow.get (by assumption) rfl | exact ORow.get0 (by assumption) rfl) ?_ | refine rl_loadO 7 hM vt3 rfl rfl rfl (by first | assumption | exact ORow.get (by assumption) rfl | exact ORow.get0 (by assumption) rfl) ?_ | refine rl_loadO 8 hM vt3 rfl rfl rfl (by first | assumption | exact ORow.get (by assumption) rfl | exact ORow.get0 (by assumption) rfl) ?_))))))))))))))
        refine rl_callf fn26 (follow_ok w0 w _ V2 h 40 p l ⟨hv, cs, hM, hcs⟩ hO.ends) rfl rfl ?_
        clear hM hcs
        rintro _ w ⟨rfl, hv, cs, hM, hcs⟩
        obtain ⟨q, hqd⟩ : ∃ q, q = fol l p := ⟨_, rfl⟩
        rw [← hqd] at f0 f1 f2 hpK ⊢
        have hsg : (seenC l.length S)[0 + q.toNat]? = some (.bool (decide (q ∈ S))) := seenC_get f0 f1
        have hsl := seenC_len l.length S
        by_cases hqS : q ∈ S
        · rw [decide_eq_true hqS] at hsg
          (repeat (first | refine seq_ ?_ | refine sq_normal ?_ | refine sq_exit ?_ | refine rl_nil ?_ | refine cond_t rfl ?_ | refine cond_f rfl ?_ | refine skip_ ?_ | refine exit_ ?_ | refine inBlock_exit ?_ | (refine region_ (id := 18) ?_; (try (refine rl_move (v := (Value.int _ _ : Value)) rfl rfl ?_; (try ((refine rl_add rfl rfl rfl ?_ ?_ ?_; omega; omega); (try (refine rl_assign (v := (Value.int _ _ : Value)) rfl rfl ?_))))))) | (refine region_ (id := 20) ?_; (try (refine rl_move (v := (Value.int _ _ : Value)) rfl rfl ?_; (try ((first | (refine rl_lss_t rfl rfl rfl ?_ ?_; omega) | (refine rl_lss_f rfl rfl rfl ?_ ?_; omega)); (try (refine rl_move (v := (Value.bool _ : Value)) rfl rfl ?_; (try ((first | refine rl_off rfl ?_ | refine rl_move (v := (Value.int _ _ : Value)) rfl rfl ?_); (try ((first | refine rl_off rfl ?_ | refine rl_move (v := (Value.int _ _ : Value)) rfl rfl ?_); (try ((first | refine rl_off rfl ?_ | (refine rl_geq_t rfl rfl rfl ?_ ?_; omega) | (refine rl_geq_f rfl rfl rfl ?_ ?_; omega)); (try (refine rl_pick (v := (Value.bool _ : Value)) rfl rfl rfl ?_))))))))))))))) | (refine region_ (id := 22) ?_; (try (refine rl_move (v := (Value.slice _ _ _ : Value)) rfl rfl ?_; (try (refine rl_move (v := (Value.int _ _ : Value)) rfl rfl ?_; (try ((first | (refine rl_idx1 sl65 rfl rfl rfl rfl ?_ ?_ ?_; omega; omega) | (apply rl_idx1 sl65 rfl rfl rfl; assumption; omega; omega)); (try ((first | refine rl_loadV hM vt4 rfl rfl (by first | assumption | exact VRow.get (by assumption) rfl | exact VRow.get0 (by assumption) rfl) ?_ | refine rl_loadM 0 hM vt4 rfl rfl rfl (by first | rfl | assumption) ?_ | refine rl_loadM 1 hM vt4 rfl rfl rfl (by first | rfl | assumption) ?_ | refine rl_loadM 2 hM vt4 rfl rfl rfl (by first | rfl | assumption) ?_ | refine rl_loadM 3 hM vt4 rfl rfl rfl (by first | rfl | assumption) ?_ | refine rl_loadM 4 hM vt4 rfl rfl rfl (by first | rfl | assumption) ?_ | refine rl_loadM 5 hM vt4 rfl rfl rfl (by first | rfl | assumption) ?_ | refine rl_loadM 6 hM vt4 rfl rfl rfl (by first | rfl | assumption) ?_ | refine rl_loadM 7 hM vt4 rfl rfl rfl (by first | rfl | assumption) ?_ | refine rl_loadM 8 hM vt4 rfl rfl rfl (by first | rfl | assumption) ?_ | refine rl_loadO 0 hM vt4 rfl rfl rfl (by first | assumption | exact ORow.get (by assumption) rfl | exact ORow.get0 (by assumption) rfl) ?_ | refine rl_loadO 1 hM vt4 rfl rfl rfl (by first | assumption | exact ORow.get (by assumption) rfl | exact ORow.get0 (by assumption) rfl) ?_ | refine rl_loadO 2 hM vt4 rfl rfl rfl (by first | assumption | exact ORow.get (by assumption) rfl | exact ORow.get0 (by assumption) rfl) ?_ | refine rl_loadO 3 hM vt4 rfl rfl rfl (by first | assumption | exact ORow.get (by assumption) rfl | exact ORow.get0 (by assumption) rfl) ?_ | refine rl_loadO 4 hM vt4 rfl rfl rfl (by first | assumption | exact ORow.get (by assumption) rfl | exact ORow.get0 (by assumption) rfl) ?_ | refine rl_loadO 5 hM vt4 rfl rfl rfl (by first | assumption | exact ORow.get (by assumption) rfl | exact ORow.get0 (by assumption) rfl) ?_ | refine rl_loadO 6 hM vt4 rfl rfl rfl (by first | assumption | exact ORow.get (by assumption) rfl | exact ORow.get0 (by assumption) rfl) ?_ | refine rl_loadO 7 hM vt4 rfl rfl rfl (by first | assumption | exact ORow.get (by assumption) rfl | exact ORow.get0 (by assumption) rfl) ?_ | refine rl_loadO 8 hM vt4 rfl rfl rfl (by first | assumption | exact ORow.get (by assumption) rfl | exact ORow.get0 (by assumption) rfl) ?_)))))))))) | refine rl_assign (v := (Value.int _ _ : Value)) rfl rfl ?_))
          exact kq_normal (hL0 ((l.length - S.length) * 50 + (next.length - (i + 1))) _ _ (by omega) (by (repeat (first | with_reducible exact Agree.ov | with_reducible exact Agree.refl _ _ | refine Agree.upd rfl ?_ | refine Agree.ovs rfl ?_))) ⟨i + 1, S, next, V2, hv, cs, rfl, rfl, by omega, rfl, hC.skip hpn (by rw [← hqd]; exact hqS), hpre, (fun j p' hj hp' => by
            by_cases hji : j = i
            · subst hji; rw [hpn] at hp'; cases hp'; rw [← hqd]; exact hqS
            · exact hsn j p' (by omega) hp'), hnl, hM, hcs⟩)
        · rw [decide_eq_false hqS] at hsg
          obtain ⟨g3, g4⟩ := getN_at f0 f1
          have hks := right_short (hO.right _ (List.mem_of_getElem? (nodeAt_get f0 f1)))
          have hCs := hC.see hO hpn (by rw [← hqd]; exact hqS)
          have hSl2 := hCs.len hkk
          rw [← hqd] at hCs
          obtain ⟨nd, hnd⟩ : ∃ nd, nd = nodeAt l q := ⟨_, rfl⟩
          rw [← hnd] at g3 hks hCs
          have hlen2 : (S ++ [fol l p]).length = S.length + 1 := by simp
          rw [hlen2] at hSl2
          (repeat (first | refine seq_ ?_ | refine sq_normal ?_ | refine rl_nil ?_ | refine cond_f rfl ?_ | refine skip_ ?_ | (refine region_ (id := 20) ?_; (try (refine rl_move (v := (Value.int _ _ : Value)) rfl rfl ?_; (try ((first | (refine rl_lss_t rfl rfl rfl ?_ ?_; omega) | (refine rl_lss_f rfl rfl rfl ?_ ?_; omega)); (try (refine rl_move (v := (Value.bool _ : Value)) rfl rfl ?_; (try ((first | refine rl_off rfl ?_ | refine rl_move (v := (Value.int _ _ : Value)) rfl rfl ?_); (try ((first | refine rl_off rfl ?_ | refine rl_move (v := (Value.int _ _ : Value)) rfl rfl ?_); (try ((first | refine rl_off rfl ?_ | (refine rl_geq_t rfl rfl rfl ?_ ?_; omega) | (refine rl_geq_f rfl rfl rfl ?_ ?_; omega)); (try (refine rl_pick (v := (Value.bool _ : Value)) rfl rfl rfl ?_))))))))))))))) | (refine region_ (id := 22) ?_; (try (refine rl_move (v := (Value.slice _ _ _ : Value)) rfl rfl ?_; (try (refine rl_move (v := (Value.int _ _ : Value)) rfl rfl ?_; (try ((first | (refine rl_idx1 sl65 rfl rfl rfl rfl ?_ ?_ ?_; omega; omega) | (apply rl_idx1 sl65 rfl rfl rfl; assumption; omega; omega)); (try ((first | refine rl_loadV hM vt4 rfl rfl (by first | assumption | exact VRow.get (by assumption) rfl | exact VRow.get0 (by assumption) rfl) ?_ | refine rl_loadM 0 hM vt4 rfl rfl rfl (by first | rfl | assumption) ?_ | refine rl_loadM 1 hM vt4 rfl rfl rfl (by first | rfl | assumption) ?_ | refine rl_loadM 2 hM vt4 rfl rfl rfl (by first | rfl | assumption) ?_ | refine rl_loadM 3 hM vt4 rfl rfl rfl (by first | rfl | assumption) ?_ | refine rl_loadM 4 hM vt4 rfl rfl rfl (by first | rfl | assumption) ?_ | refine rl_loadM 5 hM vt4 rfl rfl rfl (by first | rfl | assumption) ?_ | refine rl_loadM 6 hM vt4 rfl rfl rfl (by first | rfl | assumption) ?_ | refine rl_loadM 7 hM vt4 rfl rfl rfl (by first | rfl | assumption) ?_ | refine rl_loadM 8 hM vt4 rfl rfl rfl (by first | rfl | assumption) ?_ | refine rl_loadO 0 hM vt4 rfl rfl rfl (by first | assumption | exact ORow.get (by assumption) rfl | exact ORow.get0 (by assumption) rfl) ?_ | refine rl_loadO 1 hM vt4 rfl rfl rfl (by first | assumption | exact ORow.get (by assumption) rfl | exact ORow.get0 (by assumption) rfl) ?_ | refine rl_loadO 2 hM vt4 rfl rfl rfl (by first | assumption | exact ORow.get (by assumption) rfl | exact ORow.get0 (by assumption) rfl) ?_ | refine rl_loadO 3 hM vt4 rfl rfl rfl (by first | assumption | exact ORow.get (by assumption) rfl | exact ORow.get0 (by assumption) rfl) ?_ | refine rl_loadO 4 hM vt4 rfl rfl rfl (by first | assumption | exact ORow.get (by assumption) rfl | exact ORow.get0 (by assumption) rfl) ?_ | refine rl_loadO 5 hM vt4 rfl rfl rfl (by first | assumption | exact ORow.get (by assumption) rfl | exact ORow.get0 (by assumption) rfl) ?_ | refine rl_loadO 6 hM vt4 rfl rfl rfl (by first | assumption | exact ORow.get (by assumption) rfl | exact ORow.get0 (by assumption) rfl) ?_ | refine rl_loadO 7 hM vt4 rfl rfl rfl (by first | assumption | exact ORow.get (by assumption) rfl | exact ORow.get0 (by assumption) rfl) ?_ | refine rl_loadO 8 hM vt4 rfl rfl rfl (by first | assumption | exact ORow.get (by assumption) rfl | exact ORow.get0 (by assumption) rfl) ?_)))))))))) | (refine region_ (id := 23) ?_; (try (refine rl_move (v := (Value.slice _ _ _ : Value)) rfl rfl ?_; (try (refine rl_move (v := (Value.int _ _ : Value)) rfl rfl ?_; (try ((first | (refine rl_idx1 sl65 rfl rfl rfl rfl ?_ ?_ ?_; omega; omega) | (apply rl_idx1 sl65 rfl rfl rfl; assumption; omega; omega)); (try ((first | (refine rl_storeM 0 hM vt4 rfl rfl rfl rfl rfl (by first | (simp; done) | (simp; omega) | omega) ?_; clear hM; intro w hM) | (refine rl_storeM 1 hM vt4 rfl rfl rfl rfl rfl (by first | (simp; done) | (simp; omega) | omega) ?_; clear hM; intro w hM) | (refine rl_storeM 2 hM vt4 rfl rfl rfl rfl rfl (by first | (simp; done) | (simp; omega) | omega) ?_; clear hM; intro w hM) | (refine rl_storeM 3 hM vt4 rfl rfl rfl rfl rfl (by first | (simp; done) | (simp; omega) | omega) ?_; clear hM; intro w hM) | (refine rl_storeM 4 hM vt4 rfl rfl rfl rfl rfl (by first | (simp; done) | (simp; omega) | omega) ?_; clear hM; intro w hM) | (refine rl_storeM 5 hM vt4 rfl rfl rfl rfl rfl (by first | (simp; done) | (simp; omega) | omega) ?_; clear hM; intro w hM) | (refine rl_storeM 6 hM vt4 rfl rfl rfl rfl rfl (by first | (simp; done) | (simp; omega) | omega) ?_; clear hM; intro w hM) | (refine rl_storeM 7 hM vt4 rfl rfl rfl rfl rfl (by first | (simp; done) | (simp; omega) | omega) ?_; clear hM; intro w hM) | (refine rl_storeM 8 hM vt4 rfl rfl rfl rfl rfl (by first | (simp; done) | (simp; omega) | omega) ?_; clear hM; intro w hM))))))))))) | (refine region_ (id := 24) ?_; (try (refine rl_move (v := (Value.int _ _ : Value)) rfl rfl ?_; (try ((refine rl_add rfl rfl rfl ?_ ?_ ?_; omega; omega); (try (refine rl_assign (v := (Value.int _ _ : Value)) rfl rfl ?_))))))) | (refine region_ (id := 25) ?_; (try (refine rl_move (v := (Value.pointer _ : Value)) rfl rfl ?_; (try (refine rl_move (v := (Value.int _ _ : Value)) rfl rfl ?_))))) | refine rl_assign (v := (Value.int _ _ : Value)) rfl rfl ?_))
          replace hM : Mem w0 w (hp 67 31 h hv 40 l cs [.blk sb (seenC l.length (S ++ [q])) 4, .own (.slice pa ps.length pc) 3 1 ps.length (ps.map (Value.int .i64)), .own (.slice (some ⟨nb, 0, none⟩) next.length nc) 3 1 next.length (next.map (Value.int .i64))]) V2 := by
            rw [← seenC_set f0 f1]; exact hM
          refine rl_callf fn16 (get_ok w0 w _ V2 h 40 q l ⟨hv, cs, hM, hcs⟩ hO.short) rfl rfl ?_
          clear hM hcs
          rintro _ w ⟨V3, kv3, hV3, ⟨hv, cs, hM, hcs⟩, rfl, hkv3⟩
          rw [g3] at hkv3 ⊢
          rw [g4]
          obtain ⟨k3a, k3c, kb, koff, rfl, _, _, hka, hkel⟩ := id hkv3.open
          unfold ndCells
          (repeat (first | refine sq_normal ?_ | refine rl_nil ?_ | (refine region_ (id := 26) ?_; (try (refine rl_move (v := (Value.slice _ _ _ : Value)) rfl rfl ?_; (try (refine rl_fld fd31_3 rfl rfl ?_; (try ((first | refine rl_loadV hM vt29 rfl rfl (by first | assumption | exact VRow.get (by assumption) rfl | exact VRow.get0 (by assumption) rfl) ?_ | refine rl_loadM 0 hM vt29 rfl rfl rfl (by first | rfl | assumption) ?_ | refine rl_loadM 1 hM vt29 rfl rfl rfl (by first | rfl | assumption) ?_ | refine rl_loadM 2 hM vt29 rfl rfl rfl (by first | rfl | assumption) ?_ | refine rl_loadM 3 hM vt29 rfl rfl rfl (by first | rfl | assumption) ?_ | refine rl_loadM 4 hM vt29 rfl rfl rfl (by first | rfl | assumption) ?_ | refine rl_loadM 5 hM vt29 rfl rfl rfl (by first | rfl | assumption) ?_ | refine rl_loadM 6 hM vt29 rfl rfl rfl (by first | rfl | assumption) ?_ | refine rl_loadM 7 hM vt29 rfl rfl rfl (by first | rfl | assumption) ?_ | refine rl_loadM 8 hM vt29 rfl rfl rfl (by first | rfl | assumption) ?_ | refine rl_loadO 0 hM vt29 rfl rfl rfl (by first | assumption | exact ORow.get (by assumption) rfl | exact ORow.get0 (by assumption) rfl) ?_ | refine rl_loadO 1 hM vt29 rfl rfl rfl (by first | assumption | exact ORow.get (by assumption) rfl | exact ORow.get0 (by assumption) rfl) ?_ | refine rl_loadO 2 hM vt29 rfl rfl rfl (by first | assumption | exact ORow.get (by assumption) rfl | exact ORow.get0 (by assumption) rfl) ?_ | refine rl_loadO 3 hM vt29 rfl rfl rfl (by first | assumption | exact ORow.get (by assumption) rfl | exact ORow.get0 (by assumption) rfl) ?_ | refine rl_loadO 4 hM vt29 rfl rfl rfl (by first | assumption | exact ORow.get (by assumption) rfl | exact ORow.get0 (by assumption) rfl) ?_ | refine rl_loadO 5 hM vt29 rfl rfl rfl (by first | assumption | exact ORow.get (by assumption) rfl | exact ORow.get0 (by assumption) rfl) ?_ | refine rl_loadO 6 hM vt29 rfl rfl rfl (by first | assumption | exact ORow.get (by assumption) rfl | exact ORow.get0 (by assumption) rfl) ?_ | refine rl_loadO 7 hM vt29 rfl rfl rfl (by first | assumption | exact ORow.get (by assumption) rfl | exact ORow.get0 (by assumption) rfl) ?_ | refine rl_loadO 8 hM vt29 rfl rfl rfl (by first | assumption | exact ORow.get (by assumption) rfl | exact ORow.get0 (by assumption) rfl) ?_)))))))) | refine rl_assign (v := (Value.bool _ : Value)) rfl rfl ?_ | refine rl_move (v := (Value.tuple _ : Value)) rfl rfl ?_ | refine rl_extract rfl rfl rfl ?_ | (refine rl_allocAM (d := 15) hM ag31 rfl ?_; clear hM; intro w b15 hM) | (first | (refine rl_storeWM 0 hM ag31 rfl rfl rfl rfl rfl rfl rfl ?_; clear hM; intro w hM) | (refine rl_storeWM 1 hM ag31 rfl rfl rfl rfl rfl rfl rfl ?_; clear hM; intro w hM) | (refine rl_storeWM 2 hM ag31 rfl rfl rfl rfl rfl rfl rfl ?_; clear hM; intro w hM) | (refine rl_storeWM 3 hM ag31 rfl rfl rfl rfl rfl rfl rfl ?_; clear hM; intro w hM) | (refine rl_storeWM 4 hM ag31 rfl rfl rfl rfl rfl rfl rfl ?_; clear hM; intro w hM) | (refine rl_storeWM 5 hM ag31 rfl rfl rfl rfl rfl rfl rfl ?_; clear hM; intro w hM) | (refine rl_storeWM 6 hM ag31 rfl rfl rfl rfl rfl rfl rfl ?_; clear hM; intro w hM) | (refine rl_storeWM 7 hM ag31 rfl rfl rfl rfl rfl rfl rfl ?_; clear hM; intro w hM) | (refine rl_storeWM 8 hM ag31 rfl rfl rfl rfl rfl rfl rfl ?_; clear hM; intro w hM))))
          refine rl_appendM 5 (news := nd.kids.map (Value.int .i64)) (B := kb) (off := koff) hM sl29 rfl (by decide) rfl ?_ rfl rfl rfl hka ?_ ?_ ?_ ?_ ?_
          · intro j u hu
            rw [List.getElem?_map, Option.map_eq_some_iff] at hu
            obtain ⟨x, hx, rfl⟩ := hu
            exact hM.view (hkel _ _ hx)
          · simp
          · intro u hu
            obtain ⟨x, _, rfl⟩ := List.mem_map.1 hu
            rfl
          · unfold maxLen; omega
          · omega
          clear hM
          intro w a2 c2 _ _ hM
          have hnn : (next ++ nd.kids).length = next.length + nd.kids.length := by simp
          replace hM : Mem w0 w (hp 67 31 h hv 40 l cs [.blk sb (seenC l.length (S ++ [q])) 4, .own (.slice pa ps.length pc) 3 1 ps.length (ps.map (Value.int .i64)), .own (.slice a2 (next.length + nd.kids.length) c2) 3 1 (next ++ nd.kids).length ((next ++ nd.kids).map (Value.int .i64))]) V3 := by
            rw [hnn, List.map_append]; exact hM.dropn 1
          (repeat (first | refine sq_normal ?_ | refine rl_nil ?_ | refine inBlock_normal ?_ | (refine region_ (id := 18) ?_; (try (refine rl_move (v := (Value.int _ _ : Value)) rfl rfl ?_; (try ((refine rl_add rfl rfl rfl ?_ ?_ ?_; omega; omega); (try (refine rl_assign (v := (Value.int _ _ : Value)) rfl rfl ?_))))))) | refine rl_assign (v := (Value.slice _ _ _ : Value)) rfl rfl ?_))
          refine kq_normal (hL0 ((l.length - (S ++ [q]).length) * 50 + ((next ++ nd.kids).length - (i + 1))) _ _ ?_ (by (repeat (first | with_reducible exact Agree.ov | with_reducible exact Agree.refl _ _ | refine Agree.upd rfl ?_ | refine Agree.ovs rfl ?_))) ⟨i + 1, S ++ [q], next ++ nd.kids, V3, hv, cs, ?_, rfl, by omega, rfl, hCs, ?_, ?_, ?_, hM, hcs⟩)
          · rw [hqd, hlen2]; omega
          · rw [hqd, hlen2]; rfl
          · obtain ⟨r, hr⟩ := hpre
            exact ⟨r ++ nd.kids, by rw [hr]; simp⟩
          · intro j p' hj hp'
            rw [List.getElem?_append_left (by omega)] at hp'
            by_cases hji : j = i
            · subst hji; rw [hpn] at hp'; cases hp'; rw [← hqd]; simp
            · exact List.mem_append.2 (.inl (hsn j p' (by omega) hp'))
          · rw [hqd, hlen2]; omega
      · have hcnt := hC.fin hO (by omega) (fun p hp hb => by
          obtain ⟨r, hr⟩ := hpre
          obtain ⟨j, hj⟩ := List.mem_iff_getElem?.1 hp
          have hjl := (List.getElem?_eq_some_iff.1 hj).1
          have hj2 : next[j]? = some p := by rw [hr, List.getElem?_append_left hjl]; exact hj
          exact hsn j p (by have := (List.getElem?_eq_some_iff.1 hj2).1; omega) hj2)
        obtain ⟨V3, hV3, hM3, pa', pc', pb, er, e5, e6, e7, e8⟩ := Mem.freezeOwn (hM.front 3 rfl)
        cases er
        have hpi : IsInts V3 (.slice pa ps.length pc) ps := isInts_of rfl e5 e6 e7 e8 (fun x hx => by have := hpr x hx; unfold I64; omega)
        clear hM e7 e8
        replace hM3 : Mem w0 w (hp 67 31 h hv 40 l cs [.blk sb (seenC l.length S) 4, .own (.slice na next.length nc) 3 1 next.length (next.map (Value.int .i64))]) V3 := hM3
        (repeat (first | refine seq_ ?_ | refine sq_normal ?_ | refine sq_exit ?_ | refine rl_nil ?_ | refine cond_f rfl ?_ | refine exit_ ?_ | refine inBlock_exit ?_ | refine kq_exit ?_ | (refine region_ (id := 17) ?_; (try (refine rl_move (v := (Value.int _ _ : Value)) rfl rfl ?_; (try (refine rl_move (v := (Value.slice _ _ _ : Value)) rfl rfl ?_; (try (refine rl_len sl29 rfl rfl ?_; (try ((first | (refine rl_lss_t rfl rfl rfl ?_ ?_; omega) | (refine rl_lss_f rfl rfl rfl ?_ ?_; omega))))))))))) | (refine region_ (id := 27) ?_; (try (refine rl_move (v := (Value.pointer _ : Value)) rfl rfl ?_; (try (refine rl_move (v := (Value.slice _ _ _ : Value)) rfl rfl ?_)))))))
        refine rl_callf fn15 (collect_ok w0 w _ V3 h 40 l _ ps ⟨_, _, hM3, hcs.le hV3⟩ hO hpi (by omega) (by omega)) rfl rfl ?_
        clear hM3 hcs hpi
        rintro tv w ⟨V4, hV4, hH, htv⟩
        have hcl := hkk.len
        (repeat (first | refine seq_ ?_ | refine sq_normal ?_ | refine rl_nil ?_ | (refine region_ (id := 28) ?_; (try (refine rl_move (v := (Value.pointer _ : Value)) rfl rfl ?_)))))
        refine rl_callf fn14 (len_ok w0 w _ V4 h 40 _ hH) rfl rfl ?_
        rintro _ w ⟨rfl, rfl⟩
        rw [← hcnt]
        (repeat (first | refine rl_move (v := (Value.bool _ : Value)) rfl rfl ?_ | refine rl_move (v := (Value.int _ _ : Value)) rfl rfl ?_ | (first | (refine rl_eql_t rfl rfl rfl ?_ ?_; omega) | (refine rl_eql_f rfl rfl rfl ?_ ?_; omega))))
        refine rl_callf fn17 (lives_ok w0 w _ V4 (HP.drop hH)) rfl rfl ?_
        rintro _ w ⟨V5, hV5, rfl, hM⟩
        (repeat (first | refine sq_normal ?_ | refine rl_nil ?_ | refine ret_ ?_ | refine rl_assign (v := (Value.bool _ : Value)) rfl rfl ?_ | refine rl_pick (v := (Value.bool _ : Value)) rfl rfl rfl ?_))
        exact bp_ret1 (v := Value.bool _) rfl rfl ⟨rfl, hM.below⟩
  rw [hw0] at key
  exact key
end Go.Proofs.Ytoekjhalcjhegaa.Hep
