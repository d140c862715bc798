/- The walk of fuguelaw27.HeapRoom. -/
import Derived.Test.YtoekjhalcjhegaaHepW12
import Derived.Test.YtoekjhalcjhegaaHepP1
set_option linter.unusedVariables false
set_option linter.unusedSimpArgs false
namespace Go.Proofs.Ytoekjhalcjhegaa.Hep
open Go Go.Eng Go.RowKit Go.Hp
attribute [local irreducible] RL RX KQ SQ Exit.inBlock Exit.then BP NP CallsOk IsSl IsRows IsInts IsBools Own Blk Code.wp Calls wpList
def hole : Nd := ⟨6, 0, [], []⟩
theorem alloc_room {most : Int} {l : List Nd} {a : Nd} (hr : right l.length a = true) (hl : (l.length : Int) < most) : (alloc most l a).1 = l ++ [a] ∧ (alloc most l a).2.1 = (l.length : Int) ∧ (alloc most l a).2.2 = 0 := by
  unfold alloc; rw [if_neg (by rw [hr]; decide), if_neg (by omega)]; exact ⟨rfl, rfl, rfl⟩
theorem alloc_full {most : Int} {l : List Nd} {a : Nd} (hr : right l.length a = true) (hl : most ≤ (l.length : Int)) : (alloc most l a).1 = l ∧ (alloc most l a).2.1 = 0 ∧ (alloc most l a).2.2 = 54 := by
  unfold alloc; rw [if_neg (by rw [hr]; decide), if_pos hl]; exact ⟨rfl, rfl, rfl⟩
def keptN (n k : Nat) : List Nd := (List.range k).map fun (i : Nat) => (⟨1, (n : Int) - 1 - i, [], []⟩ : Nd)
theorem keptN_len (n k : Nat) : (keptN n k).length = k := by simp [keptN]
theorem keptN_get {n k i : Nat} (h : i < k) : (getN (keptN n k) i).1 = ⟨1, (n : Int) - 1 - i, [], []⟩ ∧ (getN (keptN n k) i).2 = true := by
  unfold getN
  rw [if_pos (inB_iff.2 ⟨by omega, by rw [keptN_len]; omega⟩)]
  have e : (i : Int).toNat = i := by omega
  rw [e, List.getD_eq_getElem?_getD]
  unfold keptN
  rw [List.getElem?_map, List.getElem?_range h]; exact ⟨rfl, rfl⟩
theorem keptN_short (n k m : Nat) : ∀ a ∈ keptN n k ++ List.replicate m hole, a.kids.length ≤ 1000 := by
  intro a ha
  rcases List.mem_append.1 ha with h | h
  · obtain ⟨i, _, rfl⟩ := List.mem_map.1 h
    exact Nat.zero_le _
  · obtain ⟨_, rfl⟩ := List.mem_replicate.1 h
    exact Nat.zero_le _
theorem int_right (n : Nat) (i : Int) : right n ⟨1, i, [], []⟩ = true := rfl
theorem hole_right (n : Nat) : right n hole = true := rfl
set_option maxRecDepth 4000 in
set_option maxHeartbeats 2000000 in
theorem law3 (a0 a1 : Int) (w : World) (h0 : I64 a0) (h1 : I64 a1) : CallsOk Try.prog 3 #[.int .i64 a0, .int .i64 a1] w fun r w' => r = .bool true ∧ Below w.heap.size w w' := by
  have hM := Mem.init w
  obtain ⟨w0, hw0⟩ : ∃ w0, w0 = w := ⟨_, rfl⟩
  obtain ⟨V, hVd⟩ : ∃ V, V = w.cell? := ⟨_, rfl⟩
  rw [← hVd] at hM
  have hM : Mem w0 w [] V := by rw [hw0]; exact hM
  have key : CallsOk Try.prog 3 #[.int .i64 a0, .int .i64 a1] w fun r w' => r = .bool true ∧ Below w0.heap.size w0 w' := by
    have ha := around_lt a0 60 (by decide)
    obtain ⟨n, hn⟩ : ∃ n : Nat, 1 + around a0 60 = n := ⟨(1 + around a0 60).toNat, by omega⟩
    have hn1 : 1 ≤ n ∧ n ≤ 60 := by omega
    have hb := around_lt a1 ((n : Int) + 1) (by omega)
    obtain ⟨k, hk⟩ : ∃ k : Nat, around a1 ((n : Int) + 1) = k := ⟨(around a1 ((n : Int) + 1)).toNat, by omega⟩
    have hk1 : k ≤ n := by omega
    refine enter_ (N := 157) Try.func3 rfl rfl rfl ?_
    (repeat (first | refine seq_ ?_ | refine sq_normal ?_ | refine rl_nil ?_ | (refine region_ (id := 0) ?_; (try (refine rl_assign (v := (Value.bool _ : Value)) rfl rfl ?_))) | (refine region_ (id := 1) ?_; (try (refine rl_move (v := (Value.int _ _ : Value)) rfl rfl ?_)))))
    refine rl_callf fn11 (around_ok a0 60 w h0.1 h0.2 (by decide) (by decide)) rfl rfl ?_
    rintro _ w ⟨rfl, rfl⟩
    (repeat (first | refine seq_ ?_ | refine sq_normal ?_ | refine rl_nil ?_ | (refine region_ (id := 2) ?_; (try (refine rl_move (v := (Value.int _ _ : Value)) rfl rfl ?_; (try (refine rl_move (v := (Value.int _ _ : Value)) rfl rfl ?_; (try ((refine rl_add rfl rfl rfl ?_ ?_ ?_; omega; omega)))))))) | (refine rl_add rfl rfl rfl ?_ ?_ ?_; omega; omega) | refine rl_assign (v := (Value.int _ _ : Value)) rfl rfl ?_))
    rw [hn]
    skip
    refine rl_callf fn11 (around_ok a1 ((n : Int) + 1) w h1.1 h1.2 (by omega) (by omega)) rfl rfl ?_
    rintro _ w ⟨rfl, rfl⟩
    rw [hk]
    clear ha hb
    (repeat (first | refine seq_ ?_ | refine sq_normal ?_ | refine rl_nil ?_ | (refine region_ (id := 3) ?_; (try (refine rl_move (v := (Value.int _ _ : Value)) rfl rfl ?_))) | refine rl_assign (v := (Value.int _ _ : Value)) rfl rfl ?_))
    refine rl_callf fn12 (new_ok w0 w [] V n hM) rfl rfl ?_
    clear hM
    rintro _ w (⟨h1, _⟩ | ⟨_, h, rfl, hH⟩)
    · exact absurd h1 (by unfold new; rw [if_pos (by omega)]; decide)
    (repeat (first | refine seq_ ?_ | refine sq_normal ?_ | refine rl_nil ?_ | refine cond_f rfl ?_ | refine skip_ ?_ | refine block_ ?_ | (refine region_ (id := 4) ?_; (try (refine rl_move (v := (Value.int _ _ : Value)) rfl rfl ?_; (try ((first | (refine rl_neq_t rfl rfl rfl ?_ ?_; omega) | (refine rl_neq_f rfl rfl rfl ?_ ?_; omega)); (try (refine rl_move (v := (Value.bool _ : Value)) rfl rfl ?_; (try ((first | refine rl_off rfl ?_ | refine rl_move (v := (Value.pointer _ : Value)) rfl rfl ?_); (try ((first | refine rl_off rfl ?_ | refine rl_peqnil up23 rfl rfl rfl ?_); (try (refine rl_pick (v := (Value.bool _ : Value)) rfl rfl rfl ?_))))))))))))) | (refine region_ (id := 6) ?_; (try (refine rl_assign (v := (Value.int _ _ : Value)) rfl rfl ?_))) | refine rl_assign (v := (Value.int _ _ : Value)) rfl rfl ?_ | refine rl_move (v := (Value.tuple _ : Value)) rfl rfl ?_ | refine rl_extract rfl rfl rfl ?_ | refine rl_assign (v := (Value.pointer _ : Value)) rfl rfl ?_))
    refine loop1 [(4, 5), (7, 10), (39, 58)] 7 (fun m vi wr => ∃ (i : Nat) (V1 : Vw), vi = .int .i64 i ∧ i ≤ n ∧ m = n - i ∧ HP 67 31 w0 wr V1 h n (intsN i) []) _
      ⟨0, V, rfl, Nat.zero_le _, rfl, hH⟩ ?_
    clear hH
    rintro m τ vi w ⟨i, V1, rfl, hi, rfl, hH⟩ K0 hL0
    by_cases hlt : i < n
    · (repeat (first | refine seq_ ?_ | refine sq_normal ?_ | refine rl_nil ?_ | refine cond_t rfl ?_ | refine skip_ ?_ | refine block_ ?_ | (refine region_ (id := 7) ?_; (try (refine rl_move (v := (Value.int _ _ : Value)) rfl rfl ?_; (try (refine rl_move (v := (Value.int _ _ : Value)) rfl rfl ?_; (try ((first | (refine rl_lss_t rfl rfl rfl ?_ ?_; omega) | (refine rl_lss_f rfl rfl rfl ?_ ?_; omega))))))))) | (refine region_ (id := 9) ?_; (try (refine rl_move (v := (Value.pointer _ : Value)) rfl rfl ?_; (try (refine rl_move (v := (Value.int _ _ : Value)) rfl rfl ?_; (try (refine rl_build [_, _, (St []), (Value.slice none 0 0)] ag31 pl31 rfl rfl rfl ?_)))))))))
      refine rl_callf fn13 (alloc_ok w0 w [] V1 h n (intsN i) ⟨1, i, [], []⟩ (.slice none 0 0) hH (ints_nil V1) (by rw [intsN_len]; omega) (by omega)) rfl rfl ?_
      clear hH
      rintro _ w ⟨V2, hV2, hH, rfl⟩
      obtain ⟨e1, e2, e3⟩ := alloc_room (most := n) (int_right (intsN i).length i) (by rw [intsN_len]; omega)
      rw [e1, ← intsN_succ] at hH
      rw [e2, e3, intsN_len]
      (repeat (first | refine seq_ ?_ | refine sq_normal ?_ | refine rl_nil ?_ | refine cond_f rfl ?_ | refine skip_ ?_ | refine inBlock_normal ?_ | (refine region_ (id := 8) ?_; (try (refine rl_move (v := (Value.int _ _ : Value)) rfl rfl ?_; (try ((refine rl_add rfl rfl rfl ?_ ?_ ?_; omega; omega); (try (refine rl_assign (v := (Value.int _ _ : Value)) rfl rfl ?_))))))) | (refine region_ (id := 10) ?_; (try (refine rl_move (v := (Value.int _ _ : Value)) rfl rfl ?_; (try (refine rl_move (v := (Value.int _ _ : Value)) rfl rfl ?_; (try ((first | (refine rl_neq_t rfl rfl rfl ?_ ?_; omega) | (refine rl_neq_f rfl rfl rfl ?_ ?_; omega)); (try (refine rl_move (v := (Value.bool _ : Value)) rfl rfl ?_; (try ((first | refine rl_off rfl ?_ | refine rl_move (v := (Value.int _ _ : Value)) rfl rfl ?_); (try ((first | refine rl_off rfl ?_ | (refine rl_neq_t rfl rfl rfl ?_ ?_; omega) | (refine rl_neq_f rfl rfl rfl ?_ ?_; omega)); (try (refine rl_pick (v := (Value.bool _ : Value)) rfl rfl rfl ?_))))))))))))))) | refine rl_assign (v := (Value.int _ _ : Value)) rfl rfl ?_ | refine rl_move (v := (Value.tuple _ : Value)) rfl rfl ?_ | refine rl_extract rfl rfl rfl ?_))
      exact kq_normal (hL0 (n - (i + 1)) _ _ (by omega) (by (repeat (first | with_reducible exact Agree.ov | with_reducible exact Agree.refl _ _ | refine Agree.upd rfl ?_ | refine Agree.ovs rfl ?_))) ⟨i + 1, V2, rfl, by omega, rfl, hH⟩)
    · obtain rfl : i = n := by omega
      clear hL0
      (repeat (first | refine seq_ ?_ | refine sq_normal ?_ | refine sq_exit ?_ | refine rl_nil ?_ | refine cond_f rfl ?_ | refine exit_ ?_ | refine inBlock_exit ?_ | refine kq_exit ?_ | (refine region_ (id := 7) ?_; (try (refine rl_move (v := (Value.int _ _ : Value)) rfl rfl ?_; (try (refine rl_move (v := (Value.int _ _ : Value)) rfl rfl ?_; (try ((first | (refine rl_lss_t rfl rfl rfl ?_ ?_; omega) | (refine rl_lss_f rfl rfl rfl ?_ ?_; omega))))))))) | (refine region_ (id := 12) ?_; (try (refine rl_move (v := (Value.pointer _ : Value)) rfl rfl ?_; (try (refine rl_build [_, (Value.int .i64 0), (St []), (Value.slice none 0 0)] ag31 pl31 rfl rfl rfl ?_)))))))
      refine rl_callf fn13 (alloc_ok w0 w [] V1 h i (intsN i) hole (.slice none 0 0) hH (ints_nil V1) (by rw [intsN_len]; omega) (by omega)) rfl rfl ?_
      clear hH
      rintro _ w ⟨V2, hV2, hH, rfl⟩
      obtain ⟨e1, e2, e3⟩ := alloc_full (most := i) (hole_right (intsN i).length) (by rw [intsN_len]; omega)
      rw [e1] at hH
      rw [e2, e3]
      (repeat (first | refine seq_ ?_ | refine sq_normal ?_ | refine rl_nil ?_ | (refine region_ (id := 13) ?_; (try (refine rl_move (v := (Value.int _ _ : Value)) rfl rfl ?_; (try ((first | (refine rl_neq_t rfl rfl rfl ?_ ?_; omega) | (refine rl_neq_f rfl rfl rfl ?_ ?_; omega)); (try (refine rl_move (v := (Value.bool _ : Value)) rfl rfl ?_; (try ((first | refine rl_off rfl ?_ | refine rl_move (v := (Value.int _ _ : Value)) rfl rfl ?_); (try ((first | refine rl_off rfl ?_ | (refine rl_neq_t rfl rfl rfl ?_ ?_; omega) | (refine rl_neq_f rfl rfl rfl ?_ ?_; omega)); (try (refine rl_pick (v := (Value.bool _ : Value)) rfl rfl rfl ?_; (try (refine rl_move (v := (Value.bool _ : Value)) rfl rfl ?_; (try ((first | refine rl_off rfl ?_ | refine rl_move (v := (Value.pointer _ : Value)) rfl rfl ?_)))))))))))))))))) | refine rl_assign (v := (Value.int _ _ : Value)) rfl rfl ?_ | refine rl_move (v := (Value.tuple _ : Value)) rfl rfl ?_ | refine rl_extract rfl rfl rfl ?_))
      refine rl_callf fn14 (len_ok w0 w _ V2 h i (intsN i) hH) rfl rfl ?_
      rintro _ w ⟨rfl, rfl⟩
      rw [intsN_len]
      obtain ⟨hv, hcs0, hM, hcs⟩ := hH
      replace hM := hM.newOwn 3 1
      (repeat (first | refine seq_ ?_ | refine sq_normal ?_ | refine rl_nil ?_ | refine cond_f rfl ?_ | refine skip_ ?_ | refine block_ ?_ | (refine region_ (id := 15) ?_; (try (refine rl_assign (v := (Value.slice _ _ _ : Value)) rfl rfl ?_))) | (refine region_ (id := 16) ?_; (try (refine rl_assign (v := (Value.int _ _ : Value)) rfl rfl ?_))) | refine rl_move (v := (Value.int _ _ : Value)) rfl rfl ?_ | (first | (refine rl_neq_t rfl rfl rfl ?_ ?_; omega) | (refine rl_neq_f rfl rfl rfl ?_ ?_; omega)) | refine rl_pick (v := (Value.bool _ : Value)) rfl rfl rfl ?_))
      refine loop2 [(12, 14), (76, 88)] 12 13 (fun m rv vi wr => ∃ (j : Nat), vi = .int .i64 j ∧ j ≤ k ∧ m = k - j ∧ Mem w0 wr (.own rv 3 1 j ((downN i j).map (Value.int .i64)) :: hp 67 31 h hv i (intsN i) hcs0 []) V2) _
        ⟨0, rfl, Nat.zero_le _, rfl, hM⟩ ?_
      clear hM
      rintro m τ2 rv vi w ⟨j, rfl, hj, rfl, hM⟩ K0 hL0
      obtain ⟨ra, rc, rfl, _, _⟩ := hM.ownShape (i := 0) rfl
      by_cases hjk : j < k
      · (repeat (first | refine seq_ ?_ | refine sq_normal ?_ | refine rl_nil ?_ | refine cond_t rfl ?_ | refine skip_ ?_ | refine block_ ?_ | (refine region_ (id := 17) ?_; (try (refine rl_move (v := (Value.int _ _ : Value)) rfl rfl ?_; (try (refine rl_move (v := (Value.int _ _ : Value)) rfl rfl ?_; (try ((first | (refine rl_lss_t rfl rfl rfl ?_ ?_; omega) | (refine rl_lss_f rfl rfl rfl ?_ ?_; omega))))))))) | (refine region_ (id := 19) ?_; (try (refine rl_move (v := (Value.slice _ _ _ : Value)) rfl rfl ?_; (try (refine rl_move (v := (Value.int _ _ : Value)) rfl rfl ?_; (try ((refine rl_sub rfl rfl rfl ?_ ?_ ?_; omega; omega); (try (refine rl_move (v := (Value.int _ _ : Value)) rfl rfl ?_; (try ((refine rl_sub rfl rfl rfl ?_ ?_ ?_; omega; omega); (try ((refine rl_bsliceM (d := 86) [_] hM sl29 rfl rfl rfl rfl rfl (by decide) (by decide) ?_; clear hM; intro w b86 hM))))))))))))))))
        refine rl_appendM 1 (news := [.int .i64 ((i : Int) - 1 - j)]) (B := b86) (off := 0) hM sl29 rfl (by decide) rfl (hM.row (i := 0) rfl) rfl rfl rfl (fun _ => rfl) rfl (by simp [Value.oneCell']) (by unfold maxLen; omega) (by omega) ?_
        clear hM
        intro w a' c' _ _ hM
        replace hM : Mem w0 w (.own (.slice a' (j + 1) c') 3 1 (j + 1) ((downN i j).map (Value.int .i64) ++ [.int .i64 ((i : Int) - 1 - j)]) :: hp 67 31 h hv i (intsN i) hcs0 []) V2 := hM.dropn 1
        rw [show (downN i j).map (Value.int .i64) ++ [Value.int .i64 ((i : Int) - 1 - j)] = (downN i (j + 1)).map (Value.int .i64) by rw [downN_succ]; simp] at hM
        (repeat (first | refine sq_normal ?_ | refine rl_nil ?_ | refine inBlock_normal ?_ | (refine region_ (id := 18) ?_; (try (refine rl_move (v := (Value.int _ _ : Value)) rfl rfl ?_; (try ((refine rl_add rfl rfl rfl ?_ ?_ ?_; omega; omega); (try (refine rl_assign (v := (Value.int _ _ : Value)) rfl rfl ?_))))))) | refine rl_assign (v := (Value.slice _ _ _ : Value)) rfl rfl ?_))
        exact kq_normal (hL0 (k - (j + 1)) _ _ (by omega) (by (repeat (first | with_reducible exact Agree.ov | with_reducible exact Agree.refl _ _ | refine Agree.upd rfl ?_ | refine Agree.ovs rfl ?_))) ⟨j + 1, rfl, by omega, rfl, hM⟩)
      · obtain rfl : j = k := by omega
        clear hL0
        obtain ⟨V3, hV3, hM3, ra', rc', rb', er, e5, e6, e7, e8⟩ := Mem.freezeOwn hM
        cases er
        have hri : IsInts V3 (.slice ra j rc) (downN i j) := isInts_of (by rw [downN_len]) (by rw [downN_len]; exact e5) e6 (by rw [downN_len]; exact e7) e8 (fun x hx => by have := downN_rng hk1 x hx; unfold I64; omega)
        clear hM e7 e8
        (repeat (first | refine seq_ ?_ | refine sq_normal ?_ | refine sq_exit ?_ | refine rl_nil ?_ | refine cond_f rfl ?_ | refine exit_ ?_ | refine inBlock_exit ?_ | refine kq_exit ?_ | (refine region_ (id := 17) ?_; (try (refine rl_move (v := (Value.int _ _ : Value)) rfl rfl ?_; (try (refine rl_move (v := (Value.int _ _ : Value)) rfl rfl ?_; (try ((first | (refine rl_lss_t rfl rfl rfl ?_ ?_; omega) | (refine rl_lss_f rfl rfl rfl ?_ ?_; omega))))))))) | (refine region_ (id := 20) ?_; (try (refine rl_move (v := (Value.pointer _ : Value)) rfl rfl ?_; (try (refine rl_move (v := (Value.slice _ _ _ : Value)) rfl rfl ?_)))))))
        refine rl_callf fn15 (collect_ok w0 w [] V3 h i (intsN i) _ (downN i j) ⟨hv, hcs0, hM3, hcs.le hV3⟩ (intsN_ok i) hri (by rw [downN_len]; omega) (by rw [intsN_len]; omega)) rfl rfl ?_
        clear hM3 hcs hri
        rintro tv w ⟨V4, hV4, hH, htv⟩
        rw [room_collect hk1] at hH htv
        obtain ⟨ta, tc, tb, toff, rfl, _, _, hta, htel⟩ := htv.open
        have htl : ((List.range j).map fun (i : Nat) => (i : Int)).length = j := by simp
        simp only [htl] at hta htel ⊢
        replace hH : HP 67 31 w0 w V4 h i (keptN i j) [] := hH
        (repeat (first | refine seq_ ?_ | refine sq_normal ?_ | refine rl_nil ?_ | refine block_ ?_ | (refine region_ (id := 21) ?_; (try (refine rl_assign (v := (Value.int _ _ : Value)) rfl rfl ?_))) | refine rl_assign (v := (Value.slice _ _ _ : Value)) rfl rfl ?_))
        refine loop1 [(4, 5), (15, 18), (91, 127)] 15 (fun m vi wr => ∃ (q : Nat) (V1 : Vw), vi = .int .i64 q ∧ q ≤ j ∧ m = j - q ∧ VLe V4 V1 ∧ HP 67 31 w0 wr V1 h i (keptN i j) []) _
          ⟨0, V4, rfl, Nat.zero_le _, rfl, VLe.refl _, hH⟩ ?_
        clear hH
        rintro m τ3 vi w ⟨q, V5, rfl, hq, rfl, hV5, hH⟩ K0 hL0
        by_cases hqj : q < j
        · have hta' := hta (by omega)
          subst hta'
          have hv0 : V4 ⟨tb, toff + (q : Int).toNat, none⟩ = some (.int .i64 q) := htel q q (by rw [List.getElem?_map, List.getElem?_range hqj]; rfl)
          (repeat (first | refine seq_ ?_ | refine sq_normal ?_ | refine rl_nil ?_ | refine cond_t rfl ?_ | refine skip_ ?_ | refine block_ ?_ | (refine region_ (id := 22) ?_; (try (refine rl_move (v := (Value.int _ _ : Value)) rfl rfl ?_; (try (refine rl_move (v := (Value.int _ _ : Value)) rfl rfl ?_; (try ((first | (refine rl_lss_t rfl rfl rfl ?_ ?_; omega) | (refine rl_lss_f rfl rfl rfl ?_ ?_; omega))))))))) | (refine region_ (id := 24) ?_; (try (refine rl_move (v := (Value.pointer _ : Value)) rfl rfl ?_; (try (refine rl_move (v := (Value.int _ _ : Value)) rfl rfl ?_)))))))
          refine rl_callf fn16 (get_ok w0 w [] V5 h i q (keptN i j) hH (fun a ha => keptN_short i j 0 a (List.mem_append.2 (.inl ha)))) rfl rfl ?_
          clear hH
          rintro _ w ⟨V6, kv, hV6, ⟨hv, hcs0, hM, hcs⟩, rfl, hkv⟩
          obtain ⟨e1, e2⟩ := keptN_get (n := i) hqj
          rw [e1] at hkv
          rw [e1, e2]
          obtain ⟨ka, kc, _, _, rfl, _⟩ := hkv.open
          rw [show ndCells ⟨1, (i : Int) - 1 - q, [], []⟩ (.slice ka ([] : List Int).length kc) = [.int .i64 1, .int .i64 ((i : Int) - 1 - q), St [], .slice ka 0 kc] from rfl]
          have hv6 : V6 ⟨tb, toff + (q : Int).toNat, none⟩ = some (.int .i64 q) := hV6 _ _ (hV5 _ _ hv0)
          (repeat (first | refine seq_ ?_ | refine sq_normal ?_ | refine rl_nil ?_ | refine cond_f rfl ?_ | refine skip_ ?_ | refine inBlock_normal ?_ | (refine region_ (id := 23) ?_; (try (refine rl_move (v := (Value.int _ _ : Value)) rfl rfl ?_; (try ((refine rl_add rfl rfl rfl ?_ ?_ ?_; omega; omega); (try (refine rl_assign (v := (Value.int _ _ : Value)) rfl rfl ?_))))))) | (refine region_ (id := 25) ?_; (try (refine rl_move (v := (Value.slice _ _ _ : Value)) rfl rfl ?_; (try (refine rl_len sl29 rfl rfl ?_; (try (refine rl_move (v := (Value.int _ _ : Value)) rfl rfl ?_; (try ((first | (refine rl_neq_t rfl rfl rfl ?_ ?_; omega) | (refine rl_neq_f rfl rfl rfl ?_ ?_; omega)); (try (refine rl_move (v := (Value.bool _ : Value)) rfl rfl ?_; (try ((first | refine rl_off rfl ?_ | refine rl_move (v := (Value.slice _ _ _ : Value)) rfl rfl ?_); (try ((first | refine rl_off rfl ?_ | refine rl_move (v := (Value.int _ _ : Value)) rfl rfl ?_); (try ((first | refine rl_off rfl ?_ | (refine rl_idx1 sl29 rfl rfl rfl rfl ?_ ?_ ?_; omega; omega) | (apply rl_idx1 sl29 rfl rfl rfl; assumption; omega; omega)); (try ((first | refine rl_off rfl ?_ | refine rl_loadV hM vt3 rfl rfl (by first | assumption | exact VRow.get (by assumption) rfl | exact VRow.get0 (by assumption) rfl) ?_ | refine rl_loadM 0 hM vt3 rfl rfl rfl (by first | rfl | assumption) ?_ | refine rl_loadM 1 hM vt3 rfl rfl rfl (by first | rfl | assumption) ?_ | refine rl_loadM 2 hM vt3 rfl rfl rfl (by first | rfl | assumption) ?_ | refine rl_loadM 3 hM vt3 rfl rfl rfl (by first | rfl | assumption) ?_ | refine rl_loadM 4 hM vt3 rfl rfl rfl (by first | rfl | assumption) ?_ | refine rl_loadM 5 hM vt3 rfl rfl rfl (by first | rfl | assumption) ?_ | refine rl_loadM 6 hM vt3 rfl rfl rfl (by first | rfl | assumption) ?_ | refine rl_loadM 7 hM vt3 rfl rfl rfl (by first | rfl | assumption) ?_ | refine rl_loadO 0 hM vt3 rfl rfl rfl (by first | assumption | exact ORow.get (by assumption) rfl | exact ORow.get0 (by assumption) rfl) ?_ | refine rl_loadO 1 hM vt3 rfl rfl rfl (by first | assumption | exact ORow.get (by assumption) rfl | exact ORow.get0 (by assumption) rfl) ?_ | refine rl_loadO 2 hM vt3 rfl rfl rfl (by first | assumption | exact ORow.get (by assumption) rfl | exact ORow.get0 (by assumption) rfl) ?_ | refine rl_loadO 3 hM vt3 rfl rfl rfl (by first | assumption | exact ORow.get (by assumption) rfl | exact ORow.get0 (by assumption) rfl) ?_ | refine rl_loadO 4 hM vt3 rfl rfl rfl (by first | assumption | exact ORow.get (by assumption) rfl | exact ORow.get0 (by assumption) rfl) ?_ | refine rl_loadO 5 hM vt3 rfl rfl rfl (by first | assumption | exact ORow.get (by assumption) rfl | exact ORow.get0 (by assumption) rfl) ?_ | refine rl_loadO 6 hM vt3 rfl rfl rfl (by first | assumption | exact ORow.get (by assumption) rfl | exact ORow.get0 (by assumption) rfl) ?_ | refine rl_loadO 7 hM vt3 rfl rfl rfl (by first | assumption | exact ORow.get (by assumption) rfl | exact ORow.get0 (by assumption) rfl) ?_); (try ((first | refine rl_off rfl ?_ | refine rl_move (v := (Value.int _ _ : Value)) rfl rfl ?_); (try ((first | refine rl_off rfl ?_ | (refine rl_neq_t rfl rfl rfl ?_ ?_; omega) | (refine rl_neq_f rfl rfl rfl ?_ ?_; omega)); (try (refine rl_pick (v := (Value.bool _ : Value)) rfl rfl rfl ?_; (try (refine rl_move (v := (Value.bool _ : Value)) rfl rfl ?_; (try ((first | refine rl_off rfl ?_ | refine rl_move (v := (Value.bool _ : Value)) rfl rfl ?_); (try ((first | refine rl_off rfl ?_ | refine rl_not rfl rfl ?_); (try (refine rl_pick (v := (Value.bool _ : Value)) rfl rfl rfl ?_; (try (refine rl_move (v := (Value.bool _ : Value)) rfl rfl ?_; (try ((first | refine rl_off rfl ?_ | refine rl_fld fd31_1 rfl rfl ?_); (try ((first | refine rl_off rfl ?_ | refine rl_loadV hM vt3 rfl rfl (by first | assumption | exact VRow.get (by assumption) rfl | exact VRow.get0 (by assumption) rfl) ?_ | refine rl_loadM 0 hM vt3 rfl rfl rfl (by first | rfl | assumption) ?_ | refine rl_loadM 1 hM vt3 rfl rfl rfl (by first | rfl | assumption) ?_ | refine rl_loadM 2 hM vt3 rfl rfl rfl (by first | rfl | assumption) ?_ | refine rl_loadM 3 hM vt3 rfl rfl rfl (by first | rfl | assumption) ?_ | refine rl_loadM 4 hM vt3 rfl rfl rfl (by first | rfl | assumption) ?_ | refine rl_loadM 5 hM vt3 rfl rfl rfl (by first | rfl | assumption) ?_ | refine rl_loadM 6 hM vt3 rfl rfl rfl (by first | rfl | assumption) ?_ | refine rl_loadM 7 hM vt3 rfl rfl rfl (by first | rfl | assumption) ?_ | refine rl_loadO 0 hM vt3 rfl rfl rfl (by first | assumption | exact ORow.get (by assumption) rfl | exact ORow.get0 (by assumption) rfl) ?_ | refine rl_loadO 1 hM vt3 rfl rfl rfl (by first | assumption | exact ORow.get (by assumption) rfl | exact ORow.get0 (by assumption) rfl) ?_ | refine rl_loadO 2 hM vt3 rfl rfl rfl (by first | assumption | exact ORow.get (by assumption) rfl | exact ORow.get0 (by assumption) rfl) ?_ | refine rl_loadO 3 hM vt3 rfl rfl rfl (by first | assumption | exact ORow.get (by assumption) rfl | exact ORow.get0 (by assumption) rfl) ?_ | refine rl_loadO 4 hM vt3 rfl rfl rfl (by first | assumption | exact ORow.get (by assumption) rfl | exact ORow.get0 (by assumption) rfl) ?_ | refine rl_loadO 5 hM vt3 rfl rfl rfl (by first | assumption | exact ORow.get (by assumption) rfl | exact ORow.get0 (by assumption) rfl) ?_ | refine rl_loadO 6 hM vt3 rfl rfl rfl (by first | assumption | exact ORow.get (by assumption) rfl | exact ORow.get0 (by assumption) rfl) ?_ | refine rl_loadO 7 hM vt3 rfl rfl rfl (by first | assumption | exact ORow.get (by assumption) rfl | exact ORow.get0 (by assumption) rfl) ?_); (try ((first | refine rl_off rfl ?_ | refine rl_move (v := (Value.int _ _ : Value)) rfl rfl ?_); (try ((first | refine rl_off rfl ?_ | (refine rl_sub rfl rfl rfl ?_ ?_ ?_; omega; omega)); (try ((first | refine rl_off rfl ?_ | refine rl_move (v := (Value.int _ _ : Value)) rfl rfl ?_); (try ((first | refine rl_off rfl ?_ | (refine rl_sub rfl rfl rfl ?_ ?_ ?_; omega; omega)); (try ((first | refine rl_off rfl ?_ | (refine rl_neq_t rfl rfl rfl ?_ ?_; omega) | (refine rl_neq_f rfl rfl rfl ?_ ?_; omega)); (try (refine rl_pick (v := (Value.bool _ : Value)) rfl rfl rfl ?_))))))))))))))))))))))))))))))))))))))))))))))))))) | refine rl_assign (v := (Value.bool _ : Value)) rfl rfl ?_ | refine rl_move (v := (Value.tuple _ : Value)) rfl rfl ?_ | refine rl_extract rfl rfl rfl ?_ | (refine rl_allocAM (d := 16) hM ag31 rfl ?_; clear hM; intro w b16 hM) | (first | (refine rl_storeWM 0 hM ag31 rfl rfl rfl rfl rfl rfl rfl ?_; clear hM; intro w hM) | (refine rl_storeWM 1 hM ag31 rfl rfl rfl rfl rfl rfl rfl ?_; clear hM; intro w hM) | (refine rl_storeWM 2 hM ag31 rfl rfl rfl rfl rfl rfl rfl ?_; clear hM; intro w hM) | (refine rl_storeWM 3 hM ag31 rfl rfl rfl rfl rfl rfl rfl ?_; clear hM; intro w hM) | (refine rl_storeWM 4 hM ag31 rfl rfl rfl rfl rfl rfl rfl ?_; clear hM; intro w hM) | (refine rl_storeWM 5 hM ag31 rfl rfl rfl rfl rfl rfl rfl ?_; clear hM; intro w hM) | (refine rl_storeWM 6 hM ag31 rfl rfl rfl rfl rfl rfl rfl ?_; clear hM; intro w hM) | (refine rl_storeWM 7 hM ag31 rfl rfl rfl rfl rfl rfl rfl ?_; clear hM; intro w hM))))
          exact kq_normal (hL0 (j - (q + 1)) _ _ (by omega) (by (repeat (first | with_reducible exact Agree.ov | with_reducible exact Agree.refl _ _ | refine Agree.upd rfl ?_ | refine Agree.ovs rfl ?_))) ⟨q + 1, V6, rfl, by omega, rfl, hV5.trans hV6, ⟨hv, hcs0, hM.dropn 1, hcs⟩⟩)
        · clear hL0
          (repeat (first | refine seq_ ?_ | refine sq_normal ?_ | refine sq_exit ?_ | refine rl_nil ?_ | refine cond_f rfl ?_ | refine exit_ ?_ | refine block_ ?_ | refine inBlock_exit ?_ | refine kq_exit ?_ | (refine region_ (id := 22) ?_; (try (refine rl_move (v := (Value.int _ _ : Value)) rfl rfl ?_; (try (refine rl_move (v := (Value.int _ _ : Value)) rfl rfl ?_; (try ((first | (refine rl_lss_t rfl rfl rfl ?_ ?_; omega) | (refine rl_lss_f rfl rfl rfl ?_ ?_; omega))))))))) | (refine region_ (id := 27) ?_; (try (refine rl_move (v := (Value.int _ _ : Value)) rfl rfl ?_; (try (refine rl_assign (v := (Value.int _ _ : Value)) rfl rfl ?_)))))))
          refine loop1 [(4, 5), (18, 21), (128, 146)] 18 (fun m vi wr => ∃ (q : Nat) (V1 : Vw), vi = .int .i64 q ∧ j ≤ q ∧ q ≤ i ∧ m = i - q ∧ HP 67 31 w0 wr V1 h i (keptN i j ++ List.replicate (q - j) hole) []) _
            ⟨j, V5, rfl, Nat.le_refl _, hk1, rfl, by rw [Nat.sub_self]; simpa using hH⟩ ?_
          clear hH
          rintro m τ4 vi w ⟨q, V6, rfl, hjq, hqi, rfl, hH⟩ K0 hL0
          have hlen : (keptN i j ++ List.replicate (q - j) hole).length = q := by rw [List.length_append, keptN_len, List.length_replicate]; omega
          by_cases hqi' : q < i
          · (repeat (first | refine seq_ ?_ | refine sq_normal ?_ | refine rl_nil ?_ | refine cond_t rfl ?_ | refine skip_ ?_ | refine block_ ?_ | (refine region_ (id := 28) ?_; (try (refine rl_move (v := (Value.int _ _ : Value)) rfl rfl ?_; (try (refine rl_move (v := (Value.int _ _ : Value)) rfl rfl ?_; (try ((first | (refine rl_lss_t rfl rfl rfl ?_ ?_; omega) | (refine rl_lss_f rfl rfl rfl ?_ ?_; omega))))))))) | (refine region_ (id := 30) ?_; (try (refine rl_move (v := (Value.pointer _ : Value)) rfl rfl ?_; (try (refine rl_build [_, (Value.int .i64 0), (St []), (Value.slice none 0 0)] ag31 pl31 rfl rfl rfl ?_)))))))
            refine rl_callf fn13 (alloc_ok w0 w [] V6 h i _ hole (.slice none 0 0) hH (ints_nil V6) (by omega) (by omega)) rfl rfl ?_
            clear hH
            rintro _ w ⟨V7, hV7, hH, rfl⟩
            obtain ⟨e1, e2, e3⟩ := alloc_room (most := i) (hole_right (keptN i j ++ List.replicate (q - j) hole).length) (by omega)
            rw [e1, List.append_assoc, ← List.replicate_succ', show q - j + 1 = q + 1 - j by omega] at hH
            rw [e2, e3, hlen]
            (repeat (first | refine seq_ ?_ | refine sq_normal ?_ | refine rl_nil ?_ | refine cond_f rfl ?_ | refine skip_ ?_ | refine inBlock_normal ?_ | (refine region_ (id := 29) ?_; (try (refine rl_move (v := (Value.int _ _ : Value)) rfl rfl ?_; (try ((refine rl_add rfl rfl rfl ?_ ?_ ?_; omega; omega); (try (refine rl_assign (v := (Value.int _ _ : Value)) rfl rfl ?_))))))) | (refine region_ (id := 31) ?_; (try (refine rl_move (v := (Value.int _ _ : Value)) rfl rfl ?_; (try (refine rl_move (v := (Value.int _ _ : Value)) rfl rfl ?_; (try ((first | (refine rl_neq_t rfl rfl rfl ?_ ?_; omega) | (refine rl_neq_f rfl rfl rfl ?_ ?_; omega)); (try (refine rl_move (v := (Value.bool _ : Value)) rfl rfl ?_; (try ((first | refine rl_off rfl ?_ | refine rl_move (v := (Value.int _ _ : Value)) rfl rfl ?_); (try ((first | refine rl_off rfl ?_ | (refine rl_neq_t rfl rfl rfl ?_ ?_; omega) | (refine rl_neq_f rfl rfl rfl ?_ ?_; omega)); (try (refine rl_pick (v := (Value.bool _ : Value)) rfl rfl rfl ?_))))))))))))))) | refine rl_assign (v := (Value.int _ _ : Value)) rfl rfl ?_ | refine rl_move (v := (Value.tuple _ : Value)) rfl rfl ?_ | refine rl_extract rfl rfl rfl ?_))
            exact kq_normal (hL0 (i - (q + 1)) _ _ (by omega) (by (repeat (first | with_reducible exact Agree.ov | with_reducible exact Agree.refl _ _ | refine Agree.upd rfl ?_ | refine Agree.ovs rfl ?_))) ⟨q + 1, V7, rfl, by omega, by omega, rfl, hH⟩)
          · clear hL0
            (repeat (first | refine seq_ ?_ | refine sq_normal ?_ | refine sq_exit ?_ | refine rl_nil ?_ | refine cond_f rfl ?_ | refine exit_ ?_ | refine inBlock_exit ?_ | refine kq_exit ?_ | (refine region_ (id := 28) ?_; (try (refine rl_move (v := (Value.int _ _ : Value)) rfl rfl ?_; (try (refine rl_move (v := (Value.int _ _ : Value)) rfl rfl ?_; (try ((first | (refine rl_lss_t rfl rfl rfl ?_ ?_; omega) | (refine rl_lss_f rfl rfl rfl ?_ ?_; omega))))))))) | (refine region_ (id := 33) ?_; (try (refine rl_move (v := (Value.pointer _ : Value)) rfl rfl ?_; (try (refine rl_build [_, (Value.int .i64 0), (St []), (Value.slice none 0 0)] ag31 pl31 rfl rfl rfl ?_)))))))
            refine rl_callf fn13 (alloc_ok w0 w [] V6 h i _ hole (.slice none 0 0) hH (ints_nil V6) (by omega) (by omega)) rfl rfl ?_
            clear hH
            rintro _ w ⟨V7, hV7, hH, rfl⟩
            obtain ⟨e1, e2, e3⟩ := alloc_full (most := i) (hole_right (keptN i j ++ List.replicate (q - j) hole).length) (by omega)
            rw [e2, e3]
            (repeat (first | refine seq_ ?_ | refine sq_normal ?_ | refine rl_nil ?_ | (refine region_ (id := 34) ?_; (try (refine rl_move (v := (Value.int _ _ : Value)) rfl rfl ?_; (try ((first | (refine rl_eql_t rfl rfl rfl ?_ ?_; omega) | (refine rl_eql_f rfl rfl rfl ?_ ?_; omega)); (try (refine rl_move (v := (Value.bool _ : Value)) rfl rfl ?_))))))) | refine rl_assign (v := (Value.int _ _ : Value)) rfl rfl ?_ | refine rl_move (v := (Value.tuple _ : Value)) rfl rfl ?_ | refine rl_extract rfl rfl rfl ?_))
            refine rl_callf fn17 (lives_ok w0 w [] V7 (HP.drop hH)) rfl rfl ?_
            rintro _ w ⟨V8, hV8, rfl, hM⟩
            (repeat (first | refine sq_normal ?_ | refine rl_nil ?_ | refine ret_ ?_ | refine rl_assign (v := (Value.bool _ : Value)) rfl rfl ?_ | refine rl_pick (v := (Value.bool _ : Value)) rfl rfl rfl ?_))
            exact bp_ret1 (v := Value.bool _) rfl rfl ⟨rfl, hM.below⟩
  rw [hw0] at key
  exact key
end Go.Proofs.Ytoekjhalcjhegaa.Hep
