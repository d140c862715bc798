/- The walk of fuguelaw03.KindsReads. -/
import Derived.Test.YtkjahcegjplbnaaKinL3
import Derived.Test.YtkjahcegjplbnaaEng18
set_option linter.unusedVariables false
set_option linter.unusedSimpArgs false
namespace Go.Proofs.Ytkjahcegjplbnaa.Kin
open Go Go.Eng Go.RowKit Go.Kn
attribute [local irreducible] RL RX KQ SQ Exit.inBlock Exit.then BP NP CallsOk IsSl IsRows IsInts IsBools Own Blk Code.wp Calls wpList
/-- The texts that are asked. -/
def texts (a b c : List UInt8) : List (List UInt8) := [a, b, c, [], [42, 42], [40, 42, 41], [42, 32, 45, 62, 42], [42, 32, 45, 62, 32], [40, 42, 32, 45, 62, 32, 42, 41], [42, 32, 45, 62, 32, 40, 42, 32, 45, 62, 32, 42, 41], [40, 40, 42, 32, 45, 62, 32, 42, 41, 41, 32, 45, 62, 32, 42]]
theorem texts_none {a b c x : List UInt8} {i : Nat} (h : (texts a b c)[i]? = some x) (hi : 2 < i) : Kd.read x = none := by
  have key : ∀ x ∈ (texts a b c).drop 3, Kd.read x = none := by
    intro x hx
    simp only [texts, List.drop_succ_cons, List.drop_zero, List.mem_cons, List.not_mem_nil, or_false] at hx
    rcases hx with rfl | rfl | rfl | rfl | rfl | rfl | rfl | rfl <;> kernel_rfl
  refine key x (List.mem_iff_getElem?.2 ⟨i - 3, ?_⟩)
  rw [List.getElem?_drop, show 3 + (i - 3) = i by omega]
  exact h
theorem texts_len {a b c x : List UInt8} {i : Nat} (ha : a.length ≤ 1000) (hb : b.length ≤ 1000) (hc : c.length ≤ 1000) (h : (texts a b c)[i]? = some x) : x.length ≤ 1000 := by
  have hx := List.mem_of_getElem? h
  simp only [texts, List.mem_cons, List.not_mem_nil, or_false] at hx
  rcases hx with rfl | rfl | rfl | rfl | rfl | rfl | rfl | rfl | rfl | rfl | rfl <;> first | assumption | decide
set_option maxHeartbeats 4000000 in
theorem law4 (s : List UInt8) (v : Value) (l : List Int) (at_ c : Int) (w : World) (hs : s.length ≤ maxLen) (hI : IsInts w.cell? v l) (hat : I64 at_) (hc : 0 ≤ c ∧ c ≤ 255) : CallsOk Try.prog 4 #[St s, v, .int .i64 at_, .int .u8 c] w fun r w' => r = .bool true ∧ Below w.heap.size w w' := by
  have hml := maxLen_le
  have hM := Mem.init w
  obtain ⟨w0, hw0⟩ : ∃ w0, w0 = w := ⟨_, rfl⟩
  obtain ⟨V, hVd⟩ : ∃ V, V = w.cell? := ⟨_, rfl⟩
  rw [← hVd] at hM hI
  have hM : Mem w0 w [] V := by rw [hw0]; exact hM
  have key : CallsOk Try.prog 4 #[St s, v, .int .i64 at_, .int .u8 c] w fun r w' => r = .bool true ∧ Below w0.heap.size w0 w' := by
    obtain ⟨_, _, _, _, rfl, _⟩ := id hI.open
    refine enter_ (N := 82) Try.func4 rfl rfl rfl ?_
    (repeat (first | refine seq_ ?_ | refine sq_normal ?_ | refine rl_nil ?_ | (refine region_ (id := 0) ?_; (try (refine rl_assign (v := (Value.bool _ : Value)) rfl rfl ?_))) | (refine region_ (id := 1) ?_; (try (refine rl_move (v := (Value.slice _ _ _ : Value)) rfl rfl ?_)))))
    refine rl_callf fn10 (kind_ok l w0 w _ V _ hM hI) rfl rfl ?_
    clear hM
    rintro _ w ⟨V1, v1, hV1, hM, rfl, hk1⟩
    obtain ⟨_, _, rfl⟩ := hk1.shape
    have hsz := kindOf_sz l
    have hpl := Kd.prn_len (kindOf l)
    refine rl_callf fn13 (refprint_ok 100 _ (by omega) w0 w _ V1 _ hM hk1 (by omega)) rfl rfl ?_
    clear hM
    rintro _ w ⟨rfl, hM⟩
    obtain ⟨p, hpd⟩ : ∃ p, p = (kindOf l).prn := ⟨_, rfl⟩
    have hp1 : 1 ≤ p.length := by rw [hpd]; unfold Kd.prn; simp
    rw [← hpd] at hpl ⊢
    clear hpd
    refine rl_s2b hM us9 sl34.und (by kernel_rfl) rfl rfl (by unfold maxLen; omega) ?_
    clear hM
    intro w b19 sp hspl hM
    (repeat (first | refine seq_ ?_ | refine sq_normal ?_ | refine rl_nil ?_ | (refine region_ (id := 2) ?_; (try (refine rl_move (v := (Value.int _ _ : Value)) rfl rfl ?_; (try (refine rl_move (v := (Value.slice _ _ _ : Value)) rfl rfl ?_; (try (refine rl_len sl34 rfl rfl ?_))))))) | refine rl_assign (v := (Value.slice _ _ _ : Value)) rfl rfl ?_))
    refine rl_callf fn16 (around_ok at_ p.length w hat.1 hat.2 (by omega) (by omega)) rfl rfl ?_
    rintro _ _ ⟨rfl, rfl⟩
    have hk := around_lt at_ p.length (by omega)
    obtain ⟨k, hkd⟩ : ∃ k, k = around at_ p.length := ⟨_, rfl⟩
    rw [← hkd] at hk
    rw [← hkd]
    have hk0 : 0 ≤ k := hk.1
    have hkp : k < p.length := hk.2
    clear hkd hk
    have hln : (by8 p ++ sp).length = p.length + sp.length := by rw [List.length_append, by8_len]
    (repeat (first | refine seq_ ?_ | refine sq_normal ?_ | refine rl_nil ?_ | (refine region_ (id := 3) ?_; (try (refine rl_move (v := (Value.slice _ _ _ : Value)) rfl rfl ?_; (try (refine rl_move (v := (Value.int _ _ : Value)) rfl rfl ?_; (try ((refine rl_slice_h sl34 rfl rfl rfl ?_ ?_ ?_ ?_; omega; omega; omega)))))))) | refine rl_assign (v := (Value.int _ _ : Value)) rfl rfl ?_))
    have hrow : ∀ (j : Nat) u, p[j]? = some u → w.cell? ⟨b19, 0 + j, none⟩ = some (.int .u8 u.toNat) := fun j u hj => by
      rw [Nat.zero_add]
      refine hM.cellR (i := 0) rfl ?_
      have hlt := (List.getElem?_eq_some_iff.1 hj).1
      rw [List.getElem?_append_left (by rw [by8_len]; exact hlt)]
      simp [by8, hj]
    refine rl_b2s (p.take k.toNat) sl34.und (by kernel_rfl) us9 rfl rfl (by rw [List.length_take]; omega) (fun j u hj => ?_) ?_
    · rw [List.getElem?_take] at hj
      split at hj
      · exact hrow j u hj
      · cases hj
    (repeat (first | refine seq_ ?_ | refine sq_normal ?_ | refine rl_nil ?_ | (refine region_ (id := 4) ?_; (try (refine rl_move (v := (Value.slice _ _ _ : Value)) rfl rfl ?_; (try (refine rl_move (v := (Value.int _ _ : Value)) rfl rfl ?_; (try (refine rl_move (v := (Value.int _ _ : Value)) rfl rfl ?_; (try ((first | (refine rl_idx1 sl34 rfl rfl rfl rfl ?_ ?_ ?_; omega; omega) | (apply rl_idx1 sl34 rfl rfl rfl; assumption; omega; omega)); (try ((first | (refine rl_storeM 0 hM vt5 rfl rfl rfl rfl rfl (by first | (simp; done) | (simp; omega) | omega) ?_; clear hM; intro w hM) | (refine rl_storeM 1 hM vt5 rfl rfl rfl rfl rfl (by first | (simp; done) | (simp; omega) | omega) ?_; clear hM; intro w hM) | (refine rl_storeM 2 hM vt5 rfl rfl rfl rfl rfl (by first | (simp; done) | (simp; omega) | omega) ?_; clear hM; intro w hM) | (refine rl_storeM 3 hM vt5 rfl rfl rfl rfl rfl (by first | (simp; done) | (simp; omega) | omega) ?_; clear hM; intro w hM) | (refine rl_storeM 4 hM vt5 rfl rfl rfl rfl rfl (by first | (simp; done) | (simp; omega) | omega) ?_; clear hM; intro w hM) | (refine rl_storeM 5 hM vt5 rfl rfl rfl rfl rfl (by first | (simp; done) | (simp; omega) | omega) ?_; clear hM; intro w hM) | (refine rl_storeM 6 hM vt5 rfl rfl rfl rfl rfl (by first | (simp; done) | (simp; omega) | omega) ?_; clear hM; intro w hM) | (refine rl_storeM 7 hM vt5 rfl rfl rfl rfl rfl (by first | (simp; done) | (simp; omega) | omega) ?_; clear hM; intro w hM))))))))))))) | refine rl_assign (v := (Value.string _ : Value)) rfl rfl ?_))
    refine rl_storeR 0 hM vt5 rfl rfl rfl rfl rfl (by omega) (by omega) ?_
    clear hM hrow
    intro w hM
    (repeat (first | refine seq_ ?_ | refine sq_normal ?_ | refine rl_nil ?_))
    -- the bytes with one of them another
    obtain ⟨q, hq⟩ : ∃ q : UInt8, (q.toNat : Int) = c := ⟨UInt8.ofNat c.toNat, by
      rw [UInt8.toNat_ofNat']
      omega⟩
    have hrow : ∀ w' : World, Mem w0 w' ([Ent.row b19 (by8 p ++ sp) 5 ((by8 p ++ sp).length, (by8 p ++ sp).length + 1)].set 0 (Ent.row b19 ((by8 p ++ sp).set (0 + k.toNat) (.int .u8 c)) 5 ((by8 p ++ sp).length, (by8 p ++ sp).length + 1))) V1 →
        ∀ (j : Nat) u, (p.set k.toNat q)[j]? = some u → w'.cell? ⟨b19, 0 + j, none⟩ = some (.int .u8 u.toNat) := fun w' hM j u hj => by
      rw [Nat.zero_add]
      refine hM.cellR (i := 0) rfl ?_
      have hlt := (List.getElem?_eq_some_iff.1 hj).1
      rw [List.length_set] at hlt
      rw [Nat.zero_add, List.getElem?_set]
      rw [List.getElem?_set] at hj
      by_cases hkj : k.toNat = j
      · subst hkj
        rw [if_pos rfl, if_pos (by omega)] at hj
        cases hj
        rw [if_pos rfl, if_pos (by omega), hq]
      · rw [if_neg hkj] at hj
        rw [if_neg hkj, List.getElem?_append_left (by rw [by8_len]; exact hlt)]
        simp [by8, hj]
    (refine drawnM_ 6 [(0, false), (2, false), (3, false), (4, false), (1, true), (5, true)] (fun w => Mem w0 w _ _) hM mo (by kernel_rfl) (fun _ h => h) ?_; clear hM; intro w hM; (try (refine rx_move (v := (Value.string _ : Value)) rfl rfl rfl ?_; (try (refine rx_move (v := (Value.string _ : Value)) rfl rfl rfl ?_; (try (refine rx_move (v := (Value.slice _ _ _ : Value)) rfl rfl rfl ?_)))))))
    refine rx_b2s (p.set k.toNat q) rfl sl34.und (by kernel_rfl) us9 rfl rfl (by rw [List.length_set]) hrow ?_
    refine rx_eff rfl (fun K hK => ?_)
    refine rl_callf fn17 (short_ok s 30 w (by omega) (by omega) (by omega)) rfl rfl ?_
    rintro _ _ ⟨rfl, rfl⟩
    refine rl_nil (kq_normal (hK _ _ hM ?_))
    refine rx_eff rfl (fun K hK => ?_)
    (repeat (first | refine rl_nil ?_ | (refine rl_bsliceM (d := 37) [_, _, _, _, _, _, _, _, _, _, _] hM sl37 rfl rfl rfl rfl rfl (by decide) (by decide) ?_; clear hM; intro w b37 hM)))
    refine kq_normal (hK _ _ (hM.dropn 1) ?_)
    refine rx_nil rfl ?_
    obtain ⟨A, hA⟩ : ∃ A, A = texts (s.take (30 : Int).toNat) (p.take k.toNat) (p.set k.toNat q) := ⟨_, rfl⟩
    have hM : Mem w0 w [.blk b37 (A.map St) 9] V1 := by
      rw [hA]
      exact hM.erase 1
    have hAl : A.length = 11 := by rw [hA]; rfl
    have hA1 : ∀ (i : Nat) x, A[i]? = some x → x.length ≤ 1000 := fun i x hx => by
      rw [hA] at hx
      refine texts_len ?_ ?_ ?_ hx
      · rw [List.length_take]; have : (30 : Int).toNat = 30 := rfl; omega
      · rw [List.length_take]; omega
      · rw [List.length_set]; omega
    have hA2 : ∀ (i : Nat) x, A[i]? = some x → 2 < i → Kd.read x = none := fun i x hx h => by
      rw [hA] at hx
      exact texts_none hx h
    clear hA hrow
    (repeat (first | refine seq_ ?_ | refine sq_normal ?_ | refine rl_nil ?_ | refine block_ ?_ | refine np_normal ?_ | (refine region_ (id := 6) ?_; (try (refine rl_assign (v := (Value.int _ _ : Value)) rfl rfl ?_))) | refine rl_assign (v := (Value.slice _ _ _ : Value)) rfl rfl ?_))
    refine loop1 [(8, 9), (13, 16), (38, 81)] 13 (fun m v wr => ∃ (i : Int) (V2 : Vw), v = .int .i64 i ∧ 0 ≤ i ∧ i ≤ 11 ∧ m = (11 - i).toNat ∧ Mem w0 wr [.blk b37 (A.map St) 9] V2) _
      ⟨0, V1, rfl, by omega, by omega, rfl, hM⟩ ?_
    clear hM
    rintro m τ v w ⟨i, V2, rfl, hi0, hil, rfl, hM⟩ K0 hL0
    by_cases hi : i < 11
    · obtain ⟨x, hx⟩ : ∃ x, A[i.toNat]? = some x := ⟨A[i.toNat]'(by omega), by simp⟩
      have hx1 := hA1 _ _ hx
      have hcx : (A.map St)[0 + i.toNat]? = some (St x) := by rw [Nat.zero_add, List.getElem?_map, hx]; rfl
      (repeat (first | refine seq_ ?_ | refine sq_normal ?_ | refine rl_nil ?_ | refine cond_t rfl ?_ | refine skip_ ?_ | refine block_ ?_ | (refine region_ (id := 7) ?_; (try (refine rl_move (v := (Value.int _ _ : Value)) rfl rfl ?_; (try (refine rl_move (v := (Value.slice _ _ _ : Value)) rfl rfl ?_; (try (refine rl_len sl37 rfl rfl ?_; (try ((first | (refine rl_lss_t rfl rfl rfl ?_ ?_; omega) | (refine rl_lss_f rfl rfl rfl ?_ ?_; omega))))))))))) | (refine region_ (id := 9) ?_; (try (refine rl_move (v := (Value.slice _ _ _ : Value)) rfl rfl ?_; (try (refine rl_move (v := (Value.int _ _ : Value)) rfl rfl ?_; (try ((first | (refine rl_idx1 sl37 rfl rfl rfl rfl ?_ ?_ ?_; omega; omega) | (apply rl_idx1 sl37 rfl rfl rfl; assumption; omega; omega)); (try ((first | refine rl_loadV hM vt9 rfl rfl (by first | assumption | exact VRow.get (by assumption) rfl | exact VRow.get0 (by assumption) rfl) ?_ | refine rl_loadM 0 hM vt9 rfl rfl rfl (by first | rfl | assumption) ?_ | refine rl_loadM 1 hM vt9 rfl rfl rfl (by first | rfl | assumption) ?_ | refine rl_loadM 2 hM vt9 rfl rfl rfl (by first | rfl | assumption) ?_ | refine rl_loadM 3 hM vt9 rfl rfl rfl (by first | rfl | assumption) ?_ | refine rl_loadM 4 hM vt9 rfl rfl rfl (by first | rfl | assumption) ?_ | refine rl_loadM 5 hM vt9 rfl rfl rfl (by first | rfl | assumption) ?_ | refine rl_loadM 6 hM vt9 rfl rfl rfl (by first | rfl | assumption) ?_ | refine rl_loadM 7 hM vt9 rfl rfl rfl (by first | rfl | assumption) ?_))))))))))))
      refine rl_callf fn12 (read_ok x (by omega) w0 w _ V2 hM) rfl rfl ?_
      clear hM
      rintro _ w ⟨V3, v3, hV3, hM, h⟩
      cases hr : Kd.read x with
      | some k =>
        rw [hr] at h
        obtain ⟨rfl, hk⟩ := h
        obtain ⟨_, _, rfl⟩ := hk.shape
        have hkx := Kd.read_some hr
        have hksz : k.sz ≤ 1000 := by
          have := Kd.sz_le_prn k
          rw [← hkx] at hx1
          unfold Kd.prn at hx1
          simp only [List.length_append, List.length_cons, List.length_nil] at hx1
          omega
        have hi2 : ¬ 2 < i := fun h => by
          have := hA2 _ _ hx (by omega)
          rw [hr] at this; cases this
        (repeat (first | refine seq_ ?_ | refine sq_normal ?_ | refine rl_nil ?_ | refine rl_assign (v := (Value.int _ _ : Value)) rfl rfl ?_ | refine rl_move (v := (Value.tuple _ : Value)) rfl rfl ?_ | refine rl_extract rfl rfl rfl ?_ | (refine rl_allocAM (d := 14) hM ag25 rfl ?_; clear hM; intro w b14 hM) | (first | (refine rl_storeWM 0 hM ag25 rfl rfl rfl rfl rfl rfl rfl ?_; clear hM; intro w hM) | (refine rl_storeWM 1 hM ag25 rfl rfl rfl rfl rfl rfl rfl ?_; clear hM; intro w hM) | (refine rl_storeWM 2 hM ag25 rfl rfl rfl rfl rfl rfl rfl ?_; clear hM; intro w hM) | (refine rl_storeWM 3 hM ag25 rfl rfl rfl rfl rfl rfl rfl ?_; clear hM; intro w hM) | (refine rl_storeWM 4 hM ag25 rfl rfl rfl rfl rfl rfl rfl ?_; clear hM; intro w hM) | (refine rl_storeWM 5 hM ag25 rfl rfl rfl rfl rfl rfl rfl ?_; clear hM; intro w hM) | (refine rl_storeWM 6 hM ag25 rfl rfl rfl rfl rfl rfl rfl ?_; clear hM; intro w hM) | (refine rl_storeWM 7 hM ag25 rfl rfl rfl rfl rfl rfl rfl ?_; clear hM; intro w hM))))
        (refine drawnM_ 10 [(0, false), (1, false), (2, false), (3, false), (5, false), (6, false), (7, false), (8, false), (4, true), (9, false)] (fun w => Mem w0 w _ _) hM mo (by kernel_rfl) (fun _ h => h) ?_; clear hM; intro w hM; (try (refine rx_move (v := (Value.int _ _ : Value)) rfl rfl rfl ?_; (try ((first | (refine rx_eql_t rfl rfl rfl rfl ?_ ?_; omega) | (refine rx_eql_f rfl rfl rfl rfl ?_ ?_; omega)); (try (refine rx_move (v := (Value.bool _ : Value)) rfl rfl rfl ?_; (try ((first | refine rx_off rfl rfl ?_ | refine rx_loadAV rfl (fun _ h => h) ag25 rfl rfl (by assumption) (by rfl) ?_ | refine rx_loadAM (vs := [_]) 0 rfl (fun _ h => h) ag25 rfl rfl rfl rfl rfl ?_ | refine rx_loadAM (vs := [_]) 1 rfl (fun _ h => h) ag25 rfl rfl rfl rfl rfl ?_ | refine rx_loadAM (vs := [_]) 2 rfl (fun _ h => h) ag25 rfl rfl rfl rfl rfl ?_ | refine rx_loadAM (vs := [_]) 3 rfl (fun _ h => h) ag25 rfl rfl rfl rfl rfl ?_ | refine rx_loadAM (vs := [_]) 4 rfl (fun _ h => h) ag25 rfl rfl rfl rfl rfl ?_ | refine rx_loadAM (vs := [_]) 5 rfl (fun _ h => h) ag25 rfl rfl rfl rfl rfl ?_ | refine rx_loadAM (vs := [_]) 6 rfl (fun _ h => h) ag25 rfl rfl rfl rfl rfl ?_ | refine rx_loadAM (vs := [_]) 7 rfl (fun _ h => h) ag25 rfl rfl rfl rfl rfl ?_); (try ((first | refine rx_off rfl rfl ?_ | refine rx_move (v := (Value.slice _ _ _ : Value)) rfl rfl rfl ?_); (try ((first | refine rx_off rfl rfl ?_ | refine rx_move (v := (Value.int _ _ : Value)) rfl rfl rfl ?_); (try ((first | refine rx_off rfl rfl ?_ | (refine rx_idx1 rfl sl37 rfl rfl rfl rfl ?_ ?_ ?_; omega; omega) | (apply rx_idx1 rfl sl37 rfl rfl rfl; assumption; omega; omega)); (try ((first | refine rx_off rfl rfl ?_ | refine rx_loadV rfl (fun _ h => h) vt9 rfl rfl (by first | assumption | exact VRow.get (by assumption) rfl | exact VRow.get0 (by assumption) rfl) ?_ | refine rx_loadM 0 rfl (fun _ h => h) vt9 rfl rfl rfl (by first | rfl | assumption) ?_ | refine rx_loadM 1 rfl (fun _ h => h) vt9 rfl rfl rfl (by first | rfl | assumption) ?_ | refine rx_loadM 2 rfl (fun _ h => h) vt9 rfl rfl rfl (by first | rfl | assumption) ?_ | refine rx_loadM 3 rfl (fun _ h => h) vt9 rfl rfl rfl (by first | rfl | assumption) ?_ | refine rx_loadM 4 rfl (fun _ h => h) vt9 rfl rfl rfl (by first | rfl | assumption) ?_ | refine rx_loadM 5 rfl (fun _ h => h) vt9 rfl rfl rfl (by first | rfl | assumption) ?_ | refine rx_loadM 6 rfl (fun _ h => h) vt9 rfl rfl rfl (by first | rfl | assumption) ?_ | refine rx_loadM 7 rfl (fun _ h => h) vt9 rfl rfl rfl (by first | rfl | assumption) ?_))))))))))))))))))
        refine rx_eff rfl (fun K hK => ?_)
        refine rl_callf fn13 (refprint_ok 10000 _ (by omega) w0 w _ V3 _ hM hk (by omega)) rfl rfl ?_
        clear hM
        rintro _ w ⟨rfl, hM⟩
        refine rl_nil (kq_normal (hK _ _ hM ?_))
        (try ((first | refine rx_off rfl rfl ?_ | refine rx_sneq_f rfl rfl rfl rfl (by first | rfl | assumption) ?_ | refine rx_sneq_t rfl rfl rfl rfl (by first | assumption | decide) ?_)))
        refine rx_nil rfl ?_
        (repeat (first | refine seq_ ?_ | refine sq_normal ?_ | refine rl_nil ?_ | refine cond_f rfl ?_ | refine skip_ ?_ | refine inBlock_normal ?_ | refine np_normal ?_ | (refine region_ (id := 8) ?_; (try (refine rl_move (v := (Value.int _ _ : Value)) rfl rfl ?_; (try ((refine rl_add rfl rfl rfl ?_ ?_ ?_; omega; omega); (try (refine rl_assign (v := (Value.int _ _ : Value)) rfl rfl ?_))))))) | (refine region_ (id := 12) ?_; (try (refine rl_move (v := (Value.int _ _ : Value)) rfl rfl ?_; (try ((first | (refine rl_neq_t rfl rfl rfl ?_ ?_; omega) | (refine rl_neq_f rfl rfl rfl ?_ ?_; omega)); (try (refine rl_move (v := (Value.bool _ : Value)) rfl rfl ?_; (try ((first | refine rl_off rfl ?_ | refine rl_move (v := (Value.int _ _ : Value)) rfl rfl ?_); (try ((first | refine rl_off rfl ?_ | (refine rl_neq_t rfl rfl rfl ?_ ?_; omega) | (refine rl_neq_f rfl rfl rfl ?_ ?_; omega)); (try ((first | refine rl_off rfl ?_ | refine rl_move (v := (Value.bool _ : Value)) rfl rfl ?_); (try ((first | refine rl_off rfl ?_ | refine rl_fld fd25_0 rfl rfl ?_); (try ((first | refine rl_off rfl ?_ | refine rl_loadV hM vt23 rfl rfl (by first | assumption | exact VRow.get (by assumption) rfl | exact VRow.get0 (by assumption) rfl) ?_ | refine rl_loadM 0 hM vt23 rfl rfl rfl (by first | rfl | assumption) ?_ | refine rl_loadM 1 hM vt23 rfl rfl rfl (by first | rfl | assumption) ?_ | refine rl_loadM 2 hM vt23 rfl rfl rfl (by first | rfl | assumption) ?_ | refine rl_loadM 3 hM vt23 rfl rfl rfl (by first | rfl | assumption) ?_ | refine rl_loadM 4 hM vt23 rfl rfl rfl (by first | rfl | assumption) ?_ | refine rl_loadM 5 hM vt23 rfl rfl rfl (by first | rfl | assumption) ?_ | refine rl_loadM 6 hM vt23 rfl rfl rfl (by first | rfl | assumption) ?_ | refine rl_loadM 7 hM vt23 rfl rfl rfl (by first | rfl | assumption) ?_); (try ((first | refine rl_off rfl ?_ | refine rl_len sl23 rfl rfl ?_); (try ((first | refine rl_off rfl ?_ | (refine rl_neq_t rfl rfl rfl ?_ ?_; omega) | (refine rl_neq_f rfl rfl rfl ?_ ?_; omega)); (try ((first | refine rl_off rfl ?_ | refine rl_pick (v := (Value.bool _ : Value)) rfl rfl rfl ?_); (try (refine rl_pick (v := (Value.bool _ : Value)) rfl rfl rfl ?_))))))))))))))))))))))))) | (refine region_ (id := 14) ?_; (try (refine rl_move (v := (Value.int _ _ : Value)) rfl rfl ?_; (try ((first | (refine rl_gtr_t rfl rfl rfl ?_ ?_; omega) | (refine rl_gtr_f rfl rfl rfl ?_ ?_; omega)); (try (refine rl_move (v := (Value.bool _ : Value)) rfl rfl ?_; (try ((first | refine rl_off rfl ?_ | refine rl_move (v := (Value.int _ _ : Value)) rfl rfl ?_); (try ((first | refine rl_off rfl ?_ | (refine rl_eql_t rfl rfl rfl ?_ ?_; omega) | (refine rl_eql_f rfl rfl rfl ?_ ?_; omega)); (try (refine rl_pick (v := (Value.bool _ : Value)) rfl rfl rfl ?_))))))))))))) | refine rl_pick (v := (Value.bool _ : Value)) rfl rfl rfl ?_))
        exact kq_normal (hL0 (11 - (i + 1)).toNat _ _ (by omega) (by (repeat (first | with_reducible exact Agree.ov | with_reducible exact Agree.refl _ _ | refine Agree.upd rfl ?_ | refine Agree.ovs rfl ?_))) ⟨i + 1, V3, rfl, by omega, by omega, rfl, hM.dropn 1⟩)
      | none =>
        rw [hr] at h
        obtain ⟨rfl, hk⟩ := h
        obtain ⟨_, _, rfl⟩ := hk.shape
        have hq0 : ((Kd.nil.len : Nat) : Int) = 0 := rfl
        (repeat (first | refine seq_ ?_ | refine sq_normal ?_ | refine rl_nil ?_ | refine rl_assign (v := (Value.int _ _ : Value)) rfl rfl ?_ | refine rl_move (v := (Value.tuple _ : Value)) rfl rfl ?_ | refine rl_extract rfl rfl rfl ?_ | (refine rl_allocAM (d := 14) hM ag25 rfl ?_; clear hM; intro w b14 hM) | (first | (refine rl_storeWM 0 hM ag25 rfl rfl rfl rfl rfl rfl rfl ?_; clear hM; intro w hM) | (refine rl_storeWM 1 hM ag25 rfl rfl rfl rfl rfl rfl rfl ?_; clear hM; intro w hM) | (refine rl_storeWM 2 hM ag25 rfl rfl rfl rfl rfl rfl rfl ?_; clear hM; intro w hM) | (refine rl_storeWM 3 hM ag25 rfl rfl rfl rfl rfl rfl rfl ?_; clear hM; intro w hM) | (refine rl_storeWM 4 hM ag25 rfl rfl rfl rfl rfl rfl rfl ?_; clear hM; intro w hM) | (refine rl_storeWM 5 hM ag25 rfl rfl rfl rfl rfl rfl rfl ?_; clear hM; intro w hM) | (refine rl_storeWM 6 hM ag25 rfl rfl rfl rfl rfl rfl rfl ?_; clear hM; intro w hM) | (refine rl_storeWM 7 hM ag25 rfl rfl rfl rfl rfl rfl rfl ?_; clear hM; intro w hM))))
        (refine drawnM_ 10 [(0, false), (1, false), (2, false), (3, false), (5, false), (6, false), (7, false), (8, false), (4, true), (9, false)] (fun w => Mem w0 w _ _) hM mo (by kernel_rfl) (fun _ h => h) ?_; clear hM; intro w hM; (try (refine rx_move (v := (Value.int _ _ : Value)) rfl rfl rfl ?_; (try ((first | (refine rx_eql_t rfl rfl rfl rfl ?_ ?_; omega) | (refine rx_eql_f rfl rfl rfl rfl ?_ ?_; omega)); (try (refine rx_move (v := (Value.bool _ : Value)) rfl rfl rfl ?_; (try ((first | refine rx_off rfl rfl ?_ | refine rx_loadAV rfl (fun _ h => h) ag25 rfl rfl (by assumption) (by rfl) ?_ | refine rx_loadAM (vs := [_]) 0 rfl (fun _ h => h) ag25 rfl rfl rfl rfl rfl ?_ | refine rx_loadAM (vs := [_]) 1 rfl (fun _ h => h) ag25 rfl rfl rfl rfl rfl ?_ | refine rx_loadAM (vs := [_]) 2 rfl (fun _ h => h) ag25 rfl rfl rfl rfl rfl ?_ | refine rx_loadAM (vs := [_]) 3 rfl (fun _ h => h) ag25 rfl rfl rfl rfl rfl ?_ | refine rx_loadAM (vs := [_]) 4 rfl (fun _ h => h) ag25 rfl rfl rfl rfl rfl ?_ | refine rx_loadAM (vs := [_]) 5 rfl (fun _ h => h) ag25 rfl rfl rfl rfl rfl ?_ | refine rx_loadAM (vs := [_]) 6 rfl (fun _ h => h) ag25 rfl rfl rfl rfl rfl ?_ | refine rx_loadAM (vs := [_]) 7 rfl (fun _ h => h) ag25 rfl rfl rfl rfl rfl ?_); (try ((first | refine rx_off rfl rfl ?_ | refine rx_move (v := (Value.slice _ _ _ : Value)) rfl rfl rfl ?_); (try ((first | refine rx_off rfl rfl ?_ | refine rx_move (v := (Value.int _ _ : Value)) rfl rfl rfl ?_); (try ((first | refine rx_off rfl rfl ?_ | (refine rx_idx1 rfl sl37 rfl rfl rfl rfl ?_ ?_ ?_; omega; omega) | (apply rx_idx1 rfl sl37 rfl rfl rfl; assumption; omega; omega)); (try ((first | refine rx_off rfl rfl ?_ | refine rx_loadV rfl (fun _ h => h) vt9 rfl rfl (by first | assumption | exact VRow.get (by assumption) rfl | exact VRow.get0 (by assumption) rfl) ?_ | refine rx_loadM 0 rfl (fun _ h => h) vt9 rfl rfl rfl (by first | rfl | assumption) ?_ | refine rx_loadM 1 rfl (fun _ h => h) vt9 rfl rfl rfl (by first | rfl | assumption) ?_ | refine rx_loadM 2 rfl (fun _ h => h) vt9 rfl rfl rfl (by first | rfl | assumption) ?_ | refine rx_loadM 3 rfl (fun _ h => h) vt9 rfl rfl rfl (by first | rfl | assumption) ?_ | refine rx_loadM 4 rfl (fun _ h => h) vt9 rfl rfl rfl (by first | rfl | assumption) ?_ | refine rx_loadM 5 rfl (fun _ h => h) vt9 rfl rfl rfl (by first | rfl | assumption) ?_ | refine rx_loadM 6 rfl (fun _ h => h) vt9 rfl rfl rfl (by first | rfl | assumption) ?_ | refine rx_loadM 7 rfl (fun _ h => h) vt9 rfl rfl rfl (by first | rfl | assumption) ?_))))))))))))))))))
        refine rx_eff rfl (fun K hK => ?_)
        refine rl_off rfl ?_
        refine rl_nil (kq_normal (hK _ _ hM ?_))
        (try ((first | refine rx_off rfl rfl ?_ | refine rx_sneq_f rfl rfl rfl rfl (by first | rfl | assumption) ?_ | refine rx_sneq_t rfl rfl rfl rfl (by first | assumption | decide) ?_)))
        refine rx_nil rfl ?_
        by_cases hi2 : 2 < i
        · (repeat (first | refine seq_ ?_ | refine sq_normal ?_ | refine rl_nil ?_ | refine cond_f rfl ?_ | refine skip_ ?_ | refine inBlock_normal ?_ | refine np_normal ?_ | (refine region_ (id := 8) ?_; (try (refine rl_move (v := (Value.int _ _ : Value)) rfl rfl ?_; (try ((refine rl_add rfl rfl rfl ?_ ?_ ?_; omega; omega); (try (refine rl_assign (v := (Value.int _ _ : Value)) rfl rfl ?_))))))) | (refine region_ (id := 12) ?_; (try (refine rl_move (v := (Value.int _ _ : Value)) rfl rfl ?_; (try ((first | (refine rl_neq_t rfl rfl rfl ?_ ?_; omega) | (refine rl_neq_f rfl rfl rfl ?_ ?_; omega)); (try (refine rl_move (v := (Value.bool _ : Value)) rfl rfl ?_; (try ((first | refine rl_off rfl ?_ | refine rl_move (v := (Value.int _ _ : Value)) rfl rfl ?_); (try ((first | refine rl_off rfl ?_ | (refine rl_neq_t rfl rfl rfl ?_ ?_; omega) | (refine rl_neq_f rfl rfl rfl ?_ ?_; omega)); (try ((first | refine rl_off rfl ?_ | refine rl_move (v := (Value.bool _ : Value)) rfl rfl ?_); (try ((first | refine rl_off rfl ?_ | refine rl_fld fd25_0 rfl rfl ?_); (try ((first | refine rl_off rfl ?_ | refine rl_loadV hM vt23 rfl rfl (by first | assumption | exact VRow.get (by assumption) rfl | exact VRow.get0 (by assumption) rfl) ?_ | refine rl_loadM 0 hM vt23 rfl rfl rfl (by first | rfl | assumption) ?_ | refine rl_loadM 1 hM vt23 rfl rfl rfl (by first | rfl | assumption) ?_ | refine rl_loadM 2 hM vt23 rfl rfl rfl (by first | rfl | assumption) ?_ | refine rl_loadM 3 hM vt23 rfl rfl rfl (by first | rfl | assumption) ?_ | refine rl_loadM 4 hM vt23 rfl rfl rfl (by first | rfl | assumption) ?_ | refine rl_loadM 5 hM vt23 rfl rfl rfl (by first | rfl | assumption) ?_ | refine rl_loadM 6 hM vt23 rfl rfl rfl (by first | rfl | assumption) ?_ | refine rl_loadM 7 hM vt23 rfl rfl rfl (by first | rfl | assumption) ?_); (try ((first | refine rl_off rfl ?_ | refine rl_len sl23 rfl rfl ?_); (try ((first | refine rl_off rfl ?_ | (refine rl_neq_t rfl rfl rfl ?_ ?_; omega) | (refine rl_neq_f rfl rfl rfl ?_ ?_; omega)); (try ((first | refine rl_off rfl ?_ | refine rl_pick (v := (Value.bool _ : Value)) rfl rfl rfl ?_); (try (refine rl_pick (v := (Value.bool _ : Value)) rfl rfl rfl ?_))))))))))))))))))))))))) | (refine region_ (id := 14) ?_; (try (refine rl_move (v := (Value.int _ _ : Value)) rfl rfl ?_; (try ((first | (refine rl_gtr_t rfl rfl rfl ?_ ?_; omega) | (refine rl_gtr_f rfl rfl rfl ?_ ?_; omega)); (try (refine rl_move (v := (Value.bool _ : Value)) rfl rfl ?_; (try ((first | refine rl_off rfl ?_ | refine rl_move (v := (Value.int _ _ : Value)) rfl rfl ?_); (try ((first | refine rl_off rfl ?_ | (refine rl_eql_t rfl rfl rfl ?_ ?_; omega) | (refine rl_eql_f rfl rfl rfl ?_ ?_; omega)); (try (refine rl_pick (v := (Value.bool _ : Value)) rfl rfl rfl ?_))))))))))))) | refine rl_pick (v := (Value.bool _ : Value)) rfl rfl rfl ?_))
          exact kq_normal (hL0 (11 - (i + 1)).toNat _ _ (by omega) (by (repeat (first | with_reducible exact Agree.ov | with_reducible exact Agree.refl _ _ | refine Agree.upd rfl ?_ | refine Agree.ovs rfl ?_))) ⟨i + 1, V3, rfl, by omega, by omega, rfl, hM.dropn 1⟩)
        · (repeat (first | refine seq_ ?_ | refine sq_normal ?_ | refine rl_nil ?_ | refine cond_f rfl ?_ | refine skip_ ?_ | refine inBlock_normal ?_ | refine np_normal ?_ | (refine region_ (id := 8) ?_; (try (refine rl_move (v := (Value.int _ _ : Value)) rfl rfl ?_; (try ((refine rl_add rfl rfl rfl ?_ ?_ ?_; omega; omega); (try (refine rl_assign (v := (Value.int _ _ : Value)) rfl rfl ?_))))))) | (refine region_ (id := 12) ?_; (try (refine rl_move (v := (Value.int _ _ : Value)) rfl rfl ?_; (try ((first | (refine rl_neq_t rfl rfl rfl ?_ ?_; omega) | (refine rl_neq_f rfl rfl rfl ?_ ?_; omega)); (try (refine rl_move (v := (Value.bool _ : Value)) rfl rfl ?_; (try ((first | refine rl_off rfl ?_ | refine rl_move (v := (Value.int _ _ : Value)) rfl rfl ?_); (try ((first | refine rl_off rfl ?_ | (refine rl_neq_t rfl rfl rfl ?_ ?_; omega) | (refine rl_neq_f rfl rfl rfl ?_ ?_; omega)); (try ((first | refine rl_off rfl ?_ | refine rl_move (v := (Value.bool _ : Value)) rfl rfl ?_); (try ((first | refine rl_off rfl ?_ | refine rl_fld fd25_0 rfl rfl ?_); (try ((first | refine rl_off rfl ?_ | refine rl_loadV hM vt23 rfl rfl (by first | assumption | exact VRow.get (by assumption) rfl | exact VRow.get0 (by assumption) rfl) ?_ | refine rl_loadM 0 hM vt23 rfl rfl rfl (by first | rfl | assumption) ?_ | refine rl_loadM 1 hM vt23 rfl rfl rfl (by first | rfl | assumption) ?_ | refine rl_loadM 2 hM vt23 rfl rfl rfl (by first | rfl | assumption) ?_ | refine rl_loadM 3 hM vt23 rfl rfl rfl (by first | rfl | assumption) ?_ | refine rl_loadM 4 hM vt23 rfl rfl rfl (by first | rfl | assumption) ?_ | refine rl_loadM 5 hM vt23 rfl rfl rfl (by first | rfl | assumption) ?_ | refine rl_loadM 6 hM vt23 rfl rfl rfl (by first | rfl | assumption) ?_ | refine rl_loadM 7 hM vt23 rfl rfl rfl (by first | rfl | assumption) ?_); (try ((first | refine rl_off rfl ?_ | refine rl_len sl23 rfl rfl ?_); (try ((first | refine rl_off rfl ?_ | (refine rl_neq_t rfl rfl rfl ?_ ?_; omega) | (refine rl_neq_f rfl rfl rfl ?_ ?_; omega)); (try ((first | refine rl_off rfl ?_ | refine rl_pick (v := (Value.bool _ : Value)) rfl rfl rfl ?_); (try (refine rl_pick (v := (Value.bool _ : Value)) rfl rfl rfl ?_))))))))))))))))))))))))) | (refine region_ (id := 14) ?_; (try (refine rl_move (v := (Value.int _ _ : Value)) rfl rfl ?_; (try ((first | (refine rl_gtr_t rfl rfl rfl ?_ ?_; omega) | (refine rl_gtr_f rfl rfl rfl ?_ ?_; omega)); (try (refine rl_move (v := (Value.bool _ : Value)) rfl rfl ?_; (try ((first | refine rl_off rfl ?_ | refine rl_move (v := (Value.int _ _ : Value)) rfl rfl ?_); (try ((first | refine rl_off rfl ?_ | (refine rl_eql_t rfl rfl rfl ?_ ?_; omega) | (refine rl_eql_f rfl rfl rfl ?_ ?_; omega)); (try (refine rl_pick (v := (Value.bool _ : Value)) rfl rfl rfl ?_))))))))))))) | refine rl_pick (v := (Value.bool _ : Value)) rfl rfl rfl ?_))
          exact kq_normal (hL0 (11 - (i + 1)).toNat _ _ (by omega) (by (repeat (first | with_reducible exact Agree.ov | with_reducible exact Agree.refl _ _ | refine Agree.upd rfl ?_ | refine Agree.ovs rfl ?_))) ⟨i + 1, V3, rfl, by omega, by omega, rfl, hM.dropn 1⟩)
    · (repeat (first | refine seq_ ?_ | refine sq_normal ?_ | refine sq_exit ?_ | refine rl_nil ?_ | refine cond_f rfl ?_ | refine exit_ ?_ | refine inBlock_exit ?_ | refine kq_exit ?_ | (refine region_ (id := 7) ?_; (try (refine rl_move (v := (Value.int _ _ : Value)) rfl rfl ?_; (try (refine rl_move (v := (Value.slice _ _ _ : Value)) rfl rfl ?_; (try (refine rl_len sl37 rfl rfl ?_; (try ((first | (refine rl_lss_t rfl rfl rfl ?_ ?_; omega) | (refine rl_lss_f rfl rfl rfl ?_ ?_; omega))))))))))) | (refine region_ (id := 16) ?_)))
      refine rl_callf fn15 (lives_ok w0 w _ V2 hM) rfl rfl ?_
      clear hM
      rintro _ w ⟨rfl, V3, hV3, hM⟩
      (repeat (first | refine sq_normal ?_ | refine rl_nil ?_ | refine ret_ ?_ | refine rl_assign (v := (Value.bool _ : Value)) rfl rfl ?_))
      exact bp_ret1 (v := Value.bool _) rfl rfl ⟨rfl, hM.below⟩
  rw [hw0] at key
  exact key
end Go.Proofs.Ytkjahcegjplbnaa.Kin
