/- The walk of fuguelaw01.CharsScans. -/
import Derived.Test.YtbcplbkjeinplaaDoorChrL7
set_option linter.unusedVariables false
set_option linter.unusedSimpArgs false
namespace Go.Proofs.YtbcplbkjeinplaaDoor.Chr
open Go Go.Eng Go.RowKit Go.Lx
attribute [local irreducible] RL RX KQ SQ Exit.inBlock Exit.then BP NP CallsOk IsSl IsRows IsInts IsBools Own Blk Code.wp Calls wpList
set_option maxHeartbeats 4000000 in
theorem law8 (s t : List UInt8) (at_ c : Int) (w : World) (hs : s.length ≤ maxLen) (ht : t.length ≤ maxLen) (hat : I64 at_) (hc : 0 ≤ c ∧ c ≤ 255) (hL : laidMetH Tryd.prog Rows.charsScansRow.laid w) : CallsOk Tryd.prog 8 #[St s, St t, .int .i64 at_, .int .u8 c] w fun r w' => r = .bool true ∧ Below w.heap.size w w' := by
  have hml := maxLen_le
  have hL' : laidMetH Tryd.prog Rows.charsPrintsRow.laid w := hL
  have hE := err_of hL'
  clear hL hL'
  have hM := Mem.init w
  obtain ⟨w0, hw0⟩ : ∃ w0, w0 = w := ⟨_, rfl⟩
  obtain ⟨V, hVd⟩ : ∃ V, V = w.cell? := ⟨_, rfl⟩
  rw [← hVd] at hM hE
  have hM : Mem w0 w [] V := by rw [hw0]; exact hM
  obtain ⟨qc, hqc⟩ : ∃ q : UInt8, (q.toNat : Int) = c := ⟨UInt8.ofNat c.toNat, by rw [UInt8.toNat_ofNat']; omega⟩
  have key : CallsOk Tryd.prog 8 #[St s, St t, .int .i64 at_, .int .u8 c] w fun r w' => r = .bool true ∧ Below w0.heap.size w0 w' := by
    clear hVd hw0
    subst hqc
    refine enter_ (N := 71) Tryd.func8 rfl rfl rfl ?_
    (repeat (first | refine seq_ ?_ | refine sq_normal ?_ | refine rl_nil ?_ | (refine region_ (id := 0) ?_; (try (refine rl_assign (v := (Value.bool _ : Value)) rfl rfl ?_))) | (refine region_ (id := 1) ?_; (try (refine rl_move (v := (Value.string _ : Value)) rfl rfl ?_)))))
    refine rl_callf fn10 (short_ok t 15 w (by omega) (by omega) (by omega)) rfl rfl ?_
    rintro _ w ⟨rfl, rfl⟩
    obtain ⟨u, hu⟩ : ∃ u, u = t.take (15 : Int).toNat := ⟨_, rfl⟩
    rw [← hu]
    have hul : u.length ≤ 15 := by rw [hu, List.length_take]; omega
    clear hu
    skip
    refine rl_callf fn23 (refprint_ok u w0 w _ V hM (by omega)) rfl rfl ?_
    clear hM
    rintro _ w ⟨rfl, hM⟩
    obtain ⟨p, hp⟩ : ∃ p, p = printP u := ⟨_, rfl⟩
    rw [← hp]
    have hpl : p.length ≤ 46 := by have := printP_len u; rw [hp]; omega
    have hp0 : 0 < p.length := by
      rw [hp, printP]
      split
      · decide
      · rename_i hne; exact List.length_pos_iff.2 (flat_ne hne)
    clear hp
    skip
    refine rl_s2b hM us9 sl23.und (by kernel_rfl) rfl rfl (by unfold maxLen; omega) ?_
    clear hM
    intro w bb sp hsp hM
    have hcl : (by8 p ++ sp).length = p.length + sp.length := by rw [List.length_append, by8_len]
    (repeat (first | refine seq_ ?_ | refine sq_normal ?_ | refine rl_nil ?_ | (refine region_ (id := 2) ?_; (try (refine rl_move (v := (Value.int _ _ : Value)) rfl rfl ?_; (try (refine rl_move (v := (Value.slice _ _ _ : Value)) rfl rfl ?_; (try (refine rl_len sl23 rfl rfl ?_))))))) | refine rl_assign (v := (Value.slice _ _ _ : Value)) rfl rfl ?_))
    refine rl_callf fn9 (around_ok at_ p.length w hat.1 hat.2 (by omega) (by omega)) rfl rfl ?_
    rintro _ w ⟨rfl, rfl⟩
    have hk := around_lt at_ p.length (by omega)
    obtain ⟨k, hkd⟩ : ∃ k : Nat, around at_ p.length = (k : Int) := ⟨(around at_ p.length).toNat, by omega⟩
    rw [hkd] at hk ⊢
    clear hkd
    (repeat (first | refine seq_ ?_ | refine sq_normal ?_ | refine rl_nil ?_ | (refine region_ (id := 3) ?_; (try (refine rl_move (v := (Value.slice _ _ _ : Value)) rfl rfl ?_; (try (refine rl_move (v := (Value.int _ _ : Value)) rfl rfl ?_; (try ((refine rl_slice_h sl23 rfl rfl rfl ?_ ?_ ?_ ?_; omega; omega; omega)))))))) | refine rl_assign (v := (Value.int _ _ : Value)) rfl rfl ?_))
    refine rl_b2s (p.take k) sl23.und (by kernel_rfl) us9 rfl rfl (by rw [List.length_take]; omega) (fun j x hj => hM.cellR (i := 0) rfl (by
      rw [List.getElem?_take] at hj
      split at hj
      · rw [Nat.zero_add, List.getElem?_append_left (by rw [by8_len]; omega)]; exact by8_get hj
      · cases hj)) ?_
    (repeat (first | refine seq_ ?_ | refine sq_normal ?_ | refine rl_nil ?_ | (refine region_ (id := 4) ?_; (try (refine rl_move (v := (Value.slice _ _ _ : Value)) rfl rfl ?_; (try (refine rl_move (v := (Value.int _ _ : Value)) rfl rfl ?_; (try (refine rl_move (v := (Value.int _ _ : Value)) rfl rfl ?_; (try ((first | (refine rl_idx1 sl23 rfl rfl rfl rfl ?_ ?_ ?_; omega; omega) | (apply rl_idx1 sl23 rfl rfl rfl; assumption; omega; omega)); (try ((first | (refine rl_storeM 0 hM vt5 rfl rfl rfl rfl rfl (by first | (simp; done) | (simp; omega) | omega) ?_; clear hM; intro w hM) | (refine rl_storeM 1 hM vt5 rfl rfl rfl rfl rfl (by first | (simp; done) | (simp; omega) | omega) ?_; clear hM; intro w hM) | (refine rl_storeM 2 hM vt5 rfl rfl rfl rfl rfl (by first | (simp; done) | (simp; omega) | omega) ?_; clear hM; intro w hM) | (refine rl_storeM 3 hM vt5 rfl rfl rfl rfl rfl (by first | (simp; done) | (simp; omega) | omega) ?_; clear hM; intro w hM) | (refine rl_storeM 4 hM vt5 rfl rfl rfl rfl rfl (by first | (simp; done) | (simp; omega) | omega) ?_; clear hM; intro w hM) | (refine rl_storeM 5 hM vt5 rfl rfl rfl rfl rfl (by first | (simp; done) | (simp; omega) | omega) ?_; clear hM; intro w hM) | (refine rl_storeM 6 hM vt5 rfl rfl rfl rfl rfl (by first | (simp; done) | (simp; omega) | omega) ?_; clear hM; intro w hM) | (refine rl_storeM 7 hM vt5 rfl rfl rfl rfl rfl (by first | (simp; done) | (simp; omega) | omega) ?_; clear hM; intro w hM))))))))))))) | refine rl_assign (v := (Value.string _ : Value)) rfl rfl ?_))
    refine rl_storeR 0 hM vt5 rfl rfl rfl rfl rfl (by omega) (by omega) ?_
    clear hM
    intro w hM
    have hM : Mem w0 w (.row bb ((by8 p ++ sp).set (0 + (k : Int).toNat) (.int .u8 qc.toNat)) 5 ((by8 p ++ sp).length, (by8 p ++ sp).length + 1) :: []) V := hM
    rw [Nat.zero_add, show (k : Int).toNat = k from rfl, List.set_append_left _ _ (by rw [by8_len]; omega), by8_set] at hM
    refine rl_nil (sq_normal ?_)
    have hql : (p.set k qc).length = p.length := List.length_set
    have hcx : ∀ w : World, Mem w0 w (.row bb (by8 (p.set k qc) ++ sp) 5 ((by8 p ++ sp).length, (by8 p ++ sp).length + 1) :: []) V → ∀ (j : Nat) u, (p.set k qc)[j]? = some u → w.cell? ⟨bb, 0 + j, none⟩ = some (.int .u8 u.toNat) := fun w h j u hj => by
      rw [Nat.zero_add]
      refine h.cellR (i := 0) rfl ?_
      rw [List.getElem?_append_left (by rw [by8_len]; exact (List.getElem?_eq_some_iff.1 hj).1)]
      exact by8_get hj
    (repeat (first | refine seq_ ?_))
    (refine drawnM_ 5 [(0, false), (2, false), (3, false), (4, false), (1, true)] (fun w => Mem w0 w _ _) hM mo (by kernel_rfl) (fun _ h => h) ?_; clear hM; intro w hM; (try (refine rx_move (v := (Value.string _ : Value)) rfl rfl rfl ?_; (try (refine rx_move (v := (Value.string _ : Value)) rfl rfl rfl ?_; (try (refine rx_move (v := (Value.slice _ _ _ : Value)) rfl rfl rfl ?_)))))))
    refine rx_b2s (p.set k qc) rfl sl23.und (by kernel_rfl) us9 rfl rfl hql.symm hcx ?_
    refine rx_eff rfl (fun K hK => ?_)
    refine rl_callf fn10 (short_ok s 40 w (by omega) (by omega) (by omega)) rfl rfl ?_
    rintro _ _ ⟨rfl, rfl⟩
    refine rl_nil (kq_normal (hK _ _ hM ?_))
    refine rx_nil rfl ?_
    (repeat (first | refine seq_ ?_ | refine sq_normal ?_ | refine rl_nil ?_ | refine block_ ?_ | refine np_normal ?_ | (refine region_ (id := 6) ?_; (try (refine rl_assign (v := (Value.int _ _ : Value)) rfl rfl ?_))) | refine rl_assign (v := (Value.slice _ _ _ : Value)) rfl rfl ?_ | (refine rl_bsliceM (d := 39) [_, _, _, _, _, _, _, _, _, _, _, _] hM sl25 rfl rfl rfl rfl rfl (by decide) (by decide) ?_; clear hM; intro w b39 hM)))
    obtain ⟨A, hA⟩ : ∃ A : List (List UInt8), A = [s.take 40, p.take k, p.set k qc, [39], [39, 50], [39, 50, 68], [39, 52, 49], [95], [95, 95], [], [39, 43, 49], [39, 95, 49]] := ⟨_, rfl⟩
    have hM : Mem w0 w (.blk b39 (A.map St) 9 :: []) V := by rw [hA]; exact hM.first 1
    have hAl : A.length = 12 := by rw [hA]; rfl
    have hA1 : ∀ x ∈ A, x.length ≤ 60 := by
      intro x hx
      rw [hA] at hx
      simp only [List.mem_cons, List.not_mem_nil, or_false] at hx
      rcases hx with rfl | rfl | rfl | rfl | rfl | rfl | rfl | rfl | rfl | rfl | rfl | rfl
      · rw [List.length_take]; omega
      · rw [List.length_take]; omega
      · omega
      all_goals simp
    clear hA hcx
    refine loop1 [(8, 9), (13, 18), (40, 70)] 13 (fun m v wr => ∃ i : Nat, v = .int .i64 i ∧ i ≤ 12 ∧ m = 12 - i ∧ Mem w0 wr (.blk b39 (A.map St) 9 :: []) V) _
      ⟨0, rfl, by omega, rfl, hM⟩ ?_
    clear hM
    rintro m τ2 v w ⟨i, rfl, hi5, rfl, hM⟩ K1 hL1
    by_cases hi : i < 12
    · obtain ⟨x, hx⟩ : ∃ x, A[i]? = some x := ⟨_, List.getElem?_eq_getElem (by omega)⟩
      have hxl := hA1 x (List.mem_of_getElem? hx)
      have hcx : (A.map St)[0 + (i : Int).toNat]? = some (St x) := by
        show (A.map St)[0 + i]? = _
        rw [Nat.zero_add, List.getElem?_map, hx]; rfl
      (repeat (first | refine seq_ ?_ | refine sq_normal ?_ | refine rl_nil ?_ | refine cond_t rfl ?_ | refine skip_ ?_ | refine block_ ?_ | (refine region_ (id := 7) ?_; (try (refine rl_move (v := (Value.int _ _ : Value)) rfl rfl ?_; (try (refine rl_move (v := (Value.slice _ _ _ : Value)) rfl rfl ?_; (try (refine rl_len sl25 rfl rfl ?_; (try ((first | (refine rl_lss_t rfl rfl rfl ?_ ?_; omega) | (refine rl_lss_f rfl rfl rfl ?_ ?_; omega))))))))))) | (refine region_ (id := 9) ?_; (try (refine rl_move (v := (Value.slice _ _ _ : Value)) rfl rfl ?_; (try (refine rl_move (v := (Value.int _ _ : Value)) rfl rfl ?_; (try ((first | (refine rl_idx1 sl25 rfl rfl rfl rfl ?_ ?_ ?_; omega; omega) | (apply rl_idx1 sl25 rfl rfl rfl; assumption; omega; omega)); (try ((first | refine rl_loadV hM vt9 rfl rfl (by first | assumption | exact VRow.get (by assumption) rfl | exact VRow.get0 (by assumption) rfl) ?_ | refine rl_loadM 0 hM vt9 rfl rfl rfl (by first | rfl | assumption) ?_ | refine rl_loadM 1 hM vt9 rfl rfl rfl (by first | rfl | assumption) ?_ | refine rl_loadM 2 hM vt9 rfl rfl rfl (by first | rfl | assumption) ?_ | refine rl_loadM 3 hM vt9 rfl rfl rfl (by first | rfl | assumption) ?_ | refine rl_loadM 4 hM vt9 rfl rfl rfl (by first | rfl | assumption) ?_ | refine rl_loadM 5 hM vt9 rfl rfl rfl (by first | rfl | assumption) ?_ | refine rl_loadM 6 hM vt9 rfl rfl rfl (by first | rfl | assumption) ?_ | refine rl_loadM 7 hM vt9 rfl rfl rfl (by first | rfl | assumption) ?_ | refine rl_loadO 0 hM vt9 rfl rfl rfl (by first | assumption | exact ORow.get (by assumption) rfl | exact ORow.get0 (by assumption) rfl) ?_ | refine rl_loadO 1 hM vt9 rfl rfl rfl (by first | assumption | exact ORow.get (by assumption) rfl | exact ORow.get0 (by assumption) rfl) ?_ | refine rl_loadO 2 hM vt9 rfl rfl rfl (by first | assumption | exact ORow.get (by assumption) rfl | exact ORow.get0 (by assumption) rfl) ?_ | refine rl_loadO 3 hM vt9 rfl rfl rfl (by first | assumption | exact ORow.get (by assumption) rfl | exact ORow.get0 (by assumption) rfl) ?_ | refine rl_loadO 4 hM vt9 rfl rfl rfl (by first | assumption | exact ORow.get (by assumption) rfl | exact ORow.get0 (by assumption) rfl) ?_ | refine rl_loadO 5 hM vt9 rfl rfl rfl (by first | assumption | exact ORow.get (by assumption) rfl | exact ORow.get0 (by assumption) rfl) ?_ | refine rl_loadO 6 hM vt9 rfl rfl rfl (by first | assumption | exact ORow.get (by assumption) rfl | exact ORow.get0 (by assumption) rfl) ?_ | refine rl_loadO 7 hM vt9 rfl rfl rfl (by first | assumption | exact ORow.get (by assumption) rfl | exact ORow.get0 (by assumption) rfl) ?_))))))))))))
      refine rl_callf fn22 (scan_ok x w0 w _ V hM hE (by omega)) rfl rfl ?_
      clear hM
      rintro _ w ⟨rfl, hM⟩
      cases hv : scanP x with
      | none =>
        rw [scanV_none hv]
        (repeat (first | refine seq_ ?_ | refine sq_normal ?_ | refine rl_nil ?_ | (refine region_ (id := 10) ?_; (try (refine rl_move (v := (Value.slice _ _ _ : Value)) rfl rfl ?_; (try (refine rl_move (v := (Value.int _ _ : Value)) rfl rfl ?_; (try ((first | (refine rl_idx1 sl25 rfl rfl rfl rfl ?_ ?_ ?_; omega; omega) | (apply rl_idx1 sl25 rfl rfl rfl; assumption; omega; omega)); (try ((first | refine rl_loadV hM vt9 rfl rfl (by first | assumption | exact VRow.get (by assumption) rfl | exact VRow.get0 (by assumption) rfl) ?_ | refine rl_loadM 0 hM vt9 rfl rfl rfl (by first | rfl | assumption) ?_ | refine rl_loadM 1 hM vt9 rfl rfl rfl (by first | rfl | assumption) ?_ | refine rl_loadM 2 hM vt9 rfl rfl rfl (by first | rfl | assumption) ?_ | refine rl_loadM 3 hM vt9 rfl rfl rfl (by first | rfl | assumption) ?_ | refine rl_loadM 4 hM vt9 rfl rfl rfl (by first | rfl | assumption) ?_ | refine rl_loadM 5 hM vt9 rfl rfl rfl (by first | rfl | assumption) ?_ | refine rl_loadM 6 hM vt9 rfl rfl rfl (by first | rfl | assumption) ?_ | refine rl_loadM 7 hM vt9 rfl rfl rfl (by first | rfl | assumption) ?_ | refine rl_loadO 0 hM vt9 rfl rfl rfl (by first | assumption | exact ORow.get (by assumption) rfl | exact ORow.get0 (by assumption) rfl) ?_ | refine rl_loadO 1 hM vt9 rfl rfl rfl (by first | assumption | exact ORow.get (by assumption) rfl | exact ORow.get0 (by assumption) rfl) ?_ | refine rl_loadO 2 hM vt9 rfl rfl rfl (by first | assumption | exact ORow.get (by assumption) rfl | exact ORow.get0 (by assumption) rfl) ?_ | refine rl_loadO 3 hM vt9 rfl rfl rfl (by first | assumption | exact ORow.get (by assumption) rfl | exact ORow.get0 (by assumption) rfl) ?_ | refine rl_loadO 4 hM vt9 rfl rfl rfl (by first | assumption | exact ORow.get (by assumption) rfl | exact ORow.get0 (by assumption) rfl) ?_ | refine rl_loadO 5 hM vt9 rfl rfl rfl (by first | assumption | exact ORow.get (by assumption) rfl | exact ORow.get0 (by assumption) rfl) ?_ | refine rl_loadO 6 hM vt9 rfl rfl rfl (by first | assumption | exact ORow.get (by assumption) rfl | exact ORow.get0 (by assumption) rfl) ?_ | refine rl_loadO 7 hM vt9 rfl rfl rfl (by first | assumption | exact ORow.get (by assumption) rfl | exact ORow.get0 (by assumption) rfl) ?_)))))))))) | refine rl_assign (v := (Value.int _ _ : Value)) rfl rfl ?_ | refine rl_assign (v := (Value.string _ : Value)) rfl rfl ?_ | refine rl_move (v := (Value.tuple _ : Value)) rfl rfl ?_ | refine rl_extract rfl rfl rfl ?_))
        refine rl_callf fn24 (refscan_ok x w0 w _ V hM (by omega)) rfl rfl ?_
        clear hM
        rintro _ w ⟨rfl, hM⟩
        rw [scanV_none hv]
        (repeat (first | refine seq_ ?_ | refine sq_normal ?_ | refine rl_nil ?_ | refine cond_f rfl ?_ | refine skip_ ?_ | refine inBlock_normal ?_ | (refine region_ (id := 8) ?_; (try (refine rl_move (v := (Value.int _ _ : Value)) rfl rfl ?_; (try ((refine rl_add rfl rfl rfl ?_ ?_ ?_; omega; omega); (try (refine rl_assign (v := (Value.int _ _ : Value)) rfl rfl ?_))))))) | (refine region_ (id := 11) ?_; (try (refine rl_move (v := (Value.string _ : Value)) rfl rfl ?_; (try (refine rl_move (v := (Value.string _ : Value)) rfl rfl ?_; (try ((first | refine rl_sneq_f rfl rfl rfl (by first | rfl | assumption) ?_ | refine rl_sneq_t rfl rfl rfl (by first | assumption | decide) ?_); (try (refine rl_move (v := (Value.bool _ : Value)) rfl rfl ?_; (try ((first | refine rl_off rfl ?_ | refine rl_move (v := (Value.int _ _ : Value)) rfl rfl ?_); (try ((first | refine rl_off rfl ?_ | refine rl_move (v := (Value.int _ _ : Value)) rfl rfl ?_); (try ((first | refine rl_off rfl ?_ | (refine rl_neq_t rfl rfl rfl ?_ ?_; omega) | (refine rl_neq_f rfl rfl rfl ?_ ?_; omega)); (try (refine rl_pick (v := (Value.bool _ : Value)) rfl rfl rfl ?_))))))))))))))))) | refine rl_assign (v := (Value.int _ _ : Value)) rfl rfl ?_ | refine rl_assign (v := (Value.string _ : Value)) rfl rfl ?_ | refine rl_move (v := (Value.tuple _ : Value)) rfl rfl ?_ | refine rl_extract rfl rfl rfl ?_))
        exact kq_normal (hL1 (12 - (i + 1)) _ _ (by omega) (by (repeat (first | with_reducible exact Agree.ov | with_reducible exact Agree.refl _ _ | refine Agree.upd rfl ?_ | refine Agree.ovs rfl ?_))) ⟨i + 1, rfl, by omega, rfl, hM⟩)
      | some o =>
        rw [scanV_some hv]
        (repeat (first | refine seq_ ?_ | refine sq_normal ?_ | refine rl_nil ?_ | (refine region_ (id := 10) ?_; (try (refine rl_move (v := (Value.slice _ _ _ : Value)) rfl rfl ?_; (try (refine rl_move (v := (Value.int _ _ : Value)) rfl rfl ?_; (try ((first | (refine rl_idx1 sl25 rfl rfl rfl rfl ?_ ?_ ?_; omega; omega) | (apply rl_idx1 sl25 rfl rfl rfl; assumption; omega; omega)); (try ((first | refine rl_loadV hM vt9 rfl rfl (by first | assumption | exact VRow.get (by assumption) rfl | exact VRow.get0 (by assumption) rfl) ?_ | refine rl_loadM 0 hM vt9 rfl rfl rfl (by first | rfl | assumption) ?_ | refine rl_loadM 1 hM vt9 rfl rfl rfl (by first | rfl | assumption) ?_ | refine rl_loadM 2 hM vt9 rfl rfl rfl (by first | rfl | assumption) ?_ | refine rl_loadM 3 hM vt9 rfl rfl rfl (by first | rfl | assumption) ?_ | refine rl_loadM 4 hM vt9 rfl rfl rfl (by first | rfl | assumption) ?_ | refine rl_loadM 5 hM vt9 rfl rfl rfl (by first | rfl | assumption) ?_ | refine rl_loadM 6 hM vt9 rfl rfl rfl (by first | rfl | assumption) ?_ | refine rl_loadM 7 hM vt9 rfl rfl rfl (by first | rfl | assumption) ?_ | refine rl_loadO 0 hM vt9 rfl rfl rfl (by first | assumption | exact ORow.get (by assumption) rfl | exact ORow.get0 (by assumption) rfl) ?_ | refine rl_loadO 1 hM vt9 rfl rfl rfl (by first | assumption | exact ORow.get (by assumption) rfl | exact ORow.get0 (by assumption) rfl) ?_ | refine rl_loadO 2 hM vt9 rfl rfl rfl (by first | assumption | exact ORow.get (by assumption) rfl | exact ORow.get0 (by assumption) rfl) ?_ | refine rl_loadO 3 hM vt9 rfl rfl rfl (by first | assumption | exact ORow.get (by assumption) rfl | exact ORow.get0 (by assumption) rfl) ?_ | refine rl_loadO 4 hM vt9 rfl rfl rfl (by first | assumption | exact ORow.get (by assumption) rfl | exact ORow.get0 (by assumption) rfl) ?_ | refine rl_loadO 5 hM vt9 rfl rfl rfl (by first | assumption | exact ORow.get (by assumption) rfl | exact ORow.get0 (by assumption) rfl) ?_ | refine rl_loadO 6 hM vt9 rfl rfl rfl (by first | assumption | exact ORow.get (by assumption) rfl | exact ORow.get0 (by assumption) rfl) ?_ | refine rl_loadO 7 hM vt9 rfl rfl rfl (by first | assumption | exact ORow.get (by assumption) rfl | exact ORow.get0 (by assumption) rfl) ?_)))))))))) | refine rl_assign (v := (Value.int _ _ : Value)) rfl rfl ?_ | refine rl_assign (v := (Value.string _ : Value)) rfl rfl ?_ | refine rl_move (v := (Value.tuple _ : Value)) rfl rfl ?_ | refine rl_extract rfl rfl rfl ?_))
        refine rl_callf fn24 (refscan_ok x w0 w _ V hM (by omega)) rfl rfl ?_
        clear hM
        rintro _ w ⟨rfl, hM⟩
        rw [scanV_some hv]
        (repeat (first | refine seq_ ?_ | refine sq_normal ?_ | refine rl_nil ?_ | refine cond_f rfl ?_ | refine skip_ ?_ | refine inBlock_normal ?_ | (refine region_ (id := 8) ?_; (try (refine rl_move (v := (Value.int _ _ : Value)) rfl rfl ?_; (try ((refine rl_add rfl rfl rfl ?_ ?_ ?_; omega; omega); (try (refine rl_assign (v := (Value.int _ _ : Value)) rfl rfl ?_))))))) | (refine region_ (id := 11) ?_; (try (refine rl_move (v := (Value.string _ : Value)) rfl rfl ?_; (try (refine rl_move (v := (Value.string _ : Value)) rfl rfl ?_; (try ((first | refine rl_sneq_f rfl rfl rfl (by first | rfl | assumption) ?_ | refine rl_sneq_t rfl rfl rfl (by first | assumption | decide) ?_); (try (refine rl_move (v := (Value.bool _ : Value)) rfl rfl ?_; (try ((first | refine rl_off rfl ?_ | refine rl_move (v := (Value.int _ _ : Value)) rfl rfl ?_); (try ((first | refine rl_off rfl ?_ | refine rl_move (v := (Value.int _ _ : Value)) rfl rfl ?_); (try ((first | refine rl_off rfl ?_ | (refine rl_neq_t rfl rfl rfl ?_ ?_; omega) | (refine rl_neq_f rfl rfl rfl ?_ ?_; omega)); (try (refine rl_pick (v := (Value.bool _ : Value)) rfl rfl rfl ?_))))))))))))))))) | refine rl_assign (v := (Value.int _ _ : Value)) rfl rfl ?_ | refine rl_assign (v := (Value.string _ : Value)) rfl rfl ?_ | refine rl_move (v := (Value.tuple _ : Value)) rfl rfl ?_ | refine rl_extract rfl rfl rfl ?_))
        exact kq_normal (hL1 (12 - (i + 1)) _ _ (by omega) (by (repeat (first | with_reducible exact Agree.ov | with_reducible exact Agree.refl _ _ | refine Agree.upd rfl ?_ | refine Agree.ovs rfl ?_))) ⟨i + 1, rfl, by omega, rfl, hM⟩)
    · (repeat (first | refine seq_ ?_ | refine sq_normal ?_ | refine sq_exit ?_ | refine rl_nil ?_ | refine cond_f rfl ?_ | refine exit_ ?_ | refine inBlock_exit ?_ | refine kq_exit ?_ | (refine region_ (id := 7) ?_; (try (refine rl_move (v := (Value.int _ _ : Value)) rfl rfl ?_; (try (refine rl_move (v := (Value.slice _ _ _ : Value)) rfl rfl ?_; (try (refine rl_len sl25 rfl rfl ?_; (try ((first | (refine rl_lss_t rfl rfl rfl ?_ ?_; omega) | (refine rl_lss_f rfl rfl rfl ?_ ?_; omega))))))))))) | (refine region_ (id := 13) ?_)))
      refine rl_callf fn15 (lives_ok w0 w _ V hM) rfl rfl ?_
      clear hM
      rintro _ w ⟨rfl, hM⟩
      (repeat (first | refine sq_normal ?_ | refine rl_nil ?_ | refine ret_ ?_ | refine rl_assign (v := (Value.bool _ : Value)) rfl rfl ?_))
      exact bp_ret1 (v := Value.bool _) rfl rfl ⟨rfl, hM.below⟩
  rw [hw0] at key
  exact key
end Go.Proofs.YtbcplbkjeinplaaDoor.Chr
