/- The walk of fuguelaw01.CharsPrints. -/
import Derived.Test.YtbcplbkjeinplaaDoorChrW11
import Derived.Test.YtbcplbkjeinplaaDoorChrL3
import Derived.Test.YtbcplbkjeinplaaDoorRows
import Derived.Stop.LaidErr
import Derived.MakeChecks
set_option linter.unusedVariables false
set_option linter.unusedSimpArgs false
namespace Go.Proofs.YtbcplbkjeinplaaDoor.Chr
open Go Go.Eng Go.RowKit Go.Lx
theorem err_of {w : World} (h : laidMetH Tryd.prog Rows.charsPrintsRow.laid w) : ErrV w.cell? := by
  have h0 : laidMetH Tryd.prog [("math/bits.deBruijn32tab", Rows.laid_math_bits_deBruijn32tab), ("math/bits.deBruijn64tab", Rows.laid_math_bits_deBruijn64tab), ("internal/strconv.uint64pow10", Rows.laid_internal_strconv_uint64pow10), ("strconv.ErrRange", Rows.laid_strconv_ErrRange), ("strconv.ErrSyntax", .iface "*errors.errorString" (.ptr (.agg [.lit (.string [105, 110, 118, 97, 108, 105, 100, 32, 115, 121, 110, 116, 97, 120])])))] w := h
  rw [MakeChecks.laidMetH_plain _ _ _ (by kernel_rfl)] at h0
  have star : "*" ++ "errors.errorString" = "*errors.errorString" := by decide
  obtain ⟨a, s, h1, _⟩ := laid_sentinel (g := 1) h0.tail.tail.tail.tail (by kernel_rfl) (by kernel_rfl) Tryd.underlying51
    (fun u hu => typeName_ptr_named (nm := "errors.errorString") (tp := 94) (by rw [star]; kernel_rfl) (by kernel_rfl) (by decide) u (by rw [star]; exact hu)) Tryd.underlying94 Tryd.underlying96 rfl rfl Tryd.underlying9 (by kernel_rfl) (by kernel_rfl)
  exact ⟨_, World.var?_cell (g := 1) (by kernel_rfl) h1 0, .inr ⟨_, _, rfl⟩⟩
attribute [local irreducible] RL RX KQ SQ Exit.inBlock Exit.then BP NP CallsOk IsSl IsRows IsInts IsBools Own Blk Code.wp Calls wpList
set_option maxHeartbeats 4000000 in
theorem law7 (s : List UInt8) (c : Int) (w : World) (hs : s.length ≤ maxLen) (hc : 0 ≤ c ∧ c ≤ 255) (hL : laidMetH Tryd.prog Rows.charsPrintsRow.laid w) : CallsOk Tryd.prog 7 #[St s, .int .u8 c] w fun r w' => r = .bool true ∧ Below w.heap.size w w' := by
  have hml := maxLen_le
  have hE := err_of hL
  clear hL
  have hM := Mem.init w
  obtain ⟨w0, hw0⟩ : ∃ w0, w0 = w := ⟨_, rfl⟩
  obtain ⟨V, hVd⟩ : ∃ V, V = w.cell? := ⟨_, rfl⟩
  rw [← hVd] at hM hE
  have hM : Mem w0 w [] V := by rw [hw0]; exact hM
  obtain ⟨qc, hqc⟩ : ∃ q : UInt8, (q.toNat : Int) = c := ⟨UInt8.ofNat c.toNat, by rw [UInt8.toNat_ofNat']; omega⟩
  have key : CallsOk Tryd.prog 7 #[St s, .int .u8 c] w fun r w' => r = .bool true ∧ Below w0.heap.size w0 w' := by
    clear hVd hw0
    subst hqc
    refine enter_ (N := 52) Tryd.func7 rfl rfl rfl ?_
    (repeat (first | refine seq_ ?_ | refine sq_normal ?_ | refine rl_nil ?_ | (refine region_ (id := 0) ?_; (try (refine rl_assign (v := (Value.bool _ : Value)) rfl rfl ?_)))))
    refine cut_seq1 [(5, 6), (10, 16)] 5 (fun v wr => ∃ b, v = .slice (some ⟨b, 0, none⟩) 6 6 ∧ Mem w0 wr (.blk b (([s.take 40, [qc], [], [95], [39], [39, 53, 102]] : List (List UInt8)).map St) 9 :: []) V) ?_ ?_
    · (refine drawn2M_ 5 [(0, false), (2, false)] 1 3 [(3, true), (4, false)] [(4, false), (1, true)] [(0, false), (2, false), (1, true), (3, true), (4, false)] [(0, false), (2, false), (3, true), (4, false), (1, true)] rfl rfl hM mo (by kernel_rfl) ?_ ?_ <;> (clear hM; intro w hM; (try (refine rx_move (v := (Value.string _ : Value)) rfl rfl rfl ?_; (try (refine rx_move (v := (Value.int _ _ : Value)) rfl rfl rfl ?_))))))
      · refine rx_eff rfl (fun K hK => ?_)
        refine rl_callf fn10 (short_ok s 40 w (by omega) (by omega) (by omega)) rfl rfl ?_
        rintro _ _ ⟨rfl, rfl⟩
        refine rl_nil (kq_normal (hK _ _ hM ?_))
        refine rx_effS rfl (fun K hK => ?_)
        refine rl_bsliceM (d := 13) [.int .u8 qc.toNat] hM sl23 rfl rfl rfl rfl rfl (by decide) (by decide) ?_
        clear hM
        intro w b13 hM
        refine rl_nil (kq_normal (hK (fun w => Mem w0 w (.blk b13 [.int .u8 qc.toNat] 5 :: []) V) _ _ (fun _ h => h.dropn 1) hM ?_))
        refine rx_b2s [qc] rfl sl23.und (by kernel_rfl) us9 rfl rfl rfl (fun w h => one_row h rfl) ?_
        refine rx_nil rfl ?_
        (repeat (first | refine rl_nil ?_ | refine np_normal ?_ | (refine rl_bsliceM (d := 15) [_, _, _, _, _, _] hM sl25 rfl rfl rfl rfl rfl (by decide) (by decide) ?_; clear hM; intro w b15 hM) | refine rl_assign (v := (Value.slice _ _ _ : Value)) rfl rfl ?_))
        exact kq_normal ⟨by (repeat (first | with_reducible exact Agree.ov | with_reducible exact Agree.refl _ _ | refine Agree.upd rfl ?_ | refine Agree.ovs rfl ?_)), _, rfl, hM.first 1⟩
      · refine rx_effS rfl (fun K hK => ?_)
        refine rl_bsliceM (d := 13) [.int .u8 qc.toNat] hM sl23 rfl rfl rfl rfl rfl (by decide) (by decide) ?_
        clear hM
        intro w b13 hM
        refine rl_nil (kq_normal (hK (fun w => Mem w0 w (.blk b13 [.int .u8 qc.toNat] 5 :: []) V) _ _ (fun _ h => h.dropn 1) hM ?_))
        refine rx_b2s [qc] rfl sl23.und (by kernel_rfl) us9 rfl rfl rfl (fun w h => one_row h rfl) ?_
        refine rx_eff rfl (fun K hK => ?_)
        refine rl_callf fn10 (short_ok s 40 w (by omega) (by omega) (by omega)) rfl rfl ?_
        rintro _ _ ⟨rfl, rfl⟩
        refine rl_nil (kq_normal (hK _ _ hM ?_))
        refine rx_nil rfl ?_
        (repeat (first | refine rl_nil ?_ | refine np_normal ?_ | (refine rl_bsliceM (d := 15) [_, _, _, _, _, _] hM sl25 rfl rfl rfl rfl rfl (by decide) (by decide) ?_; clear hM; intro w b15 hM) | refine rl_assign (v := (Value.slice _ _ _ : Value)) rfl rfl ?_))
        exact kq_normal ⟨by (repeat (first | with_reducible exact Agree.ov | with_reducible exact Agree.refl _ _ | refine Agree.upd rfl ?_ | refine Agree.ovs rfl ?_)), _, rfl, hM.first 1⟩
    clear hM
    rintro τ0 _ w ⟨bl, rfl, hM⟩
    obtain ⟨A, hA⟩ : ∃ A : List (List UInt8), A = [s.take 40, [qc], [], [95], [39], [39, 53, 102]] := ⟨_, rfl⟩
    rw [← hA] at hM
    have hAl : A.length = 6 := by rw [hA]; rfl
    have hA1 : ∀ x ∈ A, x.length ≤ 40 := by
      intro x hx
      rw [hA] at hx
      simp only [List.mem_cons, List.not_mem_nil, or_false] at hx
      rcases hx with rfl | rfl | rfl | rfl | rfl | rfl
      · rw [List.length_take]; omega
      all_goals simp
    clear hA
    (repeat (first | refine seq_ ?_ | refine sq_normal ?_ | refine rl_nil ?_ | refine block_ ?_ | (refine region_ (id := 2) ?_; (try (refine rl_assign (v := (Value.int _ _ : Value)) rfl rfl ?_)))))
    refine loop1 [(4, 5), (6, 10), (16, 51)] 6 (fun m v wr => ∃ i : Nat, v = .int .i64 i ∧ i ≤ 6 ∧ m = 6 - i ∧ Mem w0 wr (.blk bl (A.map St) 9 :: []) V) _
      ⟨0, rfl, by omega, rfl, hM⟩ ?_
    clear hM
    rintro m τ2 v w ⟨i, rfl, hi5, rfl, hM⟩ K1 hL1
    by_cases hi : i < 6
    · obtain ⟨x, hx⟩ : ∃ x, A[i]? = some x := ⟨_, List.getElem?_eq_getElem (by omega)⟩
      have hxl := hA1 x (List.mem_of_getElem? hx)
      have hpl := printP_len x
      have hcx : (A.map St)[0 + (i : Int).toNat]? = some (St x) := by
        show (A.map St)[0 + i]? = _
        rw [Nat.zero_add, List.getElem?_map, hx]; rfl
      (repeat (first | refine seq_ ?_ | refine sq_normal ?_ | refine rl_nil ?_ | refine cond_t rfl ?_ | refine skip_ ?_ | refine block_ ?_ | (refine region_ (id := 3) ?_; (try (refine rl_move (v := (Value.int _ _ : Value)) rfl rfl ?_; (try (refine rl_move (v := (Value.slice _ _ _ : Value)) rfl rfl ?_; (try (refine rl_len sl25 rfl rfl ?_; (try ((first | (refine rl_lss_t rfl rfl rfl ?_ ?_; omega) | (refine rl_lss_f rfl rfl rfl ?_ ?_; omega))))))))))) | (refine region_ (id := 5) ?_; (try (refine rl_move (v := (Value.slice _ _ _ : Value)) rfl rfl ?_; (try (refine rl_move (v := (Value.int _ _ : Value)) rfl rfl ?_; (try ((first | (refine rl_idx1 sl25 rfl rfl rfl rfl ?_ ?_ ?_; omega; omega) | (apply rl_idx1 sl25 rfl rfl rfl; assumption; omega; omega)); (try ((first | refine rl_loadV hM vt9 rfl rfl (by first | assumption | exact VRow.get (by assumption) rfl | exact VRow.get0 (by assumption) rfl) ?_ | refine rl_loadM 0 hM vt9 rfl rfl rfl (by first | rfl | assumption) ?_ | refine rl_loadM 1 hM vt9 rfl rfl rfl (by first | rfl | assumption) ?_ | refine rl_loadM 2 hM vt9 rfl rfl rfl (by first | rfl | assumption) ?_ | refine rl_loadM 3 hM vt9 rfl rfl rfl (by first | rfl | assumption) ?_ | refine rl_loadM 4 hM vt9 rfl rfl rfl (by first | rfl | assumption) ?_ | refine rl_loadM 5 hM vt9 rfl rfl rfl (by first | rfl | assumption) ?_ | refine rl_loadM 6 hM vt9 rfl rfl rfl (by first | rfl | assumption) ?_ | refine rl_loadM 7 hM vt9 rfl rfl rfl (by first | rfl | assumption) ?_ | refine rl_loadO 0 hM vt9 rfl rfl rfl (by first | assumption | exact ORow.get (by assumption) rfl | exact ORow.get0 (by assumption) rfl) ?_ | refine rl_loadO 1 hM vt9 rfl rfl rfl (by first | assumption | exact ORow.get (by assumption) rfl | exact ORow.get0 (by assumption) rfl) ?_ | refine rl_loadO 2 hM vt9 rfl rfl rfl (by first | assumption | exact ORow.get (by assumption) rfl | exact ORow.get0 (by assumption) rfl) ?_ | refine rl_loadO 3 hM vt9 rfl rfl rfl (by first | assumption | exact ORow.get (by assumption) rfl | exact ORow.get0 (by assumption) rfl) ?_ | refine rl_loadO 4 hM vt9 rfl rfl rfl (by first | assumption | exact ORow.get (by assumption) rfl | exact ORow.get0 (by assumption) rfl) ?_ | refine rl_loadO 5 hM vt9 rfl rfl rfl (by first | assumption | exact ORow.get (by assumption) rfl | exact ORow.get0 (by assumption) rfl) ?_ | refine rl_loadO 6 hM vt9 rfl rfl rfl (by first | assumption | exact ORow.get (by assumption) rfl | exact ORow.get0 (by assumption) rfl) ?_ | refine rl_loadO 7 hM vt9 rfl rfl rfl (by first | assumption | exact ORow.get (by assumption) rfl | exact ORow.get0 (by assumption) rfl) ?_))))))))))))
      refine rl_callf fn21 (print_ok x w0 w _ V hM (by omega)) rfl rfl ?_
      clear hM
      rintro _ w ⟨rfl, hM⟩
      (repeat (first | refine seq_ ?_ | refine sq_normal ?_ | refine rl_nil ?_ | (refine region_ (id := 6) ?_; (try (refine rl_move (v := (Value.string _ : Value)) rfl rfl ?_))) | refine rl_assign (v := (Value.string _ : Value)) rfl rfl ?_))
      refine rl_callf fn22 (scan_ok (printP x) w0 w _ V hM hE (by omega)) rfl rfl ?_
      clear hM
      rintro _ w ⟨rfl, hM⟩
      rw [scanV_some (scanP_print x)]
      (repeat (first | refine seq_ ?_ | refine sq_normal ?_ | refine rl_nil ?_ | (refine region_ (id := 7) ?_; (try (refine rl_move (v := (Value.string _ : Value)) rfl rfl ?_; (try (refine rl_move (v := (Value.slice _ _ _ : Value)) rfl rfl ?_; (try (refine rl_move (v := (Value.int _ _ : Value)) rfl rfl ?_; (try ((first | (refine rl_idx1 sl25 rfl rfl rfl rfl ?_ ?_ ?_; omega; omega) | (apply rl_idx1 sl25 rfl rfl rfl; assumption; omega; omega)); (try ((first | refine rl_loadV hM vt9 rfl rfl (by first | assumption | exact VRow.get (by assumption) rfl | exact VRow.get0 (by assumption) rfl) ?_ | refine rl_loadM 0 hM vt9 rfl rfl rfl (by first | rfl | assumption) ?_ | refine rl_loadM 1 hM vt9 rfl rfl rfl (by first | rfl | assumption) ?_ | refine rl_loadM 2 hM vt9 rfl rfl rfl (by first | rfl | assumption) ?_ | refine rl_loadM 3 hM vt9 rfl rfl rfl (by first | rfl | assumption) ?_ | refine rl_loadM 4 hM vt9 rfl rfl rfl (by first | rfl | assumption) ?_ | refine rl_loadM 5 hM vt9 rfl rfl rfl (by first | rfl | assumption) ?_ | refine rl_loadM 6 hM vt9 rfl rfl rfl (by first | rfl | assumption) ?_ | refine rl_loadM 7 hM vt9 rfl rfl rfl (by first | rfl | assumption) ?_ | refine rl_loadO 0 hM vt9 rfl rfl rfl (by first | assumption | exact ORow.get (by assumption) rfl | exact ORow.get0 (by assumption) rfl) ?_ | refine rl_loadO 1 hM vt9 rfl rfl rfl (by first | assumption | exact ORow.get (by assumption) rfl | exact ORow.get0 (by assumption) rfl) ?_ | refine rl_loadO 2 hM vt9 rfl rfl rfl (by first | assumption | exact ORow.get (by assumption) rfl | exact ORow.get0 (by assumption) rfl) ?_ | refine rl_loadO 3 hM vt9 rfl rfl rfl (by first | assumption | exact ORow.get (by assumption) rfl | exact ORow.get0 (by assumption) rfl) ?_ | refine rl_loadO 4 hM vt9 rfl rfl rfl (by first | assumption | exact ORow.get (by assumption) rfl | exact ORow.get0 (by assumption) rfl) ?_ | refine rl_loadO 5 hM vt9 rfl rfl rfl (by first | assumption | exact ORow.get (by assumption) rfl | exact ORow.get0 (by assumption) rfl) ?_ | refine rl_loadO 6 hM vt9 rfl rfl rfl (by first | assumption | exact ORow.get (by assumption) rfl | exact ORow.get0 (by assumption) rfl) ?_ | refine rl_loadO 7 hM vt9 rfl rfl rfl (by first | assumption | exact ORow.get (by assumption) rfl | exact ORow.get0 (by assumption) rfl) ?_)))))))))))) | refine rl_assign (v := (Value.int _ _ : Value)) rfl rfl ?_ | refine rl_assign (v := (Value.string _ : Value)) rfl rfl ?_ | refine rl_move (v := (Value.tuple _ : Value)) rfl rfl ?_ | refine rl_extract rfl rfl rfl ?_))
      refine rl_callf fn23 (refprint_ok x w0 w _ V hM (by omega)) rfl rfl ?_
      clear hM
      rintro _ w ⟨rfl, hM⟩
      (repeat (first | refine sq_normal ?_ | refine rl_nil ?_ | refine cond_f rfl ?_ | refine skip_ ?_ | refine inBlock_normal ?_ | (refine region_ (id := 4) ?_; (try (refine rl_move (v := (Value.int _ _ : Value)) rfl rfl ?_; (try ((refine rl_add rfl rfl rfl ?_ ?_ ?_; omega; omega); (try (refine rl_assign (v := (Value.int _ _ : Value)) rfl rfl ?_))))))) | refine rl_move (v := (Value.string _ : Value)) rfl rfl ?_ | refine rl_move (v := (Value.int _ _ : Value)) rfl rfl ?_ | refine rl_move (v := (Value.slice _ _ _ : Value)) rfl rfl ?_ | (first | (refine rl_idx1 sl25 rfl rfl rfl rfl ?_ ?_ ?_; omega; omega) | (apply rl_idx1 sl25 rfl rfl rfl; assumption; omega; omega)) | (first | refine rl_loadV hM vt9 rfl rfl (by first | assumption | exact VRow.get (by assumption) rfl | exact VRow.get0 (by assumption) rfl) ?_ | refine rl_loadM 0 hM vt9 rfl rfl rfl (by first | rfl | assumption) ?_ | refine rl_loadM 1 hM vt9 rfl rfl rfl (by first | rfl | assumption) ?_ | refine rl_loadM 2 hM vt9 rfl rfl rfl (by first | rfl | assumption) ?_ | refine rl_loadM 3 hM vt9 rfl rfl rfl (by first | rfl | assumption) ?_ | refine rl_loadM 4 hM vt9 rfl rfl rfl (by first | rfl | assumption) ?_ | refine rl_loadM 5 hM vt9 rfl rfl rfl (by first | rfl | assumption) ?_ | refine rl_loadM 6 hM vt9 rfl rfl rfl (by first | rfl | assumption) ?_ | refine rl_loadM 7 hM vt9 rfl rfl rfl (by first | rfl | assumption) ?_ | refine rl_loadO 0 hM vt9 rfl rfl rfl (by first | assumption | exact ORow.get (by assumption) rfl | exact ORow.get0 (by assumption) rfl) ?_ | refine rl_loadO 1 hM vt9 rfl rfl rfl (by first | assumption | exact ORow.get (by assumption) rfl | exact ORow.get0 (by assumption) rfl) ?_ | refine rl_loadO 2 hM vt9 rfl rfl rfl (by first | assumption | exact ORow.get (by assumption) rfl | exact ORow.get0 (by assumption) rfl) ?_ | refine rl_loadO 3 hM vt9 rfl rfl rfl (by first | assumption | exact ORow.get (by assumption) rfl | exact ORow.get0 (by assumption) rfl) ?_ | refine rl_loadO 4 hM vt9 rfl rfl rfl (by first | assumption | exact ORow.get (by assumption) rfl | exact ORow.get0 (by assumption) rfl) ?_ | refine rl_loadO 5 hM vt9 rfl rfl rfl (by first | assumption | exact ORow.get (by assumption) rfl | exact ORow.get0 (by assumption) rfl) ?_ | refine rl_loadO 6 hM vt9 rfl rfl rfl (by first | assumption | exact ORow.get (by assumption) rfl | exact ORow.get0 (by assumption) rfl) ?_ | refine rl_loadO 7 hM vt9 rfl rfl rfl (by first | assumption | exact ORow.get (by assumption) rfl | exact ORow.get0 (by assumption) rfl) ?_) | (first | refine rl_sneq_f rfl rfl rfl (by first | rfl | assumption) ?_ | refine rl_sneq_t rfl rfl rfl (by first | assumption | decide) ?_) | refine rl_move (v := (Value.bool _ : Value)) rfl rfl ?_ | (first | refine rl_off rfl ?_ | (refine rl_neq_t rfl rfl rfl ?_ ?_; omega) | (refine rl_neq_f rfl rfl rfl ?_ ?_; omega)) | refine rl_pick (v := (Value.bool _ : Value)) rfl rfl rfl ?_))
      exact kq_normal (hL1 (6 - (i + 1)) _ _ (by omega) (by (repeat (first | with_reducible exact Agree.ov | with_reducible exact Agree.refl _ _ | refine Agree.upd rfl ?_ | refine Agree.ovs rfl ?_))) ⟨i + 1, rfl, by omega, rfl, hM⟩)
    · (repeat (first | refine seq_ ?_ | refine sq_normal ?_ | refine sq_exit ?_ | refine rl_nil ?_ | refine cond_f rfl ?_ | refine exit_ ?_ | refine inBlock_exit ?_ | refine kq_exit ?_ | (refine region_ (id := 3) ?_; (try (refine rl_move (v := (Value.int _ _ : Value)) rfl rfl ?_; (try (refine rl_move (v := (Value.slice _ _ _ : Value)) rfl rfl ?_; (try (refine rl_len sl25 rfl rfl ?_; (try ((first | (refine rl_lss_t rfl rfl rfl ?_ ?_; omega) | (refine rl_lss_f rfl rfl rfl ?_ ?_; omega))))))))))) | (refine region_ (id := 9) ?_)))
      refine rl_callf fn15 (lives_ok w0 w _ V hM) rfl rfl ?_
      clear hM
      rintro _ w ⟨rfl, hM⟩
      (repeat (first | refine sq_normal ?_ | refine rl_nil ?_ | refine ret_ ?_ | refine rl_assign (v := (Value.bool _ : Value)) rfl rfl ?_))
      exact bp_ret1 (v := Value.bool _) rfl rfl ⟨rfl, hM.below⟩
  rw [hw0] at key
  exact key
end Go.Proofs.YtbcplbkjeinplaaDoor.Chr
