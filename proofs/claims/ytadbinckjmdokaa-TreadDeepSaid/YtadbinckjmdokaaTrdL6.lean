/- TreadDeep. -/
import Derived.Test.YtadbinckjmdokaaTrdL3
import Derived.Test.YtadbinckjmdokaaTxB
set_option linter.unusedVariables false
set_option linter.unusedSimpArgs false
namespace Go.Tr
open Go Go.Lx Go.Eng
def bk (k : Nat) : B := List.replicate k 40 ++ [97] ++ List.replicate k 41
def deepB (k : Nat) : Bool := match readT (bk k) with | .ok t => decide (t = .var [97]) && decide (k ≤ 40) | .error p => decide (p = (13, 40)) && decide (40 < k)
theorem deep_B : ∀ k ∈ [36, 37, 38, 39, 40, 41, 42, 43], deepB k = true := by decide +kernel
theorem deep_read (k : Nat) (h1 : 36 ≤ k) (h2 : k ≤ 43) : (k ≤ 40 ∧ readT (bk k) = .ok (.var [97])) ∨ (40 < k ∧ readT (bk k) = .error (13, 40)) := by
  have hm : k ∈ [36, 37, 38, 39, 40, 41, 42, 43] := by
    simp only [List.mem_cons, List.not_mem_nil, or_false]; omega
  have := deep_B k hm
  unfold deepB at this
  cases hx : readT (bk k) with
  | ok t =>
    rw [hx] at this
    simp only [Bool.and_eq_true, decide_eq_true_eq] at this
    exact .inl ⟨this.2, by rw [this.1]⟩
  | error p =>
    rw [hx] at this
    simp only [Bool.and_eq_true, decide_eq_true_eq] at this
    exact .inr ⟨this.2, by rw [this.1]⟩
theorem bk_succ (k : Nat) : bk (k + 1) = [40] ++ bk k ++ [41] := by
  unfold bk
  rw [List.replicate_succ, List.replicate_succ']
  simp
theorem bk_len (k : Nat) : (bk k).length = 2 * k + 1 := by simp [bk]; omega
theorem gd_a : Gd (.lf 2 0 [97]) := .var (by decide)
theorem pr_a : pr (.lf 2 0 [97]) 0 = [97] := by kernel_rfl
end Go.Tr
namespace Go.Proofs.Ytadbinckjmdokaa.Trd
open Go Go.Eng Go.RowKit Go.Tr Go.Lx
attribute [local irreducible] RL RX KQ SQ Exit.inBlock Exit.then BP NP CallsOk IsSl IsRows IsInts IsBools Own Blk Code.wp Calls wpList
set_option maxRecDepth 8000 in
set_option maxHeartbeats 8000000 in
theorem law6 (n m : Int) (w : World) (hn : I64 n) (hm : I64 m) : CallsOk Try.prog 6 #[.int .i64 n, .int .i64 m] w fun r w' => r = .bool true ∧ Below w.heap.size w w' := by
  have hml := maxLen_le
  have hM := Mem.init w
  obtain ⟨w0, hw0⟩ : ∃ w0, w0 = w := ⟨_, rfl⟩
  obtain ⟨V, hVd⟩ : ∃ V, V = w.cell? := ⟨_, rfl⟩
  rw [← hVd] at hM
  have hM : Mem w0 w [] V := by rw [hw0]; exact hM
  have key : CallsOk Try.prog 6 #[.int .i64 n, .int .i64 m] w fun r w' => r = .bool true ∧ Below w0.heap.size w0 w' := by
    clear hVd hw0
    refine enter_ (N := 91) Try.func6 rfl rfl rfl ?_
    have r1 := around_lt n 8 (by omega)
    have r2 := around_lt m 8 (by omega)
    (repeat (first | refine seq_ ?_ | refine sq_normal ?_ | refine rl_nil ?_ | (refine region_ (id := 0) ?_; (try (refine rl_assign (v := (Value.bool _ : Value)) rfl rfl ?_))) | (refine region_ (id := 1) ?_; (try (refine rl_move (v := (Value.int _ _ : Value)) rfl rfl ?_)))))
    refine rl_callf fn15 (around_ok n 8 w hn.1 hn.2 (by omega) (by omega)) rfl rfl ?_
    rintro _ w ⟨rfl, rfl⟩
    obtain ⟨k, hk⟩ : ∃ k : Nat, (k : Int) = 36 + around n 8 := ⟨(36 + around n 8).toNat, by omega⟩
    (repeat (first | refine seq_ ?_ | refine sq_normal ?_ | refine rl_nil ?_ | refine block_ ?_ | (refine region_ (id := 2) ?_; (try (refine rl_assign (v := (Value.string _ : Value)) rfl rfl ?_))) | (refine region_ (id := 3) ?_; (try (refine rl_assign (v := (Value.int _ _ : Value)) rfl rfl ?_))) | (refine rl_add rfl rfl rfl ?_ ?_ ?_; omega; omega) | refine rl_assign (v := (Value.int _ _ : Value)) rfl rfl ?_))
    rw [← hk]
    refine loop2 [(6, 8), (16, 24)] 6 7 (fun mm v6 v7 wr => ∃ i : Nat, v6 = St (bk i) ∧ v7 = .int .i64 i ∧ i ≤ k ∧ mm = k - i ∧ Mem w0 wr [] V) _
      ⟨0, rfl, rfl, Nat.zero_le _, rfl, hM⟩ ?_
    clear hM
    rintro mm τ v6 v7 w ⟨i, rfl, rfl, hi, rfl, hM⟩ K0 hL0
    have hbl := bk_len i
    by_cases hlt : i < k
    · (repeat (first | refine seq_ ?_ | refine sq_normal ?_ | refine rl_nil ?_ | refine cond_t rfl ?_ | refine skip_ ?_ | refine block_ ?_ | refine inBlock_normal ?_ | (refine region_ (id := 4) ?_; (try (refine rl_move (v := (Value.int _ _ : Value)) rfl rfl ?_; (try (refine rl_move (v := (Value.int _ _ : Value)) rfl rfl ?_; (try ((refine rl_lss_t rfl rfl rfl ?_ ?_; omega)))))))) | (refine region_ (id := 5) ?_; (try (refine rl_move (v := (Value.int _ _ : Value)) rfl rfl ?_; (try ((refine rl_add rfl rfl rfl ?_ ?_ ?_; omega; omega); (try (refine rl_assign (v := (Value.int _ _ : Value)) rfl rfl ?_))))))) | (refine region_ (id := 6) ?_; (try (refine rl_move (v := (Value.string _ : Value)) rfl rfl ?_; (try ((refine rl_sadd rfl rfl rfl (by (first | omega | (simp only [List.length_append, List.length_cons, List.length_nil, List.length_take, List.length_drop] at *; omega))) ?_); (try ((refine rl_sadd rfl rfl rfl (by (first | omega | (simp only [List.length_append, List.length_cons, List.length_nil, List.length_take, List.length_drop] at *; omega))) ?_); (try (refine rl_assign (v := (Value.string _ : Value)) rfl rfl ?_)))))))))))
      exact kq_normal (hL0 (k - (i + 1)) _ _ (by omega) (by (repeat (first | with_reducible exact Agree.ov | with_reducible exact Agree.refl _ _ | refine Agree.upd rfl ?_ | refine Agree.ovs rfl ?_))) ⟨i + 1, by rw [bk_succ]; rfl, rfl, by omega, rfl, hM⟩)
    · have hie : i = k := by omega
      subst hie
      (repeat (first | refine seq_ ?_ | refine sq_normal ?_ | refine sq_exit ?_ | refine rl_nil ?_ | refine cond_f rfl ?_ | refine exit_ ?_ | refine inBlock_exit ?_ | refine kq_exit ?_ | (refine region_ (id := 4) ?_; (try (refine rl_move (v := (Value.int _ _ : Value)) rfl rfl ?_; (try (refine rl_move (v := (Value.int _ _ : Value)) rfl rfl ?_; (try ((refine rl_lss_f rfl rfl rfl ?_ ?_; omega)))))))) | (refine region_ (id := 7) ?_; (try (refine rl_move (v := (Value.string _ : Value)) rfl rfl ?_)))))
      refine rl_callf fn26 (readType_ok (bk i) w0 w _ V hM (by omega)) rfl rfl ?_
      clear hM
      rintro _ w ⟨V1, cs, ty, e, a, hV1, hM, rfl, hty, hst⟩
      have hst1 : (i ≤ 40 ∧ e = 0 ∧ a = 0 ∧ ty = .var [97]) ∨ (40 < i ∧ e = 13 ∧ a = 40 ∧ ty = Ty.z) := by
        rcases deep_read i (by omega) (by omega) with ⟨h1, h2⟩ | ⟨h1, h2⟩
        · rw [h2] at hst
          rcases hst with ⟨h3, h4, h5⟩ | ⟨h3, _⟩
          · cases h3; exact .inl ⟨h1, h4, h5, rfl⟩
          · cases h3
        · rw [h2] at hst
          rcases hst with ⟨h3, _⟩ | ⟨h3, _, _, h6⟩
          · cases h3
          · cases h3; exact .inr ⟨h1, rfl, rfl, h6⟩
      clear hst
      obtain ⟨va, rfl, hva, _⟩ := id hty.open
      obtain ⟨_, _, _, _, rfl, _⟩ := hva
      (repeat (first | refine seq_ ?_ | refine sq_normal ?_ | refine rl_nil ?_ | (refine region_ (id := 8) ?_; (try (refine rl_move (v := (Value.int _ _ : Value)) rfl rfl ?_))) | refine rl_move (v := (Value.tuple _ : Value)) rfl rfl ?_ | refine rl_extract rfl rfl rfl ?_ | (refine rl_allocAM (d := 8) hM ag29 rfl ?_; clear hM; intro w b8 hM) | (refine rl_allocAM (d := 9) hM ag34 rfl ?_; clear hM; intro w b9 hM) | (refine rl_storeWM 1 hM ag29 rfl rfl rfl rfl rfl rfl rfl ?_; clear hM; intro w hM) | (refine rl_storeWM 0 hM ag34 rfl rfl rfl rfl rfl rfl rfl ?_; clear hM; intro w hM)))
      refine rl_callf fn15 (around_ok m 8 w hm.1 hm.2 (by omega) (by omega)) rfl rfl ?_
      rintro _ w ⟨rfl, rfl⟩
      obtain ⟨q, hq⟩ : ∃ q : Nat, (q : Int) = 12 + around m 8 := ⟨(12 + around m 8).toNat, by omega⟩
      (repeat (first | refine seq_ ?_ | refine sq_normal ?_ | refine rl_nil ?_ | (refine region_ (id := 9) ?_; (try ((refine rl_bsliceM (d := 33) [_, _, _] hM sl22 rfl rfl rfl rfl rfl (by decide) (by decide) ?_; clear hM; intro w b33 hM); (try (refine rl_move (v := (Value.int _ _ : Value)) rfl rfl ?_))))) | (refine rl_add rfl rfl rfl ?_ ?_ ?_; omega; omega) | refine rl_assign (v := (Value.int _ _ : Value)) rfl rfl ?_))
      rw [← hq]
      skip
      have hM : Mem w0 w (.blk b33 (([0, 1, 2] : List Int).map (Value.int .i64)) 3 :: .blk b9 [.int .i64 e, .int .i64 a] 34 :: .blk b8 [.int .i64 ty.form, .int .i64 ty.num, St ty.name, .slice _ _ _] 29 :: []) V1 := hM
      obtain ⟨V2, hV2, hM2, hcell⟩ := hM.freezeBlk
      clear hM
      have hxs : IsInts V2 (.slice (some ⟨b33, 0, none⟩) 3 3) [0, 1, 2] := isInts_of (b := b33) (off := 0) rfl (by decide) (by unfold maxLen; omega) (fun _ => rfl) (fun j u hj => by rw [Nat.zero_add]; exact hcell j u hj) (by unfold I64; decide)
      refine rl_callf fn27 (context_ok _ [0, 1, 2] q w0 w _ V2 hM2 hxs (by omega)) rfl rfl ?_
      clear hM2
      rintro _ w ⟨ps, pb, rfl, hpl, hps, hpb, hM⟩
      obtain rfl : pb = true := by
        cases pb with
        | true => rfl
        | false => exact absurd (hpb rfl) (by omega)
      have hcl := ctx_len (b := true) hps
      (repeat (first | (refine rl_sadd rfl rfl rfl (by (first | omega | (simp only [List.length_append, List.length_cons, List.length_nil, List.length_take, List.length_drop] at *; omega))) ?_)))
      have htx : (ctx true ps ++ [97]).length ≤ 4000 := by simp only [List.length_append, List.length_cons, List.length_nil]; omega
      refine rl_callf fn8 (readScheme_ok (ctx true ps ++ [97]) w0 w _ V2 hM (by omega)) rfl rfl ?_
      clear hM
      rintro _ w ⟨V3, cs, sc, e2, a2, hV3, hM, rfl, hsc, hst⟩
      have hst2 : (q ≤ 16 ∧ e2 = 0 ∧ a2 = 0 ∧ sc.preds.length = q) ∨ (16 < q ∧ e2 = 2 ∧ a2 = 0 ∧ sc.vars.length = 0) := by
        rw [← pr_a] at hst htx
        by_cases h16 : ps.length ≤ 16
        · rw [readS_ctx gd_a (by decide) hps (fun h => by cases h) h16 htx] at hst
          rcases hst with ⟨h3, h4, h5⟩ | ⟨h3, _⟩
          · cases h3; exact .inl ⟨by omega, h4, h5, by simp [hpl]⟩
          · cases h3
        · rw [readS_many gd_a hps (by omega) htx] at hst
          rcases hst with ⟨h3, _⟩ | ⟨h3, _, _, h6⟩
          · cases h3
          · cases h3; exact .inr ⟨by omega, rfl, rfl, by rw [h6]; rfl⟩
      clear hst
      obtain ⟨va, vc, pa, pc, f1, n1, s1, a1, k1, c1, hsh⟩ := id hsc.shape
      subst hsh
      rcases hst1 with ⟨h1, rfl, rfl, rfl⟩ | ⟨h1, rfl, rfl, rfl⟩
      all_goals
        rcases hst2 with ⟨h2, rfl, rfl, h3⟩ | ⟨h2, rfl, rfl, h3⟩
        all_goals
          simp only [Ty.name, Ty.form] at hM
          (repeat (first | refine seq_ ?_ | refine sq_normal ?_ | refine rl_nil ?_ | refine cond_t rfl ?_ | refine cond_f rfl ?_ | refine skip_ ?_ | (refine region_ (id := 10) ?_; (try (refine rl_move (v := (Value.int _ _ : Value)) rfl rfl ?_; (try ((first | (refine rl_leq_t rfl rfl rfl ?_ ?_; omega) | (refine rl_leq_f rfl rfl rfl ?_ ?_; omega)); (try (refine rl_move (v := (Value.bool _ : Value)) rfl rfl ?_; (try ((first | refine rl_off rfl ?_ | refine rl_loadAM (vs := [_, _]) 2 hM ag34 rfl rfl rfl rfl rfl ?_); (try ((first | refine rl_off rfl ?_ | refine rl_build [(Value.int .i64 0), (Value.int .i64 0)] ag34 pl34 rfl rfl rfl ?_); (try ((first | refine rl_off rfl ?_ | refine rl_aneq_f eq34 rfl rfl rfl rfl rfl (by first | rfl | assumption) ?_); (try ((first | refine rl_off rfl ?_ | refine rl_move (v := (Value.bool _ : Value)) rfl rfl ?_); (try ((first | refine rl_off rfl ?_ | refine rl_fld fd29_2 rfl rfl ?_); (try ((first | refine rl_off rfl ?_ | refine rl_loadM 3 hM vt9 rfl rfl rfl (by first | rfl | assumption) ?_); (try ((first | refine rl_off rfl ?_ | refine rl_sneq_f rfl rfl rfl (by first | rfl | assumption) ?_); (try ((first | refine rl_off rfl ?_ | refine rl_pick (v := (Value.bool _ : Value)) rfl rfl rfl ?_); (try (refine rl_pick (v := (Value.bool _ : Value)) rfl rfl rfl ?_))))))))))))))))))))))))) | (refine region_ (id := 12) ?_; (try (refine rl_move (v := (Value.int _ _ : Value)) rfl rfl ?_; (try ((first | (refine rl_gtr_t rfl rfl rfl ?_ ?_; omega) | (refine rl_gtr_f rfl rfl rfl ?_ ?_; omega)); (try (refine rl_move (v := (Value.bool _ : Value)) rfl rfl ?_; (try ((first | refine rl_off rfl ?_ | refine rl_loadAM (vs := [_, _]) 2 hM ag34 rfl rfl rfl rfl rfl ?_); (try ((first | refine rl_off rfl ?_ | refine rl_build [_, _] ag34 pl34 rfl rfl rfl ?_); (try ((first | refine rl_off rfl ?_ | refine rl_aneq_f eq34 rfl rfl rfl rfl rfl (by first | rfl | assumption) ?_); (try ((first | refine rl_off rfl ?_ | refine rl_move (v := (Value.bool _ : Value)) rfl rfl ?_); (try ((first | refine rl_off rfl ?_ | refine rl_fld fd29_0 rfl rfl ?_); (try ((first | refine rl_off rfl ?_ | refine rl_loadM 3 hM vt3 rfl rfl rfl (by first | rfl | assumption) ?_); (try ((first | refine rl_off rfl ?_ | (refine rl_neq_f rfl rfl rfl ?_ ?_; omega)); (try ((first | refine rl_off rfl ?_ | refine rl_pick (v := (Value.bool _ : Value)) rfl rfl rfl ?_); (try (refine rl_pick (v := (Value.bool _ : Value)) rfl rfl rfl ?_))))))))))))))))))))))))) | (refine region_ (id := 14) ?_; (try (refine rl_move (v := (Value.int _ _ : Value)) rfl rfl ?_; (try ((first | (refine rl_gtr_t rfl rfl rfl ?_ ?_; omega) | (refine rl_gtr_f rfl rfl rfl ?_ ?_; omega))))))) | (refine region_ (id := 15) ?_; (try (refine rl_loadAM (vs := [_, _]) 0 hM ag34 rfl rfl rfl rfl rfl ?_; (try (refine rl_build [_, (Value.int .i64 0)] ag34 pl34 rfl rfl rfl ?_; (try (refine rl_aeql_t eq34 rfl rfl rfl rfl rfl (by first | rfl | assumption) ?_; (try (refine rl_move (v := (Value.bool _ : Value)) rfl rfl ?_; (try (refine rl_fld fd31_0 rfl rfl ?_; (try (refine rl_loadM 1 hM vt23 rfl rfl rfl (by first | rfl | assumption) ?_; (try (refine rl_len sl23 rfl rfl ?_; (try ((refine rl_eql_t rfl rfl rfl ?_ ?_; omega); (try (refine rl_pick (v := (Value.bool _ : Value)) rfl rfl rfl ?_; (try (refine rl_move (v := (Value.bool _ : Value)) rfl rfl ?_))))))))))))))))))))) | (refine region_ (id := 16) ?_; (try (refine rl_loadAM (vs := [_, _]) 0 hM ag34 rfl rfl rfl rfl rfl ?_; (try (refine rl_build [(Value.int .i64 0), (Value.int .i64 0)] ag34 pl34 rfl rfl rfl ?_; (try (refine rl_aeql_t eq34 rfl rfl rfl rfl rfl (by first | rfl | assumption) ?_; (try (refine rl_move (v := (Value.bool _ : Value)) rfl rfl ?_; (try (refine rl_fld fd31_2 rfl rfl ?_; (try (refine rl_loadM 1 hM vt26 rfl rfl rfl (by first | rfl | assumption) ?_; (try (refine rl_len sl26 rfl rfl ?_; (try (refine rl_move (v := (Value.int _ _ : Value)) rfl rfl ?_; (try ((refine rl_eql_t rfl rfl rfl ?_ ?_; omega); (try (refine rl_pick (v := (Value.bool _ : Value)) rfl rfl rfl ?_; (try (refine rl_move (v := (Value.bool _ : Value)) rfl rfl ?_))))))))))))))))))))))) | refine rl_move (v := (Value.tuple _ : Value)) rfl rfl ?_ | refine rl_extract rfl rfl rfl ?_ | (refine rl_storeWM 0 hM ag34 rfl rfl rfl rfl rfl rfl rfl ?_; clear hM; intro w hM) | (refine rl_allocAM (d := 11) hM ag31 rfl ?_; clear hM; intro w b11 hM) | (refine rl_allocAM (d := 12) hM ag34 rfl ?_; clear hM; intro w b12 hM) | (refine rl_storeWM 1 hM ag31 rfl rfl rfl rfl rfl rfl rfl ?_; clear hM; intro w hM)))
          refine rl_callf fn11 (lives_ok w0 w _ V3 hM) rfl rfl ?_
          clear hM
          rintro _ w ⟨rfl, hM⟩
          (repeat (first | refine sq_normal ?_ | refine sq_ret ?_ | refine rl_nil ?_ | refine ret_ ?_ | refine rl_assign (v := (Value.bool _ : Value)) rfl rfl ?_ | refine rl_pick (v := (Value.bool _ : Value)) rfl rfl rfl ?_))
          exact bp_ret1 (v := Value.bool _) rfl rfl ⟨rfl, hM.below⟩
  rw [hw0] at key
  exact key
end Go.Proofs.Ytadbinckjmdokaa.Trd
