/- LexLimits. -/
import Derived.Test.YtlalagkkmoifpaaLexL5
import Derived.Test.YtlalagkkmoifpaaLexW16
set_option linter.unusedVariables false
set_option linter.unusedSimpArgs false
namespace Go.Proofs.Ytlalagkkmoifpaa.Lex
open Go Go.Eng Go.RowKit Go.Lx
attribute [local irreducible] RL RX KQ SQ Exit.inBlock Exit.then BP NP CallsOk IsSl IsRows IsInts IsBools Own Blk Code.wp Calls wpList
theorem blanks_lex : ∀ (n i : Nat), lexR (List.replicate n 32) i = .ok [⟨6, [], 0, ((i + n : Nat) : Int)⟩]
  | 0, i => rfl
  | n + 1, i => by
    rw [List.replicate_succ, lexR_blank rfl, blanks_lex n (i + 1)]
    congr 4
    omega
def nameB (j : Nat) : Bool := match lexA (32 :: List.replicate j 120) with | .ok _ => decide (j ≤ 32) | .error p => decide (32 < j) && decide (p = (2, 1))
theorem names_B : ∀ j ∈ [28, 29, 30, 31, 32, 33, 34, 35, 36, 37, 38], nameB j = true := by decide +kernel
theorem name_lex (j : Nat) (h1 : 28 ≤ j) (h2 : j ≤ 38) : (j ≤ 32 ∧ ∃ l, lexA (32 :: List.replicate j 120) = .ok l) ∨ (32 < j ∧ lexA (32 :: List.replicate j 120) = .error (2, 1)) := by
  have hm : j ∈ [28, 29, 30, 31, 32, 33, 34, 35, 36, 37, 38] := by
    simp only [List.mem_cons, List.not_mem_nil, or_false]; omega
  have := names_B j hm
  unfold nameB at this
  cases hx : lexA (32 :: List.replicate j 120) with
  | ok l => rw [hx] at this; exact .inl ⟨of_decide_eq_true this, l, rfl⟩
  | error p =>
    rw [hx] at this
    simp only [Bool.and_eq_true, decide_eq_true_eq] at this
    exact .inr ⟨this.1, by rw [this.2]⟩
theorem toldE {x : Except (Int × Nat) (List Tok)} {l : List Tok} {e a e' : Int} {n' : Nat} (h : (x = .ok l ∧ e = 0 ∧ a = 0) ∨ (l = [] ∧ e ≠ 0 ∧ ∃ n : Nat, x = .error (e, n) ∧ a = n)) (h' : x = .error (e', n')) : e = e' ∧ a = n' := by
  rcases h with ⟨h1, h2, h3⟩ | ⟨h1, h2, n, h3, h4⟩
  · rw [h1] at h'; cases h'
  · rw [h3] at h'
    cases h'
    exact ⟨rfl, h4⟩
theorem rep_snoc {α : Type} (n : Nat) (x : α) : List.replicate n x ++ [x] = List.replicate (n + 1) x := (List.replicate_succ' ..).symm
set_option maxHeartbeats 4000000 in
theorem law6 (n m k : Int) (w : World) (hn : I64 n) (hm : I64 m) (hk : I64 k) : CallsOk Try.prog 6 #[.int .i64 n, .int .i64 m, .int .i64 k] w fun r w' => r = .bool true ∧ Below w.heap.size w w' := by
  have hml := maxLen_le
  have hM := Mem.init w
  obtain ⟨w0, hw0⟩ : ∃ w0, w0 = w := ⟨_, rfl⟩
  obtain ⟨V, hVd⟩ : ∃ V, V = w.cell? := ⟨_, rfl⟩
  rw [← hVd] at hM
  have hM : Mem w0 w [] V := by rw [hw0]; exact hM
  have key : CallsOk Try.prog 6 #[.int .i64 n, .int .i64 m, .int .i64 k] w fun r w' => r = .bool true ∧ Below w0.heap.size w0 w' := by
    refine enter_ (N := 145) Try.func6 rfl rfl rfl ?_
    have r1 := around_lt n 12 (by omega)
    have r2 := around_lt m 11 (by omega)
    have r3 := around_lt k 13 (by omega)
    (repeat (first | refine seq_ ?_ | refine sq_normal ?_ | refine rl_nil ?_ | (refine region_ (id := 0) ?_; (try (refine rl_assign (v := (Value.bool _ : Value)) rfl rfl ?_))) | (refine region_ (id := 1) ?_; (try (refine rl_move (v := (Value.int _ _ : Value)) rfl rfl ?_)))))
    refine rl_callf fn18 (around_ok n 12 w hn.1 hn.2 (by omega) (by omega)) rfl rfl ?_
    rintro _ w ⟨rfl, rfl⟩
    obtain ⟨g, hg⟩ : ∃ g : Nat, (g : Int) = 3995 + around n 12 := ⟨(3995 + around n 12).toNat, by omega⟩
    (repeat (first | refine seq_ ?_ | refine sq_normal ?_ | refine rl_nil ?_ | refine block_ ?_ | (refine region_ (id := 2) ?_; (try (refine rl_assign (v := (Value.slice _ _ _ : Value)) rfl rfl ?_))) | (refine region_ (id := 3) ?_; (try (refine rl_assign (v := (Value.int _ _ : Value)) rfl rfl ?_))) | (refine rl_add rfl rfl rfl ?_ ?_ ?_; omega; omega) | refine rl_assign (v := (Value.int _ _ : Value)) rfl rfl ?_))
    rw [← hg]
    have hM := hM.newOwn 5 1
    refine loop2 [(8, 10), (30, 38)] 8 9 (fun mm v8 v9 wr => ∃ (a : Option Addr) (cc i : Nat), v8 = .slice a i cc ∧ v9 = .int .i64 i ∧ i ≤ g ∧ mm = g - i ∧ Mem w0 wr [.own (.slice a i cc) 5 1 i (List.replicate i (.int .u8 32))] V) _
      ⟨none, 0, 0, rfl, rfl, by omega, rfl, hM⟩ ?_
    clear hM
    rintro mm τ v8 v9 w ⟨a, cc, i, rfl, rfl, hi, rfl, hM⟩ K0 hL0
    by_cases hlt : i < g
    · (repeat (first | refine seq_ ?_ | refine sq_normal ?_ | refine rl_nil ?_ | refine cond_t rfl ?_ | refine skip_ ?_ | refine block_ ?_ | (refine region_ (id := 4) ?_; (try (refine rl_move (v := (Value.int _ _ : Value)) rfl rfl ?_; (try (refine rl_move (v := (Value.int _ _ : Value)) rfl rfl ?_; (try ((first | (refine rl_lss_t rfl rfl rfl ?_ ?_; omega) | (refine rl_lss_f rfl rfl rfl ?_ ?_; omega))))))))) | (refine region_ (id := 6) ?_; (try (refine rl_move (v := (Value.slice _ _ _ : Value)) rfl rfl ?_; (try ((refine rl_bsliceM (d := 36) [_] hM sl45 rfl rfl rfl rfl rfl (by decide) (by decide) ?_; clear hM; intro w b36 hM))))))))
      refine rl_appendM 1 (news := [Value.int .u8 32]) (B := b36) (off := 0) hM sl45 rfl (by decide) rfl (hM.row (i := 0) rfl) rfl rfl rfl (fun _ => rfl) rfl ?_ ?_ ?_ ?_
      · intro u hu
        simp only [List.mem_cons, List.not_mem_nil, or_false] at hu
        subst hu; rfl
      · unfold maxLen; omega
      · omega
      clear hM
      intro w a2 c2 _ _ hM
      (repeat (first | refine sq_normal ?_ | refine rl_nil ?_ | refine inBlock_normal ?_ | (refine region_ (id := 5) ?_; (try (refine rl_move (v := (Value.int _ _ : Value)) rfl rfl ?_; (try ((refine rl_add rfl rfl rfl ?_ ?_ ?_; omega; omega); (try (refine rl_assign (v := (Value.int _ _ : Value)) rfl rfl ?_))))))) | refine rl_assign (v := (Value.slice _ _ _ : Value)) rfl rfl ?_))
      have hM2 := hM.dropn 1
      exact kq_normal (hL0 (g - (i + 1)) _ _ (by omega) (by (repeat (first | with_reducible exact Agree.ov | with_reducible exact Agree.refl _ _ | refine Agree.upd rfl ?_ | refine Agree.ovs rfl ?_))) ⟨a2, c2, i + 1, rfl, rfl, by omega, rfl, by rw [← rep_snoc]; exact hM2⟩)
    · have hie : i = g := by omega
      subst hie
      (repeat (first | refine seq_ ?_ | refine sq_normal ?_ | refine sq_exit ?_ | refine rl_nil ?_ | refine cond_f rfl ?_ | refine exit_ ?_ | refine inBlock_exit ?_ | refine kq_exit ?_ | (refine region_ (id := 4) ?_; (try (refine rl_move (v := (Value.int _ _ : Value)) rfl rfl ?_; (try (refine rl_move (v := (Value.int _ _ : Value)) rfl rfl ?_; (try ((first | (refine rl_lss_t rfl rfl rfl ?_ ?_; omega) | (refine rl_lss_f rfl rfl rfl ?_ ?_; omega))))))))) | (refine region_ (id := 7) ?_; (try (refine rl_move (v := (Value.slice _ _ _ : Value)) rfl rfl ?_)))))
      obtain ⟨b0, hO, _⟩ := hM.own (i := 0) rfl
      obtain ⟨_, _, hsh, _, _, hA⟩ := hO.shape
      cases hsh
      have hA := hA (by omega)
      subst hA
      refine rl_b2s (List.replicate i 32) sl45.und (by kernel_rfl) us9 rfl rfl (by simp) (fun j u hj => ?_) ?_
      · have := hO.cell (i := j) (u := .int .u8 u.toNat) (by
          rw [List.getElem?_replicate] at hj ⊢
          split at hj
          · cases hj; rw [if_pos (by assumption)]; rfl
          · cases hj)
        rw [Nat.zero_add]; exact this
      clear hO
      skip
      refine rl_callf fn12 (lex_ok (List.replicate i 32) w0 w _ V hM (by simp; omega)) rfl rfl ?_
      clear hM
      rintro _ w ⟨V1, v1, l1, e1, a1, hV1, hM, rfl, htk1, ho1⟩
      have hE1 : (i ≤ 4000 ∧ e1 = 0 ∧ a1 = 0) ∨ (4000 < i ∧ e1 = 2 ∧ a1 = 0) := by
        by_cases h4 : i ≤ 4000
        · have := told ho1 (by rw [lexA_le (by simp; omega), blanks_lex])
          exact .inl ⟨h4, this.2⟩
        · have h5 : lexA (List.replicate i 32) = .error (2, 0) := by unfold lexA; rw [if_neg (by simp; omega)]
          have := toldE ho1 h5
          exact .inr ⟨by omega, this⟩
      obtain ⟨_, _, _, _, hsh, _⟩ := htk1
      subst hsh
      clear ho1
      (repeat (first | refine seq_ ?_ | refine sq_normal ?_ | refine rl_nil ?_ | (refine region_ (id := 8) ?_; (try (refine rl_assign (v := (Value.string _ : Value)) rfl rfl ?_))) | (refine region_ (id := 9) ?_; (try (refine rl_move (v := (Value.int _ _ : Value)) rfl rfl ?_))) | refine rl_assign (v := (Value.slice _ _ _ : Value)) rfl rfl ?_ | refine rl_move (v := (Value.tuple _ : Value)) rfl rfl ?_ | refine rl_extract rfl rfl rfl ?_ | (refine rl_allocAM (d := 11) hM ag30 rfl ?_; clear hM; intro w b11 hM) | (first | (refine rl_storeWM 0 hM ag30 rfl rfl rfl rfl rfl rfl rfl ?_; clear hM; intro w hM) | (refine rl_storeWM 1 hM ag30 rfl rfl rfl rfl rfl rfl rfl ?_; clear hM; intro w hM) | (refine rl_storeWM 2 hM ag30 rfl rfl rfl rfl rfl rfl rfl ?_; clear hM; intro w hM) | (refine rl_storeWM 3 hM ag30 rfl rfl rfl rfl rfl rfl rfl ?_; clear hM; intro w hM) | (refine rl_storeWM 4 hM ag30 rfl rfl rfl rfl rfl rfl rfl ?_; clear hM; intro w hM) | (refine rl_storeWM 5 hM ag30 rfl rfl rfl rfl rfl rfl rfl ?_; clear hM; intro w hM) | (refine rl_storeWM 6 hM ag30 rfl rfl rfl rfl rfl rfl rfl ?_; clear hM; intro w hM) | (refine rl_storeWM 7 hM ag30 rfl rfl rfl rfl rfl rfl rfl ?_; clear hM; intro w hM))))
      refine rl_callf fn18 (around_ok m 11 w hm.1 hm.2 (by omega) (by omega)) rfl rfl ?_
      rintro _ w ⟨rfl, rfl⟩
      obtain ⟨q, hq⟩ : ∃ q : Nat, (q : Int) = 28 + around m 11 := ⟨(28 + around m 11).toNat, by omega⟩
      (repeat (first | refine sq_normal ?_ | refine rl_nil ?_ | refine block_ ?_ | (refine rl_add rfl rfl rfl ?_ ?_ ?_; omega; omega) | refine rl_assign (v := (Value.int _ _ : Value)) rfl rfl ?_))
      rw [← hq]
      refine loop2 [(12, 14), (47, 53)] 12 13 (fun mm v12 v13 wr => ∃ j : Nat, v12 = St (List.replicate (q - j) 120) ∧ v13 = .int .i64 j ∧ j ≤ q ∧ mm = j ∧ Mem w0 wr (.blk b11 [.int .i64 e1, .int .i64 a1] 30 :: .own (.slice (some ⟨b0, 0, none⟩) i cc) 5 1 i (List.replicate i (.int .u8 32)) :: []) V1) _
        ⟨q, by rw [Nat.sub_self]; rfl, rfl, by omega, rfl, hM⟩ ?_
      clear hM
      rintro mm τ2 v12 v13 w ⟨j, rfl, rfl, hj, rfl, hM⟩ K2 hL2
      by_cases hlt2 : 0 < mm
      · have hrl : (List.replicate (q - mm) (120 : UInt8)).length = q - mm := by simp
        (repeat (first | refine seq_ ?_ | refine sq_normal ?_ | refine rl_nil ?_ | refine cond_t rfl ?_ | refine skip_ ?_ | refine block_ ?_ | refine inBlock_normal ?_ | (refine region_ (id := 10) ?_; (try (refine rl_move (v := (Value.int _ _ : Value)) rfl rfl ?_; (try ((first | (refine rl_gtr_t rfl rfl rfl ?_ ?_; omega) | (refine rl_gtr_f rfl rfl rfl ?_ ?_; omega))))))) | (refine region_ (id := 11) ?_; (try (refine rl_move (v := (Value.int _ _ : Value)) rfl rfl ?_; (try ((refine rl_sub rfl rfl rfl ?_ ?_ ?_; omega; omega); (try (refine rl_assign (v := (Value.int _ _ : Value)) rfl rfl ?_))))))) | (refine region_ (id := 12) ?_; (try (refine rl_move (v := (Value.string _ : Value)) rfl rfl ?_; (try ((refine rl_sadd rfl rfl rfl (by (first | omega | (simp only [List.length_append, List.length_cons, List.length_nil, List.length_take, List.length_drop] at *; omega))) ?_); (try (refine rl_assign (v := (Value.string _ : Value)) rfl rfl ?_)))))))))
        exact kq_normal (hL2 (mm - 1) _ _ (by omega) (by (repeat (first | with_reducible exact Agree.ov | with_reducible exact Agree.refl _ _ | refine Agree.upd rfl ?_ | refine Agree.ovs rfl ?_))) ⟨mm - 1, by rw [rep_snoc, show q - mm + 1 = q - (mm - 1) by omega]; rfl, by rw [show ((mm - 1 : Nat) : Int) = (mm : Int) - 1 by omega]; rfl, by omega, rfl, hM⟩)
      · have hj0 : mm = 0 := by omega
        subst hj0
        have hrl : (List.replicate (q - 0) (120 : UInt8)).length = q - 0 := by simp
        (repeat (first | refine seq_ ?_ | refine sq_normal ?_ | refine sq_exit ?_ | refine rl_nil ?_ | refine cond_f rfl ?_ | refine exit_ ?_ | refine inBlock_exit ?_ | refine kq_exit ?_ | (refine region_ (id := 10) ?_; (try (refine rl_move (v := (Value.int _ _ : Value)) rfl rfl ?_; (try ((first | (refine rl_gtr_t rfl rfl rfl ?_ ?_; omega) | (refine rl_gtr_f rfl rfl rfl ?_ ?_; omega))))))) | (refine region_ (id := 13) ?_; (try (refine rl_move (v := (Value.string _ : Value)) rfl rfl ?_; (try ((refine rl_sadd rfl rfl rfl (by (first | omega | (simp only [List.length_append, List.length_cons, List.length_nil, List.length_take, List.length_drop] at *; omega))) ?_))))))))
        refine rl_callf fn12 (lex_ok (32 :: List.replicate q 120) w0 w _ V1 hM (by simp; omega)) rfl rfl ?_
        clear hM
        rintro _ w ⟨V2, v2, l2, e2, a2, hV2, hM, rfl, htk2, ho2⟩
        have hE2 : (q ≤ 32 ∧ e2 = 0 ∧ a2 = 0) ∨ (32 < q ∧ e2 = 2 ∧ a2 = 1) := by
          rcases name_lex q (by omega) (by omega) with ⟨h4, l', h5⟩ | ⟨h4, h5⟩
          · have := told ho2 h5
            exact .inl ⟨h4, this.2⟩
          · have := toldE ho2 h5
            exact .inr ⟨h4, this⟩
        obtain ⟨_, _, _, _, hsh, _⟩ := htk2
        subst hsh
        clear ho2
        (repeat (first | refine seq_ ?_ | refine sq_normal ?_ | refine rl_nil ?_ | (refine region_ (id := 14) ?_; (try (refine rl_assign (v := (Value.string _ : Value)) rfl rfl ?_))) | (refine region_ (id := 15) ?_; (try (refine rl_move (v := (Value.int _ _ : Value)) rfl rfl ?_))) | refine rl_assign (v := (Value.slice _ _ _ : Value)) rfl rfl ?_ | refine rl_move (v := (Value.tuple _ : Value)) rfl rfl ?_ | refine rl_extract rfl rfl rfl ?_ | (first | (refine rl_storeWM 0 hM ag30 rfl rfl rfl rfl rfl rfl rfl ?_; clear hM; intro w hM) | (refine rl_storeWM 1 hM ag30 rfl rfl rfl rfl rfl rfl rfl ?_; clear hM; intro w hM) | (refine rl_storeWM 2 hM ag30 rfl rfl rfl rfl rfl rfl rfl ?_; clear hM; intro w hM) | (refine rl_storeWM 3 hM ag30 rfl rfl rfl rfl rfl rfl rfl ?_; clear hM; intro w hM) | (refine rl_storeWM 4 hM ag30 rfl rfl rfl rfl rfl rfl rfl ?_; clear hM; intro w hM) | (refine rl_storeWM 5 hM ag30 rfl rfl rfl rfl rfl rfl rfl ?_; clear hM; intro w hM) | (refine rl_storeWM 6 hM ag30 rfl rfl rfl rfl rfl rfl rfl ?_; clear hM; intro w hM) | (refine rl_storeWM 7 hM ag30 rfl rfl rfl rfl rfl rfl rfl ?_; clear hM; intro w hM)) | (refine rl_allocAM (d := 15) hM ag30 rfl ?_; clear hM; intro w b15 hM)))
        refine rl_callf fn18 (around_ok k 13 w hk.1 hk.2 (by omega) (by omega)) rfl rfl ?_
        rintro _ w ⟨rfl, rfl⟩
        obtain ⟨z, hz⟩ : ∃ z : Nat, (z : Int) = around k 13 := ⟨(around k 13).toNat, by omega⟩
        (repeat (first | refine sq_normal ?_ | refine rl_nil ?_ | refine block_ ?_ | refine rl_assign (v := (Value.int _ _ : Value)) rfl rfl ?_))
        rw [← hz]
        refine loop2 [(16, 18), (61, 67)] 16 17 (fun mm v16 v17 wr => ∃ j : Nat, v16 = St ([50, 49, 52, 55, 52, 56, 51] ++ List.replicate (z - j) 57) ∧ v17 = .int .i64 j ∧ j ≤ z ∧ mm = j ∧ Mem w0 wr (.blk b15 [.int .i64 e2, .int .i64 a2] 30 :: .blk b11 [.int .i64 e1, .int .i64 a1] 30 :: .own (.slice (some ⟨b0, 0, none⟩) i cc) 5 1 i (List.replicate i (.int .u8 32)) :: []) V2) _
          ⟨z, by rw [Nat.sub_self]; rfl, rfl, by omega, rfl, hM⟩ ?_
        clear hM
        rintro mm τ3 v16 v17 w ⟨j, rfl, rfl, hj, rfl, hM⟩ K4 hL4
        have hdl : ([50, 49, 52, 55, 52, 56, 51] ++ List.replicate (z - mm) (57 : UInt8)).length = 7 + (z - mm) := by simp; omega
        by_cases hlt3 : 0 < mm
        · (repeat (first | refine seq_ ?_ | refine sq_normal ?_ | refine rl_nil ?_ | refine cond_t rfl ?_ | refine skip_ ?_ | refine block_ ?_ | refine inBlock_normal ?_ | (refine region_ (id := 16) ?_; (try (refine rl_move (v := (Value.int _ _ : Value)) rfl rfl ?_; (try ((first | (refine rl_gtr_t rfl rfl rfl ?_ ?_; omega) | (refine rl_gtr_f rfl rfl rfl ?_ ?_; omega))))))) | (refine region_ (id := 17) ?_; (try (refine rl_move (v := (Value.int _ _ : Value)) rfl rfl ?_; (try ((refine rl_sub rfl rfl rfl ?_ ?_ ?_; omega; omega); (try (refine rl_assign (v := (Value.int _ _ : Value)) rfl rfl ?_))))))) | (refine region_ (id := 18) ?_; (try (refine rl_move (v := (Value.string _ : Value)) rfl rfl ?_; (try ((refine rl_sadd rfl rfl rfl (by (first | omega | (simp only [List.length_append, List.length_cons, List.length_nil, List.length_take, List.length_drop] at *; omega))) ?_); (try (refine rl_assign (v := (Value.string _ : Value)) rfl rfl ?_)))))))))
          exact kq_normal (hL4 (mm - 1) _ _ (by omega) (by (repeat (first | with_reducible exact Agree.ov | with_reducible exact Agree.refl _ _ | refine Agree.upd rfl ?_ | refine Agree.ovs rfl ?_))) ⟨mm - 1, by rw [List.append_assoc, rep_snoc, show z - mm + 1 = z - (mm - 1) by omega]; rfl, by rw [show ((mm - 1 : Nat) : Int) = (mm : Int) - 1 by omega]; rfl, by omega, rfl, hM⟩)
        · have hj0 : mm = 0 := by omega
          subst hj0
          obtain ⟨D, hD⟩ : ∃ D : List UInt8, D = [50, 49, 52, 55, 52, 56, 51] ++ List.replicate (z - 0) (57 : UInt8) := ⟨_, rfl⟩
          rw [← hD] at hdl ⊢
          have hD1 : D.length ≤ 100000 := by omega
          (repeat (first | refine seq_ ?_ | refine sq_normal ?_ | refine sq_exit ?_ | refine rl_nil ?_ | refine cond_f rfl ?_ | refine exit_ ?_ | refine inBlock_exit ?_ | refine kq_exit ?_ | (refine region_ (id := 16) ?_; (try (refine rl_move (v := (Value.int _ _ : Value)) rfl rfl ?_; (try ((first | (refine rl_gtr_t rfl rfl rfl ?_ ?_; omega) | (refine rl_gtr_f rfl rfl rfl ?_ ?_; omega))))))) | (refine region_ (id := 19) ?_; (try (refine rl_move (v := (Value.int _ _ : Value)) rfl rfl ?_)))))
          refine rl_callf fn18 (around_ok k 13 w hk.1 hk.2 (by omega) (by omega)) rfl rfl ?_
          rintro _ w ⟨rfl, rfl⟩
          (repeat (first | (refine rl_add rfl rfl rfl ?_ ?_ ?_; omega; omega)))
          refine rl_callf fn19 (decimal_ok 10 _ w0 w _ V2 hM (by omega) (by omega) (by omega) (by omega)) rfl rfl ?_
          clear hM
          rintro _ w ⟨d, rfl, hd, hM⟩
          have hd1 : d.length ≤ 100000 := by omega
          (repeat (first | refine seq_ ?_ | refine sq_normal ?_ | refine rl_nil ?_ | (refine region_ (id := 20) ?_; (try (refine rl_move (v := (Value.string _ : Value)) rfl rfl ?_))) | refine rl_assign (v := (Value.string _ : Value)) rfl rfl ?_))
          refine rl_callf fn12 (lex_ok D w0 w _ V2 hM (by omega)) rfl rfl ?_
          clear hM
          rintro _ w ⟨V3, v3, l3, e3, a3, hV3, hM, rfl, htk3, ho3⟩
          obtain ⟨_, _, _, _, hsh, _⟩ := id htk3
          subst hsh
          (repeat (first | refine seq_ ?_ | refine sq_normal ?_ | refine rl_nil ?_ | (refine region_ (id := 21) ?_; (try (refine rl_move (v := (Value.string _ : Value)) rfl rfl ?_))) | refine rl_assign (v := (Value.slice _ _ _ : Value)) rfl rfl ?_ | refine rl_move (v := (Value.tuple _ : Value)) rfl rfl ?_ | refine rl_extract rfl rfl rfl ?_ | (first | (refine rl_storeWM 0 hM ag30 rfl rfl rfl rfl rfl rfl rfl ?_; clear hM; intro w hM) | (refine rl_storeWM 1 hM ag30 rfl rfl rfl rfl rfl rfl rfl ?_; clear hM; intro w hM) | (refine rl_storeWM 2 hM ag30 rfl rfl rfl rfl rfl rfl rfl ?_; clear hM; intro w hM) | (refine rl_storeWM 3 hM ag30 rfl rfl rfl rfl rfl rfl rfl ?_; clear hM; intro w hM) | (refine rl_storeWM 4 hM ag30 rfl rfl rfl rfl rfl rfl rfl ?_; clear hM; intro w hM) | (refine rl_storeWM 5 hM ag30 rfl rfl rfl rfl rfl rfl rfl ?_; clear hM; intro w hM) | (refine rl_storeWM 6 hM ag30 rfl rfl rfl rfl rfl rfl rfl ?_; clear hM; intro w hM) | (refine rl_storeWM 7 hM ag30 rfl rfl rfl rfl rfl rfl rfl ?_; clear hM; intro w hM)) | (refine rl_allocAM (d := 20) hM ag30 rfl ?_; clear hM; intro w b20 hM)))
          refine rl_callf fn12 (lex_ok d w0 w _ V3 hM (by omega)) rfl rfl ?_
          clear hM
          rintro _ w ⟨V4, v4, l4, e4, a4, hV4, hM, rfl, htk4, ho4⟩
          obtain ⟨_, _, _, _, hsh, _⟩ := id htk4
          subst hsh
          (repeat (first | refine seq_ ?_ | refine sq_normal ?_ | refine rl_nil ?_ | (refine region_ (id := 22) ?_; (try (refine rl_move (v := (Value.string _ : Value)) rfl rfl ?_))) | refine rl_assign (v := (Value.slice _ _ _ : Value)) rfl rfl ?_ | refine rl_move (v := (Value.tuple _ : Value)) rfl rfl ?_ | refine rl_extract rfl rfl rfl ?_ | (first | (refine rl_storeWM 0 hM ag30 rfl rfl rfl rfl rfl rfl rfl ?_; clear hM; intro w hM) | (refine rl_storeWM 1 hM ag30 rfl rfl rfl rfl rfl rfl rfl ?_; clear hM; intro w hM) | (refine rl_storeWM 2 hM ag30 rfl rfl rfl rfl rfl rfl rfl ?_; clear hM; intro w hM) | (refine rl_storeWM 3 hM ag30 rfl rfl rfl rfl rfl rfl rfl ?_; clear hM; intro w hM) | (refine rl_storeWM 4 hM ag30 rfl rfl rfl rfl rfl rfl rfl ?_; clear hM; intro w hM) | (refine rl_storeWM 5 hM ag30 rfl rfl rfl rfl rfl rfl rfl ?_; clear hM; intro w hM) | (refine rl_storeWM 6 hM ag30 rfl rfl rfl rfl rfl rfl rfl ?_; clear hM; intro w hM) | (refine rl_storeWM 7 hM ag30 rfl rfl rfl rfl rfl rfl rfl ?_; clear hM; intro w hM)) | (refine rl_allocAM (d := 22) hM ag30 rfl ?_; clear hM; intro w b22 hM)))
          refine rl_callf fn13 (reflex_ok D w0 w _ V4 hM (by omega)) rfl rfl ?_
          clear hM
          rintro _ w ⟨V5, v5, l5, e5, a5, hV5, hM, rfl, htk5, ho5⟩
          obtain ⟨_, _, _, _, hsh, _⟩ := id htk5
          subst hsh
          have hl3 : l3.length ≤ 1000000 := lex_len ho3 hD1
          obtain ⟨rfl, rfl, rfl⟩ := agree ho3 ho5
          clear ho3 ho5
          (repeat (first | refine seq_ ?_ | refine sq_normal ?_ | refine rl_nil ?_ | (refine region_ (id := 23) ?_; (try (refine rl_move (v := (Value.string _ : Value)) rfl rfl ?_))) | refine rl_assign (v := (Value.slice _ _ _ : Value)) rfl rfl ?_ | refine rl_move (v := (Value.tuple _ : Value)) rfl rfl ?_ | refine rl_extract rfl rfl rfl ?_ | (first | (refine rl_storeWM 0 hM ag30 rfl rfl rfl rfl rfl rfl rfl ?_; clear hM; intro w hM) | (refine rl_storeWM 1 hM ag30 rfl rfl rfl rfl rfl rfl rfl ?_; clear hM; intro w hM) | (refine rl_storeWM 2 hM ag30 rfl rfl rfl rfl rfl rfl rfl ?_; clear hM; intro w hM) | (refine rl_storeWM 3 hM ag30 rfl rfl rfl rfl rfl rfl rfl ?_; clear hM; intro w hM) | (refine rl_storeWM 4 hM ag30 rfl rfl rfl rfl rfl rfl rfl ?_; clear hM; intro w hM) | (refine rl_storeWM 5 hM ag30 rfl rfl rfl rfl rfl rfl rfl ?_; clear hM; intro w hM) | (refine rl_storeWM 6 hM ag30 rfl rfl rfl rfl rfl rfl rfl ?_; clear hM; intro w hM) | (refine rl_storeWM 7 hM ag30 rfl rfl rfl rfl rfl rfl rfl ?_; clear hM; intro w hM)) | (refine rl_allocAM (d := 24) hM ag30 rfl ?_; clear hM; intro w b24 hM)))
          refine rl_callf fn13 (reflex_ok d w0 w _ V5 hM (by omega)) rfl rfl ?_
          clear hM
          rintro _ w ⟨V6, v6, l6, e6, a6, hV6, hM, rfl, htk6, ho6⟩
          obtain ⟨_, _, _, _, hsh, _⟩ := id htk6
          subst hsh
          have hl4 : l4.length ≤ 1000000 := lex_len ho4 hd1
          obtain ⟨rfl, rfl, rfl⟩ := agree ho4 ho6
          clear ho4 ho6
          have hne : ([Value.int .i64 2, Value.int .i64 0] : List Value) ≠ [Value.int .i64 0, Value.int .i64 0] := by intro h; cases h
          have hne2 : ([Value.int .i64 2, Value.int .i64 1] : List Value) ≠ [Value.int .i64 0, Value.int .i64 0] := by intro h; cases h
          have htk3 := htk3.le (hV4.trans (hV5.trans hV6))
          have htk4 := htk4.le (hV5.trans hV6)
          have htk5 := htk5.le hV6
          rcases hE1 with ⟨h4, rfl, rfl⟩ | ⟨h4, rfl, rfl⟩ <;> rcases hE2 with ⟨h5, rfl, rfl⟩ | ⟨h5, rfl, rfl⟩
          all_goals
            (repeat (first | refine seq_ ?_ | refine sq_normal ?_ | refine rl_nil ?_ | refine cond_f rfl ?_ | refine skip_ ?_ | (refine region_ (id := 24) ?_; (try ((first | refine rl_loadAV hM ag30 rfl rfl (by assumption) (by rfl) ?_ | refine rl_loadAM (vs := [_, _]) 0 hM ag30 rfl rfl rfl rfl rfl ?_ | refine rl_loadAM (vs := [_, _]) 1 hM ag30 rfl rfl rfl rfl rfl ?_ | refine rl_loadAM (vs := [_, _]) 2 hM ag30 rfl rfl rfl rfl rfl ?_ | refine rl_loadAM (vs := [_, _]) 3 hM ag30 rfl rfl rfl rfl rfl ?_ | refine rl_loadAM (vs := [_, _]) 4 hM ag30 rfl rfl rfl rfl rfl ?_ | refine rl_loadAM (vs := [_, _]) 5 hM ag30 rfl rfl rfl rfl rfl ?_ | refine rl_loadAM (vs := [_, _]) 6 hM ag30 rfl rfl rfl rfl rfl ?_ | refine rl_loadAM (vs := [_, _]) 7 hM ag30 rfl rfl rfl rfl rfl ?_); (try (refine rl_build [(Value.int .i64 0), (Value.int .i64 0)] ag30 pl30 rfl rfl rfl ?_; (try ((first | refine rl_aeql_t eq30 rfl rfl rfl rfl rfl (by first | rfl | assumption) ?_ | refine rl_aeql_f eq30 rfl rfl rfl rfl rfl (by assumption) ?_); (try (refine rl_move (v := (Value.int _ _ : Value)) rfl rfl ?_; (try ((first | (refine rl_leq_t rfl rfl rfl ?_ ?_; omega) | (refine rl_leq_f rfl rfl rfl ?_ ?_; omega)); (try (refine rl_neqbool ub4 rfl rfl rfl ?_; (try (refine rl_move (v := (Value.bool _ : Value)) rfl rfl ?_; (try ((first | refine rl_off rfl ?_ | refine rl_loadAV hM ag30 rfl rfl (by assumption) (by rfl) ?_ | refine rl_loadAM (vs := [_, _]) 0 hM ag30 rfl rfl rfl rfl rfl ?_ | refine rl_loadAM (vs := [_, _]) 1 hM ag30 rfl rfl rfl rfl rfl ?_ | refine rl_loadAM (vs := [_, _]) 2 hM ag30 rfl rfl rfl rfl rfl ?_ | refine rl_loadAM (vs := [_, _]) 3 hM ag30 rfl rfl rfl rfl rfl ?_ | refine rl_loadAM (vs := [_, _]) 4 hM ag30 rfl rfl rfl rfl rfl ?_ | refine rl_loadAM (vs := [_, _]) 5 hM ag30 rfl rfl rfl rfl rfl ?_ | refine rl_loadAM (vs := [_, _]) 6 hM ag30 rfl rfl rfl rfl rfl ?_ | refine rl_loadAM (vs := [_, _]) 7 hM ag30 rfl rfl rfl rfl rfl ?_); (try ((first | refine rl_off rfl ?_ | refine rl_build [(Value.int .i64 0), (Value.int .i64 0)] ag30 pl30 rfl rfl rfl ?_); (try ((first | refine rl_off rfl ?_ | refine rl_aneq_f eq30 rfl rfl rfl rfl rfl (by first | rfl | assumption) ?_ | refine rl_aneq_t eq30 rfl rfl rfl rfl rfl (by assumption) ?_); (try ((first | refine rl_off rfl ?_ | refine rl_move (v := (Value.bool _ : Value)) rfl rfl ?_); (try ((first | refine rl_off rfl ?_ | refine rl_loadAV hM ag30 rfl rfl (by assumption) (by rfl) ?_ | refine rl_loadAM (vs := [_, _]) 0 hM ag30 rfl rfl rfl rfl rfl ?_ | refine rl_loadAM (vs := [_, _]) 1 hM ag30 rfl rfl rfl rfl rfl ?_ | refine rl_loadAM (vs := [_, _]) 2 hM ag30 rfl rfl rfl rfl rfl ?_ | refine rl_loadAM (vs := [_, _]) 3 hM ag30 rfl rfl rfl rfl rfl ?_ | refine rl_loadAM (vs := [_, _]) 4 hM ag30 rfl rfl rfl rfl rfl ?_ | refine rl_loadAM (vs := [_, _]) 5 hM ag30 rfl rfl rfl rfl rfl ?_ | refine rl_loadAM (vs := [_, _]) 6 hM ag30 rfl rfl rfl rfl rfl ?_ | refine rl_loadAM (vs := [_, _]) 7 hM ag30 rfl rfl rfl rfl rfl ?_); (try ((first | refine rl_off rfl ?_ | refine rl_build [_, (Value.int .i64 0)] ag30 pl30 rfl rfl rfl ?_); (try ((first | refine rl_off rfl ?_ | refine rl_aneq_f eq30 rfl rfl rfl rfl rfl (by first | rfl | assumption) ?_ | refine rl_aneq_t eq30 rfl rfl rfl rfl rfl (by assumption) ?_); (try ((first | refine rl_off rfl ?_ | refine rl_pick (v := (Value.bool _ : Value)) rfl rfl rfl ?_); (try (refine rl_pick (v := (Value.bool _ : Value)) rfl rfl rfl ?_))))))))))))))))))))))))))))))))) | (refine region_ (id := 26) ?_; (try ((first | refine rl_loadAV hM ag30 rfl rfl (by assumption) (by rfl) ?_ | refine rl_loadAM (vs := [_, _]) 0 hM ag30 rfl rfl rfl rfl rfl ?_ | refine rl_loadAM (vs := [_, _]) 1 hM ag30 rfl rfl rfl rfl rfl ?_ | refine rl_loadAM (vs := [_, _]) 2 hM ag30 rfl rfl rfl rfl rfl ?_ | refine rl_loadAM (vs := [_, _]) 3 hM ag30 rfl rfl rfl rfl rfl ?_ | refine rl_loadAM (vs := [_, _]) 4 hM ag30 rfl rfl rfl rfl rfl ?_ | refine rl_loadAM (vs := [_, _]) 5 hM ag30 rfl rfl rfl rfl rfl ?_ | refine rl_loadAM (vs := [_, _]) 6 hM ag30 rfl rfl rfl rfl rfl ?_ | refine rl_loadAM (vs := [_, _]) 7 hM ag30 rfl rfl rfl rfl rfl ?_); (try (refine rl_build [(Value.int .i64 0), (Value.int .i64 0)] ag30 pl30 rfl rfl rfl ?_; (try ((first | refine rl_aeql_t eq30 rfl rfl rfl rfl rfl (by first | rfl | assumption) ?_ | refine rl_aeql_f eq30 rfl rfl rfl rfl rfl (by assumption) ?_); (try (refine rl_move (v := (Value.string _ : Value)) rfl rfl ?_; (try (refine rl_slen us9 rfl rfl ?_; (try ((first | (refine rl_leq_t rfl rfl rfl ?_ ?_; omega) | (refine rl_leq_f rfl rfl rfl ?_ ?_; omega)); (try (refine rl_neqbool ub4 rfl rfl rfl ?_; (try (refine rl_move (v := (Value.bool _ : Value)) rfl rfl ?_; (try ((first | refine rl_off rfl ?_ | refine rl_loadAV hM ag30 rfl rfl (by assumption) (by rfl) ?_ | refine rl_loadAM (vs := [_, _]) 0 hM ag30 rfl rfl rfl rfl rfl ?_ | refine rl_loadAM (vs := [_, _]) 1 hM ag30 rfl rfl rfl rfl rfl ?_ | refine rl_loadAM (vs := [_, _]) 2 hM ag30 rfl rfl rfl rfl rfl ?_ | refine rl_loadAM (vs := [_, _]) 3 hM ag30 rfl rfl rfl rfl rfl ?_ | refine rl_loadAM (vs := [_, _]) 4 hM ag30 rfl rfl rfl rfl rfl ?_ | refine rl_loadAM (vs := [_, _]) 5 hM ag30 rfl rfl rfl rfl rfl ?_ | refine rl_loadAM (vs := [_, _]) 6 hM ag30 rfl rfl rfl rfl rfl ?_ | refine rl_loadAM (vs := [_, _]) 7 hM ag30 rfl rfl rfl rfl rfl ?_); (try ((first | refine rl_off rfl ?_ | refine rl_build [(Value.int .i64 0), (Value.int .i64 0)] ag30 pl30 rfl rfl rfl ?_); (try ((first | refine rl_off rfl ?_ | refine rl_aneq_f eq30 rfl rfl rfl rfl rfl (by first | rfl | assumption) ?_ | refine rl_aneq_t eq30 rfl rfl rfl rfl rfl (by assumption) ?_); (try ((first | refine rl_off rfl ?_ | refine rl_move (v := (Value.bool _ : Value)) rfl rfl ?_); (try ((first | refine rl_off rfl ?_ | refine rl_loadAV hM ag30 rfl rfl (by assumption) (by rfl) ?_ | refine rl_loadAM (vs := [_, _]) 0 hM ag30 rfl rfl rfl rfl rfl ?_ | refine rl_loadAM (vs := [_, _]) 1 hM ag30 rfl rfl rfl rfl rfl ?_ | refine rl_loadAM (vs := [_, _]) 2 hM ag30 rfl rfl rfl rfl rfl ?_ | refine rl_loadAM (vs := [_, _]) 3 hM ag30 rfl rfl rfl rfl rfl ?_ | refine rl_loadAM (vs := [_, _]) 4 hM ag30 rfl rfl rfl rfl rfl ?_ | refine rl_loadAM (vs := [_, _]) 5 hM ag30 rfl rfl rfl rfl rfl ?_ | refine rl_loadAM (vs := [_, _]) 6 hM ag30 rfl rfl rfl rfl rfl ?_ | refine rl_loadAM (vs := [_, _]) 7 hM ag30 rfl rfl rfl rfl rfl ?_); (try ((first | refine rl_off rfl ?_ | refine rl_build [_, _] ag30 pl30 rfl rfl rfl ?_); (try ((first | refine rl_off rfl ?_ | refine rl_aneq_f eq30 rfl rfl rfl rfl rfl (by first | rfl | assumption) ?_ | refine rl_aneq_t eq30 rfl rfl rfl rfl rfl (by assumption) ?_); (try ((first | refine rl_off rfl ?_ | refine rl_pick (v := (Value.bool _ : Value)) rfl rfl rfl ?_); (try (refine rl_pick (v := (Value.bool _ : Value)) rfl rfl rfl ?_))))))))))))))))))))))))))))))))))) | (refine region_ (id := 28) ?_; (try ((first | refine rl_loadAV hM ag30 rfl rfl (by assumption) (by rfl) ?_ | refine rl_loadAM (vs := [_, _]) 0 hM ag30 rfl rfl rfl rfl rfl ?_ | refine rl_loadAM (vs := [_, _]) 1 hM ag30 rfl rfl rfl rfl rfl ?_ | refine rl_loadAM (vs := [_, _]) 2 hM ag30 rfl rfl rfl rfl rfl ?_ | refine rl_loadAM (vs := [_, _]) 3 hM ag30 rfl rfl rfl rfl rfl ?_ | refine rl_loadAM (vs := [_, _]) 4 hM ag30 rfl rfl rfl rfl rfl ?_ | refine rl_loadAM (vs := [_, _]) 5 hM ag30 rfl rfl rfl rfl rfl ?_ | refine rl_loadAM (vs := [_, _]) 6 hM ag30 rfl rfl rfl rfl rfl ?_ | refine rl_loadAM (vs := [_, _]) 7 hM ag30 rfl rfl rfl rfl rfl ?_); (try ((first | refine rl_loadAV hM ag30 rfl rfl (by assumption) (by rfl) ?_ | refine rl_loadAM (vs := [_, _]) 0 hM ag30 rfl rfl rfl rfl rfl ?_ | refine rl_loadAM (vs := [_, _]) 1 hM ag30 rfl rfl rfl rfl rfl ?_ | refine rl_loadAM (vs := [_, _]) 2 hM ag30 rfl rfl rfl rfl rfl ?_ | refine rl_loadAM (vs := [_, _]) 3 hM ag30 rfl rfl rfl rfl rfl ?_ | refine rl_loadAM (vs := [_, _]) 4 hM ag30 rfl rfl rfl rfl rfl ?_ | refine rl_loadAM (vs := [_, _]) 5 hM ag30 rfl rfl rfl rfl rfl ?_ | refine rl_loadAM (vs := [_, _]) 6 hM ag30 rfl rfl rfl rfl rfl ?_ | refine rl_loadAM (vs := [_, _]) 7 hM ag30 rfl rfl rfl rfl rfl ?_); (try ((first | refine rl_aeql_t eq30 rfl rfl rfl rfl rfl (by first | rfl | assumption) ?_ | refine rl_aeql_f eq30 rfl rfl rfl rfl rfl (by assumption) ?_); (try (refine rl_move (v := (Value.bool _ : Value)) rfl rfl ?_; (try ((first | refine rl_off rfl ?_ | refine rl_loadAV hM ag30 rfl rfl (by assumption) (by rfl) ?_ | refine rl_loadAM (vs := [_, _]) 0 hM ag30 rfl rfl rfl rfl rfl ?_ | refine rl_loadAM (vs := [_, _]) 1 hM ag30 rfl rfl rfl rfl rfl ?_ | refine rl_loadAM (vs := [_, _]) 2 hM ag30 rfl rfl rfl rfl rfl ?_ | refine rl_loadAM (vs := [_, _]) 3 hM ag30 rfl rfl rfl rfl rfl ?_ | refine rl_loadAM (vs := [_, _]) 4 hM ag30 rfl rfl rfl rfl rfl ?_ | refine rl_loadAM (vs := [_, _]) 5 hM ag30 rfl rfl rfl rfl rfl ?_ | refine rl_loadAM (vs := [_, _]) 6 hM ag30 rfl rfl rfl rfl rfl ?_ | refine rl_loadAM (vs := [_, _]) 7 hM ag30 rfl rfl rfl rfl rfl ?_); (try ((first | refine rl_off rfl ?_ | refine rl_loadAV hM ag30 rfl rfl (by assumption) (by rfl) ?_ | refine rl_loadAM (vs := [_, _]) 0 hM ag30 rfl rfl rfl rfl rfl ?_ | refine rl_loadAM (vs := [_, _]) 1 hM ag30 rfl rfl rfl rfl rfl ?_ | refine rl_loadAM (vs := [_, _]) 2 hM ag30 rfl rfl rfl rfl rfl ?_ | refine rl_loadAM (vs := [_, _]) 3 hM ag30 rfl rfl rfl rfl rfl ?_ | refine rl_loadAM (vs := [_, _]) 4 hM ag30 rfl rfl rfl rfl rfl ?_ | refine rl_loadAM (vs := [_, _]) 5 hM ag30 rfl rfl rfl rfl rfl ?_ | refine rl_loadAM (vs := [_, _]) 6 hM ag30 rfl rfl rfl rfl rfl ?_ | refine rl_loadAM (vs := [_, _]) 7 hM ag30 rfl rfl rfl rfl rfl ?_); (try ((first | refine rl_off rfl ?_ | refine rl_aeql_t eq30 rfl rfl rfl rfl rfl (by first | rfl | assumption) ?_ | refine rl_aeql_f eq30 rfl rfl rfl rfl rfl (by assumption) ?_); (try (refine rl_pick (v := (Value.bool _ : Value)) rfl rfl rfl ?_; (try (refine rl_move (v := (Value.bool _ : Value)) rfl rfl ?_; (try ((first | refine rl_off rfl ?_ | refine rl_move (v := (Value.slice _ _ _ : Value)) rfl rfl ?_); (try ((first | refine rl_off rfl ?_ | refine rl_move (v := (Value.slice _ _ _ : Value)) rfl rfl ?_)))))))))))))))))))))))) | refine rl_assign (v := (Value.slice _ _ _ : Value)) rfl rfl ?_ | refine rl_move (v := (Value.tuple _ : Value)) rfl rfl ?_ | refine rl_extract rfl rfl rfl ?_ | (first | (refine rl_storeWM 0 hM ag30 rfl rfl rfl rfl rfl rfl rfl ?_; clear hM; intro w hM) | (refine rl_storeWM 1 hM ag30 rfl rfl rfl rfl rfl rfl rfl ?_; clear hM; intro w hM) | (refine rl_storeWM 2 hM ag30 rfl rfl rfl rfl rfl rfl rfl ?_; clear hM; intro w hM) | (refine rl_storeWM 3 hM ag30 rfl rfl rfl rfl rfl rfl rfl ?_; clear hM; intro w hM) | (refine rl_storeWM 4 hM ag30 rfl rfl rfl rfl rfl rfl rfl ?_; clear hM; intro w hM) | (refine rl_storeWM 5 hM ag30 rfl rfl rfl rfl rfl rfl rfl ?_; clear hM; intro w hM) | (refine rl_storeWM 6 hM ag30 rfl rfl rfl rfl rfl rfl rfl ?_; clear hM; intro w hM) | (refine rl_storeWM 7 hM ag30 rfl rfl rfl rfl rfl rfl rfl ?_; clear hM; intro w hM)) | (refine rl_allocAM (d := 26) hM ag30 rfl ?_; clear hM; intro w b26 hM)))
            refine rl_callf fn14 (same_ok _ _ l3 l3 w0 w _ V6 hM htk3 htk5 hl3 hl3) rfl rfl ?_
            clear hM
            rintro _ w ⟨rfl, hM⟩
            rw [decide_eq_true rfl]
            (repeat (first | refine rl_move (v := (Value.slice _ _ _ : Value)) rfl rfl ?_ | refine rl_move (v := (Value.bool _ : Value)) rfl rfl ?_ | (first | refine rl_off rfl ?_ | refine rl_pick (v := (Value.bool _ : Value)) rfl rfl rfl ?_)))
            refine rl_callf fn14 (same_ok _ _ l4 l4 w0 w _ V6 hM htk4 htk6 hl4 hl4) rfl rfl ?_
            clear hM
            rintro _ w ⟨rfl, hM⟩
            rw [decide_eq_true rfl]
            (repeat (first | refine rl_move (v := (Value.bool _ : Value)) rfl rfl ?_ | (first | refine rl_off rfl ?_ | refine rl_pick (v := (Value.bool _ : Value)) rfl rfl rfl ?_)))
            refine rl_callf fn15 (lives_ok w0 w _ V6 hM) rfl rfl ?_
            clear hM
            rintro _ w ⟨rfl, hM⟩
            (repeat (first | refine sq_normal ?_ | refine rl_nil ?_ | refine ret_ ?_ | refine rl_assign (v := (Value.bool _ : Value)) rfl rfl ?_ | (first | refine rl_off rfl ?_ | refine rl_pick (v := (Value.bool _ : Value)) rfl rfl rfl ?_)))
            exact bp_ret1 (v := Value.bool _) rfl rfl ⟨rfl, hM.below⟩
  rw [hw0] at key
  exact key
end Go.Proofs.Ytlalagkkmoifpaa.Lex
