/- The walks of scc.used and of what it calls of package slices. -/
import Derived.Test.YtgiifodmbckbmaaSccW3
set_option linter.unusedVariables false
set_option linter.unusedSimpArgs false
namespace Go.Proofs.Ytgiifodmbckbmaa.Scc
open Go Go.Eng Go.RowKit
attribute [local irreducible] RL RX KQ SQ Exit.inBlock Exit.then BP NP CallsOk IsSl IsRows IsInts IsBools Own Blk Code.wp Calls wpList
set_option maxHeartbeats 1000000 in
theorem clone_ok (v : Value) (xs : List Int) (w : World) (hx : IsInts w.cell? v xs) (hlen : xs.length ≤ 1000000) :
    CallsOk Try.prog 22 #[v] w fun v' w' => Below w.heap.size w w' ∧ ∃ b, w.heap.size ≤ b ∧ Own w' 3 1 v' xs.length (xs.map (Value.int .i64)) b := by
  obtain ⟨aa, ac, ab, ao, rfl, halc, hac, haa, hacell⟩ := hx.open
  have hml := maxLen_le
  refine enter_ (N := 8) Try.func22 rfl rfl rfl ?_
  cases aa with
  | none =>
    have h0 : xs = [] := by
      rcases Nat.eq_zero_or_pos xs.length with h | h
      · exact List.eq_nil_of_length_eq_zero h
      · cases haa h
    subst h0
    (repeat (first | refine seq_ ?_ | refine sq_normal ?_ | refine sq_ret ?_ | refine rl_nil ?_ | refine cond_t rfl ?_ | refine ret_ ?_ | (refine region_ (id := 0) ?_; (try (refine rl_assign (v := (Value.slice _ _ _ : Value)) rfl rfl ?_))) | (refine region_ (id := 1) ?_; (try (refine rl_move (v := (Value.slice _ _ _ : Value)) rfl rfl ?_; (try (refine rl_eqnil sl29 rfl rfl rfl rfl ?_))))) | (refine region_ (id := 2) ?_; (try (refine rl_assign (v := (Value.slice _ _ _ : Value)) rfl rfl ?_)))))
    exact bp_ret1 (v := Value.slice _ _ _) rfl rfl ⟨Below.refl _ _, w.heap.size, Nat.le_refl _, Own.nil _ _ _ _⟩
  | some A =>
    (repeat (first | refine seq_ ?_ | refine sq_normal ?_ | refine rl_nil ?_ | refine cond_f rfl ?_ | refine skip_ ?_ | (refine region_ (id := 0) ?_; (try (refine rl_assign (v := (Value.slice _ _ _ : Value)) rfl rfl ?_))) | (refine region_ (id := 1) ?_; (try (refine rl_move (v := (Value.slice _ _ _ : Value)) rfl rfl ?_; (try (refine rl_eqnil sl29 rfl rfl rfl rfl ?_))))) | (refine region_ (id := 3) ?_)))
    refine rl_bslice0 sl29 rfl ?_
    intro w1 hB1 hb1 hs1
    (repeat (first | refine rl_move (v := (Value.slice _ _ _ : Value)) rfl rfl ?_))
    have hO1 : Own w1 3 1 (.slice (some ⟨w.heap.size, 0, none⟩) 0 0) 0 [] w.heap.size := Own.of_blk hB1 rfl (Nat.zero_le _)
    refine rl_append (news := xs.map (Value.int .i64)) (B := ab) (off := ao) sl29 rfl (by decide) hO1 ?_ rfl rfl rfl haa (by simp) ?_ ?_ ?_ ?_
    · intro j u hu
      rw [List.getElem?_map, Option.map_eq_some_iff] at hu
      obtain ⟨x, hx, rfl⟩ := hu
      exact cell_ext (hacell _ _ hx) hb1
    · intro u hu
      obtain ⟨x, _, rfl⟩ := List.mem_map.1 hu
      rfl
    · unfold maxLen; omega
    · omega
    intro v2 w2 b2 hO2 hc2 hg2 _
    rw [Nat.zero_add, List.nil_append] at hO2
    obtain ⟨va, vc, rfl, _, _, _⟩ := hO2.shape
    (repeat (first | refine sq_normal ?_ | refine rl_nil ?_ | refine ret_ ?_ | refine rl_assign (v := (Value.slice _ _ _ : Value)) rfl rfl ?_))
    exact bp_ret1 (v := Value.slice _ _ _) rfl rfl ⟨below_chg hb1 hg2 (Nat.le_refl _) hb1.size, b2, by omega, hO2⟩
/-- What scc.used drops. -/
def bad (n x : Int) : Bool := decide (x < 0) || decide (n ≤ x)
theorem bad_ok (n x : Int) (bn : Nat) (w : World) (hc : w.cell? ⟨bn, 0, none⟩ = some (.int .i64 n)) :
    CallsOk Try.prog 23 #[.int .i64 x, .pointer (some ⟨bn, 0, none⟩)] w fun v w' => v = .bool (bad n x) ∧ w = w' := by
  refine enter_ (N := 11) Try.func23 rfl rfl rfl ?_
  by_cases h1 : x < 0
  · (repeat (first | refine seq_ ?_ | refine sq_normal ?_ | refine rl_nil ?_ | refine ret_ ?_ | (refine region_ (id := 0) ?_; (try (refine rl_assign (v := (Value.bool _ : Value)) rfl rfl ?_))) | (refine region_ (id := 1) ?_; (try (refine rl_move (v := (Value.int _ _ : Value)) rfl rfl ?_; (try ((first | (refine rl_lss_t rfl rfl rfl ?_ ?_; omega) | (refine rl_lss_f rfl rfl rfl ?_ ?_; omega)); (try (refine rl_move (v := (Value.bool _ : Value)) rfl rfl ?_; (try ((first | refine rl_off rfl ?_ | refine rl_move (v := (Value.int _ _ : Value)) rfl rfl ?_); (try ((first | refine rl_off rfl ?_ | (apply rl_load vt3 rfl rfl; assumption)); (try ((first | refine rl_off rfl ?_ | (refine rl_geq_t rfl rfl rfl ?_ ?_; omega) | (refine rl_geq_f rfl rfl rfl ?_ ?_; omega)); (try (refine rl_pick (v := (Value.bool _ : Value)) rfl rfl rfl ?_; (try (refine rl_assign (v := (Value.bool _ : Value)) rfl rfl ?_)))))))))))))))))))
    refine bp_ret1 (v := Value.bool _) rfl rfl ⟨?_, rfl⟩
    simp [bad, h1]
  · by_cases h2 : n ≤ x
    · (repeat (first | refine seq_ ?_ | refine sq_normal ?_ | refine rl_nil ?_ | refine ret_ ?_ | (refine region_ (id := 0) ?_; (try (refine rl_assign (v := (Value.bool _ : Value)) rfl rfl ?_))) | (refine region_ (id := 1) ?_; (try (refine rl_move (v := (Value.int _ _ : Value)) rfl rfl ?_; (try ((first | (refine rl_lss_t rfl rfl rfl ?_ ?_; omega) | (refine rl_lss_f rfl rfl rfl ?_ ?_; omega)); (try (refine rl_move (v := (Value.bool _ : Value)) rfl rfl ?_; (try ((first | refine rl_off rfl ?_ | refine rl_move (v := (Value.int _ _ : Value)) rfl rfl ?_); (try ((first | refine rl_off rfl ?_ | (apply rl_load vt3 rfl rfl; assumption)); (try ((first | refine rl_off rfl ?_ | (refine rl_geq_t rfl rfl rfl ?_ ?_; omega) | (refine rl_geq_f rfl rfl rfl ?_ ?_; omega)); (try (refine rl_pick (v := (Value.bool _ : Value)) rfl rfl rfl ?_; (try (refine rl_assign (v := (Value.bool _ : Value)) rfl rfl ?_)))))))))))))))))))
      refine bp_ret1 (v := Value.bool _) rfl rfl ⟨?_, rfl⟩
      simp [bad, h2]
    · (repeat (first | refine seq_ ?_ | refine sq_normal ?_ | refine rl_nil ?_ | refine ret_ ?_ | (refine region_ (id := 0) ?_; (try (refine rl_assign (v := (Value.bool _ : Value)) rfl rfl ?_))) | (refine region_ (id := 1) ?_; (try (refine rl_move (v := (Value.int _ _ : Value)) rfl rfl ?_; (try ((first | (refine rl_lss_t rfl rfl rfl ?_ ?_; omega) | (refine rl_lss_f rfl rfl rfl ?_ ?_; omega)); (try (refine rl_move (v := (Value.bool _ : Value)) rfl rfl ?_; (try ((first | refine rl_off rfl ?_ | refine rl_move (v := (Value.int _ _ : Value)) rfl rfl ?_); (try ((first | refine rl_off rfl ?_ | (apply rl_load vt3 rfl rfl; assumption)); (try ((first | refine rl_off rfl ?_ | (refine rl_geq_t rfl rfl rfl ?_ ?_; omega) | (refine rl_geq_f rfl rfl rfl ?_ ?_; omega)); (try (refine rl_pick (v := (Value.bool _ : Value)) rfl rfl rfl ?_; (try (refine rl_assign (v := (Value.bool _ : Value)) rfl rfl ?_)))))))))))))))))))
      refine bp_ret1 (v := Value.bool _) rfl rfl ⟨?_, rfl⟩
      simp [bad, h1, h2]
theorem fn23 : FnT Try.prog 23 := FnT.mk' Try.func23 (by kernel_rfl) rfl
theorem fn24 : FnT Try.prog 24 := FnT.mk' Try.func24 (by kernel_rfl) rfl
theorem fn22 : FnT Try.prog 22 := FnT.mk' Try.func22 (by kernel_rfl) rfl
theorem fn21 : FnT Try.prog 21 := FnT.mk' Try.func21 (by kernel_rfl) rfl
set_option maxHeartbeats 1000000 in
/-- The first place at which one is dropped, or -1. -/
theorem index_ok (n : Int) (bn : Nat) (v : Value) (xs : List Int) (w : World) (hx : IsInts w.cell? v xs) (hlen : xs.length ≤ 1000000) (hc : w.cell? ⟨bn, 0, none⟩ = some (.int .i64 n)) :
    CallsOk Try.prog 24 #[v, .func (.func 23) #[] #[.pointer (some ⟨bn, 0, none⟩)]] w fun v' w' => w = w' ∧ ∃ i : Int, v' = .int .i64 i ∧
      ((i = -1 ∧ ∀ x ∈ xs, bad n x = false) ∨ (0 ≤ i ∧ i < xs.length ∧ (∀ x ∈ xs.take i.toNat, bad n x = false) ∧ ∃ x, xs[i.toNat]? = some x ∧ bad n x = true)) := by
  obtain ⟨aa, ac, ab, ao, rfl, halc, hac, haa, hacell⟩ := hx.open
  have hml := maxLen_le
  refine enter_ (N := 19) Try.func24 rfl rfl rfl ?_
  (repeat (first | refine seq_ ?_ | refine sq_normal ?_ | refine rl_nil ?_ | refine block_ ?_ | (refine region_ (id := 0) ?_; (try (refine rl_assign (v := (Value.int _ _ : Value)) rfl rfl ?_))) | (refine region_ (id := 1) ?_; (try (refine rl_move (v := (Value.slice _ _ _ : Value)) rfl rfl ?_; (try (refine rl_len sl29 rfl rfl ?_; (try (refine rl_move (v := (Value.int _ _ : Value)) rfl rfl ?_)))))))))
  refine loop1 [(4, 6), (8, 19)] 8 (fun m v wr => ∃ (i : Int), v = .int .i64 i ∧ 0 ≤ i ∧ i ≤ xs.length ∧ m = (xs.length - i).toNat ∧ wr = w ∧ (∀ x ∈ xs.take i.toNat, bad n x = false)) _
    ⟨0, rfl, by omega, by omega, rfl, rfl, fun x h => by simp at h⟩ ?_
  rintro m τ v w1 ⟨i, rfl, hi0, hil, rfl, rfl, hd⟩ K0 hL0
  by_cases hi : i < xs.length
  · have haa' := haa (by omega)
    subst haa'
    obtain ⟨x, hxi⟩ : ∃ r, xs[i.toNat]? = some r := ⟨xs[i.toNat]'(by omega), by simp⟩
    have c1 := hacell _ _ hxi
    (repeat (first | refine seq_ ?_ | refine sq_normal ?_ | refine rl_nil ?_ | refine cond_t rfl ?_ | refine skip_ ?_ | refine block_ ?_ | (refine region_ (id := 2) ?_; (try ((first | (refine rl_lss_t rfl rfl rfl ?_ ?_; omega) | (refine rl_lss_f rfl rfl rfl ?_ ?_; omega))))) | (refine region_ (id := 3) ?_; (try (refine rl_move (v := (Value.int _ _ : Value)) rfl rfl ?_; (try (refine rl_assign (v := (Value.int _ _ : Value)) rfl rfl ?_))))) | (refine region_ (id := 4) ?_; (try ((first | refine rl_move (v := (Value.func _ _ _ : Value)) rfl rfl ?_ | refine rl_move (v := (Value.nilFunc : Value)) rfl rfl ?_); (try (refine rl_move (v := (Value.slice _ _ _ : Value)) rfl rfl ?_; (try (refine rl_move (v := (Value.int _ _ : Value)) rfl rfl ?_; (try ((first | (refine rl_idx1 sl29 rfl rfl rfl rfl ?_ ?_ ?_; omega; omega) | (apply rl_idx1 sl29 rfl rfl rfl; assumption; omega; omega)); (try ((apply rl_load vt3 rfl rfl; assumption))))))))))))))
    refine rl_callv (cap := [Value.pointer (some ⟨bn, 0, none⟩)]) fn23 (bad_ok n x bn w1 hc) rfl rfl rfl ?_
    rintro _ _ ⟨rfl, rfl⟩
    cases hb : bad n x with
    | true =>
      (repeat (first | refine seq_ ?_ | refine sq_normal ?_ | refine sq_ret ?_ | refine rl_nil ?_ | refine cond_t rfl ?_ | refine ret_ ?_ | refine inBlock_ret ?_ | refine kq_ret ?_ | (refine region_ (id := 5) ?_; (try (refine rl_move (v := (Value.int _ _ : Value)) rfl rfl ?_; (try (refine rl_assign (v := (Value.int _ _ : Value)) rfl rfl ?_)))))))
      exact bp_ret1 (v := Value.int _ _) rfl rfl ⟨rfl, i, rfl, .inr ⟨hi0, hi, hd, x, hxi, hb⟩⟩
    | false =>
      (repeat (first | refine sq_normal ?_ | refine rl_nil ?_ | refine cond_f rfl ?_ | refine skip_ ?_ | refine inBlock_normal ?_ | (refine region_ (id := 6) ?_; (try ((refine rl_add rfl rfl rfl ?_ ?_ ?_; omega; omega); (try (refine rl_move (v := (Value.int _ _ : Value)) rfl rfl ?_)))))))
      refine kq_normal (hL0 (xs.length - (i + 1)).toNat _ _ (by omega) (by (repeat (first | with_reducible exact Agree.ov | with_reducible exact Agree.refl _ _ | refine Agree.upd rfl ?_ | refine Agree.ovs rfl ?_))) ⟨i + 1, rfl, by omega, by omega, rfl, rfl, ?_⟩)
      intro y hy
      rw [show (i + 1).toNat = i.toNat + 1 by omega, List.take_add_one, hxi] at hy
      simp only [Option.toList_some, List.mem_append, List.mem_singleton] at hy
      rcases hy with hy | rfl
      · exact hd y hy
      · exact hb
  · (repeat (first | refine seq_ ?_ | refine sq_normal ?_ | refine sq_exit ?_ | refine rl_nil ?_ | refine cond_f rfl ?_ | refine ret_ ?_ | refine exit_ ?_ | refine inBlock_exit ?_ | refine kq_exit ?_ | (refine region_ (id := 2) ?_; (try ((first | (refine rl_lss_t rfl rfl rfl ?_ ?_; omega) | (refine rl_lss_f rfl rfl rfl ?_ ?_; omega))))) | (refine region_ (id := 7) ?_; (try (refine rl_assign (v := (Value.int _ _ : Value)) rfl rfl ?_)))))
    refine bp_ret1 (v := Value.int _ _) rfl rfl ⟨rfl, -1, rfl, .inl ⟨rfl, ?_⟩⟩
    rwa [List.take_of_length_le (by omega)] at hd
end Go.Proofs.Ytgiifodmbckbmaa.Scc
