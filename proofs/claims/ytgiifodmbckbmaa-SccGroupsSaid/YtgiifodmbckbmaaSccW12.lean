/- The walks of fuguelaw07.lives and of. -/
import Derived.Test.YtgiifodmbckbmaaSccW10
import Derived.Test.YtgiifodmbckbmaaSccW11
set_option linter.unusedVariables false
set_option linter.unusedSimpArgs false
namespace Go.Proofs.Ytgiifodmbckbmaa.Scc
open Go Go.Eng Go.RowKit Go.Scc
attribute [local irreducible] RL RX KQ SQ Exit.inBlock Exit.then BP NP CallsOk IsSl IsRows IsInts IsBools Own Blk Code.wp Calls wpList
theorem fn9 : FnT Try.prog 9 := FnT.mk' Try.func9 (by kernel_rfl) rfl
theorem fn10 : FnT Try.prog 10 := FnT.mk' Try.func10 (by kernel_rfl) rfl
theorem fn11 : FnT Try.prog 11 := FnT.mk' Try.func11 (by kernel_rfl) rfl
theorem fn13 : FnT Try.prog 13 := FnT.mk' Try.func13 (by kernel_rfl) rfl
theorem fn14 : FnT Try.prog 14 := FnT.mk' Try.func14 (by kernel_rfl) rfl
theorem fn15 : FnT Try.prog 15 := FnT.mk' Try.func15 (by kernel_rfl) rfl
theorem blk_ints {w : World} {b : Nat} {xs : List Int} (h : Blk w b (xs.map (Value.int .i64)) 3) (hl : xs.length ≤ maxLen) (hr : ∀ x ∈ xs, I64 x) : IsInts w.cell? (.slice (some ⟨b, 0, none⟩) xs.length xs.length) xs := by
  have := h.isSl (by simpa using hl)
  unfold IsInts
  exact ⟨by simpa using this, hr⟩
theorem rows_mk {V : Vw} {v : Value} {ls : List (List Int)} (us : List Value) (h1 : IsSl V v us) (h2 : All2 (IsInts V) us ls) : IsRows V v ls := by
  unfold IsRows; exact ⟨us, h1, h2⟩
theorem ex_groups : groups 3 [[1], [0, 2]] = [[2], [0, 1]] := by decide +kernel
set_option maxHeartbeats 2000000 in
theorem lives_ok (w : World) : CallsOk Try.prog 14 #[] w fun v w' => v = .bool true ∧ Below w.heap.size w w' := by
  refine enter_ (N := 9) (args := []) Try.func14 rfl rfl rfl ?_
  (repeat (first | refine seq_ ?_ | refine sq_normal ?_ | refine rl_nil ?_ | (refine region_ (id := 0) ?_; (try (refine rl_assign (v := (Value.bool _ : Value)) rfl rfl ?_))) | (refine region_ (id := 1) ?_)))
  refine rl_bslice1 (v := .int .i64 1) sl29 rfl rfl rfl rfl ?_
  intro w1 hB1 hb1 hs1
  refine rl_bslice2 (u := .int .i64 0) (v := .int .i64 2) sl29 rfl rfl rfl rfl rfl rfl ?_
  intro w2 hB2 hb2 hs2
  refine rl_bslice2 (u := .slice (some ⟨w.heap.size, 0, none⟩) 1 1) (v := .slice (some ⟨w1.heap.size, 0, none⟩) 2 2) sl22 rfl rfl rfl rfl rfl rfl ?_
  intro w3 hB3 hb3 hs3
  have hi64 : ∀ x : Int, 0 ≤ x → x ≤ 100 → I64 x := fun x h1 h2 => ⟨by omega, by omega⟩
  have hm : ∀ k : Nat, k ≤ 100 → k ≤ maxLen := fun k h => by unfold maxLen; omega
  have hR3 : IsRows w3.cell? (.slice (some ⟨w2.heap.size, 0, none⟩) 2 2) [[1], [0, 2]] := by
    refine rows_mk _ (hB3.isSl (hm _ (by simp))) ⟨?_, ?_, trivial⟩
    · exact blk_ints (xs := [1]) ((hB1.ext hb2).ext hb3) (hm _ (by simp)) (fun x hx => hi64 x (by simp at hx; omega) (by simp at hx; omega))
    · exact blk_ints (xs := [0, 2]) (hB2.ext hb3) (hm _ (by simp)) (fun x hx => hi64 x (by simp at hx; omega) (by simp at hx; omega))
  refine rl_callf fn12 (groups_ok 3 _ [[1], [0, 2]] w3 (by omega) (by omega) hR3 (fun xs hx => by simp at hx; rcases hx with rfl | rfl <;> simp)) rfl rfl ?_
  rintro v4 w4 ⟨hb4, B4, us4, bs4, b4, hB4, hR4⟩
  rw [ex_groups] at hR4
  have hr4 := hR4.rows
  obtain ⟨va, vc, rfl, _, _, _⟩ := hR4.own.shape
  refine rl_bslice1 (v := .int .i64 2) sl29 rfl rfl rfl rfl ?_
  intro w5 hB5 hb5 hs5
  refine rl_bslice2 (u := .int .i64 0) (v := .int .i64 1) sl29 rfl rfl rfl rfl rfl rfl ?_
  intro w6 hB6 hb6 hs6
  refine rl_bslice2 (u := .slice (some ⟨w4.heap.size, 0, none⟩) 1 1) (v := .slice (some ⟨w5.heap.size, 0, none⟩) 2 2) sl22 rfl rfl rfl rfl rfl rfl ?_
  intro w7 hB7 hb7 hs7
  have hR7 : IsRows w7.cell? (.slice (some ⟨w6.heap.size, 0, none⟩) 2 2) [[2], [0, 1]] := by
    refine rows_mk _ (hB7.isSl (hm _ (by simp))) ⟨?_, ?_, trivial⟩
    · exact blk_ints (xs := [2]) ((hB5.ext hb6).ext hb7) (hm _ (by simp)) (fun x hx => hi64 x (by simp at hx; omega) (by simp at hx; omega))
    · exact blk_ints (xs := [0, 1]) (hB6.ext hb7) (hm _ (by simp)) (fun x hx => hi64 x (by simp at hx; omega) (by simp at hx; omega))
  have hk47 : Keeps w4 w7 := ((Keeps.of hb5).trans (Keeps.of hb6)).trans (Keeps.of hb7)
  refine rl_callf fn11 (same_ok _ _ _ _ w7 (hr4.mono hk47) hR7) rfl rfl ?_
  rintro _ w8 ⟨rfl, hb8⟩
  (repeat (first | refine sq_normal ?_ | refine rl_nil ?_ | refine ret_ ?_ | refine rl_assign (v := (Value.bool _ : Value)) rfl rfl ?_))
  refine bp_ret1 (v := Value.bool _) rfl rfl ⟨by rw [decide_eq_true rfl], ?_⟩
  have a1 := hb1.size; have a2 := hb2.size; have a3 := hb3.size; have a4 := hb4.size; have a5 := hb5.size; have a6 := hb6.size; have a7 := hb7.size
  exact below_ext (below_ext (below_ext (below_ext (below_ext (below_ext (below_ext hb1 hb2 a1) hb3 (by omega)) hb4 (by omega)) hb5 (by omega)) hb6 (by omega)) hb7 (by omega)) hb8 (by omega)
end Go.Proofs.Ytgiifodmbckbmaa.Scc
