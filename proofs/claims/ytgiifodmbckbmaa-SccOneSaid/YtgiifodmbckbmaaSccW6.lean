/- The walks of slices.DeleteFunc, as scc.used calls it, and of scc.used. -/
import Derived.Test.YtgiifodmbckbmaaSccW5
set_option linter.unusedVariables false
set_option linter.unusedSimpArgs false
namespace Go.Proofs.Ytgiifodmbckbmaa.Scc
open Go Go.Eng Go.RowKit
attribute [local irreducible] RL RX KQ SQ Exit.inBlock Exit.then BP NP CallsOk IsSl IsRows IsInts IsBools Own Blk Code.wp Calls wpList
def kept (n : Int) (xs : List Int) : List Int := xs.filter fun x => !bad n x
theorem kept_none {n : Int} {xs : List Int} (h : ∀ x ∈ xs, bad n x = false) : kept n xs = xs := by
  unfold kept
  exact List.filter_eq_self.2 fun x hx => by simp [h x hx]
theorem kept_snoc (n : Int) (xs : List Int) (i : Nat) (x : Int) (h : xs[i]? = some x) : kept n (xs.take (i + 1)) = kept n (xs.take i) ++ (if bad n x = true then [] else [x]) := by
  unfold kept
  rw [List.take_add_one, h, List.filter_append]
  cases hb : bad n x <;> simp [hb]
theorem kept_le (n : Int) (xs : List Int) (i : Nat) : (kept n (xs.take i)).length ≤ i := by
  unfold kept
  exact Nat.le_trans (List.length_filter_le _ _) (by simp; omega)
theorem drop_set_lt {α : Type} : ∀ (l : List α) (i j : Nat) (a : α), i < j → (l.set i a).drop j = l.drop j
  | [], i, j, a, h => by simp
  | x :: l, 0, j + 1, a, h => by simp
  | x :: l, i + 1, j + 1, a, h => by simpa using drop_set_lt l i j a (by omega)
theorem take_set_snoc {α : Type} (l : List α) (i : Nat) (a : α) (h : i < l.length) : (l.set i a).take (i + 1) = l.take i ++ [a] := by
  rw [List.take_add_one, List.take_set_of_le (Nat.le_refl _)]
  simp [h]
set_option maxHeartbeats 2000000 in
theorem delete_ok (n : Int) (bn b : Nat) (v : Value) (xs : List Int) (w : World) (hO : Own w 3 1 v xs.length (xs.map (Value.int .i64)) b) (hr : ∀ x ∈ xs, I64 x) (hlen : xs.length ≤ 1000000) (hc : w.cell? ⟨bn, 0, none⟩ = some (.int .i64 n)) (hne : bn ≠ b) :
    CallsOk Try.prog 21 #[v, .func (.func 23) #[] #[.pointer (some ⟨bn, 0, none⟩)]] w fun v' w' => Chg b w w' ∧ w'.heap.size = w.heap.size ∧ ∃ b', Own w' 3 1 v' (kept n xs).length ((kept n xs).map (Value.int .i64)) b' ∧ b' = b := by
  have hI := hO.isInts hr
  have hO2 := hO
  obtain ⟨va, vc, rfl, hvc, hvm, hva⟩ := hO.shape
  have hml := maxLen_le
  refine enter_ (N := 42) Try.func21 rfl rfl rfl ?_
  (repeat (first | refine seq_ ?_ | refine sq_normal ?_ | refine rl_nil ?_ | (refine region_ (id := 0) ?_; (try (refine rl_assign (v := (Value.slice _ _ _ : Value)) rfl rfl ?_))) | (refine region_ (id := 1) ?_; (try (refine rl_move (v := (Value.slice _ _ _ : Value)) rfl rfl ?_; (try ((first | refine rl_move (v := (Value.func _ _ _ : Value)) rfl rfl ?_ | refine rl_move (v := (Value.nilFunc : Value)) rfl rfl ?_))))))))
  refine rl_callf fn24 (index_ok n bn _ xs w hI hlen hc) rfl rfl ?_
  rintro _ _ ⟨rfl, i, rfl, hi⟩
  rcases hi with ⟨rfl, hall⟩ | ⟨hi0, hil, htk, x0, hx0, hbad0⟩
  · (repeat (first | refine seq_ ?_ | refine sq_normal ?_ | refine sq_ret ?_ | refine rl_nil ?_ | refine cond_t rfl ?_ | refine ret_ ?_ | (refine region_ (id := 2) ?_; (try (refine rl_move (v := (Value.int _ _ : Value)) rfl rfl ?_; (try ((first | (refine rl_eql_t rfl rfl rfl ?_ ?_; omega) | (refine rl_eql_f rfl rfl rfl ?_ ?_; omega))))))) | (refine region_ (id := 3) ?_; (try (refine rl_move (v := (Value.slice _ _ _ : Value)) rfl rfl ?_; (try (refine rl_assign (v := (Value.slice _ _ _ : Value)) rfl rfl ?_))))) | refine rl_assign (v := (Value.int _ _ : Value)) rfl rfl ?_))
    refine bp_ret1 (v := Value.slice _ _ _) rfl rfl ⟨Chg.refl _ _, rfl, b, ?_, rfl⟩
    rw [kept_none hall]; exact hO
  · (repeat (first | refine seq_ ?_ | refine sq_normal ?_ | refine rl_nil ?_ | refine cond_f rfl ?_ | refine skip_ ?_ | refine block_ ?_ | (refine region_ (id := 2) ?_; (try (refine rl_move (v := (Value.int _ _ : Value)) rfl rfl ?_; (try ((first | (refine rl_eql_t rfl rfl rfl ?_ ?_; omega) | (refine rl_eql_f rfl rfl rfl ?_ ?_; omega))))))) | (refine region_ (id := 4) ?_; (try (refine rl_move (v := (Value.int _ _ : Value)) rfl rfl ?_; (try ((refine rl_add rfl rfl rfl ?_ ?_ ?_; omega; omega); (try (refine rl_assign (v := (Value.int _ _ : Value)) rfl rfl ?_))))))) | refine rl_assign (v := (Value.int _ _ : Value)) rfl rfl ?_))
    have hpos : 0 < xs.length := by omega
    have hva' := hva hpos
    subst hva'
    obtain ⟨cap, spare, hcv, hcap⟩ : ∃ cap spare, vc = cap ∧ (xs.map (Value.int .i64) ++ spare).length = cap * 1 ∧ Blk w b (xs.map (Value.int .i64) ++ spare) 3 := by
      unfold Own at hO
      rcases hO.2 with ⟨h, h2⟩ | ⟨cap, sp, h1, h2, h3, h4, h5⟩
      · omega
      · simp only [Value.slice.injEq] at h1; exact ⟨cap, sp, h1.2.2, h4, h5⟩
    subst hcv
    obtain ⟨hcl, hB0⟩ := hcap
    refine loop3 [(5, 8), (16, 36)] 5 6 7 (fun m v1 v2 v3 wr => ∃ (i j : Int) (ys : List Int), v1 = .int .i64 i ∧ v2 = .int .i64 j ∧ 0 ≤ i ∧ i < j ∧ j ≤ xs.length ∧ m = (xs.length - j).toNat ∧ Chg b w wr ∧ wr.heap.size = w.heap.size ∧ Blk wr b (ys.map (Value.int .i64) ++ spare) 3 ∧ ys.length = xs.length ∧
        ys.take i.toNat = kept n (xs.take j.toNat) ∧ ys.drop j.toNat = xs.drop j.toNat ∧ i.toNat = (kept n (xs.take j.toNat)).length) _
      ⟨i, i + 1, xs, rfl, rfl, hi0, by omega, by omega, rfl, Chg.refl _ _, rfl, hB0, rfl, ?_, rfl, ?_⟩ ?_
    · rw [show (i + 1).toNat = i.toNat + 1 by omega, kept_snoc n xs i.toNat x0 hx0, hbad0, kept_none htk]; simp
    · rw [show (i + 1).toNat = i.toNat + 1 by omega, kept_snoc n xs i.toNat x0 hx0, hbad0, kept_none htk]; simp; omega
    rintro m τ v1 v2 v3 w1 ⟨i, j, ys, rfl, rfl, hi0', hij, hjl, rfl, hc1, hs1, hB1, hyl, hyt, hyd, hik⟩ K0 hL0
    have hc' : w1.cell? ⟨bn, 0, none⟩ = some (.int .i64 n) := cell_chg hc hc1 hne
    by_cases hj : j < xs.length
    · obtain ⟨x, hxj⟩ : ∃ r, xs[j.toNat]? = some r := ⟨xs[j.toNat]'(by omega), by simp⟩
      have hyj : ys[j.toNat]? = some x := by
        have h1 : (ys.drop j.toNat)[0]? = (xs.drop j.toNat)[0]? := by rw [hyd]
        simpa [List.getElem?_drop, hxj] using h1
      have c1 : w1.cell? ⟨b, 0 + j.toNat, none⟩ = some (.int .i64 x) := by
        refine hB1.cell_some ?_
        rw [Nat.zero_add, List.getElem?_append_left (by simp; omega), List.getElem?_map, hyj]; rfl
      (repeat (first | refine seq_ ?_ | refine sq_normal ?_ | refine rl_nil ?_ | refine cond_t rfl ?_ | refine skip_ ?_ | refine block_ ?_ | (refine region_ (id := 5) ?_; (try (refine rl_move (v := (Value.int _ _ : Value)) rfl rfl ?_; (try (refine rl_move (v := (Value.slice _ _ _ : Value)) rfl rfl ?_; (try (refine rl_len sl29 rfl rfl ?_; (try ((first | (refine rl_lss_t rfl rfl rfl ?_ ?_; omega) | (refine rl_lss_f rfl rfl rfl ?_ ?_; omega))))))))))) | (refine region_ (id := 7) ?_; (try (refine rl_move (v := (Value.slice _ _ _ : Value)) rfl rfl ?_; (try (refine rl_move (v := (Value.int _ _ : Value)) rfl rfl ?_; (try ((first | (refine rl_idx1 sl29 rfl rfl rfl rfl ?_ ?_ ?_; omega; omega) | (apply rl_idx1 sl29 rfl rfl rfl; assumption; omega; omega)); (try ((apply rl_load vt3 rfl rfl; assumption); (try (refine rl_assign (v := (Value.int _ _ : Value)) rfl rfl ?_))))))))))) | (refine region_ (id := 8) ?_; (try ((first | refine rl_move (v := (Value.func _ _ _ : Value)) rfl rfl ?_ | refine rl_move (v := (Value.nilFunc : Value)) rfl rfl ?_); (try (refine rl_move (v := (Value.int _ _ : Value)) rfl rfl ?_)))))))
      refine rl_callv (cap := [Value.pointer (some ⟨bn, 0, none⟩)]) fn23 (bad_ok n x bn w1 hc') rfl rfl rfl ?_
      rintro _ _ ⟨rfl, rfl⟩
      cases hb : bad n x with
      | true =>
        (repeat (first | refine sq_normal ?_ | refine rl_nil ?_ | refine cond_f rfl ?_ | refine skip_ ?_ | refine inBlock_normal ?_ | (refine region_ (id := 6) ?_; (try (refine rl_move (v := (Value.int _ _ : Value)) rfl rfl ?_; (try ((refine rl_add rfl rfl rfl ?_ ?_ ?_; omega; omega); (try (refine rl_assign (v := (Value.int _ _ : Value)) rfl rfl ?_))))))) | refine rl_not rfl rfl ?_))
        refine kq_normal (hL0 (xs.length - (j + 1)).toNat _ _ (by omega) (by (repeat (first | with_reducible exact Agree.ov | with_reducible exact Agree.refl _ _ | refine Agree.upd rfl ?_ | refine Agree.ovs rfl ?_))) ⟨i, j + 1, ys, rfl, rfl, hi0', by omega, by omega, rfl, hc1, hs1, hB1, hyl, ?_, ?_, ?_⟩)
        · rw [show (j + 1).toNat = j.toNat + 1 by omega, kept_snoc n xs j.toNat x hxj, hb, hyt]; simp
        · rw [show (j + 1).toNat = j.toNat + 1 by omega, ← List.drop_drop, ← List.drop_drop, hyd]
        · rw [show (j + 1).toNat = j.toNat + 1 by omega, kept_snoc n xs j.toNat x hxj, hb]; simpa using hik
      | false =>
        (repeat (first | refine seq_ ?_ | refine sq_normal ?_ | refine rl_nil ?_ | refine cond_t rfl ?_ | (refine region_ (id := 9) ?_; (try (refine rl_move (v := (Value.slice _ _ _ : Value)) rfl rfl ?_; (try (refine rl_move (v := (Value.int _ _ : Value)) rfl rfl ?_; (try (refine rl_move (v := (Value.int _ _ : Value)) rfl rfl ?_; (try ((first | (refine rl_idx1 sl29 rfl rfl rfl rfl ?_ ?_ ?_; omega; omega) | (apply rl_idx1 sl29 rfl rfl rfl; assumption; omega; omega))))))))))) | refine rl_not rfl rfl ?_))
        refine rl_store (v := Value.int .i64 x) vt3 rfl rfl rfl rfl hB1 ?_ ?_
        · simp; omega
        intro w2 hB2 hc2 hs2
        (repeat (first | refine sq_normal ?_ | refine rl_nil ?_ | refine inBlock_normal ?_ | (refine region_ (id := 6) ?_; (try (refine rl_move (v := (Value.int _ _ : Value)) rfl rfl ?_; (try ((refine rl_add rfl rfl rfl ?_ ?_ ?_; omega; omega); (try (refine rl_assign (v := (Value.int _ _ : Value)) rfl rfl ?_))))))) | (refine region_ (id := 10) ?_; (try (refine rl_move (v := (Value.int _ _ : Value)) rfl rfl ?_; (try ((refine rl_add rfl rfl rfl ?_ ?_ ?_; omega; omega); (try (refine rl_assign (v := (Value.int _ _ : Value)) rfl rfl ?_)))))))))
        have hset : (ys.map (Value.int .i64) ++ spare).set (0 + i.toNat) (Value.int .i64 x) = (ys.set i.toNat x).map (Value.int .i64) ++ spare := by
          rw [Nat.zero_add, List.set_append_left _ _ (by simp; omega), List.map_set]
        rw [hset] at hB2
        refine kq_normal (hL0 (xs.length - (j + 1)).toNat _ _ (by omega) (by (repeat (first | with_reducible exact Agree.ov | with_reducible exact Agree.refl _ _ | refine Agree.upd rfl ?_ | refine Agree.ovs rfl ?_))) ⟨i + 1, j + 1, ys.set i.toNat x, rfl, rfl, by omega, by omega, by omega, rfl, hc1.trans hc2, by omega, hB2, by simpa using hyl, ?_, ?_, ?_⟩)
        · rw [show (j + 1).toNat = j.toNat + 1 by omega, kept_snoc n xs j.toNat x hxj, hb, show (i + 1).toNat = i.toNat + 1 by omega, take_set_snoc _ _ _ (by omega), hyt]; simp
        · rw [show (j + 1).toNat = j.toNat + 1 by omega, drop_set_lt _ _ _ _ (by omega), ← List.drop_drop, ← List.drop_drop, hyd]
        · rw [show (j + 1).toNat = j.toNat + 1 by omega, kept_snoc n xs j.toNat x hxj, hb]; simp; omega
    · (repeat (first | refine seq_ ?_ | refine sq_normal ?_ | refine sq_exit ?_ | refine rl_nil ?_ | refine cond_f rfl ?_ | refine exit_ ?_ | refine inBlock_exit ?_ | refine kq_exit ?_ | (refine region_ (id := 5) ?_; (try (refine rl_move (v := (Value.int _ _ : Value)) rfl rfl ?_; (try (refine rl_move (v := (Value.slice _ _ _ : Value)) rfl rfl ?_; (try (refine rl_len sl29 rfl rfl ?_; (try ((first | (refine rl_lss_t rfl rfl rfl ?_ ?_; omega) | (refine rl_lss_f rfl rfl rfl ?_ ?_; omega))))))))))) | (refine region_ (id := 11) ?_; (try (refine rl_move (v := (Value.slice _ _ _ : Value)) rfl rfl ?_; (try (refine rl_move (v := (Value.int _ _ : Value)) rfl rfl ?_)))))))
      have hjx : xs.take j.toNat = xs := List.take_of_length_le (by omega)
      rw [hjx] at hyt hik
      have hkl : (kept n xs).length ≤ xs.length := by rw [← hik]; omega
      refine rl_slice_l (b := b) (off := 0) sl29 rfl rfl rfl (fun _ => rfl) ?_ ?_ hvc ?_
      · omega
      · omega
      intro a' ha'
      simp only [Nat.mul_one] at ha'
      refine rl_clear (b := b) (off := 0 + i.toNat) sl29 rfl (by intro u hu; simp [Value.cells] at hu; subst hu; rfl) rfl rfl ?_ hB1 ?_ ?_
      · intro h; exact ha' (by omega)
      · simp only [List.length_append, List.length_map]; omega
      intro w2 cs' hB2 hcl2 hct2 hc2 hs2
      (repeat (first | refine seq_ ?_ | refine sq_normal ?_ | refine rl_nil ?_ | (refine region_ (id := 12) ?_; (try (refine rl_move (v := (Value.slice _ _ _ : Value)) rfl rfl ?_; (try (refine rl_move (v := (Value.int _ _ : Value)) rfl rfl ?_)))))))
      refine rl_slice_h sl29 rfl rfl rfl ?_ ?_ hvc ?_
      · omega
      · omega
      (repeat (first | refine sq_normal ?_ | refine rl_nil ?_ | refine ret_ ?_ | refine rl_assign (v := (Value.slice _ _ _ : Value)) rfl rfl ?_))
      refine bp_ret1 (v := Value.slice _ _ _) rfl rfl ⟨hc1.trans hc2, by omega, b, ?_, rfl⟩
      have hpre : cs'.take i.toNat = (kept n xs).map (Value.int .i64) := by
        rw [Nat.zero_add] at hct2
        rw [hct2, List.take_append_of_le_length (by simp; omega), ← List.map_take, hyt]
      have hcs : cs' = (kept n xs).map (Value.int .i64) ++ cs'.drop i.toNat := by rw [← hpre, List.take_append_drop]
      have hvm' := hvm
      unfold Own
      refine ⟨by simp, .inr ⟨vc, cs'.drop i.toNat, by rw [hik], by omega, hvm', ?_, ?_⟩⟩
      · rw [← hcs, hcl2, ← hcl]; simp [hyl]
      · rw [← hcs]; exact hB2
theorem fn20 : FnT Try.prog 20 := FnT.mk' Try.func20 (by kernel_rfl) rfl
set_option maxHeartbeats 2000000 in
/-- What thing i uses, of those that are things. -/
theorem used_ok (n i : Int) (uv : Value) (ls : List (List Int)) (w : World) (hu : IsRows w.cell? uv ls) (hi0 : 0 ≤ i) (hi : i ≤ 1000000) (hrl : ∀ xs ∈ ls, xs.length ≤ 1000000) :
    CallsOk Try.prog 20 #[.int .i64 n, uv, .int .i64 i] w fun v w' => Below w.heap.size w w' ∧ ∃ b, Own w' 3 1 v (kept n (ls.getD i.toNat [])).length ((kept n (ls.getD i.toNat [])).map (Value.int .i64)) b ∧ w.heap.size ≤ b := by
  obtain ⟨aa, ac, ab, ao, rfl, halc, hac, haa, hacell⟩ := hu.open
  have hml := maxLen_le
  refine enter_ (N := 18) Try.func20 rfl rfl rfl ?_
  by_cases hil : i < ls.length
  · have haa' := haa (by omega)
    subst haa'
    obtain ⟨xs, hxs⟩ : ∃ r, ls[i.toNat]? = some r := ⟨ls[i.toNat]'(by omega), by simp⟩
    obtain ⟨u, hu1, hui⟩ := hacell _ _ hxs
    have hxl := hrl xs (List.mem_of_getElem? hxs)
    have hge : ls.getD i.toNat [] = xs := by simp [hxs]
    rw [hge]
    (repeat (first | refine seq_ ?_ | (refine region_ (id := 0) ?_)))
    refine rl_box (v := .int .i64 n) rfl rfl rfl ?_
    intro w1 hB1 hb1 hs1
    obtain ⟨pa, pc, pb, po, rfl, hplc, hpc, hpa, hpcell⟩ := hui.open
    have c1 : w1.cell? ⟨ab, ao + i.toNat, none⟩ = some (.slice pa xs.length pc) := cell_ext hu1 hb1
    (repeat (first | refine seq_ ?_ | refine sq_normal ?_ | refine rl_nil ?_ | refine cond_f rfl ?_ | refine skip_ ?_ | (refine region_ (id := 1) ?_; (try (refine rl_move (v := (Value.int _ _ : Value)) rfl rfl ?_; (try (refine rl_move (v := (Value.slice _ _ _ : Value)) rfl rfl ?_; (try (refine rl_len sl22 rfl rfl ?_; (try ((first | (refine rl_geq_t rfl rfl rfl ?_ ?_; omega) | (refine rl_geq_f rfl rfl rfl ?_ ?_; omega))))))))))) | (refine region_ (id := 3) ?_; (try (refine rl_move (v := (Value.slice _ _ _ : Value)) rfl rfl ?_; (try (refine rl_move (v := (Value.int _ _ : Value)) rfl rfl ?_; (try ((first | (refine rl_idx1 sl22 rfl rfl rfl rfl ?_ ?_ ?_; omega; omega) | (apply rl_idx1 sl22 rfl rfl rfl; assumption; omega; omega)); (try ((apply rl_load vt29 rfl rfl; assumption)))))))))) | refine rl_assign (v := (Value.slice _ _ _ : Value)) rfl rfl ?_))
    refine rl_callf fn22 (clone_ok _ xs w1 (hui.mono (Keeps.of hb1)) hxl) rfl rfl ?_
    rintro v2 w2 ⟨hb2, b, hb, hO2⟩
    obtain ⟨va, vc, rfl, _, _, _⟩ := hO2.shape
    skip
    refine rl_mkfunc (vs := [Value.pointer (some ⟨w.heap.size, 0, none⟩)]) rfl rfl ?_
    skip
    have hc2 : w2.cell? ⟨w.heap.size, 0, none⟩ = some (.int .i64 n) := (hB1.ext hb2).cell_some rfl
    refine rl_callf fn21 (delete_ok n w.heap.size b _ xs w2 hO2 (hui.rng) hxl hc2 (by omega)) rfl rfl ?_
    rintro v3 w3 ⟨hc3, hs3, b3, hO3, hb3'⟩
    obtain ⟨xa, xc, rfl, _, _, _⟩ := hO3.shape
    (repeat (first | refine sq_normal ?_ | refine rl_nil ?_ | refine ret_ ?_ | refine rl_assign (v := (Value.slice _ _ _ : Value)) rfl rfl ?_))
    exact bp_ret1 (v := Value.slice _ _ _) rfl rfl ⟨below_chg (below_ext hb1 hb2 hb1.size) hc3 (by omega) (by have := hb2.size; omega), b3, hO3, by rw [hb3']; omega⟩
  · have hge : ls.getD i.toNat [] = [] := by simp; rw [List.getElem?_eq_none (by omega)]; rfl
    rw [hge]
    (repeat (first | refine seq_ ?_ | (refine region_ (id := 0) ?_)))
    refine rl_box (v := .int .i64 n) rfl rfl rfl ?_
    intro w1 hB1 hb1 hs1
    (repeat (first | refine seq_ ?_ | refine sq_normal ?_ | refine sq_ret ?_ | refine rl_nil ?_ | refine cond_t rfl ?_ | refine ret_ ?_ | (refine region_ (id := 1) ?_; (try (refine rl_move (v := (Value.int _ _ : Value)) rfl rfl ?_; (try (refine rl_move (v := (Value.slice _ _ _ : Value)) rfl rfl ?_; (try (refine rl_len sl22 rfl rfl ?_; (try ((first | (refine rl_geq_t rfl rfl rfl ?_ ?_; omega) | (refine rl_geq_f rfl rfl rfl ?_ ?_; omega))))))))))) | (refine region_ (id := 2) ?_; (try (refine rl_assign (v := (Value.slice _ _ _ : Value)) rfl rfl ?_))) | refine rl_assign (v := (Value.slice _ _ _ : Value)) rfl rfl ?_))
    exact bp_ret1 (v := Value.slice _ _ _) rfl rfl ⟨hb1, w1.heap.size, Own.nil _ _ _ _, by omega⟩
end Go.Proofs.Ytgiifodmbckbmaa.Scc
