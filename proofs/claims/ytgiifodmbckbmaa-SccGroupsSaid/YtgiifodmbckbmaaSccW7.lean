/- The walk of scc.from: which things one leads to. -/
import Derived.Test.YtgiifodmbckbmaaSccW6
import Derived.Test.YtgiifodmbckbmaaSccG
import Derived.Test.YtgiifodmbckbmaaEng8
set_option linter.unusedVariables false
set_option linter.unusedSimpArgs false
namespace Go.Proofs.Ytgiifodmbckbmaa.Scc
open Go Go.Eng Go.RowKit Go.Scc
attribute [local irreducible] RL RX KQ SQ Exit.inBlock Exit.then BP NP CallsOk IsSl IsRows IsInts IsBools Own Blk Code.wp Calls wpList
theorem edge_kept {n j k : Int} {ls : List (List Int)} : edge n ls j k ↔ 0 ≤ j ∧ j < n ∧ k ∈ kept n (ls.getD j.toNat []) := by
  unfold edge kept
  simp only [List.mem_filter, bad, Bool.not_eq_true', Bool.or_eq_false_iff, decide_eq_false_iff_not]
  constructor
  · rintro ⟨h1, h2, h3, h4, row, hr, hk⟩
    refine ⟨h1, h2, ?_, by omega, by omega⟩
    simp [hr, hk]
  · rintro ⟨h1, h2, hk, h3, h4⟩
    refine ⟨h1, h2, by omega, by omega, ?_⟩
    cases hr : ls[j.toNat]? with
    | none => simp [hr] at hk
    | some row => exact ⟨row, rfl, by simpa [hr] using hk⟩
theorem kept_range {n k : Int} {xs : List Int} (h : k ∈ kept n xs) : 0 ≤ k ∧ k < n := by
  unfold kept at h
  simp only [List.mem_filter, bad, Bool.not_eq_true', Bool.or_eq_false_iff, decide_eq_false_iff_not] at h
  omega
theorem fn18 : FnT Try.prog 18 := FnT.mk' Try.func18 (by kernel_rfl) rfl
/-- What is left to be done: twice what is not seen, and what stands in the queue. -/
def left (N c q : Nat) : Nat := 2 * (N - c) + q
set_option maxHeartbeats 4000000 in
set_option profiler true in
set_option profiler.threshold 900 in
theorem from_ok (n i : Int) (uv : Value) (ls : List (List Int)) (w : World) (hn : n ≤ 1000) (hi0 : 0 ≤ i) (hin : i < n) (hu : IsRows w.cell? uv ls) (hrl : ∀ xs ∈ ls, xs.length ≤ 1000000) :
    CallsOk Try.prog 18 #[.int .i64 n, uv, .int .i64 i] w fun v w' => Below w.heap.size w w' ∧ w'.heap.size > w.heap.size ∧ v = .slice (some ⟨w.heap.size, 0, none⟩) n.toNat n.toNat ∧
      ∃ S : List Bool, Blk w' w.heap.size (S.map Value.bool) 4 ∧ S.length = n.toNat ∧ ∀ t, 0 ≤ t → t < n → S[t.toNat]? = some (rB n ls i t) := by
  have hml := maxLen_le
  have hu0 := hu
  obtain ⟨aa, ac, ab, ao, rfl, halc, hac, haa, hacell⟩ := hu.open
  refine enter_ (N := 50) Try.func18 rfl rfl rfl ?_
  (repeat (first | refine seq_ ?_ | refine sq_normal ?_ | refine rl_nil ?_ | (refine region_ (id := 0) ?_; (try (refine rl_assign (v := (Value.slice _ _ _ : Value)) rfl rfl ?_))) | (refine region_ (id := 1) ?_; (try (refine rl_move (v := (Value.int _ _ : Value)) rfl rfl ?_)))))
  refine rl_make1 sl34 rfl rfl rfl ?_ ?_ ?_ ?_
  · omega
  · omega
  · omega
  intro w1 hB1 hb1 hs1
  (repeat (first | refine seq_ ?_ | refine sq_normal ?_ | refine rl_nil ?_ | (refine region_ (id := 2) ?_; (try (refine rl_move (v := (Value.slice _ _ _ : Value)) rfl rfl ?_; (try (refine rl_move (v := (Value.int _ _ : Value)) rfl rfl ?_; (try ((first | (refine rl_idx1 sl34 rfl rfl rfl rfl ?_ ?_ ?_; omega; omega) | (apply rl_idx1 sl34 rfl rfl rfl; assumption; omega; omega))))))))) | refine rl_assign (v := (Value.slice _ _ _ : Value)) rfl rfl ?_))
  refine rl_store (v := Value.bool true) vt4 rfl rfl rfl rfl hB1 ?_ ?_
  · simp; omega
  intro w2 hB2 hc2 hs2
  (repeat (first | refine seq_ ?_ | refine sq_normal ?_ | refine rl_nil ?_ | (refine region_ (id := 3) ?_; (try (refine rl_move (v := (Value.int _ _ : Value)) rfl rfl ?_)))))
  refine rl_bslice1 (v := .int .i64 i) sl29 rfl rfl rfl rfl ?_
  intro w3 hB3 hb3 hs3
  (repeat (first | refine sq_normal ?_ | refine rl_nil ?_ | refine block_ ?_ | refine rl_assign (v := (Value.slice _ _ _ : Value)) rfl rfl ?_))
  have hit : i.toNat < n.toNat := by omega
  have hb2' : Below w.heap.size w w2 := below_chg hb1 hc2 (Nat.le_refl _) (by omega)
  have hO3 : OwnO w3 3 1 (.slice (some ⟨w2.heap.size, 0, none⟩) 1 1) 1 [Value.int .i64 i] w2.heap.size 0 := (Own.of_blk hB3 rfl (by unfold maxLen; omega)).o
  have hB3' : Blk w3 w.heap.size (((List.replicate n.toNat false).set i.toNat true).map Value.bool) 4 := by simpa [List.map_set] using hB2.ext hb3
  refine loop1 [(8, 10), (11, 12), (19, 49)] 8 (fun m v wr => ∃ (S : List Bool) (q : List Int) (b off : Nat), OwnO wr 3 1 v q.length (q.map (Value.int .i64)) b off ∧ w.heap.size < b ∧ Blk wr w.heap.size (S.map Value.bool) 4 ∧ S.length = n.toNat ∧ mem S i ∧ (∀ k, mem S k → Star (edge n ls) i k) ∧
      (∀ x ∈ q, mem S x) ∧ (∀ j k, mem S j → j ∉ q → edge n ls j k → mem S k) ∧ Below w.heap.size w wr ∧ w.heap.size < wr.heap.size ∧ m = left n.toNat (S.count true) q.length ∧ left n.toNat (S.count true) q.length ≤ 2 * n.toNat + 1) _
    ⟨(List.replicate n.toNat false).set i.toNat true, [i], w2.heap.size, 0, hO3, by omega, hB3', by simp, (mem_init hi0 hit).2 rfl, fun k hk => by rw [(mem_init hi0 hit).1 hk]; exact .refl _, fun x hx => by
      simp at hx; subst hx; exact (mem_init hi0 hit).2 rfl, fun j k hj hjq => absurd (by rw [(mem_init hi0 hit).1 hj]; simp) hjq, below_ext hb2' hb3 hb2'.size, by omega, rfl, by unfold left; simp; omega⟩ ?_
  rintro m τ v w4 ⟨S, q, b, off, hO4, hbB, hB4, hSl, hSi, hSs, hqS, hSc, hb4, hsz4, rfl, hm4⟩ K0 hL0
  have hN : n.toNat ≤ 1000 := by omega
  have hql : q.length ≤ 3000 := by unfold left at hm4; omega
  clear hO3 hB3 hB3' hB2 hb2' hB1 hb3 hb1 hc2
  obtain ⟨va, vc, rfl, hvc, hvm, hva, hva2⟩ := hO4.shape
  cases q with
  | nil =>
    have hc : Closed n ls S := fun j k hj he => hSc j k hj (by simp) he
    have hl0 : (([] : List Int).length : Int) = 0 := rfl
    (repeat (first | refine seq_ ?_ | refine sq_normal ?_ | refine sq_exit ?_ | refine rl_nil ?_ | refine cond_f rfl ?_ | refine ret_ ?_ | refine exit_ ?_ | refine inBlock_exit ?_ | refine kq_exit ?_ | (refine region_ (id := 4) ?_; (try (refine rl_move (v := (Value.slice _ _ _ : Value)) rfl rfl ?_; (try (refine rl_len sl29 rfl rfl ?_; (try ((first | (refine rl_gtr_t rfl rfl rfl ?_ ?_; omega) | (refine rl_gtr_f rfl rfl rfl ?_ ?_; omega))))))))) | (refine region_ (id := 14) ?_; (try (refine rl_move (v := (Value.slice _ _ _ : Value)) rfl rfl ?_; (try (refine rl_assign (v := (Value.slice _ _ _ : Value)) rfl rfl ?_)))))))
    exact bp_ret1 (v := Value.slice _ _ _) rfl rfl ⟨hb4, hsz4, rfl, S, hB4, hSl, fun t h0 h1 => rB_of hi0 hin h0 h1 hSl hSi hSs hc⟩
  | cons nx q =>
    have hva' := hva (by simp)
    subst hva'
    have c1 : w4.cell? ⟨b, off + (0 : Int).toNat, none⟩ = some (.int .i64 nx) := hO4.cell (i := 0) rfl
    have hnx := hqS nx (by simp)
    have hnl : nx.toNat < n.toNat := by rw [← hSl]; exact (List.getElem?_eq_some_iff.1 hnx.2).1
    have hnx0 := hnx.1
    have hlen : ((nx :: q).length : Int) = q.length + 1 := by simp
    (repeat (first | refine seq_ ?_ | refine sq_normal ?_ | refine rl_nil ?_ | refine cond_t rfl ?_ | refine skip_ ?_ | refine block_ ?_ | (refine region_ (id := 4) ?_; (try (refine rl_move (v := (Value.slice _ _ _ : Value)) rfl rfl ?_; (try (refine rl_len sl29 rfl rfl ?_; (try ((first | (refine rl_gtr_t rfl rfl rfl ?_ ?_; omega) | (refine rl_gtr_f rfl rfl rfl ?_ ?_; omega))))))))) | (refine region_ (id := 5) ?_; (try (refine rl_move (v := (Value.slice _ _ _ : Value)) rfl rfl ?_; (try ((first | (refine rl_idx1 sl29 rfl rfl rfl rfl ?_ ?_ ?_; omega; omega) | (apply rl_idx1 sl29 rfl rfl rfl; assumption; omega; omega)); (try ((apply rl_load vt3 rfl rfl; assumption); (try (refine rl_assign (v := (Value.int _ _ : Value)) rfl rfl ?_))))))))) | (refine region_ (id := 6) ?_; (try (refine rl_move (v := (Value.slice _ _ _ : Value)) rfl rfl ?_)))))
    refine rl_slice_l' (b := b) (off := off) sl29 rfl rfl rfl (fun _ => rfl) ?_ ?_ hvc ?_
    · omega
    · omega
    intro a' ha'
    have hO5 : OwnO w4 3 1 (.slice a' q.length (vc - 1)) q.length (q.map (Value.int .i64)) b (off + 1) := hO4.tail (x := .int .i64 nx) (xs := q.map (Value.int .i64)) (fun h => by simpa using ha' h)
    have eq1 : (nx :: q).length - Int.toNat 1 = q.length := by simp
    rw [eq1]
    (repeat (first | refine seq_ ?_ | refine sq_normal ?_ | refine rl_nil ?_ | (refine region_ (id := 7) ?_; (try (refine rl_move (v := (Value.int _ _ : Value)) rfl rfl ?_; (try (refine rl_move (v := (Value.slice _ _ _ : Value)) rfl rfl ?_; (try (refine rl_move (v := (Value.int _ _ : Value)) rfl rfl ?_))))))) | refine rl_assign (v := (Value.slice _ _ _ : Value)) rfl rfl ?_))
    have hu4 : IsRows w4.cell? (.slice aa ls.length ac) ls := hu0.mono (Keeps.below hb4 (Nat.le_refl _))
    refine rl_callf fn20 (used_ok n nx _ ls w4 hu4 hnx0 (by omega) hrl) rfl rfl ?_
    rintro v5 w5 ⟨hb5, bu, hOu, hbu⟩
    obtain ⟨ka, kc, rfl, hkc, hkm, hka⟩ := hOu.shape
    obtain ⟨us, hus⟩ : ∃ us, us = kept n (ls.getD nx.toNat []) := ⟨_, rfl⟩
    rw [← hus] at hOu hkc hka
    rw [← hus]
    have husl : us.length ≤ 1000000 := by
      rw [hus]; unfold kept
      refine Nat.le_trans (List.length_filter_le _ _) ?_
      cases hr : ls[nx.toNat]? with
      | none => simp [hr]
      | some row => simp [hr]; exact hrl row (List.mem_of_getElem? hr)
    have husr : ∀ x ∈ us, 0 ≤ x ∧ x < n := fun x hx => by rw [hus] at hx; exact kept_range hx
    (repeat (first | refine sq_normal ?_ | refine rl_nil ?_ | refine block_ ?_ | refine rl_move (v := (Value.int _ _ : Value)) rfl rfl ?_ | refine rl_len sl29 rfl rfl ?_))
    obtain ⟨b6, off6, hO6, hb6⟩ := hO5.fresh2 (hO5.ext hb5)
    have hs5 := hb5.size
    refine loop2 [(8, 9), (11, 12), (32, 49)] 8 32 (fun m v1 v2 wr => ∃ (p : Int) (T : List Bool) (r : List Int) (c co : Nat), v2 = .int .i64 p ∧ 0 ≤ p ∧ p ≤ us.length ∧ m = (us.length - p).toNat ∧ OwnO wr 3 1 v1 r.length (r.map (Value.int .i64)) c co ∧ w.heap.size < c ∧ Blk wr w.heap.size (T.map Value.bool) 4 ∧ T.length = n.toNat ∧ Le S T ∧ (∀ k, mem T k → Star (edge n ls) i k) ∧
        (∀ x ∈ r, mem T x) ∧ (∀ j k, mem T j → j ∉ r → j ≠ nx → edge n ls j k → mem T k) ∧ Below w.heap.size w wr ∧ w.heap.size < wr.heap.size ∧ left n.toNat (T.count true) r.length ≤ left n.toNat (S.count true) q.length ∧ (∀ j, 0 ≤ j → j < p → ∀ x, us[j.toNat]? = some x → mem T x) ∧
        (∀ (j : Nat) x, us[j]? = some x → wr.cell? ⟨bu, 0 + j, none⟩ = some (.int .i64 x)) ∧ (us ≠ [] → c ≠ bu ∧ bu ≠ w.heap.size)) _
      ⟨0, S, q, b6, off6, rfl, by omega, by omega, rfl, hO6, by omega, hB4.ext hb5, hSl, Le.refl _, hSs, fun x hx => hqS x (by simp [hx]), fun j k hj hjq hjn he => hSc j k hj (by simp [hjq, hjn]) he, below_ext hb4 hb5 hb4.size, by omega, Nat.le_refl _, fun j h0 h1 => by omega, fun j x hx => by rw [Nat.zero_add]; exact hOu.cell (by simp [hx]), fun hne => ?_⟩ ?_
    · have h1 := hOu.lt (List.length_pos_iff.2 hne)
      exact ⟨by omega, by omega⟩
    clear hb6 hO6 hO5 ha' hs5 hbu hb5 hOu
    rintro m τ1 v1 v2 w6 ⟨p, T, r, c, co, rfl, hp0, hpl, rfl, hO7, hcB, hB7, hTl, hST, hTs, hrT, hTc, hb7, hsz7, hmz, hdone, hcu, hcne⟩ K1 hL1
    have hrl2 : r.length ≤ 3000 := by
      have h1 : left n.toNat (S.count true) q.length ≤ left n.toNat (S.count true) (nx :: q).length := by unfold left; simp
      have h2 : r.length ≤ left n.toNat (T.count true) r.length := by unfold left; omega
      omega
    obtain ⟨xa, xc, rfl, hxc, hxm, hxa, hxa2⟩ := hO7.shape
    by_cases hp : p < us.length
    · have hka' := hka (by omega)
      subst hka'
      obtain ⟨x, hx⟩ : ∃ x, us[p.toNat]? = some x := ⟨us[p.toNat]'(by omega), by simp⟩
      have c2 := hcu _ _ hx
      obtain ⟨hx0, hxn⟩ := husr x (List.mem_of_getElem? hx)
      obtain ⟨bb, hbb⟩ : ∃ bb, T[x.toNat]? = some bb := ⟨T[x.toNat]'(by omega), by simp⟩
      have c3 : w6.cell? ⟨w.heap.size, 0 + x.toNat, none⟩ = some (.bool bb) := hB7.cell_some (by simp [hbb])
      have hne : us ≠ [] := by rintro rfl; simp at hx
      cases bb with
      | true =>
        (repeat (first | refine seq_ ?_ | refine sq_normal ?_ | refine rl_nil ?_ | refine cond_t rfl ?_ | refine cond_f rfl ?_ | refine skip_ ?_ | refine block_ ?_ | refine inBlock_normal ?_ | (refine region_ (id := 8) ?_; (try ((first | (refine rl_lss_t rfl rfl rfl ?_ ?_; omega) | (refine rl_lss_f rfl rfl rfl ?_ ?_; omega))))) | (refine region_ (id := 9) ?_; (try ((first | (refine rl_idx1 sl29 rfl rfl rfl rfl ?_ ?_ ?_; omega; omega) | (apply rl_idx1 sl29 rfl rfl rfl; assumption; omega; omega)); (try ((apply rl_load vt3 rfl rfl; assumption); (try (refine rl_assign (v := (Value.int _ _ : Value)) rfl rfl ?_))))))) | (refine region_ (id := 10) ?_; (try (refine rl_move (v := (Value.slice _ _ _ : Value)) rfl rfl ?_; (try (refine rl_move (v := (Value.int _ _ : Value)) rfl rfl ?_; (try ((first | (refine rl_idx1 sl34 rfl rfl rfl rfl ?_ ?_ ?_; omega; omega) | (apply rl_idx1 sl34 rfl rfl rfl; assumption; omega; omega)); (try ((apply rl_load vt4 rfl rfl; assumption); (try (refine rl_not rfl rfl ?_))))))))))) | (refine region_ (id := 13) ?_; (try ((refine rl_add rfl rfl rfl ?_ ?_ ?_; omega; omega); (try (refine rl_move (v := (Value.int _ _ : Value)) rfl rfl ?_)))))))
        refine kq_normal (hL1 (us.length - (p + 1)).toNat _ _ (by omega) (by (repeat (first | with_reducible exact Agree.ov | with_reducible exact Agree.refl _ _ | refine Agree.upd rfl ?_ | refine Agree.ovs rfl ?_))) ⟨p + 1, T, r, c, co, rfl, by omega, by omega, rfl, hO7, hcB, hB7, hTl, hST, hTs, hrT, hTc, hb7, hsz7, hmz, ?_, hcu, hcne⟩)
        intro j h0 h1 y hy
        by_cases hjp : j = p
        · subst hjp; rw [hx] at hy; cases hy; exact ⟨hx0, hbb⟩
        · exact hdone j h0 (by omega) y hy
      | false =>
        (repeat (first | refine seq_ ?_ | refine sq_normal ?_ | refine rl_nil ?_ | refine cond_t rfl ?_ | refine skip_ ?_ | refine block_ ?_ | (refine region_ (id := 8) ?_; (try ((first | (refine rl_lss_t rfl rfl rfl ?_ ?_; omega) | (refine rl_lss_f rfl rfl rfl ?_ ?_; omega))))) | (refine region_ (id := 9) ?_; (try ((first | (refine rl_idx1 sl29 rfl rfl rfl rfl ?_ ?_ ?_; omega; omega) | (apply rl_idx1 sl29 rfl rfl rfl; assumption; omega; omega)); (try ((apply rl_load vt3 rfl rfl; assumption); (try (refine rl_assign (v := (Value.int _ _ : Value)) rfl rfl ?_))))))) | (refine region_ (id := 10) ?_; (try (refine rl_move (v := (Value.slice _ _ _ : Value)) rfl rfl ?_; (try (refine rl_move (v := (Value.int _ _ : Value)) rfl rfl ?_; (try ((first | (refine rl_idx1 sl34 rfl rfl rfl rfl ?_ ?_ ?_; omega; omega) | (apply rl_idx1 sl34 rfl rfl rfl; assumption; omega; omega)); (try ((apply rl_load vt4 rfl rfl; assumption); (try (refine rl_not rfl rfl ?_))))))))))) | (refine region_ (id := 11) ?_; (try (refine rl_move (v := (Value.slice _ _ _ : Value)) rfl rfl ?_; (try (refine rl_move (v := (Value.int _ _ : Value)) rfl rfl ?_; (try ((first | (refine rl_idx1 sl34 rfl rfl rfl rfl ?_ ?_ ?_; omega; omega) | (apply rl_idx1 sl34 rfl rfl rfl; assumption; omega; omega)))))))))))
        refine rl_store (v := Value.bool true) vt4 rfl rfl rfl rfl hB7 ?_ ?_
        · simp; omega
        intro w7 hB8 hc8 hs8
        (repeat (first | refine sq_normal ?_ | refine rl_nil ?_ | (refine region_ (id := 12) ?_; (try (refine rl_move (v := (Value.slice _ _ _ : Value)) rfl rfl ?_; (try (refine rl_move (v := (Value.int _ _ : Value)) rfl rfl ?_)))))))
        refine rl_bslice1 (v := .int .i64 x) sl29 rfl rfl rfl rfl ?_
        intro w8 hB9 hb9 hs9
        have hO8 : OwnO w8 3 1 (.slice xa r.length xc) r.length (r.map (Value.int .i64)) c co := (hO7.chg hc8 (fun _ => by omega)).ext hb9
        obtain ⟨c', co', hO9, hc9⟩ := hO8.fresh
        refine rl_appendO (news := [Value.int .i64 x]) (B := w7.heap.size) (o2 := 0) sl29 rfl (by decide) hO9 ?_ rfl rfl rfl (fun _ => rfl) rfl ?_ ?_ ?_ ?_
        · intro j u hu
          rw [Nat.zero_add]; exact hB9.cell_some hu
        · intro u hu; simp at hu; subst hu; rfl
        · unfold maxLen; omega
        · omega
        intro v10 w10 c10 co10 hO10 hcc10 hg10 _
        obtain ⟨ya, yc, rfl, _, _, _, _⟩ := hO10.shape
        (repeat (first | refine sq_normal ?_ | refine rl_nil ?_ | refine inBlock_normal ?_ | (refine region_ (id := 13) ?_; (try ((refine rl_add rfl rfl rfl ?_ ?_ ?_; omega; omega); (try (refine rl_move (v := (Value.int _ _ : Value)) rfl rfl ?_))))) | refine rl_assign (v := (Value.slice _ _ _ : Value)) rfl rfl ?_))
        have hxl : x.toNat < T.length := by omega
        have hcount : T.count true < (T.set x.toNat true).count true := by
          refine (le_set T hx0 hxl).count.2 ?_
          intro h
          have h1 : (T.set x.toNat true)[x.toNat]? = some true := by simp [hxl]
          rw [← h, hbb] at h1
          cases h1
        have hcle := count_le (T.set x.toNat true)
        have hms : ∀ k, mem (T.set x.toNat true) k ↔ mem T k ∨ k = x := fun k => mem_set hx0 hxl
        have hb8 : Below w.heap.size w w7 := below_chg hb7 hc8 (Nat.le_refl _) (by omega)
        have hb10 : Below w.heap.size w w8 := below_ext hb8 hb9 hb8.size
        have hO10' : OwnO w10 3 1 (.slice ya (r.length + 1) yc) (r ++ [x]).length ((r ++ [x]).map (Value.int .i64)) c10 co10 := by simpa using hO10
        have hs9' := hb9.size
        have hs10 := hg10.size
        have hc'1 : w.heap.size < c' := by
          clear hmz hm4 hcount hcle hcne hcc10
          omega
        have hc10 : w.heap.size < c10 := by
          clear hmz hm4 hcount hcle hcne hc9
          omega
        have hbu6 := cell_lt c2
        simp only at hbu6
        have hc'2 : c' ≠ bu := by
          rcases hc9 with ⟨h, _⟩ | h
          · rw [h]; exact (hcne hne).1
          · clear hmz hm4 hcount hcle hcne hcc10
            omega
        have hc102 : c10 ≠ bu := by
          rcases hcc10 with h | h
          · rw [h]; exact hc'2
          · clear hmz hm4 hcount hcle hcne
            omega
        have hbuB := (hcne hne).2
        have hsz10 : w.heap.size < w10.heap.size := by
          clear hmz hm4 hcount hcle hcne hcc10 hc9
          omega
        have hsl : (T.set x.toNat true).length = n.toNat := by simp [hTl]
        refine kq_normal (hL1 (us.length - (p + 1)).toNat _ _ (by omega) (by (repeat (first | with_reducible exact Agree.ov | with_reducible exact Agree.refl _ _ | refine Agree.upd rfl ?_ | refine Agree.ovs rfl ?_))) ⟨p + 1, T.set x.toNat true, r ++ [x], c10, co10, rfl, by omega, by omega, rfl, hO10', hc10, ?_, hsl, hST.trans (le_set T hx0 hxl), ?_, ?_, ?_, below_chg hb10 hg10 (Nat.le_of_lt hc'1) hb10.size, hsz10, ?_, ?_, ?_, ?_⟩)
        · have h1 : Blk w8 w.heap.size ((T.set x.toNat true).map Value.bool) 4 := by simpa [List.map_set] using hB8.ext hb9
          exact h1.chg hg10 (Nat.ne_of_lt hc'1)
        · intro y hy
          rcases (hms _).1 hy with h | rfl
          · exact hTs y h
          · exact .tail (hSs nx hnx) (edge_kept.2 ⟨hnx0, by omega, by rw [← hus]; exact List.mem_of_getElem? hx⟩)
        · intro y hy
          rcases List.mem_append.1 hy with h | h
          · exact (hms _).2 (.inl (hrT y h))
          · simp at h; exact (hms _).2 (.inr h)
        · intro j y hj hjr hjn he
          rcases (hms _).1 hj with h | rfl
          · exact (hms _).2 (.inl (hTc j y h (fun h2 => hjr (by simp [h2])) hjn he))
          · exact absurd (by simp) hjr
        · refine Nat.le_trans ?_ hmz
          unfold left
          simp only [List.length_append, List.length_cons, List.length_nil]
          omega
        · intro j h0 h1 y hy
          by_cases hjp : j = p
          · subst hjp; rw [hx] at hy; cases hy; exact (hms _).2 (.inr rfl)
          · exact (hms _).2 (.inl (hdone j h0 (by omega) y hy))
        · intro j y hy
          have h1 := hcu j y hy
          exact cell_chg (cell_ext (cell_chg h1 hc8 hbuB) hb9) hg10 (Ne.symm hc'2)
        · intro _
          exact ⟨hc102, hbuB⟩
    · (repeat (first | refine seq_ ?_ | refine sq_normal ?_ | refine sq_exit ?_ | refine rl_nil ?_ | refine cond_f rfl ?_ | refine exit_ ?_ | refine inBlock_normal ?_ | refine inBlock_exit ?_ | refine kq_exit ?_ | (refine region_ (id := 8) ?_; (try ((first | (refine rl_lss_t rfl rfl rfl ?_ ?_; omega) | (refine rl_lss_f rfl rfl rfl ?_ ?_; omega)))))))
      refine kq_normal (hL0 (left n.toNat (T.count true) r.length) _ _ ?_ (by (repeat (first | with_reducible exact Agree.ov | with_reducible exact Agree.refl _ _ | refine Agree.upd rfl ?_ | refine Agree.ovs rfl ?_))) ⟨T, r, c, co, hO7, hcB, hB7, hTl, hST.2 i hSi, hTs, hrT, ?_, hb7, hsz7, rfl, ?_⟩)
      · refine Nat.lt_of_le_of_lt hmz ?_
        unfold left; simp
      · intro j k hj hjr he
        by_cases hjn : j = nx
        · subst hjn
          have h1 := (edge_kept.1 he).2.2
          rw [← hus] at h1
          obtain ⟨y, hy⟩ := List.mem_iff_getElem?.1 h1
          have := (List.getElem?_eq_some_iff.1 hy).1
          exact hdone y (by omega) (by omega) k (by simpa using hy)
        · exact hTc j k hj hjr hjn he
      · have h1 : left n.toNat (S.count true) q.length ≤ left n.toNat (S.count true) (nx :: q).length := by unfold left; simp
        omega
end Go.Proofs.Ytgiifodmbckbmaa.Scc
