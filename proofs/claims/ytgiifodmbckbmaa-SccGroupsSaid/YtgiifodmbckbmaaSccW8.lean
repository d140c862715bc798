/- The walk of the closure in scc.Groups that tells whether a group's time has come. -/
import Derived.Test.YtgiifodmbckbmaaSccW7
import Derived.Test.YtgiifodmbckbmaaSccS
import Derived.Test.YtgiifodmbckbmaaEng9
set_option linter.unusedVariables false
set_option linter.unusedSimpArgs false
namespace Go.Proofs.Ytgiifodmbckbmaa.Scc
open Go Go.Eng Go.RowKit Go.Scc
attribute [local irreducible] RL RX KQ SQ Exit.inBlock Exit.then BP NP CallsOk IsSl IsRows IsInts IsBools Own Blk Code.wp Calls wpList
theorem vt33 : VarT Try.prog 33 := ⟨by kernel_rfl, by kernel_rfl⟩
theorem fn19 : FnT Try.prog 19 := FnT.mk' Try.func19 (by kernel_rfl) rfl
/-- A table of who leads to whom, in blocks below B. -/
def LeadV (w : World) (n : Int) (ls : List (List Int)) (lv : Value) (B : Nat) : Prop :=
  ∃ a c b, lv = .slice a n.toNat c ∧ n.toNat ≤ c ∧ (0 < n.toNat → a = some ⟨b, 0, none⟩ ∧ b < B) ∧ ∀ k : Nat, k < n.toNat → ∃ ck, ck < B ∧ w.cell? ⟨b, 0 + k, none⟩ = some (.slice (some ⟨ck, 0, none⟩) n.toNat n.toNat) ∧
    ∀ t : Nat, t < n.toNat → w.cell? ⟨ck, 0 + t, none⟩ = some (.bool (rB n ls k t))
theorem LeadV.chg {w w' : World} {n : Int} {ls : List (List Int)} {lv : Value} {B c : Nat} (h : LeadV w n ls lv B) (hc : Chg c w w') (hB : B ≤ c) : LeadV w' n ls lv B := by
  obtain ⟨a, cp, b, h1, h2, h3, h4⟩ := h
  refine ⟨a, cp, b, h1, h2, h3, fun k hk => ?_⟩
  obtain ⟨ck, e1, e2, e3⟩ := h4 k hk
  have hb := (h3 (by omega)).2
  exact ⟨ck, e1, cell_chg e2 hc (by simp only; omega), fun t ht => cell_chg (e3 t ht) hc (by simp only; omega)⟩
theorem LeadV.ext {w w' : World} {n : Int} {ls : List (List Int)} {lv : Value} {B : Nat} (h : LeadV w n ls lv B) (hb : Below w.heap.size w w') : LeadV w' n ls lv B := by
  obtain ⟨a, cp, b, h1, h2, h3, h4⟩ := h
  refine ⟨a, cp, b, h1, h2, h3, fun k hk => ?_⟩
  obtain ⟨ck, e1, e2, e3⟩ := h4 k hk
  exact ⟨ck, e1, cell_ext e2 hb, fun t ht => cell_ext (e3 t ht) hb⟩
set_option maxHeartbeats 4000000 in
theorem ready_ok (n i : Int) (ls : List (List Int)) (lv : Value) (T : List Bool) (w : World) (B BL BT BM : Nat) (hn : n ≤ 1000) (hi0 : 0 ≤ i) (hin : i < n) (hL : LeadV w n ls lv B) (hcl : w.cell? ⟨BL, 0, none⟩ = some lv)
    (hct : w.cell? ⟨BT, 0, none⟩ = some (.slice (some ⟨BM, 0, none⟩) n.toNat n.toNat)) (hT : Blk w BM (T.map Value.bool) 4) (hTl : T.length = n.toNat) :
    CallsOk Try.prog 19 #[.int .i64 i, .pointer (some ⟨BL, 0, none⟩), .pointer (some ⟨BT, 0, none⟩)] w fun v w' => v = .bool (readyB n ls T i.toNat) ∧ w = w' := by
  obtain ⟨la, lc, lb, rfl, hlc, hla, hlead⟩ := hL
  obtain ⟨hla', hlb⟩ := hla (by omega)
  subst hla'
  obtain ⟨ci, hci, hrow, hcell⟩ := hlead i.toNat (by omega)
  refine enter_ (N := 36) Try.func19 rfl rfl rfl ?_
  (repeat (first | refine seq_ ?_ | refine sq_normal ?_ | refine rl_nil ?_ | refine block_ ?_ | (refine region_ (id := 0) ?_; (try (refine rl_assign (v := (Value.bool _ : Value)) rfl rfl ?_))) | (refine region_ (id := 1) ?_; (try ((apply rl_load vt33 rfl rfl; assumption); (try (refine rl_move (v := (Value.int _ _ : Value)) rfl rfl ?_; (try ((first | (refine rl_idx1 sl33 rfl rfl rfl rfl ?_ ?_ ?_; omega; omega) | (apply rl_idx1 sl33 rfl rfl rfl; assumption; omega; omega)); (try ((apply rl_load vt34 rfl rfl; assumption); (try (refine rl_len sl34 rfl rfl ?_; (try (refine rl_move (v := (Value.int _ _ : Value)) rfl rfl ?_)))))))))))))))
  refine loop1 [(4, 7), (12, 36)] 12 (fun m v wr => ∃ (k : Int), v = .int .i64 k ∧ 0 ≤ k ∧ k ≤ n ∧ m = (n - k).toNat ∧ w = wr ∧ (∀ j : Nat, (j : Int) < k → keeps n ls T i.toNat j = false)) _
    ⟨0, rfl, by omega, by omega, rfl, rfl, fun j hj => by omega⟩ ?_
  rintro m τ v w1 ⟨k, rfl, hk0, hkn, rfl, rfl, hd⟩ K0 hL0
  by_cases hk : k < n
  · have hkl : k.toNat < n.toNat := by omega
    have c1 := hcell k.toNat hkl
    obtain ⟨ck, hck, hrk, hck2⟩ := hlead k.toNat hkl
    have c3 := hck2 i.toNat (by omega)
    obtain ⟨tb, htb⟩ : ∃ tb, T[k.toNat]? = some tb := ⟨T[k.toNat]'(by omega), by simp⟩
    have c2 : w.cell? ⟨BM, 0 + k.toNat, none⟩ = some (.bool tb) := hT.cell_some (by simp [htb])
    have hkp : keeps n ls T i.toNat k.toNat = (rB n ls (i.toNat : Int) (k.toNat : Int) && !tb && !(rB n ls (k.toNat : Int) (i.toNat : Int))) := by
      unfold keeps; rw [List.getD_eq_getElem?_getD, htb]; rfl
    have hgo : keeps n ls T i.toNat k.toNat = false → ∀ j : Nat, (j : Int) < k + 1 → keeps n ls T i.toNat j = false := by
      intro h j hj
      by_cases hjk : (j : Int) = k
      · have : j = k.toNat := by omega
        rw [this]; exact h
      · exact hd j (by omega)
    cases h1 : rB n ls (i.toNat : Int) (k.toNat : Int) with
    | false =>
      rw [h1] at c1
      (repeat (first | refine seq_ ?_ | refine sq_normal ?_ | refine rl_nil ?_ | refine cond_t rfl ?_ | refine cond_f rfl ?_ | refine skip_ ?_ | refine block_ ?_ | refine inBlock_normal ?_ | (refine region_ (id := 2) ?_; (try ((first | (refine rl_lss_t rfl rfl rfl ?_ ?_; omega) | (refine rl_lss_f rfl rfl rfl ?_ ?_; omega))))) | (refine region_ (id := 3) ?_; (try (refine rl_move (v := (Value.int _ _ : Value)) rfl rfl ?_; (try ((first | (refine rl_idx1 sl34 rfl rfl rfl rfl ?_ ?_ ?_; omega; omega) | (apply rl_idx1 sl34 rfl rfl rfl; assumption; omega; omega)); (try ((apply rl_load vt4 rfl rfl; assumption); (try (refine rl_assign (v := (Value.int _ _ : Value)) rfl rfl ?_; (try (refine rl_assign (v := (Value.bool _ : Value)) rfl rfl ?_))))))))))) | (refine region_ (id := 4) ?_; (try (refine rl_move (v := (Value.bool _ : Value)) rfl rfl ?_; (try (refine rl_move (v := (Value.bool _ : Value)) rfl rfl ?_; (try ((first | refine rl_off rfl ?_ | (apply rl_load vt34 rfl rfl; assumption)); (try ((first | refine rl_off rfl ?_ | refine rl_move (v := (Value.int _ _ : Value)) rfl rfl ?_); (try ((first | refine rl_off rfl ?_ | (refine rl_idx1 sl34 rfl rfl rfl rfl ?_ ?_ ?_; omega; omega) | (apply rl_idx1 sl34 rfl rfl rfl; assumption; omega; omega)); (try ((first | refine rl_off rfl ?_ | (apply rl_load vt4 rfl rfl; assumption)); (try ((first | refine rl_off rfl ?_ | refine rl_not rfl rfl ?_); (try (refine rl_pick (v := (Value.bool _ : Value)) rfl rfl rfl ?_; (try (refine rl_move (v := (Value.bool _ : Value)) rfl rfl ?_; (try ((first | refine rl_off rfl ?_ | (apply rl_load vt33 rfl rfl; assumption)); (try ((first | refine rl_off rfl ?_ | refine rl_move (v := (Value.int _ _ : Value)) rfl rfl ?_); (try ((first | refine rl_off rfl ?_ | (refine rl_idx1 sl33 rfl rfl rfl rfl ?_ ?_ ?_; omega; omega) | (apply rl_idx1 sl33 rfl rfl rfl; assumption; omega; omega)); (try ((first | refine rl_off rfl ?_ | (apply rl_load vt34 rfl rfl; assumption)); (try ((first | refine rl_off rfl ?_ | refine rl_move (v := (Value.int _ _ : Value)) rfl rfl ?_); (try ((first | refine rl_off rfl ?_ | (refine rl_idx1 sl34 rfl rfl rfl rfl ?_ ?_ ?_; omega; omega) | (apply rl_idx1 sl34 rfl rfl rfl; assumption; omega; omega)); (try ((first | refine rl_off rfl ?_ | (apply rl_load vt4 rfl rfl; assumption)); (try ((first | refine rl_off rfl ?_ | refine rl_not rfl rfl ?_); (try (refine rl_pick (v := (Value.bool _ : Value)) rfl rfl rfl ?_))))))))))))))))))))))))))))))))))))) | (refine region_ (id := 6) ?_; (try ((refine rl_add rfl rfl rfl ?_ ?_ ?_; omega; omega); (try (refine rl_move (v := (Value.int _ _ : Value)) rfl rfl ?_)))))))
      exact kq_normal (hL0 (n - (k + 1)).toNat _ _ (by omega) (by (repeat (first | with_reducible exact Agree.ov | with_reducible exact Agree.refl _ _ | refine Agree.upd rfl ?_ | refine Agree.ovs rfl ?_))) ⟨k + 1, rfl, by omega, by omega, rfl, rfl, hgo (by rw [hkp, h1]; rfl)⟩)
    | true =>
      rw [h1] at c1
      cases tb with
      | true =>
        (repeat (first | refine seq_ ?_ | refine sq_normal ?_ | refine rl_nil ?_ | refine cond_t rfl ?_ | refine cond_f rfl ?_ | refine skip_ ?_ | refine block_ ?_ | refine inBlock_normal ?_ | (refine region_ (id := 2) ?_; (try ((first | (refine rl_lss_t rfl rfl rfl ?_ ?_; omega) | (refine rl_lss_f rfl rfl rfl ?_ ?_; omega))))) | (refine region_ (id := 3) ?_; (try (refine rl_move (v := (Value.int _ _ : Value)) rfl rfl ?_; (try ((first | (refine rl_idx1 sl34 rfl rfl rfl rfl ?_ ?_ ?_; omega; omega) | (apply rl_idx1 sl34 rfl rfl rfl; assumption; omega; omega)); (try ((apply rl_load vt4 rfl rfl; assumption); (try (refine rl_assign (v := (Value.int _ _ : Value)) rfl rfl ?_; (try (refine rl_assign (v := (Value.bool _ : Value)) rfl rfl ?_))))))))))) | (refine region_ (id := 4) ?_; (try (refine rl_move (v := (Value.bool _ : Value)) rfl rfl ?_; (try (refine rl_move (v := (Value.bool _ : Value)) rfl rfl ?_; (try ((first | refine rl_off rfl ?_ | (apply rl_load vt34 rfl rfl; assumption)); (try ((first | refine rl_off rfl ?_ | refine rl_move (v := (Value.int _ _ : Value)) rfl rfl ?_); (try ((first | refine rl_off rfl ?_ | (refine rl_idx1 sl34 rfl rfl rfl rfl ?_ ?_ ?_; omega; omega) | (apply rl_idx1 sl34 rfl rfl rfl; assumption; omega; omega)); (try ((first | refine rl_off rfl ?_ | (apply rl_load vt4 rfl rfl; assumption)); (try ((first | refine rl_off rfl ?_ | refine rl_not rfl rfl ?_); (try (refine rl_pick (v := (Value.bool _ : Value)) rfl rfl rfl ?_; (try (refine rl_move (v := (Value.bool _ : Value)) rfl rfl ?_; (try ((first | refine rl_off rfl ?_ | (apply rl_load vt33 rfl rfl; assumption)); (try ((first | refine rl_off rfl ?_ | refine rl_move (v := (Value.int _ _ : Value)) rfl rfl ?_); (try ((first | refine rl_off rfl ?_ | (refine rl_idx1 sl33 rfl rfl rfl rfl ?_ ?_ ?_; omega; omega) | (apply rl_idx1 sl33 rfl rfl rfl; assumption; omega; omega)); (try ((first | refine rl_off rfl ?_ | (apply rl_load vt34 rfl rfl; assumption)); (try ((first | refine rl_off rfl ?_ | refine rl_move (v := (Value.int _ _ : Value)) rfl rfl ?_); (try ((first | refine rl_off rfl ?_ | (refine rl_idx1 sl34 rfl rfl rfl rfl ?_ ?_ ?_; omega; omega) | (apply rl_idx1 sl34 rfl rfl rfl; assumption; omega; omega)); (try ((first | refine rl_off rfl ?_ | (apply rl_load vt4 rfl rfl; assumption)); (try ((first | refine rl_off rfl ?_ | refine rl_not rfl rfl ?_); (try (refine rl_pick (v := (Value.bool _ : Value)) rfl rfl rfl ?_))))))))))))))))))))))))))))))))))))) | (refine region_ (id := 6) ?_; (try ((refine rl_add rfl rfl rfl ?_ ?_ ?_; omega; omega); (try (refine rl_move (v := (Value.int _ _ : Value)) rfl rfl ?_)))))))
        exact kq_normal (hL0 (n - (k + 1)).toNat _ _ (by omega) (by (repeat (first | with_reducible exact Agree.ov | with_reducible exact Agree.refl _ _ | refine Agree.upd rfl ?_ | refine Agree.ovs rfl ?_))) ⟨k + 1, rfl, by omega, by omega, rfl, rfl, hgo (by rw [hkp, h1]; rfl)⟩)
      | false =>
        cases h3 : rB n ls (k.toNat : Int) (i.toNat : Int) with
        | true =>
          rw [h3] at c3
          (repeat (first | refine seq_ ?_ | refine sq_normal ?_ | refine rl_nil ?_ | refine cond_t rfl ?_ | refine cond_f rfl ?_ | refine skip_ ?_ | refine block_ ?_ | refine inBlock_normal ?_ | (refine region_ (id := 2) ?_; (try ((first | (refine rl_lss_t rfl rfl rfl ?_ ?_; omega) | (refine rl_lss_f rfl rfl rfl ?_ ?_; omega))))) | (refine region_ (id := 3) ?_; (try (refine rl_move (v := (Value.int _ _ : Value)) rfl rfl ?_; (try ((first | (refine rl_idx1 sl34 rfl rfl rfl rfl ?_ ?_ ?_; omega; omega) | (apply rl_idx1 sl34 rfl rfl rfl; assumption; omega; omega)); (try ((apply rl_load vt4 rfl rfl; assumption); (try (refine rl_assign (v := (Value.int _ _ : Value)) rfl rfl ?_; (try (refine rl_assign (v := (Value.bool _ : Value)) rfl rfl ?_))))))))))) | (refine region_ (id := 4) ?_; (try (refine rl_move (v := (Value.bool _ : Value)) rfl rfl ?_; (try (refine rl_move (v := (Value.bool _ : Value)) rfl rfl ?_; (try ((first | refine rl_off rfl ?_ | (apply rl_load vt34 rfl rfl; assumption)); (try ((first | refine rl_off rfl ?_ | refine rl_move (v := (Value.int _ _ : Value)) rfl rfl ?_); (try ((first | refine rl_off rfl ?_ | (refine rl_idx1 sl34 rfl rfl rfl rfl ?_ ?_ ?_; omega; omega) | (apply rl_idx1 sl34 rfl rfl rfl; assumption; omega; omega)); (try ((first | refine rl_off rfl ?_ | (apply rl_load vt4 rfl rfl; assumption)); (try ((first | refine rl_off rfl ?_ | refine rl_not rfl rfl ?_); (try (refine rl_pick (v := (Value.bool _ : Value)) rfl rfl rfl ?_; (try (refine rl_move (v := (Value.bool _ : Value)) rfl rfl ?_; (try ((first | refine rl_off rfl ?_ | (apply rl_load vt33 rfl rfl; assumption)); (try ((first | refine rl_off rfl ?_ | refine rl_move (v := (Value.int _ _ : Value)) rfl rfl ?_); (try ((first | refine rl_off rfl ?_ | (refine rl_idx1 sl33 rfl rfl rfl rfl ?_ ?_ ?_; omega; omega) | (apply rl_idx1 sl33 rfl rfl rfl; assumption; omega; omega)); (try ((first | refine rl_off rfl ?_ | (apply rl_load vt34 rfl rfl; assumption)); (try ((first | refine rl_off rfl ?_ | refine rl_move (v := (Value.int _ _ : Value)) rfl rfl ?_); (try ((first | refine rl_off rfl ?_ | (refine rl_idx1 sl34 rfl rfl rfl rfl ?_ ?_ ?_; omega; omega) | (apply rl_idx1 sl34 rfl rfl rfl; assumption; omega; omega)); (try ((first | refine rl_off rfl ?_ | (apply rl_load vt4 rfl rfl; assumption)); (try ((first | refine rl_off rfl ?_ | refine rl_not rfl rfl ?_); (try (refine rl_pick (v := (Value.bool _ : Value)) rfl rfl rfl ?_))))))))))))))))))))))))))))))))))))) | (refine region_ (id := 6) ?_; (try ((refine rl_add rfl rfl rfl ?_ ?_ ?_; omega; omega); (try (refine rl_move (v := (Value.int _ _ : Value)) rfl rfl ?_)))))))
          exact kq_normal (hL0 (n - (k + 1)).toNat _ _ (by omega) (by (repeat (first | with_reducible exact Agree.ov | with_reducible exact Agree.refl _ _ | refine Agree.upd rfl ?_ | refine Agree.ovs rfl ?_))) ⟨k + 1, rfl, by omega, by omega, rfl, rfl, hgo (by rw [hkp, h1, h3]; rfl)⟩)
        | false =>
          rw [h3] at c3
          (repeat (first | refine seq_ ?_ | refine sq_normal ?_ | refine sq_ret ?_ | refine rl_nil ?_ | refine cond_t rfl ?_ | refine skip_ ?_ | refine ret_ ?_ | refine block_ ?_ | refine inBlock_ret ?_ | refine kq_ret ?_ | (refine region_ (id := 2) ?_; (try ((first | (refine rl_lss_t rfl rfl rfl ?_ ?_; omega) | (refine rl_lss_f rfl rfl rfl ?_ ?_; omega))))) | (refine region_ (id := 3) ?_; (try (refine rl_move (v := (Value.int _ _ : Value)) rfl rfl ?_; (try ((first | (refine rl_idx1 sl34 rfl rfl rfl rfl ?_ ?_ ?_; omega; omega) | (apply rl_idx1 sl34 rfl rfl rfl; assumption; omega; omega)); (try ((apply rl_load vt4 rfl rfl; assumption); (try (refine rl_assign (v := (Value.int _ _ : Value)) rfl rfl ?_; (try (refine rl_assign (v := (Value.bool _ : Value)) rfl rfl ?_))))))))))) | (refine region_ (id := 4) ?_; (try (refine rl_move (v := (Value.bool _ : Value)) rfl rfl ?_; (try (refine rl_move (v := (Value.bool _ : Value)) rfl rfl ?_; (try ((first | refine rl_off rfl ?_ | (apply rl_load vt34 rfl rfl; assumption)); (try ((first | refine rl_off rfl ?_ | refine rl_move (v := (Value.int _ _ : Value)) rfl rfl ?_); (try ((first | refine rl_off rfl ?_ | (refine rl_idx1 sl34 rfl rfl rfl rfl ?_ ?_ ?_; omega; omega) | (apply rl_idx1 sl34 rfl rfl rfl; assumption; omega; omega)); (try ((first | refine rl_off rfl ?_ | (apply rl_load vt4 rfl rfl; assumption)); (try ((first | refine rl_off rfl ?_ | refine rl_not rfl rfl ?_); (try (refine rl_pick (v := (Value.bool _ : Value)) rfl rfl rfl ?_; (try (refine rl_move (v := (Value.bool _ : Value)) rfl rfl ?_; (try ((first | refine rl_off rfl ?_ | (apply rl_load vt33 rfl rfl; assumption)); (try ((first | refine rl_off rfl ?_ | refine rl_move (v := (Value.int _ _ : Value)) rfl rfl ?_); (try ((first | refine rl_off rfl ?_ | (refine rl_idx1 sl33 rfl rfl rfl rfl ?_ ?_ ?_; omega; omega) | (apply rl_idx1 sl33 rfl rfl rfl; assumption; omega; omega)); (try ((first | refine rl_off rfl ?_ | (apply rl_load vt34 rfl rfl; assumption)); (try ((first | refine rl_off rfl ?_ | refine rl_move (v := (Value.int _ _ : Value)) rfl rfl ?_); (try ((first | refine rl_off rfl ?_ | (refine rl_idx1 sl34 rfl rfl rfl rfl ?_ ?_ ?_; omega; omega) | (apply rl_idx1 sl34 rfl rfl rfl; assumption; omega; omega)); (try ((first | refine rl_off rfl ?_ | (apply rl_load vt4 rfl rfl; assumption)); (try ((first | refine rl_off rfl ?_ | refine rl_not rfl rfl ?_); (try (refine rl_pick (v := (Value.bool _ : Value)) rfl rfl rfl ?_))))))))))))))))))))))))))))))))))))) | (refine region_ (id := 5) ?_; (try (refine rl_assign (v := (Value.bool _ : Value)) rfl rfl ?_)))))
          refine bp_ret1 (v := Value.bool _) rfl rfl ⟨?_, rfl⟩
          congr 1
          symm
          rw [Bool.eq_false_iff]
          intro h
          have := readyB_iff.1 h k.toNat hkl
          rw [hkp, h1, h3] at this
          cases this
  · (repeat (first | refine seq_ ?_ | refine sq_normal ?_ | refine sq_exit ?_ | refine rl_nil ?_ | refine cond_f rfl ?_ | refine ret_ ?_ | refine exit_ ?_ | refine inBlock_exit ?_ | refine kq_exit ?_ | (refine region_ (id := 2) ?_; (try ((first | (refine rl_lss_t rfl rfl rfl ?_ ?_; omega) | (refine rl_lss_f rfl rfl rfl ?_ ?_; omega))))) | (refine region_ (id := 7) ?_; (try (refine rl_assign (v := (Value.bool _ : Value)) rfl rfl ?_)))))
    refine bp_ret1 (v := Value.bool _) rfl rfl ⟨?_, rfl⟩
    congr 1
    symm
    exact readyB_iff.2 fun j hj => hd j (by omega)
end Go.Proofs.Ytgiifodmbckbmaa.Scc
