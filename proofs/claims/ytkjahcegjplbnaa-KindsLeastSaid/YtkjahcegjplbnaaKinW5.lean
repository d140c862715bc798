/- The walks of strings.CutPrefix, kinds.part, kinds.whole, kinds.Read. -/
import Derived.Test.YtkjahcegjplbnaaKinW4
import Derived.Test.YtkjahcegjplbnaaKinW2
set_option linter.unusedVariables false
set_option linter.unusedSimpArgs false
namespace Go.Proofs.Ytkjahcegjplbnaa.Kin
open Go Go.Eng Go.RowKit Go.Kn
attribute [local irreducible] RL RX KQ SQ Exit.inBlock Exit.then BP NP CallsOk IsSl IsRows IsInts IsBools Own Blk Code.wp Calls wpList
theorem hasPrefix_ok (s p : List UInt8) (w : World) (hs : s.length ≤ 1000000000) (hp : p.length ≤ 1000000000) :
    CallsOk Try.prog 56 #[St s, St p] w fun r w' => r = .bool (decide (s.take p.length = p)) ∧ w' = w := by
  refine enter_ (N := 18) Try.func56 rfl rfl rfl ?_
  by_cases h1 : (p.length : Int) ≤ s.length
  · by_cases h2 : s.take p.length = p
    · have h2' : s.take (p.length : Int).toNat = p := h2
      (repeat (first | refine seq_ ?_ | refine sq_normal ?_ | refine rl_nil ?_ | refine ret_ ?_ | (refine region_ (id := 0) ?_; (try (refine rl_assign (v := (Value.bool _ : Value)) rfl rfl ?_))) | (refine region_ (id := 1) ?_; (try (refine rl_move (v := (Value.string _ : Value)) rfl rfl ?_; (try (refine rl_slen us9 rfl rfl ?_; (try (refine rl_move (v := (Value.string _ : Value)) rfl rfl ?_; (try (refine rl_slen us9 rfl rfl ?_; (try ((first | (refine rl_geq_t rfl rfl rfl ?_ ?_; omega) | (refine rl_geq_f rfl rfl rfl ?_ ?_; omega)); (try (refine rl_move (v := (Value.bool _ : Value)) rfl rfl ?_; (try ((first | refine rl_off rfl ?_ | refine rl_move (v := (Value.string _ : Value)) rfl rfl ?_); (try ((first | refine rl_off rfl ?_ | refine rl_move (v := (Value.string _ : Value)) rfl rfl ?_); (try ((first | refine rl_off rfl ?_ | refine rl_slen us9 rfl rfl ?_); (try ((first | refine rl_off rfl ?_ | (refine rl_sslice_h us9 rfl rfl rfl ?_ ?_ ?_; omega; omega)); (try ((first | refine rl_off rfl ?_ | refine rl_move (v := (Value.string _ : Value)) rfl rfl ?_); (try ((first | refine rl_off rfl ?_ | refine rl_seql_t rfl rfl rfl (by first | rfl | assumption) ?_ | refine rl_seql_f rfl rfl rfl (by first | assumption | decide) ?_); (try (refine rl_pick (v := (Value.bool _ : Value)) rfl rfl rfl ?_; (try (refine rl_assign (v := (Value.bool _ : Value)) rfl rfl ?_)))))))))))))))))))))))))))))))
      exact bp_ret1 (v := Value.bool _) rfl rfl ⟨by rw [decide_eq_true h2], rfl⟩
    · have h2' : s.take (p.length : Int).toNat ≠ p := h2
      (repeat (first | refine seq_ ?_ | refine sq_normal ?_ | refine rl_nil ?_ | refine ret_ ?_ | (refine region_ (id := 0) ?_; (try (refine rl_assign (v := (Value.bool _ : Value)) rfl rfl ?_))) | (refine region_ (id := 1) ?_; (try (refine rl_move (v := (Value.string _ : Value)) rfl rfl ?_; (try (refine rl_slen us9 rfl rfl ?_; (try (refine rl_move (v := (Value.string _ : Value)) rfl rfl ?_; (try (refine rl_slen us9 rfl rfl ?_; (try ((first | (refine rl_geq_t rfl rfl rfl ?_ ?_; omega) | (refine rl_geq_f rfl rfl rfl ?_ ?_; omega)); (try (refine rl_move (v := (Value.bool _ : Value)) rfl rfl ?_; (try ((first | refine rl_off rfl ?_ | refine rl_move (v := (Value.string _ : Value)) rfl rfl ?_); (try ((first | refine rl_off rfl ?_ | refine rl_move (v := (Value.string _ : Value)) rfl rfl ?_); (try ((first | refine rl_off rfl ?_ | refine rl_slen us9 rfl rfl ?_); (try ((first | refine rl_off rfl ?_ | (refine rl_sslice_h us9 rfl rfl rfl ?_ ?_ ?_; omega; omega)); (try ((first | refine rl_off rfl ?_ | refine rl_move (v := (Value.string _ : Value)) rfl rfl ?_); (try ((first | refine rl_off rfl ?_ | refine rl_seql_t rfl rfl rfl (by first | rfl | assumption) ?_ | refine rl_seql_f rfl rfl rfl (by first | assumption | decide) ?_); (try (refine rl_pick (v := (Value.bool _ : Value)) rfl rfl rfl ?_; (try (refine rl_assign (v := (Value.bool _ : Value)) rfl rfl ?_)))))))))))))))))))))))))))))))
      exact bp_ret1 (v := Value.bool _) rfl rfl ⟨by rw [decide_eq_false h2], rfl⟩
  · have h2 : s.take p.length ≠ p := fun h => by
      have := congrArg List.length h
      rw [List.length_take] at this
      omega
    (repeat (first | refine seq_ ?_ | refine sq_normal ?_ | refine rl_nil ?_ | refine ret_ ?_ | (refine region_ (id := 0) ?_; (try (refine rl_assign (v := (Value.bool _ : Value)) rfl rfl ?_))) | (refine region_ (id := 1) ?_; (try (refine rl_move (v := (Value.string _ : Value)) rfl rfl ?_; (try (refine rl_slen us9 rfl rfl ?_; (try (refine rl_move (v := (Value.string _ : Value)) rfl rfl ?_; (try (refine rl_slen us9 rfl rfl ?_; (try ((first | (refine rl_geq_t rfl rfl rfl ?_ ?_; omega) | (refine rl_geq_f rfl rfl rfl ?_ ?_; omega)); (try (refine rl_move (v := (Value.bool _ : Value)) rfl rfl ?_; (try ((first | refine rl_off rfl ?_ | refine rl_move (v := (Value.string _ : Value)) rfl rfl ?_); (try ((first | refine rl_off rfl ?_ | refine rl_move (v := (Value.string _ : Value)) rfl rfl ?_); (try ((first | refine rl_off rfl ?_ | refine rl_slen us9 rfl rfl ?_); (try ((first | refine rl_off rfl ?_ | (refine rl_sslice_h us9 rfl rfl rfl ?_ ?_ ?_; omega; omega)); (try ((first | refine rl_off rfl ?_ | refine rl_move (v := (Value.string _ : Value)) rfl rfl ?_); (try ((first | refine rl_off rfl ?_ | refine rl_seql_t rfl rfl rfl (by first | rfl | assumption) ?_ | refine rl_seql_f rfl rfl rfl (by first | assumption | decide) ?_); (try (refine rl_pick (v := (Value.bool _ : Value)) rfl rfl rfl ?_; (try (refine rl_assign (v := (Value.bool _ : Value)) rfl rfl ?_)))))))))))))))))))))))))))))))
    exact bp_ret1 (v := Value.bool _) rfl rfl ⟨by rw [decide_eq_false h2], rfl⟩
theorem cut0_ok (s p : List UInt8) (w : World) (hs : s.length ≤ 1000000000) (hp : p.length ≤ 1000000000) :
    CallsOk Try.prog 53 #[St s, St p] w fun r w' => r = .tuple #[St (if s.take p.length = p then s.drop p.length else s), .bool (decide (s.take p.length = p))] ∧ w' = w := by
  refine enter_ (N := 15) Try.func53 rfl rfl rfl ?_
  (repeat (first | refine seq_ ?_ | refine sq_normal ?_ | refine rl_nil ?_ | (refine region_ (id := 0) ?_; (try (refine rl_assign (v := (Value.string _ : Value)) rfl rfl ?_; (try (refine rl_assign (v := (Value.bool _ : Value)) rfl rfl ?_))))) | (refine region_ (id := 1) ?_; (try (refine rl_move (v := (Value.string _ : Value)) rfl rfl ?_; (try (refine rl_move (v := (Value.string _ : Value)) rfl rfl ?_)))))))
  refine rl_callf fn56 (hasPrefix_ok s p w hs hp) rfl rfl ?_
  rintro _ w ⟨rfl, rfl⟩
  by_cases h : s.take p.length = p
  · rw [decide_eq_true h, if_pos h]
    have hl : (p.length : Int) ≤ s.length := by
      have := congrArg List.length h
      rw [List.length_take] at this
      omega
    (repeat (first | refine seq_ ?_ | refine sq_normal ?_ | refine rl_nil ?_ | refine cond_f rfl ?_ | refine skip_ ?_ | refine ret_ ?_ | (refine region_ (id := 3) ?_; (try (refine rl_move (v := (Value.string _ : Value)) rfl rfl ?_; (try (refine rl_move (v := (Value.string _ : Value)) rfl rfl ?_; (try (refine rl_slen us9 rfl rfl ?_; (try ((refine rl_sslice_l us9 rfl rfl rfl ?_ ?_ ?_; omega; omega); (try (refine rl_assign (v := (Value.string _ : Value)) rfl rfl ?_; (try (refine rl_assign (v := (Value.bool _ : Value)) rfl rfl ?_))))))))))))) | refine rl_not rfl rfl ?_))
    exact bp_ret2 (v := St _) (v' := Value.bool _) rfl rfl rfl ⟨rfl, rfl⟩
  · rw [decide_eq_false h, if_neg h]
    (repeat (first | refine seq_ ?_ | refine sq_normal ?_ | refine sq_ret ?_ | refine rl_nil ?_ | refine cond_t rfl ?_ | refine ret_ ?_ | (refine region_ (id := 2) ?_; (try (refine rl_move (v := (Value.string _ : Value)) rfl rfl ?_; (try (refine rl_assign (v := (Value.string _ : Value)) rfl rfl ?_; (try (refine rl_assign (v := (Value.bool _ : Value)) rfl rfl ?_))))))) | refine rl_not rfl rfl ?_))
    exact bp_ret2 (v := St _) (v' := Value.bool _) rfl rfl rfl ⟨rfl, rfl⟩
theorem cut_ok (s p : List UInt8) (w : World) (hs : s.length ≤ 1000000000) (hp : p.length ≤ 1000000000) :
    CallsOk Try.prog 49 #[St s, St p] w fun r w' => r = .tuple #[St (if s.take p.length = p then s.drop p.length else s), .bool (decide (s.take p.length = p))] ∧ w' = w := by
  refine enter_ (N := 11) Try.func49 rfl rfl rfl ?_
  (repeat (first | refine seq_ ?_ | refine sq_normal ?_ | refine rl_nil ?_ | (refine region_ (id := 0) ?_; (try (refine rl_assign (v := (Value.string _ : Value)) rfl rfl ?_; (try (refine rl_assign (v := (Value.bool _ : Value)) rfl rfl ?_))))) | (refine region_ (id := 1) ?_; (try (refine rl_move (v := (Value.string _ : Value)) rfl rfl ?_; (try (refine rl_move (v := (Value.string _ : Value)) rfl rfl ?_)))))))
  refine rl_callf fn53 (cut0_ok s p w hs hp) rfl rfl ?_
  rintro _ w ⟨rfl, rfl⟩
  (repeat (first | refine sq_normal ?_ | refine rl_nil ?_ | refine ret_ ?_ | refine rl_assign (v := (Value.string _ : Value)) rfl rfl ?_ | refine rl_assign (v := (Value.bool _ : Value)) rfl rfl ?_ | refine rl_extract rfl rfl rfl ?_))
  exact bp_ret2 (v := St _) (v' := Value.bool _) rfl rfl rfl ⟨rfl, rfl⟩
/-- What reading tells, in memory. -/
def RdPost (w0 : World) (L : List Ent) (V : Vw) (x : Kd × List UInt8 × Bool) (r : Value) (w' : World) : Prop :=
  ∃ V' v', VLe V V' ∧ Mem w0 w' L V' ∧ r = .tuple #[.agg #[v'], St x.2.1, .bool x.2.2] ∧ KSl V' v' x.1
theorem take1 {s : List UInt8} {c : UInt8} (h : s.take [c].length = [c]) : ∃ r, s = c :: r := by
  cases s with
  | nil => simp at h
  | cons a r => simp at h; exact ⟨r, by rw [h]⟩
theorem cutArrow_of {s : List UInt8} (h : s.take ([32, 45, 62, 32] : List UInt8).length = [32, 45, 62, 32]) : Kd.cutArrow s = some (s.drop 4) := by
  have h4 : ([32, 45, 62, 32] : List UInt8).length = 4 := rfl
  rw [h4] at h
  have : s = [32, 45, 62, 32] ++ s.drop 4 := by rw [← h, List.take_append_drop]
  rw [this]
  rfl
theorem cutArrow_no {s : List UInt8} (h : ¬ s.take ([32, 45, 62, 32] : List UInt8).length = [32, 45, 62, 32]) : Kd.cutArrow s = none := by
  cases hc : Kd.cutArrow s with
  | none => rfl
  | some r =>
    exfalso
    apply h
    rw [Kd.cutArrow_eq hc]
    rfl
set_option maxHeartbeats 2000000 in
theorem part_ok (f : Nat) (ih : ∀ (s : List UInt8), 2 * s.length + 2 ≤ f → s.length ≤ 1000000 → ∀ (w0 w : World) (L : List Ent) (V : Vw), Mem w0 w L V → CallsOk Try.prog 38 #[St s] w (RdPost w0 L V (Kd.rd f true s)))
    (s : List UInt8) (hf : 2 * s.length + 1 ≤ f + 1) (hs : s.length ≤ 1000000) (w0 w : World) (L : List Ent) (V : Vw) (hM : Mem w0 w L V) : CallsOk Try.prog 48 #[St s] w (RdPost w0 L V (Kd.rd (f + 1) false s)) := by
  refine enter_ (N := 44) Try.func48 rfl rfl rfl ?_
  (repeat (first | refine seq_ ?_ | refine sq_normal ?_ | refine rl_nil ?_ | (refine region_ (id := 0) ?_; (try ((refine rl_allocAM (d := 2) hM ag25 rfl ?_; clear hM; intro w b2 hM); (try (refine rl_assign (v := (Value.string _ : Value)) rfl rfl ?_; (try (refine rl_assign (v := (Value.bool _ : Value)) rfl rfl ?_))))))) | (refine region_ (id := 1) ?_; (try (refine rl_move (v := (Value.string _ : Value)) rfl rfl ?_)))))
  refine rl_callf fn49 (cut_ok s [42] w (by omega) (by decide)) rfl rfl ?_
  rintro _ w ⟨rfl, rfl⟩
  by_cases h1 : s.take ([42] : List UInt8).length = [42]
  · rw [decide_eq_true h1, if_pos h1]
    obtain ⟨r, rfl⟩ := take1 h1
    (repeat (first | refine seq_ ?_ | refine sq_normal ?_ | refine sq_ret ?_ | refine rl_nil ?_ | refine cond_t rfl ?_ | refine ret_ ?_ | (refine region_ (id := 2) ?_; (try (refine rl_move (v := (Value.bool _ : Value)) rfl rfl ?_))) | (refine region_ (id := 3) ?_; (try (refine rl_build [(Value.slice none 0 0)] ag25 pl25 rfl rfl rfl ?_; (try (refine rl_move (v := (Value.string _ : Value)) rfl rfl ?_; (try ((first | (refine rl_storeWM 0 hM ag25 rfl rfl rfl rfl rfl rfl rfl ?_; clear hM; intro w hM) | (refine rl_storeWM 1 hM ag25 rfl rfl rfl rfl rfl rfl rfl ?_; clear hM; intro w hM) | (refine rl_storeWM 2 hM ag25 rfl rfl rfl rfl rfl rfl rfl ?_; clear hM; intro w hM) | (refine rl_storeWM 3 hM ag25 rfl rfl rfl rfl rfl rfl rfl ?_; clear hM; intro w hM) | (refine rl_storeWM 4 hM ag25 rfl rfl rfl rfl rfl rfl rfl ?_; clear hM; intro w hM) | (refine rl_storeWM 5 hM ag25 rfl rfl rfl rfl rfl rfl rfl ?_; clear hM; intro w hM) | (refine rl_storeWM 6 hM ag25 rfl rfl rfl rfl rfl rfl rfl ?_; clear hM; intro w hM) | (refine rl_storeWM 7 hM ag25 rfl rfl rfl rfl rfl rfl rfl ?_; clear hM; intro w hM)); (try (refine rl_assign (v := (Value.string _ : Value)) rfl rfl ?_; (try (refine rl_assign (v := (Value.bool _ : Value)) rfl rfl ?_))))))))))) | refine rl_assign (v := (Value.string _ : Value)) rfl rfl ?_ | refine rl_assign (v := (Value.bool _ : Value)) rfl rfl ?_ | refine rl_move (v := (Value.tuple _ : Value)) rfl rfl ?_ | refine rl_extract rfl rfl rfl ?_))
    exact bp_x3 rfl rfl (res_M 0 hM ag25 rfl rfl rfl) (res_tmp rfl) (res_tmp rfl) ⟨V, _, VLe.refl _, hM.dropn 1, rfl, KSl.nil _ _ (Nat.zero_le _)⟩
  · rw [decide_eq_false h1, if_neg h1]
    (repeat (first | refine seq_ ?_ | refine sq_normal ?_ | refine rl_nil ?_ | refine cond_f rfl ?_ | refine skip_ ?_ | (refine region_ (id := 2) ?_; (try (refine rl_move (v := (Value.bool _ : Value)) rfl rfl ?_))) | (refine region_ (id := 4) ?_; (try (refine rl_move (v := (Value.string _ : Value)) rfl rfl ?_))) | refine rl_assign (v := (Value.string _ : Value)) rfl rfl ?_ | refine rl_assign (v := (Value.bool _ : Value)) rfl rfl ?_ | refine rl_move (v := (Value.tuple _ : Value)) rfl rfl ?_ | refine rl_extract rfl rfl rfl ?_))
    refine rl_callf fn49 (cut_ok s [40] w (by omega) (by decide)) rfl rfl ?_
    rintro _ w ⟨rfl, rfl⟩
    by_cases h2 : s.take ([40] : List UInt8).length = [40]
    · rw [decide_eq_true h2, if_pos h2]
      obtain ⟨r, rfl⟩ := take1 h2
      simp only [List.length_cons] at hf hs
      (repeat (first | refine seq_ ?_ | refine sq_normal ?_ | refine rl_nil ?_ | refine cond_f rfl ?_ | refine skip_ ?_ | (refine region_ (id := 5) ?_; (try (refine rl_move (v := (Value.bool _ : Value)) rfl rfl ?_; (try (refine rl_not rfl rfl ?_))))) | (refine region_ (id := 7) ?_; (try (refine rl_move (v := (Value.string _ : Value)) rfl rfl ?_))) | refine rl_assign (v := (Value.string _ : Value)) rfl rfl ?_ | refine rl_assign (v := (Value.bool _ : Value)) rfl rfl ?_ | refine rl_move (v := (Value.tuple _ : Value)) rfl rfl ?_ | refine rl_extract rfl rfl rfl ?_))
      refine rl_callf fn38 (ih r (by omega) (by omega) w0 w _ V hM) rfl rfl ?_
      clear hM
      rintro _ w ⟨V1, v1, hV1, hM, rfl, hk1⟩
      obtain ⟨_, _, rfl⟩ := hk1.shape
      have hle := (Kd.rd_sz f true r).2.1
      (repeat (first | refine seq_ ?_ | refine sq_normal ?_ | refine rl_nil ?_ | (refine region_ (id := 8) ?_; (try (refine rl_move (v := (Value.string _ : Value)) rfl rfl ?_))) | refine rl_assign (v := (Value.string _ : Value)) rfl rfl ?_ | refine rl_assign (v := (Value.bool _ : Value)) rfl rfl ?_ | refine rl_move (v := (Value.tuple _ : Value)) rfl rfl ?_ | refine rl_extract rfl rfl rfl ?_ | (first | (refine rl_storeWM 0 hM ag25 rfl rfl rfl rfl rfl rfl rfl ?_; clear hM; intro w hM) | (refine rl_storeWM 1 hM ag25 rfl rfl rfl rfl rfl rfl rfl ?_; clear hM; intro w hM) | (refine rl_storeWM 2 hM ag25 rfl rfl rfl rfl rfl rfl rfl ?_; clear hM; intro w hM) | (refine rl_storeWM 3 hM ag25 rfl rfl rfl rfl rfl rfl rfl ?_; clear hM; intro w hM) | (refine rl_storeWM 4 hM ag25 rfl rfl rfl rfl rfl rfl rfl ?_; clear hM; intro w hM) | (refine rl_storeWM 5 hM ag25 rfl rfl rfl rfl rfl rfl rfl ?_; clear hM; intro w hM) | (refine rl_storeWM 6 hM ag25 rfl rfl rfl rfl rfl rfl rfl ?_; clear hM; intro w hM) | (refine rl_storeWM 7 hM ag25 rfl rfl rfl rfl rfl rfl rfl ?_; clear hM; intro w hM)) | (refine rl_allocAM (d := 9) hM ag25 rfl ?_; clear hM; intro w b9 hM)))
      refine rl_callf fn49 (cut_ok (Kd.rd f true r).2.1 [41] w (by omega) (by decide)) rfl rfl ?_
      rintro _ w ⟨rfl, rfl⟩
      by_cases h3 : (Kd.rd f true r).2.1.take ([41] : List UInt8).length = [41]
      · rw [decide_eq_true h3, if_pos h3]
        obtain ⟨q, hq⟩ := take1 h3
        have e : Kd.rd (f + 1) false (40 :: r) = ((Kd.rd f true r).1, q, (Kd.rd f true r).2.2) := by rw [Kd.rd_open, hq]; rfl
        rw [e]
        cases hb : (Kd.rd f true r).2.2 <;>
          ((repeat (first | refine seq_ ?_ | refine sq_normal ?_ | refine rl_nil ?_ | refine ret_ ?_ | (refine region_ (id := 9) ?_; (try ((first | refine rl_loadAV hM ag25 rfl rfl (by assumption) (by rfl) ?_ | refine rl_loadAM (vs := [_]) 0 hM ag25 rfl rfl rfl rfl rfl ?_ | refine rl_loadAM (vs := [_]) 1 hM ag25 rfl rfl rfl rfl rfl ?_ | refine rl_loadAM (vs := [_]) 2 hM ag25 rfl rfl rfl rfl rfl ?_ | refine rl_loadAM (vs := [_]) 3 hM ag25 rfl rfl rfl rfl rfl ?_ | refine rl_loadAM (vs := [_]) 4 hM ag25 rfl rfl rfl rfl rfl ?_ | refine rl_loadAM (vs := [_]) 5 hM ag25 rfl rfl rfl rfl rfl ?_ | refine rl_loadAM (vs := [_]) 6 hM ag25 rfl rfl rfl rfl rfl ?_ | refine rl_loadAM (vs := [_]) 7 hM ag25 rfl rfl rfl rfl rfl ?_); (try (refine rl_move (v := (Value.string _ : Value)) rfl rfl ?_; (try (refine rl_move (v := (Value.bool _ : Value)) rfl rfl ?_; (try (refine rl_move (v := (Value.bool _ : Value)) rfl rfl ?_; (try ((first | refine rl_off rfl ?_ | refine rl_move (v := (Value.bool _ : Value)) rfl rfl ?_); (try (refine rl_pick (v := (Value.bool _ : Value)) rfl rfl rfl ?_; (try ((first | (refine rl_storeWM 0 hM ag25 rfl rfl rfl rfl rfl rfl rfl ?_; clear hM; intro w hM) | (refine rl_storeWM 1 hM ag25 rfl rfl rfl rfl rfl rfl rfl ?_; clear hM; intro w hM) | (refine rl_storeWM 2 hM ag25 rfl rfl rfl rfl rfl rfl rfl ?_; clear hM; intro w hM) | (refine rl_storeWM 3 hM ag25 rfl rfl rfl rfl rfl rfl rfl ?_; clear hM; intro w hM) | (refine rl_storeWM 4 hM ag25 rfl rfl rfl rfl rfl rfl rfl ?_; clear hM; intro w hM) | (refine rl_storeWM 5 hM ag25 rfl rfl rfl rfl rfl rfl rfl ?_; clear hM; intro w hM) | (refine rl_storeWM 6 hM ag25 rfl rfl rfl rfl rfl rfl rfl ?_; clear hM; intro w hM) | (refine rl_storeWM 7 hM ag25 rfl rfl rfl rfl rfl rfl rfl ?_; clear hM; intro w hM)); (try (refine rl_assign (v := (Value.string _ : Value)) rfl rfl ?_; (try (refine rl_assign (v := (Value.bool _ : Value)) rfl rfl ?_))))))))))))))))))) | refine rl_assign (v := (Value.string _ : Value)) rfl rfl ?_ | refine rl_assign (v := (Value.bool _ : Value)) rfl rfl ?_ | refine rl_move (v := (Value.tuple _ : Value)) rfl rfl ?_ | refine rl_extract rfl rfl rfl ?_))
           refine bp_x3 rfl rfl (res_M 1 hM ag25 rfl rfl rfl) (res_tmp rfl) (res_tmp rfl) ⟨V1, _, hV1, hM.dropn 2, ?_, hk1⟩
           rw [hq]
           rfl)
      · rw [decide_eq_false h3, if_neg h3]
        have e : Kd.rd (f + 1) false (40 :: r) = ((Kd.rd f true r).1, (Kd.rd f true r).2.1, false) := by
          rw [Kd.rd_open]
          split
          · rename_i q hq
            exfalso; apply h3; rw [hq]; rfl
          · rfl
        rw [e]
        cases hb : (Kd.rd f true r).2.2 <;>
          ((repeat (first | refine seq_ ?_ | refine sq_normal ?_ | refine rl_nil ?_ | refine ret_ ?_ | (refine region_ (id := 9) ?_; (try ((first | refine rl_loadAV hM ag25 rfl rfl (by assumption) (by rfl) ?_ | refine rl_loadAM (vs := [_]) 0 hM ag25 rfl rfl rfl rfl rfl ?_ | refine rl_loadAM (vs := [_]) 1 hM ag25 rfl rfl rfl rfl rfl ?_ | refine rl_loadAM (vs := [_]) 2 hM ag25 rfl rfl rfl rfl rfl ?_ | refine rl_loadAM (vs := [_]) 3 hM ag25 rfl rfl rfl rfl rfl ?_ | refine rl_loadAM (vs := [_]) 4 hM ag25 rfl rfl rfl rfl rfl ?_ | refine rl_loadAM (vs := [_]) 5 hM ag25 rfl rfl rfl rfl rfl ?_ | refine rl_loadAM (vs := [_]) 6 hM ag25 rfl rfl rfl rfl rfl ?_ | refine rl_loadAM (vs := [_]) 7 hM ag25 rfl rfl rfl rfl rfl ?_); (try (refine rl_move (v := (Value.string _ : Value)) rfl rfl ?_; (try (refine rl_move (v := (Value.bool _ : Value)) rfl rfl ?_; (try (refine rl_move (v := (Value.bool _ : Value)) rfl rfl ?_; (try ((first | refine rl_off rfl ?_ | refine rl_move (v := (Value.bool _ : Value)) rfl rfl ?_); (try (refine rl_pick (v := (Value.bool _ : Value)) rfl rfl rfl ?_; (try ((first | (refine rl_storeWM 0 hM ag25 rfl rfl rfl rfl rfl rfl rfl ?_; clear hM; intro w hM) | (refine rl_storeWM 1 hM ag25 rfl rfl rfl rfl rfl rfl rfl ?_; clear hM; intro w hM) | (refine rl_storeWM 2 hM ag25 rfl rfl rfl rfl rfl rfl rfl ?_; clear hM; intro w hM) | (refine rl_storeWM 3 hM ag25 rfl rfl rfl rfl rfl rfl rfl ?_; clear hM; intro w hM) | (refine rl_storeWM 4 hM ag25 rfl rfl rfl rfl rfl rfl rfl ?_; clear hM; intro w hM) | (refine rl_storeWM 5 hM ag25 rfl rfl rfl rfl rfl rfl rfl ?_; clear hM; intro w hM) | (refine rl_storeWM 6 hM ag25 rfl rfl rfl rfl rfl rfl rfl ?_; clear hM; intro w hM) | (refine rl_storeWM 7 hM ag25 rfl rfl rfl rfl rfl rfl rfl ?_; clear hM; intro w hM)); (try (refine rl_assign (v := (Value.string _ : Value)) rfl rfl ?_; (try (refine rl_assign (v := (Value.bool _ : Value)) rfl rfl ?_))))))))))))))))))) | refine rl_assign (v := (Value.string _ : Value)) rfl rfl ?_ | refine rl_assign (v := (Value.bool _ : Value)) rfl rfl ?_ | refine rl_move (v := (Value.tuple _ : Value)) rfl rfl ?_ | refine rl_extract rfl rfl rfl ?_))
           exact bp_x3 rfl rfl (res_M 1 hM ag25 rfl rfl rfl) (res_tmp rfl) (res_tmp rfl) ⟨V1, _, hV1, hM.dropn 2, rfl, hk1⟩)
    · rw [decide_eq_false h2, if_neg h2]
      have e : Kd.rd (f + 1) false s = (.nil, [], false) := by
        simp only [Kd.rd]
        split
        · exfalso; apply h1; rfl
        · exfalso; apply h2; rfl
        · rfl
      rw [e]
      (repeat (first | refine seq_ ?_ | refine sq_normal ?_ | refine sq_ret ?_ | refine rl_nil ?_ | refine cond_t rfl ?_ | refine ret_ ?_ | (refine region_ (id := 5) ?_; (try (refine rl_move (v := (Value.bool _ : Value)) rfl rfl ?_; (try (refine rl_not rfl rfl ?_))))) | (refine region_ (id := 6) ?_; (try (refine rl_build [(Value.slice none 0 0)] ag25 pl25 rfl rfl rfl ?_; (try ((first | (refine rl_storeWM 0 hM ag25 rfl rfl rfl rfl rfl rfl rfl ?_; clear hM; intro w hM) | (refine rl_storeWM 1 hM ag25 rfl rfl rfl rfl rfl rfl rfl ?_; clear hM; intro w hM) | (refine rl_storeWM 2 hM ag25 rfl rfl rfl rfl rfl rfl rfl ?_; clear hM; intro w hM) | (refine rl_storeWM 3 hM ag25 rfl rfl rfl rfl rfl rfl rfl ?_; clear hM; intro w hM) | (refine rl_storeWM 4 hM ag25 rfl rfl rfl rfl rfl rfl rfl ?_; clear hM; intro w hM) | (refine rl_storeWM 5 hM ag25 rfl rfl rfl rfl rfl rfl rfl ?_; clear hM; intro w hM) | (refine rl_storeWM 6 hM ag25 rfl rfl rfl rfl rfl rfl rfl ?_; clear hM; intro w hM) | (refine rl_storeWM 7 hM ag25 rfl rfl rfl rfl rfl rfl rfl ?_; clear hM; intro w hM)); (try (refine rl_assign (v := (Value.string _ : Value)) rfl rfl ?_; (try (refine rl_assign (v := (Value.bool _ : Value)) rfl rfl ?_))))))))) | refine rl_assign (v := (Value.string _ : Value)) rfl rfl ?_ | refine rl_assign (v := (Value.bool _ : Value)) rfl rfl ?_ | refine rl_move (v := (Value.tuple _ : Value)) rfl rfl ?_ | refine rl_extract rfl rfl rfl ?_))
      exact bp_x3 rfl rfl (res_M 0 hM ag25 rfl rfl rfl) (res_tmp rfl) (res_tmp rfl) ⟨V, _, VLe.refl _, hM.dropn 1, rfl, KSl.nil _ _ (Nat.zero_le _)⟩
set_option maxHeartbeats 2000000 in
theorem whole_ok : ∀ (f : Nat) (s : List UInt8), 2 * s.length + 2 ≤ f → s.length ≤ 1000000 → ∀ (w0 w : World) (L : List Ent) (V : Vw), Mem w0 w L V → CallsOk Try.prog 38 #[St s] w (RdPost w0 L V (Kd.rd f true s)) := by
  intro f
  induction f using Nat.strongRecOn with
  | _ f ih =>
  intro s hf hs w0 w L V hM
  obtain ⟨f, rfl⟩ : ∃ f', f = f' + 2 := ⟨f - 2, by omega⟩
  refine enter_ (N := 40) Try.func38 rfl rfl rfl ?_
  (repeat (first | refine seq_ ?_ | refine sq_normal ?_ | refine rl_nil ?_ | (refine region_ (id := 0) ?_; (try ((refine rl_allocAM (d := 2) hM ag25 rfl ?_; clear hM; intro w b2 hM); (try (refine rl_assign (v := (Value.string _ : Value)) rfl rfl ?_; (try (refine rl_assign (v := (Value.bool _ : Value)) rfl rfl ?_))))))) | (refine region_ (id := 1) ?_; (try (refine rl_move (v := (Value.string _ : Value)) rfl rfl ?_)))))
  refine rl_callf fn48 (part_ok f (fun s h1 h2 => ih f (by omega) s h1 h2) s (by omega) hs w0 w _ V hM) rfl rfl ?_
  clear hM
  rintro _ w ⟨V1, v1, hV1, hM, rfl, hk1⟩
  obtain ⟨_, _, rfl⟩ := hk1.shape
  have hsz := Kd.rd_sz (f + 1) false s
  have hle := hsz.2.1
  cases hb : (Kd.rd (f + 1) false s).2.2 with
  | false =>
    have e : Kd.rd (f + 2) true s = (.nil, [], false) := by rw [Kd.rd_true, hb]; rfl
    rw [e]
    (repeat (first | refine seq_ ?_ | refine sq_normal ?_ | refine sq_ret ?_ | refine rl_nil ?_ | refine cond_t rfl ?_ | refine ret_ ?_ | (refine region_ (id := 2) ?_; (try (refine rl_move (v := (Value.bool _ : Value)) rfl rfl ?_; (try (refine rl_not rfl rfl ?_))))) | (refine region_ (id := 3) ?_; (try (refine rl_build [(Value.slice none 0 0)] ag25 pl25 rfl rfl rfl ?_; (try ((first | (refine rl_storeWM 0 hM ag25 rfl rfl rfl rfl rfl rfl rfl ?_; clear hM; intro w hM) | (refine rl_storeWM 1 hM ag25 rfl rfl rfl rfl rfl rfl rfl ?_; clear hM; intro w hM) | (refine rl_storeWM 2 hM ag25 rfl rfl rfl rfl rfl rfl rfl ?_; clear hM; intro w hM) | (refine rl_storeWM 3 hM ag25 rfl rfl rfl rfl rfl rfl rfl ?_; clear hM; intro w hM) | (refine rl_storeWM 4 hM ag25 rfl rfl rfl rfl rfl rfl rfl ?_; clear hM; intro w hM) | (refine rl_storeWM 5 hM ag25 rfl rfl rfl rfl rfl rfl rfl ?_; clear hM; intro w hM) | (refine rl_storeWM 6 hM ag25 rfl rfl rfl rfl rfl rfl rfl ?_; clear hM; intro w hM) | (refine rl_storeWM 7 hM ag25 rfl rfl rfl rfl rfl rfl rfl ?_; clear hM; intro w hM)); (try (refine rl_assign (v := (Value.string _ : Value)) rfl rfl ?_; (try (refine rl_assign (v := (Value.bool _ : Value)) rfl rfl ?_))))))))) | refine rl_assign (v := (Value.string _ : Value)) rfl rfl ?_ | refine rl_assign (v := (Value.bool _ : Value)) rfl rfl ?_ | refine rl_move (v := (Value.tuple _ : Value)) rfl rfl ?_ | refine rl_extract rfl rfl rfl ?_ | (refine rl_allocAM (d := 5) hM ag25 rfl ?_; clear hM; intro w b5 hM) | (first | (refine rl_storeWM 0 hM ag25 rfl rfl rfl rfl rfl rfl rfl ?_; clear hM; intro w hM) | (refine rl_storeWM 1 hM ag25 rfl rfl rfl rfl rfl rfl rfl ?_; clear hM; intro w hM) | (refine rl_storeWM 2 hM ag25 rfl rfl rfl rfl rfl rfl rfl ?_; clear hM; intro w hM) | (refine rl_storeWM 3 hM ag25 rfl rfl rfl rfl rfl rfl rfl ?_; clear hM; intro w hM) | (refine rl_storeWM 4 hM ag25 rfl rfl rfl rfl rfl rfl rfl ?_; clear hM; intro w hM) | (refine rl_storeWM 5 hM ag25 rfl rfl rfl rfl rfl rfl rfl ?_; clear hM; intro w hM) | (refine rl_storeWM 6 hM ag25 rfl rfl rfl rfl rfl rfl rfl ?_; clear hM; intro w hM) | (refine rl_storeWM 7 hM ag25 rfl rfl rfl rfl rfl rfl rfl ?_; clear hM; intro w hM))))
    exact bp_x3 rfl rfl (res_M 1 hM ag25 rfl rfl rfl) (res_tmp rfl) (res_tmp rfl) ⟨V1, _, hV1, hM.dropn 2, rfl, KSl.nil _ _ (Nat.zero_le _)⟩
  | true =>
    (repeat (first | refine seq_ ?_ | refine sq_normal ?_ | refine rl_nil ?_ | refine cond_f rfl ?_ | refine skip_ ?_ | (refine region_ (id := 2) ?_; (try (refine rl_move (v := (Value.bool _ : Value)) rfl rfl ?_; (try (refine rl_not rfl rfl ?_))))) | (refine region_ (id := 4) ?_; (try (refine rl_move (v := (Value.string _ : Value)) rfl rfl ?_))) | refine rl_assign (v := (Value.string _ : Value)) rfl rfl ?_ | refine rl_assign (v := (Value.bool _ : Value)) rfl rfl ?_ | refine rl_move (v := (Value.tuple _ : Value)) rfl rfl ?_ | refine rl_extract rfl rfl rfl ?_ | (refine rl_allocAM (d := 5) hM ag25 rfl ?_; clear hM; intro w b5 hM) | (first | (refine rl_storeWM 0 hM ag25 rfl rfl rfl rfl rfl rfl rfl ?_; clear hM; intro w hM) | (refine rl_storeWM 1 hM ag25 rfl rfl rfl rfl rfl rfl rfl ?_; clear hM; intro w hM) | (refine rl_storeWM 2 hM ag25 rfl rfl rfl rfl rfl rfl rfl ?_; clear hM; intro w hM) | (refine rl_storeWM 3 hM ag25 rfl rfl rfl rfl rfl rfl rfl ?_; clear hM; intro w hM) | (refine rl_storeWM 4 hM ag25 rfl rfl rfl rfl rfl rfl rfl ?_; clear hM; intro w hM) | (refine rl_storeWM 5 hM ag25 rfl rfl rfl rfl rfl rfl rfl ?_; clear hM; intro w hM) | (refine rl_storeWM 6 hM ag25 rfl rfl rfl rfl rfl rfl rfl ?_; clear hM; intro w hM) | (refine rl_storeWM 7 hM ag25 rfl rfl rfl rfl rfl rfl rfl ?_; clear hM; intro w hM))))
    refine rl_callf fn49 (cut_ok (Kd.rd (f + 1) false s).2.1 [32, 45, 62, 32] w (by omega) (by decide)) rfl rfl ?_
    rintro _ w ⟨rfl, rfl⟩
    by_cases h3 : (Kd.rd (f + 1) false s).2.1.take ([32, 45, 62, 32] : List UInt8).length = [32, 45, 62, 32]
    · rw [decide_eq_true h3, if_pos h3]
      have hc := cutArrow_of h3
      have hcl := Kd.cutArrow_len hc
      have h4 : ([32, 45, 62, 32] : List UInt8).length = 4 := rfl
      rw [h4]
      have e : Kd.rd (f + 2) true s = (.cons (Kd.rd (f + 1) false s).1 (Kd.rd (f + 1) true ((Kd.rd (f + 1) false s).2.1.drop 4)).1, (Kd.rd (f + 1) true ((Kd.rd (f + 1) false s).2.1.drop 4)).2.1, (Kd.rd (f + 1) true ((Kd.rd (f + 1) false s).2.1.drop 4)).2.2) := by
        rw [Kd.rd_true, hb, hc]; rfl
      rw [e]
      (repeat (first | refine seq_ ?_ | refine sq_normal ?_ | refine rl_nil ?_ | refine cond_f rfl ?_ | refine skip_ ?_ | (refine region_ (id := 5) ?_; (try (refine rl_move (v := (Value.bool _ : Value)) rfl rfl ?_; (try (refine rl_not rfl rfl ?_))))) | (refine region_ (id := 7) ?_; (try (refine rl_move (v := (Value.string _ : Value)) rfl rfl ?_))) | refine rl_assign (v := (Value.string _ : Value)) rfl rfl ?_ | refine rl_assign (v := (Value.bool _ : Value)) rfl rfl ?_ | refine rl_move (v := (Value.tuple _ : Value)) rfl rfl ?_ | refine rl_extract rfl rfl rfl ?_))
      refine rl_callf fn38 (ih (f + 1) (by omega) ((Kd.rd (f + 1) false s).2.1.drop 4) (by omega) (by omega) w0 w _ V1 hM) rfl rfl ?_
      clear hM
      rintro _ w ⟨V2, v2, hV2, hM, rfl, hk2⟩
      obtain ⟨_, _, rfl⟩ := hk2.shape
      have hsz2 := Kd.rd_sz (f + 1) true ((Kd.rd (f + 1) false s).2.1.drop 4)
      (repeat (first | refine seq_ ?_ | refine sq_normal ?_ | refine rl_nil ?_ | (refine region_ (id := 8) ?_; (try ((first | refine rl_loadAV hM ag25 rfl rfl (by assumption) (by rfl) ?_ | refine rl_loadAM (vs := [_]) 0 hM ag25 rfl rfl rfl rfl rfl ?_ | refine rl_loadAM (vs := [_]) 1 hM ag25 rfl rfl rfl rfl rfl ?_ | refine rl_loadAM (vs := [_]) 2 hM ag25 rfl rfl rfl rfl rfl ?_ | refine rl_loadAM (vs := [_]) 3 hM ag25 rfl rfl rfl rfl rfl ?_ | refine rl_loadAM (vs := [_]) 4 hM ag25 rfl rfl rfl rfl rfl ?_ | refine rl_loadAM (vs := [_]) 5 hM ag25 rfl rfl rfl rfl rfl ?_ | refine rl_loadAM (vs := [_]) 6 hM ag25 rfl rfl rfl rfl rfl ?_ | refine rl_loadAM (vs := [_]) 7 hM ag25 rfl rfl rfl rfl rfl ?_); (try ((first | refine rl_loadAV hM ag25 rfl rfl (by assumption) (by rfl) ?_ | refine rl_loadAM (vs := [_]) 0 hM ag25 rfl rfl rfl rfl rfl ?_ | refine rl_loadAM (vs := [_]) 1 hM ag25 rfl rfl rfl rfl rfl ?_ | refine rl_loadAM (vs := [_]) 2 hM ag25 rfl rfl rfl rfl rfl ?_ | refine rl_loadAM (vs := [_]) 3 hM ag25 rfl rfl rfl rfl rfl ?_ | refine rl_loadAM (vs := [_]) 4 hM ag25 rfl rfl rfl rfl rfl ?_ | refine rl_loadAM (vs := [_]) 5 hM ag25 rfl rfl rfl rfl rfl ?_ | refine rl_loadAM (vs := [_]) 6 hM ag25 rfl rfl rfl rfl rfl ?_ | refine rl_loadAM (vs := [_]) 7 hM ag25 rfl rfl rfl rfl rfl ?_)))))) | refine rl_assign (v := (Value.string _ : Value)) rfl rfl ?_ | refine rl_assign (v := (Value.bool _ : Value)) rfl rfl ?_ | refine rl_move (v := (Value.tuple _ : Value)) rfl rfl ?_ | refine rl_extract rfl rfl rfl ?_ | (first | (refine rl_storeWM 0 hM ag25 rfl rfl rfl rfl rfl rfl rfl ?_; clear hM; intro w hM) | (refine rl_storeWM 1 hM ag25 rfl rfl rfl rfl rfl rfl rfl ?_; clear hM; intro w hM) | (refine rl_storeWM 2 hM ag25 rfl rfl rfl rfl rfl rfl rfl ?_; clear hM; intro w hM) | (refine rl_storeWM 3 hM ag25 rfl rfl rfl rfl rfl rfl rfl ?_; clear hM; intro w hM) | (refine rl_storeWM 4 hM ag25 rfl rfl rfl rfl rfl rfl rfl ?_; clear hM; intro w hM) | (refine rl_storeWM 5 hM ag25 rfl rfl rfl rfl rfl rfl rfl ?_; clear hM; intro w hM) | (refine rl_storeWM 6 hM ag25 rfl rfl rfl rfl rfl rfl rfl ?_; clear hM; intro w hM) | (refine rl_storeWM 7 hM ag25 rfl rfl rfl rfl rfl rfl rfl ?_; clear hM; intro w hM)) | (refine rl_allocAM (d := 10) hM ag25 rfl ?_; clear hM; intro w b10 hM)))
      refine rl_callf fn19 (arrow_ok _ _ w0 w _ V2 _ _ hM (hk1.le hV2) hk2 (by omega) (by omega)) rfl rfl ?_
      clear hM
      rintro _ w ⟨V3, v3, hV3, hM, rfl, hk3⟩
      obtain ⟨_, _, rfl⟩ := hk3.shape
      cases hb2 : (Kd.rd (f + 1) true ((Kd.rd (f + 1) false s).2.1.drop 4)).2.2 <;>
        ((repeat (first | refine sq_normal ?_ | refine rl_nil ?_ | refine ret_ ?_ | refine rl_assign (v := (Value.string _ : Value)) rfl rfl ?_ | refine rl_assign (v := (Value.bool _ : Value)) rfl rfl ?_ | refine rl_move (v := (Value.string _ : Value)) rfl rfl ?_ | (first | (refine rl_storeWM 0 hM ag25 rfl rfl rfl rfl rfl rfl rfl ?_; clear hM; intro w hM) | (refine rl_storeWM 1 hM ag25 rfl rfl rfl rfl rfl rfl rfl ?_; clear hM; intro w hM) | (refine rl_storeWM 2 hM ag25 rfl rfl rfl rfl rfl rfl rfl ?_; clear hM; intro w hM) | (refine rl_storeWM 3 hM ag25 rfl rfl rfl rfl rfl rfl rfl ?_; clear hM; intro w hM) | (refine rl_storeWM 4 hM ag25 rfl rfl rfl rfl rfl rfl rfl ?_; clear hM; intro w hM) | (refine rl_storeWM 5 hM ag25 rfl rfl rfl rfl rfl rfl rfl ?_; clear hM; intro w hM) | (refine rl_storeWM 6 hM ag25 rfl rfl rfl rfl rfl rfl rfl ?_; clear hM; intro w hM) | (refine rl_storeWM 7 hM ag25 rfl rfl rfl rfl rfl rfl rfl ?_; clear hM; intro w hM)) | refine rl_move (v := (Value.bool _ : Value)) rfl rfl ?_))
         exact bp_x3 rfl rfl (res_M 2 hM ag25 rfl rfl rfl) (res_tmp rfl) (res_tmp rfl) ⟨V3, _, (hV1.trans hV2).trans hV3, hM.dropn 3, rfl, hk3⟩)
    · rw [decide_eq_false h3, if_neg h3]
      have hc := cutArrow_no h3
      have e : Kd.rd (f + 2) true s = ((Kd.rd (f + 1) false s).1, (Kd.rd (f + 1) false s).2.1, true) := by rw [Kd.rd_true, hb, hc]; rfl
      rw [e]
      (repeat (first | refine seq_ ?_ | refine sq_normal ?_ | refine sq_ret ?_ | refine rl_nil ?_ | refine cond_t rfl ?_ | refine ret_ ?_ | (refine region_ (id := 5) ?_; (try (refine rl_move (v := (Value.bool _ : Value)) rfl rfl ?_; (try (refine rl_not rfl rfl ?_))))) | (refine region_ (id := 6) ?_; (try ((first | refine rl_loadAV hM ag25 rfl rfl (by assumption) (by rfl) ?_ | refine rl_loadAM (vs := [_]) 0 hM ag25 rfl rfl rfl rfl rfl ?_ | refine rl_loadAM (vs := [_]) 1 hM ag25 rfl rfl rfl rfl rfl ?_ | refine rl_loadAM (vs := [_]) 2 hM ag25 rfl rfl rfl rfl rfl ?_ | refine rl_loadAM (vs := [_]) 3 hM ag25 rfl rfl rfl rfl rfl ?_ | refine rl_loadAM (vs := [_]) 4 hM ag25 rfl rfl rfl rfl rfl ?_ | refine rl_loadAM (vs := [_]) 5 hM ag25 rfl rfl rfl rfl rfl ?_ | refine rl_loadAM (vs := [_]) 6 hM ag25 rfl rfl rfl rfl rfl ?_ | refine rl_loadAM (vs := [_]) 7 hM ag25 rfl rfl rfl rfl rfl ?_); (try (refine rl_move (v := (Value.string _ : Value)) rfl rfl ?_; (try ((first | (refine rl_storeWM 0 hM ag25 rfl rfl rfl rfl rfl rfl rfl ?_; clear hM; intro w hM) | (refine rl_storeWM 1 hM ag25 rfl rfl rfl rfl rfl rfl rfl ?_; clear hM; intro w hM) | (refine rl_storeWM 2 hM ag25 rfl rfl rfl rfl rfl rfl rfl ?_; clear hM; intro w hM) | (refine rl_storeWM 3 hM ag25 rfl rfl rfl rfl rfl rfl rfl ?_; clear hM; intro w hM) | (refine rl_storeWM 4 hM ag25 rfl rfl rfl rfl rfl rfl rfl ?_; clear hM; intro w hM) | (refine rl_storeWM 5 hM ag25 rfl rfl rfl rfl rfl rfl rfl ?_; clear hM; intro w hM) | (refine rl_storeWM 6 hM ag25 rfl rfl rfl rfl rfl rfl rfl ?_; clear hM; intro w hM) | (refine rl_storeWM 7 hM ag25 rfl rfl rfl rfl rfl rfl rfl ?_; clear hM; intro w hM)); (try (refine rl_assign (v := (Value.string _ : Value)) rfl rfl ?_; (try (refine rl_assign (v := (Value.bool _ : Value)) rfl rfl ?_))))))))))) | refine rl_assign (v := (Value.string _ : Value)) rfl rfl ?_ | refine rl_assign (v := (Value.bool _ : Value)) rfl rfl ?_ | refine rl_move (v := (Value.tuple _ : Value)) rfl rfl ?_ | refine rl_extract rfl rfl rfl ?_))
      exact bp_x3 rfl rfl (res_M 1 hM ag25 rfl rfl rfl) (res_tmp rfl) (res_tmp rfl) ⟨V1, _, hV1, hM.dropn 2, rfl, hk1⟩
end Go.Proofs.Ytkjahcegjplbnaa.Kin
