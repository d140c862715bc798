/- The walk of scc.Groups. -/
import Derived.Test.YtgiifodmbckbmaaSccW8
import Derived.Test.YtgiifodmbckbmaaSccW4
set_option linter.unusedVariables false
set_option linter.unusedSimpArgs false
namespace Go.Proofs.Ytgiifodmbckbmaa.Scc
open Go Go.Eng Go.RowKit Go.Scc
attribute [local irreducible] RL RX KQ SQ Exit.inBlock Exit.then BP NP CallsOk IsSl IsRows IsInts IsBools Own Blk Code.wp Calls wpList
attribute [local irreducible] GQ
theorem slots5 {σ : Env} {s0 s1 s2 s3 s4 : Nat} {v0 v1 v2 v3 v4 : Value} (h0 : σ s0 = v0) (h1 : σ s1 = v1) (h2 : σ s2 = v2) (h3 : σ s3 = v3) (h4 : σ s4 = v4) :
    upd (upd (upd (upd (upd σ s0 v0) s1 v1) s2 v2) s3 v3) s4 v4 = σ := by
  rw [upd_self h0, upd_self h1, upd_self h2, upd_self h3, upd_self h4]
/-- The rows that are made so far. -/
def Made (w : World) (n : Int) (ls : List (List Int)) (us : List Value) (BL b i : Nat) : Prop :=
  ∀ k : Nat, k < i → ∃ (c : Nat) (S : List Bool), us[k]? = some (.slice (some ⟨c, 0, none⟩) n.toNat n.toNat) ∧ Blk w c (S.map Value.bool) 4 ∧ S.length = n.toNat ∧ (∀ t : Nat, t < n.toNat → S[t]? = some (rB n ls k t)) ∧ BL < c ∧ c ≠ b
theorem fn12 : FnT Try.prog 12 := FnT.mk' Try.func12 (by kernel_rfl) rfl
/-- What holds at the label, whichever way it is come to. -/
def AtL (n : Int) (ls : List (List Int)) (w : World) (m : Nat) (σ : Env) (wr : World) : Prop :=
  ∃ (B BT BM BO f : Nat) (lv vout : Value) (T : List Bool) (out : List (List Int)) (us : List Value) (bs : List Nat) (bo : Nat),
    σ 0 = .int .i64 n ∧ σ 5 = .pointer (some ⟨w.heap.size, 0, none⟩) ∧ σ 7 = .pointer (some ⟨BT, 0, none⟩) ∧ σ 8 = .func (.func 19) #[] #[.pointer (some ⟨w.heap.size, 0, none⟩), .pointer (some ⟨BT, 0, none⟩)] ∧ σ 9 = vout ∧
    LeadV wr n ls lv B ∧ w.heap.size < B ∧ B ≤ BM ∧ BM < BT ∧ BT < BO ∧ wr.cell? ⟨w.heap.size, 0, none⟩ = some lv ∧ wr.cell? ⟨BT, 0, none⟩ = some (.slice (some ⟨BM, 0, none⟩) n.toNat n.toNat) ∧
    Blk wr BM (T.map Value.bool) 4 ∧ T.length = n.toNat ∧ Below w.heap.size w wr ∧ BO ≤ wr.heap.size ∧ Rws wr BO vout out us bs bo ∧ out ++ gs n ls f T = groups n ls ∧ n.toNat - T.count true < f ∧ m = n.toNat - T.count true ∧ out.length ≤ T.count true
theorem Chg.new {w w1 w2 : World} {b c : Nat} (h : Chg c w w1) (h2 : Chg b w1 w2) (hb : w.heap.size ≤ b) : Chg c w w2 :=
  ⟨h2.os.trans h.os, h2.tape.trans h.tape, h2.output.trans h.output, Nat.le_trans h.size h2.size, fun k hk hne => (h2.block k (Nat.lt_of_lt_of_le hk h.size) (by omega)).trans (h.block k hk hne)⟩
theorem grpTo_i64 {n : Int} {ls : List (List Int)} {i k : Nat} (hk : k ≤ 1000) : ∀ x ∈ grpTo n ls i k, I64 x := by
  intro x hx
  unfold grpTo at hx
  simp only [List.mem_map, List.mem_filter, List.mem_range] at hx
  obtain ⟨a, ⟨ha, _⟩, rfl⟩ := hx
  unfold I64
  constructor
  · show (-9223372036854775808 : Int) ≤ (a : Int); omega
  · show (a : Int) ≤ 9223372036854775807; omega
set_option maxHeartbeats 4000000 in
theorem groups_ok (n : Int) (uv : Value) (ls : List (List Int)) (w : World) (hn0 : 0 ≤ n) (hn : n ≤ 1000) (hu : IsRows w.cell? uv ls) (hrl : ∀ xs ∈ ls, xs.length ≤ 1000000) :
    CallsOk Try.prog 12 #[.int .i64 n, uv] w fun v w' => Below w.heap.size w w' ∧ ∃ B us bs b, w.heap.size ≤ B ∧ Rws w' B v (groups n ls) us bs b := by
  have hml := maxLen_le
  have hu0 := hu
  obtain ⟨aa, ac, ab, ao, rfl, halc, hac, haa, hacell⟩ := hu.open
  refine enter_ (N := 77) Try.func12 rfl rfl rfl ?_
  (repeat (first | refine seq_ ?_ | refine sq_normal ?_ | refine rl_nil ?_ | (refine region_ (id := 0) ?_; (try (refine rl_assign (v := (Value.slice _ _ _ : Value)) rfl rfl ?_)))))
  refine scope2_ 0 (AtL n ls w) rfl ?_ ?_
  · rintro m σ w5 ⟨B, BT, BM, BO, f, lv, vout, T, out, us, bs, bo, s0, s5, s7, s8, s9, hLd, hB1, hB2, hB3, hB4, hcl, hct, hBM, hTl, hb5, hBO, hR, hout, hf, rfl, hol⟩ K hK
    obtain ⟨oa, oc, rfl, hoc, hom, hoa⟩ := hR.own.shape
    rw [← slots5 s0 s5 s7 s8 s9]
    clear s0 s5 s7 s8 s9
    have hcle := count_le T
    (repeat (first | refine seq_ ?_ | refine sq_normal ?_ | refine rl_nil ?_ | refine block_ ?_ | (refine region_ (id := 10) ?_; (try (refine rl_move (v := (Value.int _ _ : Value)) rfl rfl ?_; (try (refine rl_move (v := (Value.int _ _ : Value)) rfl rfl ?_)))))))
    refine loop2 [(9, 14), (30, 76)] 30 9 (fun m v v9 wr => ∃ (i : Int), v = .int .i64 i ∧ v9 = .slice oa out.length oc ∧ 0 ≤ i ∧ i ≤ n ∧ m = (n - i).toNat ∧ w5 = wr ∧ (∀ j : Nat, (j : Int) < i → pickB n ls T j = false)) _
      ⟨0, rfl, rfl, by omega, by omega, rfl, rfl, fun j hj => by omega⟩ ?_
    rintro m τ v v9 w6 ⟨i, rfl, rfl, hi0, hin, rfl, rfl, hd⟩ K0 hL0
    by_cases hi : i < n
    · have hil : i.toNat < n.toNat := by omega
      obtain ⟨tb, htb⟩ : ∃ tb, T[i.toNat]? = some tb := ⟨T[i.toNat]'(by omega), by simp⟩
      have c2 : w5.cell? ⟨BM, 0 + i.toNat, none⟩ = some (.bool tb) := hBM.cell_some (by simp [htb])
      have hpk : pickB n ls T i.toNat = (!tb && readyB n ls T i.toNat) := by
        unfold pickB; rw [List.getD_eq_getElem?_getD, htb]; rfl
      have hgo : pickB n ls T i.toNat = false → ∀ j : Nat, (j : Int) < i + 1 → pickB n ls T j = false := by
        intro h j hj
        by_cases hjk : (j : Int) = i
        · have : j = i.toNat := by omega
          rw [this]; exact h
        · exact hd j (by omega)
      cases tb with
      | true =>
        (repeat (first | refine seq_ ?_ | refine sq_normal ?_ | refine sq_exit ?_ | refine rl_nil ?_ | refine cond_t rfl ?_ | refine skip_ ?_ | refine exit_ ?_ | refine block_ ?_ | refine inBlock_exit ?_ | (refine region_ (id := 11) ?_; (try ((first | (refine rl_lss_t rfl rfl rfl ?_ ?_; omega) | (refine rl_lss_f rfl rfl rfl ?_ ?_; omega))))) | (refine region_ (id := 12) ?_; (try (refine rl_move (v := (Value.int _ _ : Value)) rfl rfl ?_; (try (refine rl_assign (v := (Value.int _ _ : Value)) rfl rfl ?_))))) | (refine region_ (id := 13) ?_; (try ((apply rl_load vt34 rfl rfl; assumption); (try (refine rl_move (v := (Value.int _ _ : Value)) rfl rfl ?_; (try ((first | (refine rl_idx1 sl34 rfl rfl rfl rfl ?_ ?_ ?_; omega; omega) | (apply rl_idx1 sl34 rfl rfl rfl; assumption; omega; omega)); (try ((apply rl_load vt4 rfl rfl; assumption); (try (refine rl_move (v := (Value.bool _ : Value)) rfl rfl ?_; (try ((first | refine rl_off rfl ?_ | refine rl_move (v := (Value.func _ _ _ : Value)) rfl rfl ?_ | refine rl_move (v := (Value.nilFunc : Value)) rfl rfl ?_); (try ((first | refine rl_off rfl ?_ | refine rl_move (v := (Value.int _ _ : Value)) rfl rfl ?_)))))))))))))))) | (refine region_ (id := 23) ?_; (try ((refine rl_add rfl rfl rfl ?_ ?_ ?_; omega; omega); (try (refine rl_move (v := (Value.int _ _ : Value)) rfl rfl ?_))))) | refine rl_pick (v := (Value.bool _ : Value)) rfl rfl rfl ?_ | refine rl_off rfl ?_))
        exact kq_normal (hL0 (n - (i + 1)).toNat _ _ (by omega) (by (repeat (first | with_reducible exact Agree.ov | with_reducible exact Agree.refl _ _ | refine Agree.upd rfl ?_ | refine Agree.ovs rfl ?_))) ⟨i + 1, rfl, rfl, by omega, by omega, rfl, rfl, hgo (by rw [hpk]; rfl)⟩)
      | false =>
        (repeat (first | refine seq_ ?_ | refine sq_normal ?_ | refine rl_nil ?_ | refine cond_t rfl ?_ | refine skip_ ?_ | refine block_ ?_ | (refine region_ (id := 11) ?_; (try ((first | (refine rl_lss_t rfl rfl rfl ?_ ?_; omega) | (refine rl_lss_f rfl rfl rfl ?_ ?_; omega))))) | (refine region_ (id := 12) ?_; (try (refine rl_move (v := (Value.int _ _ : Value)) rfl rfl ?_; (try (refine rl_assign (v := (Value.int _ _ : Value)) rfl rfl ?_))))) | (refine region_ (id := 13) ?_; (try ((apply rl_load vt34 rfl rfl; assumption); (try (refine rl_move (v := (Value.int _ _ : Value)) rfl rfl ?_; (try ((first | (refine rl_idx1 sl34 rfl rfl rfl rfl ?_ ?_ ?_; omega; omega) | (apply rl_idx1 sl34 rfl rfl rfl; assumption; omega; omega)); (try ((apply rl_load vt4 rfl rfl; assumption); (try (refine rl_move (v := (Value.bool _ : Value)) rfl rfl ?_; (try ((first | refine rl_off rfl ?_ | refine rl_move (v := (Value.func _ _ _ : Value)) rfl rfl ?_ | refine rl_move (v := (Value.nilFunc : Value)) rfl rfl ?_); (try ((first | refine rl_off rfl ?_ | refine rl_move (v := (Value.int _ _ : Value)) rfl rfl ?_))))))))))))))))))
        refine rl_callv (cap := [Value.pointer (some ⟨w.heap.size, 0, none⟩), Value.pointer (some ⟨BT, 0, none⟩)]) fn19 (ready_ok n i ls lv T w5 B w.heap.size BT BM hn hi0 hi hLd hcl hct hBM hTl) rfl rfl rfl ?_
        rintro _ _ ⟨rfl, rfl⟩
        cases hr : readyB n ls T i.toNat with
        | false =>
          (repeat (first | refine sq_normal ?_ | refine sq_exit ?_ | refine rl_nil ?_ | refine cond_t rfl ?_ | refine exit_ ?_ | refine inBlock_exit ?_ | (refine region_ (id := 23) ?_; (try ((refine rl_add rfl rfl rfl ?_ ?_ ?_; omega; omega); (try (refine rl_move (v := (Value.int _ _ : Value)) rfl rfl ?_))))) | refine rl_pick (v := (Value.bool _ : Value)) rfl rfl rfl ?_ | refine rl_not rfl rfl ?_))
          exact kq_normal (hL0 (n - (i + 1)).toNat _ _ (by omega) (by (repeat (first | with_reducible exact Agree.ov | with_reducible exact Agree.refl _ _ | refine Agree.upd rfl ?_ | refine Agree.ovs rfl ?_))) ⟨i + 1, rfl, rfl, by omega, by omega, rfl, rfl, hgo (by rw [hpk, hr]; rfl)⟩)
        | true =>
          have hnext : nextG n ls T = some i.toNat := find_range hil (by rw [hpk, hr]; rfl) (fun j hj => hd j (by omega))
          obtain ⟨la, lc, lb, rfl, hlc, hla, hlead⟩ := id hLd
          obtain ⟨hla', hlb⟩ := hla (by omega)
          subst hla'
          obtain ⟨ci, hci, hrow, hcell⟩ := hlead i.toNat hil
          (repeat (first | refine seq_ ?_ | refine sq_normal ?_ | refine rl_nil ?_ | refine cond_f rfl ?_ | refine skip_ ?_ | refine block_ ?_ | (refine region_ (id := 14) ?_; (try (refine rl_assign (v := (Value.slice _ _ _ : Value)) rfl rfl ?_))) | (refine region_ (id := 15) ?_; (try ((apply rl_load vt33 rfl rfl; assumption); (try (refine rl_move (v := (Value.int _ _ : Value)) rfl rfl ?_; (try ((first | (refine rl_idx1 sl33 rfl rfl rfl rfl ?_ ?_ ?_; omega; omega) | (apply rl_idx1 sl33 rfl rfl rfl; assumption; omega; omega)); (try ((apply rl_load vt34 rfl rfl; assumption); (try (refine rl_len sl34 rfl rfl ?_; (try (refine rl_move (v := (Value.int _ _ : Value)) rfl rfl ?_))))))))))))) | refine rl_pick (v := (Value.bool _ : Value)) rfl rfl rfl ?_ | refine rl_not rfl rfl ?_))
          have hmk0 : Blk w5 BM ((markTo n ls i.toNat 0 T).map Value.bool) 4 := by rw [markTo_zero hTl]; exact hBM
          refine loop2 [(11, 14), (48, 71)] 11 48 (fun m v1 v2 wr => ∃ (k : Int) (bg : Nat), v2 = .int .i64 k ∧ 0 ≤ k ∧ k ≤ n ∧ m = (n - k).toNat ∧ Own wr 3 1 v1 (grpTo n ls i.toNat k.toNat).length ((grpTo n ls i.toNat k.toNat).map (Value.int .i64)) bg ∧ w5.heap.size ≤ bg ∧ Chg BM w5 wr ∧ Blk wr BM ((markTo n ls i.toNat k.toNat T).map Value.bool) 4 ∧ (grpTo n ls i.toNat k.toNat).length ≤ k.toNat ∧ (grpTo n ls i.toNat k.toNat = [] → v1 = .slice none 0 0)) _
            ⟨0, w5.heap.size, rfl, by omega, by omega, rfl, Own.nil _ _ _ _, Nat.le_refl _, Chg.refl _ _, hmk0, by simp [grpTo], fun _ => rfl⟩ ?_
          rintro m τ2 v1 v2 w6 ⟨k, bg, rfl, hk0, hkn, rfl, hO6, hbg, hc6, hB6, hgl, hgn⟩ K1 hL1
          obtain ⟨ga, gc, rfl, hgc, hgm, hga⟩ := hO6.shape
          have hLd6 := hLd.chg hc6 hB2
          have hsz6 := hc6.size
          by_cases hk : k < n
          · have hkl : k.toNat < n.toNat := by omega
            have d1 : w6.cell? ⟨ci, 0 + k.toNat, none⟩ = some (.bool (rB n ls (i.toNat : Int) (k.toNat : Int))) := cell_chg (hcell k.toNat hkl) hc6 (by simp only; omega)
            obtain ⟨ck, hck, hrk, hck2⟩ := hlead k.toNat hkl
            have d2 : w6.cell? ⟨lb, 0 + k.toNat, none⟩ = some (.slice (some ⟨ck, 0, none⟩) n.toNat n.toNat) := cell_chg hrk hc6 (by simp only; omega)
            have d3 : w6.cell? ⟨ck, 0 + i.toNat, none⟩ = some (.bool (rB n ls (k.toNat : Int) (i.toNat : Int))) := cell_chg (hck2 i.toNat hil) hc6 (by simp only; omega)
            have d4 : w6.cell? ⟨w.heap.size, 0, none⟩ = some (.slice (some ⟨lb, 0, none⟩) n.toNat lc) := cell_chg hcl hc6 (by simp only; omega)
            have d5 : w6.cell? ⟨BT, 0, none⟩ = some (.slice (some ⟨BM, 0, none⟩) n.toNat n.toNat) := cell_chg hct hc6 (by simp only; omega)
            have hbo : both n ls i.toNat k.toNat = (rB n ls (i.toNat : Int) (k.toNat : Int) && rB n ls (k.toNat : Int) (i.toNat : Int)) := rfl
            have ek : (k + 1).toNat = k.toNat + 1 := by omega
            have hno : both n ls i.toNat k.toNat = false → grpTo n ls i.toNat (k + 1).toNat = grpTo n ls i.toNat k.toNat ∧ markTo n ls i.toNat (k + 1).toNat T = markTo n ls i.toNat k.toNat T := by
              intro h
              rw [ek, grpTo_succ, markTo_succ hkl, h]
              exact ⟨by simp, by simp⟩
            cases h1 : rB n ls (i.toNat : Int) (k.toNat : Int) with
            | false =>
              rw [h1] at d1
              have hh := hno (by rw [hbo, h1]; rfl)
              (repeat (first | refine seq_ ?_ | refine sq_normal ?_ | refine rl_nil ?_ | refine cond_t rfl ?_ | refine cond_f rfl ?_ | refine skip_ ?_ | refine block_ ?_ | refine inBlock_normal ?_ | (refine region_ (id := 16) ?_; (try ((first | (refine rl_lss_t rfl rfl rfl ?_ ?_; omega) | (refine rl_lss_f rfl rfl rfl ?_ ?_; omega))))) | (refine region_ (id := 17) ?_; (try (refine rl_move (v := (Value.int _ _ : Value)) rfl rfl ?_; (try ((first | (refine rl_idx1 sl34 rfl rfl rfl rfl ?_ ?_ ?_; omega; omega) | (apply rl_idx1 sl34 rfl rfl rfl; assumption; omega; omega)); (try ((apply rl_load vt4 rfl rfl; assumption); (try (refine rl_assign (v := (Value.int _ _ : Value)) rfl rfl ?_; (try (refine rl_assign (v := (Value.bool _ : Value)) rfl rfl ?_))))))))))) | (refine region_ (id := 18) ?_; (try (refine rl_move (v := (Value.bool _ : Value)) rfl rfl ?_; (try (refine rl_move (v := (Value.bool _ : Value)) rfl rfl ?_; (try ((first | refine rl_off rfl ?_ | (apply rl_load vt33 rfl rfl; assumption)); (try ((first | refine rl_off rfl ?_ | refine rl_move (v := (Value.int _ _ : Value)) rfl rfl ?_); (try ((first | refine rl_off rfl ?_ | (refine rl_idx1 sl33 rfl rfl rfl rfl ?_ ?_ ?_; omega; omega) | (apply rl_idx1 sl33 rfl rfl rfl; assumption; omega; omega)); (try ((first | refine rl_off rfl ?_ | (apply rl_load vt34 rfl rfl; assumption)); (try ((first | refine rl_off rfl ?_ | refine rl_move (v := (Value.int _ _ : Value)) rfl rfl ?_); (try ((first | refine rl_off rfl ?_ | (refine rl_idx1 sl34 rfl rfl rfl rfl ?_ ?_ ?_; omega; omega) | (apply rl_idx1 sl34 rfl rfl rfl; assumption; omega; omega)); (try ((first | refine rl_off rfl ?_ | (apply rl_load vt4 rfl rfl; assumption)); (try (refine rl_pick (v := (Value.bool _ : Value)) rfl rfl rfl ?_))))))))))))))))))))) | (refine region_ (id := 21) ?_; (try ((refine rl_add rfl rfl rfl ?_ ?_ ?_; omega; omega); (try (refine rl_move (v := (Value.int _ _ : Value)) rfl rfl ?_)))))))
              refine kq_normal (hL1 (n - (k + 1)).toNat _ _ (by omega) (by (repeat (first | with_reducible exact Agree.ov | with_reducible exact Agree.refl _ _ | refine Agree.upd rfl ?_ | refine Agree.ovs rfl ?_))) ⟨k + 1, bg, rfl, by omega, by omega, rfl, ?_, hbg, hc6, ?_, ?_, ?_⟩)
              · rw [hh.1]; exact hO6
              · rw [hh.2]; exact hB6
              · rw [hh.1]; omega
              · rw [hh.1]; exact hgn
            | true =>
              rw [h1] at d1
              cases h3 : rB n ls (k.toNat : Int) (i.toNat : Int) with
              | false =>
                rw [h3] at d3
                have hh := hno (by rw [hbo, h1, h3]; rfl)
                (repeat (first | refine seq_ ?_ | refine sq_normal ?_ | refine rl_nil ?_ | refine cond_t rfl ?_ | refine cond_f rfl ?_ | refine skip_ ?_ | refine block_ ?_ | refine inBlock_normal ?_ | (refine region_ (id := 16) ?_; (try ((first | (refine rl_lss_t rfl rfl rfl ?_ ?_; omega) | (refine rl_lss_f rfl rfl rfl ?_ ?_; omega))))) | (refine region_ (id := 17) ?_; (try (refine rl_move (v := (Value.int _ _ : Value)) rfl rfl ?_; (try ((first | (refine rl_idx1 sl34 rfl rfl rfl rfl ?_ ?_ ?_; omega; omega) | (apply rl_idx1 sl34 rfl rfl rfl; assumption; omega; omega)); (try ((apply rl_load vt4 rfl rfl; assumption); (try (refine rl_assign (v := (Value.int _ _ : Value)) rfl rfl ?_; (try (refine rl_assign (v := (Value.bool _ : Value)) rfl rfl ?_))))))))))) | (refine region_ (id := 18) ?_; (try (refine rl_move (v := (Value.bool _ : Value)) rfl rfl ?_; (try (refine rl_move (v := (Value.bool _ : Value)) rfl rfl ?_; (try ((first | refine rl_off rfl ?_ | (apply rl_load vt33 rfl rfl; assumption)); (try ((first | refine rl_off rfl ?_ | refine rl_move (v := (Value.int _ _ : Value)) rfl rfl ?_); (try ((first | refine rl_off rfl ?_ | (refine rl_idx1 sl33 rfl rfl rfl rfl ?_ ?_ ?_; omega; omega) | (apply rl_idx1 sl33 rfl rfl rfl; assumption; omega; omega)); (try ((first | refine rl_off rfl ?_ | (apply rl_load vt34 rfl rfl; assumption)); (try ((first | refine rl_off rfl ?_ | refine rl_move (v := (Value.int _ _ : Value)) rfl rfl ?_); (try ((first | refine rl_off rfl ?_ | (refine rl_idx1 sl34 rfl rfl rfl rfl ?_ ?_ ?_; omega; omega) | (apply rl_idx1 sl34 rfl rfl rfl; assumption; omega; omega)); (try ((first | refine rl_off rfl ?_ | (apply rl_load vt4 rfl rfl; assumption)); (try (refine rl_pick (v := (Value.bool _ : Value)) rfl rfl rfl ?_))))))))))))))))))))) | (refine region_ (id := 21) ?_; (try ((refine rl_add rfl rfl rfl ?_ ?_ ?_; omega; omega); (try (refine rl_move (v := (Value.int _ _ : Value)) rfl rfl ?_)))))))
                refine kq_normal (hL1 (n - (k + 1)).toNat _ _ (by omega) (by (repeat (first | with_reducible exact Agree.ov | with_reducible exact Agree.refl _ _ | refine Agree.upd rfl ?_ | refine Agree.ovs rfl ?_))) ⟨k + 1, bg, rfl, by omega, by omega, rfl, ?_, hbg, hc6, ?_, ?_, ?_⟩)
                · rw [hh.1]; exact hO6
                · rw [hh.2]; exact hB6
                · rw [hh.1]; omega
                · rw [hh.1]; exact hgn
              | true =>
                rw [h3] at d3
                (repeat (first | refine seq_ ?_ | refine sq_normal ?_ | refine rl_nil ?_ | refine cond_t rfl ?_ | refine skip_ ?_ | refine block_ ?_ | (refine region_ (id := 16) ?_; (try ((first | (refine rl_lss_t rfl rfl rfl ?_ ?_; omega) | (refine rl_lss_f rfl rfl rfl ?_ ?_; omega))))) | (refine region_ (id := 17) ?_; (try (refine rl_move (v := (Value.int _ _ : Value)) rfl rfl ?_; (try ((first | (refine rl_idx1 sl34 rfl rfl rfl rfl ?_ ?_ ?_; omega; omega) | (apply rl_idx1 sl34 rfl rfl rfl; assumption; omega; omega)); (try ((apply rl_load vt4 rfl rfl; assumption); (try (refine rl_assign (v := (Value.int _ _ : Value)) rfl rfl ?_; (try (refine rl_assign (v := (Value.bool _ : Value)) rfl rfl ?_))))))))))) | (refine region_ (id := 18) ?_; (try (refine rl_move (v := (Value.bool _ : Value)) rfl rfl ?_; (try (refine rl_move (v := (Value.bool _ : Value)) rfl rfl ?_; (try ((first | refine rl_off rfl ?_ | (apply rl_load vt33 rfl rfl; assumption)); (try ((first | refine rl_off rfl ?_ | refine rl_move (v := (Value.int _ _ : Value)) rfl rfl ?_); (try ((first | refine rl_off rfl ?_ | (refine rl_idx1 sl33 rfl rfl rfl rfl ?_ ?_ ?_; omega; omega) | (apply rl_idx1 sl33 rfl rfl rfl; assumption; omega; omega)); (try ((first | refine rl_off rfl ?_ | (apply rl_load vt34 rfl rfl; assumption)); (try ((first | refine rl_off rfl ?_ | refine rl_move (v := (Value.int _ _ : Value)) rfl rfl ?_); (try ((first | refine rl_off rfl ?_ | (refine rl_idx1 sl34 rfl rfl rfl rfl ?_ ?_ ?_; omega; omega) | (apply rl_idx1 sl34 rfl rfl rfl; assumption; omega; omega)); (try ((first | refine rl_off rfl ?_ | (apply rl_load vt4 rfl rfl; assumption)); (try (refine rl_pick (v := (Value.bool _ : Value)) rfl rfl rfl ?_))))))))))))))))))))) | (refine region_ (id := 19) ?_; (try (refine rl_move (v := (Value.slice _ _ _ : Value)) rfl rfl ?_; (try (refine rl_move (v := (Value.int _ _ : Value)) rfl rfl ?_)))))))
                refine rl_bslice1 (v := .int .i64 k) sl29 rfl rfl rfl rfl ?_
                intro w7 hB7 hb7 hs7
                refine rl_append (news := [Value.int .i64 k]) (B := w6.heap.size) (off := 0) sl29 rfl (by decide) (hO6.ext hb7) ?_ rfl rfl rfl (fun _ => rfl) rfl ?_ ?_ ?_ ?_
                · intro j u hu; rw [Nat.zero_add]; exact hB7.cell_some hu
                · intro u hu; simp at hu; subst hu; rfl
                · unfold maxLen; omega
                · omega
                intro v8 w8 b8 hO8 hc8 hg8 _
                obtain ⟨xa, xc, rfl, hxc, hxm, hxa⟩ := hO8.shape
                have hsz7 := hb7.size
                have hb8 : w5.heap.size ≤ b8 := by rcases hc8 with h | h <;> omega
                have d6 : w8.cell? ⟨BT, 0, none⟩ = some (.slice (some ⟨BM, 0, none⟩) n.toNat n.toNat) := cell_chg (cell_ext d5 hb7) hg8 (by simp only; omega)
                have hB8 : Blk w8 BM ((markTo n ls i.toNat k.toNat T).map Value.bool) 4 := (hB6.ext hb7).chg hg8 (by omega)
                (repeat (first | refine sq_normal ?_ | refine rl_nil ?_ | (refine region_ (id := 20) ?_; (try ((apply rl_load vt34 rfl rfl; assumption); (try (refine rl_move (v := (Value.int _ _ : Value)) rfl rfl ?_; (try ((first | (refine rl_idx1 sl34 rfl rfl rfl rfl ?_ ?_ ?_; omega; omega) | (apply rl_idx1 sl34 rfl rfl rfl; assumption; omega; omega))))))))) | refine rl_assign (v := (Value.slice _ _ _ : Value)) rfl rfl ?_))
                refine rl_store (v := Value.bool true) vt4 rfl rfl rfl rfl hB8 ?_ ?_
                · simp [markTo_len]; omega
                intro w9 hB9 hc9 hs9
                (repeat (first | refine sq_normal ?_ | refine rl_nil ?_ | refine inBlock_normal ?_ | (refine region_ (id := 21) ?_; (try ((refine rl_add rfl rfl rfl ?_ ?_ ?_; omega; omega); (try (refine rl_move (v := (Value.int _ _ : Value)) rfl rfl ?_)))))))
                have hb : both n ls i.toNat k.toNat = true := by rw [hbo, h1, h3]; rfl
                have eg : grpTo n ls i.toNat (k + 1).toNat = grpTo n ls i.toNat k.toNat ++ [k] := by
                  rw [ek, grpTo_succ, hb, if_pos rfl]; congr 2; omega
                have em : markTo n ls i.toNat (k + 1).toNat T = (markTo n ls i.toNat k.toNat T).set k.toNat true := by
                  rw [ek, markTo_succ hkl, hb, if_pos rfl]
                have hO9 : Own w9 3 1 (.slice xa ((grpTo n ls i.toNat k.toNat).length + 1) xc) (grpTo n ls i.toNat (k + 1).toNat).length ((grpTo n ls i.toNat (k + 1).toNat).map (Value.int .i64)) b8 := by
                  rw [eg]; simpa using hO8.chg hc9 (by omega)
                refine kq_normal (hL1 (n - (k + 1)).toNat _ _ (by omega) (by (repeat (first | with_reducible exact Agree.ov | with_reducible exact Agree.refl _ _ | refine Agree.upd rfl ?_ | refine Agree.ovs rfl ?_))) ⟨k + 1, b8, rfl, by omega, by omega, rfl, hO9, hb8, ?_, ?_, ?_, ?_⟩)
                · exact (Chg.new (Chg.new hc6 (Chg.of_ext w6.heap.size hb7) hsz6) hg8 hbg).trans hc9
                · rw [em]; simpa [List.map_set] using hB9
                · rw [eg]; simp; omega
                · intro h; rw [eg] at h; simp at h
          · have hkn' : k.toNat = n.toNat := by omega
            rw [hkn'] at hO6 hgl hgn hB6 hgc
            rw [hkn']
            (repeat (first | refine seq_ ?_ | refine sq_normal ?_ | refine sq_exit ?_ | refine rl_nil ?_ | refine cond_f rfl ?_ | refine exit_ ?_ | refine inBlock_exit ?_ | refine kq_exit ?_ | (refine region_ (id := 16) ?_; (try ((first | (refine rl_lss_t rfl rfl rfl ?_ ?_; omega) | (refine rl_lss_f rfl rfl rfl ?_ ?_; omega))))) | (refine region_ (id := 22) ?_; (try (refine rl_move (v := (Value.slice _ _ _ : Value)) rfl rfl ?_; (try (refine rl_move (v := (Value.slice _ _ _ : Value)) rfl rfl ?_)))))))
            refine rl_bslice1 (v := Value.slice ga (grpTo n ls i.toNat n.toNat).length gc) sl22 rfl rfl rfl rfl ?_
            intro w7 hB7 hb7 hs7
            have hsz7 := hb7.size
            have hRo7 : Own w7 29 1 (.slice oa out.length oc) out.length us bo := by
              rcases hR.own.nil_or with ⟨h1, h2, h3⟩ | h
              · rw [h1, h2, h3]; exact Own.nil _ _ _ _
              · exact (hR.own.chg hc6 (by have := hR.low; omega)).ext hb7
            obtain ⟨b7, hO7, hb7c⟩ := Own.fresh hR.own hRo7
            have holen : out.length ≤ 1000 := by omega
            refine rl_append (news := [Value.slice ga (grpTo n ls i.toNat n.toNat).length gc]) (B := w6.heap.size) (off := 0) sl22 rfl (by decide) hO7 ?_ rfl rfl rfl (fun _ => rfl) rfl ?_ ?_ ?_ ?_
            · intro j u hu; rw [Nat.zero_add]; exact hB7.cell_some hu
            · intro u hu; simp at hu; subst hu; rfl
            · unfold maxLen; omega
            · omega
            intro v8 w8 b8 hO8 hc8 hg8 _
            obtain ⟨xa, xc, rfl, hxc, hxm, hxa⟩ := hO8.shape
            (repeat (first | refine sq_normal ?_ | refine rl_nil ?_ | refine goto_ ?_ | refine sq_goto ?_ | refine kq_goto ?_ | refine inBlock_goto ?_ | refine rl_assign (v := (Value.slice _ _ _ : Value)) rfl rfl ?_))
            have hlow := hR.low
            have hb7B : BO ≤ b7 := by rcases hb7c with ⟨h, _⟩ | h <;> omega
            have hR8 := Rws.snoc (xs := grpTo n ls i.toNat n.toNat) hR hBO (fun j ys c hj hc hne u h => by
              obtain ⟨u', c', e1, e2, e3, e4, e5, e6⟩ := hR.row j ys hj
              rw [hc] at e2; cases e2
              have := (e5 hne).1
              exact (h.chg hc6 (by omega)).ext hb7) (by omega) (hO6.ext hb7) hbg (grpTo_i64 (by omega)) hgn hb7c hO8 hc8 hg8
            have hTb : T.getD i.toNat false = false := by rw [List.getD_eq_getElem?_getD, htb]; rfl
            have hcnt := markTo_count (n := n) (ls := ls) hTl hil hTb
            have hcle2 := count_le (markTo n ls i.toNat n.toNat T)
            rw [markTo_len] at hcle2
            obtain ⟨f', rfl⟩ : ∃ f', f = f' + 1 := ⟨f - 1, by omega⟩
            have hgs : gs n ls (f' + 1) T = grpTo n ls i.toNat n.toNat :: gs n ls f' (markTo n ls i.toNat n.toNat T) := by simp only [gs, hnext]
            rw [hgs] at hout
            refine gq_goto (hK (n.toNat - (markTo n ls i.toNat n.toNat T).count true) _ _ (by omega) ⟨B, BT, BM, BO, f', .slice (some ⟨lb, 0, none⟩) n.toNat lc, .slice xa (out.length + 1) xc, markTo n ls i.toNat n.toNat T, out ++ [grpTo n ls i.toNat n.toNat], us ++ [Value.slice ga (grpTo n ls i.toNat n.toNat).length gc], bs ++ [bg], b8,
              rfl, rfl, rfl, rfl, rfl, (hLd6.ext hb7).chg hg8 (by omega), hB1, hB2, hB3, hB4, ?_, ?_, ?_, markTo_len _ _ _ _ _, ?_, by have := hg8.size; omega, hR8, by simpa using hout, by omega, rfl, by simp; omega⟩)
            · exact cell_chg (cell_ext (cell_chg hcl hc6 (by simp only; omega)) hb7) hg8 (by simp only; omega)
            · exact cell_chg (cell_ext (cell_chg hct hc6 (by simp only; omega)) hb7) hg8 (by simp only; omega)
            · exact (hB6.ext hb7).chg hg8 (by omega)
            · exact below_chg (below_ext (below_chg hb5 hc6 (by omega) (by omega)) hb7 (by omega)) hg8 (by omega) (by omega)
    · (repeat (first | refine seq_ ?_ | refine sq_normal ?_ | refine sq_exit ?_ | refine rl_nil ?_ | refine cond_f rfl ?_ | refine ret_ ?_ | refine exit_ ?_ | refine inBlock_exit ?_ | refine kq_exit ?_ | refine gq_ret ?_ | (refine region_ (id := 11) ?_; (try ((first | (refine rl_lss_t rfl rfl rfl ?_ ?_; omega) | (refine rl_lss_f rfl rfl rfl ?_ ?_; omega))))) | (refine region_ (id := 24) ?_; (try (refine rl_move (v := (Value.slice _ _ _ : Value)) rfl rfl ?_; (try (refine rl_assign (v := (Value.slice _ _ _ : Value)) rfl rfl ?_)))))))
      refine bp_ret1 (v := Value.slice _ _ _) rfl rfl ⟨hb5, BO, us, bs, bo, by omega, ?_⟩
      have hnone : nextG n ls T = none := find_range_none (fun j hj => hd j (by omega))
      have hg : gs n ls f T = [] := by
        cases f with
        | zero => rfl
        | succ f => simp only [gs, hnone]
      rw [hg, List.append_nil] at hout
      rw [← hout]; exact hR
  · intro Q' hX
    (repeat (first | refine seq_ ?_ | (refine region_ (id := 1) ?_)))
    refine rl_alloc (z := .slice none 0 0) (by kernel_rfl) rfl rfl ?_
    intro w1 hB1 hb1 hs1
    (repeat (first | refine seq_ ?_ | refine sq_normal ?_ | refine rl_nil ?_ | refine block_ ?_ | (refine region_ (id := 2) ?_; (try (refine rl_move (v := (Value.int _ _ : Value)) rfl rfl ?_; (try (refine rl_move (v := (Value.int _ _ : Value)) rfl rfl ?_)))))))
    refine loop1 [(6, 7), (15, 26)] 15 (fun m v wr => ∃ (i : Int) (lv : Value) (us : List Value) (b : Nat), v = .int .i64 i ∧ 0 ≤ i ∧ i ≤ n ∧ m = (n - i).toNat ∧ Blk wr w.heap.size [lv] 33 ∧ Own wr 34 1 lv i.toNat us b ∧ w.heap.size < b ∧ Made wr n ls us w.heap.size b i.toNat ∧ Below w.heap.size w wr) _
      ⟨0, .slice none 0 0, [], w.heap.size + 1, rfl, by omega, by omega, rfl, hB1, Own.nil _ _ _ _, by omega, fun k hk => absurd hk (by simp), hb1⟩ ?_
    rintro m τ v w2 ⟨i, lv, us, b, rfl, hi0, hin, rfl, hB2, hO2, hb, hM2, hb2⟩ K0 hL0
    obtain ⟨la, lc, rfl, hlc, hlm, hla⟩ := hO2.shape
    have c1 : w2.cell? ⟨w.heap.size, 0, none⟩ = some (.slice la i.toNat lc) := hB2.cell_some rfl
    by_cases hi : i < n
    · (repeat (first | refine seq_ ?_ | refine sq_normal ?_ | refine rl_nil ?_ | refine cond_t rfl ?_ | refine skip_ ?_ | refine block_ ?_ | (refine region_ (id := 3) ?_; (try ((first | (refine rl_lss_t rfl rfl rfl ?_ ?_; omega) | (refine rl_lss_f rfl rfl rfl ?_ ?_; omega))))) | (refine region_ (id := 4) ?_; (try (refine rl_move (v := (Value.int _ _ : Value)) rfl rfl ?_; (try (refine rl_assign (v := (Value.int _ _ : Value)) rfl rfl ?_)))))))
      (refine drawn_ 6 [(0, false), (1, false), (2, false), (3, false), (4, true), (5, true)] mo (by kernel_rfl) ?_; intro w3 hb3 hs3 hk3; (try ((apply rx_load rfl vt33 rfl rfl; (intro _ hS; apply hS; assumption)); (try (refine rx_move (v := (Value.int _ _ : Value)) rfl rfl rfl ?_; (try (refine rx_move (v := (Value.slice _ _ _ : Value)) rfl rfl rfl ?_; (try (refine rx_move (v := (Value.int _ _ : Value)) rfl rfl rfl ?_)))))))))
      refine rx_eff rfl (fun K2 hK2 => ?_)
      have hu3 : IsRows w3.cell? (.slice aa ls.length ac) ls := hu0.mono ((Keeps.below hb2 (Nat.le_refl _)).trans hk3)
      refine rl_callf fn18 (from_ok n i _ ls w3 hn hi0 hi hu3 hrl) rfl rfl ?_
      rintro _ w4 ⟨hb4, hs4, rfl, S, hS, hSl, hSr⟩
      refine rl_nil (kq_normal (hK2 _ _ (hk3.trans (Keeps.of hb4)) ?_))
      refine rx_eff rfl (fun K2 hK2 => ?_)
      refine rl_bslice1 (v := Value.slice (some ⟨w3.heap.size, 0, none⟩) n.toNat n.toNat) sl33 rfl rfl rfl rfl ?_
      intro w5 hB5 hb5 hs5
      refine rl_nil (kq_normal (hK2 _ _ ((hk3.trans (Keeps.of hb4)).trans (Keeps.of hb5)) ?_))
      refine rx_nil rfl ?_
      obtain ⟨b5, hO5, hb5c⟩ := Own.fresh hO2 (((hO2.ext hb3).ext hb4).ext hb5)
      refine rl_append (news := [Value.slice (some ⟨w3.heap.size, 0, none⟩) n.toNat n.toNat]) (B := w4.heap.size) (off := 0) sl33 rfl (by decide) hO5 ?_ rfl rfl rfl (fun _ => rfl) rfl ?_ ?_ ?_ ?_
      · intro j u hu; rw [Nat.zero_add]; exact hB5.cell_some hu
      · intro u hu; simp at hu; subst hu; rfl
      · unfold maxLen; omega
      · omega
      intro v6 w6 b6 hO6 hc6 hg6 _
      obtain ⟨xa, xc, rfl, hxc, hxm, hxa⟩ := hO6.shape
      have h345 : w2.heap.size ≤ w5.heap.size := by have := hb4.size; have := hb5.size; omega
      have hlow : w.heap.size < w2.heap.size := hB2.lt
      have hb56 : w.heap.size < b5 := by rcases hb5c with ⟨h, _⟩ | h <;> omega
      have hB6 : Blk w6 w.heap.size [.slice la i.toNat lc] 33 := ((((hB2.ext hb3).ext hb4).ext hb5).chg hg6 (by omega))
      refine rl_store (v := Value.slice xa (i.toNat + 1) xc) vt33 rfl rfl rfl rfl hB6 ?_ ?_
      · simp
      intro w7 hB7 hc7 hs7
      (repeat (first | refine sq_normal ?_ | refine rl_nil ?_ | refine inBlock_normal ?_ | refine np_normal ?_ | (refine region_ (id := 6) ?_; (try ((refine rl_add rfl rfl rfl ?_ ?_ ?_; omega; omega); (try (refine rl_move (v := (Value.int _ _ : Value)) rfl rfl ?_)))))))
      have hb52 : Below w.heap.size w w5 := below_ext (below_ext (below_ext hb2 hb3 (by omega)) hb4 (by omega)) hb5 (by have := hb4.size; omega)
      have hb62 : Below w.heap.size w w6 := below_chg hb52 hg6 (by omega) (by omega)
      have hb7 : w.heap.size < b6 := by rcases hc6 with h | h <;> omega
      refine kq_normal (hL0 (n - (i + 1)).toNat _ _ (by omega) (by (repeat (first | with_reducible exact Agree.ov | with_reducible exact Agree.refl _ _ | refine Agree.upd rfl ?_ | refine Agree.ovs rfl ?_))) ⟨i + 1, .slice xa (i.toNat + 1) xc, us ++ [Value.slice (some ⟨w3.heap.size, 0, none⟩) n.toNat n.toNat], b6, rfl, by omega, by omega, rfl, by simpa using hB7, ?_, hb7, ?_, below_chg hb62 hc7 (Nat.le_refl _) (by have := hg6.size; omega)⟩)
      · rw [show (i + 1).toNat = i.toNat + 1 by omega]
        exact hO6.chg hc7 (by omega)
      · have hul : us.length = i.toNat := by have := hO2; unfold Own at this; simpa using this.1
        intro k hk
        by_cases hki : k < i.toNat
        · obtain ⟨c, S', e1, e2, e3, e4, e5, e6⟩ := hM2 k hki
          have hclt := e2.lt
          have hcb5 : c ≠ b5 := by rcases hb5c with ⟨h, _⟩ | h <;> omega
          have hcb6 : c ≠ b6 := by rcases hc6 with h | h <;> omega
          exact ⟨c, S', by rw [List.getElem?_append_left (by omega)]; exact e1, ((((e2.ext hb3).ext hb4).ext hb5).chg hg6 hcb5).chg hc7 (by omega), e3, e4, e5, hcb6⟩
        · have : k = i.toNat := by omega
          subst this
          have hlt3 : w3.heap.size < w4.heap.size := hs4
          have hsz5 := hb5.size
          have hcb5 : w3.heap.size ≠ b5 := by rcases hb5c with ⟨h, _⟩ | h <;> omega
          have hcb6 : w3.heap.size ≠ b6 := by rcases hc6 with h | h <;> omega
          refine ⟨w3.heap.size, S, by rw [← hul]; simp, (((hS.ext hb5).chg hg6 hcb5).chg hc7 (by omega)), hSl, fun t ht => ?_, by omega, hcb6⟩
          have := hSr (t : Int) (by omega) (by omega)
          rw [show ((i.toNat : Nat) : Int) = i by omega]
          simpa using this
    · (repeat (first | refine seq_ ?_ | refine sq_normal ?_ | refine sq_exit ?_ | refine rl_nil ?_ | refine cond_f rfl ?_ | refine exit_ ?_ | refine inBlock_exit ?_ | refine kq_exit ?_ | (refine region_ (id := 3) ?_; (try ((first | (refine rl_lss_t rfl rfl rfl ?_ ?_; omega) | (refine rl_lss_f rfl rfl rfl ?_ ?_; omega))))) | (refine region_ (id := 7) ?_; (try (refine rl_move (v := (Value.int _ _ : Value)) rfl rfl ?_)))))
      have hni : i = n := by omega
      subst hni
      have hlow : w.heap.size < w2.heap.size := hB2.lt
      refine rl_make1 sl34 rfl rfl rfl ?_ ?_ ?_ ?_
      · omega
      · omega
      · omega
      intro w3 hB3 hb3 hs3
      skip
      refine rl_alloc (z := .slice none 0 0) (by kernel_rfl) rfl rfl ?_
      intro w4 hB4 hb4 hs4
      skip
      refine rl_store (v := Value.slice (some ⟨w2.heap.size, 0, none⟩) i.toNat i.toNat) vt34 rfl rfl rfl rfl hB4 ?_ ?_
      · simp
      intro w5 hB5 hc5 hs5
      (repeat (first | refine seq_ ?_ | refine sq_normal ?_ | refine rl_nil ?_ | (refine region_ (id := 8) ?_)))
      refine rl_mkfunc (vs := [Value.pointer (some ⟨w.heap.size, 0, none⟩), Value.pointer (some ⟨w3.heap.size, 0, none⟩)]) rfl rfl ?_
      (repeat (first | refine seq_ ?_ | refine sq_normal ?_ | refine rl_nil ?_ | (refine region_ (id := 9) ?_; (try (refine rl_assign (v := (Value.slice _ _ _ : Value)) rfl rfl ?_))) | refine rl_assign (v := (Value.func _ _ _ : Value)) rfl rfl ?_))
      have hb25 : Below w2.heap.size w2 w5 := below_chg (below_ext hb3 hb4 hb3.size) hc5 (by omega) (by omega)
      have hLd : LeadV w5 i ls (.slice la i.toNat lc) w2.heap.size := by
        refine ⟨la, lc, b, rfl, hlc, fun h => ⟨hla h, hO2.lt h⟩, fun k hk => ?_⟩
        obtain ⟨c, S, e1, e2, e3, e4, e5, e6⟩ := hM2 k hk
        refine ⟨c, e2.lt, ?_, fun t ht => ?_⟩
        · rw [Nat.zero_add]; exact cell_ext (hO2.cell e1) hb25
        · rw [Nat.zero_add]; exact cell_ext (e2.cell_some (by simp [e4 t ht])) hb25
      have hTl : ((List.replicate i.toNat false).map Value.bool) = List.replicate i.toNat (Value.bool false) := by simp
      have hcnt : (List.replicate i.toNat false).count true = 0 := by simp [List.count_replicate]
      have hAt : ∀ σ' : Env, σ' 0 = .int .i64 i → σ' 5 = .pointer (some ⟨w.heap.size, 0, none⟩) → σ' 7 = .pointer (some ⟨w3.heap.size, 0, none⟩) → σ' 8 = .func (.func 19) #[] #[.pointer (some ⟨w.heap.size, 0, none⟩), .pointer (some ⟨w3.heap.size, 0, none⟩)] → σ' 9 = .slice none 0 0 → AtL i ls w (i.toNat - (List.replicate i.toNat false).count true) σ' w5 := by
        intro σ' h0 h5 h7 h8 h9
        refine ⟨w2.heap.size, w3.heap.size, w2.heap.size, w5.heap.size, i.toNat + 1, .slice la i.toNat lc, .slice none 0 0, List.replicate i.toNat false, [], [], [], w5.heap.size, h0, h5, h7, h8, h9, hLd, hlow, Nat.le_refl _, by omega, by omega, ?_, hB5.cell_some rfl, ?_, by simp, ?_, Nat.le_refl _, ⟨Own.nil _ _ _ _, Nat.le_refl _, rfl, rfl, fun i xs h => by simp at h, fun i j xs ys c d _ h => by simp at h⟩, rfl, by omega, rfl, by simp⟩
        · exact cell_ext c1 hb25
        · rw [hTl]; exact (hB3.ext hb4).chg hc5 (by omega)
        · exact below_ext hb2 hb25 (by omega)
      exact label_ (sq_normal (hX _ _ _ (hAt _ rfl rfl rfl rfl rfl)))
end Go.Proofs.Ytgiifodmbckbmaa.Scc
