/- The walks of kinds.own, Arrow for kinds that are not wide; of (*Solver).Kind. -/
import Derived.Test.YtkjahcegjplbnaaKinW12
set_option linter.unusedVariables false
set_option linter.unusedSimpArgs false
namespace Go.Proofs.Ytkjahcegjplbnaa.Kin
open Go Go.Eng Go.RowKit Go.Kn
attribute [local irreducible] RL RX KQ SQ Exit.inBlock Exit.then BP NP CallsOk IsSl IsRows IsInts IsBools Own Blk Code.wp Calls wpList
set_option maxHeartbeats 2000000 in
theorem ownw_ok : ∀ (n : Nat) (k : Kd), k.sz < n → ∀ (w0 w : World) (L : List Ent) (V : Vw) (v : Value), Mem w0 w L V → KSl V v k → k.wide ≤ 10000000 →
    CallsOk Try.prog 39 #[.agg #[v]] w fun r w' => ∃ V' v', VLe V V' ∧ Mem w0 w' L V' ∧ r = .agg #[v'] ∧ KSl V' v' k := by
  intro n
  induction n with
  | zero => intro k hn; omega
  | succ n ih =>
  intro k hn w0 w L V v hM hk hsz
  have hml := maxLen_le
  have hmx : 10000000 ≤ maxLen := by unfold maxLen; omega
  have hlen := Kd.len_le_wide k
  have hk' := hk
  obtain ⟨A, c, b, off, rfl, hlc, hcm, hA, hkel⟩ := hk
  obtain ⟨us, hul, hus, hun⟩ := hkel.list
  refine enter_ (N := 34) Try.func39 rfl rfl rfl ?_
  by_cases h0 : (k.len : Int) = 0
  · have : k = .nil := Kd.len_zero (by omega)
    subst this
    (repeat (first | refine seq_ ?_ | refine sq_normal ?_ | refine sq_ret ?_ | refine rl_nil ?_ | refine cond_t rfl ?_ | refine ret_ ?_ | (refine region_ (id := 0) ?_; (try ((refine rl_boxAM (d := 1) hM rfl rfl ?_; clear hM; intro w b1 hM); (try ((refine rl_allocAM (d := 2) hM ag25 rfl ?_; clear hM; intro w b2 hM)))))) | (refine region_ (id := 1) ?_; (try (refine rl_fld fd25_0 rfl rfl ?_; (try ((first | refine rl_loadV hM vt23 rfl rfl (by first | assumption | exact VRow.get (by assumption) rfl | exact VRow.get0 (by assumption) rfl) ?_ | refine rl_loadM 0 hM vt23 rfl rfl rfl (by first | rfl | assumption) ?_ | refine rl_loadM 1 hM vt23 rfl rfl rfl (by first | rfl | assumption) ?_ | refine rl_loadM 2 hM vt23 rfl rfl rfl (by first | rfl | assumption) ?_ | refine rl_loadM 3 hM vt23 rfl rfl rfl (by first | rfl | assumption) ?_ | refine rl_loadM 4 hM vt23 rfl rfl rfl (by first | rfl | assumption) ?_ | refine rl_loadM 5 hM vt23 rfl rfl rfl (by first | rfl | assumption) ?_ | refine rl_loadM 6 hM vt23 rfl rfl rfl (by first | rfl | assumption) ?_ | refine rl_loadM 7 hM vt23 rfl rfl rfl (by first | rfl | assumption) ?_); (try (refine rl_len sl23 rfl rfl ?_; (try ((first | (refine rl_eql_t rfl rfl rfl ?_ ?_; omega) | (refine rl_eql_f rfl rfl rfl ?_ ?_; omega))))))))))) | (refine region_ (id := 2) ?_; (try (refine rl_build [(Value.slice none 0 0)] ag25 pl25 rfl rfl rfl ?_; (try ((first | (refine rl_storeWM 0 hM ag25 rfl rfl rfl rfl rfl rfl rfl ?_; clear hM; intro w hM) | (refine rl_storeWM 1 hM ag25 rfl rfl rfl rfl rfl rfl rfl ?_; clear hM; intro w hM) | (refine rl_storeWM 2 hM ag25 rfl rfl rfl rfl rfl rfl rfl ?_; clear hM; intro w hM) | (refine rl_storeWM 3 hM ag25 rfl rfl rfl rfl rfl rfl rfl ?_; clear hM; intro w hM) | (refine rl_storeWM 4 hM ag25 rfl rfl rfl rfl rfl rfl rfl ?_; clear hM; intro w hM) | (refine rl_storeWM 5 hM ag25 rfl rfl rfl rfl rfl rfl rfl ?_; clear hM; intro w hM) | (refine rl_storeWM 6 hM ag25 rfl rfl rfl rfl rfl rfl rfl ?_; clear hM; intro w hM) | (refine rl_storeWM 7 hM ag25 rfl rfl rfl rfl rfl rfl rfl ?_; clear hM; intro w hM)))))))))
    exact bp_x1 rfl rfl (res_M 0 hM ag25 rfl rfl rfl) ⟨V, _, VLe.refl _, hM.dropn 2, rfl, KSl.nil _ _ (Nat.zero_le _)⟩
  · have hA' := hA (by omega)
    subst hA'
    (repeat (first | refine seq_ ?_ | refine sq_normal ?_ | refine rl_nil ?_ | refine cond_f rfl ?_ | refine skip_ ?_ | (refine region_ (id := 0) ?_; (try ((refine rl_boxAM (d := 1) hM rfl rfl ?_; clear hM; intro w b1 hM); (try ((refine rl_allocAM (d := 2) hM ag25 rfl ?_; clear hM; intro w b2 hM)))))) | (refine region_ (id := 1) ?_; (try (refine rl_fld fd25_0 rfl rfl ?_; (try ((first | refine rl_loadV hM vt23 rfl rfl (by first | assumption | exact VRow.get (by assumption) rfl | exact VRow.get0 (by assumption) rfl) ?_ | refine rl_loadM 0 hM vt23 rfl rfl rfl (by first | rfl | assumption) ?_ | refine rl_loadM 1 hM vt23 rfl rfl rfl (by first | rfl | assumption) ?_ | refine rl_loadM 2 hM vt23 rfl rfl rfl (by first | rfl | assumption) ?_ | refine rl_loadM 3 hM vt23 rfl rfl rfl (by first | rfl | assumption) ?_ | refine rl_loadM 4 hM vt23 rfl rfl rfl (by first | rfl | assumption) ?_ | refine rl_loadM 5 hM vt23 rfl rfl rfl (by first | rfl | assumption) ?_ | refine rl_loadM 6 hM vt23 rfl rfl rfl (by first | rfl | assumption) ?_ | refine rl_loadM 7 hM vt23 rfl rfl rfl (by first | rfl | assumption) ?_); (try (refine rl_len sl23 rfl rfl ?_; (try ((first | (refine rl_eql_t rfl rfl rfl ?_ ?_; omega) | (refine rl_eql_f rfl rfl rfl ?_ ?_; omega))))))))))) | (refine region_ (id := 3) ?_; (try (refine rl_fld fd25_0 rfl rfl ?_; (try ((first | refine rl_loadV hM vt23 rfl rfl (by first | assumption | exact VRow.get (by assumption) rfl | exact VRow.get0 (by assumption) rfl) ?_ | refine rl_loadM 0 hM vt23 rfl rfl rfl (by first | rfl | assumption) ?_ | refine rl_loadM 1 hM vt23 rfl rfl rfl (by first | rfl | assumption) ?_ | refine rl_loadM 2 hM vt23 rfl rfl rfl (by first | rfl | assumption) ?_ | refine rl_loadM 3 hM vt23 rfl rfl rfl (by first | rfl | assumption) ?_ | refine rl_loadM 4 hM vt23 rfl rfl rfl (by first | rfl | assumption) ?_ | refine rl_loadM 5 hM vt23 rfl rfl rfl (by first | rfl | assumption) ?_ | refine rl_loadM 6 hM vt23 rfl rfl rfl (by first | rfl | assumption) ?_ | refine rl_loadM 7 hM vt23 rfl rfl rfl (by first | rfl | assumption) ?_); (try (refine rl_len sl23 rfl rfl ?_)))))))))
    refine rl_makeM hM sl23 rfl rfl rfl ?_ ?_ ?_ ?_
    · omega
    · omega
    · omega
    clear hM
    intro w bm hM
    (repeat (first | refine seq_ ?_ | refine sq_normal ?_ | refine rl_nil ?_ | (refine region_ (id := 4) ?_; (try (refine rl_move (v := (Value.slice _ _ _ : Value)) rfl rfl ?_; (try (refine rl_fld fd25_0 rfl rfl ?_; (try ((first | refine rl_loadV hM vt23 rfl rfl (by first | assumption | exact VRow.get (by assumption) rfl | exact VRow.get0 (by assumption) rfl) ?_ | refine rl_loadM 0 hM vt23 rfl rfl rfl (by first | rfl | assumption) ?_ | refine rl_loadM 1 hM vt23 rfl rfl rfl (by first | rfl | assumption) ?_ | refine rl_loadM 2 hM vt23 rfl rfl rfl (by first | rfl | assumption) ?_ | refine rl_loadM 3 hM vt23 rfl rfl rfl (by first | rfl | assumption) ?_ | refine rl_loadM 4 hM vt23 rfl rfl rfl (by first | rfl | assumption) ?_ | refine rl_loadM 5 hM vt23 rfl rfl rfl (by first | rfl | assumption) ?_ | refine rl_loadM 6 hM vt23 rfl rfl rfl (by first | rfl | assumption) ?_ | refine rl_loadM 7 hM vt23 rfl rfl rfl (by first | rfl | assumption) ?_)))))))) | refine rl_assign (v := (Value.slice _ _ _ : Value)) rfl rfl ?_))
    refine rl_copyM 0 (news := us) (B := b) (off := off) hM sl23 rfl rfl rfl (fun _ => rfl) (by omega) (fun j u hj => hM.view (hus j u hj).1) ?_ ?_ rfl ?_ ?_
    · intro u hu
      obtain ⟨j, hj⟩ := List.mem_iff_getElem?.1 hu
      exact (hus j u hj).2
    · omega
    · simp
    clear hM
    intro w hM
    have e1 : us ++ (List.replicate (k.len : Int).toNat (Value.slice none 0 0)).drop us.length = us := by
      rw [List.drop_of_length_le (by simp; omega), List.append_nil]
    have hM : Mem w0 w (.blk bm us 25 :: .blk b2 [.slice none 0 0] 25 :: .blk b1 [.slice (some ⟨b, off, none⟩) k.len c] 25 :: L) V := by
      have h := hM
      rw [e1] at h
      exact h
    (repeat (first | refine seq_ ?_ | refine sq_normal ?_ | refine rl_nil ?_ | refine block_ ?_ | (refine region_ (id := 5) ?_; (try (refine rl_move (v := (Value.slice _ _ _ : Value)) rfl rfl ?_; (try (refine rl_len sl23 rfl rfl ?_; (try (refine rl_move (v := (Value.int _ _ : Value)) rfl rfl ?_)))))))))
    refine loop1 [(4, 5), (20, 32)] 20 (fun m v wr => ∃ (i : Int) (cs : List Value) (V1 : Vw), v = .int .i64 i ∧ 0 ≤ i ∧ i ≤ k.len ∧ m = (k.len - i).toNat ∧ VLe V V1 ∧ Mem w0 wr (.blk bm cs 25 :: .blk b2 [.slice none 0 0] 25 :: .blk b1 [.slice (some ⟨b, off, none⟩) k.len c] 25 :: L) V1 ∧
        cs.length = k.len ∧ (∀ (j : Nat) a, k.nth j = some a → ∃ u, cs[j]? = some u ∧ KSl V1 u a)) _
      ⟨0, us, V, rfl, by omega, by omega, rfl, VLe.refl _, hM, hul, hun⟩ ?_
    clear hM
    rintro m τ v w ⟨i, cs, V1, rfl, hi0, hil, rfl, hV1, hM, hcl, hcs⟩ K0 hL0
    by_cases hi : i < k.len
    · obtain ⟨a, ha⟩ := Kd.nth_lt (k := k) (i := i.toNat) (by omega)
      have hasz := (Kd.nth_some ha).2
      have haw := Kd.nth_wide ha
      obtain ⟨u, hu, hku⟩ := hcs _ _ ha
      (repeat (first | refine seq_ ?_ | refine sq_normal ?_ | refine rl_nil ?_ | refine cond_t rfl ?_ | refine skip_ ?_ | refine block_ ?_ | (refine region_ (id := 6) ?_; (try ((first | (refine rl_lss_t rfl rfl rfl ?_ ?_; omega) | (refine rl_lss_f rfl rfl rfl ?_ ?_; omega))))) | (refine region_ (id := 7) ?_; (try (refine rl_move (v := (Value.int _ _ : Value)) rfl rfl ?_; (try (refine rl_assign (v := (Value.int _ _ : Value)) rfl rfl ?_))))) | (refine region_ (id := 8) ?_; (try (refine rl_move (v := (Value.slice _ _ _ : Value)) rfl rfl ?_; (try (refine rl_move (v := (Value.int _ _ : Value)) rfl rfl ?_; (try (refine rl_move (v := (Value.slice _ _ _ : Value)) rfl rfl ?_; (try (refine rl_move (v := (Value.int _ _ : Value)) rfl rfl ?_; (try ((first | (refine rl_idx1 sl23 rfl rfl rfl rfl ?_ ?_ ?_; omega; omega) | (apply rl_idx1 sl23 rfl rfl rfl; assumption; omega; omega)); (try ((first | refine rl_loadAV hM ag25 rfl rfl (by assumption) (by rfl) ?_ | refine rl_loadAM (vs := [_]) 0 hM ag25 rfl rfl rfl rfl rfl ?_ | refine rl_loadAM (vs := [_]) 1 hM ag25 rfl rfl rfl rfl rfl ?_ | refine rl_loadAM (vs := [_]) 2 hM ag25 rfl rfl rfl rfl rfl ?_ | refine rl_loadAM (vs := [_]) 3 hM ag25 rfl rfl rfl rfl rfl ?_ | refine rl_loadAM (vs := [_]) 4 hM ag25 rfl rfl rfl rfl rfl ?_ | refine rl_loadAM (vs := [_]) 5 hM ag25 rfl rfl rfl rfl rfl ?_ | refine rl_loadAM (vs := [_]) 6 hM ag25 rfl rfl rfl rfl rfl ?_ | refine rl_loadAM (vs := [_]) 7 hM ag25 rfl rfl rfl rfl rfl ?_))))))))))))))))
      refine rl_loadAM (vs := [u]) 0 hM ag25 rfl rfl rfl ?_ rfl ?_
      · rw [Nat.zero_add]
        apply List.ext_getElem?
        intro j
        rw [List.getElem?_take]
        cases j with
        | zero => simp [hu]
        | succ j => rw [if_neg (by omega)]; simp
      refine rl_callf fn39 (ih a (by omega) w0 w _ V1 _ hM hku (by omega)) rfl rfl ?_
      clear hM
      rintro _ w ⟨V2, v', hV2, hM, rfl, hkv⟩
      obtain ⟨A3, c3, rfl⟩ := hkv.shape
      (repeat (first | (first | (refine rl_idx1 sl23 rfl rfl rfl rfl ?_ ?_ ?_; omega; omega) | (apply rl_idx1 sl23 rfl rfl rfl; assumption; omega; omega))))
      refine rl_storeAM 0 hM ag25 rfl rfl rfl rfl rfl rfl ?_ ?_
      · omega
      clear hM
      intro w hM
      (repeat (first | refine sq_normal ?_ | refine rl_nil ?_ | refine inBlock_normal ?_ | (refine region_ (id := 9) ?_; (try ((refine rl_add rfl rfl rfl ?_ ?_ ?_; omega; omega); (try (refine rl_move (v := (Value.int _ _ : Value)) rfl rfl ?_)))))))
      have e2 : cs.take (0 + i.toNat) ++ [Value.slice A3 a.len c3] ++ cs.drop (0 + i.toNat + 1) = cs.set i.toNat (Value.slice A3 a.len c3) := by
        rw [Nat.zero_add, List.set_eq_take_append_cons_drop, if_pos (by omega)]
        simp
      have hM : Mem w0 w (.blk bm (cs.set i.toNat (Value.slice A3 a.len c3)) 25 :: .blk b2 [.slice none 0 0] 25 :: .blk b1 [.slice (some ⟨b, off, none⟩) k.len c] 25 :: L) V2 := by
        have h := hM
        have e3 : ([Value.slice A3 a.len c3] : List Value).length = 1 := rfl
        rw [e3, e2] at h
        exact h
      refine kq_normal (hL0 (k.len - (i + 1)).toNat _ _ (by omega) (by (repeat (first | with_reducible exact Agree.ov | with_reducible exact Agree.refl _ _ | refine Agree.upd rfl ?_ | refine Agree.ovs rfl ?_))) ⟨i + 1, _, V2, rfl, by omega, by omega, rfl, hV1.trans hV2, hM, by simpa using hcl, fun j a' hj => ?_⟩)
      by_cases hji : i.toNat = j
      · subst hji
        rw [ha] at hj
        cases hj
        exact ⟨_, List.getElem?_set_self (by omega), hkv⟩
      · obtain ⟨u', h1, h2⟩ := hcs j a' hj
        exact ⟨u', by rw [List.getElem?_set_ne hji]; exact h1, h2.le hV2⟩
    · (repeat (first | refine seq_ ?_ | refine sq_normal ?_ | refine sq_exit ?_ | refine rl_nil ?_ | refine cond_f rfl ?_ | refine ret_ ?_ | refine exit_ ?_ | refine inBlock_exit ?_ | refine kq_exit ?_ | (refine region_ (id := 6) ?_; (try ((first | (refine rl_lss_t rfl rfl rfl ?_ ?_; omega) | (refine rl_lss_f rfl rfl rfl ?_ ?_; omega))))) | (refine region_ (id := 10) ?_; (try (refine rl_move (v := (Value.slice _ _ _ : Value)) rfl rfl ?_; (try (refine rl_build [_] ag25 pl25 rfl rfl rfl ?_; (try ((first | (refine rl_storeWM 0 hM ag25 rfl rfl rfl rfl rfl rfl rfl ?_; clear hM; intro w hM) | (refine rl_storeWM 1 hM ag25 rfl rfl rfl rfl rfl rfl rfl ?_; clear hM; intro w hM) | (refine rl_storeWM 2 hM ag25 rfl rfl rfl rfl rfl rfl rfl ?_; clear hM; intro w hM) | (refine rl_storeWM 3 hM ag25 rfl rfl rfl rfl rfl rfl rfl ?_; clear hM; intro w hM) | (refine rl_storeWM 4 hM ag25 rfl rfl rfl rfl rfl rfl rfl ?_; clear hM; intro w hM) | (refine rl_storeWM 5 hM ag25 rfl rfl rfl rfl rfl rfl rfl ?_; clear hM; intro w hM) | (refine rl_storeWM 6 hM ag25 rfl rfl rfl rfl rfl rfl rfl ?_; clear hM; intro w hM) | (refine rl_storeWM 7 hM ag25 rfl rfl rfl rfl rfl rfl rfl ?_; clear hM; intro w hM)))))))))))
      obtain ⟨V2, hV2, hM2, hcell⟩ := hM.freezeBlk
      refine bp_x1 rfl rfl (res_M 1 hM ag25 rfl rfl rfl) ⟨V2, _, hV1.trans hV2, hM2.dropn 2, rfl, ?_⟩
      refine KSl.of (b := bm) (off := 0) (by omega) (by omega) (by omega) (fun _ => rfl) (fun j a hj => ?_)
      obtain ⟨u, h1, h2⟩ := hcs j a hj
      exact ⟨u, by rw [Nat.zero_add]; exact hcell j u h1, h2.le hV2⟩
set_option maxHeartbeats 1000000 in
theorem arroww_ok (a k : Kd) (w0 w : World) (L : List Ent) (V : Vw) (v u : Value) (hM : Mem w0 w L V) (ha : KSl V v a) (hk : KSl V u k) (hs1 : a.wide ≤ 1000000) (hs2 : k.wide ≤ 1000000) :
    CallsOk Try.prog 19 #[.agg #[v], .agg #[u]] w fun r w' => ∃ V' v', VLe V V' ∧ Mem w0 w' L V' ∧ r = .agg #[v'] ∧ KSl V' v' (.cons a k) := by
  have hml := maxLen_le
  have hmx : 10000000 ≤ maxLen := by unfold maxLen; omega
  have hlk := Kd.len_le_wide k
  obtain ⟨A1, c1, b', o', rfl, g1, g2, g3, hael⟩ := ha
  obtain ⟨A, c, b, off, rfl, hlc, hcm, hA, hkel⟩ := hk
  obtain ⟨us, hul, hus, hun⟩ := hkel.list
  refine enter_ (N := 12) Try.func19 rfl rfl rfl ?_
  (repeat (first | refine seq_ ?_ | refine sq_normal ?_ | refine rl_nil ?_ | (refine region_ (id := 0) ?_; (try ((refine rl_boxAM (d := 2) hM rfl rfl ?_; clear hM; intro w b2 hM); (try ((refine rl_boxAM (d := 3) hM rfl rfl ?_; clear hM; intro w b3 hM); (try ((refine rl_allocAM (d := 4) hM ag25 rfl ?_; clear hM; intro w b4 hM)))))))) | (refine region_ (id := 1) ?_; (try ((first | refine rl_loadAV hM ag25 rfl rfl (by assumption) (by rfl) ?_ | refine rl_loadAM (vs := [_]) 0 hM ag25 rfl rfl rfl rfl rfl ?_ | refine rl_loadAM (vs := [_]) 1 hM ag25 rfl rfl rfl rfl rfl ?_ | refine rl_loadAM (vs := [_]) 2 hM ag25 rfl rfl rfl rfl rfl ?_ | refine rl_loadAM (vs := [_]) 3 hM ag25 rfl rfl rfl rfl rfl ?_ | refine rl_loadAM (vs := [_]) 4 hM ag25 rfl rfl rfl rfl rfl ?_ | refine rl_loadAM (vs := [_]) 5 hM ag25 rfl rfl rfl rfl rfl ?_ | refine rl_loadAM (vs := [_]) 6 hM ag25 rfl rfl rfl rfl rfl ?_ | refine rl_loadAM (vs := [_]) 7 hM ag25 rfl rfl rfl rfl rfl ?_); (try ((refine rl_bsliceM (d := 6) [_] hM sl23 rfl rfl rfl rfl rfl (by decide) (by decide) ?_; clear hM; intro w b6 hM); (try (refine rl_fld fd25_0 rfl rfl ?_; (try ((first | refine rl_loadV hM vt23 rfl rfl (by first | assumption | exact VRow.get (by assumption) rfl | exact VRow.get0 (by assumption) rfl) ?_ | refine rl_loadM 0 hM vt23 rfl rfl rfl (by first | rfl | assumption) ?_ | refine rl_loadM 1 hM vt23 rfl rfl rfl (by first | rfl | assumption) ?_ | refine rl_loadM 2 hM vt23 rfl rfl rfl (by first | rfl | assumption) ?_ | refine rl_loadM 3 hM vt23 rfl rfl rfl (by first | rfl | assumption) ?_ | refine rl_loadM 4 hM vt23 rfl rfl rfl (by first | rfl | assumption) ?_ | refine rl_loadM 5 hM vt23 rfl rfl rfl (by first | rfl | assumption) ?_ | refine rl_loadM 6 hM vt23 rfl rfl rfl (by first | rfl | assumption) ?_ | refine rl_loadM 7 hM vt23 rfl rfl rfl (by first | rfl | assumption) ?_))))))))))))
  have hM := hM.asOwn (n := 1) (sz := 1) 0 rfl rfl (by omega)
  refine rl_appendM 0 (news := us) (B := b) (off := off) hM sl23 rfl (by decide) rfl (fun j u hj => hM.view (hus j u hj).1) rfl rfl rfl hA (by omega) ?_ ?_ ?_ ?_
  · intro u hu
    obtain ⟨j, hj⟩ := List.mem_iff_getElem?.1 hu
    exact (hus j u hj).2
  · omega
  · omega
  clear hM
  intro w a' c' hc1 hc2 hM
  (repeat (first | refine rl_build [_] ag25 pl25 rfl rfl rfl ?_))
  obtain ⟨V2, hV2, hM2, a2, c2, b2', e1, e2, e3, e4, e5⟩ := Mem.freezeOwn hM
  cases e1
  have hkc : KSl V2 (.slice a' (1 + k.len) c') (.cons a k) := by
    refine KSl.of (b := b2') (off := 0) (by simp only [Kd.len]; omega) (by simp only [Kd.len]; omega) hc2 (fun _ => e4 (by omega)) (fun j x hj => ?_)
    cases j with
    | zero =>
      simp only [Kd.nth, Option.some.injEq] at hj
      subst hj
      exact ⟨_, e5 0 _ rfl, ⟨A1, c1, b', o', rfl, g1, g2, g3, hael.le hV2⟩⟩
    | succ j =>
      obtain ⟨u, h1, h2⟩ := hun j x (by simpa [Kd.nth] using hj)
      exact ⟨u, e5 (j + 1) u h1, h2.le hV2⟩
  clear hM
  refine rl_callf fn39 (ownw_ok _ (.cons a k) (Nat.lt_succ_self _) w0 w _ V2 _ hM2 hkc (by simp only [Kd.wide]; omega)) rfl rfl ?_
  rintro _ w ⟨V3, v', hV3, hM, rfl, hkv⟩
  obtain ⟨A4, c4, rfl⟩ := hkv.shape
  (repeat (first | refine sq_normal ?_ | refine rl_nil ?_ | refine ret_ ?_ | (first | (refine rl_storeWM 0 hM ag25 rfl rfl rfl rfl rfl rfl rfl ?_; clear hM; intro w hM) | (refine rl_storeWM 1 hM ag25 rfl rfl rfl rfl rfl rfl rfl ?_; clear hM; intro w hM) | (refine rl_storeWM 2 hM ag25 rfl rfl rfl rfl rfl rfl rfl ?_; clear hM; intro w hM) | (refine rl_storeWM 3 hM ag25 rfl rfl rfl rfl rfl rfl rfl ?_; clear hM; intro w hM) | (refine rl_storeWM 4 hM ag25 rfl rfl rfl rfl rfl rfl rfl ?_; clear hM; intro w hM) | (refine rl_storeWM 5 hM ag25 rfl rfl rfl rfl rfl rfl rfl ?_; clear hM; intro w hM) | (refine rl_storeWM 6 hM ag25 rfl rfl rfl rfl rfl rfl rfl ?_; clear hM; intro w hM) | (refine rl_storeWM 7 hM ag25 rfl rfl rfl rfl rfl rfl rfl ?_; clear hM; intro w hM))))
  exact bp_x1 rfl rfl (res_M 0 hM ag25 rfl rfl rfl) ⟨V3, _, hV2.trans hV3, hM.dropn 3, rfl, hkv⟩
set_option maxRecDepth 4000 in
set_option maxHeartbeats 1000000 in
theorem Kind_ok : ∀ (N : Nat) (st : St1) (t : Tm) (cs : List Value), (ap st t).size ≤ N → (ap st t).ht ≤ 1000000 → ∀ (w0 w : World) (L : List Ent) (V : Vw) (s mb : Nat) (cnt : Int) (o : Obj), Mem w0 w (sv s cnt mb o L) V → Knows V o st → TmV V t cs →
    CallsOk Try.prog 26 #[.pointer (some ⟨s, 0, none⟩), .agg cs.toArray] w fun r w' => ∃ V' v', VLe V V' ∧ Mem w0 w' (sv s cnt mb o L) V' ∧ r = .agg #[v'] ∧ KSl V' v' (ap st t).kd := by
  intro N
  induction N with
  | zero => intro st t cs hN; have : 0 < (ap st t).size := by cases ap st t <;> simp [Tm.size]
            omega
  | succ N ih =>
  intro st t cs hN hH w0 w L V s mb cnt o hM hk ht
  obtain ⟨f0, n0, a0, k0, c0, rfl, _⟩ := id ht.shape
  refine enter_ (N := 25) Try.func26 rfl rfl rfl ?_
  (repeat (first | refine seq_ ?_ | refine sq_normal ?_ | refine rl_nil ?_ | (refine region_ (id := 0) ?_; (try ((refine rl_boxAM (d := 3) hM rfl rfl ?_; clear hM; intro w b3 hM); (try ((refine rl_allocAM (d := 4) hM ag25 rfl ?_; clear hM; intro w b4 hM)))))) | (refine region_ (id := 1) ?_; (try (refine rl_move (v := (Value.pointer _ : Value)) rfl rfl ?_; (try ((first | refine rl_loadAV hM ag55 rfl rfl (by assumption) (by rfl) ?_ | refine rl_loadAM (vs := [_, _, _]) 0 hM ag55 rfl rfl rfl rfl rfl ?_ | refine rl_loadAM (vs := [_, _, _]) 1 hM ag55 rfl rfl rfl rfl rfl ?_ | refine rl_loadAM (vs := [_, _, _]) 2 hM ag55 rfl rfl rfl rfl rfl ?_ | refine rl_loadAM (vs := [_, _, _]) 3 hM ag55 rfl rfl rfl rfl rfl ?_ | refine rl_loadAM (vs := [_, _, _]) 4 hM ag55 rfl rfl rfl rfl rfl ?_ | refine rl_loadAM (vs := [_, _, _]) 5 hM ag55 rfl rfl rfl rfl rfl ?_ | refine rl_loadAM (vs := [_, _, _]) 6 hM ag55 rfl rfl rfl rfl rfl ?_ | refine rl_loadAM (vs := [_, _, _]) 7 hM ag55 rfl rfl rfl rfl rfl ?_))))))))
  refine rl_callf fn44 (looks_ok w0 w _ V s mb cnt o st t _ (hM.rot (A := [_, _]) (S := [_, _])) hk ht) rfl rfl ?_
  clear hM
  rintro _ w ⟨u, us, rfl, hu, hM, hap, hfree⟩
  replace hM := hM.rot (A := [_, _]) (S := [_, _])
  obtain ⟨v1, rfl, hsl, hi1, hi2⟩ := id hu.open
  obtain ⟨ka, kc, kb, ko, rfl, g1, g2, g3, g4⟩ := id hsl
  cases u with
  | var k =>
    have hapk := hfree k rfl
    rw [hapk] at hap
    rw [← hap]
    have hf1 : (Tm.var k).form = 1 := rfl
    (repeat (first | refine seq_ ?_ | refine sq_normal ?_ | refine sq_ret ?_ | refine rl_nil ?_ | refine cond_t rfl ?_ | refine ret_ ?_ | (refine region_ (id := 2) ?_; (try (refine rl_fld fd55_0 rfl rfl ?_; (try ((first | refine rl_loadV hM vt3 rfl rfl (by first | assumption | exact VRow.get (by assumption) rfl | exact VRow.get0 (by assumption) rfl) ?_ | refine rl_loadM 0 hM vt3 rfl rfl rfl (by first | rfl | assumption) ?_ | refine rl_loadM 1 hM vt3 rfl rfl rfl (by first | rfl | assumption) ?_ | refine rl_loadM 2 hM vt3 rfl rfl rfl (by first | rfl | assumption) ?_ | refine rl_loadM 3 hM vt3 rfl rfl rfl (by first | rfl | assumption) ?_ | refine rl_loadM 4 hM vt3 rfl rfl rfl (by first | rfl | assumption) ?_ | refine rl_loadM 5 hM vt3 rfl rfl rfl (by first | rfl | assumption) ?_ | refine rl_loadM 6 hM vt3 rfl rfl rfl (by first | rfl | assumption) ?_ | refine rl_loadM 7 hM vt3 rfl rfl rfl (by first | rfl | assumption) ?_); (try ((first | (refine rl_neq_t rfl rfl rfl ?_ ?_; omega) | (refine rl_neq_f rfl rfl rfl ?_ ?_; omega))))))))) | (refine region_ (id := 3) ?_; (try (refine rl_build [(Value.slice none 0 0)] ag25 pl25 rfl rfl rfl ?_; (try ((first | (refine rl_storeWM 0 hM ag25 rfl rfl rfl rfl rfl rfl rfl ?_; clear hM; intro w hM) | (refine rl_storeWM 1 hM ag25 rfl rfl rfl rfl rfl rfl rfl ?_; clear hM; intro w hM) | (refine rl_storeWM 2 hM ag25 rfl rfl rfl rfl rfl rfl rfl ?_; clear hM; intro w hM) | (refine rl_storeWM 3 hM ag25 rfl rfl rfl rfl rfl rfl rfl ?_; clear hM; intro w hM) | (refine rl_storeWM 4 hM ag25 rfl rfl rfl rfl rfl rfl rfl ?_; clear hM; intro w hM) | (refine rl_storeWM 5 hM ag25 rfl rfl rfl rfl rfl rfl rfl ?_; clear hM; intro w hM) | (refine rl_storeWM 6 hM ag25 rfl rfl rfl rfl rfl rfl rfl ?_; clear hM; intro w hM) | (refine rl_storeWM 7 hM ag25 rfl rfl rfl rfl rfl rfl rfl ?_; clear hM; intro w hM))))))) | (first | (refine rl_storeWM 0 hM ag55 rfl rfl rfl rfl rfl rfl rfl ?_; clear hM; intro w hM) | (refine rl_storeWM 1 hM ag55 rfl rfl rfl rfl rfl rfl rfl ?_; clear hM; intro w hM) | (refine rl_storeWM 2 hM ag55 rfl rfl rfl rfl rfl rfl rfl ?_; clear hM; intro w hM) | (refine rl_storeWM 3 hM ag55 rfl rfl rfl rfl rfl rfl rfl ?_; clear hM; intro w hM) | (refine rl_storeWM 4 hM ag55 rfl rfl rfl rfl rfl rfl rfl ?_; clear hM; intro w hM) | (refine rl_storeWM 5 hM ag55 rfl rfl rfl rfl rfl rfl rfl ?_; clear hM; intro w hM) | (refine rl_storeWM 6 hM ag55 rfl rfl rfl rfl rfl rfl rfl ?_; clear hM; intro w hM) | (refine rl_storeWM 7 hM ag55 rfl rfl rfl rfl rfl rfl rfl ?_; clear hM; intro w hM))))
    exact bp_x1 rfl rfl (res_M 0 hM ag25 rfl rfl rfl) ⟨V, _, VLe.refl _, hM.dropn 2, rfl, KSl.nil _ _ (Nat.zero_le _)⟩
  | star =>
    have hf1 : (Tm.star).form = 2 := rfl
    rw [ap_star] at hap
    rw [← hap]
    (repeat (first | refine seq_ ?_ | refine sq_normal ?_ | refine sq_ret ?_ | refine rl_nil ?_ | refine cond_t rfl ?_ | refine ret_ ?_ | (refine region_ (id := 2) ?_; (try (refine rl_fld fd55_0 rfl rfl ?_; (try ((first | refine rl_loadV hM vt3 rfl rfl (by first | assumption | exact VRow.get (by assumption) rfl | exact VRow.get0 (by assumption) rfl) ?_ | refine rl_loadM 0 hM vt3 rfl rfl rfl (by first | rfl | assumption) ?_ | refine rl_loadM 1 hM vt3 rfl rfl rfl (by first | rfl | assumption) ?_ | refine rl_loadM 2 hM vt3 rfl rfl rfl (by first | rfl | assumption) ?_ | refine rl_loadM 3 hM vt3 rfl rfl rfl (by first | rfl | assumption) ?_ | refine rl_loadM 4 hM vt3 rfl rfl rfl (by first | rfl | assumption) ?_ | refine rl_loadM 5 hM vt3 rfl rfl rfl (by first | rfl | assumption) ?_ | refine rl_loadM 6 hM vt3 rfl rfl rfl (by first | rfl | assumption) ?_ | refine rl_loadM 7 hM vt3 rfl rfl rfl (by first | rfl | assumption) ?_); (try ((first | (refine rl_neq_t rfl rfl rfl ?_ ?_; omega) | (refine rl_neq_f rfl rfl rfl ?_ ?_; omega))))))))) | (refine region_ (id := 3) ?_; (try (refine rl_build [(Value.slice none 0 0)] ag25 pl25 rfl rfl rfl ?_; (try ((first | (refine rl_storeWM 0 hM ag25 rfl rfl rfl rfl rfl rfl rfl ?_; clear hM; intro w hM) | (refine rl_storeWM 1 hM ag25 rfl rfl rfl rfl rfl rfl rfl ?_; clear hM; intro w hM) | (refine rl_storeWM 2 hM ag25 rfl rfl rfl rfl rfl rfl rfl ?_; clear hM; intro w hM) | (refine rl_storeWM 3 hM ag25 rfl rfl rfl rfl rfl rfl rfl ?_; clear hM; intro w hM) | (refine rl_storeWM 4 hM ag25 rfl rfl rfl rfl rfl rfl rfl ?_; clear hM; intro w hM) | (refine rl_storeWM 5 hM ag25 rfl rfl rfl rfl rfl rfl rfl ?_; clear hM; intro w hM) | (refine rl_storeWM 6 hM ag25 rfl rfl rfl rfl rfl rfl rfl ?_; clear hM; intro w hM) | (refine rl_storeWM 7 hM ag25 rfl rfl rfl rfl rfl rfl rfl ?_; clear hM; intro w hM))))))) | (first | (refine rl_storeWM 0 hM ag55 rfl rfl rfl rfl rfl rfl rfl ?_; clear hM; intro w hM) | (refine rl_storeWM 1 hM ag55 rfl rfl rfl rfl rfl rfl rfl ?_; clear hM; intro w hM) | (refine rl_storeWM 2 hM ag55 rfl rfl rfl rfl rfl rfl rfl ?_; clear hM; intro w hM) | (refine rl_storeWM 3 hM ag55 rfl rfl rfl rfl rfl rfl rfl ?_; clear hM; intro w hM) | (refine rl_storeWM 4 hM ag55 rfl rfl rfl rfl rfl rfl rfl ?_; clear hM; intro w hM) | (refine rl_storeWM 5 hM ag55 rfl rfl rfl rfl rfl rfl rfl ?_; clear hM; intro w hM) | (refine rl_storeWM 6 hM ag55 rfl rfl rfl rfl rfl rfl rfl ?_; clear hM; intro w hM) | (refine rl_storeWM 7 hM ag55 rfl rfl rfl rfl rfl rfl rfl ?_; clear hM; intro w hM))))
    exact bp_x1 rfl rfl (res_M 0 hM ag25 rfl rfl rfl) ⟨V, _, VLe.refl _, hM.dropn 2, rfl, KSl.nil _ _ (Nat.zero_le _)⟩
  | arr x y =>
    have hf1 : (Tm.arr x y).form = 3 := rfl
    have hq0 : (Tm.arr x y).kids.length = 2 := rfl
    rw [ap_arr] at hap
    rw [← hap] at hN hH
    simp only [Tm.size, Tm.ht] at hN hH
    have g3a := g3 (by omega)
    subst g3a
    obtain ⟨zs, hr1, hz1⟩ := g4 0 x rfl
    obtain ⟨zs', hr2, hz2⟩ := g4 1 y rfl
    obtain ⟨f2, n2, a2, k2, c2, rfl, _⟩ := id hz1.shape
    obtain ⟨f3, n3, a3, k3, c3, rfl, _⟩ := id hz2.shape
    have hr1 : VRow V kb (ko + (0 : Int).toNat * 3) [.int .i64 f2, .int .i64 n2, .slice a2 k2 c2] := hr1
    have hr2 : VRow V kb (ko + (1 : Int).toNat * 3) [.int .i64 f3, .int .i64 n3, .slice a3 k3 c3] := hr2
    (repeat (first | refine seq_ ?_ | refine sq_normal ?_ | refine rl_nil ?_ | refine cond_f rfl ?_ | refine skip_ ?_ | (refine region_ (id := 2) ?_; (try (refine rl_fld fd55_0 rfl rfl ?_; (try ((first | refine rl_loadV hM vt3 rfl rfl (by first | assumption | exact VRow.get (by assumption) rfl | exact VRow.get0 (by assumption) rfl) ?_ | refine rl_loadM 0 hM vt3 rfl rfl rfl (by first | rfl | assumption) ?_ | refine rl_loadM 1 hM vt3 rfl rfl rfl (by first | rfl | assumption) ?_ | refine rl_loadM 2 hM vt3 rfl rfl rfl (by first | rfl | assumption) ?_ | refine rl_loadM 3 hM vt3 rfl rfl rfl (by first | rfl | assumption) ?_ | refine rl_loadM 4 hM vt3 rfl rfl rfl (by first | rfl | assumption) ?_ | refine rl_loadM 5 hM vt3 rfl rfl rfl (by first | rfl | assumption) ?_ | refine rl_loadM 6 hM vt3 rfl rfl rfl (by first | rfl | assumption) ?_ | refine rl_loadM 7 hM vt3 rfl rfl rfl (by first | rfl | assumption) ?_); (try ((first | (refine rl_neq_t rfl rfl rfl ?_ ?_; omega) | (refine rl_neq_f rfl rfl rfl ?_ ?_; omega))))))))) | (first | (refine rl_storeWM 0 hM ag55 rfl rfl rfl rfl rfl rfl rfl ?_; clear hM; intro w hM) | (refine rl_storeWM 1 hM ag55 rfl rfl rfl rfl rfl rfl rfl ?_; clear hM; intro w hM) | (refine rl_storeWM 2 hM ag55 rfl rfl rfl rfl rfl rfl rfl ?_; clear hM; intro w hM) | (refine rl_storeWM 3 hM ag55 rfl rfl rfl rfl rfl rfl rfl ?_; clear hM; intro w hM) | (refine rl_storeWM 4 hM ag55 rfl rfl rfl rfl rfl rfl rfl ?_; clear hM; intro w hM) | (refine rl_storeWM 5 hM ag55 rfl rfl rfl rfl rfl rfl rfl ?_; clear hM; intro w hM) | (refine rl_storeWM 6 hM ag55 rfl rfl rfl rfl rfl rfl rfl ?_; clear hM; intro w hM) | (refine rl_storeWM 7 hM ag55 rfl rfl rfl rfl rfl rfl rfl ?_; clear hM; intro w hM))))
    (refine drawnM_ 11 [(0, false), (1, false), (2, false), (3, false), (4, false), (6, false), (7, false), (8, false), (9, false), (10, false), (5, true)] (fun w => Mem w0 w _ _) hM mo (by kernel_rfl) (fun _ h => h) ?_; clear hM; intro w hM; (try (refine rx_move (v := (Value.pointer _ : Value)) rfl rfl rfl ?_; (try (refine rx_fld rfl fd55_2 rfl rfl ?_; (try ((first | refine rx_loadV rfl (fun _ h => h) vt53 rfl rfl (by first | assumption | exact VRow.get (by assumption) rfl | exact VRow.get0 (by assumption) rfl) ?_ | refine rx_loadM 0 rfl (fun _ h => h) vt53 rfl rfl rfl (by first | rfl | assumption) ?_ | refine rx_loadM 1 rfl (fun _ h => h) vt53 rfl rfl rfl (by first | rfl | assumption) ?_ | refine rx_loadM 2 rfl (fun _ h => h) vt53 rfl rfl rfl (by first | rfl | assumption) ?_ | refine rx_loadM 3 rfl (fun _ h => h) vt53 rfl rfl rfl (by first | rfl | assumption) ?_ | refine rx_loadM 4 rfl (fun _ h => h) vt53 rfl rfl rfl (by first | rfl | assumption) ?_ | refine rx_loadM 5 rfl (fun _ h => h) vt53 rfl rfl rfl (by first | rfl | assumption) ?_ | refine rx_loadM 6 rfl (fun _ h => h) vt53 rfl rfl rfl (by first | rfl | assumption) ?_ | refine rx_loadM 7 rfl (fun _ h => h) vt53 rfl rfl rfl (by first | rfl | assumption) ?_); (try ((first | (refine rx_idx rfl sl53 rfl rfl rfl rfl ?_ ?_ ?_; omega; omega) | (apply rx_idx rfl sl53 rfl rfl rfl; assumption; omega; omega)); (try ((first | refine rx_loadAV rfl (fun _ h => h) ag55 rfl rfl (by assumption) (by rfl) ?_ | refine rx_loadAM (vs := [_, _, _]) 0 rfl (fun _ h => h) ag55 rfl rfl rfl rfl rfl ?_ | refine rx_loadAM (vs := [_, _, _]) 1 rfl (fun _ h => h) ag55 rfl rfl rfl rfl rfl ?_ | refine rx_loadAM (vs := [_, _, _]) 2 rfl (fun _ h => h) ag55 rfl rfl rfl rfl rfl ?_ | refine rx_loadAM (vs := [_, _, _]) 3 rfl (fun _ h => h) ag55 rfl rfl rfl rfl rfl ?_ | refine rx_loadAM (vs := [_, _, _]) 4 rfl (fun _ h => h) ag55 rfl rfl rfl rfl rfl ?_ | refine rx_loadAM (vs := [_, _, _]) 5 rfl (fun _ h => h) ag55 rfl rfl rfl rfl rfl ?_ | refine rx_loadAM (vs := [_, _, _]) 6 rfl (fun _ h => h) ag55 rfl rfl rfl rfl rfl ?_ | refine rx_loadAM (vs := [_, _, _]) 7 rfl (fun _ h => h) ag55 rfl rfl rfl rfl rfl ?_); (try (refine rx_move (v := (Value.pointer _ : Value)) rfl rfl rfl ?_; (try (refine rx_fld rfl fd55_2 rfl rfl ?_; (try ((first | refine rx_loadV rfl (fun _ h => h) vt53 rfl rfl (by first | assumption | exact VRow.get (by assumption) rfl | exact VRow.get0 (by assumption) rfl) ?_ | refine rx_loadM 0 rfl (fun _ h => h) vt53 rfl rfl rfl (by first | rfl | assumption) ?_ | refine rx_loadM 1 rfl (fun _ h => h) vt53 rfl rfl rfl (by first | rfl | assumption) ?_ | refine rx_loadM 2 rfl (fun _ h => h) vt53 rfl rfl rfl (by first | rfl | assumption) ?_ | refine rx_loadM 3 rfl (fun _ h => h) vt53 rfl rfl rfl (by first | rfl | assumption) ?_ | refine rx_loadM 4 rfl (fun _ h => h) vt53 rfl rfl rfl (by first | rfl | assumption) ?_ | refine rx_loadM 5 rfl (fun _ h => h) vt53 rfl rfl rfl (by first | rfl | assumption) ?_ | refine rx_loadM 6 rfl (fun _ h => h) vt53 rfl rfl rfl (by first | rfl | assumption) ?_ | refine rx_loadM 7 rfl (fun _ h => h) vt53 rfl rfl rfl (by first | rfl | assumption) ?_); (try ((first | (refine rx_idx rfl sl53 rfl rfl rfl rfl ?_ ?_ ?_; omega; omega) | (apply rx_idx rfl sl53 rfl rfl rfl; assumption; omega; omega)); (try ((first | refine rx_loadAV rfl (fun _ h => h) ag55 rfl rfl (by assumption) (by rfl) ?_ | refine rx_loadAM (vs := [_, _, _]) 0 rfl (fun _ h => h) ag55 rfl rfl rfl rfl rfl ?_ | refine rx_loadAM (vs := [_, _, _]) 1 rfl (fun _ h => h) ag55 rfl rfl rfl rfl rfl ?_ | refine rx_loadAM (vs := [_, _, _]) 2 rfl (fun _ h => h) ag55 rfl rfl rfl rfl rfl ?_ | refine rx_loadAM (vs := [_, _, _]) 3 rfl (fun _ h => h) ag55 rfl rfl rfl rfl rfl ?_ | refine rx_loadAM (vs := [_, _, _]) 4 rfl (fun _ h => h) ag55 rfl rfl rfl rfl rfl ?_ | refine rx_loadAM (vs := [_, _, _]) 5 rfl (fun _ h => h) ag55 rfl rfl rfl rfl rfl ?_ | refine rx_loadAM (vs := [_, _, _]) 6 rfl (fun _ h => h) ag55 rfl rfl rfl rfl rfl ?_ | refine rx_loadAM (vs := [_, _, _]) 7 rfl (fun _ h => h) ag55 rfl rfl rfl rfl rfl ?_))))))))))))))))))))))
    refine rx_eff rfl (fun K hK => ?_)
    refine rl_callf fn26 (ih st x _ (by omega) (by omega) w0 w _ V s mb cnt o (hM.rot (A := [_, _]) (S := [_, _])) hk hz1) rfl rfl ?_
    clear hM
    rintro _ w ⟨V1, v1, hV1, hM, rfl, hk1⟩
    replace hM := hM.rot (A := [_, _]) (S := [_, _])
    obtain ⟨_, _, rfl⟩ := hk1.shape
    refine rl_nil (kq_normal (hK _ _ (hM.le hV1) ?_))
    (try (refine rx_fld rfl fd55_2 rfl rfl ?_; (try ((first | refine rx_loadV rfl (fun _ h => h) vt53 rfl rfl (by first | assumption | exact VRow.get (by assumption) rfl | exact VRow.get0 (by assumption) rfl) ?_ | refine rx_loadM 0 rfl (fun _ h => h) vt53 rfl rfl rfl (by first | rfl | assumption) ?_ | refine rx_loadM 1 rfl (fun _ h => h) vt53 rfl rfl rfl (by first | rfl | assumption) ?_ | refine rx_loadM 2 rfl (fun _ h => h) vt53 rfl rfl rfl (by first | rfl | assumption) ?_ | refine rx_loadM 3 rfl (fun _ h => h) vt53 rfl rfl rfl (by first | rfl | assumption) ?_ | refine rx_loadM 4 rfl (fun _ h => h) vt53 rfl rfl rfl (by first | rfl | assumption) ?_ | refine rx_loadM 5 rfl (fun _ h => h) vt53 rfl rfl rfl (by first | rfl | assumption) ?_ | refine rx_loadM 6 rfl (fun _ h => h) vt53 rfl rfl rfl (by first | rfl | assumption) ?_ | refine rx_loadM 7 rfl (fun _ h => h) vt53 rfl rfl rfl (by first | rfl | assumption) ?_); (try ((first | (refine rx_idx rfl sl53 rfl rfl rfl rfl ?_ ?_ ?_; omega; omega) | (apply rx_idx rfl sl53 rfl rfl rfl; assumption; omega; omega)); (try ((first | refine rx_loadAV rfl (fun _ h => h) ag55 rfl rfl (by assumption) (by rfl) ?_ | refine rx_loadAM (vs := [_, _, _]) 0 rfl (fun _ h => h) ag55 rfl rfl rfl rfl rfl ?_ | refine rx_loadAM (vs := [_, _, _]) 1 rfl (fun _ h => h) ag55 rfl rfl rfl rfl rfl ?_ | refine rx_loadAM (vs := [_, _, _]) 2 rfl (fun _ h => h) ag55 rfl rfl rfl rfl rfl ?_ | refine rx_loadAM (vs := [_, _, _]) 3 rfl (fun _ h => h) ag55 rfl rfl rfl rfl rfl ?_ | refine rx_loadAM (vs := [_, _, _]) 4 rfl (fun _ h => h) ag55 rfl rfl rfl rfl rfl ?_ | refine rx_loadAM (vs := [_, _, _]) 5 rfl (fun _ h => h) ag55 rfl rfl rfl rfl rfl ?_ | refine rx_loadAM (vs := [_, _, _]) 6 rfl (fun _ h => h) ag55 rfl rfl rfl rfl rfl ?_ | refine rx_loadAM (vs := [_, _, _]) 7 rfl (fun _ h => h) ag55 rfl rfl rfl rfl rfl ?_)))))))))
    refine rx_nil rfl ?_
    refine rl_callf fn26 (ih st y _ (by omega) (by omega) w0 w _ V1 s mb cnt o (hM.rot (A := [_, _]) (S := [_, _])) (hk.le hV1) (hz2.le hV1)) rfl rfl ?_
    clear hM
    rintro _ w ⟨V2, v2, hV2, hM, rfl, hk2⟩
    replace hM := hM.rot (A := [_, _]) (S := [_, _])
    obtain ⟨_, _, rfl⟩ := hk2.shape
    have w1 := Tm.kd_wide (ap st x)
    have w2 := Tm.kd_wide (ap st y)
    refine rl_callf fn19 (arroww_ok _ _ w0 w _ V2 _ _ hM (hk1.le hV2) hk2 (by omega) (by omega)) rfl rfl ?_
    clear hM
    rintro _ w ⟨V3, v3, hV3, hM, rfl, hk3⟩
    obtain ⟨_, _, rfl⟩ := hk3.shape
    (repeat (first | refine sq_normal ?_ | refine rl_nil ?_ | refine ret_ ?_ | refine np_normal ?_ | (first | (refine rl_storeWM 0 hM ag25 rfl rfl rfl rfl rfl rfl rfl ?_; clear hM; intro w hM) | (refine rl_storeWM 1 hM ag25 rfl rfl rfl rfl rfl rfl rfl ?_; clear hM; intro w hM) | (refine rl_storeWM 2 hM ag25 rfl rfl rfl rfl rfl rfl rfl ?_; clear hM; intro w hM) | (refine rl_storeWM 3 hM ag25 rfl rfl rfl rfl rfl rfl rfl ?_; clear hM; intro w hM) | (refine rl_storeWM 4 hM ag25 rfl rfl rfl rfl rfl rfl rfl ?_; clear hM; intro w hM) | (refine rl_storeWM 5 hM ag25 rfl rfl rfl rfl rfl rfl rfl ?_; clear hM; intro w hM) | (refine rl_storeWM 6 hM ag25 rfl rfl rfl rfl rfl rfl rfl ?_; clear hM; intro w hM) | (refine rl_storeWM 7 hM ag25 rfl rfl rfl rfl rfl rfl rfl ?_; clear hM; intro w hM))))
    refine bp_x1 rfl rfl (res_M 0 hM ag25 rfl rfl rfl) ⟨V3, _, hV1.trans (hV2.trans hV3), hM.dropn 2, rfl, ?_⟩
    rw [← hap]
    exact hk3
end Go.Proofs.Ytkjahcegjplbnaa.Kin
