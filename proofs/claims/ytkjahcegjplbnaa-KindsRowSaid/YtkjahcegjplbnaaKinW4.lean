/- The walks of kinds.Same, own, Arrow, Split, Star. -/
import Derived.Test.YtkjahcegjplbnaaKinW3
set_option linter.unusedVariables false
set_option linter.unusedSimpArgs false
namespace Go.Proofs.Ytkjahcegjplbnaa.Kin
open Go Go.Eng Go.RowKit Go.Kn
attribute [local irreducible] RL RX KQ SQ Exit.inBlock Exit.then BP NP CallsOk IsSl IsRows IsInts IsBools Own Blk Code.wp Calls wpList
set_option maxHeartbeats 2000000 in
theorem eqfunc_ok (n : Nat) (ih : ∀ (k l : Kd), k.sz < n → ∀ (w0 w : World) (L : List Ent) (V : Vw) (v u : Value), Mem w0 w L V → KSl V v k → KSl V u l →
      CallsOk Try.prog 21 #[.agg #[v], .agg #[u]] w fun r w' => r = .bool (k.same l) ∧ Mem w0 w' L V)
    (k l : Kd) (hn : k.sz < n + 1) (w0 w : World) (L : List Ent) (V : Vw) (v u : Value) (hM : Mem w0 w L V) (hk : KSl V v k) (hl : KSl V u l) :
    CallsOk Try.prog 40 #[v, u, .func (.func 21) #[] #[]] w fun r w' => r = .bool (k.same l) ∧ Mem w0 w' L V := by
  have hml := maxLen_le
  obtain ⟨A, c, b, off, rfl, hlc, hcm, hA, hel⟩ := hk.open
  obtain ⟨A2, c2, b', off2, rfl, hlc2, hcm2, hA2, hel2⟩ := hl.open
  refine enter_ (N := 32) Try.func40 rfl rfl rfl ?_
  by_cases hll : (k.len : Int) = l.len
  · (repeat (first | refine seq_ ?_ | refine sq_normal ?_ | refine rl_nil ?_ | refine cond_f rfl ?_ | refine skip_ ?_ | refine block_ ?_ | (refine region_ (id := 0) ?_; (try (refine rl_assign (v := (Value.bool _ : Value)) rfl rfl ?_))) | (refine region_ (id := 1) ?_; (try (refine rl_move (v := (Value.slice _ _ _ : Value)) rfl rfl ?_; (try (refine rl_len sl23 rfl rfl ?_; (try (refine rl_move (v := (Value.slice _ _ _ : Value)) rfl rfl ?_; (try (refine rl_len sl23 rfl rfl ?_; (try ((first | (refine rl_neq_t rfl rfl rfl ?_ ?_; omega) | (refine rl_neq_f rfl rfl rfl ?_ ?_; omega))))))))))))) | (refine region_ (id := 3) ?_; (try (refine rl_move (v := (Value.slice _ _ _ : Value)) rfl rfl ?_; (try (refine rl_len sl23 rfl rfl ?_; (try (refine rl_move (v := (Value.int _ _ : Value)) rfl rfl ?_)))))))))
    refine loop1 [(6, 10), (17, 32)] 17 (fun m v wr => ∃ (i : Int), v = .int .i64 i ∧ 0 ≤ i ∧ i ≤ k.len ∧ m = (k.len - i).toNat ∧ Mem w0 wr L V ∧ (∀ j : Nat, (j : Int) < i → k.nth j = l.nth j)) _
      ⟨0, rfl, by omega, by omega, rfl, hM, fun j hj => by omega⟩ ?_
    clear hM
    rintro m τ v w ⟨i, rfl, hi0, hil, rfl, hM, hd⟩ K0 hL0
    by_cases hi : i < k.len
    · have hA' := hA (by omega)
      have hA2' := hA2 (by omega)
      subst hA' hA2'
      obtain ⟨a, ha⟩ := Kd.nth_lt (k := k) (i := i.toNat) (by omega)
      obtain ⟨a2, ha2⟩ := Kd.nth_lt (k := l) (i := i.toNat) (by omega)
      have hasz := (Kd.nth_some ha).2
      obtain ⟨u, hu, hku⟩ := hel _ _ ha
      obtain ⟨u2, hu2, hku2⟩ := hel2 _ _ ha2
      have hr1 := VRow.one hu
      have hr2 := VRow.one hu2
      obtain ⟨_, _, rfl⟩ := hku.shape
      obtain ⟨_, _, rfl⟩ := hku2.shape
      (repeat (first | refine seq_ ?_ | refine sq_normal ?_ | refine rl_nil ?_ | refine cond_t rfl ?_ | refine skip_ ?_ | refine block_ ?_ | (refine region_ (id := 4) ?_; (try ((first | (refine rl_lss_t rfl rfl rfl ?_ ?_; omega) | (refine rl_lss_f rfl rfl rfl ?_ ?_; omega))))) | (refine region_ (id := 5) ?_; (try (refine rl_move (v := (Value.int _ _ : Value)) rfl rfl ?_; (try ((first | (refine rl_idx1 sl23 rfl rfl rfl rfl ?_ ?_ ?_; omega; omega) | (apply rl_idx1 sl23 rfl rfl rfl; assumption; omega; omega)); (try ((first | refine rl_loadAV hM ag25 rfl rfl (by assumption) (by rfl) ?_ | refine rl_loadAM (vs := [_]) 0 hM ag25 rfl rfl rfl rfl rfl ?_ | refine rl_loadAM (vs := [_]) 1 hM ag25 rfl rfl rfl rfl rfl ?_ | refine rl_loadAM (vs := [_]) 2 hM ag25 rfl rfl rfl rfl rfl ?_ | refine rl_loadAM (vs := [_]) 3 hM ag25 rfl rfl rfl rfl rfl ?_ | refine rl_loadAM (vs := [_]) 4 hM ag25 rfl rfl rfl rfl rfl ?_ | refine rl_loadAM (vs := [_]) 5 hM ag25 rfl rfl rfl rfl rfl ?_ | refine rl_loadAM (vs := [_]) 6 hM ag25 rfl rfl rfl rfl rfl ?_ | refine rl_loadAM (vs := [_]) 7 hM ag25 rfl rfl rfl rfl rfl ?_); (try ((refine rl_allocAM (d := 8) hM ag25 rfl ?_; clear hM; intro w b8 hM); (try (refine rl_assign (v := (Value.int _ _ : Value)) rfl rfl ?_; (try ((first | (refine rl_storeWM 0 hM ag25 rfl rfl rfl rfl rfl rfl rfl ?_; clear hM; intro w hM) | (refine rl_storeWM 1 hM ag25 rfl rfl rfl rfl rfl rfl rfl ?_; clear hM; intro w hM) | (refine rl_storeWM 2 hM ag25 rfl rfl rfl rfl rfl rfl rfl ?_; clear hM; intro w hM) | (refine rl_storeWM 3 hM ag25 rfl rfl rfl rfl rfl rfl rfl ?_; clear hM; intro w hM) | (refine rl_storeWM 4 hM ag25 rfl rfl rfl rfl rfl rfl rfl ?_; clear hM; intro w hM) | (refine rl_storeWM 5 hM ag25 rfl rfl rfl rfl rfl rfl rfl ?_; clear hM; intro w hM) | (refine rl_storeWM 6 hM ag25 rfl rfl rfl rfl rfl rfl rfl ?_; clear hM; intro w hM) | (refine rl_storeWM 7 hM ag25 rfl rfl rfl rfl rfl rfl rfl ?_; clear hM; intro w hM))))))))))))))) | (refine region_ (id := 6) ?_; (try (refine rl_move (v := (Value.slice _ _ _ : Value)) rfl rfl ?_; (try (refine rl_move (v := (Value.int _ _ : Value)) rfl rfl ?_; (try ((first | (refine rl_idx1 sl23 rfl rfl rfl rfl ?_ ?_ ?_; omega; omega) | (apply rl_idx1 sl23 rfl rfl rfl; assumption; omega; omega)); (try ((first | refine rl_loadAV hM ag25 rfl rfl (by assumption) (by rfl) ?_ | refine rl_loadAM (vs := [_]) 0 hM ag25 rfl rfl rfl rfl rfl ?_ | refine rl_loadAM (vs := [_]) 1 hM ag25 rfl rfl rfl rfl rfl ?_ | refine rl_loadAM (vs := [_]) 2 hM ag25 rfl rfl rfl rfl rfl ?_ | refine rl_loadAM (vs := [_]) 3 hM ag25 rfl rfl rfl rfl rfl ?_ | refine rl_loadAM (vs := [_]) 4 hM ag25 rfl rfl rfl rfl rfl ?_ | refine rl_loadAM (vs := [_]) 5 hM ag25 rfl rfl rfl rfl rfl ?_ | refine rl_loadAM (vs := [_]) 6 hM ag25 rfl rfl rfl rfl rfl ?_ | refine rl_loadAM (vs := [_]) 7 hM ag25 rfl rfl rfl rfl rfl ?_); (try ((refine rl_allocAM (d := 9) hM ag25 rfl ?_; clear hM; intro w b9 hM); (try ((first | (refine rl_storeWM 0 hM ag25 rfl rfl rfl rfl rfl rfl rfl ?_; clear hM; intro w hM) | (refine rl_storeWM 1 hM ag25 rfl rfl rfl rfl rfl rfl rfl ?_; clear hM; intro w hM) | (refine rl_storeWM 2 hM ag25 rfl rfl rfl rfl rfl rfl rfl ?_; clear hM; intro w hM) | (refine rl_storeWM 3 hM ag25 rfl rfl rfl rfl rfl rfl rfl ?_; clear hM; intro w hM) | (refine rl_storeWM 4 hM ag25 rfl rfl rfl rfl rfl rfl rfl ?_; clear hM; intro w hM) | (refine rl_storeWM 5 hM ag25 rfl rfl rfl rfl rfl rfl rfl ?_; clear hM; intro w hM) | (refine rl_storeWM 6 hM ag25 rfl rfl rfl rfl rfl rfl rfl ?_; clear hM; intro w hM) | (refine rl_storeWM 7 hM ag25 rfl rfl rfl rfl rfl rfl rfl ?_; clear hM; intro w hM))))))))))))))) | (refine region_ (id := 7) ?_; (try ((first | refine rl_move (v := (Value.func _ _ _ : Value)) rfl rfl ?_ | refine rl_move (v := (Value.nilFunc : Value)) rfl rfl ?_); (try ((first | refine rl_loadAV hM ag25 rfl rfl (by assumption) (by rfl) ?_ | refine rl_loadAM (vs := [_]) 0 hM ag25 rfl rfl rfl rfl rfl ?_ | refine rl_loadAM (vs := [_]) 1 hM ag25 rfl rfl rfl rfl rfl ?_ | refine rl_loadAM (vs := [_]) 2 hM ag25 rfl rfl rfl rfl rfl ?_ | refine rl_loadAM (vs := [_]) 3 hM ag25 rfl rfl rfl rfl rfl ?_ | refine rl_loadAM (vs := [_]) 4 hM ag25 rfl rfl rfl rfl rfl ?_ | refine rl_loadAM (vs := [_]) 5 hM ag25 rfl rfl rfl rfl rfl ?_ | refine rl_loadAM (vs := [_]) 6 hM ag25 rfl rfl rfl rfl rfl ?_ | refine rl_loadAM (vs := [_]) 7 hM ag25 rfl rfl rfl rfl rfl ?_); (try ((first | refine rl_loadAV hM ag25 rfl rfl (by assumption) (by rfl) ?_ | refine rl_loadAM (vs := [_]) 0 hM ag25 rfl rfl rfl rfl rfl ?_ | refine rl_loadAM (vs := [_]) 1 hM ag25 rfl rfl rfl rfl rfl ?_ | refine rl_loadAM (vs := [_]) 2 hM ag25 rfl rfl rfl rfl rfl ?_ | refine rl_loadAM (vs := [_]) 3 hM ag25 rfl rfl rfl rfl rfl ?_ | refine rl_loadAM (vs := [_]) 4 hM ag25 rfl rfl rfl rfl rfl ?_ | refine rl_loadAM (vs := [_]) 5 hM ag25 rfl rfl rfl rfl rfl ?_ | refine rl_loadAM (vs := [_]) 6 hM ag25 rfl rfl rfl rfl rfl ?_ | refine rl_loadAM (vs := [_]) 7 hM ag25 rfl rfl rfl rfl rfl ?_))))))))))
      refine rl_callv fn21 (cap := []) (ih a a2 (by omega) w0 w _ V _ _ hM hku hku2) rfl rfl rfl ?_
      clear hM
      rintro _ w ⟨rfl, hM⟩
      replace hM : Mem w0 w L V := hM.dropn 2
      cases hs : a.same a2 with
      | true =>
        have := Kd.same_iff.1 hs
        subst this
        (repeat (first | refine sq_normal ?_ | refine rl_nil ?_ | refine cond_f rfl ?_ | refine skip_ ?_ | refine inBlock_normal ?_ | (refine region_ (id := 9) ?_; (try ((refine rl_add rfl rfl rfl ?_ ?_ ?_; omega; omega); (try (refine rl_move (v := (Value.int _ _ : Value)) rfl rfl ?_))))) | refine rl_not rfl rfl ?_))
        refine kq_normal (hL0 (k.len - (i + 1)).toNat _ _ (by omega) (by (repeat (first | with_reducible exact Agree.ov | with_reducible exact Agree.refl _ _ | refine Agree.upd rfl ?_ | refine Agree.ovs rfl ?_))) ⟨i + 1, rfl, by omega, by omega, rfl, hM, fun j hj => ?_⟩)
        by_cases hji : j = i.toNat
        · subst hji; rw [ha, ha2]
        · exact hd j (by omega)
      | false =>
        (repeat (first | refine seq_ ?_ | refine sq_normal ?_ | refine sq_ret ?_ | refine rl_nil ?_ | refine cond_t rfl ?_ | refine ret_ ?_ | refine inBlock_ret ?_ | refine kq_ret ?_ | (refine region_ (id := 8) ?_; (try (refine rl_assign (v := (Value.bool _ : Value)) rfl rfl ?_))) | refine rl_not rfl rfl ?_))
        refine bp_ret1 (v := Value.bool _) rfl rfl ⟨?_, hM⟩
        rw [same_false_nth ha ha2 hs]
    · (repeat (first | refine seq_ ?_ | refine sq_normal ?_ | refine sq_exit ?_ | refine rl_nil ?_ | refine cond_f rfl ?_ | refine ret_ ?_ | refine exit_ ?_ | refine inBlock_exit ?_ | refine kq_exit ?_ | (refine region_ (id := 4) ?_; (try ((first | (refine rl_lss_t rfl rfl rfl ?_ ?_; omega) | (refine rl_lss_f rfl rfl rfl ?_ ?_; omega))))) | (refine region_ (id := 10) ?_; (try (refine rl_assign (v := (Value.bool _ : Value)) rfl rfl ?_)))))
      refine bp_ret1 (v := Value.bool _) rfl rfl ⟨?_, hM⟩
      have : k = l := Kd.ext (by omega) (fun j hj => hd j (by omega))
      rw [Kd.same_iff.2 this]
  · (repeat (first | refine seq_ ?_ | refine sq_normal ?_ | refine sq_ret ?_ | refine rl_nil ?_ | refine cond_t rfl ?_ | refine ret_ ?_ | (refine region_ (id := 0) ?_; (try (refine rl_assign (v := (Value.bool _ : Value)) rfl rfl ?_))) | (refine region_ (id := 1) ?_; (try (refine rl_move (v := (Value.slice _ _ _ : Value)) rfl rfl ?_; (try (refine rl_len sl23 rfl rfl ?_; (try (refine rl_move (v := (Value.slice _ _ _ : Value)) rfl rfl ?_; (try (refine rl_len sl23 rfl rfl ?_; (try ((first | (refine rl_neq_t rfl rfl rfl ?_ ?_; omega) | (refine rl_neq_f rfl rfl rfl ?_ ?_; omega))))))))))))) | (refine region_ (id := 2) ?_; (try (refine rl_assign (v := (Value.bool _ : Value)) rfl rfl ?_)))))
    refine bp_ret1 (v := Value.bool _) rfl rfl ⟨?_, hM⟩
    rw [same_false_len (by omega)]
theorem same_ok : ∀ (n : Nat) (k l : Kd), k.sz < n → ∀ (w0 w : World) (L : List Ent) (V : Vw) (v u : Value), Mem w0 w L V → KSl V v k → KSl V u l →
    CallsOk Try.prog 21 #[.agg #[v], .agg #[u]] w fun r w' => r = .bool (k.same l) ∧ Mem w0 w' L V := by
  intro n
  induction n with
  | zero => intro k l hn; omega
  | succ n ih =>
  intro k l hn w0 w L V v u hM hk hl
  obtain ⟨_, _, rfl⟩ := hk.shape
  obtain ⟨_, _, rfl⟩ := hl.shape
  refine enter_ (N := 10) Try.func21 rfl rfl rfl ?_
  (repeat (first | refine seq_ ?_ | refine sq_normal ?_ | refine rl_nil ?_ | (refine region_ (id := 0) ?_; (try ((refine rl_boxAM (d := 2) hM rfl rfl ?_; clear hM; intro w b2 hM); (try ((refine rl_boxAM (d := 3) hM rfl rfl ?_; clear hM; intro w b3 hM); (try (refine rl_assign (v := (Value.bool _ : Value)) rfl rfl ?_))))))) | (refine region_ (id := 1) ?_; (try (refine rl_fld fd25_0 rfl rfl ?_; (try ((first | refine rl_loadV hM vt23 rfl rfl (by first | assumption | exact VRow.get (by assumption) rfl | exact VRow.get0 (by assumption) rfl) ?_ | refine rl_loadM 0 hM vt23 rfl rfl rfl (by first | rfl | assumption) ?_ | refine rl_loadM 1 hM vt23 rfl rfl rfl (by first | rfl | assumption) ?_ | refine rl_loadM 2 hM vt23 rfl rfl rfl (by first | rfl | assumption) ?_ | refine rl_loadM 3 hM vt23 rfl rfl rfl (by first | rfl | assumption) ?_ | refine rl_loadM 4 hM vt23 rfl rfl rfl (by first | rfl | assumption) ?_ | refine rl_loadM 5 hM vt23 rfl rfl rfl (by first | rfl | assumption) ?_ | refine rl_loadM 6 hM vt23 rfl rfl rfl (by first | rfl | assumption) ?_ | refine rl_loadM 7 hM vt23 rfl rfl rfl (by first | rfl | assumption) ?_); (try (refine rl_fld fd25_0 rfl rfl ?_; (try ((first | refine rl_loadV hM vt23 rfl rfl (by first | assumption | exact VRow.get (by assumption) rfl | exact VRow.get0 (by assumption) rfl) ?_ | refine rl_loadM 0 hM vt23 rfl rfl rfl (by first | rfl | assumption) ?_ | refine rl_loadM 1 hM vt23 rfl rfl rfl (by first | rfl | assumption) ?_ | refine rl_loadM 2 hM vt23 rfl rfl rfl (by first | rfl | assumption) ?_ | refine rl_loadM 3 hM vt23 rfl rfl rfl (by first | rfl | assumption) ?_ | refine rl_loadM 4 hM vt23 rfl rfl rfl (by first | rfl | assumption) ?_ | refine rl_loadM 5 hM vt23 rfl rfl rfl (by first | rfl | assumption) ?_ | refine rl_loadM 6 hM vt23 rfl rfl rfl (by first | rfl | assumption) ?_ | refine rl_loadM 7 hM vt23 rfl rfl rfl (by first | rfl | assumption) ?_))))))))))))
  refine rl_callf fn40 (eqfunc_ok n ih k l hn w0 w _ V _ _ hM hk hl) rfl rfl ?_
  clear hM
  rintro _ w ⟨rfl, hM⟩
  (repeat (first | refine sq_normal ?_ | refine rl_nil ?_ | refine ret_ ?_ | refine rl_assign (v := (Value.bool _ : Value)) rfl rfl ?_))
  exact bp_ret1 (v := Value.bool _) rfl rfl ⟨rfl, hM.dropn 2⟩
set_option maxHeartbeats 2000000 in
theorem own_ok : ∀ (n : Nat) (k : Kd), k.sz < n → ∀ (w0 w : World) (L : List Ent) (V : Vw) (v : Value), Mem w0 w L V → KSl V v k → k.sz ≤ 10000000 →
    CallsOk Try.prog 39 #[.agg #[v]] w fun r w' => ∃ V' v', VLe V V' ∧ Mem w0 w' L V' ∧ r = .agg #[v'] ∧ KSl V' v' k := by
  intro n
  induction n with
  | zero => intro k hn; omega
  | succ n ih =>
  intro k hn w0 w L V v hM hk hsz
  have hml := maxLen_le
  have hmx : 10000000 ≤ maxLen := by unfold maxLen; omega
  have hlen := Kd.len_le_sz k
  have hk' := hk
  obtain ⟨A, c, b, off, rfl, hlc, hcm, hA, hkel⟩ := hk
  obtain ⟨us, hul, hus, hun⟩ := hkel.list
  refine enter_ (N := 34) Try.func39 rfl rfl rfl ?_
  by_cases h0 : (k.len : Int) = 0
  · have : k = .nil := Kd.len_zero (by omega)
    subst this
    (repeat (first | refine seq_ ?_ | refine sq_normal ?_ | refine sq_ret ?_ | refine rl_nil ?_ | refine cond_t rfl ?_ | refine ret_ ?_ | (refine region_ (id := 0) ?_; (try ((refine rl_boxAM (d := 1) hM rfl rfl ?_; clear hM; intro w b1 hM); (try ((refine rl_allocAM (d := 2) hM ag25 rfl ?_; clear hM; intro w b2 hM)))))) | (refine region_ (id := 1) ?_; (try (refine rl_fld fd25_0 rfl rfl ?_; (try ((first | refine rl_loadV hM vt23 rfl rfl (by first | assumption | exact VRow.get (by assumption) rfl | exact VRow.get0 (by assumption) rfl) ?_ | refine rl_loadM 0 hM vt23 rfl rfl rfl (by first | rfl | assumption) ?_ | refine rl_loadM 1 hM vt23 rfl rfl rfl (by first | rfl | assumption) ?_ | refine rl_loadM 2 hM vt23 rfl rfl rfl (by first | rfl | assumption) ?_ | refine rl_loadM 3 hM vt23 rfl rfl rfl (by first | rfl | assumption) ?_ | refine rl_loadM 4 hM vt23 rfl rfl rfl (by first | rfl | assumption) ?_ | refine rl_loadM 5 hM vt23 rfl rfl rfl (by first | rfl | assumption) ?_ | refine rl_loadM 6 hM vt23 rfl rfl rfl (by first | rfl | assumption) ?_ | refine rl_loadM 7 hM vt23 rfl rfl rfl (by first | rfl | assumption) ?_); (try (refine rl_len sl23 rfl rfl ?_; (try ((first | (refine rl_eql_t rfl rfl rfl ?_ ?_; omega) | (refine rl_eql_f rfl rfl rfl ?_ ?_; omega))))))))))) | (refine region_ (id := 2) ?_; (try (refine rl_build [(Value.slice none 0 0)] ag25 pl25 rfl rfl rfl ?_; (try ((first | (refine rl_storeWM 0 hM ag25 rfl rfl rfl rfl rfl rfl rfl ?_; clear hM; intro w hM) | (refine rl_storeWM 1 hM ag25 rfl rfl rfl rfl rfl rfl rfl ?_; clear hM; intro w hM) | (refine rl_storeWM 2 hM ag25 rfl rfl rfl rfl rfl rfl rfl ?_; clear hM; intro w hM) | (refine rl_storeWM 3 hM ag25 rfl rfl rfl rfl rfl rfl rfl ?_; clear hM; intro w hM) | (refine rl_storeWM 4 hM ag25 rfl rfl rfl rfl rfl rfl rfl ?_; clear hM; intro w hM) | (refine rl_storeWM 5 hM ag25 rfl rfl rfl rfl rfl rfl rfl ?_; clear hM; intro w hM) | (refine rl_storeWM 6 hM ag25 rfl rfl rfl rfl rfl rfl rfl ?_; clear hM; intro w hM) | (refine rl_storeWM 7 hM ag25 rfl rfl rfl rfl rfl rfl rfl ?_; clear hM; intro w hM)))))))))
    exact bp_x1 rfl rfl (res_M 0 hM ag25 rfl rfl rfl) ⟨V, _, VLe.refl _, hM.dropn 2, rfl, KSl.nil _ _ (Nat.zero_le _)⟩
  · have hA' := hA (by omega)
    subst hA'
    (repeat (first | refine seq_ ?_ | refine sq_normal ?_ | refine rl_nil ?_ | refine cond_f rfl ?_ | refine skip_ ?_ | (refine region_ (id := 0) ?_; (try ((refine rl_boxAM (d := 1) hM rfl rfl ?_; clear hM; intro w b1 hM); (try ((refine rl_allocAM (d := 2) hM ag25 rfl ?_; clear hM; intro w b2 hM)))))) | (refine region_ (id := 1) ?_; (try (refine rl_fld fd25_0 rfl rfl ?_; (try ((first | refine rl_loadV hM vt23 rfl rfl (by first | assumption | exact VRow.get (by assumption) rfl | exact VRow.get0 (by assumption) rfl) ?_ | refine rl_loadM 0 hM vt23 rfl rfl rfl (by first | rfl | assumption) ?_ | refine rl_loadM 1 hM vt23 rfl rfl rfl (by first | rfl | assumption) ?_ | refine rl_loadM 2 hM vt23 rfl rfl rfl (by first | rfl | assumption) ?_ | refine rl_loadM 3 hM vt23 rfl rfl rfl (by first | rfl | assumption) ?_ | refine rl_loadM 4 hM vt23 rfl rfl rfl (by first | rfl | assumption) ?_ | refine rl_loadM 5 hM vt23 rfl rfl rfl (by first | rfl | assumption) ?_ | refine rl_loadM 6 hM vt23 rfl rfl rfl (by first | rfl | assumption) ?_ | refine rl_loadM 7 hM vt23 rfl rfl rfl (by first | rfl | assumption) ?_); (try (refine rl_len sl23 rfl rfl ?_; (try ((first | (refine rl_eql_t rfl rfl rfl ?_ ?_; omega) | (refine rl_eql_f rfl rfl rfl ?_ ?_; omega))))))))))) | (refine region_ (id := 3) ?_; (try (refine rl_fld fd25_0 rfl rfl ?_; (try ((first | refine rl_loadV hM vt23 rfl rfl (by first | assumption | exact VRow.get (by assumption) rfl | exact VRow.get0 (by assumption) rfl) ?_ | refine rl_loadM 0 hM vt23 rfl rfl rfl (by first | rfl | assumption) ?_ | refine rl_loadM 1 hM vt23 rfl rfl rfl (by first | rfl | assumption) ?_ | refine rl_loadM 2 hM vt23 rfl rfl rfl (by first | rfl | assumption) ?_ | refine rl_loadM 3 hM vt23 rfl rfl rfl (by first | rfl | assumption) ?_ | refine rl_loadM 4 hM vt23 rfl rfl rfl (by first | rfl | assumption) ?_ | refine rl_loadM 5 hM vt23 rfl rfl rfl (by first | rfl | assumption) ?_ | refine rl_loadM 6 hM vt23 rfl rfl rfl (by first | rfl | assumption) ?_ | refine rl_loadM 7 hM vt23 rfl rfl rfl (by first | rfl | assumption) ?_); (try (refine rl_len sl23 rfl rfl ?_)))))))))
    refine rl_makeM hM sl23 rfl rfl rfl ?_ ?_ ?_ ?_
    · omega
    · omega
    · omega
    clear hM
    intro w bm hM
    (repeat (first | refine seq_ ?_ | refine sq_normal ?_ | refine rl_nil ?_ | (refine region_ (id := 4) ?_; (try (refine rl_move (v := (Value.slice _ _ _ : Value)) rfl rfl ?_; (try (refine rl_fld fd25_0 rfl rfl ?_; (try ((first | refine rl_loadV hM vt23 rfl rfl (by first | assumption | exact VRow.get (by assumption) rfl | exact VRow.get0 (by assumption) rfl) ?_ | refine rl_loadM 0 hM vt23 rfl rfl rfl (by first | rfl | assumption) ?_ | refine rl_loadM 1 hM vt23 rfl rfl rfl (by first | rfl | assumption) ?_ | refine rl_loadM 2 hM vt23 rfl rfl rfl (by first | rfl | assumption) ?_ | refine rl_loadM 3 hM vt23 rfl rfl rfl (by first | rfl | assumption) ?_ | refine rl_loadM 4 hM vt23 rfl rfl rfl (by first | rfl | assumption) ?_ | refine rl_loadM 5 hM vt23 rfl rfl rfl (by first | rfl | assumption) ?_ | refine rl_loadM 6 hM vt23 rfl rfl rfl (by first | rfl | assumption) ?_ | refine rl_loadM 7 hM vt23 rfl rfl rfl (by first | rfl | assumption) ?_)))))))) | refine rl_assign (v := (Value.slice _ _ _ : Value)) rfl rfl ?_))
    refine rl_copyM 0 (news := us) (B := b) (off := off) hM sl23 rfl rfl rfl (fun _ => rfl) (by omega) (fun j u hj => hM.view (hus j u hj).1) ?_ ?_ rfl ?_ ?_
    · intro u hu
      obtain ⟨j, hj⟩ := List.mem_iff_getElem?.1 hu
      exact (hus j u hj).2
    · omega
    · simp
    clear hM
    intro w hM
    have e1 : us ++ (List.replicate (k.len : Int).toNat (Value.slice none 0 0)).drop us.length = us := by
      rw [List.drop_of_length_le (by simp; omega), List.append_nil]
    have hM : Mem w0 w (.blk bm us 25 :: .blk b2 [.slice none 0 0] 25 :: .blk b1 [.slice (some ⟨b, off, none⟩) k.len c] 25 :: L) V := by
      have h := hM
      rw [e1] at h
      exact h
    (repeat (first | refine seq_ ?_ | refine sq_normal ?_ | refine rl_nil ?_ | refine block_ ?_ | (refine region_ (id := 5) ?_; (try (refine rl_move (v := (Value.slice _ _ _ : Value)) rfl rfl ?_; (try (refine rl_len sl23 rfl rfl ?_; (try (refine rl_move (v := (Value.int _ _ : Value)) rfl rfl ?_)))))))))
    refine loop1 [(4, 5), (20, 32)] 20 (fun m v wr => ∃ (i : Int) (cs : List Value) (V1 : Vw), v = .int .i64 i ∧ 0 ≤ i ∧ i ≤ k.len ∧ m = (k.len - i).toNat ∧ VLe V V1 ∧ Mem w0 wr (.blk bm cs 25 :: .blk b2 [.slice none 0 0] 25 :: .blk b1 [.slice (some ⟨b, off, none⟩) k.len c] 25 :: L) V1 ∧
        cs.length = k.len ∧ (∀ (j : Nat) a, k.nth j = some a → ∃ u, cs[j]? = some u ∧ KSl V1 u a)) _
      ⟨0, us, V, rfl, by omega, by omega, rfl, VLe.refl _, hM, hul, hun⟩ ?_
    clear hM
    rintro m τ v w ⟨i, cs, V1, rfl, hi0, hil, rfl, hV1, hM, hcl, hcs⟩ K0 hL0
    by_cases hi : i < k.len
    · obtain ⟨a, ha⟩ := Kd.nth_lt (k := k) (i := i.toNat) (by omega)
      have hasz := (Kd.nth_some ha).2
      obtain ⟨u, hu, hku⟩ := hcs _ _ ha
      (repeat (first | refine seq_ ?_ | refine sq_normal ?_ | refine rl_nil ?_ | refine cond_t rfl ?_ | refine skip_ ?_ | refine block_ ?_ | (refine region_ (id := 6) ?_; (try ((first | (refine rl_lss_t rfl rfl rfl ?_ ?_; omega) | (refine rl_lss_f rfl rfl rfl ?_ ?_; omega))))) | (refine region_ (id := 7) ?_; (try (refine rl_move (v := (Value.int _ _ : Value)) rfl rfl ?_; (try (refine rl_assign (v := (Value.int _ _ : Value)) rfl rfl ?_))))) | (refine region_ (id := 8) ?_; (try (refine rl_move (v := (Value.slice _ _ _ : Value)) rfl rfl ?_; (try (refine rl_move (v := (Value.int _ _ : Value)) rfl rfl ?_; (try (refine rl_move (v := (Value.slice _ _ _ : Value)) rfl rfl ?_; (try (refine rl_move (v := (Value.int _ _ : Value)) rfl rfl ?_; (try ((first | (refine rl_idx1 sl23 rfl rfl rfl rfl ?_ ?_ ?_; omega; omega) | (apply rl_idx1 sl23 rfl rfl rfl; assumption; omega; omega)); (try ((first | refine rl_loadAV hM ag25 rfl rfl (by assumption) (by rfl) ?_ | refine rl_loadAM (vs := [_]) 0 hM ag25 rfl rfl rfl rfl rfl ?_ | refine rl_loadAM (vs := [_]) 1 hM ag25 rfl rfl rfl rfl rfl ?_ | refine rl_loadAM (vs := [_]) 2 hM ag25 rfl rfl rfl rfl rfl ?_ | refine rl_loadAM (vs := [_]) 3 hM ag25 rfl rfl rfl rfl rfl ?_ | refine rl_loadAM (vs := [_]) 4 hM ag25 rfl rfl rfl rfl rfl ?_ | refine rl_loadAM (vs := [_]) 5 hM ag25 rfl rfl rfl rfl rfl ?_ | refine rl_loadAM (vs := [_]) 6 hM ag25 rfl rfl rfl rfl rfl ?_ | refine rl_loadAM (vs := [_]) 7 hM ag25 rfl rfl rfl rfl rfl ?_))))))))))))))))
      refine rl_loadAM (vs := [u]) 0 hM ag25 rfl rfl rfl ?_ rfl ?_
      · rw [Nat.zero_add]
        apply List.ext_getElem?
        intro j
        rw [List.getElem?_take]
        cases j with
        | zero => simp [hu]
        | succ j => rw [if_neg (by omega)]; simp
      refine rl_callf fn39 (ih a (by omega) w0 w _ V1 _ hM hku (by omega)) rfl rfl ?_
      clear hM
      rintro _ w ⟨V2, v', hV2, hM, rfl, hkv⟩
      obtain ⟨A3, c3, rfl⟩ := hkv.shape
      (repeat (first | (first | (refine rl_idx1 sl23 rfl rfl rfl rfl ?_ ?_ ?_; omega; omega) | (apply rl_idx1 sl23 rfl rfl rfl; assumption; omega; omega))))
      refine rl_storeAM 0 hM ag25 rfl rfl rfl rfl rfl rfl ?_ ?_
      · omega
      clear hM
      intro w hM
      (repeat (first | refine sq_normal ?_ | refine rl_nil ?_ | refine inBlock_normal ?_ | (refine region_ (id := 9) ?_; (try ((refine rl_add rfl rfl rfl ?_ ?_ ?_; omega; omega); (try (refine rl_move (v := (Value.int _ _ : Value)) rfl rfl ?_)))))))
      have e2 : cs.take (0 + i.toNat) ++ [Value.slice A3 a.len c3] ++ cs.drop (0 + i.toNat + 1) = cs.set i.toNat (Value.slice A3 a.len c3) := by
        rw [Nat.zero_add, List.set_eq_take_append_cons_drop, if_pos (by omega)]
        simp
      have hM : Mem w0 w (.blk bm (cs.set i.toNat (Value.slice A3 a.len c3)) 25 :: .blk b2 [.slice none 0 0] 25 :: .blk b1 [.slice (some ⟨b, off, none⟩) k.len c] 25 :: L) V2 := by
        have h := hM
        have e3 : ([Value.slice A3 a.len c3] : List Value).length = 1 := rfl
        rw [e3, e2] at h
        exact h
      refine kq_normal (hL0 (k.len - (i + 1)).toNat _ _ (by omega) (by (repeat (first | with_reducible exact Agree.ov | with_reducible exact Agree.refl _ _ | refine Agree.upd rfl ?_ | refine Agree.ovs rfl ?_))) ⟨i + 1, _, V2, rfl, by omega, by omega, rfl, hV1.trans hV2, hM, by simpa using hcl, fun j a' hj => ?_⟩)
      by_cases hji : i.toNat = j
      · subst hji
        rw [ha] at hj
        cases hj
        exact ⟨_, List.getElem?_set_self (by omega), hkv⟩
      · obtain ⟨u', h1, h2⟩ := hcs j a' hj
        exact ⟨u', by rw [List.getElem?_set_ne hji]; exact h1, h2.le hV2⟩
    · (repeat (first | refine seq_ ?_ | refine sq_normal ?_ | refine sq_exit ?_ | refine rl_nil ?_ | refine cond_f rfl ?_ | refine ret_ ?_ | refine exit_ ?_ | refine inBlock_exit ?_ | refine kq_exit ?_ | (refine region_ (id := 6) ?_; (try ((first | (refine rl_lss_t rfl rfl rfl ?_ ?_; omega) | (refine rl_lss_f rfl rfl rfl ?_ ?_; omega))))) | (refine region_ (id := 10) ?_; (try (refine rl_move (v := (Value.slice _ _ _ : Value)) rfl rfl ?_; (try (refine rl_build [_] ag25 pl25 rfl rfl rfl ?_; (try ((first | (refine rl_storeWM 0 hM ag25 rfl rfl rfl rfl rfl rfl rfl ?_; clear hM; intro w hM) | (refine rl_storeWM 1 hM ag25 rfl rfl rfl rfl rfl rfl rfl ?_; clear hM; intro w hM) | (refine rl_storeWM 2 hM ag25 rfl rfl rfl rfl rfl rfl rfl ?_; clear hM; intro w hM) | (refine rl_storeWM 3 hM ag25 rfl rfl rfl rfl rfl rfl rfl ?_; clear hM; intro w hM) | (refine rl_storeWM 4 hM ag25 rfl rfl rfl rfl rfl rfl rfl ?_; clear hM; intro w hM) | (refine rl_storeWM 5 hM ag25 rfl rfl rfl rfl rfl rfl rfl ?_; clear hM; intro w hM) | (refine rl_storeWM 6 hM ag25 rfl rfl rfl rfl rfl rfl rfl ?_; clear hM; intro w hM) | (refine rl_storeWM 7 hM ag25 rfl rfl rfl rfl rfl rfl rfl ?_; clear hM; intro w hM)))))))))))
      obtain ⟨V2, hV2, hM2, hcell⟩ := hM.freezeBlk
      refine bp_x1 rfl rfl (res_M 1 hM ag25 rfl rfl rfl) ⟨V2, _, hV1.trans hV2, hM2.dropn 2, rfl, ?_⟩
      refine KSl.of (b := bm) (off := 0) (by omega) (by omega) (by omega) (fun _ => rfl) (fun j a hj => ?_)
      obtain ⟨u, h1, h2⟩ := hcs j a hj
      exact ⟨u, by rw [Nat.zero_add]; exact hcell j u h1, h2.le hV2⟩
theorem star_ok (w0 w : World) (L : List Ent) (V : Vw) (hM : Mem w0 w L V) : CallsOk Try.prog 20 #[] w fun r w' => Mem w0 w' L V ∧ r = .agg #[.slice none 0 0] := by
  refine enter_ (N := 2) (args := []) Try.func20 rfl rfl rfl ?_
  (repeat (first | refine seq_ ?_ | refine sq_normal ?_ | refine rl_nil ?_ | refine ret_ ?_ | (refine region_ (id := 0) ?_; (try ((refine rl_allocAM (d := 0) hM ag25 rfl ?_; clear hM; intro w b0 hM)))) | (refine region_ (id := 1) ?_; (try (refine rl_build [(Value.slice none 0 0)] ag25 pl25 rfl rfl rfl ?_; (try ((first | (refine rl_storeWM 0 hM ag25 rfl rfl rfl rfl rfl rfl rfl ?_; clear hM; intro w hM) | (refine rl_storeWM 1 hM ag25 rfl rfl rfl rfl rfl rfl rfl ?_; clear hM; intro w hM) | (refine rl_storeWM 2 hM ag25 rfl rfl rfl rfl rfl rfl rfl ?_; clear hM; intro w hM) | (refine rl_storeWM 3 hM ag25 rfl rfl rfl rfl rfl rfl rfl ?_; clear hM; intro w hM) | (refine rl_storeWM 4 hM ag25 rfl rfl rfl rfl rfl rfl rfl ?_; clear hM; intro w hM) | (refine rl_storeWM 5 hM ag25 rfl rfl rfl rfl rfl rfl rfl ?_; clear hM; intro w hM) | (refine rl_storeWM 6 hM ag25 rfl rfl rfl rfl rfl rfl rfl ?_; clear hM; intro w hM) | (refine rl_storeWM 7 hM ag25 rfl rfl rfl rfl rfl rfl rfl ?_; clear hM; intro w hM)))))))))
  exact bp_x1 rfl rfl (res_M 0 hM ag25 rfl rfl rfl) ⟨hM.dropn 1, rfl⟩
set_option maxHeartbeats 1000000 in
theorem arrow_ok (a k : Kd) (w0 w : World) (L : List Ent) (V : Vw) (v u : Value) (hM : Mem w0 w L V) (ha : KSl V v a) (hk : KSl V u k) (hs1 : a.sz ≤ 1000000) (hs2 : k.sz ≤ 1000000) :
    CallsOk Try.prog 19 #[.agg #[v], .agg #[u]] w fun r w' => ∃ V' v', VLe V V' ∧ Mem w0 w' L V' ∧ r = .agg #[v'] ∧ KSl V' v' (.cons a k) := by
  have hml := maxLen_le
  have hmx : 10000000 ≤ maxLen := by unfold maxLen; omega
  have hlk := Kd.len_le_sz k
  obtain ⟨A1, c1, b', o', rfl, g1, g2, g3, hael⟩ := ha
  obtain ⟨A, c, b, off, rfl, hlc, hcm, hA, hkel⟩ := hk
  obtain ⟨us, hul, hus, hun⟩ := hkel.list
  refine enter_ (N := 12) Try.func19 rfl rfl rfl ?_
  (repeat (first | refine seq_ ?_ | refine sq_normal ?_ | refine rl_nil ?_ | (refine region_ (id := 0) ?_; (try ((refine rl_boxAM (d := 2) hM rfl rfl ?_; clear hM; intro w b2 hM); (try ((refine rl_boxAM (d := 3) hM rfl rfl ?_; clear hM; intro w b3 hM); (try ((refine rl_allocAM (d := 4) hM ag25 rfl ?_; clear hM; intro w b4 hM)))))))) | (refine region_ (id := 1) ?_; (try ((first | refine rl_loadAV hM ag25 rfl rfl (by assumption) (by rfl) ?_ | refine rl_loadAM (vs := [_]) 0 hM ag25 rfl rfl rfl rfl rfl ?_ | refine rl_loadAM (vs := [_]) 1 hM ag25 rfl rfl rfl rfl rfl ?_ | refine rl_loadAM (vs := [_]) 2 hM ag25 rfl rfl rfl rfl rfl ?_ | refine rl_loadAM (vs := [_]) 3 hM ag25 rfl rfl rfl rfl rfl ?_ | refine rl_loadAM (vs := [_]) 4 hM ag25 rfl rfl rfl rfl rfl ?_ | refine rl_loadAM (vs := [_]) 5 hM ag25 rfl rfl rfl rfl rfl ?_ | refine rl_loadAM (vs := [_]) 6 hM ag25 rfl rfl rfl rfl rfl ?_ | refine rl_loadAM (vs := [_]) 7 hM ag25 rfl rfl rfl rfl rfl ?_); (try ((refine rl_bsliceM (d := 6) [_] hM sl23 rfl rfl rfl rfl rfl (by decide) (by decide) ?_; clear hM; intro w b6 hM); (try (refine rl_fld fd25_0 rfl rfl ?_; (try ((first | refine rl_loadV hM vt23 rfl rfl (by first | assumption | exact VRow.get (by assumption) rfl | exact VRow.get0 (by assumption) rfl) ?_ | refine rl_loadM 0 hM vt23 rfl rfl rfl (by first | rfl | assumption) ?_ | refine rl_loadM 1 hM vt23 rfl rfl rfl (by first | rfl | assumption) ?_ | refine rl_loadM 2 hM vt23 rfl rfl rfl (by first | rfl | assumption) ?_ | refine rl_loadM 3 hM vt23 rfl rfl rfl (by first | rfl | assumption) ?_ | refine rl_loadM 4 hM vt23 rfl rfl rfl (by first | rfl | assumption) ?_ | refine rl_loadM 5 hM vt23 rfl rfl rfl (by first | rfl | assumption) ?_ | refine rl_loadM 6 hM vt23 rfl rfl rfl (by first | rfl | assumption) ?_ | refine rl_loadM 7 hM vt23 rfl rfl rfl (by first | rfl | assumption) ?_))))))))))))
  have hM := hM.asOwn (n := 1) (sz := 1) 0 rfl rfl (by omega)
  refine rl_appendM 0 (news := us) (B := b) (off := off) hM sl23 rfl (by decide) rfl (fun j u hj => hM.view (hus j u hj).1) rfl rfl rfl hA (by omega) ?_ ?_ ?_ ?_
  · intro u hu
    obtain ⟨j, hj⟩ := List.mem_iff_getElem?.1 hu
    exact (hus j u hj).2
  · omega
  · omega
  clear hM
  intro w a' c' hc1 hc2 hM
  (repeat (first | refine rl_build [_] ag25 pl25 rfl rfl rfl ?_))
  obtain ⟨V2, hV2, hM2, a2, c2, b2', e1, e2, e3, e4, e5⟩ := Mem.freezeOwn hM
  cases e1
  have hkc : KSl V2 (.slice a' (1 + k.len) c') (.cons a k) := by
    refine KSl.of (b := b2') (off := 0) (by simp only [Kd.len]; omega) (by simp only [Kd.len]; omega) hc2 (fun _ => e4 (by omega)) (fun j x hj => ?_)
    cases j with
    | zero =>
      simp only [Kd.nth, Option.some.injEq] at hj
      subst hj
      exact ⟨_, e5 0 _ rfl, ⟨A1, c1, b', o', rfl, g1, g2, g3, hael.le hV2⟩⟩
    | succ j =>
      obtain ⟨u, h1, h2⟩ := hun j x (by simpa [Kd.nth] using hj)
      exact ⟨u, e5 (j + 1) u h1, h2.le hV2⟩
  clear hM
  refine rl_callf fn39 (own_ok _ (.cons a k) (Nat.lt_succ_self _) w0 w _ V2 _ hM2 hkc (by simp only [Kd.sz]; omega)) rfl rfl ?_
  rintro _ w ⟨V3, v', hV3, hM, rfl, hkv⟩
  obtain ⟨A4, c4, rfl⟩ := hkv.shape
  (repeat (first | refine sq_normal ?_ | refine rl_nil ?_ | refine ret_ ?_ | (first | (refine rl_storeWM 0 hM ag25 rfl rfl rfl rfl rfl rfl rfl ?_; clear hM; intro w hM) | (refine rl_storeWM 1 hM ag25 rfl rfl rfl rfl rfl rfl rfl ?_; clear hM; intro w hM) | (refine rl_storeWM 2 hM ag25 rfl rfl rfl rfl rfl rfl rfl ?_; clear hM; intro w hM) | (refine rl_storeWM 3 hM ag25 rfl rfl rfl rfl rfl rfl rfl ?_; clear hM; intro w hM) | (refine rl_storeWM 4 hM ag25 rfl rfl rfl rfl rfl rfl rfl ?_; clear hM; intro w hM) | (refine rl_storeWM 5 hM ag25 rfl rfl rfl rfl rfl rfl rfl ?_; clear hM; intro w hM) | (refine rl_storeWM 6 hM ag25 rfl rfl rfl rfl rfl rfl rfl ?_; clear hM; intro w hM) | (refine rl_storeWM 7 hM ag25 rfl rfl rfl rfl rfl rfl rfl ?_; clear hM; intro w hM))))
  exact bp_x1 rfl rfl (res_M 0 hM ag25 rfl rfl rfl) ⟨V3, _, hV2.trans hV3, hM.dropn 3, rfl, hkv⟩
set_option maxHeartbeats 1000000 in
theorem split_ok (k : Kd) (w0 w : World) (L : List Ent) (V : Vw) (v : Value) (hM : Mem w0 w L V) (hk : KSl V v k) (hs : k.sz ≤ 10000000) :
    CallsOk Try.prog 18 #[.agg #[v]] w fun r w' => ∃ V' v1 v2, VLe V V' ∧ Mem w0 w' L V' ∧ match k with
      | .nil => r = .tuple #[.agg #[v1], .agg #[v2], .bool false] ∧ KSl V' v1 .nil ∧ KSl V' v2 .nil
      | .cons a t => r = .tuple #[.agg #[v1], .agg #[v2], .bool true] ∧ KSl V' v1 a ∧ KSl V' v2 t := by
  have hml := maxLen_le
  obtain ⟨A, c, b, off, rfl, hlc, hcm, hA, hel⟩ := hk.open
  refine enter_ (N := 21) Try.func18 rfl rfl rfl ?_
  cases k with
  | nil =>
    have hq0 : ((Kd.nil.len : Nat) : Int) = 0 := rfl
    (repeat (first | refine seq_ ?_ | refine sq_normal ?_ | refine sq_ret ?_ | refine rl_nil ?_ | refine cond_t rfl ?_ | refine ret_ ?_ | (refine region_ (id := 0) ?_; (try ((refine rl_boxAM (d := 1) hM rfl rfl ?_; clear hM; intro w b1 hM); (try ((refine rl_allocAM (d := 2) hM ag25 rfl ?_; clear hM; intro w b2 hM); (try ((refine rl_allocAM (d := 3) hM ag25 rfl ?_; clear hM; intro w b3 hM); (try (refine rl_assign (v := (Value.bool _ : Value)) rfl rfl ?_))))))))) | (refine region_ (id := 1) ?_; (try (refine rl_fld fd25_0 rfl rfl ?_; (try ((first | refine rl_loadV hM vt23 rfl rfl (by first | assumption | exact VRow.get (by assumption) rfl | exact VRow.get0 (by assumption) rfl) ?_ | refine rl_loadM 0 hM vt23 rfl rfl rfl (by first | rfl | assumption) ?_ | refine rl_loadM 1 hM vt23 rfl rfl rfl (by first | rfl | assumption) ?_ | refine rl_loadM 2 hM vt23 rfl rfl rfl (by first | rfl | assumption) ?_ | refine rl_loadM 3 hM vt23 rfl rfl rfl (by first | rfl | assumption) ?_ | refine rl_loadM 4 hM vt23 rfl rfl rfl (by first | rfl | assumption) ?_ | refine rl_loadM 5 hM vt23 rfl rfl rfl (by first | rfl | assumption) ?_ | refine rl_loadM 6 hM vt23 rfl rfl rfl (by first | rfl | assumption) ?_ | refine rl_loadM 7 hM vt23 rfl rfl rfl (by first | rfl | assumption) ?_); (try (refine rl_len sl23 rfl rfl ?_; (try ((first | (refine rl_eql_t rfl rfl rfl ?_ ?_; omega) | (refine rl_eql_f rfl rfl rfl ?_ ?_; omega))))))))))) | (refine region_ (id := 2) ?_; (try (refine rl_build [(Value.slice none 0 0)] ag25 pl25 rfl rfl rfl ?_; (try (refine rl_build [(Value.slice none 0 0)] ag25 pl25 rfl rfl rfl ?_; (try ((first | (refine rl_storeWM 0 hM ag25 rfl rfl rfl rfl rfl rfl rfl ?_; clear hM; intro w hM) | (refine rl_storeWM 1 hM ag25 rfl rfl rfl rfl rfl rfl rfl ?_; clear hM; intro w hM) | (refine rl_storeWM 2 hM ag25 rfl rfl rfl rfl rfl rfl rfl ?_; clear hM; intro w hM) | (refine rl_storeWM 3 hM ag25 rfl rfl rfl rfl rfl rfl rfl ?_; clear hM; intro w hM) | (refine rl_storeWM 4 hM ag25 rfl rfl rfl rfl rfl rfl rfl ?_; clear hM; intro w hM) | (refine rl_storeWM 5 hM ag25 rfl rfl rfl rfl rfl rfl rfl ?_; clear hM; intro w hM) | (refine rl_storeWM 6 hM ag25 rfl rfl rfl rfl rfl rfl rfl ?_; clear hM; intro w hM) | (refine rl_storeWM 7 hM ag25 rfl rfl rfl rfl rfl rfl rfl ?_; clear hM; intro w hM)); (try ((first | (refine rl_storeWM 0 hM ag25 rfl rfl rfl rfl rfl rfl rfl ?_; clear hM; intro w hM) | (refine rl_storeWM 1 hM ag25 rfl rfl rfl rfl rfl rfl rfl ?_; clear hM; intro w hM) | (refine rl_storeWM 2 hM ag25 rfl rfl rfl rfl rfl rfl rfl ?_; clear hM; intro w hM) | (refine rl_storeWM 3 hM ag25 rfl rfl rfl rfl rfl rfl rfl ?_; clear hM; intro w hM) | (refine rl_storeWM 4 hM ag25 rfl rfl rfl rfl rfl rfl rfl ?_; clear hM; intro w hM) | (refine rl_storeWM 5 hM ag25 rfl rfl rfl rfl rfl rfl rfl ?_; clear hM; intro w hM) | (refine rl_storeWM 6 hM ag25 rfl rfl rfl rfl rfl rfl rfl ?_; clear hM; intro w hM) | (refine rl_storeWM 7 hM ag25 rfl rfl rfl rfl rfl rfl rfl ?_; clear hM; intro w hM)); (try (refine rl_assign (v := (Value.bool _ : Value)) rfl rfl ?_)))))))))))))
    exact bp_x3 rfl rfl (res_M 1 hM ag25 rfl rfl rfl) (res_M 0 hM ag25 rfl rfl rfl) (res_tmp rfl) ⟨V, _, _, VLe.refl _, hM.dropn 3, rfl, KSl.nil _ _ (Nat.zero_le _), KSl.nil _ _ (Nat.zero_le _)⟩
  | cons a t =>
    have hq0 : (((Kd.cons a t).len : Nat) : Int) = t.len + 1 := rfl
    have hq1 : (Kd.cons a t).len = t.len + 1 := rfl
    have hsz : (Kd.cons a t).sz = a.sz + t.sz + 1 := rfl
    have hA' := hA (by omega)
    subst hA'
    obtain ⟨u, hu, hku⟩ := hel 0 a rfl
    have hr1 : VRow V b (off + (0 : Int).toNat) [u] := VRow.one hu
    obtain ⟨_, _, rfl⟩ := hku.shape
    (repeat (first | refine seq_ ?_ | refine sq_normal ?_ | refine rl_nil ?_ | refine cond_f rfl ?_ | refine skip_ ?_ | (refine region_ (id := 0) ?_; (try ((refine rl_boxAM (d := 1) hM rfl rfl ?_; clear hM; intro w b1 hM); (try ((refine rl_allocAM (d := 2) hM ag25 rfl ?_; clear hM; intro w b2 hM); (try ((refine rl_allocAM (d := 3) hM ag25 rfl ?_; clear hM; intro w b3 hM); (try (refine rl_assign (v := (Value.bool _ : Value)) rfl rfl ?_))))))))) | (refine region_ (id := 1) ?_; (try (refine rl_fld fd25_0 rfl rfl ?_; (try ((first | refine rl_loadV hM vt23 rfl rfl (by first | assumption | exact VRow.get (by assumption) rfl | exact VRow.get0 (by assumption) rfl) ?_ | refine rl_loadM 0 hM vt23 rfl rfl rfl (by first | rfl | assumption) ?_ | refine rl_loadM 1 hM vt23 rfl rfl rfl (by first | rfl | assumption) ?_ | refine rl_loadM 2 hM vt23 rfl rfl rfl (by first | rfl | assumption) ?_ | refine rl_loadM 3 hM vt23 rfl rfl rfl (by first | rfl | assumption) ?_ | refine rl_loadM 4 hM vt23 rfl rfl rfl (by first | rfl | assumption) ?_ | refine rl_loadM 5 hM vt23 rfl rfl rfl (by first | rfl | assumption) ?_ | refine rl_loadM 6 hM vt23 rfl rfl rfl (by first | rfl | assumption) ?_ | refine rl_loadM 7 hM vt23 rfl rfl rfl (by first | rfl | assumption) ?_); (try (refine rl_len sl23 rfl rfl ?_; (try ((first | (refine rl_eql_t rfl rfl rfl ?_ ?_; omega) | (refine rl_eql_f rfl rfl rfl ?_ ?_; omega)))))))))))))
    (refine drawnM_ 10 [(0, false), (1, false), (2, false), (3, false), (5, false), (6, false), (7, false), (8, false), (4, true), (9, true)] (fun w => Mem w0 w _ _) hM mo (by kernel_rfl) (fun _ h => h) ?_; clear hM; intro w hM; (try (refine rx_fld rfl fd25_0 rfl rfl ?_; (try ((first | refine rx_loadV rfl (fun _ h => h) vt23 rfl rfl (by first | assumption | exact VRow.get (by assumption) rfl | exact VRow.get0 (by assumption) rfl) ?_ | refine rx_loadM 0 rfl (fun _ h => h) vt23 rfl rfl rfl (by first | rfl | assumption) ?_ | refine rx_loadM 1 rfl (fun _ h => h) vt23 rfl rfl rfl (by first | rfl | assumption) ?_ | refine rx_loadM 2 rfl (fun _ h => h) vt23 rfl rfl rfl (by first | rfl | assumption) ?_ | refine rx_loadM 3 rfl (fun _ h => h) vt23 rfl rfl rfl (by first | rfl | assumption) ?_ | refine rx_loadM 4 rfl (fun _ h => h) vt23 rfl rfl rfl (by first | rfl | assumption) ?_ | refine rx_loadM 5 rfl (fun _ h => h) vt23 rfl rfl rfl (by first | rfl | assumption) ?_ | refine rx_loadM 6 rfl (fun _ h => h) vt23 rfl rfl rfl (by first | rfl | assumption) ?_ | refine rx_loadM 7 rfl (fun _ h => h) vt23 rfl rfl rfl (by first | rfl | assumption) ?_); (try ((first | (refine rx_idx1 rfl sl23 rfl rfl rfl rfl ?_ ?_ ?_; omega; omega) | (apply rx_idx1 rfl sl23 rfl rfl rfl; assumption; omega; omega)); (try ((first | refine rx_loadAV rfl (fun _ h => h) ag25 rfl rfl (by assumption) (by rfl) ?_ | refine rx_loadAM (vs := [_]) 0 rfl (fun _ h => h) ag25 rfl rfl rfl rfl rfl ?_ | refine rx_loadAM (vs := [_]) 1 rfl (fun _ h => h) ag25 rfl rfl rfl rfl rfl ?_ | refine rx_loadAM (vs := [_]) 2 rfl (fun _ h => h) ag25 rfl rfl rfl rfl rfl ?_ | refine rx_loadAM (vs := [_]) 3 rfl (fun _ h => h) ag25 rfl rfl rfl rfl rfl ?_ | refine rx_loadAM (vs := [_]) 4 rfl (fun _ h => h) ag25 rfl rfl rfl rfl rfl ?_ | refine rx_loadAM (vs := [_]) 5 rfl (fun _ h => h) ag25 rfl rfl rfl rfl rfl ?_ | refine rx_loadAM (vs := [_]) 6 rfl (fun _ h => h) ag25 rfl rfl rfl rfl rfl ?_ | refine rx_loadAM (vs := [_]) 7 rfl (fun _ h => h) ag25 rfl rfl rfl rfl rfl ?_); (try (refine rx_fld rfl fd25_0 rfl rfl ?_; (try ((first | refine rx_loadV rfl (fun _ h => h) vt23 rfl rfl (by first | assumption | exact VRow.get (by assumption) rfl | exact VRow.get0 (by assumption) rfl) ?_ | refine rx_loadM 0 rfl (fun _ h => h) vt23 rfl rfl rfl (by first | rfl | assumption) ?_ | refine rx_loadM 1 rfl (fun _ h => h) vt23 rfl rfl rfl (by first | rfl | assumption) ?_ | refine rx_loadM 2 rfl (fun _ h => h) vt23 rfl rfl rfl (by first | rfl | assumption) ?_ | refine rx_loadM 3 rfl (fun _ h => h) vt23 rfl rfl rfl (by first | rfl | assumption) ?_ | refine rx_loadM 4 rfl (fun _ h => h) vt23 rfl rfl rfl (by first | rfl | assumption) ?_ | refine rx_loadM 5 rfl (fun _ h => h) vt23 rfl rfl rfl (by first | rfl | assumption) ?_ | refine rx_loadM 6 rfl (fun _ h => h) vt23 rfl rfl rfl (by first | rfl | assumption) ?_ | refine rx_loadM 7 rfl (fun _ h => h) vt23 rfl rfl rfl (by first | rfl | assumption) ?_))))))))))))))
    refine rx_slice_l (b := b) (off := off) rfl sl23 rfl rfl rfl (fun _ => rfl) (by omega) (by omega) hlc ?_
    intro a' ha'
    have hkt : KSl V (.slice a' ((Kd.cons a t).len - (1 : Int).toNat) (c - (1 : Int).toNat)) t := by
      have e1 : (1 : Int).toNat = 1 := rfl
      rw [e1] at ha' ⊢
      refine KSl.of (b := b) (off := off + 1) (by omega) (by omega) (by omega) (fun h => by rw [ha' (by omega)]) (fun j x hj => ?_)
      obtain ⟨u, h1, h2⟩ := hel (j + 1) x hj
      exact ⟨u, by rw [show off + 1 + j = off + (j + 1) by omega]; exact h1, h2⟩
    (try (refine rx_build [_] rfl ag25 pl25 rfl rfl rfl ?_))
    refine rx_eff rfl (fun K hK => ?_)
    refine rl_callf fn39 (own_ok _ a (Nat.lt_succ_self _) w0 w _ V _ hM hku (by omega)) rfl rfl ?_
    clear hM
    rintro _ w ⟨V1, u1, hV1, hM, rfl, hk1⟩
    obtain ⟨_, _, rfl⟩ := hk1.shape
    refine rl_nil (kq_normal (hK _ _ (hM.le hV1) ?_))
    refine rx_eff rfl (fun K hK => ?_)
    refine rl_callf fn39 (own_ok _ t (Nat.lt_succ_self _) w0 w _ V1 _ hM (hkt.le hV1) (by omega)) rfl rfl ?_
    clear hM
    rintro _ w ⟨V2, u2, hV2, hM, rfl, hk2⟩
    obtain ⟨_, _, rfl⟩ := hk2.shape
    refine rl_nil (kq_normal (hK _ _ (hM.le (hV1.trans hV2)) ?_))
    refine rx_nil rfl ?_
    (repeat (first | refine sq_normal ?_ | refine rl_nil ?_ | refine ret_ ?_ | refine np_normal ?_ | refine rl_assign (v := (Value.bool _ : Value)) rfl rfl ?_ | (first | (refine rl_storeWM 0 hM ag25 rfl rfl rfl rfl rfl rfl rfl ?_; clear hM; intro w hM) | (refine rl_storeWM 1 hM ag25 rfl rfl rfl rfl rfl rfl rfl ?_; clear hM; intro w hM) | (refine rl_storeWM 2 hM ag25 rfl rfl rfl rfl rfl rfl rfl ?_; clear hM; intro w hM) | (refine rl_storeWM 3 hM ag25 rfl rfl rfl rfl rfl rfl rfl ?_; clear hM; intro w hM) | (refine rl_storeWM 4 hM ag25 rfl rfl rfl rfl rfl rfl rfl ?_; clear hM; intro w hM) | (refine rl_storeWM 5 hM ag25 rfl rfl rfl rfl rfl rfl rfl ?_; clear hM; intro w hM) | (refine rl_storeWM 6 hM ag25 rfl rfl rfl rfl rfl rfl rfl ?_; clear hM; intro w hM) | (refine rl_storeWM 7 hM ag25 rfl rfl rfl rfl rfl rfl rfl ?_; clear hM; intro w hM))))
    exact bp_x3 rfl rfl (res_M 1 hM ag25 rfl rfl rfl) (res_M 0 hM ag25 rfl rfl rfl) (res_tmp rfl) ⟨V2, _, _, hV1.trans hV2, hM.dropn 3, rfl, hk1.le hV2, hk2⟩
end Go.Proofs.Ytkjahcegjplbnaa.Kin
