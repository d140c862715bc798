/- The walks of kinds.Print and fugueref03.Print. -/
import Derived.Test.YtkjahcegjplbnaaKinM
set_option linter.unusedVariables false
set_option linter.unusedSimpArgs false
namespace Go.Proofs.Ytkjahcegjplbnaa.Kin
open Go Go.Eng Go.RowKit Go.Kn
attribute [local irreducible] RL RX KQ SQ Exit.inBlock Exit.then BP NP CallsOk IsSl IsRows IsInts IsBools Own Blk Code.wp Calls wpList
set_option maxHeartbeats 2000000 in
theorem print_ok : ∀ (n : Nat) (k : Kd), k.sz < n → ∀ (w0 w : World) (L : List Ent) (V : Vw) (v : Value), Mem w0 w L V → KSl V v k → k.sz ≤ 10000000 →
    CallsOk Try.prog 11 #[.agg #[v]] w fun r w' => r = St k.prn ∧ Mem w0 w' L V := by
  intro n
  induction n with
  | zero => intro k hn; omega
  | succ n ih =>
  intro k hn w0 w L V v hM hk hsz
  have hlen := Kd.len_le_sz k
  obtain ⟨A, c, b, off, rfl, hlc, hcm, hA, hel⟩ := hk.open
  refine enter_ (N := 29) Try.func11 rfl rfl rfl ?_
  (repeat (first | refine seq_ ?_ | refine sq_normal ?_ | refine rl_nil ?_ | refine block_ ?_ | (refine region_ (id := 0) ?_; (try ((refine rl_boxAM (d := 1) hM rfl rfl ?_; clear hM; intro w b1 hM); (try (refine rl_assign (v := (Value.string _ : Value)) rfl rfl ?_))))) | (refine region_ (id := 1) ?_; (try ((refine rl_allocAM (d := 3) hM ag75 rfl ?_; clear hM; intro w b3 hM)))) | (refine region_ (id := 2) ?_; (try (refine rl_fld fd25_0 rfl rfl ?_; (try ((first | refine rl_loadV hM vt23 rfl rfl (by first | assumption | exact VRow.get (by assumption) rfl | exact VRow.get0 (by assumption) rfl) ?_ | refine rl_loadM 0 hM vt23 rfl rfl rfl (by first | rfl | assumption) ?_ | refine rl_loadM 1 hM vt23 rfl rfl rfl (by first | rfl | assumption) ?_ | refine rl_loadM 2 hM vt23 rfl rfl rfl (by first | rfl | assumption) ?_ | refine rl_loadM 3 hM vt23 rfl rfl rfl (by first | rfl | assumption) ?_ | refine rl_loadM 4 hM vt23 rfl rfl rfl (by first | rfl | assumption) ?_ | refine rl_loadM 5 hM vt23 rfl rfl rfl (by first | rfl | assumption) ?_ | refine rl_loadM 6 hM vt23 rfl rfl rfl (by first | rfl | assumption) ?_ | refine rl_loadM 7 hM vt23 rfl rfl rfl (by first | rfl | assumption) ?_); (try (refine rl_len sl23 rfl rfl ?_; (try (refine rl_move (v := (Value.int _ _ : Value)) rfl rfl ?_)))))))))))
  have hM : Mem w0 w (bld b3 (.pointer none) (.slice none 0 0) [] (.blk b1 [.slice A k.len c] 25 :: L)) V := (hM.newOwn 5 1).front 1 rfl
  refine loop1 [(5, 7), (10, 27)] 10 (fun m v10 wr => ∃ (i : Int) (p vv : Value) (bs : List UInt8), v10 = .int .i64 i ∧ 0 ≤ i ∧ i ≤ k.len ∧ m = (k.len - i).toNat ∧ Mem w0 wr (bld b3 p vv bs (.blk b1 [.slice A k.len c] 25 :: L)) V ∧
      (p = .pointer none ∨ p = .pointer (some ⟨b3, 0, none⟩)) ∧ bs ++ (k.drop i.toNat).prnE = k.prnE ∧ (bs = [] → vv = .slice none 0 0)) _
    ⟨0, _, _, [], rfl, by omega, by omega, rfl, hM, .inl rfl, by rw [show (0 : Int).toNat = 0 from rfl, Kd.drop_zero]; rfl, fun _ => rfl⟩ ?_
  clear hM
  rintro m τ v10 w ⟨i, p, vv, bs, rfl, hi0, hil, rfl, hM, hp, hbs, hnil⟩ K0 hL0
  have hpl := Kd.prnE_len k
  have hbl : bs.length ≤ 70000000 := by
    have := congrArg List.length hbs
    rw [List.length_append] at this
    omega
  by_cases hi : i < k.len
  · have hA' := hA (by omega)
    subst hA'
    obtain ⟨a, ha⟩ := Kd.nth_lt (k := k) (i := i.toNat) (by omega)
    have hasz := (Kd.nth_some ha).2
    obtain ⟨u, hu, hku⟩ := hel _ _ ha
    have hu1 := VRow.one hu
    obtain ⟨Aa, ca, rfl⟩ := hku.shape
    have hpa := Kd.prn_len a
    have hdrop := Kd.drop_cons ha
    rw [hdrop, Kd.prnE_cons] at hbs
    (repeat (first | refine seq_ ?_ | refine sq_normal ?_ | refine rl_nil ?_ | refine cond_t rfl ?_ | refine skip_ ?_ | refine block_ ?_ | (refine region_ (id := 3) ?_; (try ((first | (refine rl_lss_t rfl rfl rfl ?_ ?_; omega) | (refine rl_lss_f rfl rfl rfl ?_ ?_; omega))))) | (refine region_ (id := 4) ?_; (try ((first | (refine rl_idx1 sl23 rfl rfl rfl rfl ?_ ?_ ?_; omega; omega) | (apply rl_idx1 sl23 rfl rfl rfl; assumption; omega; omega)); (try ((first | refine rl_loadAV hM ag25 rfl rfl (by assumption) (by rfl) ?_ | refine rl_loadAM (vs := [_]) 0 hM ag25 rfl rfl rfl rfl rfl ?_ | refine rl_loadAM (vs := [_]) 1 hM ag25 rfl rfl rfl rfl rfl ?_ | refine rl_loadAM (vs := [_]) 2 hM ag25 rfl rfl rfl rfl rfl ?_ | refine rl_loadAM (vs := [_]) 3 hM ag25 rfl rfl rfl rfl rfl ?_ | refine rl_loadAM (vs := [_]) 4 hM ag25 rfl rfl rfl rfl rfl ?_ | refine rl_loadAM (vs := [_]) 5 hM ag25 rfl rfl rfl rfl rfl ?_ | refine rl_loadAM (vs := [_]) 6 hM ag25 rfl rfl rfl rfl rfl ?_ | refine rl_loadAM (vs := [_]) 7 hM ag25 rfl rfl rfl rfl rfl ?_); (try ((refine rl_allocAM (d := 5) hM ag25 rfl ?_; clear hM; intro w b5 hM); (try ((first | (refine rl_storeWM 0 hM ag25 rfl rfl rfl rfl rfl rfl rfl ?_; clear hM; intro w hM) | (refine rl_storeWM 1 hM ag25 rfl rfl rfl rfl rfl rfl rfl ?_; clear hM; intro w hM) | (refine rl_storeWM 2 hM ag25 rfl rfl rfl rfl rfl rfl rfl ?_; clear hM; intro w hM) | (refine rl_storeWM 3 hM ag25 rfl rfl rfl rfl rfl rfl rfl ?_; clear hM; intro w hM) | (refine rl_storeWM 4 hM ag25 rfl rfl rfl rfl rfl rfl rfl ?_; clear hM; intro w hM) | (refine rl_storeWM 5 hM ag25 rfl rfl rfl rfl rfl rfl rfl ?_; clear hM; intro w hM) | (refine rl_storeWM 6 hM ag25 rfl rfl rfl rfl rfl rfl rfl ?_; clear hM; intro w hM) | (refine rl_storeWM 7 hM ag25 rfl rfl rfl rfl rfl rfl rfl ?_; clear hM; intro w hM))))))))))) | (refine region_ (id := 5) ?_; (try ((first | refine rl_loadAV hM ag25 rfl rfl (by assumption) (by rfl) ?_ | refine rl_loadAM (vs := [_]) 0 hM ag25 rfl rfl rfl rfl rfl ?_ | refine rl_loadAM (vs := [_]) 1 hM ag25 rfl rfl rfl rfl rfl ?_ | refine rl_loadAM (vs := [_]) 2 hM ag25 rfl rfl rfl rfl rfl ?_ | refine rl_loadAM (vs := [_]) 3 hM ag25 rfl rfl rfl rfl rfl ?_ | refine rl_loadAM (vs := [_]) 4 hM ag25 rfl rfl rfl rfl rfl ?_ | refine rl_loadAM (vs := [_]) 5 hM ag25 rfl rfl rfl rfl rfl ?_ | refine rl_loadAM (vs := [_]) 6 hM ag25 rfl rfl rfl rfl rfl ?_ | refine rl_loadAM (vs := [_]) 7 hM ag25 rfl rfl rfl rfl rfl ?_))))))
    refine rl_callf fn11 (ih a (by omega) w0 w _ V _ hM hku (by omega)) rfl rfl ?_
    clear hM
    rintro _ w ⟨rfl, hM⟩
    by_cases ha0 : a.len = 0
    · have ha1 : a.isNil = true := (Kd.isNil_iff a).2 ha0
      rw [ha1] at hbs
      (repeat (first | refine seq_ ?_ | refine sq_normal ?_ | refine rl_nil ?_ | refine cond_f rfl ?_ | refine skip_ ?_ | (refine region_ (id := 6) ?_; (try (refine rl_fld fd25_0 rfl rfl ?_; (try ((first | refine rl_loadV hM vt23 rfl rfl (by first | assumption | exact VRow.get (by assumption) rfl | exact VRow.get0 (by assumption) rfl) ?_ | refine rl_loadM 0 hM vt23 rfl rfl rfl (by first | rfl | assumption) ?_ | refine rl_loadM 1 hM vt23 rfl rfl rfl (by first | rfl | assumption) ?_ | refine rl_loadM 2 hM vt23 rfl rfl rfl (by first | rfl | assumption) ?_ | refine rl_loadM 3 hM vt23 rfl rfl rfl (by first | rfl | assumption) ?_ | refine rl_loadM 4 hM vt23 rfl rfl rfl (by first | rfl | assumption) ?_ | refine rl_loadM 5 hM vt23 rfl rfl rfl (by first | rfl | assumption) ?_ | refine rl_loadM 6 hM vt23 rfl rfl rfl (by first | rfl | assumption) ?_ | refine rl_loadM 7 hM vt23 rfl rfl rfl (by first | rfl | assumption) ?_); (try (refine rl_len sl23 rfl rfl ?_; (try ((first | (refine rl_gtr_t rfl rfl rfl ?_ ?_; omega) | (refine rl_gtr_f rfl rfl rfl ?_ ?_; omega))))))))))) | (refine region_ (id := 8) ?_; (try (refine rl_move (v := (Value.string _ : Value)) rfl rfl ?_; (try ((refine rl_sadd rfl rfl rfl (by (first | omega | (simp only [List.length_append, List.length_cons, List.length_nil, List.length_take, List.length_drop] at *; omega))) ?_)))))) | refine rl_assign (v := (Value.string _ : Value)) rfl rfl ?_))
      have hM : Mem w0 w (bld b3 p vv bs (.blk b1 [.slice (some ⟨b, off, none⟩) k.len c] 25 :: L)) V := hM.dropn 1
      refine rl_callf fn36 (write_ok w0 w _ V b3 p vv bs _ hM hp (by simp only [List.length_append, List.length_cons, List.length_nil]; omega)) rfl rfl ?_
      clear hM
      rintro _ w ⟨v', hM⟩
      (repeat (first | refine sq_normal ?_ | refine rl_nil ?_ | refine inBlock_normal ?_ | (refine region_ (id := 9) ?_; (try ((refine rl_add rfl rfl rfl ?_ ?_ ?_; omega; omega); (try (refine rl_move (v := (Value.int _ _ : Value)) rfl rfl ?_)))))))
      refine kq_normal (hL0 (k.len - (i + 1)).toNat _ _ (by omega) (by (repeat (first | with_reducible exact Agree.ov | with_reducible exact Agree.refl _ _ | refine Agree.upd rfl ?_ | refine Agree.ovs rfl ?_))) ⟨i + 1, _, v', _, rfl, by omega, by omega, rfl, hM, .inr rfl, ?_, fun h => by simp at h⟩)
      rw [← hbs, show (i + 1).toNat = i.toNat + 1 by omega]
      simp [Kd.paren]
    · have ha1 : a.isNil = false := by
        cases h : a.isNil with
        | false => rfl
        | true => exact absurd ((Kd.isNil_iff a).1 h) ha0
      rw [ha1] at hbs
      (repeat (first | refine seq_ ?_ | refine sq_normal ?_ | refine rl_nil ?_ | refine cond_t rfl ?_ | (refine region_ (id := 6) ?_; (try (refine rl_fld fd25_0 rfl rfl ?_; (try ((first | refine rl_loadV hM vt23 rfl rfl (by first | assumption | exact VRow.get (by assumption) rfl | exact VRow.get0 (by assumption) rfl) ?_ | refine rl_loadM 0 hM vt23 rfl rfl rfl (by first | rfl | assumption) ?_ | refine rl_loadM 1 hM vt23 rfl rfl rfl (by first | rfl | assumption) ?_ | refine rl_loadM 2 hM vt23 rfl rfl rfl (by first | rfl | assumption) ?_ | refine rl_loadM 3 hM vt23 rfl rfl rfl (by first | rfl | assumption) ?_ | refine rl_loadM 4 hM vt23 rfl rfl rfl (by first | rfl | assumption) ?_ | refine rl_loadM 5 hM vt23 rfl rfl rfl (by first | rfl | assumption) ?_ | refine rl_loadM 6 hM vt23 rfl rfl rfl (by first | rfl | assumption) ?_ | refine rl_loadM 7 hM vt23 rfl rfl rfl (by first | rfl | assumption) ?_); (try (refine rl_len sl23 rfl rfl ?_; (try ((first | (refine rl_gtr_t rfl rfl rfl ?_ ?_; omega) | (refine rl_gtr_f rfl rfl rfl ?_ ?_; omega))))))))))) | (refine region_ (id := 7) ?_; (try (refine rl_move (v := (Value.string _ : Value)) rfl rfl ?_; (try ((refine rl_sadd rfl rfl rfl (by (first | omega | (simp only [List.length_append, List.length_cons, List.length_nil, List.length_take, List.length_drop] at *; omega))) ?_); (try ((refine rl_sadd rfl rfl rfl (by (first | omega | (simp only [List.length_append, List.length_cons, List.length_nil, List.length_take, List.length_drop] at *; omega))) ?_); (try (refine rl_assign (v := (Value.string _ : Value)) rfl rfl ?_))))))))) | (refine region_ (id := 8) ?_; (try (refine rl_move (v := (Value.string _ : Value)) rfl rfl ?_; (try ((refine rl_sadd rfl rfl rfl (by (first | omega | (simp only [List.length_append, List.length_cons, List.length_nil, List.length_take, List.length_drop] at *; omega))) ?_)))))) | refine rl_assign (v := (Value.string _ : Value)) rfl rfl ?_))
      have hM : Mem w0 w (bld b3 p vv bs (.blk b1 [.slice (some ⟨b, off, none⟩) k.len c] 25 :: L)) V := hM.dropn 1
      refine rl_callf fn36 (write_ok w0 w _ V b3 p vv bs _ hM hp (by simp only [List.length_append, List.length_cons, List.length_nil]; omega)) rfl rfl ?_
      clear hM
      rintro _ w ⟨v', hM⟩
      (repeat (first | refine sq_normal ?_ | refine rl_nil ?_ | refine inBlock_normal ?_ | (refine region_ (id := 9) ?_; (try ((refine rl_add rfl rfl rfl ?_ ?_ ?_; omega; omega); (try (refine rl_move (v := (Value.int _ _ : Value)) rfl rfl ?_)))))))
      refine kq_normal (hL0 (k.len - (i + 1)).toNat _ _ (by omega) (by (repeat (first | with_reducible exact Agree.ov | with_reducible exact Agree.refl _ _ | refine Agree.upd rfl ?_ | refine Agree.ovs rfl ?_))) ⟨i + 1, _, v', _, rfl, by omega, by omega, rfl, hM, .inr rfl, ?_, fun h => by simp at h⟩)
      rw [← hbs, show (i + 1).toNat = i.toNat + 1 by omega]
      simp [Kd.paren]
  · (repeat (first | refine seq_ ?_ | refine sq_normal ?_ | refine sq_exit ?_ | refine rl_nil ?_ | refine cond_f rfl ?_ | refine exit_ ?_ | refine inBlock_exit ?_ | refine kq_exit ?_ | (refine region_ (id := 3) ?_; (try ((first | (refine rl_lss_t rfl rfl rfl ?_ ?_; omega) | (refine rl_lss_f rfl rfl rfl ?_ ?_; omega))))) | (refine region_ (id := 10) ?_)))
    refine rl_callf fn37 (string_ok w0 w _ V b3 p vv bs hM (by omega) hnil) rfl rfl ?_
    clear hM
    rintro _ w ⟨rfl, hM⟩
    (repeat (first | refine sq_normal ?_ | refine rl_nil ?_ | refine ret_ ?_ | refine rl_assign (v := (Value.string _ : Value)) rfl rfl ?_ | (refine rl_sadd rfl rfl rfl (by (first | omega | (simp only [List.length_append, List.length_cons, List.length_nil, List.length_take, List.length_drop] at *; omega))) ?_)))
    refine bp_ret1 (v := St (bs ++ [42])) rfl rfl ⟨?_, hM.dropn 1⟩
    rw [show i.toNat = k.len by omega, Kd.drop_len] at hbs
    unfold Kd.prn
    rw [← hbs]
    simp [Kd.prnE]
end Go.Proofs.Ytkjahcegjplbnaa.Kin
