/- The walk of fugueref05.Context. -/
import Derived.Test.YtadbinckjmdokaaDoorDrdW21
import Derived.Test.YtadbinckjmdokaaDoorTxB
import Derived.Test.YtadbinckjmdokaaDoorEnC
set_option linter.unusedVariables false
set_option linter.unusedSimpArgs false
namespace Go.Proofs.YtadbinckjmdokaaDoor.Trd
open Go Go.Eng Go.RowKit Go.Tr Go.Lx
attribute [local irreducible] RL RX KQ SQ Exit.inBlock Exit.then BP NP CallsOk IsSl IsRows IsInts IsBools Own Blk Code.wp Calls wpList
theorem rx_end {P : Program} {N : NN} {l : List Oper} {Q : Exit → Act → World → Prop} {S : World → Prop} {σ : Env} {w : World} (h : Q .normal (Fr N σ) w) : RX P N l Q S l.length [] σ w :=
  rx_nil List.drop_length (rl_nil h)
set_option maxRecDepth 4000 in
set_option maxHeartbeats 8000000 in
theorem context_ok (v : Value) (xs : List Int) (m : Nat) (w0 w : World) (L : List Ent) (V : Vw) (hM : Mem w0 w L V) (hx : IsInts V v xs) (hm : m ≤ 100) :
    CallsOk Tryd.prog 8 #[v, .int .i64 m] w fun r w' => ∃ ps b, r = St (ctx b ps) ∧ ps.length = m ∧ PsOk ps ∧ (b = false → ps.length ≤ 1) ∧ Mem w0 w' L V := by
  obtain ⟨a, c, b, off, rfl, g1, g2, g3, g4⟩ := id hx.open
  have hml := maxLen_le
  have hmx : 10000000 ≤ maxLen := by unfold maxLen; omega
  refine enter_ (N := 51) Tryd.func8 rfl rfl rfl ?_
  by_cases hm0 : m = 0
  · subst hm0
    (repeat (first | refine seq_ ?_ | refine sq_normal ?_ | refine sq_ret ?_ | refine rl_nil ?_ | refine cond_t rfl ?_ | refine ret_ ?_ | (refine region_ (id := 0) ?_; (try (refine rl_assign (v := (Value.string _ : Value)) rfl rfl ?_))) | (refine region_ (id := 1) ?_; (try (refine rl_move (v := (Value.int _ _ : Value)) rfl rfl ?_; (try ((refine rl_eql_t rfl rfl rfl ?_ ?_; omega)))))) | (refine region_ (id := 2) ?_; (try (refine rl_assign (v := (Value.string _ : Value)) rfl rfl ?_)))))
    exact bp_ret1 (v := St _) rfl rfl ⟨[], true, rfl, rfl, (fun p hp => by cases hp), (fun h => by cases h), hM⟩
  · (repeat (first | refine seq_ ?_ | refine sq_normal ?_ | refine rl_nil ?_ | refine cond_f rfl ?_ | refine skip_ ?_ | refine block_ ?_ | (refine region_ (id := 0) ?_; (try (refine rl_assign (v := (Value.string _ : Value)) rfl rfl ?_))) | (refine region_ (id := 1) ?_; (try (refine rl_move (v := (Value.int _ _ : Value)) rfl rfl ?_; (try ((refine rl_eql_f rfl rfl rfl ?_ ?_; omega)))))) | (refine region_ (id := 3) ?_; (try (refine rl_assign (v := (Value.string _ : Value)) rfl rfl ?_))) | (refine region_ (id := 4) ?_; (try (refine rl_assign (v := (Value.int _ _ : Value)) rfl rfl ?_)))))
    refine loop2 [(5, 8), (10, 38)] 5 6 (fun mm v5 v6 wr => ∃ ps : List (B × B), v5 = St (ctxIn ps) ∧ v6 = .int .i64 ps.length ∧ ps.length ≤ m ∧ mm = m - ps.length ∧ PsOk ps ∧ Mem w0 wr L V) _
      ⟨[], rfl, rfl, Nat.zero_le _, rfl, (fun p hp => by cases hp), hM⟩ ?_
    clear hM
    rintro mm τ v5 v6 w ⟨ps, rfl, rfl, hpm, rfl, hps, hM⟩ K0 hL0
    have hcl := ctxIn_len hps
    have hcp := ctxPre_len hps
    by_cases hlt : ps.length < m
    · (repeat (first | refine seq_ ?_ | refine sq_normal ?_ | refine rl_nil ?_ | refine cond_t rfl ?_ | refine skip_ ?_ | refine block_ ?_ | (refine region_ (id := 5) ?_; (try (refine rl_move (v := (Value.int _ _ : Value)) rfl rfl ?_; (try (refine rl_move (v := (Value.int _ _ : Value)) rfl rfl ?_; (try ((refine rl_lss_t rfl rfl rfl ?_ ?_; omega)))))))) | (refine region_ (id := 7) ?_; (try (refine rl_assign (v := (Value.int _ _ : Value)) rfl rfl ?_))) | (refine region_ (id := 8) ?_; (try (refine rl_move (v := (Value.int _ _ : Value)) rfl rfl ?_; (try (refine rl_move (v := (Value.slice _ _ _ : Value)) rfl rfl ?_; (try (refine rl_len sl22 rfl rfl ?_)))))))))
      refine rl_lss rfl rfl rfl ?_
      (repeat (first | refine sq_normal ?_ | refine rl_nil ?_))
      refine cut_seq1 [(7, 8), (19, 23)] 7 (fun v wr => ∃ n, v = .int .i64 n ∧ I64 n ∧ Mem w0 wr L V) ?_ ?_
      · by_cases h1 : ps.length < xs.length
        · obtain ⟨x, hxp⟩ : ∃ x, xs[ps.length]? = some x := ⟨_, List.getElem?_eq_getElem h1⟩
          have hc := g4 _ x hxp
          have g3' := g3 (by omega)
          subst g3'
          rw [decide_eq_true (by omega : ((ps.length : Nat) : Int) < (xs.length : Nat))]
          (repeat (first | refine rl_nil ?_ | refine cond_t rfl ?_ | (refine region_ (id := 9) ?_; (try (refine rl_move (v := (Value.slice _ _ _ : Value)) rfl rfl ?_; (try (refine rl_move (v := (Value.int _ _ : Value)) rfl rfl ?_; (try ((refine rl_idx1 sl22 rfl rfl rfl rfl ?_ ?_ ?_; omega; omega); (try (refine rl_loadV hM vt3 rfl rfl (by first | assumption | exact VRow.get (by assumption) rfl | exact VRow.get0 (by assumption) rfl) ?_; (try (refine rl_assign (v := (Value.int _ _ : Value)) rfl rfl ?_)))))))))))))
          exact kq_normal ⟨by (repeat (first | with_reducible exact Agree.ov | with_reducible exact Agree.refl _ _ | refine Agree.upd rfl ?_ | refine Agree.ovs rfl ?_)), x, rfl, hx.rng x (List.mem_of_getElem? hxp), hM⟩
        · rw [decide_eq_false (by omega : ¬ ((ps.length : Nat) : Int) < (xs.length : Nat))]
          (repeat (first | refine cond_f rfl ?_ | refine skip_ ?_))
          exact kq_normal ⟨by (repeat (first | with_reducible exact Agree.ov | with_reducible exact Agree.refl _ _ | refine Agree.upd rfl ?_ | refine Agree.ovs rfl ?_)), 0, rfl, i64z, hM⟩
      clear hM
      rintro τ2 _ w ⟨n, rfl, hn, hM⟩
      (repeat (first | refine seq_ ?_ | (refine region_ (id := 10) ?_; (try (refine rl_move (v := (Value.int _ _ : Value)) rfl rfl ?_)))))
      refine rl_gtr rfl rfl rfl ?_
      (repeat (first | refine sq_normal ?_ | refine rl_nil ?_))
      refine cut_seq1 [(5, 6), (25, 27)] 5 (fun v wr => v = St (ctxPre ps) ∧ Mem w0 wr L V) ?_ ?_
      · by_cases h1 : ps = []
        · subst h1
          rw [decide_eq_false (by decide : ¬ ((([] : List (B × B)).length : Nat) : Int) > 0)]
          (repeat (first | refine cond_f rfl ?_ | refine skip_ ?_))
          exact kq_normal ⟨by (repeat (first | with_reducible exact Agree.ov | with_reducible exact Agree.refl _ _ | refine Agree.upd rfl ?_ | refine Agree.ovs rfl ?_)), rfl, hM⟩
        · have h2 : 0 < ps.length := List.length_pos_iff.2 h1
          rw [decide_eq_true (by omega : ((ps.length : Nat) : Int) > 0)]
          (repeat (first | refine rl_nil ?_ | refine cond_t rfl ?_ | (refine region_ (id := 11) ?_; (try (refine rl_move (v := (Value.string _ : Value)) rfl rfl ?_; (try ((refine rl_sadd rfl rfl rfl (by (first | omega | (simp only [List.length_append, List.length_cons, List.length_nil, List.length_take, List.length_drop] at *; omega))) ?_); (try (refine rl_assign (v := (Value.string _ : Value)) rfl rfl ?_)))))))))
          exact kq_normal ⟨by (repeat (first | with_reducible exact Agree.ov | with_reducible exact Agree.refl _ _ | refine Agree.upd rfl ?_ | refine Agree.ovs rfl ?_)), by show St _ = St _; unfold ctxPre; rw [if_neg h1], hM⟩
      clear hM
      rintro τ3 _ w ⟨rfl, hM⟩
      skip
      refine cut_blk1 [(5, 6), (27, 38)] 5 (fun v wr => ∃ p : B × B, v = St (ctxPre ps ++ item p) ∧ p.1 ∈ cls3 ∧ p.2 ∈ names4 ∧ Mem w0 wr L V) ?_ ?_
      · have hr := around_lt n 3 (by omega)
        obtain ⟨y, hy⟩ : ∃ y, cls3[(around n 3).toNat]? = some y := ⟨_, List.getElem?_eq_getElem (by show _ < 3; omega)⟩
        have hu : (cls3.map St)[0 + (around n 3).toNat]? = some (St y) := by rw [Nat.zero_add]; simp [hy]
        have hyl := cls3_len (List.mem_of_getElem? hy)
        refine drawn3M_ 11 [(0, false), (2, false), (8, false)] 1 3 [(3, true), (4, false), (5, false), (6, false), (7, false), (9, true), (10, false)] [] 1 9 [(4, false), (5, false), (6, false), (7, false), (9, true), (10, false)] [(1, true), (4, false), (5, false), (6, false), (7, false), (10, false)] _ _ _ _ rfl rfl rfl rfl hM mo (by kernel_rfl) ?_ ?_
        · clear hM
          intro w hM
          (try (refine rx_move (v := (Value.string _ : Value)) rfl rfl rfl ?_; (try (refine rx_move (v := (Value.int _ _ : Value)) rfl rfl rfl ?_; (try (refine rx_move (v := (Value.int _ _ : Value)) rfl rfl rfl ?_))))))
          refine rx_effS rfl (fun K hK => ?_)
          refine rl_bsliceM (d := 28) [St [69], St [79], St [83]] hM sl28 rfl rfl rfl rfl rfl (by decide) (by decide) ?_
          clear hM
          intro w b28 hM
          refine rl_nil (kq_normal (hK (fun w => Mem w0 w (.blk b28 (cls3.map St) 9 :: L) V) _ _ (fun _ h => h.dropn 1) hM ?_))
          refine rx_eff rfl (fun K hK => ?_)
          refine rl_callf fn5 (around_ok n 3 w hn.1 hn.2 (by omega) (by omega)) rfl rfl ?_
          rintro _ w ⟨rfl, rfl⟩
          refine rl_nil (kq_normal (hK _ _ hM ?_))
          (try ((refine rx_idx1 rfl sl28 rfl rfl rfl rfl ?_ ?_ ?_; omega; omega); (try (refine rx_loadM 0 rfl (fun _ h => h) vt9 rfl rfl rfl (by first | rfl | assumption) ?_; (try ((refine rx_sadd rfl rfl rfl rfl (by (first | omega | (simp only [List.length_append, List.length_cons, List.length_nil, List.length_take, List.length_drop] at *; omega))) ?_); (try ((refine rx_sadd rfl rfl rfl rfl (by (first | omega | (simp only [List.length_append, List.length_cons, List.length_nil, List.length_take, List.length_drop] at *; omega))) ?_)))))))))
          refine rx_eff rfl (fun K hK => ?_)
          refine rl_callf fn20 (nm4_ok n hn w0 w _ V hM) rfl rfl ?_
          clear hM
          rintro _ w ⟨s, rfl, hs, hM⟩
          refine rl_nil (kq_normal (hK _ _ hM ?_))
          have hsl := names4_len1 hs
          (try ((refine rx_sadd rfl rfl rfl rfl (by (first | omega | (simp only [List.length_append, List.length_cons, List.length_nil, List.length_take, List.length_drop] at *; omega))) ?_)))
          refine rx_nil rfl ?_
          (repeat (first | refine rl_nil ?_ | refine inBlock_normal ?_ | refine np_normal ?_ | refine rl_assign (v := (Value.string _ : Value)) rfl rfl ?_))
          exact kq_normal ⟨by (repeat (first | with_reducible exact Agree.ov | with_reducible exact Agree.refl _ _ | refine Agree.upd rfl ?_ | refine Agree.ovs rfl ?_)), (y, s), (by show St _ = St _; congr 1; simp [item]), List.mem_of_getElem? hy, hs, hM.dropn 1⟩
        · clear hM
          intro w hM K hK3
          (try (refine rx_move (v := (Value.string _ : Value)) rfl rfl rfl ?_; (try (refine rx_move (v := (Value.int _ _ : Value)) rfl rfl rfl ?_; (try (refine rx_move (v := (Value.int _ _ : Value)) rfl rfl rfl ?_))))))
          refine rx_eff rfl (fun K hK => ?_)
          refine rl_callf fn5 (around_ok n 3 w hn.1 hn.2 (by omega) (by omega)) rfl rfl ?_
          rintro _ w ⟨rfl, rfl⟩
          refine rl_nil (kq_normal (hK _ _ hM ?_))
          refine rx_end (kq_normal (hK3 _ _ hM ?_ ?_))
          · refine rx_effS rfl (fun K hK => ?_)
            refine rl_bsliceM (d := 28) [St [69], St [79], St [83]] hM sl28 rfl rfl rfl rfl rfl (by decide) (by decide) ?_
            clear hM
            intro w b28 hM
            refine rl_nil (kq_normal (hK (fun w => Mem w0 w (.blk b28 (cls3.map St) 9 :: L) V) _ _ (fun _ h => h.dropn 1) hM ?_))
            (try ((refine rx_idx1 rfl sl28 rfl rfl rfl rfl ?_ ?_ ?_; omega; omega); (try (refine rx_loadM 0 rfl (fun _ h => h) vt9 rfl rfl rfl (by first | rfl | assumption) ?_; (try ((refine rx_sadd rfl rfl rfl rfl (by (first | omega | (simp only [List.length_append, List.length_cons, List.length_nil, List.length_take, List.length_drop] at *; omega))) ?_); (try ((refine rx_sadd rfl rfl rfl rfl (by (first | omega | (simp only [List.length_append, List.length_cons, List.length_nil, List.length_take, List.length_drop] at *; omega))) ?_)))))))))
            refine rx_eff rfl (fun K hK => ?_)
            refine rl_callf fn20 (nm4_ok n hn w0 w _ V hM) rfl rfl ?_
            clear hM
            rintro _ w ⟨s, rfl, hs, hM⟩
            refine rl_nil (kq_normal (hK _ _ hM ?_))
            have hsl := names4_len1 hs
            (try ((refine rx_sadd rfl rfl rfl rfl (by (first | omega | (simp only [List.length_append, List.length_cons, List.length_nil, List.length_take, List.length_drop] at *; omega))) ?_)))
            refine rx_nil rfl ?_
            (repeat (first | refine rl_nil ?_ | refine inBlock_normal ?_ | refine np_normal ?_ | refine rl_assign (v := (Value.string _ : Value)) rfl rfl ?_))
            exact kq_normal ⟨by (repeat (first | with_reducible exact Agree.ov | with_reducible exact Agree.refl _ _ | refine Agree.upd rfl ?_ | refine Agree.ovs rfl ?_)), (y, s), (by show St _ = St _; congr 1; simp [item]), List.mem_of_getElem? hy, hs, hM.dropn 1⟩
          · refine rx_eff rfl (fun K hK => ?_)
            refine rl_callf fn20 (nm4_ok n hn w0 w _ V hM) rfl rfl ?_
            clear hM
            rintro _ w ⟨s, rfl, hs, hM⟩
            refine rl_nil (kq_normal (hK _ _ hM ?_))
            have hsl := names4_len1 hs
            refine rx_effS rfl (fun K hK => ?_)
            refine rl_bsliceM (d := 28) [St [69], St [79], St [83]] hM sl28 rfl rfl rfl rfl rfl (by decide) (by decide) ?_
            clear hM
            intro w b28 hM
            refine rl_nil (kq_normal (hK (fun w => Mem w0 w (.blk b28 (cls3.map St) 9 :: L) V) _ _ (fun _ h => h.dropn 1) hM ?_))
            (try ((refine rx_idx1 rfl sl28 rfl rfl rfl rfl ?_ ?_ ?_; omega; omega); (try (refine rx_loadM 0 rfl (fun _ h => h) vt9 rfl rfl rfl (by first | rfl | assumption) ?_; (try ((refine rx_sadd rfl rfl rfl rfl (by (first | omega | (simp only [List.length_append, List.length_cons, List.length_nil, List.length_take, List.length_drop] at *; omega))) ?_); (try ((refine rx_sadd rfl rfl rfl rfl (by (first | omega | (simp only [List.length_append, List.length_cons, List.length_nil, List.length_take, List.length_drop] at *; omega))) ?_)))))))))
            refine rx_sadd rfl rfl rfl rfl (by first | omega | (simp only [List.length_append, List.length_cons, List.length_nil] at *; omega)) ?_
            refine rx_nil rfl ?_
            (repeat (first | refine rl_nil ?_ | refine inBlock_normal ?_ | refine np_normal ?_ | refine rl_assign (v := (Value.string _ : Value)) rfl rfl ?_))
            exact kq_normal ⟨by (repeat (first | with_reducible exact Agree.ov | with_reducible exact Agree.refl _ _ | refine Agree.upd rfl ?_ | refine Agree.ovs rfl ?_)), (y, s), (by show St _ = St _; congr 1; simp [item]), List.mem_of_getElem? hy, hs, hM.dropn 1⟩
      clear hM
      rintro τ4 _ w ⟨p, rfl, hp1, hp2, hM⟩
      have hl1 : (ps ++ [p]).length = ps.length + 1 := by simp
      (repeat (first | refine rl_nil ?_ | (refine region_ (id := 6) ?_; (try (refine rl_move (v := (Value.int _ _ : Value)) rfl rfl ?_; (try ((refine rl_add rfl rfl rfl ?_ ?_ ?_; omega; omega); (try (refine rl_assign (v := (Value.int _ _ : Value)) rfl rfl ?_)))))))))
      exact kq_normal (hL0 (m - (ps.length + 1)) _ _ (by omega) (by (repeat (first | with_reducible exact Agree.ov | with_reducible exact Agree.refl _ _ | refine Agree.upd rfl ?_ | refine Agree.ovs rfl ?_))) ⟨ps ++ [p], by rw [ctxIn_snoc]; rfl, by rw [hl1]; rfl, by omega, by omega, hps.snoc hp1 hp2, hM⟩)
    · have hpe : ps.length = m := by omega
      have hne : ps ≠ [] := by intro h; subst h; simp at hpe; omega
      by_cases h1 : m = 1
      · by_cases h2 : xs.length % 2 = 0
        · have h3 : ((xs.length : Nat) : Int) % 2 = 0 := by omega
          (repeat (first | refine seq_ ?_ | refine sq_normal ?_ | refine sq_exit ?_ | refine sq_ret ?_ | refine rl_nil ?_ | refine cond_t rfl ?_ | refine cond_f rfl ?_ | refine ret_ ?_ | refine exit_ ?_ | refine inBlock_exit ?_ | refine kq_exit ?_ | (refine region_ (id := 5) ?_; (try (refine rl_move (v := (Value.int _ _ : Value)) rfl rfl ?_; (try (refine rl_move (v := (Value.int _ _ : Value)) rfl rfl ?_; (try ((refine rl_lss_f rfl rfl rfl ?_ ?_; omega)))))))) | (refine region_ (id := 13) ?_; (try (refine rl_move (v := (Value.int _ _ : Value)) rfl rfl ?_; (try ((refine rl_eql_t rfl rfl rfl ?_ ?_; omega); (try (refine rl_move (v := (Value.bool _ : Value)) rfl rfl ?_; (try (refine rl_move (v := (Value.slice _ _ _ : Value)) rfl rfl ?_; (try (refine rl_len sl22 rfl rfl ?_; (try ((refine rl_rem rfl rfl rfl ?_ ?_ ?_; omega; omega); (try ((refine rl_eql_t rfl rfl rfl ?_ ?_; omega); (try (refine rl_pick (v := (Value.bool _ : Value)) rfl rfl rfl ?_))))))))))))))))) | (refine region_ (id := 14) ?_; (try (refine rl_move (v := (Value.string _ : Value)) rfl rfl ?_; (try ((refine rl_sadd rfl rfl rfl (by (first | omega | (simp only [List.length_append, List.length_cons, List.length_nil, List.length_take, List.length_drop] at *; omega))) ?_); (try (refine rl_assign (v := (Value.string _ : Value)) rfl rfl ?_)))))))))
          exact bp_ret1 (v := St _) rfl rfl ⟨ps, false, by unfold ctx; rw [if_neg hne]; simp, hpe, hps, fun _ => by omega, hM⟩
        · have h3 : ((xs.length : Nat) : Int) % 2 ≠ 0 := by omega
          (repeat (first | refine seq_ ?_ | refine sq_normal ?_ | refine sq_exit ?_ | refine rl_nil ?_ | refine cond_f rfl ?_ | refine skip_ ?_ | refine ret_ ?_ | refine exit_ ?_ | refine inBlock_exit ?_ | refine kq_exit ?_ | (refine region_ (id := 5) ?_; (try (refine rl_move (v := (Value.int _ _ : Value)) rfl rfl ?_; (try (refine rl_move (v := (Value.int _ _ : Value)) rfl rfl ?_; (try ((refine rl_lss_f rfl rfl rfl ?_ ?_; omega)))))))) | (refine region_ (id := 13) ?_; (try (refine rl_move (v := (Value.int _ _ : Value)) rfl rfl ?_; (try ((refine rl_eql_t rfl rfl rfl ?_ ?_; omega); (try (refine rl_move (v := (Value.bool _ : Value)) rfl rfl ?_; (try (refine rl_move (v := (Value.slice _ _ _ : Value)) rfl rfl ?_; (try (refine rl_len sl22 rfl rfl ?_; (try ((refine rl_rem rfl rfl rfl ?_ ?_ ?_; omega; omega); (try ((refine rl_eql_f rfl rfl rfl ?_ ?_; omega); (try (refine rl_pick (v := (Value.bool _ : Value)) rfl rfl rfl ?_))))))))))))))))) | (refine region_ (id := 15) ?_; (try (refine rl_move (v := (Value.string _ : Value)) rfl rfl ?_; (try ((refine rl_sadd rfl rfl rfl (by (first | omega | (simp only [List.length_append, List.length_cons, List.length_nil, List.length_take, List.length_drop] at *; omega))) ?_); (try ((refine rl_sadd rfl rfl rfl (by (first | omega | (simp only [List.length_append, List.length_cons, List.length_nil, List.length_take, List.length_drop] at *; omega))) ?_); (try (refine rl_assign (v := (Value.string _ : Value)) rfl rfl ?_)))))))))))
          exact bp_ret1 (v := St _) rfl rfl ⟨ps, true, by unfold ctx; rw [if_neg hne]; simp, hpe, hps, (fun h => by cases h), hM⟩
      · (repeat (first | refine seq_ ?_ | refine sq_normal ?_ | refine sq_exit ?_ | refine rl_nil ?_ | refine cond_f rfl ?_ | refine skip_ ?_ | refine ret_ ?_ | refine exit_ ?_ | refine inBlock_exit ?_ | refine kq_exit ?_ | (refine region_ (id := 5) ?_; (try (refine rl_move (v := (Value.int _ _ : Value)) rfl rfl ?_; (try (refine rl_move (v := (Value.int _ _ : Value)) rfl rfl ?_; (try ((refine rl_lss_f rfl rfl rfl ?_ ?_; omega)))))))) | (refine region_ (id := 13) ?_; (try (refine rl_move (v := (Value.int _ _ : Value)) rfl rfl ?_; (try ((refine rl_eql_f rfl rfl rfl ?_ ?_; omega); (try (refine rl_move (v := (Value.bool _ : Value)) rfl rfl ?_; (try (refine rl_off rfl ?_; (try (refine rl_off rfl ?_; (try (refine rl_off rfl ?_; (try (refine rl_off rfl ?_; (try (refine rl_pick (v := (Value.bool _ : Value)) rfl rfl rfl ?_))))))))))))))))) | (refine region_ (id := 15) ?_; (try (refine rl_move (v := (Value.string _ : Value)) rfl rfl ?_; (try ((refine rl_sadd rfl rfl rfl (by (first | omega | (simp only [List.length_append, List.length_cons, List.length_nil, List.length_take, List.length_drop] at *; omega))) ?_); (try ((refine rl_sadd rfl rfl rfl (by (first | omega | (simp only [List.length_append, List.length_cons, List.length_nil, List.length_take, List.length_drop] at *; omega))) ?_); (try (refine rl_assign (v := (Value.string _ : Value)) rfl rfl ?_)))))))))))
        exact bp_ret1 (v := St _) rfl rfl ⟨ps, true, by unfold ctx; rw [if_neg hne]; simp, hpe, hps, (fun h => by cases h), hM⟩
end Go.Proofs.YtadbinckjmdokaaDoor.Trd
