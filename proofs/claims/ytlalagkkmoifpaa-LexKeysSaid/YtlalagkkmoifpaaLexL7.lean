/- LexKeys. -/
import Derived.Test.YtlalagkkmoifpaaLexL5
import Derived.Test.YtlalagkkmoifpaaLexW16
set_option linter.unusedVariables false
set_option linter.unusedSimpArgs false
namespace Go.Proofs.Ytlalagkkmoifpaa.Lex
open Go Go.Eng Go.RowKit Go.Lx
attribute [local irreducible] RL RX KQ SQ Exit.inBlock Exit.then BP NP CallsOk IsSl IsRows IsInts IsBools Own Blk Code.wp Calls wpList
theorem keys_lex {k : List UInt8} (h : k ∈ keys) : lexA k = .ok [⟨5, k, 0, 0⟩, ⟨6, [], 0, ((k.length : Nat) : Int)⟩] := by
  simp only [keys, List.mem_cons, List.not_mem_nil, or_false] at h
  rcases h with rfl | rfl | rfl | rfl | rfl | rfl | rfl <;> rfl
set_option maxHeartbeats 2000000 in
theorem law7 (s : List UInt8) (n : Int) (w : World) (hs : s.length ≤ maxLen) (h1 : I64 n) : CallsOk Try.prog 7 #[St s, .int .i64 n] w fun r w' => r = .bool true ∧ Below w.heap.size w w' := by
  have hml := maxLen_le
  have hM := Mem.init w
  obtain ⟨w0, hw0⟩ : ∃ w0, w0 = w := ⟨_, rfl⟩
  obtain ⟨V, hVd⟩ : ∃ V, V = w.cell? := ⟨_, rfl⟩
  rw [← hVd] at hM
  have hM : Mem w0 w [] V := by rw [hw0]; exact hM
  have key : CallsOk Try.prog 7 #[St s, .int .i64 n] w fun r w' => r = .bool true ∧ Below w0.heap.size w0 w' := by
    refine enter_ (N := 69) Try.func7 rfl rfl rfl ?_
    (repeat (first | refine seq_ ?_ | refine sq_normal ?_ | refine rl_nil ?_ | (refine region_ (id := 0) ?_; (try (refine rl_assign (v := (Value.bool _ : Value)) rfl rfl ?_))) | (refine region_ (id := 1) ?_)))
    refine rl_callf fn20 (keys_ok w0 w _ V hM) rfl rfl ?_
    clear hM
    rintro _ w ⟨V1, hV1, hM, hk1⟩
    obtain ⟨_, _, _, _, hsh, _⟩ := id (IsTs.open' hk1)
    subst hsh
    (repeat (first | refine seq_ ?_ | refine sq_normal ?_ | refine rl_nil ?_ | (refine region_ (id := 2) ?_; (try (refine rl_move (v := (Value.slice _ _ _ : Value)) rfl rfl ?_))) | refine rl_assign (v := (Value.slice _ _ _ : Value)) rfl rfl ?_))
    refine rl_callf fn22 (refkeys_ok w0 w _ V1 hM) rfl rfl ?_
    clear hM
    rintro _ w ⟨V2, hV2, hM, hk2⟩
    skip
    refine rl_callf fn21 (sameTexts_ok _ _ keys keys w0 w _ V2 hM (hk1.mono hV2) hk2 (by decide) (by decide)) rfl rfl ?_
    clear hM
    rintro _ w ⟨rfl, hM⟩
    rw [decide_eq_true rfl]
    (repeat (first | refine seq_ ?_ | refine sq_normal ?_ | refine rl_nil ?_ | refine cond_f rfl ?_ | refine skip_ ?_ | (refine region_ (id := 4) ?_) | refine rl_not rfl rfl ?_))
    refine rl_callf fn22 (refkeys_ok w0 w _ V2 hM) rfl rfl ?_
    clear hM
    rintro _ w ⟨V3, hV3, hM, hk3⟩
    obtain ⟨_, c, b, off, rfl, q1, q2, q3, q4⟩ := IsTs.open' hk3
    have g := q3 (by decide)
    subst g
    have hr := around_lt n 7 (by omega)
    obtain ⟨k, hk⟩ : ∃ k, keys[(around n 7).toNat]? = some k := ⟨_, List.getElem?_eq_getElem (by show _ < 7; omega)⟩
    have hkm : k ∈ keys := List.mem_of_getElem? hk
    have hkl : k.length ≤ 10 := by
      have : ∀ k ∈ keys, k.length ≤ 10 := by decide
      exact this k hkm
    have hkv := q4 _ _ hk
    have hkeys : keys.length = 7 := rfl
    (repeat (first | refine rl_move (v := (Value.int _ _ : Value)) rfl rfl ?_))
    refine rl_callf fn18 (around_ok n 7 w h1.1 h1.2 (by omega) (by omega)) rfl rfl ?_
    rintro _ w ⟨rfl, rfl⟩
    (repeat (first | refine seq_ ?_ | refine sq_normal ?_ | refine rl_nil ?_ | (refine region_ (id := 5) ?_; (try (refine rl_move (v := (Value.string _ : Value)) rfl rfl ?_; (try (refine rl_move (v := (Value.string _ : Value)) rfl rfl ?_))))) | (first | (refine rl_idx1 sl23 rfl rfl rfl rfl ?_ ?_ ?_; omega; omega) | (apply rl_idx1 sl23 rfl rfl rfl; assumption; omega; omega)) | (first | refine rl_loadV hM vt9 rfl rfl (by first | assumption | exact VRow.get (by assumption) rfl | exact VRow.get0 (by assumption) rfl) ?_ | refine rl_loadM 0 hM vt9 rfl rfl rfl (by first | rfl | assumption) ?_ | refine rl_loadM 1 hM vt9 rfl rfl rfl (by first | rfl | assumption) ?_ | refine rl_loadM 2 hM vt9 rfl rfl rfl (by first | rfl | assumption) ?_ | refine rl_loadM 3 hM vt9 rfl rfl rfl (by first | rfl | assumption) ?_ | refine rl_loadM 4 hM vt9 rfl rfl rfl (by first | rfl | assumption) ?_ | refine rl_loadM 5 hM vt9 rfl rfl rfl (by first | rfl | assumption) ?_ | refine rl_loadM 6 hM vt9 rfl rfl rfl (by first | rfl | assumption) ?_ | refine rl_loadM 7 hM vt9 rfl rfl rfl (by first | rfl | assumption) ?_) | refine rl_assign (v := (Value.string _ : Value)) rfl rfl ?_))
    refine rl_callf fn10 (short_ok s 3 w (by omega) (by omega) (by omega)) rfl rfl ?_
    rintro _ w ⟨rfl, rfl⟩
    have hsl : (s.take (3 : Int).toNat).length ≤ 3 := by rw [List.length_take]; have : (3 : Int).toNat = 3 := rfl; omega
    (repeat (first | refine seq_ ?_ | refine sq_normal ?_ | refine rl_nil ?_ | (refine region_ (id := 6) ?_; (try (refine rl_move (v := (Value.string _ : Value)) rfl rfl ?_))) | refine rl_assign (v := (Value.string _ : Value)) rfl rfl ?_ | (refine rl_sadd rfl rfl rfl (by (first | omega | (simp only [List.length_append, List.length_cons, List.length_nil, List.length_take, List.length_drop] at *; omega))) ?_)))
    refine rl_callf fn12 (lex_ok k w0 w _ V3 hM (by omega)) rfl rfl ?_
    clear hM
    rintro _ w ⟨V4, v1, l1, e1, a1, hV4, hM, rfl, htk1, ho1⟩
    obtain ⟨rfl, rfl, rfl⟩ := told ho1 (keys_lex hkm)
    clear ho1
    obtain ⟨_, c1, b1, o1, rfl, k1, k2, k3, k4⟩ := htk1
    have g1 := k3 (by simp)
    subst g1
    have hl1 : (([⟨5, k, 0, 0⟩, ⟨6, [], 0, ((k.length : Nat) : Int)⟩] : List Tok).length : Int) = 2 := rfl
    have hr1 : VRow V4 b1 o1 [.int .i64 5, St k, .int .i64 0, .int .i64 0] := k4 0 _ rfl
    (repeat (first | refine seq_ ?_ | refine sq_normal ?_ | refine rl_nil ?_ | refine cond_f rfl ?_ | refine skip_ ?_ | (refine region_ (id := 7) ?_; (try ((first | refine rl_loadAV hM ag30 rfl rfl (by assumption) (by rfl) ?_ | refine rl_loadAM (vs := [_, _]) 0 hM ag30 rfl rfl rfl rfl rfl ?_ | refine rl_loadAM (vs := [_, _]) 1 hM ag30 rfl rfl rfl rfl rfl ?_ | refine rl_loadAM (vs := [_, _]) 2 hM ag30 rfl rfl rfl rfl rfl ?_ | refine rl_loadAM (vs := [_, _]) 3 hM ag30 rfl rfl rfl rfl rfl ?_ | refine rl_loadAM (vs := [_, _]) 4 hM ag30 rfl rfl rfl rfl rfl ?_ | refine rl_loadAM (vs := [_, _]) 5 hM ag30 rfl rfl rfl rfl rfl ?_ | refine rl_loadAM (vs := [_, _]) 6 hM ag30 rfl rfl rfl rfl rfl ?_ | refine rl_loadAM (vs := [_, _]) 7 hM ag30 rfl rfl rfl rfl rfl ?_); (try (refine rl_build [(Value.int .i64 0), (Value.int .i64 0)] ag30 pl30 rfl rfl rfl ?_; (try ((first | refine rl_aneq_f eq30 rfl rfl rfl rfl rfl (by first | rfl | assumption) ?_ | refine rl_aneq_t eq30 rfl rfl rfl rfl rfl (by assumption) ?_); (try (refine rl_move (v := (Value.bool _ : Value)) rfl rfl ?_; (try ((first | refine rl_off rfl ?_ | refine rl_move (v := (Value.slice _ _ _ : Value)) rfl rfl ?_); (try ((first | refine rl_off rfl ?_ | refine rl_len sl27 rfl rfl ?_); (try ((first | refine rl_off rfl ?_ | (refine rl_neq_t rfl rfl rfl ?_ ?_; omega) | (refine rl_neq_f rfl rfl rfl ?_ ?_; omega)); (try (refine rl_pick (v := (Value.bool _ : Value)) rfl rfl rfl ?_))))))))))))))))) | (refine region_ (id := 9) ?_; (try (refine rl_move (v := (Value.string _ : Value)) rfl rfl ?_))) | refine rl_assign (v := (Value.slice _ _ _ : Value)) rfl rfl ?_ | refine rl_move (v := (Value.tuple _ : Value)) rfl rfl ?_ | refine rl_extract rfl rfl rfl ?_ | (refine rl_allocAM (d := 9) hM ag30 rfl ?_; clear hM; intro w b9 hM) | (first | (refine rl_storeWM 0 hM ag30 rfl rfl rfl rfl rfl rfl rfl ?_; clear hM; intro w hM) | (refine rl_storeWM 1 hM ag30 rfl rfl rfl rfl rfl rfl rfl ?_; clear hM; intro w hM) | (refine rl_storeWM 2 hM ag30 rfl rfl rfl rfl rfl rfl rfl ?_; clear hM; intro w hM) | (refine rl_storeWM 3 hM ag30 rfl rfl rfl rfl rfl rfl rfl ?_; clear hM; intro w hM) | (refine rl_storeWM 4 hM ag30 rfl rfl rfl rfl rfl rfl rfl ?_; clear hM; intro w hM) | (refine rl_storeWM 5 hM ag30 rfl rfl rfl rfl rfl rfl rfl ?_; clear hM; intro w hM) | (refine rl_storeWM 6 hM ag30 rfl rfl rfl rfl rfl rfl rfl ?_; clear hM; intro w hM) | (refine rl_storeWM 7 hM ag30 rfl rfl rfl rfl rfl rfl rfl ?_; clear hM; intro w hM))))
    refine rl_callf fn12 (lex_ok (k ++ s.take (3 : Int).toNat) w0 w _ V4 hM (by rw [List.length_append]; omega)) rfl rfl ?_
    clear hM
    rintro _ w ⟨V5, v2, l2, e2, a2, hV5, hM, rfl, htk2, ho2⟩
    have hr1 := hr1.le hV5
    obtain ⟨_, _, _, _, hsh, _⟩ := id htk2
    subst hsh
    (repeat (first | refine seq_ ?_ | refine sq_normal ?_ | refine rl_nil ?_ | (refine region_ (id := 10) ?_; (try (refine rl_move (v := (Value.string _ : Value)) rfl rfl ?_))) | refine rl_assign (v := (Value.slice _ _ _ : Value)) rfl rfl ?_ | refine rl_move (v := (Value.tuple _ : Value)) rfl rfl ?_ | refine rl_extract rfl rfl rfl ?_ | (first | (refine rl_storeWM 0 hM ag30 rfl rfl rfl rfl rfl rfl rfl ?_; clear hM; intro w hM) | (refine rl_storeWM 1 hM ag30 rfl rfl rfl rfl rfl rfl rfl ?_; clear hM; intro w hM) | (refine rl_storeWM 2 hM ag30 rfl rfl rfl rfl rfl rfl rfl ?_; clear hM; intro w hM) | (refine rl_storeWM 3 hM ag30 rfl rfl rfl rfl rfl rfl rfl ?_; clear hM; intro w hM) | (refine rl_storeWM 4 hM ag30 rfl rfl rfl rfl rfl rfl rfl ?_; clear hM; intro w hM) | (refine rl_storeWM 5 hM ag30 rfl rfl rfl rfl rfl rfl rfl ?_; clear hM; intro w hM) | (refine rl_storeWM 6 hM ag30 rfl rfl rfl rfl rfl rfl rfl ?_; clear hM; intro w hM) | (refine rl_storeWM 7 hM ag30 rfl rfl rfl rfl rfl rfl rfl ?_; clear hM; intro w hM)) | (refine rl_allocAM (d := 11) hM ag30 rfl ?_; clear hM; intro w b11 hM)))
    refine rl_callf fn13 (reflex_ok (k ++ s.take (3 : Int).toNat) w0 w _ V5 hM (by rw [List.length_append]; omega)) rfl rfl ?_
    clear hM
    rintro _ w ⟨V6, v3, l3, e3, a3, hV6, hM, rfl, htk3, ho3⟩
    have hr1 := hr1.le hV6
    obtain ⟨_, _, _, _, hsh, _⟩ := id htk3
    subst hsh
    have hll : l2.length ≤ 1000000 := lex_len ho2 (by rw [List.length_append]; omega)
    obtain ⟨rfl, rfl, rfl⟩ := agree ho2 ho3
    (repeat (first | refine seq_ ?_ | refine sq_normal ?_ | refine rl_nil ?_ | (refine region_ (id := 11) ?_; (try (refine rl_move (v := (Value.slice _ _ _ : Value)) rfl rfl ?_; (try ((first | (refine rl_idx sl27 rfl rfl rfl rfl ?_ ?_ ?_; omega; omega) | (apply rl_idx sl27 rfl rfl rfl; assumption; omega; omega)); (try (refine rl_fld fd40_0 rfl rfl ?_; (try ((first | refine rl_loadV hM vt3 rfl rfl (by first | assumption | exact VRow.get (by assumption) rfl | exact VRow.get0 (by assumption) rfl) ?_ | refine rl_loadM 0 hM vt3 rfl rfl rfl (by first | rfl | assumption) ?_ | refine rl_loadM 1 hM vt3 rfl rfl rfl (by first | rfl | assumption) ?_ | refine rl_loadM 2 hM vt3 rfl rfl rfl (by first | rfl | assumption) ?_ | refine rl_loadM 3 hM vt3 rfl rfl rfl (by first | rfl | assumption) ?_ | refine rl_loadM 4 hM vt3 rfl rfl rfl (by first | rfl | assumption) ?_ | refine rl_loadM 5 hM vt3 rfl rfl rfl (by first | rfl | assumption) ?_ | refine rl_loadM 6 hM vt3 rfl rfl rfl (by first | rfl | assumption) ?_ | refine rl_loadM 7 hM vt3 rfl rfl rfl (by first | rfl | assumption) ?_); (try ((first | (refine rl_eql_t rfl rfl rfl ?_ ?_; omega) | (refine rl_eql_f rfl rfl rfl ?_ ?_; omega)); (try (refine rl_move (v := (Value.bool _ : Value)) rfl rfl ?_; (try ((first | refine rl_off rfl ?_ | refine rl_loadAV hM ag30 rfl rfl (by assumption) (by rfl) ?_ | refine rl_loadAM (vs := [_, _]) 0 hM ag30 rfl rfl rfl rfl rfl ?_ | refine rl_loadAM (vs := [_, _]) 1 hM ag30 rfl rfl rfl rfl rfl ?_ | refine rl_loadAM (vs := [_, _]) 2 hM ag30 rfl rfl rfl rfl rfl ?_ | refine rl_loadAM (vs := [_, _]) 3 hM ag30 rfl rfl rfl rfl rfl ?_ | refine rl_loadAM (vs := [_, _]) 4 hM ag30 rfl rfl rfl rfl rfl ?_ | refine rl_loadAM (vs := [_, _]) 5 hM ag30 rfl rfl rfl rfl rfl ?_ | refine rl_loadAM (vs := [_, _]) 6 hM ag30 rfl rfl rfl rfl rfl ?_ | refine rl_loadAM (vs := [_, _]) 7 hM ag30 rfl rfl rfl rfl rfl ?_); (try ((first | refine rl_off rfl ?_ | refine rl_loadAV hM ag30 rfl rfl (by assumption) (by rfl) ?_ | refine rl_loadAM (vs := [_, _]) 0 hM ag30 rfl rfl rfl rfl rfl ?_ | refine rl_loadAM (vs := [_, _]) 1 hM ag30 rfl rfl rfl rfl rfl ?_ | refine rl_loadAM (vs := [_, _]) 2 hM ag30 rfl rfl rfl rfl rfl ?_ | refine rl_loadAM (vs := [_, _]) 3 hM ag30 rfl rfl rfl rfl rfl ?_ | refine rl_loadAM (vs := [_, _]) 4 hM ag30 rfl rfl rfl rfl rfl ?_ | refine rl_loadAM (vs := [_, _]) 5 hM ag30 rfl rfl rfl rfl rfl ?_ | refine rl_loadAM (vs := [_, _]) 6 hM ag30 rfl rfl rfl rfl rfl ?_ | refine rl_loadAM (vs := [_, _]) 7 hM ag30 rfl rfl rfl rfl rfl ?_); (try ((first | refine rl_off rfl ?_ | refine rl_aeql_t eq30 rfl rfl rfl rfl rfl (by first | rfl | assumption) ?_ | refine rl_aeql_f eq30 rfl rfl rfl rfl rfl (by assumption) ?_); (try (refine rl_pick (v := (Value.bool _ : Value)) rfl rfl rfl ?_; (try (refine rl_move (v := (Value.bool _ : Value)) rfl rfl ?_; (try ((first | refine rl_off rfl ?_ | refine rl_move (v := (Value.slice _ _ _ : Value)) rfl rfl ?_); (try ((first | refine rl_off rfl ?_ | refine rl_move (v := (Value.slice _ _ _ : Value)) rfl rfl ?_)))))))))))))))))))))))))))) | refine rl_assign (v := (Value.slice _ _ _ : Value)) rfl rfl ?_ | refine rl_move (v := (Value.tuple _ : Value)) rfl rfl ?_ | refine rl_extract rfl rfl rfl ?_ | (first | (refine rl_storeWM 0 hM ag30 rfl rfl rfl rfl rfl rfl rfl ?_; clear hM; intro w hM) | (refine rl_storeWM 1 hM ag30 rfl rfl rfl rfl rfl rfl rfl ?_; clear hM; intro w hM) | (refine rl_storeWM 2 hM ag30 rfl rfl rfl rfl rfl rfl rfl ?_; clear hM; intro w hM) | (refine rl_storeWM 3 hM ag30 rfl rfl rfl rfl rfl rfl rfl ?_; clear hM; intro w hM) | (refine rl_storeWM 4 hM ag30 rfl rfl rfl rfl rfl rfl rfl ?_; clear hM; intro w hM) | (refine rl_storeWM 5 hM ag30 rfl rfl rfl rfl rfl rfl rfl ?_; clear hM; intro w hM) | (refine rl_storeWM 6 hM ag30 rfl rfl rfl rfl rfl rfl rfl ?_; clear hM; intro w hM) | (refine rl_storeWM 7 hM ag30 rfl rfl rfl rfl rfl rfl rfl ?_; clear hM; intro w hM)) | (refine rl_allocAM (d := 13) hM ag30 rfl ?_; clear hM; intro w b13 hM)))
    refine rl_callf fn14 (same_ok _ _ l2 l2 w0 w _ V6 hM (htk2.le hV6) htk3 hll hll) rfl rfl ?_
    clear hM
    rintro _ w ⟨rfl, hM⟩
    rw [decide_eq_true rfl]
    (repeat (first | refine rl_move (v := (Value.bool _ : Value)) rfl rfl ?_ | refine rl_pick (v := (Value.bool _ : Value)) rfl rfl rfl ?_))
    refine rl_callf fn15 (lives_ok w0 w _ V6 hM) rfl rfl ?_
    clear hM
    rintro _ w ⟨rfl, hM⟩
    (repeat (first | refine sq_normal ?_ | refine rl_nil ?_ | refine ret_ ?_ | refine rl_assign (v := (Value.bool _ : Value)) rfl rfl ?_ | refine rl_pick (v := (Value.bool _ : Value)) rfl rfl rfl ?_))
    exact bp_ret1 (v := Value.bool _) rfl rfl ⟨rfl, hM.below⟩
  rw [hw0] at key
  exact key
end Go.Proofs.Ytlalagkkmoifpaa.Lex
