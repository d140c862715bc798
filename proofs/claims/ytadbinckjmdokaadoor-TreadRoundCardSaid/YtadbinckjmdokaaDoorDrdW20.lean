/- The walks of fugueref04.Name, Con, fugueref01.Ints, fugueref04.build, Plain. -/
import Derived.Test.YtadbinckjmdokaaDoorDrdW19
import Derived.Test.YtadbinckjmdokaaDoorTxB
import Derived.Test.YtadbinckjmdokaaDoorDrdA11
set_option linter.unusedVariables false
set_option linter.unusedSimpArgs false
namespace Go.Proofs.YtadbinckjmdokaaDoor.Trd
open Go Go.Eng Go.RowKit Go.Tr Go.Lx
attribute [local irreducible] RL RX KQ SQ Exit.inBlock Exit.then BP NP CallsOk IsSl IsRows IsInts IsBools Own Blk Code.wp Calls wpList
theorem nm4_ok (n : Int) (hn : I64 n) (w0 w : World) (L : List Ent) (V : Vw) (hM : Mem w0 w L V) : CallsOk Tryd.prog 20 #[.int .i64 n] w fun r w' => ∃ s, r = St s ∧ s ∈ names4 ∧ Mem w0 w' L V := by
  refine enter_ (N := 8) Tryd.func20 rfl rfl rfl ?_
  (repeat (first | refine seq_ ?_ | refine sq_normal ?_ | refine rl_nil ?_ | (refine region_ (id := 0) ?_; (try (refine rl_assign (v := (Value.string _ : Value)) rfl rfl ?_))) | (refine region_ (id := 1) ?_; (try ((refine rl_bsliceM (d := 3) [_, _, _, _] hM sl28 rfl rfl rfl rfl rfl (by decide) (by decide) ?_; clear hM; intro w b3 hM); (try (refine rl_move (v := (Value.int _ _ : Value)) rfl rfl ?_)))))))
  refine rl_callf fn5 (around_ok n 4 w hn.1 hn.2 (by omega) (by omega)) rfl rfl ?_
  rintro _ w ⟨rfl, rfl⟩
  have hr := around_lt n 4 (by omega)
  obtain ⟨y, hy⟩ : ∃ y, names4[(around n 4).toNat]? = some y := ⟨_, List.getElem?_eq_getElem (by show _ < 4; omega)⟩
  have hu : (names4.map St)[0 + (around n 4).toNat]? = some (St y) := by rw [Nat.zero_add]; simp [hy]
  (repeat (first | refine sq_normal ?_ | refine rl_nil ?_ | refine ret_ ?_ | refine rl_assign (v := (Value.string _ : Value)) rfl rfl ?_ | (refine rl_idx1 sl28 rfl rfl rfl rfl ?_ ?_ ?_; omega; omega) | refine rl_loadM 0 hM vt9 rfl rfl rfl (by first | rfl | assumption) ?_))
  exact bp_ret1 (v := St _) rfl rfl ⟨y, rfl, List.mem_of_getElem? hy, hM.dropn 1⟩
theorem con6_ok (n : Int) (hn : I64 n) (w0 w : World) (L : List Ent) (V : Vw) (hM : Mem w0 w L V) : CallsOk Tryd.prog 43 #[.int .i64 n] w fun r w' => ∃ s, r = St s ∧ s ∈ cons6 ∧ Mem w0 w' L V := by
  refine enter_ (N := 8) Tryd.func43 rfl rfl rfl ?_
  (repeat (first | refine seq_ ?_ | refine sq_normal ?_ | refine rl_nil ?_ | (refine region_ (id := 0) ?_; (try (refine rl_assign (v := (Value.string _ : Value)) rfl rfl ?_))) | (refine region_ (id := 1) ?_; (try ((refine rl_bsliceM (d := 3) [_, _, _, _, _, _] hM sl28 rfl rfl rfl rfl rfl (by decide) (by decide) ?_; clear hM; intro w b3 hM); (try (refine rl_move (v := (Value.int _ _ : Value)) rfl rfl ?_)))))))
  refine rl_callf fn5 (around_ok n 6 w hn.1 hn.2 (by omega) (by omega)) rfl rfl ?_
  rintro _ w ⟨rfl, rfl⟩
  have hr := around_lt n 6 (by omega)
  obtain ⟨y, hy⟩ : ∃ y, cons6[(around n 6).toNat]? = some y := ⟨_, List.getElem?_eq_getElem (by show _ < 6; omega)⟩
  have hu : (cons6.map St)[0 + (around n 6).toNat]? = some (St y) := by rw [Nat.zero_add]; simp [hy]
  (repeat (first | refine sq_normal ?_ | refine rl_nil ?_ | refine ret_ ?_ | refine rl_assign (v := (Value.string _ : Value)) rfl rfl ?_ | (refine rl_idx1 sl28 rfl rfl rfl rfl ?_ ?_ ?_; omega; omega) | refine rl_loadM 0 hM vt9 rfl rfl rfl (by first | rfl | assumption) ?_))
  exact bp_ret1 (v := St _) rfl rfl ⟨y, rfl, List.mem_of_getElem? hy, hM.dropn 1⟩
theorem ints_ok (w0 w : World) (L : List Ent) (V : Vw) (v : Value) (xs : List Int) (m : Int) (hM : Mem w0 w L V) (hm : 0 ≤ m) (hm2 : m ≤ 1000) (hx : IsInts V v xs) :
    CallsOk Tryd.prog 30 #[v, .int .i64 m] w fun v' w' => ∃ V', VLe V V' ∧ Mem w0 w' L V' ∧ IsInts V' v' (xs.take m.toNat) := by
  obtain ⟨a, c, b, off, rfl, h1, h2, h3, h4⟩ := hx.open
  have hml := maxLen_le
  refine enter_ (N := 14) Tryd.func30 rfl rfl rfl ?_
  (repeat (first | refine seq_ ?_ | refine sq_normal ?_ | refine rl_nil ?_ | (refine region_ (id := 0) ?_; (try (refine rl_assign (v := (Value.slice _ _ _ : Value)) rfl rfl ?_))) | (refine region_ (id := 1) ?_; (try (refine rl_assign (v := (Value.slice _ _ _ : Value)) rfl rfl ?_))) | (refine region_ (id := 2) ?_; (try (refine rl_move (v := (Value.slice _ _ _ : Value)) rfl rfl ?_; (try (refine rl_move (v := (Value.slice _ _ _ : Value)) rfl rfl ?_; (try (refine rl_move (v := (Value.slice _ _ _ : Value)) rfl rfl ?_; (try (refine rl_len sl22 rfl rfl ?_; (try (refine rl_move (v := (Value.int _ _ : Value)) rfl rfl ?_; (try (refine rl_min rfl rfl rfl ?_; (try ((refine rl_slice_h sl22 rfl rfl rfl ?_ ?_ ?_ ?_; omega; omega; omega))))))))))))))))))
  obtain ⟨m8, hm8⟩ : ∃ m8 : Nat, m8 = (min (xs.length : Int) m).toNat := ⟨_, rfl⟩
  have hlen : (xs.take m.toNat).length = m8 := by simp; omega
  refine rl_appendM 0 (news := (xs.take m.toNat).map (Value.int .i64)) (B := b) (off := off) (hM.newOwn 3 1) sl22 rfl (by decide) rfl ?_ rfl rfl rfl ?_ ?_ ?_ ?_ ?_ ?_
  · intro j u hu
    rw [List.getElem?_map, Option.map_eq_some_iff] at hu
    obtain ⟨x, hx, rfl⟩ := hu
    rw [List.getElem?_take] at hx
    split at hx
    · exact hM.view (h4 _ _ hx)
    · cases hx
  · intro h; exact h3 (by omega)
  · rw [List.length_map, hlen, ← hm8]; omega
  · intro u hu
    obtain ⟨x, _, rfl⟩ := List.mem_map.1 hu
    rfl
  · unfold maxLen; omega
  · omega
  clear hM
  intro w a3 c3 _ _ hM
  (repeat (first | refine sq_normal ?_ | refine rl_nil ?_ | refine ret_ ?_ | refine rl_assign (v := (Value.slice _ _ _ : Value)) rfl rfl ?_))
  obtain ⟨V', hV, hM', a', c', b', e1, e2, e3, e4, e5⟩ := Mem.freezeOwn hM
  cases e1
  refine bp_ret1 (v := Value.slice _ _ _) rfl rfl ⟨V', hV, hM', ?_⟩
  exact isInts_of (by omega) (by omega) e3 (fun h => e4 (by omega)) e5 (fun x hx' => hx.rng x (List.mem_of_mem_take hx'))
/-- A type, made, and what is left of the numbers. -/
def BuildP (w0 : World) (L : List Ent) (V : Vw) (k : Nat) (r : Value) (w' : World) : Prop :=
  ∃ V' cs t v ys, VLe V V' ∧ Mem w0 w' L V' ∧ r = .tuple #[.agg cs.toArray, v] ∧ TyV V' t cs ∧ Bd k t ∧ IsInts V' v ys
theorem cons6_len {s : B} (h : s ∈ cons6) : s.length ≤ 1000000 := by
  have : ∀ s ∈ cons6, s.length ≤ 1000000 := by decide
  exact this s h
theorem names4_len {s : B} (h : s ∈ names4) : s.length ≤ 1000000 := by
  have : ∀ s ∈ names4, s.length ≤ 1000000 := by decide
  exact this s h
/-- What building is to do where k levels are left. -/
def BuildC (k d : Nat) : Prop := ∀ (v : Value) (xs : List Int) (w0 w : World) (L : List Ent) (V : Vw), Mem w0 w L V → IsInts V v xs →
    CallsOk Tryd.prog 29 #[v, .int .i64 d, .bool false] w (BuildP w0 L V k)
set_option maxRecDepth 4000 in
set_option maxHeartbeats 8000000 in
theorem build_step (k d : Nat) (hd : k + d = 5) (ih : ∀ k' d', k = k' + 1 → k' + d' = 5 → BuildC k' d') : BuildC k d := by
  intro v xs w0 w L V hM hx
  obtain ⟨a, c, b, off, rfl, h1, h2, h3, h4⟩ := id hx.open
  have hml := maxLen_le
  refine enter_ (N := 90) Tryd.func29 rfl rfl rfl ?_
  cases xs with
  | nil =>
    have hq0 : ((([] : List Int).length : Nat) : Int) = 0 := rfl
    (repeat (first | refine seq_ ?_ | refine sq_normal ?_ | refine sq_ret ?_ | refine rl_nil ?_ | refine cond_t rfl ?_ | refine ret_ ?_ | (refine region_ (id := 0) ?_; (try ((refine rl_allocAM (d := 6) hM ag26 rfl ?_; clear hM; intro w b6 hM); (try (refine rl_assign (v := (Value.slice _ _ _ : Value)) rfl rfl ?_))))) | (refine region_ (id := 1) ?_; (try (refine rl_move (v := (Value.slice _ _ _ : Value)) rfl rfl ?_; (try (refine rl_len sl22 rfl rfl ?_; (try ((refine rl_eql_t rfl rfl rfl ?_ ?_; omega)))))))) | (refine region_ (id := 2) ?_; (try (refine rl_build [_, (Value.int .i64 0), _, (Value.slice none 0 0)] ag26 pl26 rfl rfl rfl ?_; (try (refine rl_move (v := (Value.slice _ _ _ : Value)) rfl rfl ?_; (try ((refine rl_storeWM 0 hM ag26 rfl rfl rfl rfl rfl rfl rfl ?_; clear hM; intro w hM); (try (refine rl_assign (v := (Value.slice _ _ _ : Value)) rfl rfl ?_)))))))))))
    exact bp_x2 rfl rfl (res_M 0 hM ag26 rfl rfl rfl) (res_tmp rfl) ⟨V, _, .lf 3 0 [73, 110, 116], _, [], VLe.refl _, hM.dropn 1, rfl, TyV.hlf (by decide) (by decide) i64z (by decide), Bd.leaf (.inr (.inr ⟨rfl, rfl, by decide⟩)), hx⟩
  | cons z zs =>
    have hlz : (z :: zs).length = zs.length + 1 := rfl
    have h3' := h3 (by omega)
    subst h3'
    have h40 := h4 0 z rfl
    have hrng := hx.rng z (by simp)
    (repeat (first | refine seq_ ?_ | refine sq_normal ?_ | refine rl_nil ?_ | refine cond_f rfl ?_ | refine skip_ ?_ | (refine region_ (id := 0) ?_; (try ((refine rl_allocAM (d := 6) hM ag26 rfl ?_; clear hM; intro w b6 hM); (try (refine rl_assign (v := (Value.slice _ _ _ : Value)) rfl rfl ?_))))) | (refine region_ (id := 1) ?_; (try (refine rl_move (v := (Value.slice _ _ _ : Value)) rfl rfl ?_; (try (refine rl_len sl22 rfl rfl ?_; (try ((refine rl_eql_f rfl rfl rfl ?_ ?_; omega)))))))) | (refine region_ (id := 3) ?_; (try (refine rl_move (v := (Value.slice _ _ _ : Value)) rfl rfl ?_; (try ((refine rl_idx1 sl22 rfl rfl rfl rfl ?_ ?_ ?_; omega; omega); (try (refine rl_loadV hM vt3 rfl rfl (by first | assumption | exact VRow.get (by assumption) rfl | exact VRow.get0 (by assumption) rfl) ?_)))))))))
    refine rl_callf fn5 (around_ok z 40 w hrng.1 hrng.2 (by omega) (by omega)) rfl rfl ?_
    rintro _ w ⟨rfl, rfl⟩
    have hn := around_lt z 40 (by omega)
    obtain ⟨n, hnd⟩ : ∃ n, n = around z 40 := ⟨_, rfl⟩
    rw [← hnd] at hn ⊢
    have hi10 : I64 (n / 10) := by unfold I64; omega
    have hi5 : I64 (n / 5) := by unfold I64; omega
    (repeat (first | refine seq_ ?_ | refine sq_normal ?_ | refine rl_nil ?_ | (refine region_ (id := 4) ?_; (try (refine rl_move (v := (Value.slice _ _ _ : Value)) rfl rfl ?_))) | refine rl_assign (v := (Value.int _ _ : Value)) rfl rfl ?_))
    refine rl_slice_l sl22 rfl rfl rfl h3 (by omega) (by omega) h1 ?_
    intro a' ha'
    have hzs : IsInts V (.slice a' ((z :: zs).length - (1 : Int).toNat) (c - (1 : Int).toNat)) zs := by
      refine isInts_of (b := b) (off := off + (1 : Int).toNat * 1) ?_ ?_ ?_ ?_ ?_ ?_
      · rw [hlz]; rfl
      · have : (1 : Int).toNat = 1 := rfl
        rw [this]; omega
      · omega
      · intro h0
        exact ha' (by rw [hlz]; omega)
      · intro i u hu
        rw [List.getElem?_map, Option.map_eq_some_iff] at hu
        obtain ⟨x, hx', rfl⟩ := hu
        have := h4 (i + 1) x (by simpa using hx')
        rw [show off + (1 : Int).toNat * 1 + i = off + (i + 1) by have : (1 : Int).toNat = 1 := rfl; rw [this]; omega]
        exact this
      · exact fun x hx' => hx.rng x (by simp [hx'])
    by_cases hd4 : (d : Int) > 4
    · (repeat (first | refine seq_ ?_ | refine sq_normal ?_ | refine rl_nil ?_ | refine cond_t rfl ?_ | (refine region_ (id := 5) ?_; (try (refine rl_move (v := (Value.int _ _ : Value)) rfl rfl ?_; (try ((refine rl_rem rfl rfl rfl ?_ ?_ ?_; omega; omega); (try (refine rl_assign (v := (Value.int _ _ : Value)) rfl rfl ?_))))))) | (refine region_ (id := 6) ?_; (try (refine rl_move (v := (Value.int _ _ : Value)) rfl rfl ?_; (try ((refine rl_gtr_t rfl rfl rfl ?_ ?_; omega)))))) | (refine region_ (id := 7) ?_; (try (refine rl_move (v := (Value.int _ _ : Value)) rfl rfl ?_; (try ((refine rl_rem rfl rfl rfl ?_ ?_ ?_; omega; omega); (try (refine rl_assign (v := (Value.int _ _ : Value)) rfl rfl ?_))))))) | (refine region_ (id := 8) ?_; (try (refine rl_move (v := (Value.int _ _ : Value)) rfl rfl ?_))) | refine rl_assign (v := (Value.slice _ _ _ : Value)) rfl rfl ?_))
      by_cases c2 : n % 5 < 2
      · (repeat (first | refine seq_ ?_ | refine sq_normal ?_ | refine rl_nil ?_ | refine cond_t rfl ?_ | (refine region_ (id := 9) ?_; (try (refine rl_move (v := (Value.int _ _ : Value)) rfl rfl ?_; (try ((refine rl_quo rfl rfl rfl ?_ ?_ ?_ ?_; omega; omega; omega)))))) | (refine rl_lss_t rfl rfl rfl ?_ ?_; omega)))
        refine rl_callf fn20 (nm4_ok (n / 10) hi10 w0 w _ V hM) rfl rfl ?_
        clear hM
        rintro _ w ⟨s, rfl, hs, hM⟩
        (repeat (first | refine sq_normal ?_ | refine sq_ret ?_ | refine rl_nil ?_ | refine ret_ ?_ | refine rl_assign (v := (Value.slice _ _ _ : Value)) rfl rfl ?_ | refine rl_move (v := (Value.slice _ _ _ : Value)) rfl rfl ?_ | refine rl_build [_, (Value.int .i64 0), _, (Value.slice none 0 0)] ag26 pl26 rfl rfl rfl ?_ | (refine rl_storeWM 0 hM ag26 rfl rfl rfl rfl rfl rfl rfl ?_; clear hM; intro w hM)))
        exact bp_x2 rfl rfl (res_M 0 hM ag26 rfl rfl rfl) (res_tmp rfl) ⟨V, _, .lf 2 0 s, _, zs, VLe.refl _, hM.dropn 1, rfl, TyV.hlf (by decide) (by decide) i64z (names4_len hs), Bd.leaf (.inr (.inl ⟨rfl, rfl, hs⟩)), hzs⟩
      · by_cases c3 : n % 5 < 3
        · (repeat (first | refine seq_ ?_ | refine sq_normal ?_ | refine sq_ret ?_ | refine rl_nil ?_ | refine cond_t rfl ?_ | refine cond_f rfl ?_ | refine skip_ ?_ | refine ret_ ?_ | (refine region_ (id := 10) ?_; (try (refine rl_move (v := (Value.int _ _ : Value)) rfl rfl ?_; (try ((refine rl_lss_t rfl rfl rfl ?_ ?_; omega)))))) | (refine region_ (id := 11) ?_; (try (refine rl_move (v := (Value.int _ _ : Value)) rfl rfl ?_; (try ((refine rl_quo rfl rfl rfl ?_ ?_ ?_ ?_; omega; omega; omega); (try ((refine rl_add rfl rfl rfl ?_ ?_ ?_; omega; omega); (try (refine rl_build [_, _, (St []), (Value.slice none 0 0)] ag26 pl26 rfl rfl rfl ?_; (try (refine rl_move (v := (Value.slice _ _ _ : Value)) rfl rfl ?_; (try ((refine rl_storeWM 0 hM ag26 rfl rfl rfl rfl rfl rfl rfl ?_; clear hM; intro w hM); (try (refine rl_assign (v := (Value.slice _ _ _ : Value)) rfl rfl ?_))))))))))))))) | (refine rl_lss_f rfl rfl rfl ?_ ?_; omega)))
          exact bp_x2 rfl rfl (res_M 0 hM ag26 rfl rfl rfl) (res_tmp rfl) ⟨V, _, .lf 1 (1 + n / 10) [], _, zs, VLe.refl _, hM.dropn 1, rfl, TyV.hlf (by decide) (by decide) (by unfold I64; omega) (by simp), Bd.leaf (.inl ⟨rfl, by omega, by omega, rfl⟩), hzs⟩
        · by_cases c5 : n % 5 < 5
          · (repeat (first | refine seq_ ?_ | refine sq_normal ?_ | refine rl_nil ?_ | refine cond_t rfl ?_ | refine cond_f rfl ?_ | refine skip_ ?_ | (refine region_ (id := 10) ?_; (try (refine rl_move (v := (Value.int _ _ : Value)) rfl rfl ?_; (try ((refine rl_lss_f rfl rfl rfl ?_ ?_; omega)))))) | (refine region_ (id := 12) ?_; (try (refine rl_move (v := (Value.int _ _ : Value)) rfl rfl ?_; (try ((refine rl_lss_t rfl rfl rfl ?_ ?_; omega)))))) | (refine region_ (id := 13) ?_; (try (refine rl_move (v := (Value.int _ _ : Value)) rfl rfl ?_; (try ((refine rl_quo rfl rfl rfl ?_ ?_ ?_ ?_; omega; omega; omega)))))) | (refine rl_lss_f rfl rfl rfl ?_ ?_; omega)))
            refine rl_callf fn43 (con6_ok (n / 5) hi5 w0 w _ V hM) rfl rfl ?_
            clear hM
            rintro _ w ⟨s, rfl, hs, hM⟩
            (repeat (first | refine sq_normal ?_ | refine sq_ret ?_ | refine rl_nil ?_ | refine ret_ ?_ | refine rl_assign (v := (Value.slice _ _ _ : Value)) rfl rfl ?_ | refine rl_move (v := (Value.slice _ _ _ : Value)) rfl rfl ?_ | refine rl_build [_, (Value.int .i64 0), _, (Value.slice none 0 0)] ag26 pl26 rfl rfl rfl ?_ | (refine rl_storeWM 0 hM ag26 rfl rfl rfl rfl rfl rfl rfl ?_; clear hM; intro w hM)))
            exact bp_x2 rfl rfl (res_M 0 hM ag26 rfl rfl rfl) (res_tmp rfl) ⟨V, _, .lf 3 0 s, _, zs, VLe.refl _, hM.dropn 1, rfl, TyV.hlf (by decide) (by decide) i64z (cons6_len hs), Bd.leaf (.inr (.inr ⟨rfl, rfl, hs⟩)), hzs⟩
          · exact absurd c5 (by omega)
    · (repeat (first | refine seq_ ?_ | refine sq_normal ?_ | refine rl_nil ?_ | refine cond_f rfl ?_ | refine skip_ ?_ | (refine region_ (id := 5) ?_; (try (refine rl_move (v := (Value.int _ _ : Value)) rfl rfl ?_; (try ((refine rl_rem rfl rfl rfl ?_ ?_ ?_; omega; omega); (try (refine rl_assign (v := (Value.int _ _ : Value)) rfl rfl ?_))))))) | (refine region_ (id := 6) ?_; (try (refine rl_move (v := (Value.int _ _ : Value)) rfl rfl ?_; (try ((refine rl_gtr_f rfl rfl rfl ?_ ?_; omega)))))) | (refine region_ (id := 8) ?_; (try (refine rl_move (v := (Value.int _ _ : Value)) rfl rfl ?_))) | refine rl_assign (v := (Value.slice _ _ _ : Value)) rfl rfl ?_))
      by_cases c2 : n % 10 < 2
      · (repeat (first | refine seq_ ?_ | refine sq_normal ?_ | refine rl_nil ?_ | refine cond_t rfl ?_ | (refine region_ (id := 9) ?_; (try (refine rl_move (v := (Value.int _ _ : Value)) rfl rfl ?_; (try ((refine rl_quo rfl rfl rfl ?_ ?_ ?_ ?_; omega; omega; omega)))))) | (refine rl_lss_t rfl rfl rfl ?_ ?_; omega)))
        refine rl_callf fn20 (nm4_ok (n / 10) hi10 w0 w _ V hM) rfl rfl ?_
        clear hM
        rintro _ w ⟨s, rfl, hs, hM⟩
        (repeat (first | refine sq_normal ?_ | refine sq_ret ?_ | refine rl_nil ?_ | refine ret_ ?_ | refine rl_assign (v := (Value.slice _ _ _ : Value)) rfl rfl ?_ | refine rl_move (v := (Value.slice _ _ _ : Value)) rfl rfl ?_ | refine rl_build [_, (Value.int .i64 0), _, (Value.slice none 0 0)] ag26 pl26 rfl rfl rfl ?_ | (refine rl_storeWM 0 hM ag26 rfl rfl rfl rfl rfl rfl rfl ?_; clear hM; intro w hM)))
        exact bp_x2 rfl rfl (res_M 0 hM ag26 rfl rfl rfl) (res_tmp rfl) ⟨V, _, .lf 2 0 s, _, zs, VLe.refl _, hM.dropn 1, rfl, TyV.hlf (by decide) (by decide) i64z (names4_len hs), Bd.leaf (.inr (.inl ⟨rfl, rfl, hs⟩)), hzs⟩
      · by_cases c3 : n % 10 < 3
        · (repeat (first | refine seq_ ?_ | refine sq_normal ?_ | refine sq_ret ?_ | refine rl_nil ?_ | refine cond_t rfl ?_ | refine cond_f rfl ?_ | refine skip_ ?_ | refine ret_ ?_ | (refine region_ (id := 10) ?_; (try (refine rl_move (v := (Value.int _ _ : Value)) rfl rfl ?_; (try ((refine rl_lss_t rfl rfl rfl ?_ ?_; omega)))))) | (refine region_ (id := 11) ?_; (try (refine rl_move (v := (Value.int _ _ : Value)) rfl rfl ?_; (try ((refine rl_quo rfl rfl rfl ?_ ?_ ?_ ?_; omega; omega; omega); (try ((refine rl_add rfl rfl rfl ?_ ?_ ?_; omega; omega); (try (refine rl_build [_, _, (St []), (Value.slice none 0 0)] ag26 pl26 rfl rfl rfl ?_; (try (refine rl_move (v := (Value.slice _ _ _ : Value)) rfl rfl ?_; (try ((refine rl_storeWM 0 hM ag26 rfl rfl rfl rfl rfl rfl rfl ?_; clear hM; intro w hM); (try (refine rl_assign (v := (Value.slice _ _ _ : Value)) rfl rfl ?_))))))))))))))) | (refine rl_lss_f rfl rfl rfl ?_ ?_; omega)))
          exact bp_x2 rfl rfl (res_M 0 hM ag26 rfl rfl rfl) (res_tmp rfl) ⟨V, _, .lf 1 (1 + n / 10) [], _, zs, VLe.refl _, hM.dropn 1, rfl, TyV.hlf (by decide) (by decide) (by unfold I64; omega) (by simp), Bd.leaf (.inl ⟨rfl, by omega, by omega, rfl⟩), hzs⟩
        · by_cases c5 : n % 10 < 5
          · (repeat (first | refine seq_ ?_ | refine sq_normal ?_ | refine rl_nil ?_ | refine cond_t rfl ?_ | refine cond_f rfl ?_ | refine skip_ ?_ | (refine region_ (id := 10) ?_; (try (refine rl_move (v := (Value.int _ _ : Value)) rfl rfl ?_; (try ((refine rl_lss_f rfl rfl rfl ?_ ?_; omega)))))) | (refine region_ (id := 12) ?_; (try (refine rl_move (v := (Value.int _ _ : Value)) rfl rfl ?_; (try ((refine rl_lss_t rfl rfl rfl ?_ ?_; omega)))))) | (refine region_ (id := 13) ?_; (try (refine rl_move (v := (Value.int _ _ : Value)) rfl rfl ?_; (try ((refine rl_quo rfl rfl rfl ?_ ?_ ?_ ?_; omega; omega; omega)))))) | (refine rl_lss_f rfl rfl rfl ?_ ?_; omega)))
            refine rl_callf fn43 (con6_ok (n / 5) hi5 w0 w _ V hM) rfl rfl ?_
            clear hM
            rintro _ w ⟨s, rfl, hs, hM⟩
            (repeat (first | refine sq_normal ?_ | refine sq_ret ?_ | refine rl_nil ?_ | refine ret_ ?_ | refine rl_assign (v := (Value.slice _ _ _ : Value)) rfl rfl ?_ | refine rl_move (v := (Value.slice _ _ _ : Value)) rfl rfl ?_ | refine rl_build [_, (Value.int .i64 0), _, (Value.slice none 0 0)] ag26 pl26 rfl rfl rfl ?_ | (refine rl_storeWM 0 hM ag26 rfl rfl rfl rfl rfl rfl rfl ?_; clear hM; intro w hM)))
            exact bp_x2 rfl rfl (res_M 0 hM ag26 rfl rfl rfl) (res_tmp rfl) ⟨V, _, .lf 3 0 s, _, zs, VLe.refl _, hM.dropn 1, rfl, TyV.hlf (by decide) (by decide) i64z (cons6_len hs), Bd.leaf (.inr (.inr ⟨rfl, rfl, hs⟩)), hzs⟩
          · obtain ⟨k, rfl⟩ : ∃ k', k = k' + 1 := ⟨k - 1, by omega⟩
            (repeat (first | refine seq_ ?_ | refine sq_normal ?_ | refine rl_nil ?_ | refine cond_f rfl ?_ | refine skip_ ?_ | (refine region_ (id := 10) ?_; (try (refine rl_move (v := (Value.int _ _ : Value)) rfl rfl ?_; (try ((refine rl_lss_f rfl rfl rfl ?_ ?_; omega)))))) | (refine region_ (id := 12) ?_; (try (refine rl_move (v := (Value.int _ _ : Value)) rfl rfl ?_; (try ((refine rl_lss_f rfl rfl rfl ?_ ?_; omega)))))) | (refine region_ (id := 14) ?_; (try (refine rl_move (v := (Value.slice _ _ _ : Value)) rfl rfl ?_; (try (refine rl_move (v := (Value.int _ _ : Value)) rfl rfl ?_; (try ((refine rl_add rfl rfl rfl ?_ ?_ ?_; omega; omega); (try (refine rl_move (v := (Value.bool _ : Value)) rfl rfl ?_))))))))) | (refine rl_lss_f rfl rfl rfl ?_ ?_; omega)))
            refine rl_callf fn29 (ih k (d + 1) rfl (by omega) _ zs w0 w _ V hM hzs) rfl rfl ?_
            clear hM
            rintro _ w ⟨V1, cs, t, v1, ys, hV1, hM, rfl, hc, hb, hy⟩
            obtain ⟨f1, n1, s1, a1, k1, c1, rfl, _⟩ := id hc.shape
            obtain ⟨ya, yc, yb, yo, rfl, _⟩ := id hy.open
            by_cases c8 : n % 10 < 8
            · have c9 : n % 10 ≠ 9 := by omega
              (repeat (first | refine seq_ ?_ | refine sq_normal ?_ | refine rl_nil ?_ | refine cond_f rfl ?_ | refine skip_ ?_ | (refine region_ (id := 15) ?_; (try (refine rl_move (v := (Value.int _ _ : Value)) rfl rfl ?_; (try ((refine rl_eql_f rfl rfl rfl ?_ ?_; omega); (try (refine rl_move (v := (Value.bool _ : Value)) rfl rfl ?_; (try (refine rl_off rfl ?_; (try (refine rl_pick (v := (Value.bool _ : Value)) rfl rfl rfl ?_))))))))))) | (refine region_ (id := 17) ?_; (try (refine rl_move (v := (Value.slice _ _ _ : Value)) rfl rfl ?_; (try (refine rl_move (v := (Value.int _ _ : Value)) rfl rfl ?_; (try ((refine rl_add rfl rfl rfl ?_ ?_ ?_; omega; omega); (try (refine rl_move (v := (Value.bool _ : Value)) rfl rfl ?_))))))))) | refine rl_assign (v := (Value.slice _ _ _ : Value)) rfl rfl ?_ | (refine rl_storeWM 0 hM ag26 rfl rfl rfl rfl rfl rfl rfl ?_; clear hM; intro w hM) | refine rl_move (v := (Value.tuple _ : Value)) rfl rfl ?_ | refine rl_extract rfl rfl rfl ?_ | (refine rl_allocAM (d := 10) hM ag26 rfl ?_; clear hM; intro w b10 hM)))
              refine rl_callf fn29 (ih _ (d + 1) rfl (by omega) _ ys w0 w _ V1 hM hy) rfl rfl ?_
              clear hM
              rintro _ w ⟨V2, cs2, t2, v2, ys2, hV2, hM, rfl, hc2, hb2, hy2⟩
              obtain ⟨f2, n2, s2, a2, k2, c2', rfl, _⟩ := id hc2.shape
              obtain ⟨ya2, yc2, yb2, yo2, rfl, _⟩ := id hy2.open
              (repeat (first | refine seq_ ?_ | refine sq_normal ?_ | refine rl_nil ?_ | refine cond_t rfl ?_ | (refine region_ (id := 18) ?_; (try (refine rl_move (v := (Value.int _ _ : Value)) rfl rfl ?_; (try ((refine rl_lss_t rfl rfl rfl ?_ ?_; omega)))))) | (refine region_ (id := 19) ?_; (try (refine rl_loadAM (vs := [_, _, _, _]) 1 hM ag26 rfl rfl rfl rfl rfl ?_; (try (refine rl_loadAM (vs := [_, _, _, _]) 0 hM ag26 rfl rfl rfl rfl rfl ?_))))) | refine rl_assign (v := (Value.slice _ _ _ : Value)) rfl rfl ?_ | (refine rl_storeWM 0 hM ag26 rfl rfl rfl rfl rfl rfl rfl ?_; clear hM; intro w hM) | refine rl_move (v := (Value.tuple _ : Value)) rfl rfl ?_ | refine rl_extract rfl rfl rfl ?_ | (refine rl_allocAM (d := 12) hM ag26 rfl ?_; clear hM; intro w b12 hM)))
              refine rl_callf fn28 (rfun_ok t t2 _ _ w0 w _ V2 hM (hc.le hV2) hc2) rfl rfl ?_
              clear hM
              rintro _ w ⟨V3, cs3, hV3, hM, rfl, hc3⟩
              obtain ⟨f3, n3, s3, a3, k3, c3, rfl, _⟩ := id hc3.shape
              (repeat (first | refine sq_normal ?_ | refine sq_ret ?_ | refine rl_nil ?_ | refine ret_ ?_ | refine rl_assign (v := (Value.slice _ _ _ : Value)) rfl rfl ?_ | refine rl_move (v := (Value.slice _ _ _ : Value)) rfl rfl ?_ | (refine rl_storeWM 2 hM ag26 rfl rfl rfl rfl rfl rfl rfl ?_; clear hM; intro w hM)))
              exact bp_x2 rfl rfl (res_M 2 hM ag26 rfl rfl rfl) (res_tmp rfl) ⟨V3, _, .fn t t2, _, _, hV1.trans (hV2.trans hV3), hM.dropn 3, rfl, hc3, hb.fn hb2, hy2.le hV3⟩
            · by_cases c9 : n % 10 = 9
              · (repeat (first | refine seq_ ?_ | refine sq_normal ?_ | refine rl_nil ?_ | refine cond_f rfl ?_ | refine skip_ ?_ | (refine region_ (id := 15) ?_; (try (refine rl_move (v := (Value.int _ _ : Value)) rfl rfl ?_; (try ((refine rl_eql_t rfl rfl rfl ?_ ?_; omega); (try (refine rl_move (v := (Value.bool _ : Value)) rfl rfl ?_; (try (refine rl_move (v := (Value.bool _ : Value)) rfl rfl ?_; (try (refine rl_pick (v := (Value.bool _ : Value)) rfl rfl rfl ?_))))))))))) | (refine region_ (id := 17) ?_; (try (refine rl_move (v := (Value.slice _ _ _ : Value)) rfl rfl ?_; (try (refine rl_move (v := (Value.int _ _ : Value)) rfl rfl ?_; (try ((refine rl_add rfl rfl rfl ?_ ?_ ?_; omega; omega); (try (refine rl_move (v := (Value.bool _ : Value)) rfl rfl ?_))))))))) | refine rl_assign (v := (Value.slice _ _ _ : Value)) rfl rfl ?_ | (refine rl_storeWM 0 hM ag26 rfl rfl rfl rfl rfl rfl rfl ?_; clear hM; intro w hM) | refine rl_move (v := (Value.tuple _ : Value)) rfl rfl ?_ | refine rl_extract rfl rfl rfl ?_ | (refine rl_allocAM (d := 10) hM ag26 rfl ?_; clear hM; intro w b10 hM)))
                refine rl_callf fn29 (ih _ (d + 1) rfl (by omega) _ ys w0 w _ V1 hM hy) rfl rfl ?_
                clear hM
                rintro _ w ⟨V2, cs2, t2, v2, ys2, hV2, hM, rfl, hc2, hb2, hy2⟩
                obtain ⟨f2, n2, s2, a2, k2, c2', rfl, _⟩ := id hc2.shape
                obtain ⟨ya2, yc2, yb2, yo2, rfl, _⟩ := id hy2.open
                (repeat (first | refine seq_ ?_ | refine sq_normal ?_ | refine rl_nil ?_ | refine cond_f rfl ?_ | refine skip_ ?_ | (refine region_ (id := 18) ?_; (try (refine rl_move (v := (Value.int _ _ : Value)) rfl rfl ?_; (try ((refine rl_lss_f rfl rfl rfl ?_ ?_; omega)))))) | (refine region_ (id := 20) ?_; (try (refine rl_loadAM (vs := [_, _, _, _]) 1 hM ag26 rfl rfl rfl rfl rfl ?_; (try (refine rl_loadAM (vs := [_, _, _, _]) 0 hM ag26 rfl rfl rfl rfl rfl ?_))))) | refine rl_assign (v := (Value.slice _ _ _ : Value)) rfl rfl ?_ | (refine rl_storeWM 0 hM ag26 rfl rfl rfl rfl rfl rfl rfl ?_; clear hM; intro w hM) | refine rl_move (v := (Value.tuple _ : Value)) rfl rfl ?_ | refine rl_extract rfl rfl rfl ?_ | (refine rl_allocAM (d := 12) hM ag26 rfl ?_; clear hM; intro w b12 hM)))
                refine rl_callf fn42 (rapp_ok t t2 _ _ w0 w _ V2 hM (hc.le hV2) hc2) rfl rfl ?_
                clear hM
                rintro _ w ⟨V3, cs3, hV3, hM, rfl, hc3⟩
                obtain ⟨f3, n3, s3, a3, k3, c3, rfl, _⟩ := id hc3.shape
                (repeat (first | refine sq_normal ?_ | refine rl_nil ?_ | refine ret_ ?_ | refine rl_assign (v := (Value.slice _ _ _ : Value)) rfl rfl ?_ | refine rl_move (v := (Value.slice _ _ _ : Value)) rfl rfl ?_ | (refine rl_storeWM 2 hM ag26 rfl rfl rfl rfl rfl rfl rfl ?_; clear hM; intro w hM)))
                exact bp_x2 rfl rfl (res_M 2 hM ag26 rfl rfl rfl) (res_tmp rfl) ⟨V3, _, .app t t2, _, _, hV1.trans (hV2.trans hV3), hM.dropn 3, rfl, hc3, hb.app hb2, hy2.le hV3⟩
              · (repeat (first | refine seq_ ?_ | refine sq_normal ?_ | refine rl_nil ?_ | refine cond_f rfl ?_ | refine skip_ ?_ | (refine region_ (id := 15) ?_; (try (refine rl_move (v := (Value.int _ _ : Value)) rfl rfl ?_; (try ((refine rl_eql_f rfl rfl rfl ?_ ?_; omega); (try (refine rl_move (v := (Value.bool _ : Value)) rfl rfl ?_; (try (refine rl_off rfl ?_; (try (refine rl_pick (v := (Value.bool _ : Value)) rfl rfl rfl ?_))))))))))) | (refine region_ (id := 17) ?_; (try (refine rl_move (v := (Value.slice _ _ _ : Value)) rfl rfl ?_; (try (refine rl_move (v := (Value.int _ _ : Value)) rfl rfl ?_; (try ((refine rl_add rfl rfl rfl ?_ ?_ ?_; omega; omega); (try (refine rl_move (v := (Value.bool _ : Value)) rfl rfl ?_))))))))) | refine rl_assign (v := (Value.slice _ _ _ : Value)) rfl rfl ?_ | (refine rl_storeWM 0 hM ag26 rfl rfl rfl rfl rfl rfl rfl ?_; clear hM; intro w hM) | refine rl_move (v := (Value.tuple _ : Value)) rfl rfl ?_ | refine rl_extract rfl rfl rfl ?_ | (refine rl_allocAM (d := 10) hM ag26 rfl ?_; clear hM; intro w b10 hM)))
                refine rl_callf fn29 (ih _ (d + 1) rfl (by omega) _ ys w0 w _ V1 hM hy) rfl rfl ?_
                clear hM
                rintro _ w ⟨V2, cs2, t2, v2, ys2, hV2, hM, rfl, hc2, hb2, hy2⟩
                obtain ⟨f2, n2, s2, a2, k2, c2', rfl, _⟩ := id hc2.shape
                obtain ⟨ya2, yc2, yb2, yo2, rfl, _⟩ := id hy2.open
                (repeat (first | refine seq_ ?_ | refine sq_normal ?_ | refine rl_nil ?_ | refine cond_f rfl ?_ | refine skip_ ?_ | (refine region_ (id := 18) ?_; (try (refine rl_move (v := (Value.int _ _ : Value)) rfl rfl ?_; (try ((refine rl_lss_f rfl rfl rfl ?_ ?_; omega)))))) | (refine region_ (id := 20) ?_; (try (refine rl_loadAM (vs := [_, _, _, _]) 1 hM ag26 rfl rfl rfl rfl rfl ?_; (try (refine rl_loadAM (vs := [_, _, _, _]) 0 hM ag26 rfl rfl rfl rfl rfl ?_))))) | refine rl_assign (v := (Value.slice _ _ _ : Value)) rfl rfl ?_ | (refine rl_storeWM 0 hM ag26 rfl rfl rfl rfl rfl rfl rfl ?_; clear hM; intro w hM) | refine rl_move (v := (Value.tuple _ : Value)) rfl rfl ?_ | refine rl_extract rfl rfl rfl ?_ | (refine rl_allocAM (d := 12) hM ag26 rfl ?_; clear hM; intro w b12 hM)))
                refine rl_callf fn42 (rapp_ok t t2 _ _ w0 w _ V2 hM (hc.le hV2) hc2) rfl rfl ?_
                clear hM
                rintro _ w ⟨V3, cs3, hV3, hM, rfl, hc3⟩
                obtain ⟨f3, n3, s3, a3, k3, c3, rfl, _⟩ := id hc3.shape
                (repeat (first | refine sq_normal ?_ | refine rl_nil ?_ | refine ret_ ?_ | refine rl_assign (v := (Value.slice _ _ _ : Value)) rfl rfl ?_ | refine rl_move (v := (Value.slice _ _ _ : Value)) rfl rfl ?_ | (refine rl_storeWM 2 hM ag26 rfl rfl rfl rfl rfl rfl rfl ?_; clear hM; intro w hM)))
                exact bp_x2 rfl rfl (res_M 2 hM ag26 rfl rfl rfl) (res_tmp rfl) ⟨V3, _, .app t t2, _, _, hV1.trans (hV2.trans hV3), hM.dropn 3, rfl, hc3, hb.app hb2, hy2.le hV3⟩
theorem build_ok : ∀ (k d : Nat), k + d = 5 → BuildC k d
  | 0, d, h => build_step 0 d h (fun k' d' h1 _ => absurd h1 (by omega))
  | k + 1, d, h => build_step (k + 1) d h (fun k' d' h1 h2 => by
    obtain rfl : k' = k := by omega
    exact build_ok k' d' h2)
end Go.Proofs.YtadbinckjmdokaaDoor.Trd
