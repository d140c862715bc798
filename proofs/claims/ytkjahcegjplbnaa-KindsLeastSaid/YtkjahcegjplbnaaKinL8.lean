/- The walk of fuguelaw03.KindsLeast. -/
import Derived.Test.YtkjahcegjplbnaaKinL7
set_option linter.unusedVariables false
set_option linter.unusedSimpArgs false
namespace Go.Kn
open Tm
theorem ht_bind {θ : Int → Tm} {B : Nat} : ∀ {t : Tm}, (∀ m ∈ t.vars, (θ m).ht ≤ B) → (Tm.bind θ t).ht ≤ t.ht + B
  | var m, h => by have := h m (by simp [Tm.vars]); simp only [Tm.bind, Tm.ht]; omega
  | .star, h => by simp [Tm.bind, Tm.ht]
  | .arr a b, h => by
    have h1 := ht_bind (t := a) (fun m hm => h m (by simp [Tm.vars, hm]))
    have h2 := ht_bind (t := b) (fun m hm => h m (by simp [Tm.vars, hm]))
    simp only [Tm.bind, Tm.ht]; omega
theorem vars_bind {θ : Int → Tm} : ∀ {t : Tm}, (∀ m ∈ t.vars, (θ m).vars = []) → (Tm.bind θ t).vars = []
  | var m, h => h m (by simp [Tm.vars])
  | .star, h => rfl
  | .arr a b, h => by
    simp only [Tm.bind, Tm.vars]
    rw [vars_bind (t := a) (fun m hm => h m (by simp [Tm.vars, hm])), vars_bind (t := b) (fun m hm => h m (by simp [Tm.vars, hm]))]; rfl
end Go.Kn
namespace Go.Proofs.Ytkjahcegjplbnaa.Kin
open Go Go.Eng Go.RowKit Go.Kn
attribute [local irreducible] RL RX KQ SQ Exit.inBlock Exit.then BP NP CallsOk IsSl IsRows IsInts IsBools Own Blk Code.wp Calls wpList
/-- The kinds of the variables. -/
def kk (ks : List (List Int)) (i : Nat) : Kd := match ks[i]? with | some r => kindOf r | none => .nil
def stk (ks : List (List Int)) (n : Nat) : St1 := (List.range n).map fun i : Nat => ((i : Int) + 1, (kk ks i).tm)
theorem stk_succ (ks : List (List Int)) (n : Nat) : stk ks (n + 1) = stk ks n ++ [((n : Int) + 1, (kk ks n).tm)] := by
  unfold stk; rw [List.range_succ, List.map_append]; rfl
theorem stk_len (ks : List (List Int)) (n : Nat) : (stk ks n).length = n := by simp [stk]
theorem kk_sz (ks : List (List Int)) (i : Nat) : (kk ks i).sz ≤ 24 := by
  unfold kk
  split
  · exact kindOf_sz _
  · exact Nat.zero_le _
theorem stk_kw (ks : List (List Int)) : ∀ n, Kw (stk ks n) (stk ks n)
  | 0 => .nil
  | n + 1 => by
    rw [stk_succ]
    have h := stk_kw ks n
    refine .snoc h (h.free _ fun p hp e => ?_) (ap_ground (Kd.tm_ground _)) (by rw [Kd.tm_ground]; simp) (fun k e => ?_)
    · obtain ⟨i, hi, rfl⟩ := List.mem_map.1 hp
      have := List.mem_range.1 hi
      simp only at e; omega
    · cases hk : kk ks n with
      | nil => rw [hk] at e; cases e
      | cons a r => rw [hk] at e; cases e
theorem stk_got (ks : List (List Int)) {m : Int} (hm : m ∈ U5) : ∃ i, ap (stk ks 5) (.var m) = (kk ks i).tm := by
  have : ∃ i : Nat, i < 5 ∧ m = (i : Int) + 1 := by
    simp only [U5, List.mem_cons, List.not_mem_nil, or_false] at hm
    exact ⟨(m - 1).toNat, by omega, by omega⟩
  obtain ⟨i, hi, rfl⟩ := this
  have := (stk_kw ks 5).got ((i : Int) + 1, (kk ks i).tm) (List.mem_map.2 ⟨i, List.mem_range.2 hi, rfl⟩)
  exact ⟨i, by rw [this]; exact ap_ground (Kd.tm_ground _)⟩
theorem stk_low (ks : List (List Int)) {a : Tm} (ha : a.ht ≤ 3) (hv : ∀ m ∈ a.vars, m ∈ U5) : (ap (stk ks 5) a).vars = [] ∧ Low (ap (stk ks 5) a) := by
  have h1 : (ap (stk ks 5) a).vars = [] := by
    rw [ap_bind]
    exact vars_bind (fun m hm => by obtain ⟨i, e⟩ := stk_got ks (hv m hm); rw [e]; exact Kd.tm_ground _)
  have h2 : (ap (stk ks 5) a).ht ≤ a.ht + 24 := by
    rw [ap_bind]
    exact ht_bind (fun m hm => by
      obtain ⟨i, e⟩ := stk_got ks (hv m hm)
      rw [e]
      exact Nat.le_trans (Kd.tm_ht _) (kk_sz _ _))
  exact ⟨h1, by omega, fun m hm => by rw [h1] at hm; cases hm⟩
set_option maxRecDepth 4000 in
set_option maxHeartbeats 4000000 in
theorem law7 (v : Value) (ls : List (List Int)) (v' : Value) (ks : List (List Int)) (w : World) (hI : IsRows w.cell? v ls) (hJ : IsRows w.cell? v' ks) : CallsOk Try.prog 7 #[v, v'] w fun r w' => r = .bool true ∧ Below w.heap.size w w' := by
  have hM := Mem.init w
  obtain ⟨w0, hw0⟩ : ∃ w0, w0 = w := ⟨_, rfl⟩
  obtain ⟨V, hVd⟩ : ∃ V, V = w.cell? := ⟨_, rfl⟩
  rw [← hVd] at hM hI hJ
  have hM : Mem w0 w [] V := by rw [hw0]; exact hM
  have hml := maxLen_le
  have hmx : 10000000 ≤ maxLen := by unfold maxLen; omega
  have key : CallsOk Try.prog 7 #[v, v'] w fun r w' => r = .bool true ∧ Below w0.heap.size w0 w' := by
    obtain ⟨ra, rc, rb, ro, rfl, r1, r2, r3, r4⟩ := id hI.open
    obtain ⟨ja, jc, jb, jo, rfl, j1, j2, j3, j4⟩ := id hJ.open
    refine enter_ (N := 83) Try.func7 rfl rfl rfl ?_
    (repeat (first | refine seq_ ?_ | refine sq_normal ?_ | refine rl_nil ?_ | (refine region_ (id := 0) ?_; (try (refine rl_assign (v := (Value.bool _ : Value)) rfl rfl ?_))) | (refine region_ (id := 1) ?_)))
    refine rl_callf fn22 (new_ok w0 w _ V hM) rfl rfl ?_
    clear hM
    rintro _ w ⟨s, mb, o, rfl, hM, hk⟩
    (repeat (first | refine seq_ ?_ | refine sq_normal ?_ | refine rl_nil ?_ | refine cond_f rfl ?_ | refine skip_ ?_ | refine block_ ?_ | (refine region_ (id := 2) ?_; (try (refine rl_move (v := (Value.pointer _ : Value)) rfl rfl ?_; (try (refine rl_peqnil up45 rfl rfl rfl ?_))))) | (refine region_ (id := 4) ?_; (try ((refine rl_allocAM (d := 6) hM ag60 rfl ?_; clear hM; intro w b6 hM)))) | (refine region_ (id := 5) ?_; (try (refine rl_assign (v := (Value.int _ _ : Value)) rfl rfl ?_))) | refine rl_assign (v := (Value.pointer _ : Value)) rfl rfl ?_))
    have hM := (hM.newOwn 49 3).newOwn 3 1
    refine loop1 [(7, 8), (14, 46)] 7 (fun m v7 wr => ∃ (q : Nat) (V1 : Vw) (a1 : Option Addr) (c1 : Nat) (a2 : Option Addr) (c2 : Nat) (cs : List Value), v7 = .int .i64 q ∧ q ≤ 5 ∧ m = 5 - q ∧ VLe V V1 ∧ TmsO V1 ((stk ks q).map (·.2)) cs ∧
        Mem w0 wr (.own (.slice a1 q c1) 3 1 q (((stk ks q).map (·.1)).map (Value.int .i64)) :: .own (.slice a2 q c2) 49 3 q cs :: .blk b6 [.slice a1 q c1, .slice a2 q c2] 60 :: sv s 0 mb o []) V1) _
      ⟨0, V, none, 0, none, 0, [], rfl, by omega, rfl, VLe.refl _, TmsO.nil _, hM⟩ ?_
    clear hM
    rintro m τ v7 w ⟨q, V1, a1, c1, a2, c2, cs, rfl, hq, rfl, hV1, hO, hM⟩ K0 hL0
    by_cases hlt : q < 5
    · (repeat (first | refine seq_ ?_ | refine sq_normal ?_ | refine rl_nil ?_ | refine cond_t rfl ?_ | refine skip_ ?_ | refine block_ ?_ | (refine region_ (id := 6) ?_; (try (refine rl_move (v := (Value.int _ _ : Value)) rfl rfl ?_; (try ((first | (refine rl_lss_t rfl rfl rfl ?_ ?_; omega) | (refine rl_lss_f rfl rfl rfl ?_ ?_; omega))))))) | (refine region_ (id := 8) ?_; (try (refine rl_fld fd60_0 rfl rfl ?_; (try ((first | refine rl_loadV hM vt22 rfl rfl (by first | assumption | exact VRow.get (by assumption) rfl | exact VRow.get0 (by assumption) rfl) ?_ | refine rl_loadM 0 hM vt22 rfl rfl rfl (by first | rfl | assumption) ?_ | refine rl_loadM 1 hM vt22 rfl rfl rfl (by first | rfl | assumption) ?_ | refine rl_loadM 2 hM vt22 rfl rfl rfl (by first | rfl | assumption) ?_ | refine rl_loadM 3 hM vt22 rfl rfl rfl (by first | rfl | assumption) ?_ | refine rl_loadM 4 hM vt22 rfl rfl rfl (by first | rfl | assumption) ?_ | refine rl_loadM 5 hM vt22 rfl rfl rfl (by first | rfl | assumption) ?_ | refine rl_loadM 6 hM vt22 rfl rfl rfl (by first | rfl | assumption) ?_ | refine rl_loadM 7 hM vt22 rfl rfl rfl (by first | rfl | assumption) ?_); (try (refine rl_move (v := (Value.int _ _ : Value)) rfl rfl ?_; (try ((refine rl_add rfl rfl rfl ?_ ?_ ?_; omega; omega); (try ((refine rl_bsliceM (d := 22) [_] hM sl22 rfl rfl rfl rfl rfl (by decide) (by decide) ?_; clear hM; intro w b22 hM))))))))))))))
      refine rl_appendM 1 (news := [.int .i64 ((q : Int) + 1)]) (B := b22) (off := 0) hM sl22 rfl (by decide) rfl (hM.row (i := 0) rfl) rfl rfl rfl (fun _ => rfl) rfl (by simp [Value.oneCell']) (by omega) (by omega) ?_
      clear hM
      intro w a3 c3 hc3 hc3' hM
      replace hM : Mem w0 w (.own (.slice a3 (q + 1) c3) 3 1 (q + 1) (((stk ks q).map (·.1)).map (Value.int .i64) ++ [.int .i64 ((q : Int) + 1)]) :: .own (.slice a2 q c2) 49 3 q cs :: .blk b6 [.slice a1 q c1, .slice a2 q c2] 60 :: sv s 0 mb o []) V1 := hM.dropn 1
      have hcs := hO.1
      rw [List.length_map, stk_len] at hcs
      by_cases hks : q < ks.length
      · obtain ⟨r, hr⟩ : ∃ r, ks[q]? = some r := ⟨_, List.getElem?_eq_getElem (by omega)⟩
        obtain ⟨u, hu, hui⟩ := j4 q r hr
        have j3' := j3 (by omega)
        subst j3'
        have hu := hV1 _ _ hu
        obtain ⟨_, _, _, _, rfl, _⟩ := id hui.open
        have hkk : kk ks q = kindOf r := by unfold kk; rw [hr]
        have hsz := kindOf_sz r
        (repeat (first | refine seq_ ?_ | refine sq_normal ?_ | refine rl_nil ?_ | refine cond_t rfl ?_ | (refine region_ (id := 9) ?_; (try (refine rl_move (v := (Value.int _ _ : Value)) rfl rfl ?_; (try (refine rl_move (v := (Value.slice _ _ _ : Value)) rfl rfl ?_; (try (refine rl_len sl44 rfl rfl ?_; (try ((first | (refine rl_lss_t rfl rfl rfl ?_ ?_; omega) | (refine rl_lss_f rfl rfl rfl ?_ ?_; omega))))))))))) | refine rl_fld fd60_0 rfl rfl ?_ | (first | (refine rl_storeM 0 hM vt22 rfl rfl rfl rfl rfl (by first | (simp; done) | (simp; omega) | omega) ?_; clear hM; intro w hM) | (refine rl_storeM 1 hM vt22 rfl rfl rfl rfl rfl (by first | (simp; done) | (simp; omega) | omega) ?_; clear hM; intro w hM) | (refine rl_storeM 2 hM vt22 rfl rfl rfl rfl rfl (by first | (simp; done) | (simp; omega) | omega) ?_; clear hM; intro w hM) | (refine rl_storeM 3 hM vt22 rfl rfl rfl rfl rfl (by first | (simp; done) | (simp; omega) | omega) ?_; clear hM; intro w hM) | (refine rl_storeM 4 hM vt22 rfl rfl rfl rfl rfl (by first | (simp; done) | (simp; omega) | omega) ?_; clear hM; intro w hM) | (refine rl_storeM 5 hM vt22 rfl rfl rfl rfl rfl (by first | (simp; done) | (simp; omega) | omega) ?_; clear hM; intro w hM) | (refine rl_storeM 6 hM vt22 rfl rfl rfl rfl rfl (by first | (simp; done) | (simp; omega) | omega) ?_; clear hM; intro w hM) | (refine rl_storeM 7 hM vt22 rfl rfl rfl rfl rfl (by first | (simp; done) | (simp; omega) | omega) ?_; clear hM; intro w hM))))
        (refine drawnM_ 9 [(0, false), (1, false), (2, false), (3, false), (4, false), (5, false), (6, true), (7, true), (8, true)] (fun w => Mem w0 w _ _) hM mo (by kernel_rfl) (fun _ h => h) ?_; clear hM; intro w hM; (try (refine rx_fld rfl fd60_1 rfl rfl ?_; (try ((first | refine rx_loadV rfl (fun _ h => h) vt47 rfl rfl (by first | assumption | exact VRow.get (by assumption) rfl | exact VRow.get0 (by assumption) rfl) ?_ | refine rx_loadM 0 rfl (fun _ h => h) vt47 rfl rfl rfl (by first | rfl | assumption) ?_ | refine rx_loadM 1 rfl (fun _ h => h) vt47 rfl rfl rfl (by first | rfl | assumption) ?_ | refine rx_loadM 2 rfl (fun _ h => h) vt47 rfl rfl rfl (by first | rfl | assumption) ?_ | refine rx_loadM 3 rfl (fun _ h => h) vt47 rfl rfl rfl (by first | rfl | assumption) ?_ | refine rx_loadM 4 rfl (fun _ h => h) vt47 rfl rfl rfl (by first | rfl | assumption) ?_ | refine rx_loadM 5 rfl (fun _ h => h) vt47 rfl rfl rfl (by first | rfl | assumption) ?_ | refine rx_loadM 6 rfl (fun _ h => h) vt47 rfl rfl rfl (by first | rfl | assumption) ?_ | refine rx_loadM 7 rfl (fun _ h => h) vt47 rfl rfl rfl (by first | rfl | assumption) ?_); (try (refine rx_move (v := (Value.slice _ _ _ : Value)) rfl rfl rfl ?_; (try (refine rx_move (v := (Value.int _ _ : Value)) rfl rfl rfl ?_; (try ((first | (refine rx_idx1 rfl sl44 rfl rfl rfl rfl ?_ ?_ ?_; omega; omega) | (apply rx_idx1 rfl sl44 rfl rfl rfl; assumption; omega; omega)); (try ((first | refine rx_loadV rfl (fun _ h => h) vt22 rfl rfl (by first | assumption | exact VRow.get (by assumption) rfl | exact VRow.get0 (by assumption) rfl) ?_ | refine rx_loadM 0 rfl (fun _ h => h) vt22 rfl rfl rfl (by first | rfl | assumption) ?_ | refine rx_loadM 1 rfl (fun _ h => h) vt22 rfl rfl rfl (by first | rfl | assumption) ?_ | refine rx_loadM 2 rfl (fun _ h => h) vt22 rfl rfl rfl (by first | rfl | assumption) ?_ | refine rx_loadM 3 rfl (fun _ h => h) vt22 rfl rfl rfl (by first | rfl | assumption) ?_ | refine rx_loadM 4 rfl (fun _ h => h) vt22 rfl rfl rfl (by first | rfl | assumption) ?_ | refine rx_loadM 5 rfl (fun _ h => h) vt22 rfl rfl rfl (by first | rfl | assumption) ?_ | refine rx_loadM 6 rfl (fun _ h => h) vt22 rfl rfl rfl (by first | rfl | assumption) ?_ | refine rx_loadM 7 rfl (fun _ h => h) vt22 rfl rfl rfl (by first | rfl | assumption) ?_))))))))))))))
        refine rx_eff rfl (fun K hK => ?_)
        refine rl_callf fn10 (kind_ok r w0 w _ V1 _ hM (hui.le hV1)) rfl rfl ?_
        clear hM
        rintro _ w ⟨V2, v2, hV2, hM, rfl, hk2⟩
        obtain ⟨_, _, rfl⟩ := hk2.shape
        refine rl_nil (kq_normal (hK _ _ (hM.le hV2) ?_))
        refine rx_eff rfl (fun K hK => ?_)
        refine rl_callf fn27 (refOf_ok _ _ (Nat.lt_succ_self _) (by omega) w0 w _ V2 _ hM hk2) rfl rfl ?_
        clear hM
        rintro _ w ⟨V3, zs, hV3, hM, rfl, hz⟩
        obtain ⟨f4, n4, a4, k4, c4, rfl, _⟩ := id hz.shape
        refine rl_nil (kq_normal (hK _ _ (hM.le (hV2.trans hV3)) ?_))
        refine rx_eff rfl (fun K hK => ?_)
        refine rl_bsliceM (d := 37) [.agg [Value.int .i64 f4, .int .i64 n4, .slice a4 k4 c4].toArray] hM sl47 rfl rfl rfl rfl rfl (by decide) (by decide) ?_
        clear hM
        intro w b37 hM
        refine rl_nil (kq_normal (hK _ _ ((hM.le (hV2.trans hV3)).dropn 1) ?_))
        refine rx_nil rfl ?_
        refine rl_appendM 2 (news := [Value.int .i64 f4, .int .i64 n4, .slice a4 k4 c4]) (B := b37) (off := 0) hM sl47 rfl (by decide) rfl (hM.row (i := 0) rfl) rfl rfl rfl (fun _ => rfl) rfl (by simp [Value.oneCell']) (by omega) (by omega) ?_
        clear hM
        intro w a5 c5 hc5 hc5' hM
        replace hM := hM.dropn 1
        (repeat (first | refine sq_normal ?_ | refine rl_nil ?_ | refine inBlock_normal ?_ | refine np_normal ?_ | (refine region_ (id := 7) ?_; (try (refine rl_move (v := (Value.int _ _ : Value)) rfl rfl ?_; (try ((refine rl_add rfl rfl rfl ?_ ?_ ?_; omega; omega); (try (refine rl_assign (v := (Value.int _ _ : Value)) rfl rfl ?_))))))) | refine rl_fld fd60_1 rfl rfl ?_ | (first | (refine rl_storeM 0 hM vt47 rfl rfl rfl rfl rfl (by first | (simp; done) | (simp; omega) | omega) ?_; clear hM; intro w hM) | (refine rl_storeM 1 hM vt47 rfl rfl rfl rfl rfl (by first | (simp; done) | (simp; omega) | omega) ?_; clear hM; intro w hM) | (refine rl_storeM 2 hM vt47 rfl rfl rfl rfl rfl (by first | (simp; done) | (simp; omega) | omega) ?_; clear hM; intro w hM) | (refine rl_storeM 3 hM vt47 rfl rfl rfl rfl rfl (by first | (simp; done) | (simp; omega) | omega) ?_; clear hM; intro w hM) | (refine rl_storeM 4 hM vt47 rfl rfl rfl rfl rfl (by first | (simp; done) | (simp; omega) | omega) ?_; clear hM; intro w hM) | (refine rl_storeM 5 hM vt47 rfl rfl rfl rfl rfl (by first | (simp; done) | (simp; omega) | omega) ?_; clear hM; intro w hM) | (refine rl_storeM 6 hM vt47 rfl rfl rfl rfl rfl (by first | (simp; done) | (simp; omega) | omega) ?_; clear hM; intro w hM) | (refine rl_storeM 7 hM vt47 rfl rfl rfl rfl rfl (by first | (simp; done) | (simp; omega) | omega) ?_; clear hM; intro w hM))))
        refine kq_normal (hL0 (5 - (q + 1)) _ _ (by omega) (by (repeat (first | with_reducible exact Agree.ov | with_reducible exact Agree.refl _ _ | refine Agree.upd rfl ?_ | refine Agree.ovs rfl ?_))) ⟨q + 1, V3, a3, c3, a5, c5, cs ++ [Value.int .i64 f4, .int .i64 n4, .slice a4 k4 c4], rfl, by omega, rfl, hV1.trans (hV2.trans hV3), ?_, ?_⟩)
        · rw [stk_succ, List.map_append, hkk]
          exact (hO.le (hV2.trans hV3)).snoc hz
        · rw [stk_succ, List.map_append, List.map_append]
          exact hM
      · have hkk : kk ks q = .nil := by unfold kk; rw [List.getElem?_eq_none (by omega)]
        (repeat (first | refine seq_ ?_ | refine sq_normal ?_ | refine rl_nil ?_ | refine cond_f rfl ?_ | (refine region_ (id := 9) ?_; (try (refine rl_move (v := (Value.int _ _ : Value)) rfl rfl ?_; (try (refine rl_move (v := (Value.slice _ _ _ : Value)) rfl rfl ?_; (try (refine rl_len sl44 rfl rfl ?_; (try ((first | (refine rl_lss_t rfl rfl rfl ?_ ?_; omega) | (refine rl_lss_f rfl rfl rfl ?_ ?_; omega))))))))))) | (refine region_ (id := 11) ?_; (try (refine rl_fld fd60_1 rfl rfl ?_; (try ((first | refine rl_loadV hM vt47 rfl rfl (by first | assumption | exact VRow.get (by assumption) rfl | exact VRow.get0 (by assumption) rfl) ?_ | refine rl_loadM 0 hM vt47 rfl rfl rfl (by first | rfl | assumption) ?_ | refine rl_loadM 1 hM vt47 rfl rfl rfl (by first | rfl | assumption) ?_ | refine rl_loadM 2 hM vt47 rfl rfl rfl (by first | rfl | assumption) ?_ | refine rl_loadM 3 hM vt47 rfl rfl rfl (by first | rfl | assumption) ?_ | refine rl_loadM 4 hM vt47 rfl rfl rfl (by first | rfl | assumption) ?_ | refine rl_loadM 5 hM vt47 rfl rfl rfl (by first | rfl | assumption) ?_ | refine rl_loadM 6 hM vt47 rfl rfl rfl (by first | rfl | assumption) ?_ | refine rl_loadM 7 hM vt47 rfl rfl rfl (by first | rfl | assumption) ?_); (try (refine rl_build [_, (Value.int .i64 0), (Value.slice none 0 0)] ag49 pl49 rfl rfl rfl ?_; (try ((refine rl_bsliceM (d := 43) [_] hM sl47 rfl rfl rfl rfl rfl (by decide) (by decide) ?_; clear hM; intro w b43 hM)))))))))) | refine rl_fld fd60_0 rfl rfl ?_ | (first | (refine rl_storeM 0 hM vt22 rfl rfl rfl rfl rfl (by first | (simp; done) | (simp; omega) | omega) ?_; clear hM; intro w hM) | (refine rl_storeM 1 hM vt22 rfl rfl rfl rfl rfl (by first | (simp; done) | (simp; omega) | omega) ?_; clear hM; intro w hM) | (refine rl_storeM 2 hM vt22 rfl rfl rfl rfl rfl (by first | (simp; done) | (simp; omega) | omega) ?_; clear hM; intro w hM) | (refine rl_storeM 3 hM vt22 rfl rfl rfl rfl rfl (by first | (simp; done) | (simp; omega) | omega) ?_; clear hM; intro w hM) | (refine rl_storeM 4 hM vt22 rfl rfl rfl rfl rfl (by first | (simp; done) | (simp; omega) | omega) ?_; clear hM; intro w hM) | (refine rl_storeM 5 hM vt22 rfl rfl rfl rfl rfl (by first | (simp; done) | (simp; omega) | omega) ?_; clear hM; intro w hM) | (refine rl_storeM 6 hM vt22 rfl rfl rfl rfl rfl (by first | (simp; done) | (simp; omega) | omega) ?_; clear hM; intro w hM) | (refine rl_storeM 7 hM vt22 rfl rfl rfl rfl rfl (by first | (simp; done) | (simp; omega) | omega) ?_; clear hM; intro w hM))))
        refine rl_appendM 2 (news := [Value.int .i64 2, .int .i64 0, .slice none 0 0]) (B := b43) (off := 0) hM sl47 rfl (by decide) rfl (hM.row (i := 0) rfl) rfl rfl rfl (fun _ => rfl) rfl (by simp [Value.oneCell']) (by omega) (by omega) ?_
        clear hM
        intro w a5 c5 hc5 hc5' hM
        replace hM := hM.dropn 1
        (repeat (first | refine sq_normal ?_ | refine rl_nil ?_ | refine inBlock_normal ?_ | (refine region_ (id := 7) ?_; (try (refine rl_move (v := (Value.int _ _ : Value)) rfl rfl ?_; (try ((refine rl_add rfl rfl rfl ?_ ?_ ?_; omega; omega); (try (refine rl_assign (v := (Value.int _ _ : Value)) rfl rfl ?_))))))) | refine rl_fld fd60_1 rfl rfl ?_ | (first | (refine rl_storeM 0 hM vt47 rfl rfl rfl rfl rfl (by first | (simp; done) | (simp; omega) | omega) ?_; clear hM; intro w hM) | (refine rl_storeM 1 hM vt47 rfl rfl rfl rfl rfl (by first | (simp; done) | (simp; omega) | omega) ?_; clear hM; intro w hM) | (refine rl_storeM 2 hM vt47 rfl rfl rfl rfl rfl (by first | (simp; done) | (simp; omega) | omega) ?_; clear hM; intro w hM) | (refine rl_storeM 3 hM vt47 rfl rfl rfl rfl rfl (by first | (simp; done) | (simp; omega) | omega) ?_; clear hM; intro w hM) | (refine rl_storeM 4 hM vt47 rfl rfl rfl rfl rfl (by first | (simp; done) | (simp; omega) | omega) ?_; clear hM; intro w hM) | (refine rl_storeM 5 hM vt47 rfl rfl rfl rfl rfl (by first | (simp; done) | (simp; omega) | omega) ?_; clear hM; intro w hM) | (refine rl_storeM 6 hM vt47 rfl rfl rfl rfl rfl (by first | (simp; done) | (simp; omega) | omega) ?_; clear hM; intro w hM) | (refine rl_storeM 7 hM vt47 rfl rfl rfl rfl rfl (by first | (simp; done) | (simp; omega) | omega) ?_; clear hM; intro w hM))))
        refine kq_normal (hL0 (5 - (q + 1)) _ _ (by omega) (by (repeat (first | with_reducible exact Agree.ov | with_reducible exact Agree.refl _ _ | refine Agree.upd rfl ?_ | refine Agree.ovs rfl ?_))) ⟨q + 1, V1, a3, c3, a5, c5, cs ++ [Value.int .i64 2, .int .i64 0, .slice none 0 0], rfl, by omega, rfl, hV1, ?_, ?_⟩)
        · rw [stk_succ, List.map_append, hkk]
          exact hO.snoc (x := .star) ⟨none, 0, rfl, Nat.zero_le _⟩
        · rw [stk_succ, List.map_append, List.map_append]
          exact hM
    · have hq5 : q = 5 := by omega
      subst hq5
      obtain ⟨V3, hV3, hM, a10, c10, b10', e1, e2, e3, e4, e5⟩ := Mem.freezeOwn hM
      cases e1
      obtain ⟨V4, hV4, hM, a11, c11, b11', d1, d2, d3, d4, d5⟩ := Mem.freezeOwn hM
      cases d1
      have hS : RefS V4 [.slice a1 5 c1, .slice a2 5 c2] (stk ks 5) := by
        refine ⟨_, _, rfl, ?_, ?_⟩
        · refine IsInts.le (isInts_of (b := b10') (off := 0) (by simp [stk]) (by simp [stk]; omega) (by omega) (fun _ => e4 (by omega)) (fun i u hu => e5 i u hu) (fun x hx => ?_)) hV4
          obtain ⟨p, hp, rfl⟩ := List.mem_map.1 hx
          obtain ⟨i, hi, rfl⟩ := List.mem_map.1 hp
          have := List.mem_range.1 hi
          constructor <;> simp only <;> omega
        · exact (hO.le (hV3.trans hV4)).frozen (VLe.refl _) (by simp [stk]) d2 d3 d4 d5
      have hK5 := stk_kw ks 5
      have hVb := hV1.trans (hV3.trans hV4)
      replace hk := hk.le hVb
      clear hO e2 e3 e4 e5 d2 d3 d4 d5
      (repeat (first | refine seq_ ?_ | refine sq_normal ?_ | refine sq_exit ?_ | refine rl_nil ?_ | refine cond_f rfl ?_ | refine exit_ ?_ | refine block_ ?_ | refine inBlock_exit ?_ | refine kq_exit ?_ | (refine region_ (id := 6) ?_; (try (refine rl_move (v := (Value.int _ _ : Value)) rfl rfl ?_; (try ((first | (refine rl_lss_t rfl rfl rfl ?_ ?_; omega) | (refine rl_lss_f rfl rfl rfl ?_ ?_; omega))))))) | (refine region_ (id := 12) ?_; (try (refine rl_assign (v := (Value.int _ _ : Value)) rfl rfl ?_)))))
      refine loop1 [(4, 5), (8, 11), (46, 82)] 8 (fun m v8 wr => ∃ (q : Nat) (V5 : Vw) (mb : Nat) (o : Obj) (st : St1), v8 = .int .i64 q ∧ q ≤ 4 ∧ m = 4 - q ∧ VLe V4 V5 ∧ Mem w0 wr (.blk b6 [.slice a1 5 c1, .slice a2 5 c2] 60 :: sv s 0 mb o []) V5 ∧ Knows V5 o st ∧ GoodSt st ∧ Fits (fun m => ap (stk ks 5) (.var m)) st) _
        ⟨0, V4, mb, o, [], rfl, by omega, rfl, VLe.refl _, hM, hk, GoodSt.nil, Fits.nil _⟩ ?_
      clear hM hk
      rintro m τ2 v8 w ⟨q, V5, mb, o, st, rfl, hq, rfl, hV5, hM, hk, hG, hF⟩ K1 hL1
      have fin : CallsOk Try.prog 15 #[] w fun r w' => r = .bool true ∧ ∃ V', VLe V5 V' ∧ Mem w0 w' _ V' := lives_ok w0 w _ V5 hM
      by_cases hq1 : q < ls.length
      · by_cases hq2 : q < 4
        · obtain ⟨r, hr⟩ : ∃ r, ls[q]? = some r := ⟨_, List.getElem?_eq_getElem (by omega)⟩
          obtain ⟨u, hu, hui⟩ := r4 q r hr
          have r3' := r3 (by omega)
          subst r3'
          have hu := hV5 _ _ (hVb _ _ hu)
          have hui := hui.le (hVb.trans hV5)
          have hS := hS.le hV5
          obtain ⟨_, _, _, _, rfl, _⟩ := id hui.open
          (repeat (first | refine seq_ ?_ | refine sq_normal ?_ | refine rl_nil ?_ | refine cond_t rfl ?_ | refine skip_ ?_ | refine block_ ?_ | (refine region_ (id := 13) ?_; (try (refine rl_move (v := (Value.int _ _ : Value)) rfl rfl ?_; (try (refine rl_move (v := (Value.slice _ _ _ : Value)) rfl rfl ?_; (try (refine rl_len sl44 rfl rfl ?_; (try ((first | (refine rl_lss_t rfl rfl rfl ?_ ?_; omega) | (refine rl_lss_f rfl rfl rfl ?_ ?_; omega)); (try (refine rl_move (v := (Value.bool _ : Value)) rfl rfl ?_; (try ((first | refine rl_off rfl ?_ | refine rl_move (v := (Value.int _ _ : Value)) rfl rfl ?_); (try ((first | refine rl_off rfl ?_ | (refine rl_lss_t rfl rfl rfl ?_ ?_; omega) | (refine rl_lss_f rfl rfl rfl ?_ ?_; omega)); (try (refine rl_pick (v := (Value.bool _ : Value)) rfl rfl rfl ?_))))))))))))))))) | (refine region_ (id := 15) ?_; (try (refine rl_move (v := (Value.slice _ _ _ : Value)) rfl rfl ?_; (try (refine rl_move (v := (Value.int _ _ : Value)) rfl rfl ?_; (try ((first | (refine rl_idx1 sl44 rfl rfl rfl rfl ?_ ?_ ?_; omega; omega) | (apply rl_idx1 sl44 rfl rfl rfl; assumption; omega; omega)); (try ((first | refine rl_loadV hM vt22 rfl rfl (by first | assumption | exact VRow.get (by assumption) rfl | exact VRow.get0 (by assumption) rfl) ?_ | refine rl_loadM 0 hM vt22 rfl rfl rfl (by first | rfl | assumption) ?_ | refine rl_loadM 1 hM vt22 rfl rfl rfl (by first | rfl | assumption) ?_ | refine rl_loadM 2 hM vt22 rfl rfl rfl (by first | rfl | assumption) ?_ | refine rl_loadM 3 hM vt22 rfl rfl rfl (by first | rfl | assumption) ?_ | refine rl_loadM 4 hM vt22 rfl rfl rfl (by first | rfl | assumption) ?_ | refine rl_loadM 5 hM vt22 rfl rfl rfl (by first | rfl | assumption) ?_ | refine rl_loadM 6 hM vt22 rfl rfl rfl (by first | rfl | assumption) ?_ | refine rl_loadM 7 hM vt22 rfl rfl rfl (by first | rfl | assumption) ?_))))))))))))
          refine rl_callf fn23 (terms_ok r w0 w _ V5 _ hM hui) rfl rfl ?_
          clear hM fin
          rintro _ w ⟨V6, xs, ys, hV6, hM, rfl, hx, hy⟩
          have hva := term_vars 3 (r.take 14)
          have hha := term_ht 3 (r.take 14)
          obtain ⟨a, ha⟩ : ∃ a, a = (term 3 (r.take 14)).1 := ⟨_, rfl⟩
          rw [← ha] at hx hva hha
          obtain ⟨f4, n4, a4, k4, c4, rfl, _⟩ := id hx.shape
          obtain ⟨f5, n5, a5, k5, c5, rfl, _⟩ := id hy.shape
          obtain ⟨hgr, hlow⟩ := stk_low ks hha hva
          obtain ⟨bt, hbt⟩ : ∃ bt, bt = ap (stk ks 5) a := ⟨_, rfl⟩
          rw [← hbt] at hgr hlow
          have hla : Low a := ⟨by omega, hva⟩
          obtain ⟨res, hres⟩ := hG.ex hla hlow
          have hθ : Tm.bind (fun m => ap (stk ks 5) (.var m)) a = Tm.bind (fun m => ap (stk ks 5) (.var m)) bt := by
            rw [← ap_bind, ← ap_bind, ← hbt]; exact (ap_ground hgr).symm
          obtain ⟨st', rfl, hF'⟩ := hres.least hF hθ
          have hG' := hG.step hres hla hlow rfl
          have hmade := (hres.made hG.1 _ rfl).2.2
          rw [ap_ground hgr] at hmade
          have hS := hS.le hV6
          have hk := hk.le hV6
          (repeat (first | refine seq_ ?_ | refine sq_normal ?_ | refine rl_nil ?_ | refine rl_move (v := (Value.tuple _ : Value)) rfl rfl ?_ | refine rl_extract rfl rfl rfl ?_ | (refine rl_allocAM (d := 9) hM ag49 rfl ?_; clear hM; intro w b9 hM) | (refine rl_allocAM (d := 10) hM ag49 rfl ?_; clear hM; intro w b10 hM) | (first | (refine rl_storeWM 0 hM ag49 rfl rfl rfl rfl rfl rfl rfl ?_; clear hM; intro w hM) | (refine rl_storeWM 1 hM ag49 rfl rfl rfl rfl rfl rfl rfl ?_; clear hM; intro w hM) | (refine rl_storeWM 2 hM ag49 rfl rfl rfl rfl rfl rfl rfl ?_; clear hM; intro w hM) | (refine rl_storeWM 3 hM ag49 rfl rfl rfl rfl rfl rfl rfl ?_; clear hM; intro w hM) | (refine rl_storeWM 4 hM ag49 rfl rfl rfl rfl rfl rfl rfl ?_; clear hM; intro w hM) | (refine rl_storeWM 5 hM ag49 rfl rfl rfl rfl rfl rfl rfl ?_; clear hM; intro w hM) | (refine rl_storeWM 6 hM ag49 rfl rfl rfl rfl rfl rfl rfl ?_; clear hM; intro w hM) | (refine rl_storeWM 7 hM ag49 rfl rfl rfl rfl rfl rfl rfl ?_; clear hM; intro w hM))))
          (refine drawnM_ 7 [(0, false), (1, false), (3, false), (4, false), (2, true), (5, true), (6, true)] (fun w => Mem w0 w _ _) hM mo (by kernel_rfl) (fun _ h => h) ?_; clear hM; intro w hM; (try (refine rx_move (v := (Value.pointer _ : Value)) rfl rfl rfl ?_; (try ((first | refine rx_loadAV rfl (fun _ h => h) ag49 rfl rfl (by assumption) (by rfl) ?_ | refine rx_loadAM (vs := [_, _, _]) 0 rfl (fun _ h => h) ag49 rfl rfl rfl rfl rfl ?_ | refine rx_loadAM (vs := [_, _, _]) 1 rfl (fun _ h => h) ag49 rfl rfl rfl rfl rfl ?_ | refine rx_loadAM (vs := [_, _, _]) 2 rfl (fun _ h => h) ag49 rfl rfl rfl rfl rfl ?_ | refine rx_loadAM (vs := [_, _, _]) 3 rfl (fun _ h => h) ag49 rfl rfl rfl rfl rfl ?_ | refine rx_loadAM (vs := [_, _, _]) 4 rfl (fun _ h => h) ag49 rfl rfl rfl rfl rfl ?_ | refine rx_loadAM (vs := [_, _, _]) 5 rfl (fun _ h => h) ag49 rfl rfl rfl rfl rfl ?_ | refine rx_loadAM (vs := [_, _, _]) 6 rfl (fun _ h => h) ag49 rfl rfl rfl rfl rfl ?_ | refine rx_loadAM (vs := [_, _, _]) 7 rfl (fun _ h => h) ag49 rfl rfl rfl rfl rfl ?_); (try ((first | refine rx_loadAV rfl (fun _ h => h) ag60 rfl rfl (by assumption) (by rfl) ?_ | refine rx_loadAM (vs := [_, _]) 0 rfl (fun _ h => h) ag60 rfl rfl rfl rfl rfl ?_ | refine rx_loadAM (vs := [_, _]) 1 rfl (fun _ h => h) ag60 rfl rfl rfl rfl rfl ?_ | refine rx_loadAM (vs := [_, _]) 2 rfl (fun _ h => h) ag60 rfl rfl rfl rfl rfl ?_ | refine rx_loadAM (vs := [_, _]) 3 rfl (fun _ h => h) ag60 rfl rfl rfl rfl rfl ?_ | refine rx_loadAM (vs := [_, _]) 4 rfl (fun _ h => h) ag60 rfl rfl rfl rfl rfl ?_ | refine rx_loadAM (vs := [_, _]) 5 rfl (fun _ h => h) ag60 rfl rfl rfl rfl rfl ?_ | refine rx_loadAM (vs := [_, _]) 6 rfl (fun _ h => h) ag60 rfl rfl rfl rfl rfl ?_ | refine rx_loadAM (vs := [_, _]) 7 rfl (fun _ h => h) ag60 rfl rfl rfl rfl rfl ?_); (try ((first | refine rx_loadAV rfl (fun _ h => h) ag49 rfl rfl (by assumption) (by rfl) ?_ | refine rx_loadAM (vs := [_, _, _]) 0 rfl (fun _ h => h) ag49 rfl rfl rfl rfl rfl ?_ | refine rx_loadAM (vs := [_, _, _]) 1 rfl (fun _ h => h) ag49 rfl rfl rfl rfl rfl ?_ | refine rx_loadAM (vs := [_, _, _]) 2 rfl (fun _ h => h) ag49 rfl rfl rfl rfl rfl ?_ | refine rx_loadAM (vs := [_, _, _]) 3 rfl (fun _ h => h) ag49 rfl rfl rfl rfl rfl ?_ | refine rx_loadAM (vs := [_, _, _]) 4 rfl (fun _ h => h) ag49 rfl rfl rfl rfl rfl ?_ | refine rx_loadAM (vs := [_, _, _]) 5 rfl (fun _ h => h) ag49 rfl rfl rfl rfl rfl ?_ | refine rx_loadAM (vs := [_, _, _]) 6 rfl (fun _ h => h) ag49 rfl rfl rfl rfl rfl ?_ | refine rx_loadAM (vs := [_, _, _]) 7 rfl (fun _ h => h) ag49 rfl rfl rfl rfl rfl ?_))))))))))
          refine rx_eff rfl (fun K hK => ?_)
          refine rl_callf fn25 (of_ok _ _ _ (Nat.lt_succ_self _) w0 w _ V6 hM hx) rfl rfl ?_
          clear hM
          rintro _ w ⟨V7, p1, hV7, hM, rfl, hp1⟩
          refine rl_nil (kq_normal (hK _ _ (hM.le hV7) ?_))
          refine rx_eff rfl (fun K hK => ?_)
          refine rl_callf fn28 (full_ok _ (stk ks 5) a _ _ (Nat.le_refl _) w0 w _ V7 hM hK5 (hS.le hV7) (hx.le hV7)) rfl rfl ?_
          clear hM
          rintro _ w ⟨V8, p2, hV8, hM, rfl, hp2⟩
          rw [← hbt] at hp2
          refine rl_nil (kq_normal (hK _ _ (hM.le (hV7.trans hV8)) ?_))
          refine rx_eff rfl (fun K hK => ?_)
          refine rl_callf fn25 (of_ok _ _ _ (Nat.lt_succ_self _) w0 w _ V8 hM hp2) rfl rfl ?_
          clear hM
          rintro _ w ⟨V9, p3, hV9, hM, rfl, hp3⟩
          refine rl_nil (kq_normal (hK _ _ (hM.le (hV7.trans (hV8.trans hV9))) ?_))
          refine rx_nil rfl ?_
          refine rl_callf fn24 (Equal_ok hres _ _ w0 w _ V9 s mb 0 o (hM.rot (A := [_, _, _]) (S := [_, _])) (hk.le (hV7.trans (hV8.trans hV9))) (hp1.le (hV8.trans hV9)) hp3) rfl rfl ?_
          clear hM hk
          rintro _ w ⟨V10, mb, o, rfl, hV10, hM, hk⟩
          replace hM := hM.rot (A := [_, _]) (S := [_, _, _])
          have hk : Knows V10 o st' := hk
          have hcd : code (.ok st') = 0 := rfl
          have hVc := hV7.trans (hV8.trans (hV9.trans hV10))
          have hx := hx.le hVc
          have hS := hS.le hVc
          have ht1 : (ap st' a).ht ≤ 1000000 := by rw [hmade]; have := hlow.1; omega
          have ht2 : (ap (stk ks 5) a).ht ≤ 1000000 := by rw [← hbt]; have := hlow.1; omega
          (repeat (first | refine seq_ ?_ | refine sq_normal ?_ | refine rl_nil ?_ | refine cond_f rfl ?_ | refine skip_ ?_ | refine np_normal ?_ | (first | (refine rl_neq_t rfl rfl rfl ?_ ?_; omega) | (refine rl_neq_f rfl rfl rfl ?_ ?_; omega))))
          (refine drawnM_ 7 [(0, false), (1, false), (4, false), (5, false), (2, true), (3, true), (6, true)] (fun w => Mem w0 w _ _) hM mo (by kernel_rfl) (fun _ h => h) ?_; clear hM; intro w hM; (try (refine rx_move (v := (Value.pointer _ : Value)) rfl rfl rfl ?_; (try ((first | refine rx_loadAV rfl (fun _ h => h) ag49 rfl rfl (by assumption) (by rfl) ?_ | refine rx_loadAM (vs := [_, _, _]) 0 rfl (fun _ h => h) ag49 rfl rfl rfl rfl rfl ?_ | refine rx_loadAM (vs := [_, _, _]) 1 rfl (fun _ h => h) ag49 rfl rfl rfl rfl rfl ?_ | refine rx_loadAM (vs := [_, _, _]) 2 rfl (fun _ h => h) ag49 rfl rfl rfl rfl rfl ?_ | refine rx_loadAM (vs := [_, _, _]) 3 rfl (fun _ h => h) ag49 rfl rfl rfl rfl rfl ?_ | refine rx_loadAM (vs := [_, _, _]) 4 rfl (fun _ h => h) ag49 rfl rfl rfl rfl rfl ?_ | refine rx_loadAM (vs := [_, _, _]) 5 rfl (fun _ h => h) ag49 rfl rfl rfl rfl rfl ?_ | refine rx_loadAM (vs := [_, _, _]) 6 rfl (fun _ h => h) ag49 rfl rfl rfl rfl rfl ?_ | refine rx_loadAM (vs := [_, _, _]) 7 rfl (fun _ h => h) ag49 rfl rfl rfl rfl rfl ?_); (try ((first | refine rx_loadAV rfl (fun _ h => h) ag60 rfl rfl (by assumption) (by rfl) ?_ | refine rx_loadAM (vs := [_, _]) 0 rfl (fun _ h => h) ag60 rfl rfl rfl rfl rfl ?_ | refine rx_loadAM (vs := [_, _]) 1 rfl (fun _ h => h) ag60 rfl rfl rfl rfl rfl ?_ | refine rx_loadAM (vs := [_, _]) 2 rfl (fun _ h => h) ag60 rfl rfl rfl rfl rfl ?_ | refine rx_loadAM (vs := [_, _]) 3 rfl (fun _ h => h) ag60 rfl rfl rfl rfl rfl ?_ | refine rx_loadAM (vs := [_, _]) 4 rfl (fun _ h => h) ag60 rfl rfl rfl rfl rfl ?_ | refine rx_loadAM (vs := [_, _]) 5 rfl (fun _ h => h) ag60 rfl rfl rfl rfl rfl ?_ | refine rx_loadAM (vs := [_, _]) 6 rfl (fun _ h => h) ag60 rfl rfl rfl rfl rfl ?_ | refine rx_loadAM (vs := [_, _]) 7 rfl (fun _ h => h) ag60 rfl rfl rfl rfl rfl ?_); (try ((first | refine rx_loadAV rfl (fun _ h => h) ag49 rfl rfl (by assumption) (by rfl) ?_ | refine rx_loadAM (vs := [_, _, _]) 0 rfl (fun _ h => h) ag49 rfl rfl rfl rfl rfl ?_ | refine rx_loadAM (vs := [_, _, _]) 1 rfl (fun _ h => h) ag49 rfl rfl rfl rfl rfl ?_ | refine rx_loadAM (vs := [_, _, _]) 2 rfl (fun _ h => h) ag49 rfl rfl rfl rfl rfl ?_ | refine rx_loadAM (vs := [_, _, _]) 3 rfl (fun _ h => h) ag49 rfl rfl rfl rfl rfl ?_ | refine rx_loadAM (vs := [_, _, _]) 4 rfl (fun _ h => h) ag49 rfl rfl rfl rfl rfl ?_ | refine rx_loadAM (vs := [_, _, _]) 5 rfl (fun _ h => h) ag49 rfl rfl rfl rfl rfl ?_ | refine rx_loadAM (vs := [_, _, _]) 6 rfl (fun _ h => h) ag49 rfl rfl rfl rfl rfl ?_ | refine rx_loadAM (vs := [_, _, _]) 7 rfl (fun _ h => h) ag49 rfl rfl rfl rfl rfl ?_))))))))))
          refine rx_eff rfl (fun K hK => ?_)
          refine rl_callf fn25 (of_ok _ _ _ (Nat.lt_succ_self _) w0 w _ V10 hM hx) rfl rfl ?_
          clear hM
          rintro _ w ⟨V11, p4, hV11, hM, rfl, hp4⟩
          refine rl_nil (kq_normal (hK _ _ (hM.le hV11) ?_))
          refine rx_eff rfl (fun K hK => ?_)
          refine rl_callf fn26 (Kind_ok _ st' a _ (Nat.le_refl _) ht1 w0 w _ V11 s mb 0 o (hM.rot (A := [_, _, _]) (S := [_, _])) (hk.le hV11) hp4) rfl rfl ?_
          clear hM
          rintro _ w ⟨V12, v12, hV12, hM, rfl, hk12⟩
          replace hM := hM.rot (A := [_, _]) (S := [_, _, _])
          obtain ⟨_, _, rfl⟩ := hk12.shape
          refine rl_nil (kq_normal (hK _ _ (hM.le (hV11.trans hV12)) ?_))
          refine rx_eff rfl (fun K hK => ?_)
          refine rl_callf fn29 (kindof_ok _ (stk ks 5) a _ _ (Nat.le_refl _) ht2 w0 w _ V12 hM hK5 (hS.le (hV11.trans hV12)) (hx.le (hV11.trans hV12))) rfl rfl ?_
          clear hM
          rintro _ w ⟨V13, v13, hV13, hM, rfl, hk13⟩
          obtain ⟨_, _, rfl⟩ := hk13.shape
          refine rl_nil (kq_normal (hK _ _ (hM.le (hV11.trans (hV12.trans hV13))) ?_))
          refine rx_nil rfl ?_
          refine rl_callf fn14 (refsame_ok _ _ _ (Nat.lt_succ_self _) w0 w _ V13 _ _ hM (hk12.le hV13) hk13) rfl rfl ?_
          clear hM
          rintro _ w ⟨rfl, hM⟩
          rw [Kd.same_iff.2 (show (ap st' a).kd = (ap (stk ks 5) a).kd by rw [hmade, hbt])]
          (repeat (first | refine sq_normal ?_ | refine rl_nil ?_ | refine cond_f rfl ?_ | refine skip_ ?_ | refine inBlock_normal ?_ | refine np_normal ?_ | (refine region_ (id := 14) ?_; (try (refine rl_move (v := (Value.int _ _ : Value)) rfl rfl ?_; (try ((refine rl_add rfl rfl rfl ?_ ?_ ?_; omega; omega); (try (refine rl_assign (v := (Value.int _ _ : Value)) rfl rfl ?_))))))) | refine rl_not rfl rfl ?_))
          exact kq_normal (hL1 (4 - (q + 1)) _ _ (by omega) (by (repeat (first | with_reducible exact Agree.ov | with_reducible exact Agree.refl _ _ | refine Agree.upd rfl ?_ | refine Agree.ovs rfl ?_))) ⟨q + 1, V13, mb, o, st', rfl, by omega, rfl, hV5.trans (hV6.trans (hVc.trans (hV11.trans (hV12.trans hV13)))), hM.dropn 2, hk.le (hV11.trans (hV12.trans hV13)), hG', hF'⟩)
        · (repeat (first | refine seq_ ?_ | refine sq_normal ?_ | refine sq_exit ?_ | refine rl_nil ?_ | refine cond_f rfl ?_ | refine exit_ ?_ | refine inBlock_exit ?_ | refine kq_exit ?_ | (refine region_ (id := 13) ?_; (try (refine rl_move (v := (Value.int _ _ : Value)) rfl rfl ?_; (try (refine rl_move (v := (Value.slice _ _ _ : Value)) rfl rfl ?_; (try (refine rl_len sl44 rfl rfl ?_; (try ((first | (refine rl_lss_t rfl rfl rfl ?_ ?_; omega) | (refine rl_lss_f rfl rfl rfl ?_ ?_; omega)); (try (refine rl_move (v := (Value.bool _ : Value)) rfl rfl ?_; (try ((first | refine rl_off rfl ?_ | refine rl_move (v := (Value.int _ _ : Value)) rfl rfl ?_); (try ((first | refine rl_off rfl ?_ | (refine rl_lss_t rfl rfl rfl ?_ ?_; omega) | (refine rl_lss_f rfl rfl rfl ?_ ?_; omega)); (try (refine rl_pick (v := (Value.bool _ : Value)) rfl rfl rfl ?_))))))))))))))))) | (refine region_ (id := 20) ?_)))
          refine rl_callf fn15 fin rfl rfl ?_
          clear hM fin
          rintro _ w ⟨rfl, V3, hV3, hM⟩
          (repeat (first | refine sq_normal ?_ | refine rl_nil ?_ | refine ret_ ?_ | refine rl_assign (v := (Value.bool _ : Value)) rfl rfl ?_))
          exact bp_ret1 (v := Value.bool _) rfl rfl ⟨rfl, hM.below⟩
      · (repeat (first | refine seq_ ?_ | refine sq_normal ?_ | refine sq_exit ?_ | refine rl_nil ?_ | refine cond_f rfl ?_ | refine exit_ ?_ | refine inBlock_exit ?_ | refine kq_exit ?_ | (refine region_ (id := 13) ?_; (try (refine rl_move (v := (Value.int _ _ : Value)) rfl rfl ?_; (try (refine rl_move (v := (Value.slice _ _ _ : Value)) rfl rfl ?_; (try (refine rl_len sl44 rfl rfl ?_; (try ((first | (refine rl_lss_t rfl rfl rfl ?_ ?_; omega) | (refine rl_lss_f rfl rfl rfl ?_ ?_; omega)); (try (refine rl_move (v := (Value.bool _ : Value)) rfl rfl ?_; (try ((first | refine rl_off rfl ?_ | refine rl_move (v := (Value.int _ _ : Value)) rfl rfl ?_); (try ((first | refine rl_off rfl ?_ | (refine rl_lss_t rfl rfl rfl ?_ ?_; omega) | (refine rl_lss_f rfl rfl rfl ?_ ?_; omega)); (try (refine rl_pick (v := (Value.bool _ : Value)) rfl rfl rfl ?_))))))))))))))))) | (refine region_ (id := 20) ?_)))
        refine rl_callf fn15 fin rfl rfl ?_
        clear hM fin
        rintro _ w ⟨rfl, V3, hV3, hM⟩
        (repeat (first | refine sq_normal ?_ | refine rl_nil ?_ | refine ret_ ?_ | refine rl_assign (v := (Value.bool _ : Value)) rfl rfl ?_))
        exact bp_ret1 (v := Value.bool _) rfl rfl ⟨rfl, hM.below⟩
  rw [hw0] at key
  exact key
end Go.Proofs.Ytkjahcegjplbnaa.Kin
