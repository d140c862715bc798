/- The walk of fuguelaw01.CharsNames. -/
import Derived.Test.YtbcplbkjeinplaaDoorChrW7
set_option linter.unusedVariables false
set_option linter.unusedSimpArgs false
namespace Go.Eng
theorem Mem.first {w0 w : World} {L : List Ent} {V : Vw} (n : Nat) (h : Mem w0 w L V) : Mem w0 w (L.take n) V :=
  h.pick id (fun i e hi => by
    rw [List.getElem?_take] at hi
    split at hi
    · exact hi
    · cases hi) (fun i j _ _ h => h)
end Go.Eng
namespace Go.Proofs.YtbcplbkjeinplaaDoor.Chr
open Go Go.Eng Go.RowKit Go.Lx
attribute [local irreducible] RL RX KQ SQ Exit.inBlock Exit.then BP NP CallsOk IsSl IsRows IsInts IsBools Own Blk Code.wp Calls wpList
set_option maxRecDepth 4000 in
set_option maxHeartbeats 4000000 in
theorem law3 (s : List UInt8) (c at_ n : Int) (w : World) (hs : s.length ≤ maxLen) (hc : 0 ≤ c ∧ c ≤ 255) (hat : I64 at_) (hn : I64 n) : CallsOk Tryd.prog 3 #[St s, .int .u8 c, .int .i64 at_, .int .i64 n] w fun r w' => r = .bool true ∧ Below w.heap.size w w' := by
  have hml := maxLen_le
  have hM := Mem.init w
  obtain ⟨w0, hw0⟩ : ∃ w0, w0 = w := ⟨_, rfl⟩
  obtain ⟨V, hVd⟩ : ∃ V, V = w.cell? := ⟨_, rfl⟩
  rw [← hVd] at hM
  have hM : Mem w0 w [] V := by rw [hw0]; exact hM
  obtain ⟨qc, hqc⟩ : ∃ q : UInt8, (q.toNat : Int) = c := ⟨UInt8.ofNat c.toNat, by rw [UInt8.toNat_ofNat']; omega⟩
  have key : CallsOk Tryd.prog 3 #[St s, .int .u8 c, .int .i64 at_, .int .i64 n] w fun r w' => r = .bool true ∧ Below w0.heap.size w0 w' := by
    refine enter_ (N := 90) Tryd.func3 rfl rfl rfl ?_
    (repeat (first | refine seq_ ?_ | refine sq_normal ?_ | refine rl_nil ?_ | (refine region_ (id := 0) ?_; (try (refine rl_assign (v := (Value.bool _ : Value)) rfl rfl ?_))) | (refine region_ (id := 1) ?_; (try (refine rl_move (v := (Value.int _ _ : Value)) rfl rfl ?_)))))
    refine rl_callf fn9 (around_ok n 36 w hn.1 hn.2 (by omega) (by omega)) rfl rfl ?_
    rintro _ _ ⟨rfl, rfl⟩
    have hk := around_lt n 36 (by omega)
    obtain ⟨k, hkd⟩ : ∃ k : Nat, 1 + around n 36 = (k : Int) := ⟨(1 + around n 36).toNat, by omega⟩
    have hk1 : 1 ≤ k ∧ k ≤ 36 := by omega
    (repeat (first | refine seq_ ?_ | refine sq_normal ?_ | refine rl_nil ?_ | refine block_ ?_ | (refine region_ (id := 2) ?_; (try (refine rl_assign (v := (Value.slice _ _ _ : Value)) rfl rfl ?_))) | (refine region_ (id := 3) ?_; (try (refine rl_assign (v := (Value.slice _ _ _ : Value)) rfl rfl ?_))) | (refine region_ (id := 4) ?_; (try (refine rl_assign (v := (Value.int _ _ : Value)) rfl rfl ?_))) | (refine rl_add rfl rfl rfl ?_ ?_ ?_; omega; omega) | refine rl_assign (v := (Value.int _ _ : Value)) rfl rfl ?_))
    rw [hkd]
    have hM := (hM.newOwn 5 1).newOwn 5 1
    refine loop3 [(10, 13), (18, 35)] 10 11 12 (fun m v10 v11 v12 wr => ∃ (q : Nat) (lb ub : List UInt8) (a1 : Option Addr) (c1 : Nat) (a2 : Option Addr) (c2 : Nat), v10 = .slice a1 q c1 ∧ v11 = .slice a2 q c2 ∧ v12 = .int .i64 q ∧ q ≤ k ∧ m = k - q ∧ lb.length = q ∧ ub.length = q ∧
        Mem w0 wr (.own (.slice a1 q c1) 5 1 q (by8 lb) :: .own (.slice a2 q c2) 5 1 q (by8 ub) :: []) V) _
      ⟨0, [], [], none, 0, none, 0, rfl, rfl, rfl, by omega, rfl, rfl, rfl, hM⟩ ?_
    clear hM
    rintro m τ v10 v11 v12 w ⟨q, lb, ub, a1, c1, a2, c2, rfl, rfl, rfl, hq, rfl, hlb, hub, hM⟩ K0 hL0
    by_cases hlt : q < k
    · have h6 : 0 ≤ (q : Int) % 6 ∧ (q : Int) % 6 < 6 := ⟨Int.emod_nonneg _ (by omega), Int.emod_lt_of_pos _ (by omega)⟩
      obtain ⟨x1, hx1⟩ : ∃ x1, ([97, 90, 39, 48, 95, 98] : List UInt8)[((q : Int) % 6).toNat]? = some x1 := ⟨_, List.getElem?_eq_getElem (by simp; omega)⟩
      obtain ⟨x2, hx2⟩ : ∃ x2, ([65, 122, 95, 57, 39, 66] : List UInt8)[((q : Int) % 6).toNat]? = some x2 := ⟨_, List.getElem?_eq_getElem (by simp; omega)⟩
      (repeat (first | refine seq_ ?_ | refine sq_normal ?_ | refine rl_nil ?_ | refine cond_t rfl ?_ | refine skip_ ?_ | refine block_ ?_ | (refine region_ (id := 5) ?_; (try (refine rl_move (v := (Value.int _ _ : Value)) rfl rfl ?_; (try (refine rl_move (v := (Value.int _ _ : Value)) rfl rfl ?_; (try ((first | (refine rl_lss_t rfl rfl rfl ?_ ?_; omega) | (refine rl_lss_f rfl rfl rfl ?_ ?_; omega))))))))) | (refine region_ (id := 7) ?_; (try (refine rl_move (v := (Value.slice _ _ _ : Value)) rfl rfl ?_; (try (refine rl_move (v := (Value.int _ _ : Value)) rfl rfl ?_; (try ((refine rl_rem rfl rfl rfl ?_ ?_ ?_; omega; omega); (try ((first | refine rl_sindex us9 rfl rfl rfl (by omega) (by assumption) ?_ | refine rl_ksindex rfl us9 rfl rfl (by omega) (by assumption) ?_); (try ((refine rl_bsliceM (d := 27) [_] hM sl23 rfl rfl rfl rfl rfl (by decide) (by decide) ?_; clear hM; intro w b27 hM))))))))))))))
      refine rl_appendM 1 (news := [.int .u8 x1.toNat]) (B := b27) (off := 0) hM sl23 rfl (by decide) rfl (hM.row (i := 0) rfl) rfl rfl rfl (fun _ => rfl) rfl (by simp [Value.oneCell']) (by unfold maxLen; omega) (by omega) ?_
      clear hM
      intro w a3 c3 _ _ hM
      replace hM : Mem w0 w (.own (.slice a3 (q + 1) c3) 5 1 (q + 1) (by8 lb ++ [.int .u8 x1.toNat]) :: .own (.slice a2 q c2) 5 1 q (by8 ub) :: []) V := hM.dropn 1
      (repeat (first | refine sq_normal ?_ | refine rl_nil ?_ | (refine region_ (id := 8) ?_; (try (refine rl_move (v := (Value.slice _ _ _ : Value)) rfl rfl ?_; (try (refine rl_move (v := (Value.int _ _ : Value)) rfl rfl ?_; (try ((refine rl_rem rfl rfl rfl ?_ ?_ ?_; omega; omega); (try ((first | refine rl_sindex us9 rfl rfl rfl (by omega) (by assumption) ?_ | refine rl_ksindex rfl us9 rfl rfl (by omega) (by assumption) ?_); (try ((refine rl_bsliceM (d := 33) [_] hM sl23 rfl rfl rfl rfl rfl (by decide) (by decide) ?_; clear hM; intro w b33 hM)))))))))))) | refine rl_assign (v := (Value.slice _ _ _ : Value)) rfl rfl ?_))
      refine rl_appendM 2 (news := [.int .u8 x2.toNat]) (B := b33) (off := 0) hM sl23 rfl (by decide) rfl (hM.row (i := 0) rfl) rfl rfl rfl (fun _ => rfl) rfl (by simp [Value.oneCell']) (by unfold maxLen; omega) (by omega) ?_
      clear hM
      intro w a4 c4 _ _ hM
      replace hM : Mem w0 w (.own (.slice a3 (q + 1) c3) 5 1 (q + 1) (by8 lb ++ [.int .u8 x1.toNat]) :: .own (.slice a4 (q + 1) c4) 5 1 (q + 1) (by8 ub ++ [.int .u8 x2.toNat]) :: []) V := hM.dropn 1
      (repeat (first | refine sq_normal ?_ | refine rl_nil ?_ | refine inBlock_normal ?_ | (refine region_ (id := 6) ?_; (try (refine rl_move (v := (Value.int _ _ : Value)) rfl rfl ?_; (try ((refine rl_add rfl rfl rfl ?_ ?_ ?_; omega; omega); (try (refine rl_assign (v := (Value.int _ _ : Value)) rfl rfl ?_))))))) | refine rl_assign (v := (Value.slice _ _ _ : Value)) rfl rfl ?_))
      refine kq_normal (hL0 (k - (q + 1)) _ _ (by omega) (by (repeat (first | with_reducible exact Agree.ov | with_reducible exact Agree.refl _ _ | refine Agree.upd rfl ?_ | refine Agree.ovs rfl ?_))) ⟨q + 1, lb ++ [x1], ub ++ [x2], a3, c3, a4, c4, rfl, rfl, rfl, by omega, rfl, by simp [hlb], by simp [hub], ?_⟩)
      rw [by8_append, by8_append]
      exact hM
    · have hqe : q = k := by omega
      subst hqe
      obtain ⟨bl, cl, e1, _, _⟩ := hM.ownA (i := 0) rfl (by omega)
      cases e1
      obtain ⟨bu, cu, e2, _, _⟩ := hM.ownA (i := 1) rfl (by omega)
      cases e2
      have hrl : ∀ w' : World, Mem w0 w' (.own (.slice (some ⟨bl, 0, none⟩) q c1) 5 1 q (by8 lb) :: .own (.slice (some ⟨bu, 0, none⟩) q c2) 5 1 q (by8 ub) :: []) V → ∀ (j : Nat) u, lb[j]? = some u → w'.cell? ⟨bl, 0 + j, none⟩ = some (.int .u8 u.toNat) := fun w' hM j u hj => by
        rw [Nat.zero_add]; exact hM.cellO (i := 0) rfl (by8_get hj)
      have hru : ∀ w' : World, Mem w0 w' (.own (.slice (some ⟨bl, 0, none⟩) q c1) 5 1 q (by8 lb) :: .own (.slice (some ⟨bu, 0, none⟩) q c2) 5 1 q (by8 ub) :: []) V → ∀ (j : Nat) u, ub[j]? = some u → w'.cell? ⟨bu, 0 + j, none⟩ = some (.int .u8 u.toNat) := fun w' hM j u hj => by
        rw [Nat.zero_add]; exact hM.cellO (i := 1) rfl (by8_get hj)
      (repeat (first | refine seq_ ?_ | refine sq_normal ?_ | refine sq_exit ?_ | refine rl_nil ?_ | refine cond_f rfl ?_ | refine exit_ ?_ | refine inBlock_exit ?_ | refine kq_exit ?_ | (refine region_ (id := 5) ?_; (try (refine rl_move (v := (Value.int _ _ : Value)) rfl rfl ?_; (try (refine rl_move (v := (Value.int _ _ : Value)) rfl rfl ?_; (try ((first | (refine rl_lss_t rfl rfl rfl ?_ ?_; omega) | (refine rl_lss_f rfl rfl rfl ?_ ?_; omega)))))))))))
      (refine drawnM_ 6 [(0, false), (2, false), (3, false), (4, false), (5, false), (1, true)] (fun w => Mem w0 w _ _) hM mo (by kernel_rfl) (fun _ h => h) ?_; clear hM; intro w hM; (try (refine rx_move (v := (Value.string _ : Value)) rfl rfl rfl ?_; (try (refine rx_move (v := (Value.slice _ _ _ : Value)) rfl rfl rfl ?_)))))
      refine rx_b2s lb rfl sl23.und (by kernel_rfl) us9 rfl rfl hlb.symm hrl ?_
      (try (refine rx_move (v := (Value.slice _ _ _ : Value)) rfl rfl rfl ?_))
      refine rx_b2s ub rfl sl23.und (by kernel_rfl) us9 rfl rfl hub.symm hru ?_
      refine rx_eff rfl (fun K hK => ?_)
      refine rl_callf fn10 (short_ok s 50 w (by omega) (by omega) (by omega)) rfl rfl ?_
      rintro _ _ ⟨rfl, rfl⟩
      refine rl_nil (kq_normal (hK _ _ hM ?_))
      refine rx_nil rfl ?_
      (repeat (first | refine seq_ ?_ | refine sq_normal ?_ | refine rl_nil ?_ | refine np_normal ?_ | (refine region_ (id := 10) ?_; (try (refine rl_move (v := (Value.slice _ _ _ : Value)) rfl rfl ?_; (try (refine rl_move (v := (Value.int _ _ : Value)) rfl rfl ?_; (try (refine rl_move (v := (Value.int _ _ : Value)) rfl rfl ?_))))))) | refine rl_assign (v := (Value.slice _ _ _ : Value)) rfl rfl ?_ | (refine rl_bsliceM (d := 41) [_, _, _] hM sl25 rfl rfl rfl rfl rfl (by decide) (by decide) ?_; clear hM; intro w b41 hM)))
      have hM := hM.asOwn (n := 3) (sz := 1) 0 rfl rfl (by unfold maxLen; omega)
      refine rl_callf fn9 (around_ok at_ q w hat.1 hat.2 (by omega) (by omega)) rfl rfl ?_
      rintro _ _ ⟨rfl, rfl⟩
      have hj := around_lt at_ q (by omega)
      obtain ⟨j, hjd⟩ : ∃ j : Nat, around at_ q = (j : Int) := ⟨(around at_ q).toNat, by omega⟩
      rw [hjd] at hj ⊢
      have hjl : (by8 lb).length = q := by rw [by8_len, hlb]
      have hju : (by8 ub).length = q := by rw [by8_len, hub]
      (repeat (first | refine rl_move (v := (Value.int _ _ : Value)) rfl rfl ?_ | (first | (refine rl_idx1 sl23 rfl rfl rfl rfl ?_ ?_ ?_; omega; omega) | (apply rl_idx1 sl23 rfl rfl rfl; assumption; omega; omega))))
      have hjn : (j : Int).toNat = j := rfl
      refine rl_storeO 1 hM vt5 rfl rfl rfl rfl rfl (by rw [hjl]; omega) ?_
      clear hM
      intro w hM
      have hM : Mem w0 w (.own (.slice (some ⟨b41, 0, none⟩) 3 3) 9 1 3 [St (s.take 50), St lb, St ub] :: .own (.slice (some ⟨bl, 0, none⟩) q c1) 5 1 q ((by8 lb).set (0 + j) (.int .u8 c)) :: .own (.slice (some ⟨bu, 0, none⟩) q c2) 5 1 q (by8 ub) :: []) V := hM
      rw [Nat.zero_add, ← hqc, by8_set] at hM
      refine rl_nil (sq_normal ?_)
      (repeat (first | refine seq_ ?_ | (refine region_ (id := 11) ?_; (try (refine rl_move (v := (Value.slice _ _ _ : Value)) rfl rfl ?_; (try (refine rl_move (v := (Value.int _ _ : Value)) rfl rfl ?_; (try (refine rl_move (v := (Value.int _ _ : Value)) rfl rfl ?_)))))))))
      refine rl_callf fn9 (around_ok at_ q w hat.1 hat.2 (by omega) (by omega)) rfl rfl ?_
      rintro _ _ ⟨rfl, rfl⟩
      rw [hjd]
      (repeat (first | refine rl_move (v := (Value.int _ _ : Value)) rfl rfl ?_ | (first | (refine rl_idx1 sl23 rfl rfl rfl rfl ?_ ?_ ?_; omega; omega) | (apply rl_idx1 sl23 rfl rfl rfl; assumption; omega; omega))))
      refine rl_storeO 2 hM vt5 rfl rfl rfl rfl rfl (by rw [hju]; omega) ?_
      clear hM hrl hru
      intro w hM
      have hM : Mem w0 w (.own (.slice (some ⟨b41, 0, none⟩) 3 3) 9 1 3 [St (s.take 50), St lb, St ub] :: .own (.slice (some ⟨bl, 0, none⟩) q c1) 5 1 q (by8 (lb.set j qc)) :: .own (.slice (some ⟨bu, 0, none⟩) q c2) 5 1 q ((by8 ub).set (0 + j) (.int .u8 c)) :: []) V := hM
      rw [Nat.zero_add] at hM
      rw [← hqc, by8_set] at hM
      refine rl_nil (sq_normal ?_)
      have hM : Mem w0 w (.own (.slice (some ⟨b41, 0, none⟩) 3 3) 9 1 3 [St (s.take 50), St lb, St ub] :: .own (.slice (some ⟨bl, 0, none⟩) q c1) 5 1 q (by8 (lb.set j qc)) :: .own (.slice (some ⟨bu, 0, none⟩) q c2) 5 1 q (by8 (ub.set j qc)) :: []) V := hM
      have hl1 : (lb.set j qc).length = q := by rw [List.length_set, hlb]
      have hl2 : (ub.set j qc).length = q := by rw [List.length_set, hub]
      (repeat (first | refine seq_ ?_ | (refine region_ (id := 12) ?_; (try (refine rl_move (v := (Value.slice _ _ _ : Value)) rfl rfl ?_; (try (refine rl_move (v := (Value.slice _ _ _ : Value)) rfl rfl ?_)))))))
      refine rl_b2s (lb.set j qc) sl23.und (by kernel_rfl) us9 rfl rfl hl1.symm (fun j u hj => by rw [Nat.zero_add]; exact hM.cellO (i := 1) rfl (by8_get hj)) ?_
      (repeat (first | refine rl_move (v := (Value.slice _ _ _ : Value)) rfl rfl ?_))
      refine rl_b2s (ub.set j qc) sl23.und (by kernel_rfl) us9 rfl rfl hl2.symm (fun j u hj => by rw [Nat.zero_add]; exact hM.cellO (i := 2) rfl (by8_get hj)) ?_
      (repeat (first | (refine rl_bsliceM (d := 59) [_, _] hM sl25 rfl rfl rfl rfl rfl (by decide) (by decide) ?_; clear hM; intro w b59 hM)))
      refine rl_appendM 1 (news := [St (lb.set j qc), St (ub.set j qc)]) (B := b59) (off := 0) hM sl25 rfl (by decide) rfl (hM.row (i := 0) rfl) rfl rfl rfl (fun _ => rfl) rfl (by simp [Value.oneCell', St]) (by unfold maxLen; omega) (by omega) ?_
      clear hM
      intro w a5 c5 h51 h52 hM
      obtain ⟨A, hA⟩ : ∃ A, A = [s.take 50, lb, ub, lb.set j qc, ub.set j qc] := ⟨_, rfl⟩
      have hM : Mem w0 w (.own (.slice a5 5 c5) 9 1 5 (A.map St) :: []) V := by
        rw [hA]
        exact (hM.dropn 1).first 1
      have hAl : A.length = 5 := by rw [hA]; rfl
      have hA1 : ∀ x ∈ A, x.length ≤ 1000 := by
        intro x hx
        rw [hA] at hx
        simp only [List.mem_cons, List.not_mem_nil, or_false] at hx
        rcases hx with rfl | rfl | rfl | rfl | rfl
        · rw [List.length_take]; omega
        · omega
        · omega
        · omega
        · omega
      clear hA hl1 hl2
      (repeat (first | refine seq_ ?_ | refine sq_normal ?_ | refine rl_nil ?_ | refine block_ ?_ | (refine region_ (id := 13) ?_; (try (refine rl_assign (v := (Value.int _ _ : Value)) rfl rfl ?_))) | refine rl_assign (v := (Value.slice _ _ _ : Value)) rfl rfl ?_))
      obtain ⟨ba, ca, e3, _, _⟩ := hM.ownA (i := 0) rfl (by omega)
      cases e3
      refine loop1 [(8, 9), (14, 15), (61, 89)] 14 (fun m v wr => ∃ i : Nat, v = .int .i64 i ∧ i ≤ 5 ∧ m = 5 - i ∧ Mem w0 wr (.own (.slice (some ⟨ba, 0, none⟩) 5 c5) 9 1 5 (A.map St) :: []) V) _
        ⟨0, rfl, by omega, rfl, hM⟩ ?_
      clear hM
      rintro m τ2 v w ⟨i, rfl, hi5, rfl, hM⟩ K1 hL1
      by_cases hi : i < 5
      · obtain ⟨x, hx⟩ : ∃ x, A[i]? = some x := ⟨_, List.getElem?_eq_getElem (by omega)⟩
        have hxl := hA1 x (List.mem_of_getElem? hx)
        have hcx : (A.map St)[0 + (i : Int).toNat]? = some (St x) := by
          show (A.map St)[0 + i]? = _
          rw [Nat.zero_add, List.getElem?_map, hx]; rfl
        (repeat (first | refine seq_ ?_ | refine sq_normal ?_ | refine rl_nil ?_ | refine cond_t rfl ?_ | refine skip_ ?_ | refine block_ ?_ | (refine region_ (id := 14) ?_; (try (refine rl_move (v := (Value.int _ _ : Value)) rfl rfl ?_; (try ((first | (refine rl_lss_t rfl rfl rfl ?_ ?_; omega) | (refine rl_lss_f rfl rfl rfl ?_ ?_; omega)))))))))
        (refine drawnM_ 21 [(0, false), (1, false), (2, false), (3, false), (5, false), (6, false), (7, false), (8, false), (4, true), (9, true), (10, false), (11, false), (12, false), (13, false), (14, false), (15, false), (17, false), (18, false), (19, false), (20, false), (16, true)] (fun w => Mem w0 w _ _) hM mo (by kernel_rfl) (fun _ h => h) ?_; clear hM; intro w hM; (try (refine rx_move (v := (Value.slice _ _ _ : Value)) rfl rfl rfl ?_; (try (refine rx_move (v := (Value.int _ _ : Value)) rfl rfl rfl ?_; (try ((first | (refine rx_idx1 rfl sl25 rfl rfl rfl rfl ?_ ?_ ?_; omega; omega) | (apply rx_idx1 rfl sl25 rfl rfl rfl; assumption; omega; omega)); (try ((first | refine rx_loadV rfl (fun _ h => h) vt9 rfl rfl (by first | assumption | exact VRow.get (by assumption) rfl | exact VRow.get0 (by assumption) rfl) ?_ | refine rx_loadM 0 rfl (fun _ h => h) vt9 rfl rfl rfl (by first | rfl | assumption) ?_ | refine rx_loadM 1 rfl (fun _ h => h) vt9 rfl rfl rfl (by first | rfl | assumption) ?_ | refine rx_loadM 2 rfl (fun _ h => h) vt9 rfl rfl rfl (by first | rfl | assumption) ?_ | refine rx_loadM 3 rfl (fun _ h => h) vt9 rfl rfl rfl (by first | rfl | assumption) ?_ | refine rx_loadM 4 rfl (fun _ h => h) vt9 rfl rfl rfl (by first | rfl | assumption) ?_ | refine rx_loadM 5 rfl (fun _ h => h) vt9 rfl rfl rfl (by first | rfl | assumption) ?_ | refine rx_loadM 6 rfl (fun _ h => h) vt9 rfl rfl rfl (by first | rfl | assumption) ?_ | refine rx_loadM 7 rfl (fun _ h => h) vt9 rfl rfl rfl (by first | rfl | assumption) ?_ | refine rx_loadO 0 rfl (fun _ h => h) vt9 rfl rfl rfl (by first | assumption | exact ORow.get (by assumption) rfl | exact ORow.get0 (by assumption) rfl) ?_ | refine rx_loadO 1 rfl (fun _ h => h) vt9 rfl rfl rfl (by first | assumption | exact ORow.get (by assumption) rfl | exact ORow.get0 (by assumption) rfl) ?_ | refine rx_loadO 2 rfl (fun _ h => h) vt9 rfl rfl rfl (by first | assumption | exact ORow.get (by assumption) rfl | exact ORow.get0 (by assumption) rfl) ?_ | refine rx_loadO 3 rfl (fun _ h => h) vt9 rfl rfl rfl (by first | assumption | exact ORow.get (by assumption) rfl | exact ORow.get0 (by assumption) rfl) ?_ | refine rx_loadO 4 rfl (fun _ h => h) vt9 rfl rfl rfl (by first | assumption | exact ORow.get (by assumption) rfl | exact ORow.get0 (by assumption) rfl) ?_ | refine rx_loadO 5 rfl (fun _ h => h) vt9 rfl rfl rfl (by first | assumption | exact ORow.get (by assumption) rfl | exact ORow.get0 (by assumption) rfl) ?_ | refine rx_loadO 6 rfl (fun _ h => h) vt9 rfl rfl rfl (by first | assumption | exact ORow.get (by assumption) rfl | exact ORow.get0 (by assumption) rfl) ?_ | refine rx_loadO 7 rfl (fun _ h => h) vt9 rfl rfl rfl (by first | assumption | exact ORow.get (by assumption) rfl | exact ORow.get0 (by assumption) rfl) ?_); (try (refine rx_move (v := (Value.slice _ _ _ : Value)) rfl rfl rfl ?_; (try (refine rx_move (v := (Value.int _ _ : Value)) rfl rfl rfl ?_; (try ((first | (refine rx_idx1 rfl sl25 rfl rfl rfl rfl ?_ ?_ ?_; omega; omega) | (apply rx_idx1 rfl sl25 rfl rfl rfl; assumption; omega; omega)); (try ((first | refine rx_loadV rfl (fun _ h => h) vt9 rfl rfl (by first | assumption | exact VRow.get (by assumption) rfl | exact VRow.get0 (by assumption) rfl) ?_ | refine rx_loadM 0 rfl (fun _ h => h) vt9 rfl rfl rfl (by first | rfl | assumption) ?_ | refine rx_loadM 1 rfl (fun _ h => h) vt9 rfl rfl rfl (by first | rfl | assumption) ?_ | refine rx_loadM 2 rfl (fun _ h => h) vt9 rfl rfl rfl (by first | rfl | assumption) ?_ | refine rx_loadM 3 rfl (fun _ h => h) vt9 rfl rfl rfl (by first | rfl | assumption) ?_ | refine rx_loadM 4 rfl (fun _ h => h) vt9 rfl rfl rfl (by first | rfl | assumption) ?_ | refine rx_loadM 5 rfl (fun _ h => h) vt9 rfl rfl rfl (by first | rfl | assumption) ?_ | refine rx_loadM 6 rfl (fun _ h => h) vt9 rfl rfl rfl (by first | rfl | assumption) ?_ | refine rx_loadM 7 rfl (fun _ h => h) vt9 rfl rfl rfl (by first | rfl | assumption) ?_ | refine rx_loadO 0 rfl (fun _ h => h) vt9 rfl rfl rfl (by first | assumption | exact ORow.get (by assumption) rfl | exact ORow.get0 (by assumption) rfl) ?_ | refine rx_loadO 1 rfl (fun _ h => h) vt9 rfl rfl rfl (by first | assumption | exact ORow.get (by assumption) rfl | exact ORow.get0 (by assumption) rfl) ?_ | refine rx_loadO 2 rfl (fun _ h => h) vt9 rfl rfl rfl (by first | assumption | exact ORow.get (by assumption) rfl | exact ORow.get0 (by assumption) rfl) ?_ | refine rx_loadO 3 rfl (fun _ h => h) vt9 rfl rfl rfl (by first | assumption | exact ORow.get (by assumption) rfl | exact ORow.get0 (by assumption) rfl) ?_ | refine rx_loadO 4 rfl (fun _ h => h) vt9 rfl rfl rfl (by first | assumption | exact ORow.get (by assumption) rfl | exact ORow.get0 (by assumption) rfl) ?_ | refine rx_loadO 5 rfl (fun _ h => h) vt9 rfl rfl rfl (by first | assumption | exact ORow.get (by assumption) rfl | exact ORow.get0 (by assumption) rfl) ?_ | refine rx_loadO 6 rfl (fun _ h => h) vt9 rfl rfl rfl (by first | assumption | exact ORow.get (by assumption) rfl | exact ORow.get0 (by assumption) rfl) ?_ | refine rx_loadO 7 rfl (fun _ h => h) vt9 rfl rfl rfl (by first | assumption | exact ORow.get (by assumption) rfl | exact ORow.get0 (by assumption) rfl) ?_))))))))))))))))))
        refine rx_eff rfl (fun K hK => ?_)
        refine rl_callf fn11 (lower_ok x w0 w _ V hM (by omega)) rfl rfl ?_
        clear hM
        rintro _ w ⟨rfl, hM⟩
        refine rl_nil (kq_normal (hK _ _ hM ?_))
        refine rx_eff rfl (fun K hK => ?_)
        refine rl_callf fn12 (reflower_ok x w (by omega)) rfl rfl ?_
        rintro _ _ ⟨rfl, rfl⟩
        refine rl_nil (kq_normal (hK _ _ hM ?_))
        have hbb : ∀ b : Bool, (!(b == b)) = false := fun b => by cases b <;> rfl
        refine rx_neqbool rfl ub4 rfl rfl rfl ?_
        rw [hbb]
        (try (refine rx_move (v := (Value.bool _ : Value)) rfl rfl rfl ?_; (try ((first | refine rx_off rfl rfl ?_ | refine rx_move (v := (Value.slice _ _ _ : Value)) rfl rfl rfl ?_); (try ((first | refine rx_off rfl rfl ?_ | refine rx_move (v := (Value.int _ _ : Value)) rfl rfl rfl ?_); (try ((first | refine rx_off rfl rfl ?_ | (refine rx_idx1 rfl sl25 rfl rfl rfl rfl ?_ ?_ ?_; omega; omega) | (apply rx_idx1 rfl sl25 rfl rfl rfl; assumption; omega; omega)); (try ((first | refine rx_off rfl rfl ?_ | refine rx_loadV rfl (fun _ h => h) vt9 rfl rfl (by first | assumption | exact VRow.get (by assumption) rfl | exact VRow.get0 (by assumption) rfl) ?_ | refine rx_loadM 0 rfl (fun _ h => h) vt9 rfl rfl rfl (by first | rfl | assumption) ?_ | refine rx_loadM 1 rfl (fun _ h => h) vt9 rfl rfl rfl (by first | rfl | assumption) ?_ | refine rx_loadM 2 rfl (fun _ h => h) vt9 rfl rfl rfl (by first | rfl | assumption) ?_ | refine rx_loadM 3 rfl (fun _ h => h) vt9 rfl rfl rfl (by first | rfl | assumption) ?_ | refine rx_loadM 4 rfl (fun _ h => h) vt9 rfl rfl rfl (by first | rfl | assumption) ?_ | refine rx_loadM 5 rfl (fun _ h => h) vt9 rfl rfl rfl (by first | rfl | assumption) ?_ | refine rx_loadM 6 rfl (fun _ h => h) vt9 rfl rfl rfl (by first | rfl | assumption) ?_ | refine rx_loadM 7 rfl (fun _ h => h) vt9 rfl rfl rfl (by first | rfl | assumption) ?_ | refine rx_loadO 0 rfl (fun _ h => h) vt9 rfl rfl rfl (by first | assumption | exact ORow.get (by assumption) rfl | exact ORow.get0 (by assumption) rfl) ?_ | refine rx_loadO 1 rfl (fun _ h => h) vt9 rfl rfl rfl (by first | assumption | exact ORow.get (by assumption) rfl | exact ORow.get0 (by assumption) rfl) ?_ | refine rx_loadO 2 rfl (fun _ h => h) vt9 rfl rfl rfl (by first | assumption | exact ORow.get (by assumption) rfl | exact ORow.get0 (by assumption) rfl) ?_ | refine rx_loadO 3 rfl (fun _ h => h) vt9 rfl rfl rfl (by first | assumption | exact ORow.get (by assumption) rfl | exact ORow.get0 (by assumption) rfl) ?_ | refine rx_loadO 4 rfl (fun _ h => h) vt9 rfl rfl rfl (by first | assumption | exact ORow.get (by assumption) rfl | exact ORow.get0 (by assumption) rfl) ?_ | refine rx_loadO 5 rfl (fun _ h => h) vt9 rfl rfl rfl (by first | assumption | exact ORow.get (by assumption) rfl | exact ORow.get0 (by assumption) rfl) ?_ | refine rx_loadO 6 rfl (fun _ h => h) vt9 rfl rfl rfl (by first | assumption | exact ORow.get (by assumption) rfl | exact ORow.get0 (by assumption) rfl) ?_ | refine rx_loadO 7 rfl (fun _ h => h) vt9 rfl rfl rfl (by first | assumption | exact ORow.get (by assumption) rfl | exact ORow.get0 (by assumption) rfl) ?_); (try ((first | refine rx_off rfl rfl ?_ | refine rx_move (v := (Value.slice _ _ _ : Value)) rfl rfl rfl ?_); (try ((first | refine rx_off rfl rfl ?_ | refine rx_move (v := (Value.int _ _ : Value)) rfl rfl rfl ?_); (try ((first | refine rx_off rfl rfl ?_ | (refine rx_idx1 rfl sl25 rfl rfl rfl rfl ?_ ?_ ?_; omega; omega) | (apply rx_idx1 rfl sl25 rfl rfl rfl; assumption; omega; omega)); (try ((first | refine rx_off rfl rfl ?_ | refine rx_loadV rfl (fun _ h => h) vt9 rfl rfl (by first | assumption | exact VRow.get (by assumption) rfl | exact VRow.get0 (by assumption) rfl) ?_ | refine rx_loadM 0 rfl (fun _ h => h) vt9 rfl rfl rfl (by first | rfl | assumption) ?_ | refine rx_loadM 1 rfl (fun _ h => h) vt9 rfl rfl rfl (by first | rfl | assumption) ?_ | refine rx_loadM 2 rfl (fun _ h => h) vt9 rfl rfl rfl (by first | rfl | assumption) ?_ | refine rx_loadM 3 rfl (fun _ h => h) vt9 rfl rfl rfl (by first | rfl | assumption) ?_ | refine rx_loadM 4 rfl (fun _ h => h) vt9 rfl rfl rfl (by first | rfl | assumption) ?_ | refine rx_loadM 5 rfl (fun _ h => h) vt9 rfl rfl rfl (by first | rfl | assumption) ?_ | refine rx_loadM 6 rfl (fun _ h => h) vt9 rfl rfl rfl (by first | rfl | assumption) ?_ | refine rx_loadM 7 rfl (fun _ h => h) vt9 rfl rfl rfl (by first | rfl | assumption) ?_ | refine rx_loadO 0 rfl (fun _ h => h) vt9 rfl rfl rfl (by first | assumption | exact ORow.get (by assumption) rfl | exact ORow.get0 (by assumption) rfl) ?_ | refine rx_loadO 1 rfl (fun _ h => h) vt9 rfl rfl rfl (by first | assumption | exact ORow.get (by assumption) rfl | exact ORow.get0 (by assumption) rfl) ?_ | refine rx_loadO 2 rfl (fun _ h => h) vt9 rfl rfl rfl (by first | assumption | exact ORow.get (by assumption) rfl | exact ORow.get0 (by assumption) rfl) ?_ | refine rx_loadO 3 rfl (fun _ h => h) vt9 rfl rfl rfl (by first | assumption | exact ORow.get (by assumption) rfl | exact ORow.get0 (by assumption) rfl) ?_ | refine rx_loadO 4 rfl (fun _ h => h) vt9 rfl rfl rfl (by first | assumption | exact ORow.get (by assumption) rfl | exact ORow.get0 (by assumption) rfl) ?_ | refine rx_loadO 5 rfl (fun _ h => h) vt9 rfl rfl rfl (by first | assumption | exact ORow.get (by assumption) rfl | exact ORow.get0 (by assumption) rfl) ?_ | refine rx_loadO 6 rfl (fun _ h => h) vt9 rfl rfl rfl (by first | assumption | exact ORow.get (by assumption) rfl | exact ORow.get0 (by assumption) rfl) ?_ | refine rx_loadO 7 rfl (fun _ h => h) vt9 rfl rfl rfl (by first | assumption | exact ORow.get (by assumption) rfl | exact ORow.get0 (by assumption) rfl) ?_)))))))))))))))))))
        refine rx_eff rfl (fun K hK => ?_)
        refine rl_callf fn13 (upper_ok x w0 _ _ V hM (by omega)) rfl rfl ?_
        clear hM
        rintro _ w ⟨rfl, hM⟩
        refine rl_nil (kq_normal (hK _ _ hM ?_))
        refine rx_nil rfl ?_
        refine rl_callf fn14 (refupper_ok x w (by omega)) rfl rfl ?_
        rintro _ _ ⟨rfl, rfl⟩
        refine rl_neqbool ub4 rfl rfl rfl ?_
        rw [hbb]
        (repeat (first | refine sq_normal ?_ | refine rl_nil ?_ | refine cond_f rfl ?_ | refine skip_ ?_ | refine inBlock_normal ?_ | refine np_normal ?_ | (refine region_ (id := 15) ?_; (try (refine rl_move (v := (Value.int _ _ : Value)) rfl rfl ?_; (try ((refine rl_add rfl rfl rfl ?_ ?_ ?_; omega; omega); (try (refine rl_assign (v := (Value.int _ _ : Value)) rfl rfl ?_))))))) | refine rl_pick (v := (Value.bool _ : Value)) rfl rfl rfl ?_))
        exact kq_normal (hL1 (5 - (i + 1)) _ _ (by omega) (by (repeat (first | with_reducible exact Agree.ov | with_reducible exact Agree.refl _ _ | refine Agree.upd rfl ?_ | refine Agree.ovs rfl ?_))) ⟨i + 1, rfl, by omega, rfl, hM⟩)
      · (repeat (first | refine seq_ ?_ | refine sq_normal ?_ | refine sq_exit ?_ | refine rl_nil ?_ | refine cond_f rfl ?_ | refine exit_ ?_ | refine inBlock_exit ?_ | refine kq_exit ?_ | (refine region_ (id := 14) ?_; (try (refine rl_move (v := (Value.int _ _ : Value)) rfl rfl ?_; (try ((first | (refine rl_lss_t rfl rfl rfl ?_ ?_; omega) | (refine rl_lss_f rfl rfl rfl ?_ ?_; omega))))))) | (refine region_ (id := 18) ?_)))
        refine rl_callf fn15 (lives_ok w0 w _ V hM) rfl rfl ?_
        clear hM
        rintro _ w ⟨rfl, hM⟩
        (repeat (first | refine sq_normal ?_ | refine rl_nil ?_ | refine ret_ ?_ | refine rl_assign (v := (Value.bool _ : Value)) rfl rfl ?_))
        exact bp_ret1 (v := Value.bool _) rfl rfl ⟨rfl, hM.below⟩
  rw [hw0] at key
  exact key
end Go.Proofs.YtbcplbkjeinplaaDoor.Chr
