/- The walks of fugueref01.Byte, Print, of chars.Print. -/
import Derived.Test.YtbcplbkjeinplaaDoorChrW4
import Derived.Test.YtbcplbkjeinplaaDoorChrG
import Derived.Test.YtbcplbkjeinplaaDoorEng32
set_option linter.unusedVariables false
set_option linter.unusedSimpArgs false
namespace Go.Proofs.YtbcplbkjeinplaaDoor.Chr
open Go Go.Eng Go.RowKit Go.Lx
attribute [local irreducible] RL RX KQ SQ Exit.inBlock Exit.then BP NP CallsOk IsSl IsRows IsInts IsBools Own Blk Code.wp Calls wpList
theorem writeByte_ok (w0 w : World) (L : List Ent) (V : Vw) (b : Nat) (p v : Value) (bs : List UInt8) (c : UInt8) (hM : Mem w0 w (bld b p v bs L) V) (hp : p = .pointer none ∨ p = .pointer (some ⟨b, 0, none⟩)) (hl : bs.length + 1 ≤ 1000000000) :
    CallsOk Tryd.prog 32 #[.pointer (some ⟨b, 0, none⟩), .int .u8 c.toNat] w fun r w' => ∃ v', Mem w0 w' (bld b (.pointer (some ⟨b, 0, none⟩)) v' (bs ++ [c]) L) V := by
  refine enter_ (N := 17) Tryd.func32 rfl rfl rfl ?_
  (repeat (first | refine seq_ ?_ | refine sq_normal ?_ | refine rl_nil ?_ | (refine region_ (id := 0) ?_; (try ((first | refine rl_assign (v := (Value.iface _ _ : Value)) rfl rfl ?_ | refine rl_assign (v := (Value.nilIface : Value)) rfl rfl ?_)))) | (refine region_ (id := 1) ?_; (try (refine rl_move (v := (Value.pointer _ : Value)) rfl rfl ?_)))))
  refine rl_callf fn47 (copyCheck_ok w0 w L V b p v bs hM hp) rfl rfl ?_
  clear hM
  rintro _ w ⟨rfl, hM⟩
  (repeat (first | refine seq_ ?_ | refine sq_normal ?_ | refine rl_nil ?_ | (refine region_ (id := 2) ?_; (try (refine rl_move (v := (Value.pointer _ : Value)) rfl rfl ?_; (try (refine rl_move (v := (Value.pointer _ : Value)) rfl rfl ?_; (try (refine rl_nilck rfl rfl ?_; (try (refine rl_fld fd48_1 rfl rfl ?_; (try ((first | refine rl_loadV hM vt23 rfl rfl (by first | assumption | exact VRow.get (by assumption) rfl | exact VRow.get0 (by assumption) rfl) ?_ | refine rl_loadM 0 hM vt23 rfl rfl rfl (by first | rfl | assumption) ?_ | refine rl_loadM 1 hM vt23 rfl rfl rfl (by first | rfl | assumption) ?_ | refine rl_loadM 2 hM vt23 rfl rfl rfl (by first | rfl | assumption) ?_ | refine rl_loadM 3 hM vt23 rfl rfl rfl (by first | rfl | assumption) ?_ | refine rl_loadM 4 hM vt23 rfl rfl rfl (by first | rfl | assumption) ?_ | refine rl_loadM 5 hM vt23 rfl rfl rfl (by first | rfl | assumption) ?_ | refine rl_loadM 6 hM vt23 rfl rfl rfl (by first | rfl | assumption) ?_ | refine rl_loadM 7 hM vt23 rfl rfl rfl (by first | rfl | assumption) ?_); (try (refine rl_move (v := (Value.int _ _ : Value)) rfl rfl ?_; (try ((refine rl_bsliceM (d := 13) [_] hM sl23 rfl rfl rfl rfl rfl (by decide) (by decide) ?_; clear hM; intro w b13 hM))))))))))))))))))
  refine rl_appendM 2 (news := [.int .u8 c.toNat]) (B := b13) (off := 0) hM sl23 rfl (by decide) rfl (hM.row (i := 0) rfl) rfl rfl rfl (fun _ => rfl) rfl (by simp [Value.oneCell']) (by unfold maxLen; omega) (by omega) ?_
  clear hM
  intro w a c' _ _ hM
  replace hM := hM.dropn 1
  (repeat (first | refine seq_ ?_ | refine sq_normal ?_ | refine rl_nil ?_ | refine ret_ ?_ | (refine region_ (id := 3) ?_; (try ((first | refine rl_assign (v := (Value.iface _ _ : Value)) rfl rfl ?_ | refine rl_assign (v := (Value.nilIface : Value)) rfl rfl ?_)))) | refine rl_nilck rfl rfl ?_ | refine rl_fld fd48_1 rfl rfl ?_ | (first | (refine rl_storeM 0 hM vt23 rfl rfl rfl rfl rfl (by first | (simp; done) | (simp; omega) | omega) ?_; clear hM; intro w hM) | (refine rl_storeM 1 hM vt23 rfl rfl rfl rfl rfl (by first | (simp; done) | (simp; omega) | omega) ?_; clear hM; intro w hM) | (refine rl_storeM 2 hM vt23 rfl rfl rfl rfl rfl (by first | (simp; done) | (simp; omega) | omega) ?_; clear hM; intro w hM) | (refine rl_storeM 3 hM vt23 rfl rfl rfl rfl rfl (by first | (simp; done) | (simp; omega) | omega) ?_; clear hM; intro w hM) | (refine rl_storeM 4 hM vt23 rfl rfl rfl rfl rfl (by first | (simp; done) | (simp; omega) | omega) ?_; clear hM; intro w hM) | (refine rl_storeM 5 hM vt23 rfl rfl rfl rfl rfl (by first | (simp; done) | (simp; omega) | omega) ?_; clear hM; intro w hM) | (refine rl_storeM 6 hM vt23 rfl rfl rfl rfl rfl (by first | (simp; done) | (simp; omega) | omega) ?_; clear hM; intro w hM) | (refine rl_storeM 7 hM vt23 rfl rfl rfl rfl rfl (by first | (simp; done) | (simp; omega) | omega) ?_; clear hM; intro w hM))))
  have e : by8 bs ++ [Value.int .u8 c.toNat] = by8 (bs ++ [c]) := by rw [by8_append]; rfl
  have e2 : bs.length + 1 = (bs ++ [c]).length := by simp
  rw [e, e2] at hM
  exact bp_ret1 (v := Value.nilIface) rfl rfl ⟨_, hM⟩
theorem byte_ok (c : UInt8) (w0 w : World) (L : List Ent) (V : Vw) (hM : Mem w0 w L V) :
    CallsOk Tryd.prog 37 #[.int .u8 c.toNat] w fun r w' => r = St (byteP c) ∧ Mem w0 w' L V := by
  have hc := c.toNat_lt
  refine enter_ (N := 27) Tryd.func37 rfl rfl rfl ?_
  (repeat (first | refine seq_ ?_ | refine sq_normal ?_ | refine rl_nil ?_ | (refine region_ (id := 0) ?_; (try (refine rl_assign (v := (Value.string _ : Value)) rfl rfl ?_))) | (refine region_ (id := 1) ?_; (try (refine rl_assign (v := (Value.string _ : Value)) rfl rfl ?_))) | (refine region_ (id := 2) ?_; (try (refine rl_move (v := (Value.int _ _ : Value)) rfl rfl ?_)))))
  refine rl_callf fn39 (refplain_ok c w) rfl rfl ?_
  rintro _ w ⟨rfl, rfl⟩
  cases hp : plain c with
  | true =>
    (repeat (first | refine seq_ ?_ | refine sq_normal ?_ | refine rl_nil ?_ | refine cond_t rfl ?_ | (refine region_ (id := 3) ?_; (try (refine rl_move (v := (Value.bool _ : Value)) rfl rfl ?_))) | (refine region_ (id := 4) ?_; (try (refine rl_move (v := (Value.int _ _ : Value)) rfl rfl ?_; (try ((refine rl_bsliceM (d := 9) [_] hM sl23 rfl rfl rfl rfl rfl (by decide) (by decide) ?_; clear hM; intro w b9 hM)))))) | refine rl_assign (v := (Value.bool _ : Value)) rfl rfl ?_))
    refine rl_b2s [c] sl23.und (by kernel_rfl) us9 rfl rfl rfl (fun j u hj => ?_) ?_
    · have := hM.cell (i := 0) (o := 0 + j) (v := .int .u8 u.toNat) rfl (by
        rw [Nat.zero_add]
        cases j with
        | zero => simp at hj; subst hj; rfl
        | succ j => simp at hj)
      exact this
    (repeat (first | refine sq_normal ?_ | refine sq_ret ?_ | refine rl_nil ?_ | refine ret_ ?_ | refine rl_assign (v := (Value.string _ : Value)) rfl rfl ?_))
    exact bp_ret1 (v := St _) rfl rfl ⟨by rw [byteP, if_pos hp], hM.dropn 1⟩
  | false =>
    have hl16 : sixteen.length = 16 := rfl
    (repeat (first | refine seq_ ?_ | refine sq_normal ?_ | refine rl_nil ?_ | refine cond_f rfl ?_ | refine skip_ ?_ | (refine region_ (id := 3) ?_; (try (refine rl_move (v := (Value.bool _ : Value)) rfl rfl ?_))) | refine rl_assign (v := (Value.bool _ : Value)) rfl rfl ?_))
    (refine drawnM_ 15 [(0, false), (1, false), (2, false), (3, false), (4, false), (5, false), (6, false), (7, false), (8, false), (9, false), (10, false), (11, false), (12, false), (13, false), (14, false)] (fun w => Mem w0 w _ _) hM mo (by kernel_rfl) (fun _ h => h) ?_; clear hM; intro w hM; (try (refine rx_move (v := (Value.string _ : Value)) rfl rfl rfl ?_; (try (refine rx_move (v := (Value.int _ _ : Value)) rfl rfl rfl ?_; (try (refine rx_kquo rfl rfl rfl rfl (by omega) (by omega) (wrap_u8 (by omega) (by omega)) ?_; (try (refine rx_move (v := (Value.int _ _ : Value)) rfl rfl rfl ?_; (try (refine rx_kquo rfl rfl rfl rfl (by omega) (by omega) (wrap_u8 (by omega) (by omega)) ?_; (try (refine rx_kadd rfl rfl rfl rfl (wrap_u8 (by omega) (by omega)) ?_; (try ((first | (refine rx_sslice_lh rfl us9 rfl rfl rfl rfl ?_ ?_ ?_ ?_; omega; omega; omega) | (refine rx_ksslice rfl rfl us9 rfl rfl rfl (by omega) (by omega) (by first | omega | (simp; omega)) ?_)); (try ((refine rx_sadd rfl rfl rfl rfl (by (first | omega | (simp only [List.length_append, List.length_cons, List.length_nil, List.length_take, List.length_drop] at *; omega))) ?_); (try (refine rx_move (v := (Value.string _ : Value)) rfl rfl rfl ?_; (try (refine rx_move (v := (Value.int _ _ : Value)) rfl rfl rfl ?_; (try (refine rx_krem rfl rfl rfl rfl (by omega) (by omega) ?_; (try (refine rx_move (v := (Value.int _ _ : Value)) rfl rfl rfl ?_; (try (refine rx_krem rfl rfl rfl rfl (by omega) (by omega) ?_; (try (refine rx_kadd rfl rfl rfl rfl (wrap_u8 (by omega) (by omega)) ?_; (try ((first | (refine rx_sslice_lh rfl us9 rfl rfl rfl rfl ?_ ?_ ?_ ?_; omega; omega; omega) | (refine rx_ksslice rfl rfl us9 rfl rfl rfl (by omega) (by omega) (by first | omega | (simp; omega)) ?_)))))))))))))))))))))))))))))))))
    refine rx_nil rfl ?_
    have e1 : ((c.toNat : Int) / 16).toNat = c.toNat / 16 := by omega
    have e2 : ((c.toNat : Int) / 16 + 1).toNat = c.toNat / 16 + 1 := by omega
    have e3 : ((c.toNat : Int) % 16).toNat = c.toNat % 16 := by omega
    have e4 : ((c.toNat : Int) % 16 + 1).toNat = c.toNat % 16 + 1 := by omega
    rw [e1, e2, e3, e4]
    (repeat (first | refine sq_normal ?_ | refine rl_nil ?_ | refine ret_ ?_ | refine np_normal ?_ | refine rl_assign (v := (Value.string _ : Value)) rfl rfl ?_ | (refine rl_sadd rfl rfl rfl (by (first | omega | (simp only [List.length_append, List.length_cons, List.length_nil, List.length_take, List.length_drop] at *; omega))) ?_)))
    exact bp_ret1 (v := St _) rfl rfl ⟨by rw [byteP, hp]; rfl, hM⟩
theorem refprint_ok (s : List UInt8) (w0 w : World) (L : List Ent) (V : Vw) (hM : Mem w0 w L V) (hs : s.length ≤ 100000) :
    CallsOk Tryd.prog 23 #[St s] w fun r w' => r = St (printP s) ∧ Mem w0 w' L V := by
  refine enter_ (N := 20) Tryd.func23 rfl rfl rfl ?_
  by_cases h0 : s = []
  · have h0' : s = ([] : List UInt8) := h0
    (repeat (first | refine seq_ ?_ | refine sq_normal ?_ | refine sq_ret ?_ | refine rl_nil ?_ | refine cond_t rfl ?_ | refine ret_ ?_ | (refine region_ (id := 0) ?_; (try (refine rl_assign (v := (Value.string _ : Value)) rfl rfl ?_))) | (refine region_ (id := 1) ?_; (try (refine rl_move (v := (Value.string _ : Value)) rfl rfl ?_; (try ((first | refine rl_seql_t rfl rfl rfl (by first | rfl | assumption) ?_ | refine rl_seql_f rfl rfl rfl (by first | assumption | decide) ?_)))))) | (refine region_ (id := 2) ?_; (try (refine rl_assign (v := (Value.string _ : Value)) rfl rfl ?_)))))
    exact bp_ret1 (v := St _) rfl rfl ⟨by rw [printP, if_pos h0], hM⟩
  · have hfl := flatP_len
    (repeat (first | refine seq_ ?_ | refine sq_normal ?_ | refine rl_nil ?_ | refine cond_f rfl ?_ | refine skip_ ?_ | refine block_ ?_ | (refine region_ (id := 0) ?_; (try (refine rl_assign (v := (Value.string _ : Value)) rfl rfl ?_))) | (refine region_ (id := 1) ?_; (try (refine rl_move (v := (Value.string _ : Value)) rfl rfl ?_; (try ((first | refine rl_seql_t rfl rfl rfl (by first | rfl | assumption) ?_ | refine rl_seql_f rfl rfl rfl (by first | assumption | decide) ?_)))))) | (refine region_ (id := 3) ?_; (try (refine rl_assign (v := (Value.string _ : Value)) rfl rfl ?_))) | (refine region_ (id := 4) ?_; (try (refine rl_assign (v := (Value.int _ _ : Value)) rfl rfl ?_)))))
    refine loop2 [(3, 5), (7, 19)] 3 4 (fun m v3 v4 wr => ∃ p : Nat, v3 = St ((s.take p).flatMap byteP) ∧ v4 = .int .i64 p ∧ p ≤ s.length ∧ m = s.length - p ∧ Mem w0 wr L V) _
      ⟨0, rfl, rfl, by omega, rfl, hM⟩ ?_
    clear hM
    rintro m τ v3 v4 w ⟨p, rfl, rfl, hp, rfl, hM⟩ K0 hL0
    by_cases hlt : p < s.length
    · obtain ⟨c, hc⟩ : ∃ c, s[p]? = some c := ⟨_, List.getElem?_eq_getElem hlt⟩
      have h1 := hfl (s.take p)
      have h2 : (s.take p).length = p := by rw [List.length_take]; omega
      have h3 := byteP_len c
      have hc' : s[(p : Int).toNat]? = some c := hc
      (repeat (first | refine seq_ ?_ | refine sq_normal ?_ | refine rl_nil ?_ | refine cond_t rfl ?_ | refine skip_ ?_ | refine block_ ?_ | (refine region_ (id := 5) ?_; (try (refine rl_move (v := (Value.int _ _ : Value)) rfl rfl ?_; (try (refine rl_move (v := (Value.string _ : Value)) rfl rfl ?_; (try (refine rl_slen us9 rfl rfl ?_; (try ((first | (refine rl_lss_t rfl rfl rfl ?_ ?_; omega) | (refine rl_lss_f rfl rfl rfl ?_ ?_; omega))))))))))) | (refine region_ (id := 7) ?_; (try (refine rl_move (v := (Value.string _ : Value)) rfl rfl ?_; (try (refine rl_move (v := (Value.string _ : Value)) rfl rfl ?_; (try (refine rl_move (v := (Value.int _ _ : Value)) rfl rfl ?_; (try ((first | refine rl_sindex us9 rfl rfl rfl (by omega) (by assumption) ?_ | refine rl_ksindex rfl us9 rfl rfl (by omega) (by assumption) ?_))))))))))))
      refine rl_callf fn37 (byte_ok c w0 w _ V hM) rfl rfl ?_
      clear hM
      rintro _ w ⟨rfl, hM⟩
      (repeat (first | refine sq_normal ?_ | refine rl_nil ?_ | refine inBlock_normal ?_ | (refine region_ (id := 6) ?_; (try (refine rl_move (v := (Value.int _ _ : Value)) rfl rfl ?_; (try ((refine rl_add rfl rfl rfl ?_ ?_ ?_; omega; omega); (try (refine rl_assign (v := (Value.int _ _ : Value)) rfl rfl ?_))))))) | refine rl_assign (v := (Value.string _ : Value)) rfl rfl ?_ | (refine rl_sadd rfl rfl rfl (by (first | omega | (simp only [List.length_append, List.length_cons, List.length_nil, List.length_take, List.length_drop] at *; omega))) ?_)))
      exact kq_normal (hL0 (s.length - (p + 1)) _ _ (by omega) (by (repeat (first | with_reducible exact Agree.ov | with_reducible exact Agree.refl _ _ | refine Agree.upd rfl ?_ | refine Agree.ovs rfl ?_))) ⟨p + 1, (congrArg St (flatP_take hc)).symm, rfl, by omega, rfl, hM⟩)
    · have hpe : p = s.length := by omega
      subst hpe
      rw [List.take_length]
      (repeat (first | refine seq_ ?_ | refine sq_normal ?_ | refine sq_exit ?_ | refine rl_nil ?_ | refine cond_f rfl ?_ | refine ret_ ?_ | refine exit_ ?_ | refine inBlock_exit ?_ | refine kq_exit ?_ | (refine region_ (id := 5) ?_; (try (refine rl_move (v := (Value.int _ _ : Value)) rfl rfl ?_; (try (refine rl_move (v := (Value.string _ : Value)) rfl rfl ?_; (try (refine rl_slen us9 rfl rfl ?_; (try ((first | (refine rl_lss_t rfl rfl rfl ?_ ?_; omega) | (refine rl_lss_f rfl rfl rfl ?_ ?_; omega))))))))))) | (refine region_ (id := 8) ?_; (try (refine rl_move (v := (Value.string _ : Value)) rfl rfl ?_; (try (refine rl_assign (v := (Value.string _ : Value)) rfl rfl ?_)))))))
      exact bp_ret1 (v := St _) rfl rfl ⟨by rw [printP, if_neg h0], hM⟩
theorem print_ok (s : List UInt8) (w0 w : World) (L : List Ent) (V : Vw) (hM : Mem w0 w L V) (hs : s.length ≤ 100000) :
    CallsOk Tryd.prog 21 #[St s] w fun r w' => r = St (printP s) ∧ Mem w0 w' L V := by
  refine enter_ (N := 37) Tryd.func21 rfl rfl rfl ?_
  by_cases h0 : s = []
  · have h0' : s = ([] : List UInt8) := h0
    (repeat (first | refine seq_ ?_ | refine sq_normal ?_ | refine sq_ret ?_ | refine rl_nil ?_ | refine cond_t rfl ?_ | refine ret_ ?_ | (refine region_ (id := 0) ?_; (try (refine rl_assign (v := (Value.string _ : Value)) rfl rfl ?_))) | (refine region_ (id := 1) ?_; (try (refine rl_move (v := (Value.string _ : Value)) rfl rfl ?_; (try ((first | refine rl_seql_t rfl rfl rfl (by first | rfl | assumption) ?_ | refine rl_seql_f rfl rfl rfl (by first | assumption | decide) ?_)))))) | (refine region_ (id := 2) ?_; (try (refine rl_assign (v := (Value.string _ : Value)) rfl rfl ?_)))))
    exact bp_ret1 (v := St _) rfl rfl ⟨by rw [printP, if_pos h0], hM⟩
  · have hfl := flatP_len
    have hl16 : sixteen.length = 16 := rfl
    (repeat (first | refine seq_ ?_ | refine sq_normal ?_ | refine rl_nil ?_ | refine cond_f rfl ?_ | refine skip_ ?_ | refine block_ ?_ | (refine region_ (id := 0) ?_; (try (refine rl_assign (v := (Value.string _ : Value)) rfl rfl ?_))) | (refine region_ (id := 1) ?_; (try (refine rl_move (v := (Value.string _ : Value)) rfl rfl ?_; (try ((first | refine rl_seql_t rfl rfl rfl (by first | rfl | assumption) ?_ | refine rl_seql_f rfl rfl rfl (by first | assumption | decide) ?_)))))) | (refine region_ (id := 3) ?_; (try ((refine rl_allocAM (d := 3) hM ag48 rfl ?_; clear hM; intro w b3 hM)))) | (refine region_ (id := 4) ?_; (try (refine rl_move (v := (Value.string _ : Value)) rfl rfl ?_; (try (refine rl_slen us9 rfl rfl ?_; (try (refine rl_move (v := (Value.int _ _ : Value)) rfl rfl ?_)))))))))
    have hM := hM.newOwn 5 1
    replace hM := hM.perm (List.Perm.swap _ _ _)
    refine loop1 [(4, 6), (10, 36)] 10 (fun m v10 wr => ∃ (p : Nat) (a v : Value), v10 = .int .i64 p ∧ p ≤ s.length ∧ m = s.length - p ∧ (a = .pointer none ∨ a = .pointer (some ⟨b3, 0, none⟩)) ∧ (p = 0 → v = .slice none 0 0) ∧ Mem w0 wr (bld b3 a v ((s.take p).flatMap byteP) L) V) _
      ⟨0, _, _, rfl, by omega, rfl, .inl rfl, fun _ => rfl, hM⟩ ?_
    clear hM
    rintro m τ v10 w ⟨p, a, v, rfl, hp, rfl, ha, hv0, hM⟩ K0 hL0
    by_cases hlt : p < s.length
    · obtain ⟨c, hc⟩ : ∃ c, s[p]? = some c := ⟨_, List.getElem?_eq_getElem hlt⟩
      have h1 := hfl (s.take p)
      have h2 : (s.take p).length = p := by rw [List.length_take]; omega
      have h3 := byteP_len c
      have hcl := c.toNat_lt
      have hc' : s[(p : Int).toNat]? = some c := hc
      (repeat (first | refine seq_ ?_ | refine sq_normal ?_ | refine rl_nil ?_ | refine cond_t rfl ?_ | refine skip_ ?_ | refine block_ ?_ | (refine region_ (id := 5) ?_; (try ((first | (refine rl_lss_t rfl rfl rfl ?_ ?_; omega) | (refine rl_lss_f rfl rfl rfl ?_ ?_; omega))))) | (refine region_ (id := 6) ?_; (try (refine rl_move (v := (Value.int _ _ : Value)) rfl rfl ?_; (try (refine rl_assign (v := (Value.int _ _ : Value)) rfl rfl ?_))))) | (refine region_ (id := 7) ?_; (try (refine rl_move (v := (Value.string _ : Value)) rfl rfl ?_; (try (refine rl_move (v := (Value.int _ _ : Value)) rfl rfl ?_; (try ((first | refine rl_sindex us9 rfl rfl rfl (by omega) (by assumption) ?_ | refine rl_ksindex rfl us9 rfl rfl (by omega) (by assumption) ?_); (try (refine rl_assign (v := (Value.int _ _ : Value)) rfl rfl ?_))))))))) | (refine region_ (id := 8) ?_; (try (refine rl_move (v := (Value.int _ _ : Value)) rfl rfl ?_)))))
      refine rl_callf fn31 (plain_ok c w) rfl rfl ?_
      rintro _ w ⟨rfl, rfl⟩
      cases hpl : plain c with
      | true =>
        (repeat (first | refine sq_normal ?_ | refine rl_nil ?_ | refine cond_t rfl ?_ | (refine region_ (id := 9) ?_; (try (refine rl_move (v := (Value.int _ _ : Value)) rfl rfl ?_)))))
        refine rl_callf fn32 (writeByte_ok w0 w L V b3 a v _ c hM ha (by omega)) rfl rfl ?_
        clear hM
        rintro _ w ⟨v', hM⟩
        (repeat (first | refine sq_normal ?_ | refine rl_nil ?_ | refine inBlock_normal ?_ | (refine region_ (id := 11) ?_; (try ((refine rl_add rfl rfl rfl ?_ ?_ ?_; omega; omega); (try (refine rl_move (v := (Value.int _ _ : Value)) rfl rfl ?_)))))))
        refine kq_normal (hL0 (s.length - (p + 1)) _ _ (by omega) (by (repeat (first | with_reducible exact Agree.ov | with_reducible exact Agree.refl _ _ | refine Agree.upd rfl ?_ | refine Agree.ovs rfl ?_))) ⟨p + 1, _, v', rfl, by omega, rfl, .inr rfl, fun h => absurd h (by omega), ?_⟩)
        rw [flatP_take hc, byteP, if_pos hpl]
        exact hM
      | false =>
        (repeat (first | refine sq_normal ?_ | refine rl_nil ?_ | refine cond_f rfl ?_))
        (refine drawnM_ 14 [(0, false), (1, false), (2, false), (3, false), (4, false), (5, false), (6, false), (7, false), (8, false), (9, false), (10, false), (11, false), (12, false), (13, false)] (fun w => Mem w0 w _ _) hM mo (by kernel_rfl) (fun _ h => h) ?_; clear hM; intro w hM; (try (refine rx_move (v := (Value.int _ _ : Value)) rfl rfl rfl ?_; (try (refine rx_kquo rfl rfl rfl rfl (by omega) (by omega) (wrap_u8 (by omega) (by omega)) ?_; (try (refine rx_move (v := (Value.int _ _ : Value)) rfl rfl rfl ?_; (try (refine rx_kquo rfl rfl rfl rfl (by omega) (by omega) (wrap_u8 (by omega) (by omega)) ?_; (try (refine rx_kadd rfl rfl rfl rfl (wrap_u8 (by omega) (by omega)) ?_; (try ((first | (refine rx_sslice_lh rfl us9 rfl rfl rfl rfl ?_ ?_ ?_ ?_; omega; omega; omega) | (refine rx_ksslice rfl rfl us9 rfl rfl rfl (by omega) (by omega) (by first | omega | (simp; omega)) ?_)); (try ((refine rx_sadd rfl rfl rfl rfl (by (first | omega | (simp only [List.length_append, List.length_cons, List.length_nil, List.length_take, List.length_drop] at *; omega))) ?_); (try (refine rx_move (v := (Value.int _ _ : Value)) rfl rfl rfl ?_; (try (refine rx_krem rfl rfl rfl rfl (by omega) (by omega) ?_; (try (refine rx_move (v := (Value.int _ _ : Value)) rfl rfl rfl ?_; (try (refine rx_krem rfl rfl rfl rfl (by omega) (by omega) ?_; (try (refine rx_kadd rfl rfl rfl rfl (wrap_u8 (by omega) (by omega)) ?_; (try ((first | (refine rx_sslice_lh rfl us9 rfl rfl rfl rfl ?_ ?_ ?_ ?_; omega; omega; omega) | (refine rx_ksslice rfl rfl us9 rfl rfl rfl (by omega) (by omega) (by first | omega | (simp; omega)) ?_)); (try ((refine rx_sadd rfl rfl rfl rfl (by (first | omega | (simp only [List.length_append, List.length_cons, List.length_nil, List.length_take, List.length_drop] at *; omega))) ?_))))))))))))))))))))))))))))))
        refine rx_nil rfl ?_
        have e1 : ((c.toNat : Int) / 16).toNat = c.toNat / 16 := by omega
        have e2 : ((c.toNat : Int) / 16 + 1).toNat = c.toNat / 16 + 1 := by omega
        have e3 : ((c.toNat : Int) % 16).toNat = c.toNat % 16 := by omega
        have e4 : ((c.toNat : Int) % 16 + 1).toNat = c.toNat % 16 + 1 := by omega
        rw [e1, e2, e3, e4]
        have e5 : byteP c = [39] ++ (sixteen.take (c.toNat / 16 + 1)).drop (c.toNat / 16) ++ (sixteen.take (c.toNat % 16 + 1)).drop (c.toNat % 16) := by rw [byteP, hpl]; rfl
        refine rl_callf fn33 (write_ok w0 w L V b3 a v _ (byteP c) hM ha (by omega)) rfl (by rw [e5]; rfl) ?_
        clear hM
        rintro _ w ⟨v', hM⟩
        (repeat (first | refine sq_normal ?_ | refine rl_nil ?_ | refine inBlock_normal ?_ | refine np_normal ?_ | (refine region_ (id := 11) ?_; (try ((refine rl_add rfl rfl rfl ?_ ?_ ?_; omega; omega); (try (refine rl_move (v := (Value.int _ _ : Value)) rfl rfl ?_)))))))
        refine kq_normal (hL0 (s.length - (p + 1)) _ _ (by omega) (by (repeat (first | with_reducible exact Agree.ov | with_reducible exact Agree.refl _ _ | refine Agree.upd rfl ?_ | refine Agree.ovs rfl ?_))) ⟨p + 1, _, v', rfl, by omega, rfl, .inr rfl, fun h => absurd h (by omega), ?_⟩)
        rw [flatP_take hc]
        exact hM
    · have hpe : p = s.length := by omega
      subst hpe
      rw [List.take_length] at hM
      have h1 := hfl s
      have hne := List.length_pos_iff.2 h0
      have hpos : s.flatMap byteP ≠ [] := by
        cases s with
        | nil => exact absurd rfl h0
        | cons c s =>
          rw [List.flatMap_cons]
          unfold byteP
          split <;> simp
      (repeat (first | refine seq_ ?_ | refine sq_normal ?_ | refine sq_exit ?_ | refine rl_nil ?_ | refine cond_f rfl ?_ | refine exit_ ?_ | refine inBlock_exit ?_ | refine kq_exit ?_ | (refine region_ (id := 5) ?_; (try ((first | (refine rl_lss_t rfl rfl rfl ?_ ?_; omega) | (refine rl_lss_f rfl rfl rfl ?_ ?_; omega))))) | (refine region_ (id := 12) ?_)))
      refine rl_callf fn34 (string_ok w0 w L V b3 a v _ hM (by omega) (fun h => absurd h hpos)) rfl rfl ?_
      clear hM
      rintro _ w ⟨rfl, hM⟩
      (repeat (first | refine sq_normal ?_ | refine rl_nil ?_ | refine ret_ ?_ | refine rl_assign (v := (Value.string _ : Value)) rfl rfl ?_))
      exact bp_ret1 (v := St _) rfl rfl ⟨by rw [printP, if_neg h0], hM⟩
end Go.Proofs.YtbcplbkjeinplaaDoor.Chr
