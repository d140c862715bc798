/- The walks of fugueref02.blank, symbol. The walk of fugueref02.symbol. The walk of fugueref02.one. The walk of fugueref02.Lex. -/
import Derived.Test.YtadbinckjmdokaaTxA
set_option linter.unusedVariables false
set_option linter.unusedSimpArgs false
namespace Go.Proofs.Ytadbinckjmdokaa.Trd
open Go Go.Eng Go.RowKit Go.Lx
attribute [local irreducible] RL RX KQ SQ Exit.inBlock Exit.then BP NP CallsOk IsSl IsRows IsInts IsBools Own Blk Code.wp Calls wpList
def blankN (c : UInt8) (r : List UInt8) : Nat := if Lx.blank c then 1 else if isPre (c :: r) [45, 45] then ((c :: r).takeWhile noNl).length else 0
theorem blank_iff (c : UInt8) : Lx.blank c = true ↔ c.toNat = 32 ∨ c.toNat = 9 ∨ c.toNat = 10 := by
  have h1 : c = 32 ↔ c.toNat = 32 := ⟨fun h => by rw [h]; rfl, fun h => UInt8.toNat_inj.1 h⟩
  have h2 : c = 9 ↔ c.toNat = 9 := ⟨fun h => by rw [h]; rfl, fun h => UInt8.toNat_inj.1 h⟩
  have h3 : c = 10 ↔ c.toNat = 10 := ⟨fun h => by rw [h]; rfl, fun h => UInt8.toNat_inj.1 h⟩
  simp [Lx.blank, h1, h2, h3]
theorem one_at {s : List UInt8} {n : Nat} {c : UInt8} (h : s[n]? = some c) : (s.drop n).take 1 = [c] := by
  obtain ⟨hlt, he⟩ := List.getElem?_eq_some_iff.1 h
  rw [List.drop_eq_getElem_cons hlt, he]
  rfl
theorem refblank_ok (c : UInt8) (r : List UInt8) (w : World) (hs : (c :: r).length ≤ 1000000) :
    CallsOk Try.prog 41 #[St (c :: r)] w fun v w' => v = .int .i64 (blankN c r) ∧ w' = w := by
  obtain ⟨s, hse⟩ : ∃ s, s = c :: r := ⟨_, rfl⟩
  have hbn : blankN c r = if Lx.blank c then 1 else if isPre s [45, 45] then (s.takeWhile noNl).length else 0 := by rw [hse]; rfl
  rw [← hse] at hs ⊢
  have hc0 : s[(0 : Int).toNat]? = some c := by rw [hse]; rfl
  have hs1 : 1 ≤ s.length := by rw [hse]; simp
  refine enter_ (N := 40) Try.func41 rfl rfl rfl ?_
  have hM := Mem.init w
  cases hb : Lx.blank c with
  | true =>
    rw [hb, if_pos rfl] at hbn
    rcases (blank_iff c).1 hb with h | h | h <;> ((repeat (first | refine seq_ ?_ | refine sq_normal ?_ | refine sq_ret ?_ | refine rl_nil ?_ | refine cond_t rfl ?_ | refine ret_ ?_ | (refine region_ (id := 0) ?_; (try (refine rl_assign (v := (Value.int _ _ : Value)) rfl rfl ?_))) | (refine region_ (id := 1) ?_; (try (refine rl_move (v := (Value.string _ : Value)) rfl rfl ?_; (try (refine rl_sindex us9 rfl rfl rfl (by omega) (by assumption) ?_; (try ((first | (refine rl_keql_t rfl rfl rfl ?_ ?_; omega) | (refine rl_keql_f rfl rfl rfl ?_ ?_; omega)); (try (refine rl_move (v := (Value.bool _ : Value)) rfl rfl ?_; (try ((first | refine rl_off rfl ?_ | refine rl_move (v := (Value.string _ : Value)) rfl rfl ?_); (try ((first | refine rl_off rfl ?_ | refine rl_sindex us9 rfl rfl rfl (by omega) (by assumption) ?_); (try ((first | refine rl_off rfl ?_ | (refine rl_keql_t rfl rfl rfl ?_ ?_; omega) | (refine rl_keql_f rfl rfl rfl ?_ ?_; omega)); (try (refine rl_pick (v := (Value.bool _ : Value)) rfl rfl rfl ?_; (try (refine rl_move (v := (Value.bool _ : Value)) rfl rfl ?_; (try ((first | refine rl_off rfl ?_ | refine rl_move (v := (Value.string _ : Value)) rfl rfl ?_); (try ((first | refine rl_off rfl ?_ | refine rl_sindex us9 rfl rfl rfl (by omega) (by assumption) ?_); (try ((first | refine rl_off rfl ?_ | (refine rl_keql_t rfl rfl rfl ?_ ?_; omega)); (try (refine rl_pick (v := (Value.bool _ : Value)) rfl rfl rfl ?_))))))))))))))))))))))))))) | (refine region_ (id := 2) ?_; (try (refine rl_assign (v := (Value.int _ _ : Value)) rfl rfl ?_))))); exact bp_ret1 (v := Value.int _ _) rfl rfl ⟨by rw [hbn]; rfl, rfl⟩)
  | false =>
    have hn : ¬ (c.toNat = 32 ∨ c.toNat = 9 ∨ c.toNat = 10) := fun h => by rw [(blank_iff c).2 h] at hb; cases hb
    rw [hb] at hbn
    simp only [Bool.false_eq_true, if_false] at hbn
    have n1 : c.toNat ≠ 32 := fun h => hn (.inl h)
    have n2 : c.toNat ≠ 9 := fun h => hn (.inr (.inl h))
    have n3 : c.toNat ≠ 10 := fun h => hn (.inr (.inr h))
    by_cases hl : 1 < s.length
    · by_cases hp : s.take (2 : Int).toNat = [45, 45]
      · have hpp : isPre s [45, 45] = true := decide_eq_true hp
        rw [hpp, if_pos rfl] at hbn
        (repeat (first | refine seq_ ?_ | refine sq_normal ?_ | refine rl_nil ?_ | refine cond_t rfl ?_ | refine cond_f rfl ?_ | refine skip_ ?_ | refine block_ ?_ | (refine region_ (id := 0) ?_; (try (refine rl_assign (v := (Value.int _ _ : Value)) rfl rfl ?_))) | (refine region_ (id := 1) ?_; (try (refine rl_move (v := (Value.string _ : Value)) rfl rfl ?_; (try (refine rl_sindex us9 rfl rfl rfl (by omega) (by assumption) ?_; (try ((refine rl_keql_f rfl rfl rfl ?_ ?_; omega); (try (refine rl_move (v := (Value.bool _ : Value)) rfl rfl ?_; (try (refine rl_move (v := (Value.string _ : Value)) rfl rfl ?_; (try (refine rl_sindex us9 rfl rfl rfl (by omega) (by assumption) ?_; (try ((refine rl_keql_f rfl rfl rfl ?_ ?_; omega); (try (refine rl_pick (v := (Value.bool _ : Value)) rfl rfl rfl ?_; (try (refine rl_move (v := (Value.bool _ : Value)) rfl rfl ?_; (try (refine rl_move (v := (Value.string _ : Value)) rfl rfl ?_; (try (refine rl_sindex us9 rfl rfl rfl (by omega) (by assumption) ?_; (try ((refine rl_keql_f rfl rfl rfl ?_ ?_; omega); (try (refine rl_pick (v := (Value.bool _ : Value)) rfl rfl rfl ?_))))))))))))))))))))))))))) | (refine region_ (id := 3) ?_; (try (refine rl_move (v := (Value.string _ : Value)) rfl rfl ?_; (try (refine rl_slen us9 rfl rfl ?_; (try ((refine rl_gtr_t rfl rfl rfl ?_ ?_; omega); (try (refine rl_move (v := (Value.bool _ : Value)) rfl rfl ?_; (try (refine rl_move (v := (Value.string _ : Value)) rfl rfl ?_; (try ((refine rl_sslice_h us9 rfl rfl rfl ?_ ?_ ?_; omega; omega); (try (refine rl_seql_t rfl rfl rfl (by first | rfl | assumption) ?_; (try (refine rl_pick (v := (Value.bool _ : Value)) rfl rfl rfl ?_))))))))))))))))) | (refine region_ (id := 4) ?_; (try (refine rl_assign (v := (Value.int _ _ : Value)) rfl rfl ?_)))))
        refine loop1 [(3, 4), (25, 39)] 3 (fun m v wr => ∃ n : Nat, v = .int .i64 n ∧ 2 ≤ n ∧ n ≤ s.length ∧ m = s.length - n ∧ wr = w ∧ (s.take n).all noNl = true) _
          ⟨2, rfl, by omega, by omega, rfl, rfl, by rw [show s.take 2 = [45, 45] from hp]; rfl⟩ ?_
        rintro m τ v w' ⟨n, rfl, hn2, hn, rfl, hw, hall⟩ K0 hL0
        subst hw
        by_cases hlt : n < s.length
        · obtain ⟨x, hx⟩ : ∃ x, s[n]? = some x := ⟨_, List.getElem?_eq_getElem hlt⟩
          have hsl : (s.drop (n : Int).toNat).take ((n : Int) + 1 - n).toNat = [x] := by
            rw [show ((n : Int) + 1 - n).toNat = 1 by omega]
            exact one_at hx
          have hsl2 : (s.take ((n : Int) + 1).toNat).drop (n : Int).toNat = [x] := by
            rw [List.drop_take, show ((n : Int) + 1).toNat - (n : Int).toNat = 1 by omega]
            exact one_at hx
          have hsl3 : (s.drop (n : Int).toNat).take (((n : Int) + 1).toNat - (n : Int).toNat) = [x] := by
            rw [show ((n : Int) + 1).toNat - (n : Int).toNat = 1 by omega]
            exact one_at hx
          by_cases hx10 : x.toNat = 10
          · have hxe : x = 10 := UInt8.toNat_inj.1 hx10
            rw [hxe] at hsl hsl2 hsl3
            (repeat (first | refine seq_ ?_ | refine sq_normal ?_ | refine sq_exit ?_ | refine sq_ret ?_ | refine rl_nil ?_ | refine cond_f rfl ?_ | refine ret_ ?_ | refine exit_ ?_ | refine inBlock_exit ?_ | refine kq_exit ?_ | (refine region_ (id := 5) ?_; (try (refine rl_move (v := (Value.int _ _ : Value)) rfl rfl ?_; (try (refine rl_move (v := (Value.string _ : Value)) rfl rfl ?_; (try (refine rl_slen us9 rfl rfl ?_; (try ((refine rl_lss_t rfl rfl rfl ?_ ?_; omega); (try (refine rl_move (v := (Value.bool _ : Value)) rfl rfl ?_; (try (refine rl_move (v := (Value.string _ : Value)) rfl rfl ?_; (try (refine rl_move (v := (Value.int _ _ : Value)) rfl rfl ?_; (try (refine rl_move (v := (Value.int _ _ : Value)) rfl rfl ?_; (try ((refine rl_add rfl rfl rfl ?_ ?_ ?_; omega; omega); (try ((refine rl_sslice_lh us9 rfl rfl rfl rfl ?_ ?_ ?_ ?_; omega; omega; omega); (try (refine rl_sneq_f rfl rfl rfl (by first | rfl | assumption) ?_; (try (refine rl_pick (v := (Value.bool _ : Value)) rfl rfl rfl ?_))))))))))))))))))))))))) | (refine region_ (id := 7) ?_; (try (refine rl_move (v := (Value.int _ _ : Value)) rfl rfl ?_; (try (refine rl_assign (v := (Value.int _ _ : Value)) rfl rfl ?_)))))))
            refine bp_ret1 (v := Value.int _ _) rfl rfl ⟨?_, rfl⟩
            rw [hbn, tw_take hall hn (fun c' hc' => by rw [hx] at hc'; cases hc'; simp [noNl, hx10])]
          · have hne : [x] ≠ [10] := fun h => hx10 (by
              have : x = 10 := by simpa using h
              rw [this]; rfl)
            rw [← hsl] at hne
            have hne2 := hne
            rw [hsl, ← hsl2] at hne2
            have hne3 := hne
            rw [hsl, ← hsl3] at hne3
            (repeat (first | refine seq_ ?_ | refine sq_normal ?_ | refine rl_nil ?_ | refine cond_t rfl ?_ | refine skip_ ?_ | refine block_ ?_ | refine inBlock_normal ?_ | (refine region_ (id := 5) ?_; (try (refine rl_move (v := (Value.int _ _ : Value)) rfl rfl ?_; (try (refine rl_move (v := (Value.string _ : Value)) rfl rfl ?_; (try (refine rl_slen us9 rfl rfl ?_; (try ((refine rl_lss_t rfl rfl rfl ?_ ?_; omega); (try (refine rl_move (v := (Value.bool _ : Value)) rfl rfl ?_; (try (refine rl_move (v := (Value.string _ : Value)) rfl rfl ?_; (try (refine rl_move (v := (Value.int _ _ : Value)) rfl rfl ?_; (try (refine rl_move (v := (Value.int _ _ : Value)) rfl rfl ?_; (try ((refine rl_add rfl rfl rfl ?_ ?_ ?_; omega; omega); (try ((refine rl_sslice_lh us9 rfl rfl rfl rfl ?_ ?_ ?_ ?_; omega; omega; omega); (try (refine rl_sneq_t rfl rfl rfl (by first | assumption | decide) ?_; (try (refine rl_pick (v := (Value.bool _ : Value)) rfl rfl rfl ?_))))))))))))))))))))))))) | (refine region_ (id := 6) ?_; (try (refine rl_move (v := (Value.int _ _ : Value)) rfl rfl ?_; (try ((refine rl_add rfl rfl rfl ?_ ?_ ?_; omega; omega); (try (refine rl_assign (v := (Value.int _ _ : Value)) rfl rfl ?_)))))))))
            refine kq_normal (hL0 (s.length - (n + 1)) _ _ (by omega) (by (repeat (first | with_reducible exact Agree.ov | with_reducible exact Agree.refl _ _ | refine Agree.upd rfl ?_ | refine Agree.ovs rfl ?_))) ⟨n + 1, rfl, by omega, by omega, rfl, rfl, all_take_succ hx hall (by simp [noNl, hx10])⟩)
        · (repeat (first | refine seq_ ?_ | refine sq_normal ?_ | refine sq_exit ?_ | refine sq_ret ?_ | refine rl_nil ?_ | refine cond_f rfl ?_ | refine ret_ ?_ | refine exit_ ?_ | refine inBlock_exit ?_ | refine kq_exit ?_ | (refine region_ (id := 5) ?_; (try (refine rl_move (v := (Value.int _ _ : Value)) rfl rfl ?_; (try (refine rl_move (v := (Value.string _ : Value)) rfl rfl ?_; (try (refine rl_slen us9 rfl rfl ?_; (try ((refine rl_lss_f rfl rfl rfl ?_ ?_; omega); (try (refine rl_move (v := (Value.bool _ : Value)) rfl rfl ?_; (try (refine rl_off rfl ?_; (try (refine rl_off rfl ?_; (try (refine rl_off rfl ?_; (try (refine rl_off rfl ?_; (try (refine rl_off rfl ?_; (try (refine rl_off rfl ?_; (try (refine rl_pick (v := (Value.bool _ : Value)) rfl rfl rfl ?_))))))))))))))))))))))))) | (refine region_ (id := 7) ?_; (try (refine rl_move (v := (Value.int _ _ : Value)) rfl rfl ?_; (try (refine rl_assign (v := (Value.int _ _ : Value)) rfl rfl ?_)))))))
          refine bp_ret1 (v := Value.int _ _) rfl rfl ⟨?_, rfl⟩
          rw [hbn, tw_take hall hn (fun c' hc' => absurd (List.getElem?_eq_some_iff.1 hc').1 hlt)]
      · have hpp : isPre s [45, 45] = false := decide_eq_false hp
        rw [hpp] at hbn
        simp only [Bool.false_eq_true, if_false] at hbn
        (repeat (first | refine seq_ ?_ | refine sq_normal ?_ | refine rl_nil ?_ | refine cond_f rfl ?_ | refine skip_ ?_ | refine ret_ ?_ | (refine region_ (id := 0) ?_; (try (refine rl_assign (v := (Value.int _ _ : Value)) rfl rfl ?_))) | (refine region_ (id := 1) ?_; (try (refine rl_move (v := (Value.string _ : Value)) rfl rfl ?_; (try (refine rl_sindex us9 rfl rfl rfl (by omega) (by assumption) ?_; (try ((refine rl_keql_f rfl rfl rfl ?_ ?_; omega); (try (refine rl_move (v := (Value.bool _ : Value)) rfl rfl ?_; (try (refine rl_move (v := (Value.string _ : Value)) rfl rfl ?_; (try (refine rl_sindex us9 rfl rfl rfl (by omega) (by assumption) ?_; (try ((refine rl_keql_f rfl rfl rfl ?_ ?_; omega); (try (refine rl_pick (v := (Value.bool _ : Value)) rfl rfl rfl ?_; (try (refine rl_move (v := (Value.bool _ : Value)) rfl rfl ?_; (try (refine rl_move (v := (Value.string _ : Value)) rfl rfl ?_; (try (refine rl_sindex us9 rfl rfl rfl (by omega) (by assumption) ?_; (try ((refine rl_keql_f rfl rfl rfl ?_ ?_; omega); (try (refine rl_pick (v := (Value.bool _ : Value)) rfl rfl rfl ?_))))))))))))))))))))))))))) | (refine region_ (id := 3) ?_; (try (refine rl_move (v := (Value.string _ : Value)) rfl rfl ?_; (try (refine rl_slen us9 rfl rfl ?_; (try ((refine rl_gtr_t rfl rfl rfl ?_ ?_; omega); (try (refine rl_move (v := (Value.bool _ : Value)) rfl rfl ?_; (try (refine rl_move (v := (Value.string _ : Value)) rfl rfl ?_; (try ((refine rl_sslice_h us9 rfl rfl rfl ?_ ?_ ?_; omega; omega); (try (refine rl_seql_f rfl rfl rfl (by first | assumption | decide) ?_; (try (refine rl_pick (v := (Value.bool _ : Value)) rfl rfl rfl ?_))))))))))))))))) | (refine region_ (id := 8) ?_; (try (refine rl_assign (v := (Value.int _ _ : Value)) rfl rfl ?_)))))
        exact bp_ret1 (v := Value.int _ _) rfl rfl ⟨by rw [hbn]; rfl, rfl⟩
    · have hpp : isPre s [45, 45] = false := decide_eq_false (fun h => by
        have := congrArg List.length h
        rw [List.length_take] at this
        simp at this
        omega)
      rw [hpp] at hbn
      simp only [Bool.false_eq_true, if_false] at hbn
      (repeat (first | refine seq_ ?_ | refine sq_normal ?_ | refine rl_nil ?_ | refine cond_f rfl ?_ | refine skip_ ?_ | refine ret_ ?_ | (refine region_ (id := 0) ?_; (try (refine rl_assign (v := (Value.int _ _ : Value)) rfl rfl ?_))) | (refine region_ (id := 1) ?_; (try (refine rl_move (v := (Value.string _ : Value)) rfl rfl ?_; (try (refine rl_sindex us9 rfl rfl rfl (by omega) (by assumption) ?_; (try ((refine rl_keql_f rfl rfl rfl ?_ ?_; omega); (try (refine rl_move (v := (Value.bool _ : Value)) rfl rfl ?_; (try (refine rl_move (v := (Value.string _ : Value)) rfl rfl ?_; (try (refine rl_sindex us9 rfl rfl rfl (by omega) (by assumption) ?_; (try ((refine rl_keql_f rfl rfl rfl ?_ ?_; omega); (try (refine rl_pick (v := (Value.bool _ : Value)) rfl rfl rfl ?_; (try (refine rl_move (v := (Value.bool _ : Value)) rfl rfl ?_; (try (refine rl_move (v := (Value.string _ : Value)) rfl rfl ?_; (try (refine rl_sindex us9 rfl rfl rfl (by omega) (by assumption) ?_; (try ((refine rl_keql_f rfl rfl rfl ?_ ?_; omega); (try (refine rl_pick (v := (Value.bool _ : Value)) rfl rfl rfl ?_))))))))))))))))))))))))))) | (refine region_ (id := 3) ?_; (try (refine rl_move (v := (Value.string _ : Value)) rfl rfl ?_; (try (refine rl_slen us9 rfl rfl ?_; (try ((refine rl_gtr_f rfl rfl rfl ?_ ?_; omega); (try (refine rl_move (v := (Value.bool _ : Value)) rfl rfl ?_; (try (refine rl_off rfl ?_; (try (refine rl_off rfl ?_; (try (refine rl_off rfl ?_; (try (refine rl_pick (v := (Value.bool _ : Value)) rfl rfl rfl ?_))))))))))))))))) | (refine region_ (id := 8) ?_; (try (refine rl_assign (v := (Value.int _ _ : Value)) rfl rfl ?_)))))
      exact bp_ret1 (v := Value.int _ _) rfl rfl ⟨by rw [hbn]; rfl, rfl⟩
end Go.Proofs.Ytadbinckjmdokaa.Trd
set_option linter.unusedVariables false
set_option linter.unusedSimpArgs false
namespace Go.Proofs.Ytadbinckjmdokaa.Trd
open Go Go.Eng Go.RowKit Go.Lx
attribute [local irreducible] RL RX KQ SQ Exit.inBlock Exit.then BP NP CallsOk IsSl IsRows IsInts IsBools Own Blk Code.wp Calls wpList
set_option maxHeartbeats 2000000 in
theorem refsymbol_ok (s : List UInt8) (w0 w : World) (L : List Ent) (V : Vw) (hM : Mem w0 w L V) (hs : s.length ≤ 1000000) :
    CallsOk Try.prog 79 #[St s] w fun r w' => r = St ((symOf s).getD []) ∧ Mem w0 w' L V := by
  refine enter_ (N := 38) Try.func79 rfl rfl rfl ?_
  (repeat (first | refine seq_ ?_ | refine sq_normal ?_ | refine rl_nil ?_ | refine block_ ?_ | (refine region_ (id := 0) ?_; (try (refine rl_assign (v := (Value.string _ : Value)) rfl rfl ?_))) | (refine region_ (id := 1) ?_; (try ((refine rl_bsliceM (d := 5) [_, _, _, _, _, _, _, _, _, _, _, _, _] hM sl23 rfl rfl rfl rfl rfl (by decide) (by decide) ?_; clear hM; intro w b5 hM); (try (refine rl_assign (v := (Value.slice _ _ _ : Value)) rfl rfl ?_))))) | (refine region_ (id := 2) ?_; (try (refine rl_assign (v := (Value.int _ _ : Value)) rfl rfl ?_)))))
  have hM : Mem w0 w (.blk b5 (syms.map St) 9 :: L) V := hM
  refine loop1 [(2, 3), (4, 5), (6, 38)] 4 (fun m v wr => ∃ p : Nat, v = .int .i64 p ∧ p ≤ 13 ∧ m = 13 - p ∧ Mem w0 wr (.blk b5 (syms.map St) 9 :: L) V ∧ (syms.take p).all (fun y => !isPre s y) = true) _
    ⟨0, rfl, by omega, rfl, hM, rfl⟩ ?_
  clear hM
  rintro m τ v w ⟨p, rfl, hp, rfl, hM, hall⟩ K0 hL0
  have hsl : syms.length = 13 := rfl
  by_cases hlt : p < 13
  · obtain ⟨x, hx⟩ : ∃ x, syms[p]? = some x := ⟨_, List.getElem?_eq_getElem (by omega)⟩
    have hu : (syms.map St)[0 + p]? = some (St x) := by rw [Nat.zero_add]; simp [hx]
    have hxl := (syms_pos (List.mem_of_getElem? hx)).2
    cases hpx : isPre s x with
    | true =>
      have he : s.take (x.length : Int).toNat = x := by simpa [isPre] using hpx
      have hle : x.length ≤ s.length := by
        have := congrArg List.length he
        rw [List.length_take] at this
        omega
      (repeat (first | refine seq_ ?_ | refine sq_normal ?_ | refine rl_nil ?_ | refine cond_t rfl ?_ | refine skip_ ?_ | refine block_ ?_ | (refine region_ (id := 3) ?_; (try (refine rl_move (v := (Value.int _ _ : Value)) rfl rfl ?_; (try (refine rl_move (v := (Value.slice _ _ _ : Value)) rfl rfl ?_; (try (refine rl_len sl23 rfl rfl ?_; (try ((refine rl_lss_t rfl rfl rfl ?_ ?_; omega))))))))))))
      (refine drawnM_ 21 [(0, false), (1, false), (2, false), (3, false), (4, false), (5, false), (6, false), (7, false), (8, false), (9, false), (10, false), (11, false), (12, false), (13, false), (14, false), (15, false), (16, false), (17, false), (18, false), (19, false), (20, false)] (fun w => Mem w0 w _ _) hM mo (by kernel_rfl) (fun _ h => h) ?_; clear hM; intro w hM; (try (refine rx_move (v := (Value.string _ : Value)) rfl rfl rfl ?_; (try (refine rx_slen rfl us9 rfl rfl ?_; (try (refine rx_move (v := (Value.slice _ _ _ : Value)) rfl rfl rfl ?_; (try (refine rx_move (v := (Value.int _ _ : Value)) rfl rfl rfl ?_; (try ((refine rx_idx1 rfl sl23 rfl rfl rfl rfl ?_ ?_ ?_; omega; omega); (try (refine rx_loadM 0 rfl (fun _ h => h) vt9 rfl rfl rfl (by first | rfl | assumption) ?_; (try (refine rx_slen rfl us9 rfl rfl ?_; (try ((refine rx_geq_t rfl rfl rfl rfl ?_ ?_; omega); (try (refine rx_move (v := (Value.bool _ : Value)) rfl rfl rfl ?_; (try (refine rx_move (v := (Value.string _ : Value)) rfl rfl rfl ?_; (try (refine rx_move (v := (Value.slice _ _ _ : Value)) rfl rfl rfl ?_; (try (refine rx_move (v := (Value.int _ _ : Value)) rfl rfl rfl ?_; (try ((refine rx_idx1 rfl sl23 rfl rfl rfl rfl ?_ ?_ ?_; omega; omega); (try (refine rx_loadM 0 rfl (fun _ h => h) vt9 rfl rfl rfl (by first | rfl | assumption) ?_; (try (refine rx_slen rfl us9 rfl rfl ?_; (try ((refine rx_sslice_h rfl us9 rfl rfl rfl ?_ ?_ ?_; omega; omega); (try (refine rx_move (v := (Value.slice _ _ _ : Value)) rfl rfl rfl ?_; (try (refine rx_move (v := (Value.int _ _ : Value)) rfl rfl rfl ?_; (try ((refine rx_idx1 rfl sl23 rfl rfl rfl rfl ?_ ?_ ?_; omega; omega); (try (refine rx_loadM 0 rfl (fun _ h => h) vt9 rfl rfl rfl (by first | rfl | assumption) ?_; (try (refine rx_seql_t rfl rfl rfl rfl (by first | rfl | assumption) ?_)))))))))))))))))))))))))))))))))))))))))))
      refine rx_nil rfl ?_
      (repeat (first | refine seq_ ?_ | refine sq_normal ?_ | refine sq_ret ?_ | refine rl_nil ?_ | refine cond_t rfl ?_ | refine ret_ ?_ | refine inBlock_ret ?_ | refine kq_ret ?_ | refine np_normal ?_ | (refine region_ (id := 6) ?_; (try (refine rl_move (v := (Value.slice _ _ _ : Value)) rfl rfl ?_; (try (refine rl_move (v := (Value.int _ _ : Value)) rfl rfl ?_; (try ((refine rl_idx1 sl23 rfl rfl rfl rfl ?_ ?_ ?_; omega; omega); (try (refine rl_loadM 0 hM vt9 rfl rfl rfl (by first | rfl | assumption) ?_; (try (refine rl_assign (v := (Value.string _ : Value)) rfl rfl ?_))))))))))) | refine rl_pick (v := (Value.bool _ : Value)) rfl rfl rfl ?_))
      exact bp_ret1 (v := St x) rfl rfl ⟨by rw [sym_at hall hx hpx]; rfl, hM.dropn 1⟩
    | false =>
      have he : s.take (x.length : Int).toNat ≠ x := by simpa [isPre] using hpx
      have hall2 : (syms.take (p + 1)).all (fun y => !isPre s y) = true := by
        rw [List.take_add_one, hx, List.all_append, hall]
        simp [hpx]
      by_cases hle : x.length ≤ s.length
      · (repeat (first | refine seq_ ?_ | refine sq_normal ?_ | refine rl_nil ?_ | refine cond_t rfl ?_ | refine skip_ ?_ | refine block_ ?_ | (refine region_ (id := 3) ?_; (try (refine rl_move (v := (Value.int _ _ : Value)) rfl rfl ?_; (try (refine rl_move (v := (Value.slice _ _ _ : Value)) rfl rfl ?_; (try (refine rl_len sl23 rfl rfl ?_; (try ((refine rl_lss_t rfl rfl rfl ?_ ?_; omega))))))))))))
        (refine drawnM_ 21 [(0, false), (1, false), (2, false), (3, false), (4, false), (5, false), (6, false), (7, false), (8, false), (9, false), (10, false), (11, false), (12, false), (13, false), (14, false), (15, false), (16, false), (17, false), (18, false), (19, false), (20, false)] (fun w => Mem w0 w _ _) hM mo (by kernel_rfl) (fun _ h => h) ?_; clear hM; intro w hM; (try (refine rx_move (v := (Value.string _ : Value)) rfl rfl rfl ?_; (try (refine rx_slen rfl us9 rfl rfl ?_; (try (refine rx_move (v := (Value.slice _ _ _ : Value)) rfl rfl rfl ?_; (try (refine rx_move (v := (Value.int _ _ : Value)) rfl rfl rfl ?_; (try ((refine rx_idx1 rfl sl23 rfl rfl rfl rfl ?_ ?_ ?_; omega; omega); (try (refine rx_loadM 0 rfl (fun _ h => h) vt9 rfl rfl rfl (by first | rfl | assumption) ?_; (try (refine rx_slen rfl us9 rfl rfl ?_; (try ((refine rx_geq_t rfl rfl rfl rfl ?_ ?_; omega); (try (refine rx_move (v := (Value.bool _ : Value)) rfl rfl rfl ?_; (try (refine rx_move (v := (Value.string _ : Value)) rfl rfl rfl ?_; (try (refine rx_move (v := (Value.slice _ _ _ : Value)) rfl rfl rfl ?_; (try (refine rx_move (v := (Value.int _ _ : Value)) rfl rfl rfl ?_; (try ((refine rx_idx1 rfl sl23 rfl rfl rfl rfl ?_ ?_ ?_; omega; omega); (try (refine rx_loadM 0 rfl (fun _ h => h) vt9 rfl rfl rfl (by first | rfl | assumption) ?_; (try (refine rx_slen rfl us9 rfl rfl ?_; (try ((refine rx_sslice_h rfl us9 rfl rfl rfl ?_ ?_ ?_; omega; omega); (try (refine rx_move (v := (Value.slice _ _ _ : Value)) rfl rfl rfl ?_; (try (refine rx_move (v := (Value.int _ _ : Value)) rfl rfl rfl ?_; (try ((refine rx_idx1 rfl sl23 rfl rfl rfl rfl ?_ ?_ ?_; omega; omega); (try (refine rx_loadM 0 rfl (fun _ h => h) vt9 rfl rfl rfl (by first | rfl | assumption) ?_; (try (refine rx_seql_f rfl rfl rfl rfl (by first | assumption | decide) ?_)))))))))))))))))))))))))))))))))))))))))))
        refine rx_nil rfl ?_
        (repeat (first | refine sq_normal ?_ | refine rl_nil ?_ | refine cond_f rfl ?_ | refine skip_ ?_ | refine inBlock_normal ?_ | refine np_normal ?_ | (refine region_ (id := 4) ?_; (try (refine rl_move (v := (Value.int _ _ : Value)) rfl rfl ?_; (try ((refine rl_add rfl rfl rfl ?_ ?_ ?_; omega; omega); (try (refine rl_assign (v := (Value.int _ _ : Value)) rfl rfl ?_))))))) | refine rl_pick (v := (Value.bool _ : Value)) rfl rfl rfl ?_))
        exact kq_normal (hL0 (13 - (p + 1)) _ _ (by omega) (by (repeat (first | with_reducible exact Agree.ov | with_reducible exact Agree.refl _ _ | refine Agree.upd rfl ?_ | refine Agree.ovs rfl ?_))) ⟨p + 1, rfl, by omega, rfl, hM, hall2⟩)
      · (repeat (first | refine seq_ ?_ | refine sq_normal ?_ | refine rl_nil ?_ | refine cond_t rfl ?_ | refine skip_ ?_ | refine block_ ?_ | (refine region_ (id := 3) ?_; (try (refine rl_move (v := (Value.int _ _ : Value)) rfl rfl ?_; (try (refine rl_move (v := (Value.slice _ _ _ : Value)) rfl rfl ?_; (try (refine rl_len sl23 rfl rfl ?_; (try ((refine rl_lss_t rfl rfl rfl ?_ ?_; omega))))))))))))
        (refine drawnM_ 21 [(0, false), (1, false), (2, false), (3, false), (4, false), (5, false), (6, false), (7, false), (8, false), (9, false), (10, false), (11, false), (12, false), (13, false), (14, false), (15, false), (16, false), (17, false), (18, false), (19, false), (20, false)] (fun w => Mem w0 w _ _) hM mo (by kernel_rfl) (fun _ h => h) ?_; clear hM; intro w hM; (try (refine rx_move (v := (Value.string _ : Value)) rfl rfl rfl ?_; (try (refine rx_slen rfl us9 rfl rfl ?_; (try (refine rx_move (v := (Value.slice _ _ _ : Value)) rfl rfl rfl ?_; (try (refine rx_move (v := (Value.int _ _ : Value)) rfl rfl rfl ?_; (try ((refine rx_idx1 rfl sl23 rfl rfl rfl rfl ?_ ?_ ?_; omega; omega); (try (refine rx_loadM 0 rfl (fun _ h => h) vt9 rfl rfl rfl (by first | rfl | assumption) ?_; (try (refine rx_slen rfl us9 rfl rfl ?_; (try ((refine rx_geq_f rfl rfl rfl rfl ?_ ?_; omega); (try (refine rx_move (v := (Value.bool _ : Value)) rfl rfl rfl ?_; (try (refine rx_off rfl rfl ?_; (try (refine rx_off rfl rfl ?_; (try (refine rx_off rfl rfl ?_; (try (refine rx_off rfl rfl ?_; (try (refine rx_off rfl rfl ?_; (try (refine rx_off rfl rfl ?_; (try (refine rx_off rfl rfl ?_; (try (refine rx_off rfl rfl ?_; (try (refine rx_off rfl rfl ?_; (try (refine rx_off rfl rfl ?_; (try (refine rx_off rfl rfl ?_; (try (refine rx_off rfl rfl ?_)))))))))))))))))))))))))))))))))))))))))))
        refine rx_nil rfl ?_
        (repeat (first | refine sq_normal ?_ | refine rl_nil ?_ | refine cond_f rfl ?_ | refine skip_ ?_ | refine inBlock_normal ?_ | refine np_normal ?_ | (refine region_ (id := 4) ?_; (try (refine rl_move (v := (Value.int _ _ : Value)) rfl rfl ?_; (try ((refine rl_add rfl rfl rfl ?_ ?_ ?_; omega; omega); (try (refine rl_assign (v := (Value.int _ _ : Value)) rfl rfl ?_))))))) | refine rl_pick (v := (Value.bool _ : Value)) rfl rfl rfl ?_))
        exact kq_normal (hL0 (13 - (p + 1)) _ _ (by omega) (by (repeat (first | with_reducible exact Agree.ov | with_reducible exact Agree.refl _ _ | refine Agree.upd rfl ?_ | refine Agree.ovs rfl ?_))) ⟨p + 1, rfl, by omega, rfl, hM, hall2⟩)
  · have hpe : p = 13 := by omega
    subst hpe
    (repeat (first | refine seq_ ?_ | refine sq_normal ?_ | refine sq_exit ?_ | refine rl_nil ?_ | refine cond_f rfl ?_ | refine ret_ ?_ | refine exit_ ?_ | refine inBlock_exit ?_ | refine kq_exit ?_ | (refine region_ (id := 3) ?_; (try (refine rl_move (v := (Value.int _ _ : Value)) rfl rfl ?_; (try (refine rl_move (v := (Value.slice _ _ _ : Value)) rfl rfl ?_; (try (refine rl_len sl23 rfl rfl ?_; (try ((refine rl_lss_f rfl rfl rfl ?_ ?_; omega)))))))))) | (refine region_ (id := 7) ?_; (try (refine rl_assign (v := (Value.string _ : Value)) rfl rfl ?_)))))
    exact bp_ret1 (v := St []) rfl rfl ⟨by rw [sym_no hall]; rfl, hM.dropn 1⟩
end Go.Proofs.Ytadbinckjmdokaa.Trd
set_option linter.unusedVariables false
set_option linter.unusedSimpArgs false
namespace Go.Proofs.Ytadbinckjmdokaa.Trd
open Go Go.Eng Go.RowKit Go.Lx
attribute [local irreducible] RL RX KQ SQ Exit.inBlock Exit.then BP NP CallsOk IsSl IsRows IsInts IsBools Own Blk Code.wp Calls wpList
theorem val_append_le (a b : List UInt8) : val a ≤ val (a ++ b) := by
  unfold val
  rw [List.foldl_append]
  generalize a.foldl (fun n c => n * 10 + (c.toNat - 48)) 0 = n
  induction b generalizing n with
  | nil => exact Nat.le_refl _
  | cons c b ih => exact Nat.le_trans (by omega) (ih (n * 10 + (c.toNat - 48)))
theorem val_take_le (s : List UInt8) {p n : Nat} (h : p ≤ n) : val (s.take p) ≤ val (s.take n) := by
  have : s.take n = s.take p ++ (s.take n).drop p := by
    conv => lhs; rw [← List.take_append_drop p (s.take n)]
    rw [List.take_take, Nat.min_eq_left h]
  rw [this]
  exact val_append_le _ _
theorem tw_take_eq {s : List UInt8} {p : UInt8 → Bool} {n : Nat} (h : (s.takeWhile p).length = n) : s.take n = s.takeWhile p := by
  subst h
  exact (List.prefix_iff_eq_take.1 (List.takeWhile_prefix p)).symm
theorem dig_at {s : List UInt8} {n p : Nat} {y : UInt8} (h : (s.take n).all dig = true) (hy : s[p]? = some y) (hp : p < n) : 48 ≤ y.toNat ∧ y.toNat ≤ 57 := by
  rw [List.all_eq_true] at h
  have : (s.take n)[p]? = some y := by rw [List.getElem?_take, if_pos hp]; exact hy
  have := h y (List.mem_of_getElem? this)
  simpa [dig] using this
set_option maxHeartbeats 4000000 in
theorem refone_ok (c : UInt8) (r : List UInt8) (w0 w : World) (L : List Ent) (V : Vw) (hM : Mem w0 w L V) (hs : (c :: r).length ≤ 1000000) :
    CallsOk Try.prog 42 #[St (c :: r)] w (OneP w0 L V (c :: r)) := by
  obtain ⟨s, hse⟩ : ∃ s, s = c :: r := ⟨_, rfl⟩
  rw [← hse] at hs ⊢
  have hs1 : 1 ≤ s.length := by rw [hse]; simp
  have hhd : s.head? = some c := by rw [hse]; rfl
  have ht1 : s.take (1 : Int).toNat = [c] := by rw [hse]; rfl
  have hc0 : s[(0 : Int).toNat]? = some c := by rw [hse]; rfl
  refine enter_ (N := 108) Try.func42 rfl rfl rfl ?_
  (repeat (first | refine seq_ ?_ | refine sq_normal ?_ | refine rl_nil ?_ | (refine region_ (id := 0) ?_; (try ((refine rl_allocAM (d := 2) hM ag73 rfl ?_; clear hM; intro w b2 hM); (try (refine rl_assign (v := (Value.int _ _ : Value)) rfl rfl ?_))))) | (refine region_ (id := 1) ?_; (try (refine rl_assign (v := (Value.int _ _ : Value)) rfl rfl ?_))) | (refine region_ (id := 2) ?_; (try (refine rl_move (v := (Value.string _ : Value)) rfl rfl ?_; (try (refine rl_sindex us9 rfl rfl rfl (by omega) (by assumption) ?_)))))))
  refine rl_callf fn73 (digit_ok c w) rfl rfl ?_
  rintro _ w ⟨rfl, rfl⟩
  cases hdc : dig c with
  | true =>
    have e1 : one s = if val (s.takeWhile dig) ≤ 2147483647 then .ok ⟨3, s.takeWhile dig, val (s.takeWhile dig), 0⟩ else .error 11 := by
      unfold one
      rw [hhd]
      simp only [Option.any_some, hdc, if_true]
    (repeat (first | refine seq_ ?_ | refine sq_normal ?_ | refine rl_nil ?_ | refine cond_t rfl ?_ | refine block_ ?_))
    refine loop1 [(4, 5), (13, 29)] 4 (fun m v wr => ∃ n : Nat, v = .int .i64 n ∧ n ≤ s.length ∧ m = s.length - n ∧ Mem w0 wr (.blk b2 [Value.int .i64 0, St [], Value.int .i64 0, Value.int .i64 0] 73 :: L) V ∧ (s.take n).all dig = true) _
      ⟨0, rfl, by omega, rfl, hM, rfl⟩ ?_
    clear hM
    rintro m τ v w ⟨n, rfl, hn, rfl, hM, hall⟩ K0 hL0
    have tail : ∀ {Q : Prop}, (n = (s.takeWhile dig).length → Q) → (n = (s.takeWhile dig).length) → Q := fun h h2 => h h2
    by_cases hgo : ∃ x, s[n]? = some x ∧ dig x = true
    · obtain ⟨x, hx, hdx⟩ := hgo
      have hlt := (List.getElem?_eq_some_iff.1 hx).1
      have hmin : s[(min (n : Int) ((s.length : Int) - 1)).toNat]? = some x := by
        rw [show min (n : Int) ((s.length : Int) - 1) = n by omega]; exact hx
      (repeat (first | refine seq_ ?_ | (refine region_ (id := 3) ?_; (try (refine rl_move (v := (Value.int _ _ : Value)) rfl rfl ?_; (try (refine rl_move (v := (Value.string _ : Value)) rfl rfl ?_; (try (refine rl_slen us9 rfl rfl ?_; (try ((refine rl_lss_t rfl rfl rfl ?_ ?_; omega); (try (refine rl_move (v := (Value.bool _ : Value)) rfl rfl ?_; (try (refine rl_move (v := (Value.string _ : Value)) rfl rfl ?_; (try (refine rl_move (v := (Value.int _ _ : Value)) rfl rfl ?_; (try (refine rl_move (v := (Value.string _ : Value)) rfl rfl ?_; (try (refine rl_slen us9 rfl rfl ?_; (try ((refine rl_sub rfl rfl rfl ?_ ?_ ?_; omega; omega); (try (refine rl_min rfl rfl rfl ?_; (try (refine rl_sindex us9 rfl rfl rfl (by omega) (by assumption) ?_)))))))))))))))))))))))))))
      refine rl_callf fn73 (digit_ok x w) rfl rfl ?_
      rintro _ w ⟨rfl, rfl⟩
      rw [hdx]
      (repeat (first | refine sq_normal ?_ | refine rl_nil ?_ | refine cond_t rfl ?_ | refine skip_ ?_ | refine block_ ?_ | refine inBlock_normal ?_ | (refine region_ (id := 4) ?_; (try (refine rl_move (v := (Value.int _ _ : Value)) rfl rfl ?_; (try ((refine rl_add rfl rfl rfl ?_ ?_ ?_; omega; omega); (try (refine rl_assign (v := (Value.int _ _ : Value)) rfl rfl ?_))))))) | refine rl_pick (v := (Value.bool _ : Value)) rfl rfl rfl ?_))
      exact kq_normal (hL0 (s.length - (n + 1)) _ _ (by omega) (by (repeat (first | with_reducible exact Agree.ov | with_reducible exact Agree.refl _ _ | refine Agree.upd rfl ?_ | refine Agree.ovs rfl ?_))) ⟨n + 1, rfl, by omega, rfl, hM, all_take_succ hx hall hdx⟩)
    · have hnl : (s.takeWhile dig).length = n := tw_take hall hn (fun x hx => by
        cases h : dig x with
        | false => rfl
        | true => exact absurd ⟨x, hx, h⟩ hgo)
      have hte := tw_take_eq hnl
      have hstop : (Code.ret = Code.ret) := rfl
      by_cases hlt : n < s.length
      · obtain ⟨x, hx⟩ : ∃ x, s[n]? = some x := ⟨_, List.getElem?_eq_getElem hlt⟩
        have hdx : dig x = false := by
          cases h : dig x with
          | false => rfl
          | true => exact absurd ⟨x, hx, h⟩ hgo
        have hmin : s[(min (n : Int) ((s.length : Int) - 1)).toNat]? = some x := by
          rw [show min (n : Int) ((s.length : Int) - 1) = n by omega]; exact hx
        (repeat (first | refine seq_ ?_ | (refine region_ (id := 3) ?_; (try (refine rl_move (v := (Value.int _ _ : Value)) rfl rfl ?_; (try (refine rl_move (v := (Value.string _ : Value)) rfl rfl ?_; (try (refine rl_slen us9 rfl rfl ?_; (try ((refine rl_lss_t rfl rfl rfl ?_ ?_; omega); (try (refine rl_move (v := (Value.bool _ : Value)) rfl rfl ?_; (try (refine rl_move (v := (Value.string _ : Value)) rfl rfl ?_; (try (refine rl_move (v := (Value.int _ _ : Value)) rfl rfl ?_; (try (refine rl_move (v := (Value.string _ : Value)) rfl rfl ?_; (try (refine rl_slen us9 rfl rfl ?_; (try ((refine rl_sub rfl rfl rfl ?_ ?_ ?_; omega; omega); (try (refine rl_min rfl rfl rfl ?_; (try (refine rl_sindex us9 rfl rfl rfl (by omega) (by assumption) ?_)))))))))))))))))))))))))))
        refine rl_callf fn73 (digit_ok x w) rfl rfl ?_
        rintro _ w ⟨rfl, rfl⟩
        rw [hdx]
        (repeat (first | refine seq_ ?_ | refine sq_normal ?_ | refine sq_exit ?_ | refine rl_nil ?_ | refine cond_f rfl ?_ | refine exit_ ?_ | refine block_ ?_ | refine inBlock_exit ?_ | refine kq_exit ?_ | (refine region_ (id := 5) ?_; (try (refine rl_assign (v := (Value.int _ _ : Value)) rfl rfl ?_))) | (refine region_ (id := 6) ?_; (try (refine rl_assign (v := (Value.int _ _ : Value)) rfl rfl ?_))) | refine rl_pick (v := (Value.bool _ : Value)) rfl rfl rfl ?_))
        refine loop2 [(5, 7), (29, 46)] 5 6 (fun m v5 v6 wr => ∃ (z : Nat) (p : Nat), v5 = .int .i64 z ∧ v6 = .int .i64 p ∧ p ≤ n ∧ m = n - p ∧ Mem w0 wr (.blk b2 [Value.int .i64 0, St [], Value.int .i64 0, Value.int .i64 0] 73 :: L) V ∧ z = val (s.take p) ∧ z ≤ 30000000009) _
          ⟨0, 0, rfl, rfl, by omega, rfl, hM, rfl, by omega⟩ ?_
        clear hM
        rintro m2 τ2 v5 v6 w ⟨z, p, rfl, rfl, hp, rfl, hM, hz, hz1⟩ K1 hL1
        have hzn := val_take_le s hp
        rw [hte] at hzn
        by_cases hgo2 : p < n ∧ z < 3000000000
        · obtain ⟨hpn, hz3⟩ := hgo2
          obtain ⟨y, hy⟩ : ∃ y, s[p]? = some y := ⟨_, List.getElem?_eq_getElem (by omega)⟩
          have hdy := dig_at hall hy hpn
          obtain ⟨hy1, hy2⟩ := hdy
          (repeat (first | refine seq_ ?_ | refine sq_normal ?_ | refine rl_nil ?_ | refine cond_t rfl ?_ | refine skip_ ?_ | refine block_ ?_ | refine inBlock_normal ?_ | (refine region_ (id := 7) ?_; (try (refine rl_move (v := (Value.int _ _ : Value)) rfl rfl ?_; (try (refine rl_move (v := (Value.int _ _ : Value)) rfl rfl ?_; (try ((refine rl_lss_t rfl rfl rfl ?_ ?_; omega); (try (refine rl_move (v := (Value.bool _ : Value)) rfl rfl ?_; (try (refine rl_move (v := (Value.int _ _ : Value)) rfl rfl ?_; (try ((refine rl_lss_t rfl rfl rfl ?_ ?_; omega); (try (refine rl_pick (v := (Value.bool _ : Value)) rfl rfl rfl ?_))))))))))))))) | (refine region_ (id := 8) ?_; (try (refine rl_move (v := (Value.int _ _ : Value)) rfl rfl ?_; (try ((refine rl_add rfl rfl rfl ?_ ?_ ?_; omega; omega); (try (refine rl_assign (v := (Value.int _ _ : Value)) rfl rfl ?_))))))) | (refine region_ (id := 9) ?_; (try (refine rl_move (v := (Value.int _ _ : Value)) rfl rfl ?_; (try ((refine rl_mul rfl rfl rfl ?_ ?_ ?_; omega; omega); (try (refine rl_move (v := (Value.string _ : Value)) rfl rfl ?_; (try (refine rl_move (v := (Value.int _ _ : Value)) rfl rfl ?_; (try (refine rl_sindex us9 rfl rfl rfl (by omega) (by assumption) ?_; (try ((refine rl_conv64 (by rw [ui5]; rfl) ui3 rfl rfl ?_ ?_ ?_; omega; omega); (try ((refine rl_add rfl rfl rfl ?_ ?_ ?_; omega; omega); (try ((refine rl_sub rfl rfl rfl ?_ ?_ ?_; omega; omega); (try (refine rl_assign (v := (Value.int _ _ : Value)) rfl rfl ?_)))))))))))))))))))))
          refine kq_normal (hL1 (n - (p + 1)) _ _ (by omega) (by (repeat (first | with_reducible exact Agree.ov | with_reducible exact Agree.refl _ _ | refine Agree.upd rfl ?_ | refine Agree.ovs rfl ?_))) ⟨z * 10 + (y.toNat - 48), p + 1, ?_, rfl, by omega, rfl, hM, ?_, by omega⟩)
          · exact congrArg (Value.int .i64) (by omega)
          · rw [List.take_add_one, hy, hz]
            exact (val_snoc (s.take p) y).symm
        · by_cases hv : val (s.takeWhile dig) ≤ 2147483647
          · have hpe : p = n := by omega
            have hzz : z = val (s.takeWhile dig) := by rw [hz, hpe, hte]
            (repeat (first | refine seq_ ?_ | refine sq_normal ?_ | refine sq_exit ?_ | refine sq_ret ?_ | refine rl_nil ?_ | refine cond_f rfl ?_ | refine skip_ ?_ | refine ret_ ?_ | refine exit_ ?_ | refine inBlock_exit ?_ | refine kq_exit ?_ | (refine region_ (id := 7) ?_; (try (refine rl_move (v := (Value.int _ _ : Value)) rfl rfl ?_; (try (refine rl_move (v := (Value.int _ _ : Value)) rfl rfl ?_; (try ((refine rl_lss_f rfl rfl rfl ?_ ?_; omega); (try (refine rl_move (v := (Value.bool _ : Value)) rfl rfl ?_; (try (refine rl_off rfl ?_; (try (refine rl_off rfl ?_; (try (refine rl_pick (v := (Value.bool _ : Value)) rfl rfl rfl ?_))))))))))))))) | (refine region_ (id := 10) ?_; (try (refine rl_move (v := (Value.int _ _ : Value)) rfl rfl ?_; (try ((refine rl_gtr_f rfl rfl rfl ?_ ?_; omega)))))) | (refine region_ (id := 12) ?_; (try (refine rl_move (v := (Value.string _ : Value)) rfl rfl ?_; (try (refine rl_move (v := (Value.int _ _ : Value)) rfl rfl ?_; (try ((refine rl_sslice_h us9 rfl rfl rfl ?_ ?_ ?_; omega; omega); (try (refine rl_move (v := (Value.int _ _ : Value)) rfl rfl ?_; (try (refine rl_build [_, _, _, (Value.int .i64 0)] ag73 pl73 rfl rfl rfl ?_; (try ((refine rl_storeWM 0 hM ag73 rfl rfl rfl rfl rfl rfl rfl ?_; clear hM; intro w hM); (try (refine rl_assign (v := (Value.int _ _ : Value)) rfl rfl ?_)))))))))))))))))
            exact bp_x2 rfl rfl (res_M 0 hM ag73 rfl rfl rfl) (res_tmp rfl) ⟨⟨3, s.take n, z, 0⟩, 0, rfl, hM.dropn 1, .inl ⟨by rw [e1, if_pos hv, hzz, hte], rfl⟩⟩
          · have hzb : 2147483647 < z := by
              by_cases hpe : p = n
              · rw [hz, hpe, hte]; omega
              · omega
            by_cases hpn : p < n
            · (repeat (first | refine seq_ ?_ | refine sq_normal ?_ | refine sq_exit ?_ | refine sq_ret ?_ | refine rl_nil ?_ | refine cond_t rfl ?_ | refine cond_f rfl ?_ | refine ret_ ?_ | refine exit_ ?_ | refine inBlock_exit ?_ | refine kq_exit ?_ | (refine region_ (id := 7) ?_; (try (refine rl_move (v := (Value.int _ _ : Value)) rfl rfl ?_; (try (refine rl_move (v := (Value.int _ _ : Value)) rfl rfl ?_; (try ((refine rl_lss_t rfl rfl rfl ?_ ?_; omega); (try (refine rl_move (v := (Value.bool _ : Value)) rfl rfl ?_; (try (refine rl_move (v := (Value.int _ _ : Value)) rfl rfl ?_; (try ((refine rl_lss_f rfl rfl rfl ?_ ?_; omega); (try (refine rl_pick (v := (Value.bool _ : Value)) rfl rfl rfl ?_))))))))))))))) | (refine region_ (id := 10) ?_; (try (refine rl_move (v := (Value.int _ _ : Value)) rfl rfl ?_; (try ((refine rl_gtr_t rfl rfl rfl ?_ ?_; omega)))))) | (refine region_ (id := 11) ?_; (try (refine rl_build [(Value.int .i64 0), (St []), (Value.int .i64 0), (Value.int .i64 0)] ag73 pl73 rfl rfl rfl ?_; (try ((refine rl_storeWM 0 hM ag73 rfl rfl rfl rfl rfl rfl rfl ?_; clear hM; intro w hM); (try (refine rl_assign (v := (Value.int _ _ : Value)) rfl rfl ?_)))))))))
              exact bp_x2 rfl rfl (res_M 0 hM ag73 rfl rfl rfl) (res_tmp rfl) ⟨⟨0, [], 0, 0⟩, 11, rfl, hM.dropn 1, .inr ⟨by rw [e1, if_neg hv], by decide⟩⟩
            · (repeat (first | refine seq_ ?_ | refine sq_normal ?_ | refine sq_exit ?_ | refine sq_ret ?_ | refine rl_nil ?_ | refine cond_t rfl ?_ | refine cond_f rfl ?_ | refine ret_ ?_ | refine exit_ ?_ | refine inBlock_exit ?_ | refine kq_exit ?_ | (refine region_ (id := 7) ?_; (try (refine rl_move (v := (Value.int _ _ : Value)) rfl rfl ?_; (try (refine rl_move (v := (Value.int _ _ : Value)) rfl rfl ?_; (try ((refine rl_lss_f rfl rfl rfl ?_ ?_; omega); (try (refine rl_move (v := (Value.bool _ : Value)) rfl rfl ?_; (try (refine rl_off rfl ?_; (try (refine rl_off rfl ?_; (try (refine rl_pick (v := (Value.bool _ : Value)) rfl rfl rfl ?_))))))))))))))) | (refine region_ (id := 10) ?_; (try (refine rl_move (v := (Value.int _ _ : Value)) rfl rfl ?_; (try ((refine rl_gtr_t rfl rfl rfl ?_ ?_; omega)))))) | (refine region_ (id := 11) ?_; (try (refine rl_build [(Value.int .i64 0), (St []), (Value.int .i64 0), (Value.int .i64 0)] ag73 pl73 rfl rfl rfl ?_; (try ((refine rl_storeWM 0 hM ag73 rfl rfl rfl rfl rfl rfl rfl ?_; clear hM; intro w hM); (try (refine rl_assign (v := (Value.int _ _ : Value)) rfl rfl ?_)))))))))
              exact bp_x2 rfl rfl (res_M 0 hM ag73 rfl rfl rfl) (res_tmp rfl) ⟨⟨0, [], 0, 0⟩, 11, rfl, hM.dropn 1, .inr ⟨by rw [e1, if_neg hv], by decide⟩⟩
      · (repeat (first | refine seq_ ?_ | refine sq_normal ?_ | refine sq_exit ?_ | refine rl_nil ?_ | refine cond_f rfl ?_ | refine exit_ ?_ | refine block_ ?_ | refine inBlock_exit ?_ | refine kq_exit ?_ | (refine region_ (id := 3) ?_; (try (refine rl_move (v := (Value.int _ _ : Value)) rfl rfl ?_; (try (refine rl_move (v := (Value.string _ : Value)) rfl rfl ?_; (try (refine rl_slen us9 rfl rfl ?_; (try ((refine rl_lss_f rfl rfl rfl ?_ ?_; omega); (try (refine rl_move (v := (Value.bool _ : Value)) rfl rfl ?_; (try (refine rl_off rfl ?_; (try (refine rl_off rfl ?_; (try (refine rl_off rfl ?_; (try (refine rl_off rfl ?_; (try (refine rl_off rfl ?_; (try (refine rl_off rfl ?_; (try (refine rl_off rfl ?_))))))))))))))))))))))))) | (refine region_ (id := 5) ?_; (try (refine rl_assign (v := (Value.int _ _ : Value)) rfl rfl ?_))) | (refine region_ (id := 6) ?_; (try (refine rl_assign (v := (Value.int _ _ : Value)) rfl rfl ?_))) | refine rl_off rfl ?_ | refine rl_pick (v := (Value.bool _ : Value)) rfl rfl rfl ?_))
        refine loop2 [(5, 7), (29, 46)] 5 6 (fun m v5 v6 wr => ∃ (z : Nat) (p : Nat), v5 = .int .i64 z ∧ v6 = .int .i64 p ∧ p ≤ n ∧ m = n - p ∧ Mem w0 wr (.blk b2 [Value.int .i64 0, St [], Value.int .i64 0, Value.int .i64 0] 73 :: L) V ∧ z = val (s.take p) ∧ z ≤ 30000000009) _
          ⟨0, 0, rfl, rfl, by omega, rfl, hM, rfl, by omega⟩ ?_
        clear hM
        rintro m2 τ2 v5 v6 w ⟨z, p, rfl, rfl, hp, rfl, hM, hz, hz1⟩ K1 hL1
        have hzn := val_take_le s hp
        rw [hte] at hzn
        by_cases hgo2 : p < n ∧ z < 3000000000
        · obtain ⟨hpn, hz3⟩ := hgo2
          obtain ⟨y, hy⟩ : ∃ y, s[p]? = some y := ⟨_, List.getElem?_eq_getElem (by omega)⟩
          have hdy := dig_at hall hy hpn
          obtain ⟨hy1, hy2⟩ := hdy
          (repeat (first | refine seq_ ?_ | refine sq_normal ?_ | refine rl_nil ?_ | refine cond_t rfl ?_ | refine skip_ ?_ | refine block_ ?_ | refine inBlock_normal ?_ | (refine region_ (id := 7) ?_; (try (refine rl_move (v := (Value.int _ _ : Value)) rfl rfl ?_; (try (refine rl_move (v := (Value.int _ _ : Value)) rfl rfl ?_; (try ((refine rl_lss_t rfl rfl rfl ?_ ?_; omega); (try (refine rl_move (v := (Value.bool _ : Value)) rfl rfl ?_; (try (refine rl_move (v := (Value.int _ _ : Value)) rfl rfl ?_; (try ((refine rl_lss_t rfl rfl rfl ?_ ?_; omega); (try (refine rl_pick (v := (Value.bool _ : Value)) rfl rfl rfl ?_))))))))))))))) | (refine region_ (id := 8) ?_; (try (refine rl_move (v := (Value.int _ _ : Value)) rfl rfl ?_; (try ((refine rl_add rfl rfl rfl ?_ ?_ ?_; omega; omega); (try (refine rl_assign (v := (Value.int _ _ : Value)) rfl rfl ?_))))))) | (refine region_ (id := 9) ?_; (try (refine rl_move (v := (Value.int _ _ : Value)) rfl rfl ?_; (try ((refine rl_mul rfl rfl rfl ?_ ?_ ?_; omega; omega); (try (refine rl_move (v := (Value.string _ : Value)) rfl rfl ?_; (try (refine rl_move (v := (Value.int _ _ : Value)) rfl rfl ?_; (try (refine rl_sindex us9 rfl rfl rfl (by omega) (by assumption) ?_; (try ((refine rl_conv64 (by rw [ui5]; rfl) ui3 rfl rfl ?_ ?_ ?_; omega; omega); (try ((refine rl_add rfl rfl rfl ?_ ?_ ?_; omega; omega); (try ((refine rl_sub rfl rfl rfl ?_ ?_ ?_; omega; omega); (try (refine rl_assign (v := (Value.int _ _ : Value)) rfl rfl ?_)))))))))))))))))))))
          refine kq_normal (hL1 (n - (p + 1)) _ _ (by omega) (by (repeat (first | with_reducible exact Agree.ov | with_reducible exact Agree.refl _ _ | refine Agree.upd rfl ?_ | refine Agree.ovs rfl ?_))) ⟨z * 10 + (y.toNat - 48), p + 1, ?_, rfl, by omega, rfl, hM, ?_, by omega⟩)
          · exact congrArg (Value.int .i64) (by omega)
          · rw [List.take_add_one, hy, hz]
            exact (val_snoc (s.take p) y).symm
        · by_cases hv : val (s.takeWhile dig) ≤ 2147483647
          · have hpe : p = n := by omega
            have hzz : z = val (s.takeWhile dig) := by rw [hz, hpe, hte]
            (repeat (first | refine seq_ ?_ | refine sq_normal ?_ | refine sq_exit ?_ | refine sq_ret ?_ | refine rl_nil ?_ | refine cond_f rfl ?_ | refine skip_ ?_ | refine ret_ ?_ | refine exit_ ?_ | refine inBlock_exit ?_ | refine kq_exit ?_ | (refine region_ (id := 7) ?_; (try (refine rl_move (v := (Value.int _ _ : Value)) rfl rfl ?_; (try (refine rl_move (v := (Value.int _ _ : Value)) rfl rfl ?_; (try ((refine rl_lss_f rfl rfl rfl ?_ ?_; omega); (try (refine rl_move (v := (Value.bool _ : Value)) rfl rfl ?_; (try (refine rl_off rfl ?_; (try (refine rl_off rfl ?_; (try (refine rl_pick (v := (Value.bool _ : Value)) rfl rfl rfl ?_))))))))))))))) | (refine region_ (id := 10) ?_; (try (refine rl_move (v := (Value.int _ _ : Value)) rfl rfl ?_; (try ((refine rl_gtr_f rfl rfl rfl ?_ ?_; omega)))))) | (refine region_ (id := 12) ?_; (try (refine rl_move (v := (Value.string _ : Value)) rfl rfl ?_; (try (refine rl_move (v := (Value.int _ _ : Value)) rfl rfl ?_; (try ((refine rl_sslice_h us9 rfl rfl rfl ?_ ?_ ?_; omega; omega); (try (refine rl_move (v := (Value.int _ _ : Value)) rfl rfl ?_; (try (refine rl_build [_, _, _, (Value.int .i64 0)] ag73 pl73 rfl rfl rfl ?_; (try ((refine rl_storeWM 0 hM ag73 rfl rfl rfl rfl rfl rfl rfl ?_; clear hM; intro w hM); (try (refine rl_assign (v := (Value.int _ _ : Value)) rfl rfl ?_)))))))))))))))))
            exact bp_x2 rfl rfl (res_M 0 hM ag73 rfl rfl rfl) (res_tmp rfl) ⟨⟨3, s.take n, z, 0⟩, 0, rfl, hM.dropn 1, .inl ⟨by rw [e1, if_pos hv, hzz, hte], rfl⟩⟩
          · have hzb : 2147483647 < z := by
              by_cases hpe : p = n
              · rw [hz, hpe, hte]; omega
              · omega
            by_cases hpn : p < n
            · (repeat (first | refine seq_ ?_ | refine sq_normal ?_ | refine sq_exit ?_ | refine sq_ret ?_ | refine rl_nil ?_ | refine cond_t rfl ?_ | refine cond_f rfl ?_ | refine ret_ ?_ | refine exit_ ?_ | refine inBlock_exit ?_ | refine kq_exit ?_ | (refine region_ (id := 7) ?_; (try (refine rl_move (v := (Value.int _ _ : Value)) rfl rfl ?_; (try (refine rl_move (v := (Value.int _ _ : Value)) rfl rfl ?_; (try ((refine rl_lss_t rfl rfl rfl ?_ ?_; omega); (try (refine rl_move (v := (Value.bool _ : Value)) rfl rfl ?_; (try (refine rl_move (v := (Value.int _ _ : Value)) rfl rfl ?_; (try ((refine rl_lss_f rfl rfl rfl ?_ ?_; omega); (try (refine rl_pick (v := (Value.bool _ : Value)) rfl rfl rfl ?_))))))))))))))) | (refine region_ (id := 10) ?_; (try (refine rl_move (v := (Value.int _ _ : Value)) rfl rfl ?_; (try ((refine rl_gtr_t rfl rfl rfl ?_ ?_; omega)))))) | (refine region_ (id := 11) ?_; (try (refine rl_build [(Value.int .i64 0), (St []), (Value.int .i64 0), (Value.int .i64 0)] ag73 pl73 rfl rfl rfl ?_; (try ((refine rl_storeWM 0 hM ag73 rfl rfl rfl rfl rfl rfl rfl ?_; clear hM; intro w hM); (try (refine rl_assign (v := (Value.int _ _ : Value)) rfl rfl ?_)))))))))
              exact bp_x2 rfl rfl (res_M 0 hM ag73 rfl rfl rfl) (res_tmp rfl) ⟨⟨0, [], 0, 0⟩, 11, rfl, hM.dropn 1, .inr ⟨by rw [e1, if_neg hv], by decide⟩⟩
            · (repeat (first | refine seq_ ?_ | refine sq_normal ?_ | refine sq_exit ?_ | refine sq_ret ?_ | refine rl_nil ?_ | refine cond_t rfl ?_ | refine cond_f rfl ?_ | refine ret_ ?_ | refine exit_ ?_ | refine inBlock_exit ?_ | refine kq_exit ?_ | (refine region_ (id := 7) ?_; (try (refine rl_move (v := (Value.int _ _ : Value)) rfl rfl ?_; (try (refine rl_move (v := (Value.int _ _ : Value)) rfl rfl ?_; (try ((refine rl_lss_f rfl rfl rfl ?_ ?_; omega); (try (refine rl_move (v := (Value.bool _ : Value)) rfl rfl ?_; (try (refine rl_off rfl ?_; (try (refine rl_off rfl ?_; (try (refine rl_pick (v := (Value.bool _ : Value)) rfl rfl rfl ?_))))))))))))))) | (refine region_ (id := 10) ?_; (try (refine rl_move (v := (Value.int _ _ : Value)) rfl rfl ?_; (try ((refine rl_gtr_t rfl rfl rfl ?_ ?_; omega)))))) | (refine region_ (id := 11) ?_; (try (refine rl_build [(Value.int .i64 0), (St []), (Value.int .i64 0), (Value.int .i64 0)] ag73 pl73 rfl rfl rfl ?_; (try ((refine rl_storeWM 0 hM ag73 rfl rfl rfl rfl rfl rfl rfl ?_; clear hM; intro w hM); (try (refine rl_assign (v := (Value.int _ _ : Value)) rfl rfl ?_)))))))))
              exact bp_x2 rfl rfl (res_M 0 hM ag73 rfl rfl rfl) (res_tmp rfl) ⟨⟨0, [], 0, 0⟩, 11, rfl, hM.dropn 1, .inr ⟨by rw [e1, if_neg hv], by decide⟩⟩
  | false =>
    have e2' : (low c || upp c) = true → one s = if 32 < (s.takeWhile sign).length then .error 2 else .ok ⟨if upp c then 2 else if s.takeWhile sign ∈ keys then 5 else 1, s.takeWhile sign, 0, 0⟩ := by
      intro h
      unfold one
      rw [hhd]
      simp only [Option.any_some, hdc, h, Bool.false_eq_true, if_false, if_true]
    have e3' : (low c || upp c) = false → one s = match symOf s with | some x => .ok ⟨4, x, 0, 0⟩ | none => .error 10 := by
      intro h
      unfold one
      rw [hhd]
      simp only [Option.any_some, hdc, h, Bool.false_eq_true, if_false]
      cases symOf s <;> rfl
    (repeat (first | refine seq_ ?_ | refine sq_normal ?_ | refine rl_nil ?_ | refine cond_f rfl ?_ | refine skip_ ?_ | (refine region_ (id := 13) ?_; (try (refine rl_move (v := (Value.string _ : Value)) rfl rfl ?_; (try ((refine rl_sslice_h us9 rfl rfl rfl ?_ ?_ ?_; omega; omega))))))))
    refine rl_callf fn74 (reflower_ok (s.take (1 : Int).toNat) w (by rw [ht1, List.length_singleton]; omega)) rfl rfl ?_
    rintro _ w ⟨rfl, rfl⟩
    rw [ht1, isLow_one]
    (repeat (first | refine seq_ ?_ | refine sq_normal ?_ | refine rl_nil ?_ | (refine region_ (id := 14) ?_; (try (refine rl_move (v := (Value.string _ : Value)) rfl rfl ?_; (try ((refine rl_sslice_h us9 rfl rfl rfl ?_ ?_ ?_; omega; omega)))))) | refine rl_assign (v := (Value.bool _ : Value)) rfl rfl ?_))
    refine rl_callf fn75 (refupper_ok (s.take (1 : Int).toNat) w (by rw [ht1, List.length_singleton]; omega)) rfl rfl ?_
    rintro _ w ⟨rfl, rfl⟩
    rw [ht1, isUpp_one]
    cases hlo : low c with
    | true =>
      have e2 := e2' (by rw [hlo]; rfl)
      clear e2' e3'
      have hup : upp c = false := by
        simp only [low, Bool.and_eq_true, decide_eq_true_eq] at hlo
        simp [upp]; omega
      rw [hup]
      (repeat (first | refine seq_ ?_ | refine sq_normal ?_ | refine rl_nil ?_ | refine cond_t rfl ?_ | refine block_ ?_ | (refine region_ (id := 15) ?_; (try (refine rl_move (v := (Value.bool _ : Value)) rfl rfl ?_; (try (refine rl_move (v := (Value.bool _ : Value)) rfl rfl ?_; (try (refine rl_off rfl ?_; (try (refine rl_pick (v := (Value.bool _ : Value)) rfl rfl rfl ?_))))))))) | refine rl_assign (v := (Value.bool _ : Value)) rfl rfl ?_))
      refine loop1 [(4, 5), (64, 80)] 4 (fun m v wr => ∃ n : Nat, v = .int .i64 n ∧ n ≤ s.length ∧ m = s.length - n ∧ Mem w0 wr (.blk b2 [Value.int .i64 0, St [], Value.int .i64 0, Value.int .i64 0] 73 :: L) V ∧ (s.take n).all sign = true) _
        ⟨0, rfl, by omega, rfl, hM, rfl⟩ ?_
      clear hM
      rintro m τ v w ⟨n, rfl, hn, rfl, hM, hall⟩ K0 hL0
      by_cases hgo : ∃ x, s[n]? = some x ∧ sign x = true
      · obtain ⟨x, hx, hdx⟩ := hgo
        have hlt := (List.getElem?_eq_some_iff.1 hx).1
        have hmin : s[(min (n : Int) ((s.length : Int) - 1)).toNat]? = some x := by
          rw [show min (n : Int) ((s.length : Int) - 1) = n by omega]; exact hx
        (repeat (first | refine seq_ ?_ | (refine region_ (id := 16) ?_; (try (refine rl_move (v := (Value.int _ _ : Value)) rfl rfl ?_; (try (refine rl_move (v := (Value.string _ : Value)) rfl rfl ?_; (try (refine rl_slen us9 rfl rfl ?_; (try ((refine rl_lss_t rfl rfl rfl ?_ ?_; omega); (try (refine rl_move (v := (Value.bool _ : Value)) rfl rfl ?_; (try (refine rl_move (v := (Value.string _ : Value)) rfl rfl ?_; (try (refine rl_move (v := (Value.int _ _ : Value)) rfl rfl ?_; (try (refine rl_move (v := (Value.string _ : Value)) rfl rfl ?_; (try (refine rl_slen us9 rfl rfl ?_; (try ((refine rl_sub rfl rfl rfl ?_ ?_ ?_; omega; omega); (try (refine rl_min rfl rfl rfl ?_; (try (refine rl_sindex us9 rfl rfl rfl (by omega) (by assumption) ?_)))))))))))))))))))))))))))
        refine rl_callf fn76 (sign_ok x w) rfl rfl ?_
        rintro _ w ⟨rfl, rfl⟩
        rw [hdx]
        (repeat (first | refine sq_normal ?_ | refine rl_nil ?_ | refine cond_t rfl ?_ | refine skip_ ?_ | refine block_ ?_ | refine inBlock_normal ?_ | (refine region_ (id := 17) ?_; (try (refine rl_move (v := (Value.int _ _ : Value)) rfl rfl ?_; (try ((refine rl_add rfl rfl rfl ?_ ?_ ?_; omega; omega); (try (refine rl_assign (v := (Value.int _ _ : Value)) rfl rfl ?_))))))) | refine rl_pick (v := (Value.bool _ : Value)) rfl rfl rfl ?_))
        exact kq_normal (hL0 (s.length - (n + 1)) _ _ (by omega) (by (repeat (first | with_reducible exact Agree.ov | with_reducible exact Agree.refl _ _ | refine Agree.upd rfl ?_ | refine Agree.ovs rfl ?_))) ⟨n + 1, rfl, by omega, rfl, hM, all_take_succ hx hall hdx⟩)
      · have hnl : (s.takeWhile sign).length = n := tw_take hall hn (fun x hx => by
          cases h : sign x with
          | false => rfl
          | true => exact absurd ⟨x, hx, h⟩ hgo)
        have hte := tw_take_eq hnl
        by_cases hlt : n < s.length
        · obtain ⟨x, hx⟩ : ∃ x, s[n]? = some x := ⟨_, List.getElem?_eq_getElem hlt⟩
          have hdx : sign x = false := by
            cases h : sign x with
            | false => rfl
            | true => exact absurd ⟨x, hx, h⟩ hgo
          have hmin : s[(min (n : Int) ((s.length : Int) - 1)).toNat]? = some x := by
            rw [show min (n : Int) ((s.length : Int) - 1) = n by omega]; exact hx
          (repeat (first | refine seq_ ?_ | (refine region_ (id := 16) ?_; (try (refine rl_move (v := (Value.int _ _ : Value)) rfl rfl ?_; (try (refine rl_move (v := (Value.string _ : Value)) rfl rfl ?_; (try (refine rl_slen us9 rfl rfl ?_; (try ((refine rl_lss_t rfl rfl rfl ?_ ?_; omega); (try (refine rl_move (v := (Value.bool _ : Value)) rfl rfl ?_; (try (refine rl_move (v := (Value.string _ : Value)) rfl rfl ?_; (try (refine rl_move (v := (Value.int _ _ : Value)) rfl rfl ?_; (try (refine rl_move (v := (Value.string _ : Value)) rfl rfl ?_; (try (refine rl_slen us9 rfl rfl ?_; (try ((refine rl_sub rfl rfl rfl ?_ ?_ ?_; omega; omega); (try (refine rl_min rfl rfl rfl ?_; (try (refine rl_sindex us9 rfl rfl rfl (by omega) (by assumption) ?_)))))))))))))))))))))))))))
          refine rl_callf fn76 (sign_ok x w) rfl rfl ?_
          rintro _ w ⟨rfl, rfl⟩
          rw [hdx]
          by_cases h32 : n ≤ 32
          · (repeat (first | refine seq_ ?_ | refine sq_normal ?_ | refine sq_exit ?_ | refine rl_nil ?_ | refine cond_f rfl ?_ | refine skip_ ?_ | refine exit_ ?_ | refine inBlock_exit ?_ | refine kq_exit ?_ | (refine region_ (id := 18) ?_; (try (refine rl_move (v := (Value.int _ _ : Value)) rfl rfl ?_; (try ((refine rl_gtr_f rfl rfl rfl ?_ ?_; omega)))))) | (refine region_ (id := 20) ?_; (try (refine rl_move (v := (Value.bool _ : Value)) rfl rfl ?_))) | refine rl_pick (v := (Value.bool _ : Value)) rfl rfl rfl ?_))
            (refine drawnM_ 4 [(1, false), (2, false), (3, false), (0, true)] (fun w => Mem w0 w _ _) hM mo (by kernel_rfl) (fun _ h => h) ?_; clear hM; intro w hM; (try (refine rx_move (v := (Value.string _ : Value)) rfl rfl rfl ?_; (try (refine rx_move (v := (Value.int _ _ : Value)) rfl rfl rfl ?_; (try ((refine rx_sslice_h rfl us9 rfl rfl rfl ?_ ?_ ?_; omega; omega))))))))
            refine rx_eff rfl (fun K hK => ?_)
            refine rl_callf fn78 (refkeys_ok w0 w _ V hM) rfl rfl ?_
            clear hM
            rintro kv w ⟨V1, hV1, hM, hks⟩
            refine rl_nil (kq_normal (hK _ _ (hM.le hV1) ?_))
            refine rx_nil rfl ?_
            refine rl_callf fn77 (has_ok _ keys (s.take n) w (hks.mono hM.vle) (by decide)) rfl rfl ?_
            rintro _ w ⟨rfl, rfl⟩
            by_cases hk : s.take n ∈ keys
            · have hk' := hk
              rw [hte] at hk'
              rw [decide_eq_true hk]
              (repeat (first | refine seq_ ?_ | refine sq_normal ?_ | refine sq_ret ?_ | refine rl_nil ?_ | refine cond_t rfl ?_ | refine ret_ ?_ | refine np_normal ?_ | (refine region_ (id := 23) ?_; (try (refine rl_move (v := (Value.string _ : Value)) rfl rfl ?_; (try (refine rl_move (v := (Value.int _ _ : Value)) rfl rfl ?_; (try ((refine rl_sslice_h us9 rfl rfl rfl ?_ ?_ ?_; omega; omega); (try (refine rl_build [_, _, (Value.int .i64 0), (Value.int .i64 0)] ag73 pl73 rfl rfl rfl ?_; (try ((refine rl_storeWM 0 hM ag73 rfl rfl rfl rfl rfl rfl rfl ?_; clear hM; intro w hM); (try (refine rl_assign (v := (Value.int _ _ : Value)) rfl rfl ?_)))))))))))))))
              exact bp_x2 rfl rfl (res_M 0 hM ag73 rfl rfl rfl) (res_tmp rfl) ⟨⟨5, s.take n, 0, 0⟩, 0, rfl, (hM.le hV1).dropn 1, .inl ⟨by rw [e2, if_neg (by omega), hup, if_pos hk', hte]; rfl, rfl⟩⟩
            · have hk' := hk
              rw [hte] at hk'
              rw [decide_eq_false hk]
              (repeat (first | refine seq_ ?_ | refine sq_normal ?_ | refine sq_ret ?_ | refine rl_nil ?_ | refine cond_f rfl ?_ | refine skip_ ?_ | refine ret_ ?_ | refine np_normal ?_ | (refine region_ (id := 24) ?_; (try (refine rl_move (v := (Value.string _ : Value)) rfl rfl ?_; (try (refine rl_move (v := (Value.int _ _ : Value)) rfl rfl ?_; (try ((refine rl_sslice_h us9 rfl rfl rfl ?_ ?_ ?_; omega; omega); (try (refine rl_build [_, _, (Value.int .i64 0), (Value.int .i64 0)] ag73 pl73 rfl rfl rfl ?_; (try ((refine rl_storeWM 0 hM ag73 rfl rfl rfl rfl rfl rfl rfl ?_; clear hM; intro w hM); (try (refine rl_assign (v := (Value.int _ _ : Value)) rfl rfl ?_)))))))))))))))
              exact bp_x2 rfl rfl (res_M 0 hM ag73 rfl rfl rfl) (res_tmp rfl) ⟨⟨1, s.take n, 0, 0⟩, 0, rfl, (hM.le hV1).dropn 1, .inl ⟨by rw [e2, if_neg (by omega), hup, if_neg hk', hte]; rfl, rfl⟩⟩
          · (repeat (first | refine seq_ ?_ | refine sq_normal ?_ | refine sq_exit ?_ | refine sq_ret ?_ | refine rl_nil ?_ | refine cond_t rfl ?_ | refine cond_f rfl ?_ | refine ret_ ?_ | refine exit_ ?_ | refine inBlock_exit ?_ | refine kq_exit ?_ | (refine region_ (id := 18) ?_; (try (refine rl_move (v := (Value.int _ _ : Value)) rfl rfl ?_; (try ((refine rl_gtr_t rfl rfl rfl ?_ ?_; omega)))))) | (refine region_ (id := 19) ?_; (try (refine rl_build [(Value.int .i64 0), (St []), (Value.int .i64 0), (Value.int .i64 0)] ag73 pl73 rfl rfl rfl ?_; (try ((refine rl_storeWM 0 hM ag73 rfl rfl rfl rfl rfl rfl rfl ?_; clear hM; intro w hM); (try (refine rl_assign (v := (Value.int _ _ : Value)) rfl rfl ?_))))))) | refine rl_pick (v := (Value.bool _ : Value)) rfl rfl rfl ?_))
            exact bp_x2 rfl rfl (res_M 0 hM ag73 rfl rfl rfl) (res_tmp rfl) ⟨⟨0, [], 0, 0⟩, 2, rfl, hM.dropn 1, .inr ⟨by rw [e2, if_pos (by omega)], by decide⟩⟩
        · by_cases h32 : n ≤ 32
          · (repeat (first | refine seq_ ?_ | refine sq_normal ?_ | refine sq_exit ?_ | refine rl_nil ?_ | refine cond_f rfl ?_ | refine skip_ ?_ | refine exit_ ?_ | refine inBlock_exit ?_ | refine kq_exit ?_ | (refine region_ (id := 16) ?_; (try (refine rl_move (v := (Value.int _ _ : Value)) rfl rfl ?_; (try (refine rl_move (v := (Value.string _ : Value)) rfl rfl ?_; (try (refine rl_slen us9 rfl rfl ?_; (try ((refine rl_lss_f rfl rfl rfl ?_ ?_; omega); (try (refine rl_move (v := (Value.bool _ : Value)) rfl rfl ?_; (try (refine rl_off rfl ?_; (try (refine rl_off rfl ?_; (try (refine rl_off rfl ?_; (try (refine rl_off rfl ?_; (try (refine rl_off rfl ?_; (try (refine rl_off rfl ?_; (try (refine rl_off rfl ?_))))))))))))))))))))))))) | (refine region_ (id := 18) ?_; (try (refine rl_move (v := (Value.int _ _ : Value)) rfl rfl ?_; (try ((refine rl_gtr_f rfl rfl rfl ?_ ?_; omega)))))) | (refine region_ (id := 20) ?_; (try (refine rl_move (v := (Value.bool _ : Value)) rfl rfl ?_))) | refine rl_off rfl ?_ | refine rl_pick (v := (Value.bool _ : Value)) rfl rfl rfl ?_))
            (refine drawnM_ 4 [(1, false), (2, false), (3, false), (0, true)] (fun w => Mem w0 w _ _) hM mo (by kernel_rfl) (fun _ h => h) ?_; clear hM; intro w hM; (try (refine rx_move (v := (Value.string _ : Value)) rfl rfl rfl ?_; (try (refine rx_move (v := (Value.int _ _ : Value)) rfl rfl rfl ?_; (try ((refine rx_sslice_h rfl us9 rfl rfl rfl ?_ ?_ ?_; omega; omega))))))))
            refine rx_eff rfl (fun K hK => ?_)
            refine rl_callf fn78 (refkeys_ok w0 w _ V hM) rfl rfl ?_
            clear hM
            rintro kv w ⟨V1, hV1, hM, hks⟩
            refine rl_nil (kq_normal (hK _ _ (hM.le hV1) ?_))
            refine rx_nil rfl ?_
            refine rl_callf fn77 (has_ok _ keys (s.take n) w (hks.mono hM.vle) (by decide)) rfl rfl ?_
            rintro _ w ⟨rfl, rfl⟩
            by_cases hk : s.take n ∈ keys
            · have hk' := hk
              rw [hte] at hk'
              rw [decide_eq_true hk]
              (repeat (first | refine seq_ ?_ | refine sq_normal ?_ | refine sq_ret ?_ | refine rl_nil ?_ | refine cond_t rfl ?_ | refine ret_ ?_ | refine np_normal ?_ | (refine region_ (id := 23) ?_; (try (refine rl_move (v := (Value.string _ : Value)) rfl rfl ?_; (try (refine rl_move (v := (Value.int _ _ : Value)) rfl rfl ?_; (try ((refine rl_sslice_h us9 rfl rfl rfl ?_ ?_ ?_; omega; omega); (try (refine rl_build [_, _, (Value.int .i64 0), (Value.int .i64 0)] ag73 pl73 rfl rfl rfl ?_; (try ((refine rl_storeWM 0 hM ag73 rfl rfl rfl rfl rfl rfl rfl ?_; clear hM; intro w hM); (try (refine rl_assign (v := (Value.int _ _ : Value)) rfl rfl ?_)))))))))))))))
              exact bp_x2 rfl rfl (res_M 0 hM ag73 rfl rfl rfl) (res_tmp rfl) ⟨⟨5, s.take n, 0, 0⟩, 0, rfl, (hM.le hV1).dropn 1, .inl ⟨by rw [e2, if_neg (by omega), hup, if_pos hk', hte]; rfl, rfl⟩⟩
            · have hk' := hk
              rw [hte] at hk'
              rw [decide_eq_false hk]
              (repeat (first | refine seq_ ?_ | refine sq_normal ?_ | refine sq_ret ?_ | refine rl_nil ?_ | refine cond_f rfl ?_ | refine skip_ ?_ | refine ret_ ?_ | refine np_normal ?_ | (refine region_ (id := 24) ?_; (try (refine rl_move (v := (Value.string _ : Value)) rfl rfl ?_; (try (refine rl_move (v := (Value.int _ _ : Value)) rfl rfl ?_; (try ((refine rl_sslice_h us9 rfl rfl rfl ?_ ?_ ?_; omega; omega); (try (refine rl_build [_, _, (Value.int .i64 0), (Value.int .i64 0)] ag73 pl73 rfl rfl rfl ?_; (try ((refine rl_storeWM 0 hM ag73 rfl rfl rfl rfl rfl rfl rfl ?_; clear hM; intro w hM); (try (refine rl_assign (v := (Value.int _ _ : Value)) rfl rfl ?_)))))))))))))))
              exact bp_x2 rfl rfl (res_M 0 hM ag73 rfl rfl rfl) (res_tmp rfl) ⟨⟨1, s.take n, 0, 0⟩, 0, rfl, (hM.le hV1).dropn 1, .inl ⟨by rw [e2, if_neg (by omega), hup, if_neg hk', hte]; rfl, rfl⟩⟩
          · (repeat (first | refine seq_ ?_ | refine sq_normal ?_ | refine sq_exit ?_ | refine sq_ret ?_ | refine rl_nil ?_ | refine cond_t rfl ?_ | refine cond_f rfl ?_ | refine ret_ ?_ | refine exit_ ?_ | refine inBlock_exit ?_ | refine kq_exit ?_ | (refine region_ (id := 16) ?_; (try (refine rl_move (v := (Value.int _ _ : Value)) rfl rfl ?_; (try (refine rl_move (v := (Value.string _ : Value)) rfl rfl ?_; (try (refine rl_slen us9 rfl rfl ?_; (try ((refine rl_lss_f rfl rfl rfl ?_ ?_; omega); (try (refine rl_move (v := (Value.bool _ : Value)) rfl rfl ?_; (try (refine rl_off rfl ?_; (try (refine rl_off rfl ?_; (try (refine rl_off rfl ?_; (try (refine rl_off rfl ?_; (try (refine rl_off rfl ?_; (try (refine rl_off rfl ?_; (try (refine rl_off rfl ?_))))))))))))))))))))))))) | (refine region_ (id := 18) ?_; (try (refine rl_move (v := (Value.int _ _ : Value)) rfl rfl ?_; (try ((refine rl_gtr_t rfl rfl rfl ?_ ?_; omega)))))) | (refine region_ (id := 19) ?_; (try (refine rl_build [(Value.int .i64 0), (St []), (Value.int .i64 0), (Value.int .i64 0)] ag73 pl73 rfl rfl rfl ?_; (try ((refine rl_storeWM 0 hM ag73 rfl rfl rfl rfl rfl rfl rfl ?_; clear hM; intro w hM); (try (refine rl_assign (v := (Value.int _ _ : Value)) rfl rfl ?_))))))) | refine rl_off rfl ?_ | refine rl_pick (v := (Value.bool _ : Value)) rfl rfl rfl ?_))
            exact bp_x2 rfl rfl (res_M 0 hM ag73 rfl rfl rfl) (res_tmp rfl) ⟨⟨0, [], 0, 0⟩, 2, rfl, hM.dropn 1, .inr ⟨by rw [e2, if_pos (by omega)], by decide⟩⟩
    | false =>
      cases hup : upp c with
      | true =>
        have e2 := e2' (by rw [hup]; simp)
        clear e2' e3'
        (repeat (first | refine seq_ ?_ | refine sq_normal ?_ | refine rl_nil ?_ | refine cond_t rfl ?_ | refine block_ ?_ | (refine region_ (id := 15) ?_; (try (refine rl_move (v := (Value.bool _ : Value)) rfl rfl ?_; (try (refine rl_move (v := (Value.bool _ : Value)) rfl rfl ?_; (try (refine rl_move (v := (Value.bool _ : Value)) rfl rfl ?_; (try (refine rl_pick (v := (Value.bool _ : Value)) rfl rfl rfl ?_))))))))) | refine rl_assign (v := (Value.bool _ : Value)) rfl rfl ?_))
        refine loop1 [(4, 5), (64, 80)] 4 (fun m v wr => ∃ n : Nat, v = .int .i64 n ∧ n ≤ s.length ∧ m = s.length - n ∧ Mem w0 wr (.blk b2 [Value.int .i64 0, St [], Value.int .i64 0, Value.int .i64 0] 73 :: L) V ∧ (s.take n).all sign = true) _
          ⟨0, rfl, by omega, rfl, hM, rfl⟩ ?_
        clear hM
        rintro m τ v w ⟨n, rfl, hn, rfl, hM, hall⟩ K0 hL0
        by_cases hgo : ∃ x, s[n]? = some x ∧ sign x = true
        · obtain ⟨x, hx, hdx⟩ := hgo
          have hlt := (List.getElem?_eq_some_iff.1 hx).1
          have hmin : s[(min (n : Int) ((s.length : Int) - 1)).toNat]? = some x := by
            rw [show min (n : Int) ((s.length : Int) - 1) = n by omega]; exact hx
          (repeat (first | refine seq_ ?_ | (refine region_ (id := 16) ?_; (try (refine rl_move (v := (Value.int _ _ : Value)) rfl rfl ?_; (try (refine rl_move (v := (Value.string _ : Value)) rfl rfl ?_; (try (refine rl_slen us9 rfl rfl ?_; (try ((refine rl_lss_t rfl rfl rfl ?_ ?_; omega); (try (refine rl_move (v := (Value.bool _ : Value)) rfl rfl ?_; (try (refine rl_move (v := (Value.string _ : Value)) rfl rfl ?_; (try (refine rl_move (v := (Value.int _ _ : Value)) rfl rfl ?_; (try (refine rl_move (v := (Value.string _ : Value)) rfl rfl ?_; (try (refine rl_slen us9 rfl rfl ?_; (try ((refine rl_sub rfl rfl rfl ?_ ?_ ?_; omega; omega); (try (refine rl_min rfl rfl rfl ?_; (try (refine rl_sindex us9 rfl rfl rfl (by omega) (by assumption) ?_)))))))))))))))))))))))))))
          refine rl_callf fn76 (sign_ok x w) rfl rfl ?_
          rintro _ w ⟨rfl, rfl⟩
          rw [hdx]
          (repeat (first | refine sq_normal ?_ | refine rl_nil ?_ | refine cond_t rfl ?_ | refine skip_ ?_ | refine block_ ?_ | refine inBlock_normal ?_ | (refine region_ (id := 17) ?_; (try (refine rl_move (v := (Value.int _ _ : Value)) rfl rfl ?_; (try ((refine rl_add rfl rfl rfl ?_ ?_ ?_; omega; omega); (try (refine rl_assign (v := (Value.int _ _ : Value)) rfl rfl ?_))))))) | refine rl_pick (v := (Value.bool _ : Value)) rfl rfl rfl ?_))
          exact kq_normal (hL0 (s.length - (n + 1)) _ _ (by omega) (by (repeat (first | with_reducible exact Agree.ov | with_reducible exact Agree.refl _ _ | refine Agree.upd rfl ?_ | refine Agree.ovs rfl ?_))) ⟨n + 1, rfl, by omega, rfl, hM, all_take_succ hx hall hdx⟩)
        · have hnl : (s.takeWhile sign).length = n := tw_take hall hn (fun x hx => by
            cases h : sign x with
            | false => rfl
            | true => exact absurd ⟨x, hx, h⟩ hgo)
          have hte := tw_take_eq hnl
          by_cases hlt : n < s.length
          · obtain ⟨x, hx⟩ : ∃ x, s[n]? = some x := ⟨_, List.getElem?_eq_getElem hlt⟩
            have hdx : sign x = false := by
              cases h : sign x with
              | false => rfl
              | true => exact absurd ⟨x, hx, h⟩ hgo
            have hmin : s[(min (n : Int) ((s.length : Int) - 1)).toNat]? = some x := by
              rw [show min (n : Int) ((s.length : Int) - 1) = n by omega]; exact hx
            (repeat (first | refine seq_ ?_ | (refine region_ (id := 16) ?_; (try (refine rl_move (v := (Value.int _ _ : Value)) rfl rfl ?_; (try (refine rl_move (v := (Value.string _ : Value)) rfl rfl ?_; (try (refine rl_slen us9 rfl rfl ?_; (try ((refine rl_lss_t rfl rfl rfl ?_ ?_; omega); (try (refine rl_move (v := (Value.bool _ : Value)) rfl rfl ?_; (try (refine rl_move (v := (Value.string _ : Value)) rfl rfl ?_; (try (refine rl_move (v := (Value.int _ _ : Value)) rfl rfl ?_; (try (refine rl_move (v := (Value.string _ : Value)) rfl rfl ?_; (try (refine rl_slen us9 rfl rfl ?_; (try ((refine rl_sub rfl rfl rfl ?_ ?_ ?_; omega; omega); (try (refine rl_min rfl rfl rfl ?_; (try (refine rl_sindex us9 rfl rfl rfl (by omega) (by assumption) ?_)))))))))))))))))))))))))))
            refine rl_callf fn76 (sign_ok x w) rfl rfl ?_
            rintro _ w ⟨rfl, rfl⟩
            rw [hdx]
            by_cases h32 : n ≤ 32
            · (repeat (first | refine seq_ ?_ | refine sq_normal ?_ | refine sq_exit ?_ | refine sq_ret ?_ | refine rl_nil ?_ | refine cond_t rfl ?_ | refine cond_f rfl ?_ | refine skip_ ?_ | refine ret_ ?_ | refine exit_ ?_ | refine inBlock_exit ?_ | refine kq_exit ?_ | (refine region_ (id := 18) ?_; (try (refine rl_move (v := (Value.int _ _ : Value)) rfl rfl ?_; (try ((refine rl_gtr_f rfl rfl rfl ?_ ?_; omega)))))) | (refine region_ (id := 20) ?_; (try (refine rl_move (v := (Value.bool _ : Value)) rfl rfl ?_))) | (refine region_ (id := 21) ?_; (try (refine rl_move (v := (Value.string _ : Value)) rfl rfl ?_; (try (refine rl_move (v := (Value.int _ _ : Value)) rfl rfl ?_; (try ((refine rl_sslice_h us9 rfl rfl rfl ?_ ?_ ?_; omega; omega); (try (refine rl_build [_, _, (Value.int .i64 0), (Value.int .i64 0)] ag73 pl73 rfl rfl rfl ?_; (try ((refine rl_storeWM 0 hM ag73 rfl rfl rfl rfl rfl rfl rfl ?_; clear hM; intro w hM); (try (refine rl_assign (v := (Value.int _ _ : Value)) rfl rfl ?_))))))))))))) | refine rl_pick (v := (Value.bool _ : Value)) rfl rfl rfl ?_))
              exact bp_x2 rfl rfl (res_M 0 hM ag73 rfl rfl rfl) (res_tmp rfl) ⟨⟨2, s.take n, 0, 0⟩, 0, rfl, hM.dropn 1, .inl ⟨by rw [e2, if_neg (by omega), hup, hte]; rfl, rfl⟩⟩
            · (repeat (first | refine seq_ ?_ | refine sq_normal ?_ | refine sq_exit ?_ | refine sq_ret ?_ | refine rl_nil ?_ | refine cond_t rfl ?_ | refine cond_f rfl ?_ | refine ret_ ?_ | refine exit_ ?_ | refine inBlock_exit ?_ | refine kq_exit ?_ | (refine region_ (id := 18) ?_; (try (refine rl_move (v := (Value.int _ _ : Value)) rfl rfl ?_; (try ((refine rl_gtr_t rfl rfl rfl ?_ ?_; omega)))))) | (refine region_ (id := 19) ?_; (try (refine rl_build [(Value.int .i64 0), (St []), (Value.int .i64 0), (Value.int .i64 0)] ag73 pl73 rfl rfl rfl ?_; (try ((refine rl_storeWM 0 hM ag73 rfl rfl rfl rfl rfl rfl rfl ?_; clear hM; intro w hM); (try (refine rl_assign (v := (Value.int _ _ : Value)) rfl rfl ?_))))))) | refine rl_pick (v := (Value.bool _ : Value)) rfl rfl rfl ?_))
              exact bp_x2 rfl rfl (res_M 0 hM ag73 rfl rfl rfl) (res_tmp rfl) ⟨⟨0, [], 0, 0⟩, 2, rfl, hM.dropn 1, .inr ⟨by rw [e2, if_pos (by omega)], by decide⟩⟩
          · by_cases h32 : n ≤ 32
            · (repeat (first | refine seq_ ?_ | refine sq_normal ?_ | refine sq_exit ?_ | refine sq_ret ?_ | refine rl_nil ?_ | refine cond_t rfl ?_ | refine cond_f rfl ?_ | refine skip_ ?_ | refine ret_ ?_ | refine exit_ ?_ | refine inBlock_exit ?_ | refine kq_exit ?_ | (refine region_ (id := 16) ?_; (try (refine rl_move (v := (Value.int _ _ : Value)) rfl rfl ?_; (try (refine rl_move (v := (Value.string _ : Value)) rfl rfl ?_; (try (refine rl_slen us9 rfl rfl ?_; (try ((refine rl_lss_f rfl rfl rfl ?_ ?_; omega); (try (refine rl_move (v := (Value.bool _ : Value)) rfl rfl ?_; (try (refine rl_off rfl ?_; (try (refine rl_off rfl ?_; (try (refine rl_off rfl ?_; (try (refine rl_off rfl ?_; (try (refine rl_off rfl ?_; (try (refine rl_off rfl ?_; (try (refine rl_off rfl ?_))))))))))))))))))))))))) | (refine region_ (id := 18) ?_; (try (refine rl_move (v := (Value.int _ _ : Value)) rfl rfl ?_; (try ((refine rl_gtr_f rfl rfl rfl ?_ ?_; omega)))))) | (refine region_ (id := 20) ?_; (try (refine rl_move (v := (Value.bool _ : Value)) rfl rfl ?_))) | (refine region_ (id := 21) ?_; (try (refine rl_move (v := (Value.string _ : Value)) rfl rfl ?_; (try (refine rl_move (v := (Value.int _ _ : Value)) rfl rfl ?_; (try ((refine rl_sslice_h us9 rfl rfl rfl ?_ ?_ ?_; omega; omega); (try (refine rl_build [_, _, (Value.int .i64 0), (Value.int .i64 0)] ag73 pl73 rfl rfl rfl ?_; (try ((refine rl_storeWM 0 hM ag73 rfl rfl rfl rfl rfl rfl rfl ?_; clear hM; intro w hM); (try (refine rl_assign (v := (Value.int _ _ : Value)) rfl rfl ?_))))))))))))) | refine rl_off rfl ?_ | refine rl_pick (v := (Value.bool _ : Value)) rfl rfl rfl ?_))
              exact bp_x2 rfl rfl (res_M 0 hM ag73 rfl rfl rfl) (res_tmp rfl) ⟨⟨2, s.take n, 0, 0⟩, 0, rfl, hM.dropn 1, .inl ⟨by rw [e2, if_neg (by omega), hup, hte]; rfl, rfl⟩⟩
            · (repeat (first | refine seq_ ?_ | refine sq_normal ?_ | refine sq_exit ?_ | refine sq_ret ?_ | refine rl_nil ?_ | refine cond_t rfl ?_ | refine cond_f rfl ?_ | refine ret_ ?_ | refine exit_ ?_ | refine inBlock_exit ?_ | refine kq_exit ?_ | (refine region_ (id := 16) ?_; (try (refine rl_move (v := (Value.int _ _ : Value)) rfl rfl ?_; (try (refine rl_move (v := (Value.string _ : Value)) rfl rfl ?_; (try (refine rl_slen us9 rfl rfl ?_; (try ((refine rl_lss_f rfl rfl rfl ?_ ?_; omega); (try (refine rl_move (v := (Value.bool _ : Value)) rfl rfl ?_; (try (refine rl_off rfl ?_; (try (refine rl_off rfl ?_; (try (refine rl_off rfl ?_; (try (refine rl_off rfl ?_; (try (refine rl_off rfl ?_; (try (refine rl_off rfl ?_; (try (refine rl_off rfl ?_))))))))))))))))))))))))) | (refine region_ (id := 18) ?_; (try (refine rl_move (v := (Value.int _ _ : Value)) rfl rfl ?_; (try ((refine rl_gtr_t rfl rfl rfl ?_ ?_; omega)))))) | (refine region_ (id := 19) ?_; (try (refine rl_build [(Value.int .i64 0), (St []), (Value.int .i64 0), (Value.int .i64 0)] ag73 pl73 rfl rfl rfl ?_; (try ((refine rl_storeWM 0 hM ag73 rfl rfl rfl rfl rfl rfl rfl ?_; clear hM; intro w hM); (try (refine rl_assign (v := (Value.int _ _ : Value)) rfl rfl ?_))))))) | refine rl_off rfl ?_ | refine rl_pick (v := (Value.bool _ : Value)) rfl rfl rfl ?_))
              exact bp_x2 rfl rfl (res_M 0 hM ag73 rfl rfl rfl) (res_tmp rfl) ⟨⟨0, [], 0, 0⟩, 2, rfl, hM.dropn 1, .inr ⟨by rw [e2, if_pos (by omega)], by decide⟩⟩
      | false =>
        have e3 := e3' (by rw [hlo, hup]; rfl)
        clear e2' e3'
        (repeat (first | refine seq_ ?_ | refine sq_normal ?_ | refine rl_nil ?_ | refine cond_f rfl ?_ | refine skip_ ?_ | (refine region_ (id := 15) ?_; (try (refine rl_move (v := (Value.bool _ : Value)) rfl rfl ?_; (try (refine rl_move (v := (Value.bool _ : Value)) rfl rfl ?_; (try (refine rl_move (v := (Value.bool _ : Value)) rfl rfl ?_; (try (refine rl_pick (v := (Value.bool _ : Value)) rfl rfl rfl ?_))))))))) | (refine region_ (id := 25) ?_; (try (refine rl_move (v := (Value.string _ : Value)) rfl rfl ?_))) | refine rl_assign (v := (Value.bool _ : Value)) rfl rfl ?_))
        refine rl_callf fn79 (refsymbol_ok s w0 w _ V hM hs) rfl rfl ?_
        clear hM
        rintro _ w ⟨rfl, hM⟩
        cases hsy : symOf s with
        | some x =>
          rw [hsy] at e3
          have hxn : x ≠ [] := List.length_pos_iff.1 (syms_pos (symOf_mem hsy).1).1
          have hg : (some x).getD [] = x := rfl
          rw [hg]
          (repeat (first | refine seq_ ?_ | refine sq_normal ?_ | refine rl_nil ?_ | refine cond_f rfl ?_ | refine skip_ ?_ | refine ret_ ?_ | (refine region_ (id := 26) ?_; (try (refine rl_move (v := (Value.string _ : Value)) rfl rfl ?_; (try (refine rl_seql_f rfl rfl rfl (by first | assumption | decide) ?_))))) | (refine region_ (id := 28) ?_; (try (refine rl_move (v := (Value.string _ : Value)) rfl rfl ?_; (try (refine rl_build [_, _, (Value.int .i64 0), (Value.int .i64 0)] ag73 pl73 rfl rfl rfl ?_; (try ((refine rl_storeWM 0 hM ag73 rfl rfl rfl rfl rfl rfl rfl ?_; clear hM; intro w hM); (try (refine rl_assign (v := (Value.int _ _ : Value)) rfl rfl ?_))))))))) | refine rl_assign (v := (Value.string _ : Value)) rfl rfl ?_))
          exact bp_x2 rfl rfl (res_M 0 hM ag73 rfl rfl rfl) (res_tmp rfl) ⟨⟨4, x, 0, 0⟩, 0, rfl, hM.dropn 1, .inl ⟨e3, rfl⟩⟩
        | none =>
          rw [hsy] at e3
          have hg : (none : Option (List UInt8)).getD [] = [] := rfl
          rw [hg]
          (repeat (first | refine seq_ ?_ | refine sq_normal ?_ | refine sq_ret ?_ | refine rl_nil ?_ | refine cond_t rfl ?_ | refine ret_ ?_ | (refine region_ (id := 26) ?_; (try (refine rl_move (v := (Value.string _ : Value)) rfl rfl ?_; (try (refine rl_seql_t rfl rfl rfl (by first | rfl | assumption) ?_))))) | (refine region_ (id := 27) ?_; (try (refine rl_build [(Value.int .i64 0), (St []), (Value.int .i64 0), (Value.int .i64 0)] ag73 pl73 rfl rfl rfl ?_; (try ((refine rl_storeWM 0 hM ag73 rfl rfl rfl rfl rfl rfl rfl ?_; clear hM; intro w hM); (try (refine rl_assign (v := (Value.int _ _ : Value)) rfl rfl ?_))))))) | refine rl_assign (v := (Value.string _ : Value)) rfl rfl ?_))
          exact bp_x2 rfl rfl (res_M 0 hM ag73 rfl rfl rfl) (res_tmp rfl) ⟨⟨0, [], 0, 0⟩, 10, rfl, hM.dropn 1, .inr ⟨e3, by decide⟩⟩
end Go.Proofs.Ytadbinckjmdokaa.Trd
set_option linter.unusedVariables false
set_option linter.unusedSimpArgs false
namespace Go.Proofs.Ytadbinckjmdokaa.Trd
open Go Go.Eng Go.RowKit Go.Lx
attribute [local irreducible] RL RX KQ SQ Exit.inBlock Exit.then BP NP CallsOk IsSl IsRows IsInts IsBools Own Blk Code.wp Calls wpList
theorem own_tk61 {w0 w : World} {L : List Ent} {V : Vw} {v : Value} {l : List Tok} (hM : Mem w0 w (.own v 73 4 l.length (tkCells l) :: L) V) : ∃ V', VLe V V' ∧ Mem w0 w L V' ∧ IsTk V' v l := by
  obtain ⟨V', hV, hM', a, c, b, e1, e2, e3, e4, e5⟩ := Mem.freezeOwn hM
  subst e1
  exact ⟨V', hV, hM', isTk_of rfl e2 e3 e4 e5⟩
set_option maxHeartbeats 4000000 in
theorem reflex_ok (s : List UInt8) (w0 w : World) (L : List Ent) (V : Vw) (hM : Mem w0 w L V) (hs : s.length ≤ 1000000) :
    CallsOk Try.prog 14 #[St s] w (LexP w0 L V (lexA s)) := by
  have hml : (1000000 : Nat) ≤ maxLen := by unfold maxLen; omega
  refine enter_ (N := 56) Try.func14 rfl rfl rfl ?_
  (repeat (first | refine seq_ ?_ | refine sq_normal ?_ | refine rl_nil ?_ | (refine region_ (id := 0) ?_; (try (refine rl_assign (v := (Value.slice _ _ _ : Value)) rfl rfl ?_; (try ((refine rl_allocAM (d := 3) hM ag34 rfl ?_; clear hM; intro w b3 hM)))))) | (refine region_ (id := 1) ?_; (try (refine rl_move (v := (Value.string _ : Value)) rfl rfl ?_; (try (refine rl_slen us9 rfl rfl ?_)))))))
  by_cases hbig : s.length ≤ 4000
  · rw [lexA_le hbig]
    (repeat (first | refine seq_ ?_ | refine sq_normal ?_ | refine rl_nil ?_ | refine cond_f rfl ?_ | refine skip_ ?_ | refine block_ ?_ | (refine region_ (id := 3) ?_; (try (refine rl_assign (v := (Value.slice _ _ _ : Value)) rfl rfl ?_))) | (refine region_ (id := 4) ?_; (try (refine rl_assign (v := (Value.int _ _ : Value)) rfl rfl ?_))) | (refine rl_gtr_f rfl rfl rfl ?_ ?_; omega)))
    have hM := hM.newOwn 73 4
    refine loop2 [(2, 3), (4, 9), (13, 49)] 4 5 (fun m v4 v5 wr => ∃ (a : Option Addr) (cc : Nat) (acc : List Tok) (i : Nat), v4 = .slice a acc.length cc ∧ v5 = .int .i64 i ∧ i ≤ s.length ∧ m = s.length - i ∧ acc.length ≤ i ∧
      Mem w0 wr (.own (.slice a acc.length cc) 73 4 acc.length (tkCells acc) :: .blk b3 [Value.int .i64 0, Value.int .i64 0] 34 :: L) V ∧ lexR s 0 = pre acc (lexR (s.drop i) i)) _
      ⟨none, 0, [], 0, rfl, rfl, by omega, rfl, by simp, hM, by rw [List.drop_zero]; cases lexR s 0 <;> rfl⟩ ?_
    clear hM
    rintro m τ v4 v5 w ⟨a, cc, acc, i, rfl, rfl, hi, rfl, hai, hM, hinv⟩ K0 hL0
    by_cases hlt : i < s.length
    · obtain ⟨c, r, hd'⟩ : ∃ c r, s.drop i = c :: r := by
        cases h : s.drop i with
        | nil => have := congrArg List.length h; rw [List.length_drop] at this; simp at this; omega
        | cons c r => exact ⟨c, r, rfl⟩
      have hc : s[(i : Int).toNat]? = some c := by
        have := congrArg List.head? hd'
        rw [List.head?_drop] at this
        exact this
      have hd : s.drop (i : Int).toNat = c :: r := hd'
      have hdl : (c :: r).length = s.length - i := by rw [← hd', List.length_drop]
      rw [hd'] at hinv
      have htw := tw_le noNl (c :: r)
      (repeat (first | refine seq_ ?_ | refine sq_normal ?_ | refine rl_nil ?_ | refine cond_t rfl ?_ | refine skip_ ?_ | refine block_ ?_ | (refine region_ (id := 5) ?_; (try (refine rl_move (v := (Value.int _ _ : Value)) rfl rfl ?_; (try (refine rl_move (v := (Value.string _ : Value)) rfl rfl ?_; (try (refine rl_slen us9 rfl rfl ?_; (try ((refine rl_lss_t rfl rfl rfl ?_ ?_; omega)))))))))) | (refine region_ (id := 6) ?_; (try (refine rl_move (v := (Value.string _ : Value)) rfl rfl ?_; (try (refine rl_move (v := (Value.int _ _ : Value)) rfl rfl ?_; (try ((refine rl_sslice_l us9 rfl rfl rfl ?_ ?_ ?_; omega; omega))))))))))
      have h32 := refblank_ok c r w (by omega)
      rw [← hd] at h32
      refine rl_callf fn41 h32 rfl rfl ?_
      clear h32
      rintro _ w ⟨rfl, rfl⟩
      cases hbl : Lx.blank c with
      | true =>
        have hbn : blankN c r = 1 := by unfold blankN; rw [if_pos hbl]
        rw [hbn]
        rw [lexR_blank hbl] at hinv
        (repeat (first | refine seq_ ?_ | refine sq_normal ?_ | refine sq_exit ?_ | refine rl_nil ?_ | refine cond_t rfl ?_ | refine exit_ ?_ | refine inBlock_exit ?_ | (refine region_ (id := 7) ?_; (try (refine rl_move (v := (Value.int _ _ : Value)) rfl rfl ?_; (try ((refine rl_gtr_t rfl rfl rfl ?_ ?_; omega)))))) | (refine region_ (id := 8) ?_; (try (refine rl_move (v := (Value.int _ _ : Value)) rfl rfl ?_; (try (refine rl_move (v := (Value.int _ _ : Value)) rfl rfl ?_; (try ((refine rl_add rfl rfl rfl ?_ ?_ ?_; omega; omega); (try (refine rl_assign (v := (Value.int _ _ : Value)) rfl rfl ?_))))))))) | refine rl_assign (v := (Value.int _ _ : Value)) rfl rfl ?_))
        refine kq_normal (hL0 (s.length - (i + 1)) _ _ (by omega) (by (repeat (first | with_reducible exact Agree.ov | with_reducible exact Agree.refl _ _ | refine Agree.upd rfl ?_ | refine Agree.ovs rfl ?_))) ⟨a, cc, acc, i + 1, rfl, rfl, by omega, rfl, by omega, hM, ?_⟩)
        rw [hinv, ← List.drop_drop, hd']
        rfl
      | false =>
        cases hrm : isPre (c :: r) [45, 45] with
        | true =>
          have hpos := remark_pos hrm
          have hbn : blankN c r = ((c :: r).takeWhile noNl).length := by unfold blankN; rw [hbl, hrm]; rfl
          rw [hbn]
          rw [lexR_remark hbl hrm] at hinv
          (repeat (first | refine seq_ ?_ | refine sq_normal ?_ | refine sq_exit ?_ | refine rl_nil ?_ | refine cond_t rfl ?_ | refine exit_ ?_ | refine inBlock_exit ?_ | (refine region_ (id := 7) ?_; (try (refine rl_move (v := (Value.int _ _ : Value)) rfl rfl ?_; (try ((refine rl_gtr_t rfl rfl rfl ?_ ?_; omega)))))) | (refine region_ (id := 8) ?_; (try (refine rl_move (v := (Value.int _ _ : Value)) rfl rfl ?_; (try (refine rl_move (v := (Value.int _ _ : Value)) rfl rfl ?_; (try ((refine rl_add rfl rfl rfl ?_ ?_ ?_; omega; omega); (try (refine rl_assign (v := (Value.int _ _ : Value)) rfl rfl ?_))))))))) | refine rl_assign (v := (Value.int _ _ : Value)) rfl rfl ?_))
          refine kq_normal (hL0 (s.length - (i + ((c :: r).takeWhile noNl).length)) _ _ (by omega) (by (repeat (first | with_reducible exact Agree.ov | with_reducible exact Agree.refl _ _ | refine Agree.upd rfl ?_ | refine Agree.ovs rfl ?_))) ⟨a, cc, acc, i + ((c :: r).takeWhile noNl).length, rfl, rfl, by omega, rfl, by omega, hM, ?_⟩)
          rw [hinv, ← List.drop_drop, hd']
        | false =>
          have hbn : blankN c r = 0 := by unfold blankN; rw [hbl, hrm]; rfl
          rw [hbn]
          (repeat (first | refine seq_ ?_ | refine sq_normal ?_ | refine rl_nil ?_ | refine cond_f rfl ?_ | refine skip_ ?_ | (refine region_ (id := 7) ?_; (try (refine rl_move (v := (Value.int _ _ : Value)) rfl rfl ?_; (try ((refine rl_gtr_f rfl rfl rfl ?_ ?_; omega)))))) | (refine region_ (id := 9) ?_; (try (refine rl_move (v := (Value.string _ : Value)) rfl rfl ?_; (try (refine rl_move (v := (Value.int _ _ : Value)) rfl rfl ?_; (try ((refine rl_sslice_l us9 rfl rfl rfl ?_ ?_ ?_; omega; omega)))))))) | refine rl_assign (v := (Value.int _ _ : Value)) rfl rfl ?_))
          have h1 := refone_ok c r w0 w _ V hM (by omega)
          rw [← hd] at h1
          refine rl_callf fn42 h1 rfl rfl ?_
          clear hM h1
          rintro rv w ⟨⟨tk, ts, tn, ta⟩, e, hr, hM, ho⟩
          have hr : rv = .tuple #[.agg [Value.int .i64 tk, St ts, Value.int .i64 tn, Value.int .i64 ta].toArray, .int .i64 e] := hr
          subst hr
          rw [hd] at ho
          rcases ho with ⟨ho, rfl⟩ | ⟨ho, hne⟩
          · have hol := one_len ho
            simp only at hol
            rw [lexR_tok hbl hrm ho] at hinv
            simp only at hinv
            (repeat (first | refine seq_ ?_ | refine sq_normal ?_ | refine rl_nil ?_ | refine cond_f rfl ?_ | refine skip_ ?_ | (refine region_ (id := 10) ?_; (try (refine rl_move (v := (Value.int _ _ : Value)) rfl rfl ?_; (try ((refine rl_neq_f rfl rfl rfl ?_ ?_; omega)))))) | (refine region_ (id := 12) ?_; (try (refine rl_move (v := (Value.int _ _ : Value)) rfl rfl ?_; (try (refine rl_fld fd73_3 rfl rfl ?_; (try ((refine rl_storeM 0 hM vt3 rfl rfl rfl rfl rfl (by first | (simp; done) | (simp; omega) | omega) ?_; clear hM; intro w hM)))))))) | (refine region_ (id := 13) ?_; (try (refine rl_move (v := (Value.slice _ _ _ : Value)) rfl rfl ?_; (try (refine rl_loadAM (vs := [_, _, _, _]) 0 hM ag73 rfl rfl rfl rfl rfl ?_; (try ((refine rl_bsliceM (d := 42) [_] hM sl47 rfl rfl rfl rfl rfl (by decide) (by decide) ?_; clear hM; intro w b42 hM)))))))) | refine rl_assign (v := (Value.int _ _ : Value)) rfl rfl ?_ | refine rl_move (v := (Value.tuple _ : Value)) rfl rfl ?_ | refine rl_extract rfl rfl rfl ?_ | (refine rl_allocAM (d := 7) hM ag73 rfl ?_; clear hM; intro w b7 hM) | (refine rl_storeWM 0 hM ag73 rfl rfl rfl rfl rfl rfl rfl ?_; clear hM; intro w hM)))
            refine rl_appendM 2 (news := [Value.int .i64 tk, St ts, Value.int .i64 tn, Value.int .i64 i]) (B := b42) (off := 0) hM sl47 rfl (by decide) rfl (hM.row (i := 0) rfl) rfl rfl rfl (fun _ => rfl) rfl ?_ ?_ ?_ ?_
            · intro u hu
              simp only [List.mem_cons, List.not_mem_nil, or_false] at hu
              rcases hu with rfl | rfl | rfl | rfl <;> rfl
            · omega
            · omega
            clear hM
            intro w a' c' _ _ hM
            (repeat (first | refine sq_normal ?_ | refine rl_nil ?_ | refine inBlock_normal ?_ | (refine region_ (id := 14) ?_; (try (refine rl_move (v := (Value.int _ _ : Value)) rfl rfl ?_; (try (refine rl_fld fd73_1 rfl rfl ?_; (try (refine rl_loadM 1 hM vt9 rfl rfl rfl (by first | rfl | assumption) ?_; (try (refine rl_slen us9 rfl rfl ?_; (try ((refine rl_add rfl rfl rfl ?_ ?_ ?_; omega; omega); (try (refine rl_assign (v := (Value.int _ _ : Value)) rfl rfl ?_))))))))))))) | refine rl_assign (v := (Value.slice _ _ _ : Value)) rfl rfl ?_))
            have hM2 := hM.dropn 2
            have hal : (acc ++ [(⟨tk, ts, tn, i⟩ : Tok)]).length = acc.length + 1 := by simp
            refine kq_normal (hL0 (s.length - (i + ts.length)) _ _ (by omega) (by (repeat (first | with_reducible exact Agree.ov | with_reducible exact Agree.refl _ _ | refine Agree.upd rfl ?_ | refine Agree.ovs rfl ?_))) ⟨a', c', acc ++ [⟨tk, ts, tn, i⟩], i + ts.length, by rw [hal]; rfl, rfl, by omega, rfl, by omega, ?_, ?_⟩)
            · rw [hal, tkCells_snoc]
              exact hM2
            · rw [hinv, pre_pre, ← List.drop_drop, hd']
          · rw [lexR_err hbl hrm ho] at hinv
            (repeat (first | refine seq_ ?_ | refine sq_normal ?_ | refine sq_ret ?_ | refine rl_nil ?_ | refine cond_t rfl ?_ | refine ret_ ?_ | refine inBlock_ret ?_ | refine kq_ret ?_ | (refine region_ (id := 10) ?_; (try (refine rl_move (v := (Value.int _ _ : Value)) rfl rfl ?_; (try ((refine rl_neq_t rfl rfl rfl ?_ ?_; omega)))))) | (refine region_ (id := 11) ?_; (try (refine rl_move (v := (Value.int _ _ : Value)) rfl rfl ?_; (try (refine rl_move (v := (Value.int _ _ : Value)) rfl rfl ?_; (try (refine rl_build [_, _] ag34 pl34 rfl rfl rfl ?_; (try (refine rl_assign (v := (Value.slice _ _ _ : Value)) rfl rfl ?_; (try ((refine rl_storeWM 2 hM ag34 rfl rfl rfl rfl rfl rfl rfl ?_; clear hM; intro w hM)))))))))))) | refine rl_assign (v := (Value.int _ _ : Value)) rfl rfl ?_ | refine rl_move (v := (Value.tuple _ : Value)) rfl rfl ?_ | refine rl_extract rfl rfl rfl ?_ | (refine rl_allocAM (d := 7) hM ag73 rfl ?_; clear hM; intro w b7 hM) | (refine rl_storeWM 0 hM ag73 rfl rfl rfl rfl rfl rfl rfl ?_; clear hM; intro w hM)))
            exact bp_x2 rfl rfl (res_tmp rfl) (res_M 2 hM ag34 rfl rfl rfl) ⟨V, _, [], e, i, VLe.refl _, hM.dropn 3, rfl, IsTk.nil _, .inr ⟨rfl, hne, i, by rw [hinv]; rfl, rfl⟩⟩
    · have hie : i = s.length := by omega
      subst hie
      rw [List.drop_length, lexR_nil] at hinv
      (repeat (first | refine seq_ ?_ | refine sq_normal ?_ | refine sq_exit ?_ | refine rl_nil ?_ | refine cond_f rfl ?_ | refine exit_ ?_ | refine inBlock_exit ?_ | refine kq_exit ?_ | (refine region_ (id := 5) ?_; (try (refine rl_move (v := (Value.int _ _ : Value)) rfl rfl ?_; (try (refine rl_move (v := (Value.string _ : Value)) rfl rfl ?_; (try (refine rl_slen us9 rfl rfl ?_; (try ((refine rl_lss_f rfl rfl rfl ?_ ?_; omega)))))))))) | (refine region_ (id := 15) ?_; (try (refine rl_move (v := (Value.slice _ _ _ : Value)) rfl rfl ?_; (try (refine rl_move (v := (Value.string _ : Value)) rfl rfl ?_; (try (refine rl_slen us9 rfl rfl ?_; (try (refine rl_build [_, (St []), (Value.int .i64 0), _] ag73 pl73 rfl rfl rfl ?_; (try ((refine rl_bsliceM (d := 53) [_] hM sl47 rfl rfl rfl rfl rfl (by decide) (by decide) ?_; clear hM; intro w b53 hM))))))))))))))
      refine rl_appendM 1 (news := [Value.int .i64 6, St [], Value.int .i64 0, Value.int .i64 s.length]) (B := b53) (off := 0) hM sl47 rfl (by decide) rfl (hM.row (i := 0) rfl) rfl rfl rfl (fun _ => rfl) rfl ?_ ?_ ?_ ?_
      · intro u hu
        simp only [List.mem_cons, List.not_mem_nil, or_false] at hu
        rcases hu with rfl | rfl | rfl | rfl <;> rfl
      · omega
      · omega
      clear hM
      intro w a' c' _ _ hM
      (repeat (first | refine sq_normal ?_ | refine rl_nil ?_ | refine ret_ ?_ | refine rl_assign (v := (Value.slice _ _ _ : Value)) rfl rfl ?_ | refine rl_build [_, (Value.int .i64 0)] ag34 pl34 rfl rfl rfl ?_ | (refine rl_storeWM 2 hM ag34 rfl rfl rfl rfl rfl rfl rfl ?_; clear hM; intro w hM)))
      have hal : (acc ++ [(⟨6, [], 0, s.length⟩ : Tok)]).length = acc.length + 1 := by simp
      obtain ⟨V', hV, hM', htk⟩ := own_tk61 (l := acc ++ [⟨6, [], 0, s.length⟩]) (v := .slice a' (acc.length + 1) c') (by rw [hal, tkCells_snoc]; exact hM.front 1 rfl)
      exact bp_x2 rfl rfl (res_tmp rfl) (res_M 2 hM ag34 rfl rfl rfl) ⟨V', _, _, 0, 0, hV, hM'.dropn 2, rfl, htk, .inl ⟨by rw [hinv]; rfl, rfl, rfl⟩⟩
  · have hA : lexA s = .error (2, 0) := by unfold lexA; rw [if_neg hbig]
    rw [hA]
    (repeat (first | refine seq_ ?_ | refine sq_normal ?_ | refine sq_ret ?_ | refine rl_nil ?_ | refine cond_t rfl ?_ | refine ret_ ?_ | (refine region_ (id := 2) ?_; (try (refine rl_build [_, (Value.int .i64 0)] ag34 pl34 rfl rfl rfl ?_; (try (refine rl_assign (v := (Value.slice _ _ _ : Value)) rfl rfl ?_; (try ((refine rl_storeWM 0 hM ag34 rfl rfl rfl rfl rfl rfl rfl ?_; clear hM; intro w hM)))))))) | (refine rl_gtr_t rfl rfl rfl ?_ ?_; omega)))
    exact bp_x2 rfl rfl (res_tmp rfl) (res_M 0 hM ag34 rfl rfl rfl) ⟨V, _, [], 2, 0, VLe.refl _, hM.dropn 1, rfl, IsTk.nil _, .inr ⟨rfl, by decide, 0, rfl, rfl⟩⟩
end Go.Proofs.Ytadbinckjmdokaa.Trd
