/- The walk of lex.Lex. -/
import Derived.Test.YtlalagkkmoifpaaLexW5
set_option linter.unusedVariables false
set_option linter.unusedSimpArgs false
namespace Go.Proofs.Ytlalagkkmoifpaa.Lex
open Go Go.Eng Go.RowKit Go.Lx
attribute [local irreducible] RL RX KQ SQ Exit.inBlock Exit.then BP NP CallsOk IsSl IsRows IsInts IsBools Own Blk Code.wp Calls wpList
/-- What a lexing tells, in memory. -/
def LexP (w0 : World) (L : List Ent) (V : Vw) (x : Except (Int × Nat) (List Tok)) (r : Value) (w' : World) : Prop :=
  ∃ V' v l e a, VLe V V' ∧ Mem w0 w' L V' ∧ r = .tuple #[v, .agg #[.int .i64 e, .int .i64 a]] ∧ IsTk V' v l ∧ ((x = .ok l ∧ e = 0 ∧ a = 0) ∨ (l = [] ∧ e ≠ 0 ∧ ∃ n : Nat, x = .error (e, n) ∧ a = n))
theorem remark_pos {c : UInt8} {r : List UInt8} (h : isPre (c :: r) [45, 45] = true) : 0 < ((c :: r).takeWhile noNl).length := by
  have : c = 45 := by
    simp only [isPre, decide_eq_true_eq] at h
    have := congrArg List.head? h
    simpa using this
  subst this
  rw [List.takeWhile_cons, if_pos (by decide)]
  simp
theorem lexA_le {s : List UInt8} (h : s.length ≤ 4000) : lexA s = lexR s 0 := by unfold lexA; rw [if_pos h]; rfl
theorem own_tk {w0 w : World} {L : List Ent} {V : Vw} {v : Value} {l : List Tok} (hM : Mem w0 w (.own v 40 4 l.length (tkCells l) :: L) V) : ∃ V', VLe V V' ∧ Mem w0 w L V' ∧ IsTk V' v l := by
  obtain ⟨V', hV, hM', a, c, b, e1, e2, e3, e4, e5⟩ := Mem.freezeOwn hM
  subst e1
  exact ⟨V', hV, hM', isTk_of rfl e2 e3 e4 e5⟩
set_option maxHeartbeats 4000000 in
theorem lex_ok (s : List UInt8) (w0 w : World) (L : List Ent) (V : Vw) (hM : Mem w0 w L V) (hs : s.length ≤ 1000000) :
    CallsOk Try.prog 12 #[St s] w (LexP w0 L V (lexA s)) := by
  have hml : (1000000 : Nat) ≤ maxLen := by unfold maxLen; omega
  refine enter_ (N := 65) Try.func12 rfl rfl rfl ?_
  (repeat (first | refine seq_ ?_ | refine sq_normal ?_ | refine rl_nil ?_ | (refine region_ (id := 0) ?_; (try (refine rl_assign (v := (Value.slice _ _ _ : Value)) rfl rfl ?_; (try ((refine rl_allocAM (d := 3) hM ag30 rfl ?_; clear hM; intro w b3 hM))))))))
  refine scope_ 0 (fun _ _ _ => False) rfl (fun _ _ _ h => h.elim) (fun K _ => ?_)
  by_cases hbig : s.length ≤ 4000
  · rw [lexA_le hbig]
    (repeat (first | refine seq_ ?_ | refine sq_normal ?_ | refine rl_nil ?_ | refine cond_f rfl ?_ | refine skip_ ?_ | refine block_ ?_ | refine label_ ?_ | (refine region_ (id := 1) ?_; (try (refine rl_move (v := (Value.string _ : Value)) rfl rfl ?_; (try (refine rl_slen us9 rfl rfl ?_; (try ((first | (refine rl_gtr_t rfl rfl rfl ?_ ?_; omega) | (refine rl_gtr_f rfl rfl rfl ?_ ?_; omega))))))))) | (refine region_ (id := 3) ?_; (try (refine rl_assign (v := (Value.slice _ _ _ : Value)) rfl rfl ?_))) | (refine region_ (id := 4) ?_; (try (refine rl_assign (v := (Value.int _ _ : Value)) rfl rfl ?_)))))
    have hM := hM.newOwn 40 4
    refine loop2 [(2, 3), (4, 9), (13, 58)] 4 5 (fun m v4 v5 wr => ∃ (a : Option Addr) (cc : Nat) (acc : List Tok) (i : Nat), v4 = .slice a acc.length cc ∧ v5 = .int .i64 i ∧ i ≤ s.length ∧ m = s.length - i ∧ acc.length ≤ i ∧
      Mem w0 wr (.own (.slice a acc.length cc) 40 4 acc.length (tkCells acc) :: .blk b3 [Value.int .i64 0, Value.int .i64 0] 30 :: L) V ∧ lexR s 0 = pre acc (lexR (s.drop i) i)) _
      ⟨none, 0, [], 0, rfl, rfl, by omega, rfl, by simp, hM, by rw [List.drop_zero]; cases lexR s 0 <;> rfl⟩ ?_
    clear hM
    rintro m τ v4 v5 w ⟨a, cc, acc, i, rfl, rfl, hi, rfl, hai, hM, hinv⟩ K0 hL0
    by_cases hlt : i < s.length
    · obtain ⟨c, r, hd'⟩ : ∃ c r, s.drop i = c :: r := by
        cases h : s.drop i with
        | nil => have := congrArg List.length h; rw [List.length_drop] at this; simp at this; omega
        | cons c r => exact ⟨c, r, rfl⟩
      have hc : s[(i : Int).toNat]? = some c := by
        have := congrArg List.head? hd'
        rw [List.head?_drop] at this
        exact this
      have hd : s.drop (i : Int).toNat = c :: r := hd'
      have hdl : (c :: r).length = s.length - i := by rw [← hd', List.length_drop]
      rw [hd'] at hinv
      have htw := tw_le noNl (c :: r)
      (repeat (first | refine seq_ ?_ | refine sq_normal ?_ | refine rl_nil ?_ | refine cond_t rfl ?_ | refine skip_ ?_ | refine block_ ?_ | (refine region_ (id := 5) ?_; (try (refine rl_move (v := (Value.int _ _ : Value)) rfl rfl ?_; (try (refine rl_move (v := (Value.string _ : Value)) rfl rfl ?_; (try (refine rl_slen us9 rfl rfl ?_; (try ((first | (refine rl_lss_t rfl rfl rfl ?_ ?_; omega) | (refine rl_lss_f rfl rfl rfl ?_ ?_; omega))))))))))) | (refine region_ (id := 6) ?_; (try (refine rl_move (v := (Value.string _ : Value)) rfl rfl ?_; (try (refine rl_move (v := (Value.int _ _ : Value)) rfl rfl ?_; (try ((refine rl_sslice_l us9 rfl rfl rfl ?_ ?_ ?_; omega; omega); (try (refine rl_assign (v := (Value.string _ : Value)) rfl rfl ?_))))))))) | (refine region_ (id := 7) ?_; (try (refine rl_move (v := (Value.string _ : Value)) rfl rfl ?_; (try (refine rl_move (v := (Value.int _ _ : Value)) rfl rfl ?_; (try (refine rl_sindex us9 rfl rfl rfl (by omega) (by assumption) ?_)))))))))
      refine rl_callf fn27 (index27_ok [32, 9, 10] c w) rfl rfl ?_
      rintro _ w ⟨rfl, rfl⟩
      rcases firstIdx_nn [32, 9, 10] c with ⟨h1, h2⟩ | ⟨h1, h2, h3⟩
      · rw [h1]
        have hbl : Lx.blank c = false := decide_eq_false h2
        (repeat (first | refine seq_ ?_ | refine sq_normal ?_ | refine rl_nil ?_ | refine cond_f rfl ?_ | (refine region_ (id := 9) ?_; (try (refine rl_move (v := (Value.string _ : Value)) rfl rfl ?_))) | (first | (refine rl_geq_t rfl rfl rfl ?_ ?_; omega) | (refine rl_geq_f rfl rfl rfl ?_ ?_; omega)) | refine rl_assign (v := (Value.bool _ : Value)) rfl rfl ?_))
        have hp28 := hasPrefix_ok (s.drop (i : Int).toNat) [45, 45] w (by rw [hd]; omega) (by decide)
        refine rl_callf fn28 hp28 rfl rfl ?_
        rintro _ w ⟨rfl, rfl⟩
        rw [hd]
        cases hrm : isPre (c :: r) [45, 45] with
        | true =>
          have hpos := remark_pos hrm
          rw [lexR_remark hbl hrm] at hinv
          (repeat (first | refine seq_ ?_ | refine sq_normal ?_ | refine rl_nil ?_ | refine cond_t rfl ?_ | (refine region_ (id := 10) ?_; (try (refine rl_move (v := (Value.int _ _ : Value)) rfl rfl ?_; (try (refine rl_move (v := (Value.string _ : Value)) rfl rfl ?_))))) | refine rl_assign (v := (Value.bool _ : Value)) rfl rfl ?_))
          refine rl_callf fn29 (while_ok 30 noNl isNoNl_ok fn30 (c :: r) w0 w _ V hM (by omega)) rfl rfl ?_
          clear hM
          rintro _ w ⟨rfl, hM⟩
          (repeat (first | refine sq_normal ?_ | refine sq_exit ?_ | refine rl_nil ?_ | refine exit_ ?_ | refine inBlock_exit ?_ | refine inBlock_exit_ne rfl ?_ | refine rl_assign (v := (Value.int _ _ : Value)) rfl rfl ?_ | (refine rl_add rfl rfl rfl ?_ ?_ ?_; omega; omega)))
          refine kq_normal (hL0 (s.length - (i + ((c :: r).takeWhile noNl).length)) _ _ (by omega) (by (repeat (first | with_reducible exact Agree.ov | with_reducible exact Agree.refl _ _ | refine Agree.upd rfl ?_ | refine Agree.ovs rfl ?_))) ⟨a, cc, acc, i + ((c :: r).takeWhile noNl).length, rfl, rfl, by omega, rfl, by omega, hM, ?_⟩)
          rw [hinv, ← List.drop_drop, hd']
        | false =>
          (repeat (first | refine seq_ ?_ | refine sq_normal ?_ | refine rl_nil ?_ | refine cond_f rfl ?_ | refine skip_ ?_ | refine inBlock_normal ?_ | (refine region_ (id := 11) ?_; (try (refine rl_move (v := (Value.string _ : Value)) rfl rfl ?_; (try (refine rl_move (v := (Value.int _ _ : Value)) rfl rfl ?_; (try ((refine rl_sslice_l us9 rfl rfl rfl ?_ ?_ ?_; omega; omega)))))))) | refine rl_assign (v := (Value.bool _ : Value)) rfl rfl ?_))
          have h1 := one_ok c r w0 w _ V hM (by omega)
          rw [← hd] at h1
          refine rl_callf fn31 h1 rfl rfl ?_
          clear hM h1
          rintro rv w ⟨⟨tk, ts, tn, ta⟩, e, hr, hM, ho⟩
          have hr : rv = .tuple #[.agg [Value.int .i64 tk, St ts, Value.int .i64 tn, Value.int .i64 ta].toArray, .int .i64 e] := hr
          subst hr
          rw [hd] at ho
          rcases ho with ⟨ho, rfl⟩ | ⟨ho, hne⟩
          · have hol := one_len ho
            simp only at hol
            rw [lexR_tok hbl hrm ho] at hinv
            simp only at hinv
            (repeat (first | refine seq_ ?_ | refine sq_normal ?_ | refine rl_nil ?_ | refine cond_f rfl ?_ | refine skip_ ?_ | (refine region_ (id := 12) ?_; (try (refine rl_move (v := (Value.int _ _ : Value)) rfl rfl ?_; (try ((first | (refine rl_neq_t rfl rfl rfl ?_ ?_; omega) | (refine rl_neq_f rfl rfl rfl ?_ ?_; omega))))))) | (refine region_ (id := 14) ?_; (try (refine rl_move (v := (Value.int _ _ : Value)) rfl rfl ?_; (try (refine rl_fld fd40_3 rfl rfl ?_; (try ((first | (refine rl_storeM 0 hM vt3 rfl rfl rfl rfl rfl (by first | (simp; done) | (simp; omega) | omega) ?_; clear hM; intro w hM) | (refine rl_storeM 1 hM vt3 rfl rfl rfl rfl rfl (by first | (simp; done) | (simp; omega) | omega) ?_; clear hM; intro w hM) | (refine rl_storeM 2 hM vt3 rfl rfl rfl rfl rfl (by first | (simp; done) | (simp; omega) | omega) ?_; clear hM; intro w hM) | (refine rl_storeM 3 hM vt3 rfl rfl rfl rfl rfl (by first | (simp; done) | (simp; omega) | omega) ?_; clear hM; intro w hM) | (refine rl_storeM 4 hM vt3 rfl rfl rfl rfl rfl (by first | (simp; done) | (simp; omega) | omega) ?_; clear hM; intro w hM) | (refine rl_storeM 5 hM vt3 rfl rfl rfl rfl rfl (by first | (simp; done) | (simp; omega) | omega) ?_; clear hM; intro w hM) | (refine rl_storeM 6 hM vt3 rfl rfl rfl rfl rfl (by first | (simp; done) | (simp; omega) | omega) ?_; clear hM; intro w hM) | (refine rl_storeM 7 hM vt3 rfl rfl rfl rfl rfl (by first | (simp; done) | (simp; omega) | omega) ?_; clear hM; intro w hM))))))))) | (refine region_ (id := 15) ?_; (try (refine rl_move (v := (Value.slice _ _ _ : Value)) rfl rfl ?_; (try ((first | refine rl_loadAV hM ag40 rfl rfl (by assumption) (by rfl) ?_ | refine rl_loadAM (vs := [_, _, _, _]) 0 hM ag40 rfl rfl rfl rfl rfl ?_ | refine rl_loadAM (vs := [_, _, _, _]) 1 hM ag40 rfl rfl rfl rfl rfl ?_ | refine rl_loadAM (vs := [_, _, _, _]) 2 hM ag40 rfl rfl rfl rfl rfl ?_ | refine rl_loadAM (vs := [_, _, _, _]) 3 hM ag40 rfl rfl rfl rfl rfl ?_ | refine rl_loadAM (vs := [_, _, _, _]) 4 hM ag40 rfl rfl rfl rfl rfl ?_ | refine rl_loadAM (vs := [_, _, _, _]) 5 hM ag40 rfl rfl rfl rfl rfl ?_ | refine rl_loadAM (vs := [_, _, _, _]) 6 hM ag40 rfl rfl rfl rfl rfl ?_ | refine rl_loadAM (vs := [_, _, _, _]) 7 hM ag40 rfl rfl rfl rfl rfl ?_); (try ((refine rl_bsliceM (d := 51) [_] hM sl27 rfl rfl rfl rfl rfl (by decide) (by decide) ?_; clear hM; intro w b51 hM)))))))) | refine rl_assign (v := (Value.int _ _ : Value)) rfl rfl ?_ | refine rl_move (v := (Value.tuple _ : Value)) rfl rfl ?_ | refine rl_extract rfl rfl rfl ?_ | (refine rl_allocAM (d := 7) hM ag40 rfl ?_; clear hM; intro w b7 hM) | (first | (refine rl_storeWM 0 hM ag40 rfl rfl rfl rfl rfl rfl rfl ?_; clear hM; intro w hM) | (refine rl_storeWM 1 hM ag40 rfl rfl rfl rfl rfl rfl rfl ?_; clear hM; intro w hM) | (refine rl_storeWM 2 hM ag40 rfl rfl rfl rfl rfl rfl rfl ?_; clear hM; intro w hM) | (refine rl_storeWM 3 hM ag40 rfl rfl rfl rfl rfl rfl rfl ?_; clear hM; intro w hM) | (refine rl_storeWM 4 hM ag40 rfl rfl rfl rfl rfl rfl rfl ?_; clear hM; intro w hM) | (refine rl_storeWM 5 hM ag40 rfl rfl rfl rfl rfl rfl rfl ?_; clear hM; intro w hM) | (refine rl_storeWM 6 hM ag40 rfl rfl rfl rfl rfl rfl rfl ?_; clear hM; intro w hM) | (refine rl_storeWM 7 hM ag40 rfl rfl rfl rfl rfl rfl rfl ?_; clear hM; intro w hM))))
            refine rl_appendM 2 (news := [Value.int .i64 tk, St ts, Value.int .i64 tn, Value.int .i64 i]) (B := b51) (off := 0) hM sl27 rfl (by decide) rfl (hM.row (i := 0) rfl) rfl rfl rfl (fun _ => rfl) rfl ?_ ?_ ?_ ?_
            · intro u hu
              simp only [List.mem_cons, List.not_mem_nil, or_false] at hu
              rcases hu with rfl | rfl | rfl | rfl <;> rfl
            · omega
            · omega
            clear hM
            intro w a' c' _ _ hM
            (repeat (first | refine sq_normal ?_ | refine rl_nil ?_ | refine inBlock_normal ?_ | (refine region_ (id := 16) ?_; (try (refine rl_move (v := (Value.int _ _ : Value)) rfl rfl ?_; (try (refine rl_fld fd40_1 rfl rfl ?_; (try ((first | refine rl_loadV hM vt9 rfl rfl (by first | assumption | exact VRow.get (by assumption) rfl | exact VRow.get0 (by assumption) rfl) ?_ | refine rl_loadM 0 hM vt9 rfl rfl rfl (by first | rfl | assumption) ?_ | refine rl_loadM 1 hM vt9 rfl rfl rfl (by first | rfl | assumption) ?_ | refine rl_loadM 2 hM vt9 rfl rfl rfl (by first | rfl | assumption) ?_ | refine rl_loadM 3 hM vt9 rfl rfl rfl (by first | rfl | assumption) ?_ | refine rl_loadM 4 hM vt9 rfl rfl rfl (by first | rfl | assumption) ?_ | refine rl_loadM 5 hM vt9 rfl rfl rfl (by first | rfl | assumption) ?_ | refine rl_loadM 6 hM vt9 rfl rfl rfl (by first | rfl | assumption) ?_ | refine rl_loadM 7 hM vt9 rfl rfl rfl (by first | rfl | assumption) ?_); (try (refine rl_slen us9 rfl rfl ?_; (try ((refine rl_add rfl rfl rfl ?_ ?_ ?_; omega; omega); (try (refine rl_assign (v := (Value.int _ _ : Value)) rfl rfl ?_))))))))))))) | refine rl_assign (v := (Value.slice _ _ _ : Value)) rfl rfl ?_))
            have hM2 := hM.dropn 2
            have hal : (acc ++ [(⟨tk, ts, tn, i⟩ : Tok)]).length = acc.length + 1 := by simp
            refine kq_normal (hL0 (s.length - (i + ts.length)) _ _ (by omega) (by (repeat (first | with_reducible exact Agree.ov | with_reducible exact Agree.refl _ _ | refine Agree.upd rfl ?_ | refine Agree.ovs rfl ?_))) ⟨a', c', acc ++ [⟨tk, ts, tn, i⟩], i + ts.length, by rw [hal]; rfl, rfl, by omega, rfl, by omega, ?_, ?_⟩)
            · rw [hal, tkCells_snoc]
              exact hM2
            · rw [hinv, pre_pre, ← List.drop_drop, hd']
          · rw [lexR_err hbl hrm ho] at hinv
            (repeat (first | refine seq_ ?_ | refine sq_normal ?_ | refine sq_ret ?_ | refine rl_nil ?_ | refine cond_t rfl ?_ | refine ret_ ?_ | refine inBlock_ret ?_ | refine kq_ret ?_ | refine gq_ret ?_ | (refine region_ (id := 12) ?_; (try (refine rl_move (v := (Value.int _ _ : Value)) rfl rfl ?_; (try ((first | (refine rl_neq_t rfl rfl rfl ?_ ?_; omega) | (refine rl_neq_f rfl rfl rfl ?_ ?_; omega))))))) | (refine region_ (id := 13) ?_; (try (refine rl_move (v := (Value.int _ _ : Value)) rfl rfl ?_; (try (refine rl_move (v := (Value.int _ _ : Value)) rfl rfl ?_; (try (refine rl_build [_, _] ag30 pl30 rfl rfl rfl ?_; (try (refine rl_assign (v := (Value.slice _ _ _ : Value)) rfl rfl ?_; (try ((first | (refine rl_storeWM 0 hM ag30 rfl rfl rfl rfl rfl rfl rfl ?_; clear hM; intro w hM) | (refine rl_storeWM 1 hM ag30 rfl rfl rfl rfl rfl rfl rfl ?_; clear hM; intro w hM) | (refine rl_storeWM 2 hM ag30 rfl rfl rfl rfl rfl rfl rfl ?_; clear hM; intro w hM) | (refine rl_storeWM 3 hM ag30 rfl rfl rfl rfl rfl rfl rfl ?_; clear hM; intro w hM) | (refine rl_storeWM 4 hM ag30 rfl rfl rfl rfl rfl rfl rfl ?_; clear hM; intro w hM) | (refine rl_storeWM 5 hM ag30 rfl rfl rfl rfl rfl rfl rfl ?_; clear hM; intro w hM) | (refine rl_storeWM 6 hM ag30 rfl rfl rfl rfl rfl rfl rfl ?_; clear hM; intro w hM) | (refine rl_storeWM 7 hM ag30 rfl rfl rfl rfl rfl rfl rfl ?_; clear hM; intro w hM))))))))))))) | refine rl_assign (v := (Value.int _ _ : Value)) rfl rfl ?_ | refine rl_move (v := (Value.tuple _ : Value)) rfl rfl ?_ | refine rl_extract rfl rfl rfl ?_ | (refine rl_allocAM (d := 7) hM ag40 rfl ?_; clear hM; intro w b7 hM) | (first | (refine rl_storeWM 0 hM ag40 rfl rfl rfl rfl rfl rfl rfl ?_; clear hM; intro w hM) | (refine rl_storeWM 1 hM ag40 rfl rfl rfl rfl rfl rfl rfl ?_; clear hM; intro w hM) | (refine rl_storeWM 2 hM ag40 rfl rfl rfl rfl rfl rfl rfl ?_; clear hM; intro w hM) | (refine rl_storeWM 3 hM ag40 rfl rfl rfl rfl rfl rfl rfl ?_; clear hM; intro w hM) | (refine rl_storeWM 4 hM ag40 rfl rfl rfl rfl rfl rfl rfl ?_; clear hM; intro w hM) | (refine rl_storeWM 5 hM ag40 rfl rfl rfl rfl rfl rfl rfl ?_; clear hM; intro w hM) | (refine rl_storeWM 6 hM ag40 rfl rfl rfl rfl rfl rfl rfl ?_; clear hM; intro w hM) | (refine rl_storeWM 7 hM ag40 rfl rfl rfl rfl rfl rfl rfl ?_; clear hM; intro w hM))))
            exact bp_x2 rfl rfl (res_tmp rfl) (res_M 2 hM ag30 rfl rfl rfl) ⟨V, _, [], e, i, VLe.refl _, hM.dropn 3, rfl, IsTk.nil _, .inr ⟨rfl, hne, i, by rw [hinv]; rfl, rfl⟩⟩
      · have hbl : Lx.blank c = true := decide_eq_true h3
        rw [lexR_blank hbl] at hinv
        (repeat (first | refine seq_ ?_ | refine sq_normal ?_ | refine sq_exit ?_ | refine rl_nil ?_ | refine cond_t rfl ?_ | refine exit_ ?_ | refine inBlock_exit ?_ | refine inBlock_exit_ne rfl ?_ | (refine region_ (id := 8) ?_; (try (refine rl_move (v := (Value.int _ _ : Value)) rfl rfl ?_; (try ((refine rl_add rfl rfl rfl ?_ ?_ ?_; omega; omega); (try (refine rl_assign (v := (Value.int _ _ : Value)) rfl rfl ?_))))))) | (first | (refine rl_geq_t rfl rfl rfl ?_ ?_; omega) | (refine rl_geq_f rfl rfl rfl ?_ ?_; omega)) | refine rl_assign (v := (Value.bool _ : Value)) rfl rfl ?_))
        refine kq_normal (hL0 (s.length - (i + 1)) _ _ (by omega) (by (repeat (first | with_reducible exact Agree.ov | with_reducible exact Agree.refl _ _ | refine Agree.upd rfl ?_ | refine Agree.ovs rfl ?_))) ⟨a, cc, acc, i + 1, rfl, rfl, by omega, rfl, by omega, hM, ?_⟩)
        rw [hinv, ← List.drop_drop, hd']
        rfl
    · have hie : i = s.length := by omega
      subst hie
      rw [List.drop_length, lexR_nil] at hinv
      (repeat (first | refine seq_ ?_ | refine sq_normal ?_ | refine sq_exit ?_ | refine rl_nil ?_ | refine cond_f rfl ?_ | refine exit_ ?_ | refine inBlock_exit ?_ | refine kq_exit ?_ | (refine region_ (id := 5) ?_; (try (refine rl_move (v := (Value.int _ _ : Value)) rfl rfl ?_; (try (refine rl_move (v := (Value.string _ : Value)) rfl rfl ?_; (try (refine rl_slen us9 rfl rfl ?_; (try ((first | (refine rl_lss_t rfl rfl rfl ?_ ?_; omega) | (refine rl_lss_f rfl rfl rfl ?_ ?_; omega))))))))))) | (refine region_ (id := 17) ?_; (try (refine rl_move (v := (Value.slice _ _ _ : Value)) rfl rfl ?_; (try (refine rl_move (v := (Value.string _ : Value)) rfl rfl ?_; (try (refine rl_slen us9 rfl rfl ?_; (try (refine rl_build [_, (St []), (Value.int .i64 0), _] ag40 pl40 rfl rfl rfl ?_; (try ((refine rl_bsliceM (d := 62) [_] hM sl27 rfl rfl rfl rfl rfl (by decide) (by decide) ?_; clear hM; intro w b62 hM))))))))))))))
      refine rl_appendM 1 (news := [Value.int .i64 6, St [], Value.int .i64 0, Value.int .i64 s.length]) (B := b62) (off := 0) hM sl27 rfl (by decide) rfl (hM.row (i := 0) rfl) rfl rfl rfl (fun _ => rfl) rfl ?_ ?_ ?_ ?_
      · intro u hu
        simp only [List.mem_cons, List.not_mem_nil, or_false] at hu
        rcases hu with rfl | rfl | rfl | rfl <;> rfl
      · omega
      · omega
      clear hM
      intro w a' c' _ _ hM
      (repeat (first | refine sq_normal ?_ | refine rl_nil ?_ | refine ret_ ?_ | refine gq_ret ?_ | refine rl_assign (v := (Value.slice _ _ _ : Value)) rfl rfl ?_ | refine rl_build [_, (Value.int .i64 0)] ag30 pl30 rfl rfl rfl ?_ | (first | (refine rl_storeWM 0 hM ag30 rfl rfl rfl rfl rfl rfl rfl ?_; clear hM; intro w hM) | (refine rl_storeWM 1 hM ag30 rfl rfl rfl rfl rfl rfl rfl ?_; clear hM; intro w hM) | (refine rl_storeWM 2 hM ag30 rfl rfl rfl rfl rfl rfl rfl ?_; clear hM; intro w hM) | (refine rl_storeWM 3 hM ag30 rfl rfl rfl rfl rfl rfl rfl ?_; clear hM; intro w hM) | (refine rl_storeWM 4 hM ag30 rfl rfl rfl rfl rfl rfl rfl ?_; clear hM; intro w hM) | (refine rl_storeWM 5 hM ag30 rfl rfl rfl rfl rfl rfl rfl ?_; clear hM; intro w hM) | (refine rl_storeWM 6 hM ag30 rfl rfl rfl rfl rfl rfl rfl ?_; clear hM; intro w hM) | (refine rl_storeWM 7 hM ag30 rfl rfl rfl rfl rfl rfl rfl ?_; clear hM; intro w hM))))
      have hal : (acc ++ [(⟨6, [], 0, s.length⟩ : Tok)]).length = acc.length + 1 := by simp
      obtain ⟨V', hV, hM', htk⟩ := own_tk (l := acc ++ [⟨6, [], 0, s.length⟩]) (v := .slice a' (acc.length + 1) c') (by rw [hal, tkCells_snoc]; exact hM.front 1 rfl)
      exact bp_x2 rfl rfl (res_tmp rfl) (res_M 2 hM ag30 rfl rfl rfl) ⟨V', _, _, 0, 0, hV, hM'.dropn 2, rfl, htk, .inl ⟨by rw [hinv]; rfl, rfl, rfl⟩⟩
  · have hA : lexA s = .error (2, 0) := by unfold lexA; rw [if_neg hbig]
    rw [hA]
    (repeat (first | refine seq_ ?_ | refine sq_normal ?_ | refine sq_ret ?_ | refine rl_nil ?_ | refine cond_t rfl ?_ | refine ret_ ?_ | refine gq_ret ?_ | (refine region_ (id := 1) ?_; (try (refine rl_move (v := (Value.string _ : Value)) rfl rfl ?_; (try (refine rl_slen us9 rfl rfl ?_; (try ((first | (refine rl_gtr_t rfl rfl rfl ?_ ?_; omega) | (refine rl_gtr_f rfl rfl rfl ?_ ?_; omega))))))))) | (refine region_ (id := 2) ?_; (try (refine rl_build [_, (Value.int .i64 0)] ag30 pl30 rfl rfl rfl ?_; (try (refine rl_assign (v := (Value.slice _ _ _ : Value)) rfl rfl ?_; (try ((first | (refine rl_storeWM 0 hM ag30 rfl rfl rfl rfl rfl rfl rfl ?_; clear hM; intro w hM) | (refine rl_storeWM 1 hM ag30 rfl rfl rfl rfl rfl rfl rfl ?_; clear hM; intro w hM) | (refine rl_storeWM 2 hM ag30 rfl rfl rfl rfl rfl rfl rfl ?_; clear hM; intro w hM) | (refine rl_storeWM 3 hM ag30 rfl rfl rfl rfl rfl rfl rfl ?_; clear hM; intro w hM) | (refine rl_storeWM 4 hM ag30 rfl rfl rfl rfl rfl rfl rfl ?_; clear hM; intro w hM) | (refine rl_storeWM 5 hM ag30 rfl rfl rfl rfl rfl rfl rfl ?_; clear hM; intro w hM) | (refine rl_storeWM 6 hM ag30 rfl rfl rfl rfl rfl rfl rfl ?_; clear hM; intro w hM) | (refine rl_storeWM 7 hM ag30 rfl rfl rfl rfl rfl rfl rfl ?_; clear hM; intro w hM)))))))))))
    exact bp_x2 rfl rfl (res_tmp rfl) (res_M 0 hM ag30 rfl rfl rfl) ⟨V, _, [], 2, 0, VLe.refl _, hM.dropn 1, rfl, IsTk.nil _, .inr ⟨rfl, by decide, 0, rfl, rfl⟩⟩
end Go.Proofs.Ytlalagkkmoifpaa.Lex
