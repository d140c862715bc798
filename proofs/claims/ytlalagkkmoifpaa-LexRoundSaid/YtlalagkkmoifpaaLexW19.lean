/- The walks of lex.Print, fugueref02.Print, fuguelaw02.words. -/
import Derived.Test.YtlalagkkmoifpaaLexW18
set_option linter.unusedVariables false
set_option linter.unusedSimpArgs false
namespace Go.Proofs.Ytlalagkkmoifpaa.Lex
open Go Go.Eng Go.RowKit Go.Lx
attribute [local irreducible] RL RX KQ SQ Exit.inBlock Exit.then BP NP CallsOk IsSl IsRows IsInts IsBools Own Blk Code.wp Calls wpList
/-- The texts of tokens, but of the end. -/
def txts (l : List Tok) : List (List UInt8) := (l.filter fun t => decide (t.k ≠ 6)).map (·.s)
theorem txts_snoc (l : List Tok) (k : Nat) (t : Tok) (h : l[k]? = some t) : txts (l.take (k + 1)) = if t.k = 6 then txts (l.take k) else txts (l.take k) ++ [t.s] := by
  rw [List.take_add_one, h]
  unfold txts
  split <;> simp_all
theorem print_ok (v : Value) (l : List Tok) (w0 w : World) (L : List Ent) (V : Vw) (hM : Mem w0 w L V) (hv : IsTk V v l) (hl : l.length ≤ 1000) (hw : ∀ t ∈ l, t.s.length ≤ 1000) :
    CallsOk Try.prog 23 #[v] w fun r w' => r = St (jn (txts l)) ∧ Mem w0 w' L V := by
  have hml := maxLen_le
  obtain ⟨a, c, b, off, rfl, h1, h2, h3, h4⟩ := hv
  refine enter_ (N := 23) Try.func23 rfl rfl rfl ?_
  (repeat (first | refine seq_ ?_ | refine sq_normal ?_ | refine rl_nil ?_ | refine block_ ?_ | (refine region_ (id := 0) ?_; (try (refine rl_assign (v := (Value.string _ : Value)) rfl rfl ?_))) | (refine region_ (id := 1) ?_; (try (refine rl_assign (v := (Value.slice _ _ _ : Value)) rfl rfl ?_))) | (refine region_ (id := 2) ?_; (try (refine rl_move (v := (Value.slice _ _ _ : Value)) rfl rfl ?_; (try (refine rl_len sl27 rfl rfl ?_; (try (refine rl_move (v := (Value.int _ _ : Value)) rfl rfl ?_)))))))))
  have hM := hM.newOwn 9 1
  refine loop2 [(3, 4), (5, 6), (8, 21)] 3 8 (fun m v3 v8 wr => ∃ (a : Option Addr) (cc p : Nat) (ts : List (List UInt8)), v3 = .slice a ts.length cc ∧ v8 = .int .i64 p ∧ p ≤ l.length ∧ m = l.length - p ∧ ts = txts (l.take p) ∧ ts.length ≤ p ∧
      Mem w0 wr (.own (.slice a ts.length cc) 9 1 ts.length (ts.map St) :: L) V) _
    ⟨none, 0, 0, [], rfl, rfl, by omega, rfl, rfl, by simp, hM⟩ ?_
  clear hM
  rintro m τ v3 v8 w ⟨a2, cc, p, ts, rfl, rfl, hp, rfl, hts, htl, hM⟩ K0 hL0
  by_cases hlt : p < l.length
  · obtain ⟨⟨k, s, n, q⟩, ht⟩ : ∃ t, l[p]? = some t := ⟨_, List.getElem?_eq_getElem hlt⟩
    have hA := h3 (by omega)
    subst hA
    have hr : VRow V b (off + p * 4) [.int .i64 k, St s, .int .i64 n, .int .i64 q] := h4 p _ ht
    have hsn := txts_snoc l p _ ht
    simp only at hsn
    by_cases hk : k = 6
    · rw [if_pos hk] at hsn
      (repeat (first | refine seq_ ?_ | refine sq_normal ?_ | refine rl_nil ?_ | refine cond_t rfl ?_ | refine cond_f rfl ?_ | refine skip_ ?_ | refine block_ ?_ | refine inBlock_normal ?_ | (refine region_ (id := 3) ?_; (try ((first | (refine rl_lss_t rfl rfl rfl ?_ ?_; omega) | (refine rl_lss_f rfl rfl rfl ?_ ?_; omega))))) | (refine region_ (id := 4) ?_; (try ((first | (refine rl_idx sl27 rfl rfl rfl rfl ?_ ?_ ?_; omega; omega) | (apply rl_idx sl27 rfl rfl rfl; assumption; omega; omega)); (try ((first | refine rl_loadAV hM ag40 rfl rfl (by assumption) (by rfl) ?_ | refine rl_loadAM (vs := [_, _, _, _]) 0 hM ag40 rfl rfl rfl rfl rfl ?_ | refine rl_loadAM (vs := [_, _, _, _]) 1 hM ag40 rfl rfl rfl rfl rfl ?_ | refine rl_loadAM (vs := [_, _, _, _]) 2 hM ag40 rfl rfl rfl rfl rfl ?_ | refine rl_loadAM (vs := [_, _, _, _]) 3 hM ag40 rfl rfl rfl rfl rfl ?_ | refine rl_loadAM (vs := [_, _, _, _]) 4 hM ag40 rfl rfl rfl rfl rfl ?_ | refine rl_loadAM (vs := [_, _, _, _]) 5 hM ag40 rfl rfl rfl rfl rfl ?_ | refine rl_loadAM (vs := [_, _, _, _]) 6 hM ag40 rfl rfl rfl rfl rfl ?_ | refine rl_loadAM (vs := [_, _, _, _]) 7 hM ag40 rfl rfl rfl rfl rfl ?_); (try ((refine rl_allocAM (d := 5) hM ag40 rfl ?_; clear hM; intro w b5 hM); (try ((first | (refine rl_storeWM 0 hM ag40 rfl rfl rfl rfl rfl rfl rfl ?_; clear hM; intro w hM) | (refine rl_storeWM 1 hM ag40 rfl rfl rfl rfl rfl rfl rfl ?_; clear hM; intro w hM) | (refine rl_storeWM 2 hM ag40 rfl rfl rfl rfl rfl rfl rfl ?_; clear hM; intro w hM) | (refine rl_storeWM 3 hM ag40 rfl rfl rfl rfl rfl rfl rfl ?_; clear hM; intro w hM) | (refine rl_storeWM 4 hM ag40 rfl rfl rfl rfl rfl rfl rfl ?_; clear hM; intro w hM) | (refine rl_storeWM 5 hM ag40 rfl rfl rfl rfl rfl rfl rfl ?_; clear hM; intro w hM) | (refine rl_storeWM 6 hM ag40 rfl rfl rfl rfl rfl rfl rfl ?_; clear hM; intro w hM) | (refine rl_storeWM 7 hM ag40 rfl rfl rfl rfl rfl rfl rfl ?_; clear hM; intro w hM))))))))))) | (refine region_ (id := 5) ?_; (try (refine rl_fld fd40_0 rfl rfl ?_; (try ((first | refine rl_loadV hM vt3 rfl rfl (by first | assumption | exact VRow.get (by assumption) rfl | exact VRow.get0 (by assumption) rfl) ?_ | refine rl_loadM 0 hM vt3 rfl rfl rfl (by first | rfl | assumption) ?_ | refine rl_loadM 1 hM vt3 rfl rfl rfl (by first | rfl | assumption) ?_ | refine rl_loadM 2 hM vt3 rfl rfl rfl (by first | rfl | assumption) ?_ | refine rl_loadM 3 hM vt3 rfl rfl rfl (by first | rfl | assumption) ?_ | refine rl_loadM 4 hM vt3 rfl rfl rfl (by first | rfl | assumption) ?_ | refine rl_loadM 5 hM vt3 rfl rfl rfl (by first | rfl | assumption) ?_ | refine rl_loadM 6 hM vt3 rfl rfl rfl (by first | rfl | assumption) ?_ | refine rl_loadM 7 hM vt3 rfl rfl rfl (by first | rfl | assumption) ?_); (try ((first | (refine rl_neq_t rfl rfl rfl ?_ ?_; omega) | (refine rl_neq_f rfl rfl rfl ?_ ?_; omega))))))))) | (refine region_ (id := 7) ?_; (try ((refine rl_add rfl rfl rfl ?_ ?_ ?_; omega; omega); (try (refine rl_move (v := (Value.int _ _ : Value)) rfl rfl ?_)))))))
      exact kq_normal (hL0 (l.length - (p + 1)) _ _ (by omega) (by (repeat (first | with_reducible exact Agree.ov | with_reducible exact Agree.refl _ _ | refine Agree.upd rfl ?_ | refine Agree.ovs rfl ?_))) ⟨a2, cc, p + 1, ts, rfl, rfl, by omega, rfl, by rw [hsn]; exact hts, by omega, hM.dropn 1⟩)
    · rw [if_neg hk] at hsn
      (repeat (first | refine seq_ ?_ | refine sq_normal ?_ | refine rl_nil ?_ | refine cond_t rfl ?_ | refine skip_ ?_ | refine block_ ?_ | (refine region_ (id := 3) ?_; (try ((first | (refine rl_lss_t rfl rfl rfl ?_ ?_; omega) | (refine rl_lss_f rfl rfl rfl ?_ ?_; omega))))) | (refine region_ (id := 4) ?_; (try ((first | (refine rl_idx sl27 rfl rfl rfl rfl ?_ ?_ ?_; omega; omega) | (apply rl_idx sl27 rfl rfl rfl; assumption; omega; omega)); (try ((first | refine rl_loadAV hM ag40 rfl rfl (by assumption) (by rfl) ?_ | refine rl_loadAM (vs := [_, _, _, _]) 0 hM ag40 rfl rfl rfl rfl rfl ?_ | refine rl_loadAM (vs := [_, _, _, _]) 1 hM ag40 rfl rfl rfl rfl rfl ?_ | refine rl_loadAM (vs := [_, _, _, _]) 2 hM ag40 rfl rfl rfl rfl rfl ?_ | refine rl_loadAM (vs := [_, _, _, _]) 3 hM ag40 rfl rfl rfl rfl rfl ?_ | refine rl_loadAM (vs := [_, _, _, _]) 4 hM ag40 rfl rfl rfl rfl rfl ?_ | refine rl_loadAM (vs := [_, _, _, _]) 5 hM ag40 rfl rfl rfl rfl rfl ?_ | refine rl_loadAM (vs := [_, _, _, _]) 6 hM ag40 rfl rfl rfl rfl rfl ?_ | refine rl_loadAM (vs := [_, _, _, _]) 7 hM ag40 rfl rfl rfl rfl rfl ?_); (try ((refine rl_allocAM (d := 5) hM ag40 rfl ?_; clear hM; intro w b5 hM); (try ((first | (refine rl_storeWM 0 hM ag40 rfl rfl rfl rfl rfl rfl rfl ?_; clear hM; intro w hM) | (refine rl_storeWM 1 hM ag40 rfl rfl rfl rfl rfl rfl rfl ?_; clear hM; intro w hM) | (refine rl_storeWM 2 hM ag40 rfl rfl rfl rfl rfl rfl rfl ?_; clear hM; intro w hM) | (refine rl_storeWM 3 hM ag40 rfl rfl rfl rfl rfl rfl rfl ?_; clear hM; intro w hM) | (refine rl_storeWM 4 hM ag40 rfl rfl rfl rfl rfl rfl rfl ?_; clear hM; intro w hM) | (refine rl_storeWM 5 hM ag40 rfl rfl rfl rfl rfl rfl rfl ?_; clear hM; intro w hM) | (refine rl_storeWM 6 hM ag40 rfl rfl rfl rfl rfl rfl rfl ?_; clear hM; intro w hM) | (refine rl_storeWM 7 hM ag40 rfl rfl rfl rfl rfl rfl rfl ?_; clear hM; intro w hM))))))))))) | (refine region_ (id := 5) ?_; (try (refine rl_fld fd40_0 rfl rfl ?_; (try ((first | refine rl_loadV hM vt3 rfl rfl (by first | assumption | exact VRow.get (by assumption) rfl | exact VRow.get0 (by assumption) rfl) ?_ | refine rl_loadM 0 hM vt3 rfl rfl rfl (by first | rfl | assumption) ?_ | refine rl_loadM 1 hM vt3 rfl rfl rfl (by first | rfl | assumption) ?_ | refine rl_loadM 2 hM vt3 rfl rfl rfl (by first | rfl | assumption) ?_ | refine rl_loadM 3 hM vt3 rfl rfl rfl (by first | rfl | assumption) ?_ | refine rl_loadM 4 hM vt3 rfl rfl rfl (by first | rfl | assumption) ?_ | refine rl_loadM 5 hM vt3 rfl rfl rfl (by first | rfl | assumption) ?_ | refine rl_loadM 6 hM vt3 rfl rfl rfl (by first | rfl | assumption) ?_ | refine rl_loadM 7 hM vt3 rfl rfl rfl (by first | rfl | assumption) ?_); (try ((first | (refine rl_neq_t rfl rfl rfl ?_ ?_; omega) | (refine rl_neq_f rfl rfl rfl ?_ ?_; omega))))))))) | (refine region_ (id := 6) ?_; (try (refine rl_move (v := (Value.slice _ _ _ : Value)) rfl rfl ?_; (try (refine rl_fld fd40_1 rfl rfl ?_; (try ((first | refine rl_loadV hM vt9 rfl rfl (by first | assumption | exact VRow.get (by assumption) rfl | exact VRow.get0 (by assumption) rfl) ?_ | refine rl_loadM 0 hM vt9 rfl rfl rfl (by first | rfl | assumption) ?_ | refine rl_loadM 1 hM vt9 rfl rfl rfl (by first | rfl | assumption) ?_ | refine rl_loadM 2 hM vt9 rfl rfl rfl (by first | rfl | assumption) ?_ | refine rl_loadM 3 hM vt9 rfl rfl rfl (by first | rfl | assumption) ?_ | refine rl_loadM 4 hM vt9 rfl rfl rfl (by first | rfl | assumption) ?_ | refine rl_loadM 5 hM vt9 rfl rfl rfl (by first | rfl | assumption) ?_ | refine rl_loadM 6 hM vt9 rfl rfl rfl (by first | rfl | assumption) ?_ | refine rl_loadM 7 hM vt9 rfl rfl rfl (by first | rfl | assumption) ?_); (try ((refine rl_bsliceM (d := 18) [_] hM sl23 rfl rfl rfl rfl rfl (by decide) (by decide) ?_; clear hM; intro w b18 hM))))))))))))
      refine rl_appendM 2 (news := [St s]) (B := b18) (off := 0) hM sl23 rfl (by decide) rfl (hM.row (i := 0) rfl) rfl rfl rfl (fun _ => rfl) rfl ?_ ?_ ?_ ?_
      · intro u hu
        simp only [List.mem_cons, List.not_mem_nil, or_false] at hu
        subst hu; rfl
      · unfold maxLen; omega
      · omega
      clear hM
      intro w a3 c3 _ _ hM
      (repeat (first | refine sq_normal ?_ | refine rl_nil ?_ | refine inBlock_normal ?_ | (refine region_ (id := 7) ?_; (try ((refine rl_add rfl rfl rfl ?_ ?_ ?_; omega; omega); (try (refine rl_move (v := (Value.int _ _ : Value)) rfl rfl ?_))))) | refine rl_assign (v := (Value.slice _ _ _ : Value)) rfl rfl ?_))
      have hM2 := hM.dropn 2
      have hal : (ts ++ [s]).length = ts.length + 1 := by simp
      refine kq_normal (hL0 (l.length - (p + 1)) _ _ (by omega) (by (repeat (first | with_reducible exact Agree.ov | with_reducible exact Agree.refl _ _ | refine Agree.upd rfl ?_ | refine Agree.ovs rfl ?_))) ⟨a3, c3, p + 1, ts ++ [s], by rw [hal]; rfl, rfl, by omega, rfl, by rw [hsn, hts], by omega, ?_⟩)
      rw [hal, List.map_append]
      exact hM2
  · have hpe : p = l.length := by omega
    subst hpe
    rw [List.take_length] at hts
    (repeat (first | refine seq_ ?_ | refine sq_normal ?_ | refine sq_exit ?_ | refine rl_nil ?_ | refine cond_f rfl ?_ | refine exit_ ?_ | refine inBlock_exit ?_ | refine kq_exit ?_ | (refine region_ (id := 3) ?_; (try ((first | (refine rl_lss_t rfl rfl rfl ?_ ?_; omega) | (refine rl_lss_f rfl rfl rfl ?_ ?_; omega))))) | (refine region_ (id := 8) ?_; (try (refine rl_move (v := (Value.slice _ _ _ : Value)) rfl rfl ?_)))))
    obtain ⟨V', hV', hM', a3, c3, b3, e1, e2, e3, e4, e5⟩ := Mem.freezeOwn hM
    cases e1
    have hT : IsTs V' (.slice a2 ts.length cc) ts := isTs_of rfl e2 e3 e4 e5
    clear hM
    refine rl_callf fn35 (join_ok _ ts w0 w L V' hM' hT (by omega) ?_) rfl rfl ?_
    · intro t ht
      rw [hts] at ht
      unfold txts at ht
      obtain ⟨x, hx, rfl⟩ := List.mem_map.1 ht
      exact hw x (List.mem_filter.1 hx).1
    rintro _ w ⟨rfl, hM⟩
    (repeat (first | refine sq_normal ?_ | refine rl_nil ?_ | refine ret_ ?_ | refine rl_assign (v := (Value.string _ : Value)) rfl rfl ?_))
    exact bp_ret1 (v := St _) rfl rfl ⟨by rw [hts], hM.le hV'⟩
theorem words_ok (v : Value) (ts : List (List UInt8)) (w0 w : World) (L : List Ent) (V : Vw) (hM : Mem w0 w L V) (hv : IsTs V v ts) (hl : ts.length ≤ 1000) :
    CallsOk Try.prog 25 #[v] w fun r w' => ∃ V', VLe V V' ∧ Mem w0 w' L V' ∧ IsTk V' r (ts.map fun t => ⟨0, t, 0, 0⟩) := by
  have hml := maxLen_le
  obtain ⟨a, c, b, off, rfl, h1, h2, h3, h4⟩ := IsTs.open' hv
  refine enter_ (N := 20) Try.func25 rfl rfl rfl ?_
  (repeat (first | refine seq_ ?_ | refine sq_normal ?_ | refine rl_nil ?_ | refine block_ ?_ | (refine region_ (id := 0) ?_; (try (refine rl_assign (v := (Value.slice _ _ _ : Value)) rfl rfl ?_))) | (refine region_ (id := 1) ?_; (try (refine rl_assign (v := (Value.slice _ _ _ : Value)) rfl rfl ?_))) | (refine region_ (id := 2) ?_; (try (refine rl_assign (v := (Value.int _ _ : Value)) rfl rfl ?_)))))
  have hM := hM.newOwn 61 4
  refine loop2 [(3, 19)] 3 4 (fun m v3 v4 wr => ∃ (a : Option Addr) (cc p : Nat) (l : List Tok), v3 = .slice a l.length cc ∧ v4 = .int .i64 p ∧ p ≤ ts.length ∧ m = ts.length - p ∧ l = (ts.take p).map (fun t => ⟨0, t, 0, 0⟩) ∧ l.length = p ∧
      Mem w0 wr (.own (.slice a l.length cc) 61 4 l.length (tkCells l) :: L) V) _
    ⟨none, 0, 0, [], rfl, rfl, by omega, rfl, rfl, rfl, hM⟩ ?_
  clear hM
  rintro m τ v3 v4 w ⟨a2, cc, p, l, rfl, rfl, hp, rfl, hl1, hl2, hM⟩ K0 hL0
  by_cases hlt : p < ts.length
  · obtain ⟨t, ht⟩ : ∃ t, ts[p]? = some t := ⟨_, List.getElem?_eq_getElem hlt⟩
    have hA := h3 (by omega)
    subst hA
    have hr := h4 p _ ht
    (repeat (first | refine seq_ ?_ | refine sq_normal ?_ | refine rl_nil ?_ | refine cond_t rfl ?_ | refine skip_ ?_ | refine block_ ?_ | (refine region_ (id := 3) ?_; (try (refine rl_move (v := (Value.int _ _ : Value)) rfl rfl ?_; (try (refine rl_move (v := (Value.slice _ _ _ : Value)) rfl rfl ?_; (try (refine rl_len sl23 rfl rfl ?_; (try ((first | (refine rl_lss_t rfl rfl rfl ?_ ?_; omega) | (refine rl_lss_f rfl rfl rfl ?_ ?_; omega))))))))))) | (refine region_ (id := 5) ?_; (try (refine rl_move (v := (Value.slice _ _ _ : Value)) rfl rfl ?_; (try (refine rl_move (v := (Value.slice _ _ _ : Value)) rfl rfl ?_; (try (refine rl_move (v := (Value.int _ _ : Value)) rfl rfl ?_; (try ((first | (refine rl_idx1 sl23 rfl rfl rfl rfl ?_ ?_ ?_; omega; omega) | (apply rl_idx1 sl23 rfl rfl rfl; assumption; omega; omega)); (try ((first | refine rl_loadV hM vt9 rfl rfl (by first | assumption | exact VRow.get (by assumption) rfl | exact VRow.get0 (by assumption) rfl) ?_ | refine rl_loadM 0 hM vt9 rfl rfl rfl (by first | rfl | assumption) ?_ | refine rl_loadM 1 hM vt9 rfl rfl rfl (by first | rfl | assumption) ?_ | refine rl_loadM 2 hM vt9 rfl rfl rfl (by first | rfl | assumption) ?_ | refine rl_loadM 3 hM vt9 rfl rfl rfl (by first | rfl | assumption) ?_ | refine rl_loadM 4 hM vt9 rfl rfl rfl (by first | rfl | assumption) ?_ | refine rl_loadM 5 hM vt9 rfl rfl rfl (by first | rfl | assumption) ?_ | refine rl_loadM 6 hM vt9 rfl rfl rfl (by first | rfl | assumption) ?_ | refine rl_loadM 7 hM vt9 rfl rfl rfl (by first | rfl | assumption) ?_); (try (refine rl_build [(Value.int .i64 0), _, (Value.int .i64 0), (Value.int .i64 0)] ag61 pl61 rfl rfl rfl ?_; (try ((refine rl_bsliceM (d := 17) [_] hM sl33 rfl rfl rfl rfl rfl (by decide) (by decide) ?_; clear hM; intro w b17 hM))))))))))))))))))
    refine rl_appendM 1 (news := [.int .i64 0, St t, .int .i64 0, .int .i64 0]) (B := b17) (off := 0) hM sl33 rfl (by decide) rfl (hM.row (i := 0) rfl) rfl rfl rfl (fun _ => rfl) rfl ?_ ?_ ?_ ?_
    · intro u hu
      simp only [List.mem_cons, List.not_mem_nil, or_false] at hu
      rcases hu with rfl | rfl | rfl | rfl <;> rfl
    · unfold maxLen; omega
    · omega
    clear hM
    intro w a3 c3 _ _ hM
    (repeat (first | refine sq_normal ?_ | refine rl_nil ?_ | refine inBlock_normal ?_ | (refine region_ (id := 4) ?_; (try (refine rl_move (v := (Value.int _ _ : Value)) rfl rfl ?_; (try ((refine rl_add rfl rfl rfl ?_ ?_ ?_; omega; omega); (try (refine rl_assign (v := (Value.int _ _ : Value)) rfl rfl ?_))))))) | refine rl_assign (v := (Value.slice _ _ _ : Value)) rfl rfl ?_))
    have hM2 := hM.dropn 1
    have hal : (l ++ [(⟨0, t, 0, 0⟩ : Tok)]).length = l.length + 1 := by simp
    refine kq_normal (hL0 (ts.length - (p + 1)) _ _ (by omega) (by (repeat (first | with_reducible exact Agree.ov | with_reducible exact Agree.refl _ _ | refine Agree.upd rfl ?_ | refine Agree.ovs rfl ?_))) ⟨a3, c3, p + 1, l ++ [⟨0, t, 0, 0⟩], by rw [hal]; rfl, rfl, by omega, rfl, by rw [hl1, List.take_add_one, ht]; simp, by omega, ?_⟩)
    rw [hal, tkCells_snoc]
    exact hM2
  · have hpe : p = ts.length := by omega
    subst hpe
    rw [List.take_length] at hl1
    (repeat (first | refine seq_ ?_ | refine sq_normal ?_ | refine sq_exit ?_ | refine rl_nil ?_ | refine cond_f rfl ?_ | refine ret_ ?_ | refine exit_ ?_ | refine inBlock_exit ?_ | refine kq_exit ?_ | (refine region_ (id := 3) ?_; (try (refine rl_move (v := (Value.int _ _ : Value)) rfl rfl ?_; (try (refine rl_move (v := (Value.slice _ _ _ : Value)) rfl rfl ?_; (try (refine rl_len sl23 rfl rfl ?_; (try ((first | (refine rl_lss_t rfl rfl rfl ?_ ?_; omega) | (refine rl_lss_f rfl rfl rfl ?_ ?_; omega))))))))))) | (refine region_ (id := 6) ?_; (try (refine rl_move (v := (Value.slice _ _ _ : Value)) rfl rfl ?_; (try (refine rl_assign (v := (Value.slice _ _ _ : Value)) rfl rfl ?_)))))))
    obtain ⟨V', hV', hM', a3, c3, b3, e1, e2, e3, e4, e5⟩ := Mem.freezeOwn hM
    cases e1
    exact bp_ret1 (v := Value.slice _ _ _) rfl rfl ⟨V', hV', hM', by rw [← hl1]; exact isTk_of rfl e2 e3 e4 e5⟩
theorem refprint_ok (v : Value) (ts : List (List UInt8)) (w0 w : World) (L : List Ent) (V : Vw) (hM : Mem w0 w L V) (hv : IsTk V v (ts.map fun t => ⟨0, t, 0, 0⟩)) (hl : ts.length ≤ 1000) (hw : ∀ t ∈ ts, t.length ≤ 1000 ∧ t ≠ []) :
    CallsOk Try.prog 24 #[v] w fun r w' => r = St (jn ts) ∧ Mem w0 w' L V := by
  have hml := maxLen_le
  obtain ⟨a, c, b, off, rfl, h1, h2, h3, h4⟩ := hv
  simp only [List.length_map] at h1 h3 ⊢
  refine enter_ (N := 29) Try.func24 rfl rfl rfl ?_
  (repeat (first | refine seq_ ?_ | refine sq_normal ?_ | refine rl_nil ?_ | refine block_ ?_ | (refine region_ (id := 0) ?_; (try (refine rl_assign (v := (Value.string _ : Value)) rfl rfl ?_))) | (refine region_ (id := 1) ?_; (try (refine rl_assign (v := (Value.string _ : Value)) rfl rfl ?_))) | (refine region_ (id := 2) ?_; (try (refine rl_assign (v := (Value.int _ _ : Value)) rfl rfl ?_)))))
  refine loop2 [(3, 28)] 3 4 (fun m v3 v4 wr => ∃ (p : Nat), v3 = St (jn (ts.take p)) ∧ v4 = .int .i64 p ∧ p ≤ ts.length ∧ m = ts.length - p ∧ (jn (ts.take p)).length ≤ p * 1001 ∧ Mem w0 wr L V) _
    ⟨0, rfl, rfl, by omega, rfl, by simp [jn], hM⟩ ?_
  clear hM
  rintro m τ v3 v4 w ⟨p, rfl, rfl, hp, rfl, hjl, hM⟩ K0 hL0
  by_cases hlt : p < ts.length
  · obtain ⟨t, ht⟩ : ∃ t, ts[p]? = some t := ⟨_, List.getElem?_eq_getElem hlt⟩
    have hA := h3 (by omega)
    subst hA
    have hr : VRow V b (off + p * 4) [.int .i64 0, St t, .int .i64 0, .int .i64 0] := h4 p ⟨0, t, 0, 0⟩ (by simp [ht])
    obtain ⟨htl, htn⟩ := hw t (List.mem_of_getElem? ht)
    cases p with
    | zero =>
      have e0 : jn (ts.take 0) = [] := by simp [jn]
      have e : jn (ts.take (0 + 1)) = jn (ts.take 0) ++ t := by
        rw [List.take_add_one, ht]; simp [jn, tl]
      (repeat (first | refine seq_ ?_ | refine sq_normal ?_ | refine rl_nil ?_ | refine cond_t rfl ?_ | refine cond_f rfl ?_ | refine skip_ ?_ | refine block_ ?_ | refine inBlock_normal ?_ | (refine region_ (id := 3) ?_; (try (refine rl_move (v := (Value.int _ _ : Value)) rfl rfl ?_; (try (refine rl_move (v := (Value.slice _ _ _ : Value)) rfl rfl ?_; (try (refine rl_len sl33 rfl rfl ?_; (try ((first | (refine rl_lss_t rfl rfl rfl ?_ ?_; omega) | (refine rl_lss_f rfl rfl rfl ?_ ?_; omega))))))))))) | (refine region_ (id := 4) ?_; (try (refine rl_move (v := (Value.int _ _ : Value)) rfl rfl ?_; (try ((refine rl_add rfl rfl rfl ?_ ?_ ?_; omega; omega); (try (refine rl_assign (v := (Value.int _ _ : Value)) rfl rfl ?_))))))) | (refine region_ (id := 5) ?_; (try (refine rl_move (v := (Value.slice _ _ _ : Value)) rfl rfl ?_; (try (refine rl_move (v := (Value.int _ _ : Value)) rfl rfl ?_; (try ((first | (refine rl_idx sl33 rfl rfl rfl rfl ?_ ?_ ?_; omega; omega) | (apply rl_idx sl33 rfl rfl rfl; assumption; omega; omega)); (try (refine rl_fld fd61_0 rfl rfl ?_; (try ((first | refine rl_loadV hM vt3 rfl rfl (by first | assumption | exact VRow.get (by assumption) rfl | exact VRow.get0 (by assumption) rfl) ?_ | refine rl_loadM 0 hM vt3 rfl rfl rfl (by first | rfl | assumption) ?_ | refine rl_loadM 1 hM vt3 rfl rfl rfl (by first | rfl | assumption) ?_ | refine rl_loadM 2 hM vt3 rfl rfl rfl (by first | rfl | assumption) ?_ | refine rl_loadM 3 hM vt3 rfl rfl rfl (by first | rfl | assumption) ?_ | refine rl_loadM 4 hM vt3 rfl rfl rfl (by first | rfl | assumption) ?_ | refine rl_loadM 5 hM vt3 rfl rfl rfl (by first | rfl | assumption) ?_ | refine rl_loadM 6 hM vt3 rfl rfl rfl (by first | rfl | assumption) ?_ | refine rl_loadM 7 hM vt3 rfl rfl rfl (by first | rfl | assumption) ?_); (try ((first | (refine rl_eql_t rfl rfl rfl ?_ ?_; omega) | (refine rl_eql_f rfl rfl rfl ?_ ?_; omega))))))))))))))) | (refine region_ (id := 6) ?_; (try (refine rl_move (v := (Value.string _ : Value)) rfl rfl ?_; (try ((first | refine rl_sneq_f rfl rfl rfl (by first | rfl | assumption) ?_ | refine rl_sneq_t rfl rfl rfl (by first | assumption | decide) ?_)))))) | (refine region_ (id := 8) ?_; (try (refine rl_move (v := (Value.string _ : Value)) rfl rfl ?_; (try (refine rl_move (v := (Value.slice _ _ _ : Value)) rfl rfl ?_; (try (refine rl_move (v := (Value.int _ _ : Value)) rfl rfl ?_; (try ((first | (refine rl_idx sl33 rfl rfl rfl rfl ?_ ?_ ?_; omega; omega) | (apply rl_idx sl33 rfl rfl rfl; assumption; omega; omega)); (try (refine rl_fld fd61_1 rfl rfl ?_; (try ((first | refine rl_loadV hM vt9 rfl rfl (by first | assumption | exact VRow.get (by assumption) rfl | exact VRow.get0 (by assumption) rfl) ?_ | refine rl_loadM 0 hM vt9 rfl rfl rfl (by first | rfl | assumption) ?_ | refine rl_loadM 1 hM vt9 rfl rfl rfl (by first | rfl | assumption) ?_ | refine rl_loadM 2 hM vt9 rfl rfl rfl (by first | rfl | assumption) ?_ | refine rl_loadM 3 hM vt9 rfl rfl rfl (by first | rfl | assumption) ?_ | refine rl_loadM 4 hM vt9 rfl rfl rfl (by first | rfl | assumption) ?_ | refine rl_loadM 5 hM vt9 rfl rfl rfl (by first | rfl | assumption) ?_ | refine rl_loadM 6 hM vt9 rfl rfl rfl (by first | rfl | assumption) ?_ | refine rl_loadM 7 hM vt9 rfl rfl rfl (by first | rfl | assumption) ?_); (try ((refine rl_sadd rfl rfl rfl (by (first | omega | (simp only [List.length_append, List.length_cons, List.length_nil, List.length_take, List.length_drop] at *; omega))) ?_); (try (refine rl_assign (v := (Value.string _ : Value)) rfl rfl ?_)))))))))))))))))))
      exact kq_normal (hL0 (ts.length - (0 + 1)) _ _ (by omega) (by (repeat (first | with_reducible exact Agree.ov | with_reducible exact Agree.refl _ _ | refine Agree.upd rfl ?_ | refine Agree.ovs rfl ?_))) ⟨0 + 1, by rw [e]; rfl, rfl, by omega, rfl, by rw [e, e0]; simp; omega, hM⟩)
    | succ p =>
      obtain ⟨t0, ts', rfl⟩ : ∃ t0 ts', ts = t0 :: ts' := by
        cases ts with
        | nil => simp at hlt
        | cons t0 ts' => exact ⟨t0, ts', rfl⟩
      have e : jn ((t0 :: ts').take (p + 1 + 1)) = jn ((t0 :: ts').take (p + 1)) ++ [32] ++ t := by
        simp only [List.take_succ_cons, jn]
        rw [tl_snoc ts' p t (by simpa using ht)]
        simp
      have hne : jn ((t0 :: ts').take (p + 1)) ≠ [] := by
        simp only [List.take_succ_cons, jn]
        have := (hw t0 (by simp)).2
        intro h
        exact this (List.append_eq_nil_iff.1 h).1
      (repeat (first | refine seq_ ?_ | refine sq_normal ?_ | refine rl_nil ?_ | refine cond_t rfl ?_ | refine cond_f rfl ?_ | refine skip_ ?_ | refine block_ ?_ | refine inBlock_normal ?_ | (refine region_ (id := 3) ?_; (try (refine rl_move (v := (Value.int _ _ : Value)) rfl rfl ?_; (try (refine rl_move (v := (Value.slice _ _ _ : Value)) rfl rfl ?_; (try (refine rl_len sl33 rfl rfl ?_; (try ((first | (refine rl_lss_t rfl rfl rfl ?_ ?_; omega) | (refine rl_lss_f rfl rfl rfl ?_ ?_; omega))))))))))) | (refine region_ (id := 4) ?_; (try (refine rl_move (v := (Value.int _ _ : Value)) rfl rfl ?_; (try ((refine rl_add rfl rfl rfl ?_ ?_ ?_; omega; omega); (try (refine rl_assign (v := (Value.int _ _ : Value)) rfl rfl ?_))))))) | (refine region_ (id := 5) ?_; (try (refine rl_move (v := (Value.slice _ _ _ : Value)) rfl rfl ?_; (try (refine rl_move (v := (Value.int _ _ : Value)) rfl rfl ?_; (try ((first | (refine rl_idx sl33 rfl rfl rfl rfl ?_ ?_ ?_; omega; omega) | (apply rl_idx sl33 rfl rfl rfl; assumption; omega; omega)); (try (refine rl_fld fd61_0 rfl rfl ?_; (try ((first | refine rl_loadV hM vt3 rfl rfl (by first | assumption | exact VRow.get (by assumption) rfl | exact VRow.get0 (by assumption) rfl) ?_ | refine rl_loadM 0 hM vt3 rfl rfl rfl (by first | rfl | assumption) ?_ | refine rl_loadM 1 hM vt3 rfl rfl rfl (by first | rfl | assumption) ?_ | refine rl_loadM 2 hM vt3 rfl rfl rfl (by first | rfl | assumption) ?_ | refine rl_loadM 3 hM vt3 rfl rfl rfl (by first | rfl | assumption) ?_ | refine rl_loadM 4 hM vt3 rfl rfl rfl (by first | rfl | assumption) ?_ | refine rl_loadM 5 hM vt3 rfl rfl rfl (by first | rfl | assumption) ?_ | refine rl_loadM 6 hM vt3 rfl rfl rfl (by first | rfl | assumption) ?_ | refine rl_loadM 7 hM vt3 rfl rfl rfl (by first | rfl | assumption) ?_); (try ((first | (refine rl_eql_t rfl rfl rfl ?_ ?_; omega) | (refine rl_eql_f rfl rfl rfl ?_ ?_; omega))))))))))))))) | (refine region_ (id := 6) ?_; (try (refine rl_move (v := (Value.string _ : Value)) rfl rfl ?_; (try ((first | refine rl_sneq_f rfl rfl rfl (by first | rfl | assumption) ?_ | refine rl_sneq_t rfl rfl rfl (by first | assumption | decide) ?_)))))) | (refine region_ (id := 7) ?_; (try (refine rl_move (v := (Value.string _ : Value)) rfl rfl ?_; (try ((refine rl_sadd rfl rfl rfl (by (first | omega | (simp only [List.length_append, List.length_cons, List.length_nil, List.length_take, List.length_drop] at *; omega))) ?_); (try (refine rl_assign (v := (Value.string _ : Value)) rfl rfl ?_))))))) | (refine region_ (id := 8) ?_; (try (refine rl_move (v := (Value.string _ : Value)) rfl rfl ?_; (try (refine rl_move (v := (Value.slice _ _ _ : Value)) rfl rfl ?_; (try (refine rl_move (v := (Value.int _ _ : Value)) rfl rfl ?_; (try ((first | (refine rl_idx sl33 rfl rfl rfl rfl ?_ ?_ ?_; omega; omega) | (apply rl_idx sl33 rfl rfl rfl; assumption; omega; omega)); (try (refine rl_fld fd61_1 rfl rfl ?_; (try ((first | refine rl_loadV hM vt9 rfl rfl (by first | assumption | exact VRow.get (by assumption) rfl | exact VRow.get0 (by assumption) rfl) ?_ | refine rl_loadM 0 hM vt9 rfl rfl rfl (by first | rfl | assumption) ?_ | refine rl_loadM 1 hM vt9 rfl rfl rfl (by first | rfl | assumption) ?_ | refine rl_loadM 2 hM vt9 rfl rfl rfl (by first | rfl | assumption) ?_ | refine rl_loadM 3 hM vt9 rfl rfl rfl (by first | rfl | assumption) ?_ | refine rl_loadM 4 hM vt9 rfl rfl rfl (by first | rfl | assumption) ?_ | refine rl_loadM 5 hM vt9 rfl rfl rfl (by first | rfl | assumption) ?_ | refine rl_loadM 6 hM vt9 rfl rfl rfl (by first | rfl | assumption) ?_ | refine rl_loadM 7 hM vt9 rfl rfl rfl (by first | rfl | assumption) ?_); (try ((refine rl_sadd rfl rfl rfl (by (first | omega | (simp only [List.length_append, List.length_cons, List.length_nil, List.length_take, List.length_drop] at *; omega))) ?_); (try (refine rl_assign (v := (Value.string _ : Value)) rfl rfl ?_)))))))))))))))))))
      exact kq_normal (hL0 ((t0 :: ts').length - (p + 1 + 1)) _ _ (by omega) (by (repeat (first | with_reducible exact Agree.ov | with_reducible exact Agree.refl _ _ | refine Agree.upd rfl ?_ | refine Agree.ovs rfl ?_))) ⟨p + 1 + 1, by rw [e]; rfl, rfl, by omega, rfl, by rw [e]; simp only [List.length_append, List.length_cons, List.length_nil] at hjl ⊢; omega, hM⟩)
  · have hpe : p = ts.length := by omega
    subst hpe
    (repeat (first | refine seq_ ?_ | refine sq_normal ?_ | refine sq_exit ?_ | refine rl_nil ?_ | refine cond_f rfl ?_ | refine ret_ ?_ | refine exit_ ?_ | refine inBlock_exit ?_ | refine kq_exit ?_ | (refine region_ (id := 3) ?_; (try (refine rl_move (v := (Value.int _ _ : Value)) rfl rfl ?_; (try (refine rl_move (v := (Value.slice _ _ _ : Value)) rfl rfl ?_; (try (refine rl_len sl33 rfl rfl ?_; (try ((first | (refine rl_lss_t rfl rfl rfl ?_ ?_; omega) | (refine rl_lss_f rfl rfl rfl ?_ ?_; omega))))))))))) | (refine region_ (id := 9) ?_; (try (refine rl_move (v := (Value.string _ : Value)) rfl rfl ?_; (try (refine rl_assign (v := (Value.string _ : Value)) rfl rfl ?_)))))))
    refine bp_ret1 (v := St _) rfl rfl ⟨?_, hM⟩
    rw [List.take_length]
end Go.Proofs.Ytlalagkkmoifpaa.Lex
