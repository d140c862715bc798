/- The walk of fuguelaw02.source. -/
import Derived.Test.YtlalagkkmoifpaaLexW14
set_option linter.unusedVariables false
set_option linter.unusedSimpArgs false
namespace Go.Proofs.Ytlalagkkmoifpaa.Lex
open Go Go.Eng Go.RowKit Go.Lx
attribute [local irreducible] RL RX KQ SQ Exit.inBlock Exit.then BP NP CallsOk IsSl IsRows IsInts IsBools Own Blk Code.wp Calls wpList
/-- Texts with gaps ahead of each. -/
def srcOf : List (List UInt8) → List Int → List UInt8
  | [], _ => []
  | t :: ts, [] => 32 :: (t ++ srcOf ts [])
  | t :: ts, g :: gs => gap g ++ (t ++ srcOf ts gs)
theorem srcOf_drop (ts : List (List UInt8)) (gs : List Int) (i : Nat) (t : List UInt8) (h : ts[i]? = some t) :
    srcOf (ts.drop i) (gs.drop i) = (match gs[i]? with | some g => gap g | none => [32]) ++ (t ++ srcOf (ts.drop (i + 1)) (gs.drop (i + 1))) := by
  obtain ⟨hlt, he⟩ := List.getElem?_eq_some_iff.1 h
  rw [List.drop_eq_getElem_cons hlt, he]
  by_cases hg : i < gs.length
  · rw [List.drop_eq_getElem_cons hg, List.getElem?_eq_getElem hg]
    rfl
  · rw [List.drop_of_length_le (by omega : gs.length ≤ i), List.drop_of_length_le (by omega : gs.length ≤ i + 1), List.getElem?_eq_none (by omega)]
    rfl
theorem gap_len (n : Int) : (gap n).length ≤ 8 := by
  have hr := around_lt n 7 (by omega)
  obtain ⟨x, hx⟩ : ∃ x, gaps[(around n 7).toNat]? = some x := ⟨_, List.getElem?_eq_getElem (by show _ < 7; omega)⟩
  have hg : gap n = x := by unfold gap; rw [hx]; rfl
  rw [hg]
  have : ∀ x ∈ gaps, x.length ≤ 8 := by decide
  exact this x (List.mem_of_getElem? hx)
theorem word_len (n : Int) : (word n).length ≤ 10 := by
  have hr := around_lt n 34 (by omega)
  obtain ⟨x, hx⟩ : ∃ x, table[(around n 34).toNat]? = some x := ⟨_, List.getElem?_eq_getElem (by show _ < 34; omega)⟩
  have hg : word n = x := by unfold word; rw [hx]; rfl
  rw [hg]
  have : ∀ x ∈ table, x.length ≤ 10 := by decide
  exact this x (List.mem_of_getElem? hx)
theorem source_ok (v u : Value) (ts : List (List UInt8)) (gs : List Int) (w0 w : World) (L : List Ent) (V : Vw) (hM : Mem w0 w L V) (hv : IsTs V v ts) (hu : IsInts V u gs) (hl : ts.length ≤ 30) (hw : ∀ t ∈ ts, t.length ≤ 10) :
    CallsOk Try.prog 11 #[v, u] w fun r w' => r = St (srcOf ts gs) ∧ Mem w0 w' L V := by
  obtain ⟨a, c, b, off, rfl, h1, h2, h3, h4⟩ := hv.open'
  obtain ⟨a', c', b', off', rfl, h1', h2', h3', h4'⟩ := hu.open
  have hml := maxLen_le
  refine enter_ (N := 33) Try.func11 rfl rfl rfl ?_
  (repeat (first | refine seq_ ?_ | refine sq_normal ?_ | refine rl_nil ?_ | refine block_ ?_ | (refine region_ (id := 0) ?_; (try (refine rl_assign (v := (Value.string _ : Value)) rfl rfl ?_))) | (refine region_ (id := 1) ?_; (try (refine rl_assign (v := (Value.string _ : Value)) rfl rfl ?_))) | (refine region_ (id := 2) ?_; (try (refine rl_assign (v := (Value.int _ _ : Value)) rfl rfl ?_)))))
  refine loop2 [(5, 32)] 5 6 (fun m v5 v6 wr => ∃ (bs : List UInt8) (i : Nat), v5 = St bs ∧ v6 = .int .i64 i ∧ i ≤ ts.length ∧ m = ts.length - i ∧ Mem w0 wr L V ∧ bs.length ≤ i * 20 ∧ bs ++ srcOf (ts.drop i) (gs.drop i) = srcOf ts gs) _
    ⟨[], 0, rfl, rfl, by omega, rfl, hM, by simp, by simp⟩ ?_
  clear hM
  rintro m τ v5 v6 w ⟨bs, i, rfl, rfl, hi, rfl, hM, hbl, hinv⟩ K0 hL0
  by_cases hlt : i < ts.length
  · obtain ⟨t, ht⟩ : ∃ t, ts[i]? = some t := ⟨_, List.getElem?_eq_getElem hlt⟩
    have hA := h3 (by omega)
    subst hA
    have hvt := h4 i t ht
    have htl := hw t (List.mem_of_getElem? ht)
    rw [srcOf_drop ts gs i t ht] at hinv
    by_cases hg : i < gs.length
    · obtain ⟨g, hgi⟩ : ∃ g, gs[i]? = some g := ⟨_, List.getElem?_eq_getElem hg⟩
      have hA' := h3' (by omega)
      subst hA'
      have hvg := h4' i g hgi
      have hrng := hu.rng g (List.mem_of_getElem? hgi)
      have hgl := gap_len g
      rw [hgi] at hinv
      (repeat (first | refine seq_ ?_ | refine sq_normal ?_ | refine rl_nil ?_ | refine cond_t rfl ?_ | refine skip_ ?_ | refine block_ ?_ | (refine region_ (id := 3) ?_; (try (refine rl_move (v := (Value.int _ _ : Value)) rfl rfl ?_; (try (refine rl_move (v := (Value.slice _ _ _ : Value)) rfl rfl ?_; (try (refine rl_len sl23 rfl rfl ?_; (try ((first | (refine rl_lss_t rfl rfl rfl ?_ ?_; omega) | (refine rl_lss_f rfl rfl rfl ?_ ?_; omega))))))))))) | (refine region_ (id := 5) ?_; (try (refine rl_move (v := (Value.int _ _ : Value)) rfl rfl ?_; (try (refine rl_move (v := (Value.slice _ _ _ : Value)) rfl rfl ?_; (try (refine rl_len sl22 rfl rfl ?_; (try ((first | (refine rl_lss_t rfl rfl rfl ?_ ?_; omega) | (refine rl_lss_f rfl rfl rfl ?_ ?_; omega))))))))))) | (refine region_ (id := 6) ?_; (try (refine rl_move (v := (Value.string _ : Value)) rfl rfl ?_; (try (refine rl_move (v := (Value.slice _ _ _ : Value)) rfl rfl ?_; (try (refine rl_move (v := (Value.int _ _ : Value)) rfl rfl ?_; (try ((first | (refine rl_idx1 sl22 rfl rfl rfl rfl ?_ ?_ ?_; omega; omega) | (apply rl_idx1 sl22 rfl rfl rfl; assumption; omega; omega)); (try ((first | refine rl_loadV hM vt3 rfl rfl (by first | assumption | exact VRow.get (by assumption) rfl | exact VRow.get0 (by assumption) rfl) ?_ | refine rl_loadM 0 hM vt3 rfl rfl rfl (by first | rfl | assumption) ?_ | refine rl_loadM 1 hM vt3 rfl rfl rfl (by first | rfl | assumption) ?_ | refine rl_loadM 2 hM vt3 rfl rfl rfl (by first | rfl | assumption) ?_ | refine rl_loadM 3 hM vt3 rfl rfl rfl (by first | rfl | assumption) ?_ | refine rl_loadM 4 hM vt3 rfl rfl rfl (by first | rfl | assumption) ?_ | refine rl_loadM 5 hM vt3 rfl rfl rfl (by first | rfl | assumption) ?_ | refine rl_loadM 6 hM vt3 rfl rfl rfl (by first | rfl | assumption) ?_ | refine rl_loadM 7 hM vt3 rfl rfl rfl (by first | rfl | assumption) ?_))))))))))))))
      refine rl_callf fn26 (gap_ok g w0 w _ V hM hrng.1 hrng.2) rfl rfl ?_
      clear hM
      rintro _ w ⟨rfl, hM⟩
      (repeat (first | refine sq_normal ?_ | refine rl_nil ?_ | refine inBlock_normal ?_ | (refine region_ (id := 4) ?_; (try (refine rl_move (v := (Value.int _ _ : Value)) rfl rfl ?_; (try ((refine rl_add rfl rfl rfl ?_ ?_ ?_; omega; omega); (try (refine rl_assign (v := (Value.int _ _ : Value)) rfl rfl ?_))))))) | (refine region_ (id := 8) ?_; (try (refine rl_move (v := (Value.string _ : Value)) rfl rfl ?_; (try (refine rl_move (v := (Value.slice _ _ _ : Value)) rfl rfl ?_; (try (refine rl_move (v := (Value.int _ _ : Value)) rfl rfl ?_; (try ((first | (refine rl_idx1 sl23 rfl rfl rfl rfl ?_ ?_ ?_; omega; omega) | (apply rl_idx1 sl23 rfl rfl rfl; assumption; omega; omega)); (try ((first | refine rl_loadV hM vt9 rfl rfl (by first | assumption | exact VRow.get (by assumption) rfl | exact VRow.get0 (by assumption) rfl) ?_ | refine rl_loadM 0 hM vt9 rfl rfl rfl (by first | rfl | assumption) ?_ | refine rl_loadM 1 hM vt9 rfl rfl rfl (by first | rfl | assumption) ?_ | refine rl_loadM 2 hM vt9 rfl rfl rfl (by first | rfl | assumption) ?_ | refine rl_loadM 3 hM vt9 rfl rfl rfl (by first | rfl | assumption) ?_ | refine rl_loadM 4 hM vt9 rfl rfl rfl (by first | rfl | assumption) ?_ | refine rl_loadM 5 hM vt9 rfl rfl rfl (by first | rfl | assumption) ?_ | refine rl_loadM 6 hM vt9 rfl rfl rfl (by first | rfl | assumption) ?_ | refine rl_loadM 7 hM vt9 rfl rfl rfl (by first | rfl | assumption) ?_); (try ((refine rl_sadd rfl rfl rfl (by (first | omega | (simp only [List.length_append, List.length_cons, List.length_nil, List.length_take, List.length_drop] at *; omega))) ?_); (try (refine rl_assign (v := (Value.string _ : Value)) rfl rfl ?_))))))))))))))) | refine rl_assign (v := (Value.string _ : Value)) rfl rfl ?_ | (refine rl_sadd rfl rfl rfl (by (first | omega | (simp only [List.length_append, List.length_cons, List.length_nil, List.length_take, List.length_drop] at *; omega))) ?_)))
      refine kq_normal (hL0 (ts.length - (i + 1)) _ _ (by omega) (by (repeat (first | with_reducible exact Agree.ov | with_reducible exact Agree.refl _ _ | refine Agree.upd rfl ?_ | refine Agree.ovs rfl ?_))) ⟨_, i + 1, rfl, rfl, by omega, rfl, hM, by simp only [List.length_append]; omega, ?_⟩)
      rw [← hinv]
      simp
    · rw [List.getElem?_eq_none (by omega)] at hinv
      (repeat (first | refine seq_ ?_ | refine sq_normal ?_ | refine rl_nil ?_ | refine cond_t rfl ?_ | refine cond_f rfl ?_ | refine skip_ ?_ | refine block_ ?_ | refine inBlock_normal ?_ | (refine region_ (id := 3) ?_; (try (refine rl_move (v := (Value.int _ _ : Value)) rfl rfl ?_; (try (refine rl_move (v := (Value.slice _ _ _ : Value)) rfl rfl ?_; (try (refine rl_len sl23 rfl rfl ?_; (try ((first | (refine rl_lss_t rfl rfl rfl ?_ ?_; omega) | (refine rl_lss_f rfl rfl rfl ?_ ?_; omega))))))))))) | (refine region_ (id := 4) ?_; (try (refine rl_move (v := (Value.int _ _ : Value)) rfl rfl ?_; (try ((refine rl_add rfl rfl rfl ?_ ?_ ?_; omega; omega); (try (refine rl_assign (v := (Value.int _ _ : Value)) rfl rfl ?_))))))) | (refine region_ (id := 5) ?_; (try (refine rl_move (v := (Value.int _ _ : Value)) rfl rfl ?_; (try (refine rl_move (v := (Value.slice _ _ _ : Value)) rfl rfl ?_; (try (refine rl_len sl22 rfl rfl ?_; (try ((first | (refine rl_lss_t rfl rfl rfl ?_ ?_; omega) | (refine rl_lss_f rfl rfl rfl ?_ ?_; omega))))))))))) | (refine region_ (id := 7) ?_; (try (refine rl_move (v := (Value.string _ : Value)) rfl rfl ?_; (try ((refine rl_sadd rfl rfl rfl (by (first | omega | (simp only [List.length_append, List.length_cons, List.length_nil, List.length_take, List.length_drop] at *; omega))) ?_); (try (refine rl_assign (v := (Value.string _ : Value)) rfl rfl ?_))))))) | (refine region_ (id := 8) ?_; (try (refine rl_move (v := (Value.string _ : Value)) rfl rfl ?_; (try (refine rl_move (v := (Value.slice _ _ _ : Value)) rfl rfl ?_; (try (refine rl_move (v := (Value.int _ _ : Value)) rfl rfl ?_; (try ((first | (refine rl_idx1 sl23 rfl rfl rfl rfl ?_ ?_ ?_; omega; omega) | (apply rl_idx1 sl23 rfl rfl rfl; assumption; omega; omega)); (try ((first | refine rl_loadV hM vt9 rfl rfl (by first | assumption | exact VRow.get (by assumption) rfl | exact VRow.get0 (by assumption) rfl) ?_ | refine rl_loadM 0 hM vt9 rfl rfl rfl (by first | rfl | assumption) ?_ | refine rl_loadM 1 hM vt9 rfl rfl rfl (by first | rfl | assumption) ?_ | refine rl_loadM 2 hM vt9 rfl rfl rfl (by first | rfl | assumption) ?_ | refine rl_loadM 3 hM vt9 rfl rfl rfl (by first | rfl | assumption) ?_ | refine rl_loadM 4 hM vt9 rfl rfl rfl (by first | rfl | assumption) ?_ | refine rl_loadM 5 hM vt9 rfl rfl rfl (by first | rfl | assumption) ?_ | refine rl_loadM 6 hM vt9 rfl rfl rfl (by first | rfl | assumption) ?_ | refine rl_loadM 7 hM vt9 rfl rfl rfl (by first | rfl | assumption) ?_); (try ((refine rl_sadd rfl rfl rfl (by (first | omega | (simp only [List.length_append, List.length_cons, List.length_nil, List.length_take, List.length_drop] at *; omega))) ?_); (try (refine rl_assign (v := (Value.string _ : Value)) rfl rfl ?_)))))))))))))))))
      refine kq_normal (hL0 (ts.length - (i + 1)) _ _ (by omega) (by (repeat (first | with_reducible exact Agree.ov | with_reducible exact Agree.refl _ _ | refine Agree.upd rfl ?_ | refine Agree.ovs rfl ?_))) ⟨_, i + 1, rfl, rfl, by omega, rfl, hM, by simp only [List.length_append, List.length_cons, List.length_nil]; omega, ?_⟩)
      rw [← hinv]
      simp
  · (repeat (first | refine seq_ ?_ | refine sq_normal ?_ | refine sq_exit ?_ | refine rl_nil ?_ | refine cond_f rfl ?_ | refine ret_ ?_ | refine exit_ ?_ | refine inBlock_exit ?_ | refine kq_exit ?_ | (refine region_ (id := 3) ?_; (try (refine rl_move (v := (Value.int _ _ : Value)) rfl rfl ?_; (try (refine rl_move (v := (Value.slice _ _ _ : Value)) rfl rfl ?_; (try (refine rl_len sl23 rfl rfl ?_; (try ((first | (refine rl_lss_t rfl rfl rfl ?_ ?_; omega) | (refine rl_lss_f rfl rfl rfl ?_ ?_; omega))))))))))) | (refine region_ (id := 9) ?_; (try (refine rl_move (v := (Value.string _ : Value)) rfl rfl ?_; (try (refine rl_assign (v := (Value.string _ : Value)) rfl rfl ?_)))))))
    refine bp_ret1 (v := St bs) rfl rfl ⟨?_, hM⟩
    rw [← hinv, List.drop_of_length_le (by omega)]
    simp [srcOf]
end Go.Proofs.Ytlalagkkmoifpaa.Lex
