/- The walks of lists of texts, of rows of bytes, of numbers. -/
import Derived.Test.YtlalagkkmoifpaaLexW2
import Derived.Test.YtlalagkkmoifpaaLexM
set_option linter.unusedVariables false
set_option linter.unusedSimpArgs false
namespace Go.Proofs.Ytlalagkkmoifpaa.Lex
open Go Go.Eng Go.RowKit Go.Lx
attribute [local irreducible] RL RX KQ SQ Exit.inBlock Exit.then BP NP CallsOk IsSl IsRows IsInts IsBools Own Blk Code.wp Calls wpList
/-- A new list of texts. -/
def TsPost (w0 : World) (L : List Ent) (V : Vw) (l : List (List UInt8)) (r : Value) (w' : World) : Prop := ∃ V', VLe V V' ∧ Mem w0 w' L V' ∧ IsTs V' r l
theorem ts_ret {w0 w : World} {L : List Ent} {V : Vw} {b n : Nat} {t : TypeId} {l : List (List UInt8)} (hM : Mem w0 w (.blk b (l.map St) t :: L) V) (hn : l.length = n) (hl : n ≤ 1000) : TsPost w0 L V l (.slice (some ⟨b, 0, none⟩) n n) w := by
  obtain ⟨V', hV, hM', hc⟩ := hM.freezeBlk
  subst hn
  exact ⟨V', hV, hM', isTs_of rfl (Nat.le_refl _) (by unfold maxLen; omega) (fun _ => rfl) (fun i u hu => by rw [Nat.zero_add]; exact hc i u hu)⟩
theorem keys_ok (w0 w : World) (L : List Ent) (V : Vw) (hM : Mem w0 w L V) : CallsOk Try.prog 20 #[] w (TsPost w0 L V keys) := by
  refine enter_ (N := 2) Try.func20 rfl rfl rfl ?_
  (repeat (first | refine seq_ ?_ | refine sq_normal ?_ | refine rl_nil ?_ | refine ret_ ?_ | (refine region_ (id := 0) ?_; (try (refine rl_assign (v := (Value.slice _ _ _ : Value)) rfl rfl ?_))) | (refine region_ (id := 1) ?_; (try ((refine rl_bsliceM (d := 1) [_, _, _, _, _, _, _] hM sl23 rfl rfl rfl rfl rfl (by decide) (by decide) ?_; clear hM; intro w b1 hM); (try (refine rl_assign (v := (Value.slice _ _ _ : Value)) rfl rfl ?_)))))))
  exact bp_ret1 (v := Value.slice _ _ _) rfl rfl (ts_ret (l := keys) hM rfl (by omega))
theorem refkeys_ok (w0 w : World) (L : List Ent) (V : Vw) (hM : Mem w0 w L V) : CallsOk Try.prog 22 #[] w (TsPost w0 L V keys) := by
  refine enter_ (N := 2) Try.func22 rfl rfl rfl ?_
  (repeat (first | refine seq_ ?_ | refine sq_normal ?_ | refine rl_nil ?_ | refine ret_ ?_ | (refine region_ (id := 0) ?_; (try (refine rl_assign (v := (Value.slice _ _ _ : Value)) rfl rfl ?_))) | (refine region_ (id := 1) ?_; (try ((refine rl_bsliceM (d := 1) [_, _, _, _, _, _, _] hM sl23 rfl rfl rfl rfl rfl (by decide) (by decide) ?_; clear hM; intro w b1 hM); (try (refine rl_assign (v := (Value.slice _ _ _ : Value)) rfl rfl ?_)))))))
  exact bp_ret1 (v := Value.slice _ _ _) rfl rfl (ts_ret (l := keys) hM rfl (by omega))
theorem symbols_ok (w0 w : World) (L : List Ent) (V : Vw) (hM : Mem w0 w L V) : CallsOk Try.prog 42 #[] w (TsPost w0 L V syms) := by
  refine enter_ (N := 2) Try.func42 rfl rfl rfl ?_
  (repeat (first | refine seq_ ?_ | refine sq_normal ?_ | refine rl_nil ?_ | refine ret_ ?_ | (refine region_ (id := 0) ?_; (try (refine rl_assign (v := (Value.slice _ _ _ : Value)) rfl rfl ?_))) | (refine region_ (id := 1) ?_; (try ((refine rl_bsliceM (d := 1) [_, _, _, _, _, _, _, _, _, _, _, _, _] hM sl23 rfl rfl rfl rfl rfl (by decide) (by decide) ?_; clear hM; intro w b1 hM); (try (refine rl_assign (v := (Value.slice _ _ _ : Value)) rfl rfl ?_)))))))
  exact bp_ret1 (v := Value.slice _ _ _) rfl rfl (ts_ret (l := syms) hM rfl (by omega))
theorem has_ok (v : Value) (ts : List (List UInt8)) (s : List UInt8) (w : World) (hv : IsTs w.cell? v ts) (hl : ts.length ≤ 1000000) : CallsOk Try.prog 47 #[v, St s] w fun r w' => r = .bool (decide (s ∈ ts)) ∧ w' = w := by
  obtain ⟨a, c, b, off, rfl, h1, h2, h3, h4⟩ := hv.open'
  have hml := maxLen_le
  refine enter_ (N := 18) Try.func47 rfl rfl rfl ?_
  have hM := Mem.init w
  (repeat (first | refine seq_ ?_ | refine sq_normal ?_ | refine rl_nil ?_ | refine block_ ?_ | (refine region_ (id := 0) ?_; (try (refine rl_assign (v := (Value.bool _ : Value)) rfl rfl ?_))) | (refine region_ (id := 1) ?_; (try (refine rl_assign (v := (Value.int _ _ : Value)) rfl rfl ?_)))))
  refine loop1 [(4, 18)] 5 (fun m v wr => ∃ p : Nat, v = .int .i64 p ∧ p ≤ ts.length ∧ m = ts.length - p ∧ wr = w ∧ s ∉ ts.take p) _
    ⟨0, rfl, by omega, rfl, rfl, by simp⟩ ?_
  rintro m τ v w' ⟨p, rfl, hp, rfl, hw, hall⟩ K0 hL0
  subst hw
  by_cases hlt : p < ts.length
  · obtain ⟨x, hx⟩ : ∃ x, ts[p]? = some x := ⟨_, List.getElem?_eq_getElem hlt⟩
    have hu := h4 p x hx
    have h3' := h3 (by omega)
    subst h3'
    by_cases he : x = s
    · (repeat (first | refine seq_ ?_ | refine sq_normal ?_ | refine sq_ret ?_ | refine rl_nil ?_ | refine cond_t rfl ?_ | refine skip_ ?_ | refine ret_ ?_ | refine block_ ?_ | refine inBlock_ret ?_ | refine kq_ret ?_ | (refine region_ (id := 2) ?_; (try (refine rl_move (v := (Value.int _ _ : Value)) rfl rfl ?_; (try (refine rl_move (v := (Value.slice _ _ _ : Value)) rfl rfl ?_; (try (refine rl_len sl23 rfl rfl ?_; (try ((first | (refine rl_lss_t rfl rfl rfl ?_ ?_; omega) | (refine rl_lss_f rfl rfl rfl ?_ ?_; omega))))))))))) | (refine region_ (id := 4) ?_; (try (refine rl_move (v := (Value.slice _ _ _ : Value)) rfl rfl ?_; (try (refine rl_move (v := (Value.int _ _ : Value)) rfl rfl ?_; (try ((first | (refine rl_idx1 sl23 rfl rfl rfl rfl ?_ ?_ ?_; omega; omega) | (apply rl_idx1 sl23 rfl rfl rfl; assumption; omega; omega)); (try ((first | refine rl_loadV hM vt9 rfl rfl (by first | assumption | exact VRow.get (by assumption) rfl | exact VRow.get0 (by assumption) rfl) ?_ | refine rl_loadM 0 hM vt9 rfl rfl rfl (by first | rfl | assumption) ?_ | refine rl_loadM 1 hM vt9 rfl rfl rfl (by first | rfl | assumption) ?_ | refine rl_loadM 2 hM vt9 rfl rfl rfl (by first | rfl | assumption) ?_ | refine rl_loadM 3 hM vt9 rfl rfl rfl (by first | rfl | assumption) ?_ | refine rl_loadM 4 hM vt9 rfl rfl rfl (by first | rfl | assumption) ?_ | refine rl_loadM 5 hM vt9 rfl rfl rfl (by first | rfl | assumption) ?_ | refine rl_loadM 6 hM vt9 rfl rfl rfl (by first | rfl | assumption) ?_ | refine rl_loadM 7 hM vt9 rfl rfl rfl (by first | rfl | assumption) ?_); (try (refine rl_move (v := (Value.string _ : Value)) rfl rfl ?_; (try ((first | refine rl_seql_t rfl rfl rfl (by first | rfl | assumption) ?_ | refine rl_seql_f rfl rfl rfl (by first | assumption | decide) ?_)))))))))))))) | (refine region_ (id := 5) ?_; (try (refine rl_assign (v := (Value.bool _ : Value)) rfl rfl ?_)))))
      refine bp_ret1 (v := Value.bool _) rfl rfl ⟨?_, rfl⟩
      rw [decide_eq_true (he ▸ List.mem_of_getElem? hx)]
    · (repeat (first | refine seq_ ?_ | refine sq_normal ?_ | refine rl_nil ?_ | refine cond_t rfl ?_ | refine cond_f rfl ?_ | refine skip_ ?_ | refine block_ ?_ | refine inBlock_normal ?_ | (refine region_ (id := 2) ?_; (try (refine rl_move (v := (Value.int _ _ : Value)) rfl rfl ?_; (try (refine rl_move (v := (Value.slice _ _ _ : Value)) rfl rfl ?_; (try (refine rl_len sl23 rfl rfl ?_; (try ((first | (refine rl_lss_t rfl rfl rfl ?_ ?_; omega) | (refine rl_lss_f rfl rfl rfl ?_ ?_; omega))))))))))) | (refine region_ (id := 3) ?_; (try (refine rl_move (v := (Value.int _ _ : Value)) rfl rfl ?_; (try ((refine rl_add rfl rfl rfl ?_ ?_ ?_; omega; omega); (try (refine rl_assign (v := (Value.int _ _ : Value)) rfl rfl ?_))))))) | (refine region_ (id := 4) ?_; (try (refine rl_move (v := (Value.slice _ _ _ : Value)) rfl rfl ?_; (try (refine rl_move (v := (Value.int _ _ : Value)) rfl rfl ?_; (try ((first | (refine rl_idx1 sl23 rfl rfl rfl rfl ?_ ?_ ?_; omega; omega) | (apply rl_idx1 sl23 rfl rfl rfl; assumption; omega; omega)); (try ((first | refine rl_loadV hM vt9 rfl rfl (by first | assumption | exact VRow.get (by assumption) rfl | exact VRow.get0 (by assumption) rfl) ?_ | refine rl_loadM 0 hM vt9 rfl rfl rfl (by first | rfl | assumption) ?_ | refine rl_loadM 1 hM vt9 rfl rfl rfl (by first | rfl | assumption) ?_ | refine rl_loadM 2 hM vt9 rfl rfl rfl (by first | rfl | assumption) ?_ | refine rl_loadM 3 hM vt9 rfl rfl rfl (by first | rfl | assumption) ?_ | refine rl_loadM 4 hM vt9 rfl rfl rfl (by first | rfl | assumption) ?_ | refine rl_loadM 5 hM vt9 rfl rfl rfl (by first | rfl | assumption) ?_ | refine rl_loadM 6 hM vt9 rfl rfl rfl (by first | rfl | assumption) ?_ | refine rl_loadM 7 hM vt9 rfl rfl rfl (by first | rfl | assumption) ?_); (try (refine rl_move (v := (Value.string _ : Value)) rfl rfl ?_; (try ((first | refine rl_seql_t rfl rfl rfl (by first | rfl | assumption) ?_ | refine rl_seql_f rfl rfl rfl (by first | assumption | decide) ?_))))))))))))))))
      refine kq_normal (hL0 (ts.length - (p + 1)) _ _ (by omega) (by (repeat (first | with_reducible exact Agree.ov | with_reducible exact Agree.refl _ _ | refine Agree.upd rfl ?_ | refine Agree.ovs rfl ?_))) ⟨p + 1, rfl, by omega, rfl, rfl, ?_⟩)
      rw [List.take_add_one, hx]
      simp [hall, Ne.symm he]
  · have hpe : p = ts.length := by omega
    subst hpe
    rw [List.take_length] at hall
    (repeat (first | refine seq_ ?_ | refine sq_normal ?_ | refine sq_exit ?_ | refine rl_nil ?_ | refine cond_f rfl ?_ | refine ret_ ?_ | refine exit_ ?_ | refine inBlock_exit ?_ | refine kq_exit ?_ | (refine region_ (id := 2) ?_; (try (refine rl_move (v := (Value.int _ _ : Value)) rfl rfl ?_; (try (refine rl_move (v := (Value.slice _ _ _ : Value)) rfl rfl ?_; (try (refine rl_len sl23 rfl rfl ?_; (try ((first | (refine rl_lss_t rfl rfl rfl ?_ ?_; omega) | (refine rl_lss_f rfl rfl rfl ?_ ?_; omega))))))))))) | (refine region_ (id := 6) ?_; (try (refine rl_assign (v := (Value.bool _ : Value)) rfl rfl ?_)))))
    refine bp_ret1 (v := Value.bool _) rfl rfl ⟨?_, rfl⟩
    rw [decide_eq_false hall]
theorem sindex_ok (v : Value) (ts : List (List UInt8)) (s : List UInt8) (w : World) (hv : IsTs w.cell? v ts) (hl : ts.length ≤ 1000000) : CallsOk Try.prog 55 #[v, St s] w fun r w' => ∃ z : Int, r = .int .i64 z ∧ -1 ≤ z ∧ (0 ≤ z ↔ s ∈ ts) ∧ w' = w := by
  obtain ⟨a, c, b, off, rfl, h1, h2, h3, h4⟩ := hv.open'
  have hml := maxLen_le
  refine enter_ (N := 19) Try.func55 rfl rfl rfl ?_
  have hM := Mem.init w
  (repeat (first | refine seq_ ?_ | refine sq_normal ?_ | refine rl_nil ?_ | refine block_ ?_ | (refine region_ (id := 0) ?_; (try (refine rl_assign (v := (Value.int _ _ : Value)) rfl rfl ?_))) | (refine region_ (id := 1) ?_; (try (refine rl_move (v := (Value.slice _ _ _ : Value)) rfl rfl ?_; (try (refine rl_len sl23 rfl rfl ?_; (try (refine rl_move (v := (Value.int _ _ : Value)) rfl rfl ?_)))))))))
  refine loop1 [(4, 6), (8, 19)] 8 (fun m v wr => ∃ p : Nat, v = .int .i64 p ∧ p ≤ ts.length ∧ m = ts.length - p ∧ wr = w ∧ s ∉ ts.take p) _
    ⟨0, rfl, by omega, rfl, rfl, by simp⟩ ?_
  rintro m τ v w' ⟨p, rfl, hp, rfl, hw, hall⟩ K0 hL0
  subst hw
  by_cases hlt : p < ts.length
  · obtain ⟨x, hx⟩ : ∃ x, ts[p]? = some x := ⟨_, List.getElem?_eq_getElem hlt⟩
    have hu := h4 p x hx
    have h3' := h3 (by omega)
    subst h3'
    by_cases he : s = x
    · (repeat (first | refine seq_ ?_ | refine sq_normal ?_ | refine sq_ret ?_ | refine rl_nil ?_ | refine cond_t rfl ?_ | refine skip_ ?_ | refine ret_ ?_ | refine block_ ?_ | refine inBlock_ret ?_ | refine kq_ret ?_ | (refine region_ (id := 2) ?_; (try ((first | (refine rl_lss_t rfl rfl rfl ?_ ?_; omega) | (refine rl_lss_f rfl rfl rfl ?_ ?_; omega))))) | (refine region_ (id := 3) ?_; (try (refine rl_move (v := (Value.int _ _ : Value)) rfl rfl ?_; (try (refine rl_assign (v := (Value.int _ _ : Value)) rfl rfl ?_))))) | (refine region_ (id := 4) ?_; (try (refine rl_move (v := (Value.string _ : Value)) rfl rfl ?_; (try (refine rl_move (v := (Value.slice _ _ _ : Value)) rfl rfl ?_; (try (refine rl_move (v := (Value.int _ _ : Value)) rfl rfl ?_; (try ((first | (refine rl_idx1 sl23 rfl rfl rfl rfl ?_ ?_ ?_; omega; omega) | (apply rl_idx1 sl23 rfl rfl rfl; assumption; omega; omega)); (try ((first | refine rl_loadV hM vt9 rfl rfl (by first | assumption | exact VRow.get (by assumption) rfl | exact VRow.get0 (by assumption) rfl) ?_ | refine rl_loadM 0 hM vt9 rfl rfl rfl (by first | rfl | assumption) ?_ | refine rl_loadM 1 hM vt9 rfl rfl rfl (by first | rfl | assumption) ?_ | refine rl_loadM 2 hM vt9 rfl rfl rfl (by first | rfl | assumption) ?_ | refine rl_loadM 3 hM vt9 rfl rfl rfl (by first | rfl | assumption) ?_ | refine rl_loadM 4 hM vt9 rfl rfl rfl (by first | rfl | assumption) ?_ | refine rl_loadM 5 hM vt9 rfl rfl rfl (by first | rfl | assumption) ?_ | refine rl_loadM 6 hM vt9 rfl rfl rfl (by first | rfl | assumption) ?_ | refine rl_loadM 7 hM vt9 rfl rfl rfl (by first | rfl | assumption) ?_); (try ((first | refine rl_seql_t rfl rfl rfl (by first | rfl | assumption) ?_ | refine rl_seql_f rfl rfl rfl (by first | assumption | decide) ?_)))))))))))))) | (refine region_ (id := 5) ?_; (try (refine rl_move (v := (Value.int _ _ : Value)) rfl rfl ?_; (try (refine rl_assign (v := (Value.int _ _ : Value)) rfl rfl ?_)))))))
      refine bp_ret1 (v := Value.int _ _) rfl rfl ⟨p, rfl, by omega, ?_, rfl⟩
      have := List.mem_of_getElem? hx
      simp [he, this]
    · (repeat (first | refine seq_ ?_ | refine sq_normal ?_ | refine rl_nil ?_ | refine cond_t rfl ?_ | refine cond_f rfl ?_ | refine skip_ ?_ | refine block_ ?_ | refine inBlock_normal ?_ | (refine region_ (id := 2) ?_; (try ((first | (refine rl_lss_t rfl rfl rfl ?_ ?_; omega) | (refine rl_lss_f rfl rfl rfl ?_ ?_; omega))))) | (refine region_ (id := 3) ?_; (try (refine rl_move (v := (Value.int _ _ : Value)) rfl rfl ?_; (try (refine rl_assign (v := (Value.int _ _ : Value)) rfl rfl ?_))))) | (refine region_ (id := 4) ?_; (try (refine rl_move (v := (Value.string _ : Value)) rfl rfl ?_; (try (refine rl_move (v := (Value.slice _ _ _ : Value)) rfl rfl ?_; (try (refine rl_move (v := (Value.int _ _ : Value)) rfl rfl ?_; (try ((first | (refine rl_idx1 sl23 rfl rfl rfl rfl ?_ ?_ ?_; omega; omega) | (apply rl_idx1 sl23 rfl rfl rfl; assumption; omega; omega)); (try ((first | refine rl_loadV hM vt9 rfl rfl (by first | assumption | exact VRow.get (by assumption) rfl | exact VRow.get0 (by assumption) rfl) ?_ | refine rl_loadM 0 hM vt9 rfl rfl rfl (by first | rfl | assumption) ?_ | refine rl_loadM 1 hM vt9 rfl rfl rfl (by first | rfl | assumption) ?_ | refine rl_loadM 2 hM vt9 rfl rfl rfl (by first | rfl | assumption) ?_ | refine rl_loadM 3 hM vt9 rfl rfl rfl (by first | rfl | assumption) ?_ | refine rl_loadM 4 hM vt9 rfl rfl rfl (by first | rfl | assumption) ?_ | refine rl_loadM 5 hM vt9 rfl rfl rfl (by first | rfl | assumption) ?_ | refine rl_loadM 6 hM vt9 rfl rfl rfl (by first | rfl | assumption) ?_ | refine rl_loadM 7 hM vt9 rfl rfl rfl (by first | rfl | assumption) ?_); (try ((first | refine rl_seql_t rfl rfl rfl (by first | rfl | assumption) ?_ | refine rl_seql_f rfl rfl rfl (by first | assumption | decide) ?_)))))))))))))) | (refine region_ (id := 6) ?_; (try ((refine rl_add rfl rfl rfl ?_ ?_ ?_; omega; omega); (try (refine rl_move (v := (Value.int _ _ : Value)) rfl rfl ?_)))))))
      refine kq_normal (hL0 (ts.length - (p + 1)) _ _ (by omega) (by (repeat (first | with_reducible exact Agree.ov | with_reducible exact Agree.refl _ _ | refine Agree.upd rfl ?_ | refine Agree.ovs rfl ?_))) ⟨p + 1, rfl, by omega, rfl, rfl, ?_⟩)
      rw [List.take_add_one, hx]
      simp [hall, he]
  · have hpe : p = ts.length := by omega
    subst hpe
    rw [List.take_length] at hall
    (repeat (first | refine seq_ ?_ | refine sq_normal ?_ | refine sq_exit ?_ | refine rl_nil ?_ | refine cond_f rfl ?_ | refine ret_ ?_ | refine exit_ ?_ | refine inBlock_exit ?_ | refine kq_exit ?_ | (refine region_ (id := 2) ?_; (try ((first | (refine rl_lss_t rfl rfl rfl ?_ ?_; omega) | (refine rl_lss_f rfl rfl rfl ?_ ?_; omega))))) | (refine region_ (id := 7) ?_; (try (refine rl_assign (v := (Value.int _ _ : Value)) rfl rfl ?_)))))
    exact bp_ret1 (v := Value.int _ _) rfl rfl ⟨-1, rfl, by omega, by simp [hall], rfl⟩
theorem contains_ok (v : Value) (ts : List (List UInt8)) (s : List UInt8) (w : World) (hv : IsTs w.cell? v ts) (hl : ts.length ≤ 1000000) : CallsOk Try.prog 41 #[v, St s] w fun r w' => r = .bool (decide (s ∈ ts)) ∧ w' = w := by
  obtain ⟨_, _, _, _, rfl, _⟩ := hv.open'
  refine enter_ (N := 9) Try.func41 rfl rfl rfl ?_
  have hM := Mem.init w
  (repeat (first | refine seq_ ?_ | refine sq_normal ?_ | refine rl_nil ?_ | (refine region_ (id := 0) ?_; (try (refine rl_assign (v := (Value.bool _ : Value)) rfl rfl ?_))) | (refine region_ (id := 1) ?_; (try (refine rl_move (v := (Value.slice _ _ _ : Value)) rfl rfl ?_; (try (refine rl_move (v := (Value.string _ : Value)) rfl rfl ?_)))))))
  refine rl_callf fn55 (sindex_ok _ ts s w hv hl) rfl rfl ?_
  rintro _ w' ⟨z, rfl, hz1, hz2, rfl⟩
  by_cases h : s ∈ ts
  · have hz := hz2.2 h
    (repeat (first | refine sq_normal ?_ | refine rl_nil ?_ | refine ret_ ?_ | refine rl_assign (v := (Value.bool _ : Value)) rfl rfl ?_ | (first | (refine rl_geq_t rfl rfl rfl ?_ ?_; omega) | (refine rl_geq_f rfl rfl rfl ?_ ?_; omega))))
    exact bp_ret1 (v := Value.bool _) rfl rfl ⟨by rw [decide_eq_true h], rfl⟩
  · have hz : z < 0 := by
      rcases Int.lt_or_le z 0 with h' | h'
      · exact h'
      · exact absurd (hz2.1 h') h
    (repeat (first | refine sq_normal ?_ | refine rl_nil ?_ | refine ret_ ?_ | refine rl_assign (v := (Value.bool _ : Value)) rfl rfl ?_ | (first | (refine rl_geq_t rfl rfl rfl ?_ ?_; omega) | (refine rl_geq_f rfl rfl rfl ?_ ?_; omega))))
    exact bp_ret1 (v := Value.bool _) rfl rfl ⟨by rw [decide_eq_false h], rfl⟩
theorem hasPrefix37_ok (s p : List UInt8) (w : World) (hs : s.length ≤ 1000000000) (hp : p.length ≤ 1000000000) :
    CallsOk Try.prog 37 #[St s, St p] w fun r w' => r = .bool (isPre s p) ∧ w' = w := by
  refine enter_ (N := 18) Try.func37 rfl rfl rfl ?_
  have hM := Mem.init w
  by_cases h1 : (p.length : Int) ≤ s.length
  · by_cases h2 : s.take p.length = p
    · have h2' : s.take (p.length : Int).toNat = p := h2
      (repeat (first | refine seq_ ?_ | refine sq_normal ?_ | refine rl_nil ?_ | refine ret_ ?_ | (refine region_ (id := 0) ?_; (try (refine rl_assign (v := (Value.bool _ : Value)) rfl rfl ?_))) | (refine region_ (id := 1) ?_; (try (refine rl_move (v := (Value.string _ : Value)) rfl rfl ?_; (try (refine rl_slen us9 rfl rfl ?_; (try (refine rl_move (v := (Value.string _ : Value)) rfl rfl ?_; (try (refine rl_slen us9 rfl rfl ?_; (try ((first | (refine rl_geq_t rfl rfl rfl ?_ ?_; omega) | (refine rl_geq_f rfl rfl rfl ?_ ?_; omega)); (try (refine rl_move (v := (Value.bool _ : Value)) rfl rfl ?_; (try ((first | refine rl_off rfl ?_ | refine rl_move (v := (Value.string _ : Value)) rfl rfl ?_); (try ((first | refine rl_off rfl ?_ | refine rl_move (v := (Value.string _ : Value)) rfl rfl ?_); (try ((first | refine rl_off rfl ?_ | refine rl_slen us9 rfl rfl ?_); (try ((first | refine rl_off rfl ?_ | (refine rl_sslice_h us9 rfl rfl rfl ?_ ?_ ?_; omega; omega)); (try ((first | refine rl_off rfl ?_ | refine rl_move (v := (Value.string _ : Value)) rfl rfl ?_); (try ((first | refine rl_off rfl ?_ | refine rl_seql_t rfl rfl rfl (by first | rfl | assumption) ?_ | refine rl_seql_f rfl rfl rfl (by first | assumption | decide) ?_); (try (refine rl_pick (v := (Value.bool _ : Value)) rfl rfl rfl ?_; (try (refine rl_assign (v := (Value.bool _ : Value)) rfl rfl ?_)))))))))))))))))))))))))))))))
      exact bp_ret1 (v := Value.bool _) rfl rfl ⟨by rw [isPre, decide_eq_true h2], rfl⟩
    · have h2' : s.take (p.length : Int).toNat ≠ p := h2
      (repeat (first | refine seq_ ?_ | refine sq_normal ?_ | refine rl_nil ?_ | refine ret_ ?_ | (refine region_ (id := 0) ?_; (try (refine rl_assign (v := (Value.bool _ : Value)) rfl rfl ?_))) | (refine region_ (id := 1) ?_; (try (refine rl_move (v := (Value.string _ : Value)) rfl rfl ?_; (try (refine rl_slen us9 rfl rfl ?_; (try (refine rl_move (v := (Value.string _ : Value)) rfl rfl ?_; (try (refine rl_slen us9 rfl rfl ?_; (try ((first | (refine rl_geq_t rfl rfl rfl ?_ ?_; omega) | (refine rl_geq_f rfl rfl rfl ?_ ?_; omega)); (try (refine rl_move (v := (Value.bool _ : Value)) rfl rfl ?_; (try ((first | refine rl_off rfl ?_ | refine rl_move (v := (Value.string _ : Value)) rfl rfl ?_); (try ((first | refine rl_off rfl ?_ | refine rl_move (v := (Value.string _ : Value)) rfl rfl ?_); (try ((first | refine rl_off rfl ?_ | refine rl_slen us9 rfl rfl ?_); (try ((first | refine rl_off rfl ?_ | (refine rl_sslice_h us9 rfl rfl rfl ?_ ?_ ?_; omega; omega)); (try ((first | refine rl_off rfl ?_ | refine rl_move (v := (Value.string _ : Value)) rfl rfl ?_); (try ((first | refine rl_off rfl ?_ | refine rl_seql_t rfl rfl rfl (by first | rfl | assumption) ?_ | refine rl_seql_f rfl rfl rfl (by first | assumption | decide) ?_); (try (refine rl_pick (v := (Value.bool _ : Value)) rfl rfl rfl ?_; (try (refine rl_assign (v := (Value.bool _ : Value)) rfl rfl ?_)))))))))))))))))))))))))))))))
      exact bp_ret1 (v := Value.bool _) rfl rfl ⟨by rw [isPre, decide_eq_false h2], rfl⟩
  · have h2 : s.take p.length ≠ p := fun h => by
      have := congrArg List.length h
      rw [List.length_take] at this
      omega
    (repeat (first | refine seq_ ?_ | refine sq_normal ?_ | refine rl_nil ?_ | refine ret_ ?_ | (refine region_ (id := 0) ?_; (try (refine rl_assign (v := (Value.bool _ : Value)) rfl rfl ?_))) | (refine region_ (id := 1) ?_; (try (refine rl_move (v := (Value.string _ : Value)) rfl rfl ?_; (try (refine rl_slen us9 rfl rfl ?_; (try (refine rl_move (v := (Value.string _ : Value)) rfl rfl ?_; (try (refine rl_slen us9 rfl rfl ?_; (try ((first | (refine rl_geq_t rfl rfl rfl ?_ ?_; omega) | (refine rl_geq_f rfl rfl rfl ?_ ?_; omega)); (try (refine rl_move (v := (Value.bool _ : Value)) rfl rfl ?_; (try ((first | refine rl_off rfl ?_ | refine rl_move (v := (Value.string _ : Value)) rfl rfl ?_); (try ((first | refine rl_off rfl ?_ | refine rl_move (v := (Value.string _ : Value)) rfl rfl ?_); (try ((first | refine rl_off rfl ?_ | refine rl_slen us9 rfl rfl ?_); (try ((first | refine rl_off rfl ?_ | (refine rl_sslice_h us9 rfl rfl rfl ?_ ?_ ?_; omega; omega)); (try ((first | refine rl_off rfl ?_ | refine rl_move (v := (Value.string _ : Value)) rfl rfl ?_); (try ((first | refine rl_off rfl ?_ | refine rl_seql_t rfl rfl rfl (by first | rfl | assumption) ?_ | refine rl_seql_f rfl rfl rfl (by first | assumption | decide) ?_); (try (refine rl_pick (v := (Value.bool _ : Value)) rfl rfl rfl ?_; (try (refine rl_assign (v := (Value.bool _ : Value)) rfl rfl ?_)))))))))))))))))))))))))))))))
    exact bp_ret1 (v := Value.bool _) rfl rfl ⟨by rw [isPre, decide_eq_false h2], rfl⟩
theorem hasPrefix_ok (s p : List UInt8) (w : World) (hs : s.length ≤ 1000000000) (hp : p.length ≤ 1000000000) :
    CallsOk Try.prog 28 #[St s, St p] w fun r w' => r = .bool (isPre s p) ∧ w' = w := by
  refine enter_ (N := 8) Try.func28 rfl rfl rfl ?_
  have hM := Mem.init w
  (repeat (first | refine seq_ ?_ | refine sq_normal ?_ | refine rl_nil ?_ | (refine region_ (id := 0) ?_; (try (refine rl_assign (v := (Value.bool _ : Value)) rfl rfl ?_))) | (refine region_ (id := 1) ?_; (try (refine rl_move (v := (Value.string _ : Value)) rfl rfl ?_; (try (refine rl_move (v := (Value.string _ : Value)) rfl rfl ?_)))))))
  refine rl_callf fn37 (hasPrefix37_ok s p w hs hp) rfl rfl ?_
  rintro _ w ⟨rfl, rfl⟩
  (repeat (first | refine sq_normal ?_ | refine rl_nil ?_ | refine ret_ ?_ | refine rl_assign (v := (Value.bool _ : Value)) rfl rfl ?_))
  exact bp_ret1 (v := Value.bool _) rfl rfl ⟨rfl, rfl⟩
/-- A closure that tells of each byte whether it is such. -/
def Tells (f : Nat) (p : UInt8 → Bool) : Prop := ∀ (c : UInt8) (w0 w : World) (L : List Ent) (V : Vw), Mem w0 w L V → CallsOk Try.prog f #[.int .u8 c.toNat] w fun r w' => r = .bool (p c) ∧ Mem w0 w' L V
theorem mem_digits (c : UInt8) : c ∈ [(48 : UInt8), 49, 50, 51, 52, 53, 54, 55, 56, 57] ↔ dig c = true := by
  constructor
  · intro h
    simp only [List.mem_cons, List.not_mem_nil, or_false] at h
    rcases h with rfl | rfl | rfl | rfl | rfl | rfl | rfl | rfl | rfl | rfl <;> rfl
  · intro h
    simp only [dig, Bool.and_eq_true, decide_eq_true_eq] at h
    have : ∀ d : UInt8, c.toNat = d.toNat → c = d := fun d h => UInt8.toNat_inj.1 h
    have h2 : c.toNat = 48 ∨ c.toNat = 49 ∨ c.toNat = 50 ∨ c.toNat = 51 ∨ c.toNat = 52 ∨ c.toNat = 53 ∨ c.toNat = 54 ∨ c.toNat = 55 ∨ c.toNat = 56 ∨ c.toNat = 57 := by omega
    rcases h2 with h | h | h | h | h | h | h | h | h | h
    · rw [this 48 h]; simp
    · rw [this 49 h]; simp
    · rw [this 50 h]; simp
    · rw [this 51 h]; simp
    · rw [this 52 h]; simp
    · rw [this 53 h]; simp
    · rw [this 54 h]; simp
    · rw [this 55 h]; simp
    · rw [this 56 h]; simp
    · rw [this 57 h]; simp
theorem isDigit_ok : Tells 38 dig := by
  intro c w0 w L V hM
  refine enter_ (N := 6) Try.func38 rfl rfl rfl ?_
  (repeat (first | refine seq_ ?_ | refine sq_normal ?_ | refine rl_nil ?_ | (refine region_ (id := 0) ?_; (try (refine rl_assign (v := (Value.bool _ : Value)) rfl rfl ?_))) | (refine region_ (id := 1) ?_; (try (refine rl_move (v := (Value.int _ _ : Value)) rfl rfl ?_)))))
  refine rl_callf fn27 (index27_ok [48, 49, 50, 51, 52, 53, 54, 55, 56, 57] c w) rfl rfl ?_
  rintro _ w ⟨rfl, rfl⟩
  rcases firstIdx_nn [48, 49, 50, 51, 52, 53, 54, 55, 56, 57] c with ⟨h1, h2⟩ | ⟨h1, h2, h3⟩
  · rw [h1]
    rw [mem_digits, Bool.not_eq_true] at h2
    (repeat (first | refine sq_normal ?_ | refine rl_nil ?_ | refine ret_ ?_ | refine rl_assign (v := (Value.bool _ : Value)) rfl rfl ?_ | (first | (refine rl_geq_t rfl rfl rfl ?_ ?_; omega) | (refine rl_geq_f rfl rfl rfl ?_ ?_; omega))))
    exact bp_ret1 (v := Value.bool _) rfl rfl ⟨by rw [h2], hM⟩
  · rw [mem_digits] at h3
    (repeat (first | refine sq_normal ?_ | refine rl_nil ?_ | refine ret_ ?_ | refine rl_assign (v := (Value.bool _ : Value)) rfl rfl ?_ | (first | (refine rl_geq_t rfl rfl rfl ?_ ?_; omega) | (refine rl_geq_f rfl rfl rfl ?_ ?_; omega))))
    exact bp_ret1 (v := Value.bool _) rfl rfl ⟨by rw [h3], hM⟩
theorem isNoNl_ok : Tells 30 noNl := by
  intro c w0 w L V hM
  refine enter_ (N := 5) Try.func30 rfl rfl rfl ?_
  by_cases h : c.toNat = 10
  · (repeat (first | refine seq_ ?_ | refine sq_normal ?_ | refine rl_nil ?_ | refine ret_ ?_ | (refine region_ (id := 0) ?_; (try (refine rl_assign (v := (Value.bool _ : Value)) rfl rfl ?_))) | (refine region_ (id := 1) ?_; (try (refine rl_move (v := (Value.int _ _ : Value)) rfl rfl ?_; (try ((first | (refine rl_kneq_t rfl rfl rfl ?_ ?_; omega) | (refine rl_kneq_f rfl rfl rfl ?_ ?_; omega)); (try (refine rl_assign (v := (Value.bool _ : Value)) rfl rfl ?_)))))))))
    exact bp_ret1 (v := Value.bool _) rfl rfl ⟨by simp [noNl, h], hM⟩
  · (repeat (first | refine seq_ ?_ | refine sq_normal ?_ | refine rl_nil ?_ | refine ret_ ?_ | (refine region_ (id := 0) ?_; (try (refine rl_assign (v := (Value.bool _ : Value)) rfl rfl ?_))) | (refine region_ (id := 1) ?_; (try (refine rl_move (v := (Value.int _ _ : Value)) rfl rfl ?_; (try ((first | (refine rl_kneq_t rfl rfl rfl ?_ ?_; omega) | (refine rl_kneq_f rfl rfl rfl ?_ ?_; omega)); (try (refine rl_assign (v := (Value.bool _ : Value)) rfl rfl ?_)))))))))
    exact bp_ret1 (v := Value.bool _) rfl rfl ⟨by simp [noNl, h], hM⟩
theorem tw_take {s : List UInt8} {p : UInt8 → Bool} {n : Nat} (h : (s.take n).all p = true) (hn : n ≤ s.length) (hc : ∀ c, s[n]? = some c → p c = false) : (s.takeWhile p).length = n := by
  have e : s.takeWhile p = s.take n := by
    conv => lhs; rw [← List.take_append_drop n s]
    rw [List.takeWhile_append_of_pos (by rw [List.all_eq_true] at h; exact h)]
    cases hd : s.drop n with
    | nil => simp
    | cons a r =>
      have : s[n]? = some a := by
        have := congrArg List.head? hd
        rw [List.head?_drop] at this
        exact this
      rw [List.takeWhile_cons, hc a this]
      simp
  rw [e, List.length_take]
  omega
theorem while_ok (f : Nat) (p : UInt8 → Bool) (hf : Tells f p) (hfn : FnT Try.prog f) (s : List UInt8) (w0 w : World) (L : List Ent) (V : Vw) (hM : Mem w0 w L V) (hs : s.length ≤ 1000000000) :
    CallsOk Try.prog 29 #[St s, .func (.func f) #[] #[]] w fun r w' => r = .int .i64 (s.takeWhile p).length ∧ Mem w0 w' L V := by
  refine enter_ (N := 20) Try.func29 rfl rfl rfl ?_
  (repeat (first | refine seq_ ?_ | refine sq_normal ?_ | refine rl_nil ?_ | refine block_ ?_ | (refine region_ (id := 0) ?_; (try (refine rl_assign (v := (Value.int _ _ : Value)) rfl rfl ?_))) | (refine region_ (id := 1) ?_; (try (refine rl_assign (v := (Value.int _ _ : Value)) rfl rfl ?_)))))
  refine loop1 [(5, 19)] 5 (fun m v wr => ∃ n : Nat, v = .int .i64 n ∧ n ≤ s.length ∧ m = s.length - n ∧ Mem w0 wr L V ∧ (s.take n).all p = true) _
    ⟨0, rfl, by omega, rfl, hM, by simp⟩ ?_
  clear hM
  rintro m τ v w ⟨n, rfl, hn, rfl, hM, hall⟩ K0 hL0
  by_cases hlt : n < s.length
  · obtain ⟨c, hc⟩ : ∃ c, s[n]? = some c := ⟨_, List.getElem?_eq_getElem hlt⟩
    (repeat (first | refine seq_ ?_ | (refine region_ (id := 2) ?_; (try (refine rl_move (v := (Value.int _ _ : Value)) rfl rfl ?_; (try (refine rl_move (v := (Value.string _ : Value)) rfl rfl ?_; (try (refine rl_slen us9 rfl rfl ?_; (try ((first | (refine rl_lss_t rfl rfl rfl ?_ ?_; omega) | (refine rl_lss_f rfl rfl rfl ?_ ?_; omega)); (try (refine rl_move (v := (Value.bool _ : Value)) rfl rfl ?_; (try ((first | refine rl_off rfl ?_ | refine rl_move (v := (Value.func _ _ _ : Value)) rfl rfl ?_ | refine rl_move (v := (Value.nilFunc : Value)) rfl rfl ?_); (try ((first | refine rl_off rfl ?_ | refine rl_move (v := (Value.string _ : Value)) rfl rfl ?_); (try ((first | refine rl_off rfl ?_ | refine rl_move (v := (Value.int _ _ : Value)) rfl rfl ?_); (try ((first | refine rl_off rfl ?_ | refine rl_sindex us9 rfl rfl rfl (by omega) (by assumption) ?_))))))))))))))))))))))
    refine rl_callv hfn (cap := []) (hf c w0 w L V hM) rfl rfl rfl ?_
    clear hM
    rintro _ w ⟨rfl, hM⟩
    cases hp : p c with
    | true =>
      (repeat (first | refine sq_normal ?_ | refine rl_nil ?_ | refine cond_t rfl ?_ | refine skip_ ?_ | refine block_ ?_ | refine inBlock_normal ?_ | (refine region_ (id := 3) ?_; (try (refine rl_move (v := (Value.int _ _ : Value)) rfl rfl ?_; (try ((refine rl_add rfl rfl rfl ?_ ?_ ?_; omega; omega); (try (refine rl_assign (v := (Value.int _ _ : Value)) rfl rfl ?_))))))) | refine rl_pick (v := (Value.bool _ : Value)) rfl rfl rfl ?_))
      refine kq_normal (hL0 (s.length - (n + 1)) _ _ (by omega) (by (repeat (first | with_reducible exact Agree.ov | with_reducible exact Agree.refl _ _ | refine Agree.upd rfl ?_ | refine Agree.ovs rfl ?_))) ⟨n + 1, rfl, by omega, rfl, hM, all_take_succ hc hall hp⟩)
    | false =>
      (repeat (first | refine seq_ ?_ | refine sq_normal ?_ | refine sq_exit ?_ | refine rl_nil ?_ | refine cond_f rfl ?_ | refine ret_ ?_ | refine exit_ ?_ | refine inBlock_exit ?_ | refine kq_exit ?_ | (refine region_ (id := 4) ?_; (try (refine rl_move (v := (Value.int _ _ : Value)) rfl rfl ?_; (try (refine rl_assign (v := (Value.int _ _ : Value)) rfl rfl ?_))))) | refine rl_pick (v := (Value.bool _ : Value)) rfl rfl rfl ?_))
      refine bp_ret1 (v := Value.int _ _) rfl rfl ⟨?_, hM⟩
      rw [tw_take hall hn (fun c' hc' => by rw [hc] at hc'; cases hc'; exact hp)]
  · (repeat (first | refine seq_ ?_ | refine sq_normal ?_ | refine sq_exit ?_ | refine rl_nil ?_ | refine cond_f rfl ?_ | refine ret_ ?_ | refine exit_ ?_ | refine inBlock_exit ?_ | refine kq_exit ?_ | (refine region_ (id := 2) ?_; (try (refine rl_move (v := (Value.int _ _ : Value)) rfl rfl ?_; (try (refine rl_move (v := (Value.string _ : Value)) rfl rfl ?_; (try (refine rl_slen us9 rfl rfl ?_; (try ((first | (refine rl_lss_t rfl rfl rfl ?_ ?_; omega) | (refine rl_lss_f rfl rfl rfl ?_ ?_; omega)); (try (refine rl_move (v := (Value.bool _ : Value)) rfl rfl ?_; (try ((first | refine rl_off rfl ?_ | refine rl_move (v := (Value.func _ _ _ : Value)) rfl rfl ?_ | refine rl_move (v := (Value.nilFunc : Value)) rfl rfl ?_); (try ((first | refine rl_off rfl ?_ | refine rl_move (v := (Value.string _ : Value)) rfl rfl ?_); (try ((first | refine rl_off rfl ?_ | refine rl_move (v := (Value.int _ _ : Value)) rfl rfl ?_); (try ((first | refine rl_off rfl ?_ | refine rl_sindex us9 rfl rfl rfl (by omega) (by assumption) ?_)))))))))))))))))))) | (refine region_ (id := 4) ?_; (try (refine rl_move (v := (Value.int _ _ : Value)) rfl rfl ?_; (try (refine rl_assign (v := (Value.int _ _ : Value)) rfl rfl ?_))))) | (first | refine rl_off rfl ?_ | refine rl_move (v := (Value.func _ _ _ : Value)) rfl rfl ?_ | refine rl_move (v := (Value.nilFunc : Value)) rfl rfl ?_) | refine rl_pick (v := (Value.bool _ : Value)) rfl rfl rfl ?_))
    refine bp_ret1 (v := Value.int _ _) rfl rfl ⟨?_, hM⟩
    rw [tw_take hall hn (fun c' hc' => absurd (List.getElem?_eq_some_iff.1 hc').1 hlt)]
end Go.Proofs.Ytlalagkkmoifpaa.Lex
