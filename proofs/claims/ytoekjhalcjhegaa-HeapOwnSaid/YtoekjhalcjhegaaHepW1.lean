/- Walks of heap: is, slices.Clone, own, right, New, Len, Get, Alloc. -/
import Derived.Test.YtoekjhalcjhegaaHepTy
import Derived.Test.YtoekjhalcjhegaaHepM
set_option linter.unusedVariables false
set_option linter.unusedSimpArgs false
namespace Go.Proofs.Ytoekjhalcjhegaa.Hep
open Go Go.Eng Go.RowKit Go.Hp
attribute [local irreducible] RL RX KQ SQ Exit.inBlock Exit.then BP NP CallsOk IsSl IsRows IsInts IsBools Own Blk Code.wp Calls wpList
theorem is_ok (w0 w : World) (L : List Ent) (V : Vw) (h n c : Nat) (a : Option Addr) (most at_ : Int) (t : TypeId) (i : Nat) (hM : Mem w0 w L V) (hi : L[i]? = some (.blk h [.slice a n c, .int .i64 most] t)) :
    CallsOk Try.prog 35 #[.pointer (some ⟨h, 0, none⟩), .int .i64 at_] w fun r w' => r = .bool (inB n at_) ∧ w = w' := by
  have hc : w.cell? ⟨h, 0, none⟩ = some (.slice a n c) := hM.cell hi rfl
  refine enter_ (N := 16) Try.func35 rfl rfl rfl ?_
  by_cases h0 : 0 ≤ at_
  · (repeat (first | refine seq_ ?_ | refine sq_normal ?_ | refine rl_nil ?_ | (refine region_ (id := 0) ?_; (try (refine rl_assign (v := (Value.bool _ : Value)) rfl rfl ?_))) | (refine region_ (id := 1) ?_; (try (refine rl_move (v := (Value.int _ _ : Value)) rfl rfl ?_; (try ((first | (refine rl_geq_t rfl rfl rfl ?_ ?_; omega) | (refine rl_geq_f rfl rfl rfl ?_ ?_; omega)); (try (refine rl_move (v := (Value.bool _ : Value)) rfl rfl ?_; (try ((first | refine rl_off rfl ?_ | refine rl_move (v := (Value.int _ _ : Value)) rfl rfl ?_); (try ((first | refine rl_off rfl ?_ | refine rl_move (v := (Value.pointer _ : Value)) rfl rfl ?_); (try ((first | refine rl_off rfl ?_ | refine rl_nilck rfl rfl ?_); (try ((first | refine rl_off rfl ?_ | refine rl_fld fd67_0 rfl rfl ?_); (try ((first | refine rl_off rfl ?_ | refine rl_loadV hM vt60 rfl rfl (by first | assumption | exact VRow.get (by assumption) rfl | exact VRow.get0 (by assumption) rfl) ?_ | refine rl_loadM 0 hM vt60 rfl rfl rfl (by first | rfl | assumption) ?_ | refine rl_loadM 1 hM vt60 rfl rfl rfl (by first | rfl | assumption) ?_ | refine rl_loadM 2 hM vt60 rfl rfl rfl (by first | rfl | assumption) ?_ | refine rl_loadM 3 hM vt60 rfl rfl rfl (by first | rfl | assumption) ?_ | refine rl_loadM 4 hM vt60 rfl rfl rfl (by first | rfl | assumption) ?_ | refine rl_loadM 5 hM vt60 rfl rfl rfl (by first | rfl | assumption) ?_ | refine rl_loadO 0 hM vt60 rfl rfl rfl (by first | assumption | exact ORow.get (by assumption) rfl | exact ORow.get0 (by assumption) rfl) ?_ | refine rl_loadO 1 hM vt60 rfl rfl rfl (by first | assumption | exact ORow.get (by assumption) rfl | exact ORow.get0 (by assumption) rfl) ?_ | refine rl_loadO 2 hM vt60 rfl rfl rfl (by first | assumption | exact ORow.get (by assumption) rfl | exact ORow.get0 (by assumption) rfl) ?_ | refine rl_loadO 3 hM vt60 rfl rfl rfl (by first | assumption | exact ORow.get (by assumption) rfl | exact ORow.get0 (by assumption) rfl) ?_ | refine rl_loadO 4 hM vt60 rfl rfl rfl (by first | assumption | exact ORow.get (by assumption) rfl | exact ORow.get0 (by assumption) rfl) ?_ | refine rl_loadO 5 hM vt60 rfl rfl rfl (by first | assumption | exact ORow.get (by assumption) rfl | exact ORow.get0 (by assumption) rfl) ?_); (try ((first | refine rl_off rfl ?_ | refine rl_len sl60 rfl rfl ?_); (try ((first | refine rl_off rfl ?_ | (refine rl_lss_t rfl rfl rfl ?_ ?_; omega) | (refine rl_lss_f rfl rfl rfl ?_ ?_; omega)); (try (refine rl_pick (v := (Value.bool _ : Value)) rfl rfl rfl ?_; (try (refine rl_assign (v := (Value.bool _ : Value)) rfl rfl ?_)))))))))))))))))))))))))))
    refine rl_load vt60 rfl rfl hc ?_
    by_cases h1 : at_ < n
    · (repeat (first | refine sq_normal ?_ | refine rl_nil ?_ | refine ret_ ?_ | refine rl_assign (v := (Value.bool _ : Value)) rfl rfl ?_ | (first | refine rl_off rfl ?_ | refine rl_len sl60 rfl rfl ?_) | (first | refine rl_off rfl ?_ | (refine rl_lss_t rfl rfl rfl ?_ ?_; omega) | (refine rl_lss_f rfl rfl rfl ?_ ?_; omega)) | refine rl_pick (v := (Value.bool _ : Value)) rfl rfl rfl ?_))
      refine bp_ret1 (v := Value.bool _) rfl rfl ⟨?_, rfl⟩
      rw [inB_iff.2 ⟨h0, h1⟩]
    · (repeat (first | refine sq_normal ?_ | refine rl_nil ?_ | refine ret_ ?_ | refine rl_assign (v := (Value.bool _ : Value)) rfl rfl ?_ | (first | refine rl_off rfl ?_ | refine rl_len sl60 rfl rfl ?_) | (first | refine rl_off rfl ?_ | (refine rl_lss_t rfl rfl rfl ?_ ?_; omega) | (refine rl_lss_f rfl rfl rfl ?_ ?_; omega)) | refine rl_pick (v := (Value.bool _ : Value)) rfl rfl rfl ?_))
      refine bp_ret1 (v := Value.bool _) rfl rfl ⟨?_, rfl⟩
      congr 1
      cases hb : inB n at_ with
      | false => rfl
      | true => exact absurd (inB_iff.1 hb).2 h1
  · (repeat (first | refine seq_ ?_ | refine sq_normal ?_ | refine rl_nil ?_ | refine ret_ ?_ | (refine region_ (id := 0) ?_; (try (refine rl_assign (v := (Value.bool _ : Value)) rfl rfl ?_))) | (refine region_ (id := 1) ?_; (try (refine rl_move (v := (Value.int _ _ : Value)) rfl rfl ?_; (try ((first | (refine rl_geq_t rfl rfl rfl ?_ ?_; omega) | (refine rl_geq_f rfl rfl rfl ?_ ?_; omega)); (try (refine rl_move (v := (Value.bool _ : Value)) rfl rfl ?_; (try ((first | refine rl_off rfl ?_ | refine rl_move (v := (Value.int _ _ : Value)) rfl rfl ?_); (try ((first | refine rl_off rfl ?_ | refine rl_move (v := (Value.pointer _ : Value)) rfl rfl ?_); (try ((first | refine rl_off rfl ?_ | refine rl_nilck rfl rfl ?_); (try ((first | refine rl_off rfl ?_ | refine rl_fld fd67_0 rfl rfl ?_); (try ((first | refine rl_off rfl ?_ | refine rl_loadV hM vt60 rfl rfl (by first | assumption | exact VRow.get (by assumption) rfl | exact VRow.get0 (by assumption) rfl) ?_ | refine rl_loadM 0 hM vt60 rfl rfl rfl (by first | rfl | assumption) ?_ | refine rl_loadM 1 hM vt60 rfl rfl rfl (by first | rfl | assumption) ?_ | refine rl_loadM 2 hM vt60 rfl rfl rfl (by first | rfl | assumption) ?_ | refine rl_loadM 3 hM vt60 rfl rfl rfl (by first | rfl | assumption) ?_ | refine rl_loadM 4 hM vt60 rfl rfl rfl (by first | rfl | assumption) ?_ | refine rl_loadM 5 hM vt60 rfl rfl rfl (by first | rfl | assumption) ?_ | refine rl_loadO 0 hM vt60 rfl rfl rfl (by first | assumption | exact ORow.get (by assumption) rfl | exact ORow.get0 (by assumption) rfl) ?_ | refine rl_loadO 1 hM vt60 rfl rfl rfl (by first | assumption | exact ORow.get (by assumption) rfl | exact ORow.get0 (by assumption) rfl) ?_ | refine rl_loadO 2 hM vt60 rfl rfl rfl (by first | assumption | exact ORow.get (by assumption) rfl | exact ORow.get0 (by assumption) rfl) ?_ | refine rl_loadO 3 hM vt60 rfl rfl rfl (by first | assumption | exact ORow.get (by assumption) rfl | exact ORow.get0 (by assumption) rfl) ?_ | refine rl_loadO 4 hM vt60 rfl rfl rfl (by first | assumption | exact ORow.get (by assumption) rfl | exact ORow.get0 (by assumption) rfl) ?_ | refine rl_loadO 5 hM vt60 rfl rfl rfl (by first | assumption | exact ORow.get (by assumption) rfl | exact ORow.get0 (by assumption) rfl) ?_); (try ((first | refine rl_off rfl ?_ | refine rl_len sl60 rfl rfl ?_); (try ((first | refine rl_off rfl ?_ | (refine rl_lss_t rfl rfl rfl ?_ ?_; omega) | (refine rl_lss_f rfl rfl rfl ?_ ?_; omega)); (try (refine rl_pick (v := (Value.bool _ : Value)) rfl rfl rfl ?_; (try (refine rl_assign (v := (Value.bool _ : Value)) rfl rfl ?_)))))))))))))))))))))))))))
    refine bp_ret1 (v := Value.bool _) rfl rfl ⟨?_, rfl⟩
    congr 1
    cases hb : inB n at_ with
    | false => rfl
    | true => exact absurd (inB_iff.1 hb).1 h0
theorem clone_ok (w0 w : World) (L : List Ent) (V : Vw) (v : Value) (xs : List Int) (hM : Mem w0 w L V) (hx : IsInts V v xs) (hl : xs.length ≤ 1000000) :
    CallsOk Try.prog 44 #[v] w fun r w' => Mem w0 w' (.own r 3 1 xs.length (xs.map (Value.int .i64)) :: L) V := by
  obtain ⟨a, c, b, off, rfl, h1, h2, h3, h4⟩ := hx.open
  refine enter_ (N := 8) Try.func44 rfl rfl rfl ?_
  cases a with
  | none =>
    have hn : xs.length = 0 := by
      rcases Nat.eq_zero_or_pos xs.length with h | h
      · exact h
      · have := h3 h; cases this
    obtain rfl := List.eq_nil_of_length_eq_zero hn
    (repeat (first | refine seq_ ?_ | refine sq_normal ?_ | refine sq_ret ?_ | refine rl_nil ?_ | refine cond_t rfl ?_ | refine ret_ ?_ | (refine region_ (id := 0) ?_; (try (refine rl_assign (v := (Value.slice _ _ _ : Value)) rfl rfl ?_))) | (refine region_ (id := 1) ?_; (try (refine rl_move (v := (Value.slice _ _ _ : Value)) rfl rfl ?_; (try (refine rl_eqnil sl29 rfl rfl rfl rfl ?_))))) | (refine region_ (id := 2) ?_; (try (refine rl_assign (v := (Value.slice _ _ _ : Value)) rfl rfl ?_)))))
    exact bp_ret1 (v := Value.slice _ _ _) rfl rfl (hM.newOwn 3 1)
  | some A =>
    (repeat (first | refine seq_ ?_ | refine sq_normal ?_ | refine rl_nil ?_ | refine cond_f rfl ?_ | refine skip_ ?_ | (refine region_ (id := 0) ?_; (try (refine rl_assign (v := (Value.slice _ _ _ : Value)) rfl rfl ?_))) | (refine region_ (id := 1) ?_; (try (refine rl_move (v := (Value.slice _ _ _ : Value)) rfl rfl ?_; (try (refine rl_eqnil sl29 rfl rfl rfl rfl ?_))))) | (refine region_ (id := 3) ?_; (try ((refine rl_bslice0M (d := 5) hM sl29 rfl ?_; clear hM; intro w b5 hM); (try (refine rl_move (v := (Value.slice _ _ _ : Value)) rfl rfl ?_)))))))
    refine rl_appendM 0 (news := xs.map (Value.int .i64)) (B := b) (off := off) (hM.asOwn (n := 0) (sz := 1) 0 rfl rfl (by decide)) sl29 rfl (by decide) rfl ?_ rfl rfl rfl h3 ?_ ?_ ?_ ?_ ?_
    · intro j u hu
      rw [List.getElem?_map, Option.map_eq_some_iff] at hu
      obtain ⟨x, hx, rfl⟩ := hu
      exact hM.view (h4 _ _ hx)
    · simp
    · intro u hu
      obtain ⟨x, _, rfl⟩ := List.mem_map.1 hu
      rfl
    · unfold maxLen; omega
    · omega
    clear hM
    intro w a3 c3 _ _ hM
    simp only [Nat.zero_add, List.nil_append] at hM
    (repeat (first | refine sq_normal ?_ | refine rl_nil ?_ | refine ret_ ?_ | refine rl_assign (v := (Value.slice _ _ _ : Value)) rfl rfl ?_))
    refine bp_ret1 (v := Value.slice _ _ _) rfl rfl ?_
    simpa using hM
theorem own_ok (w0 w : World) (L : List Ent) (V : Vw) (a : Nd) (v : Value) (hM : Mem w0 w L V) (hx : IsInts V v a.kids) (hl : a.kids.length ≤ 1000000) :
    CallsOk Try.prog 33 #[.agg (ndCells a v).toArray] w fun r w' => ∃ v', r = .agg (ndCells a v').toArray ∧ Mem w0 w' (.own v' 3 1 a.kids.length (a.kids.map (Value.int .i64)) :: L) V := by
  obtain ⟨aa, c, b, off, rfl, _⟩ := hx.open
  refine enter_ (N := 8) Try.func33 rfl rfl rfl ?_
  unfold ndCells
  (repeat (first | refine seq_ ?_ | refine sq_normal ?_ | refine rl_nil ?_ | (refine region_ (id := 0) ?_; (try ((refine rl_boxAM (d := 1) hM rfl rfl ?_; clear hM; intro w b1 hM); (try ((refine rl_allocAM (d := 2) hM ag31 rfl ?_; clear hM; intro w b2 hM)))))) | (refine region_ (id := 1) ?_; (try (refine rl_fld fd31_3 rfl rfl ?_; (try ((first | refine rl_loadV hM vt29 rfl rfl (by first | assumption | exact VRow.get (by assumption) rfl | exact VRow.get0 (by assumption) rfl) ?_ | refine rl_loadM 0 hM vt29 rfl rfl rfl (by first | rfl | assumption) ?_ | refine rl_loadM 1 hM vt29 rfl rfl rfl (by first | rfl | assumption) ?_ | refine rl_loadM 2 hM vt29 rfl rfl rfl (by first | rfl | assumption) ?_ | refine rl_loadM 3 hM vt29 rfl rfl rfl (by first | rfl | assumption) ?_ | refine rl_loadM 4 hM vt29 rfl rfl rfl (by first | rfl | assumption) ?_ | refine rl_loadM 5 hM vt29 rfl rfl rfl (by first | rfl | assumption) ?_ | refine rl_loadO 0 hM vt29 rfl rfl rfl (by first | assumption | exact ORow.get (by assumption) rfl | exact ORow.get0 (by assumption) rfl) ?_ | refine rl_loadO 1 hM vt29 rfl rfl rfl (by first | assumption | exact ORow.get (by assumption) rfl | exact ORow.get0 (by assumption) rfl) ?_ | refine rl_loadO 2 hM vt29 rfl rfl rfl (by first | assumption | exact ORow.get (by assumption) rfl | exact ORow.get0 (by assumption) rfl) ?_ | refine rl_loadO 3 hM vt29 rfl rfl rfl (by first | assumption | exact ORow.get (by assumption) rfl | exact ORow.get0 (by assumption) rfl) ?_ | refine rl_loadO 4 hM vt29 rfl rfl rfl (by first | assumption | exact ORow.get (by assumption) rfl | exact ORow.get0 (by assumption) rfl) ?_ | refine rl_loadO 5 hM vt29 rfl rfl rfl (by first | assumption | exact ORow.get (by assumption) rfl | exact ORow.get0 (by assumption) rfl) ?_))))))))
  refine rl_callf fn44 (clone_ok w0 w _ V _ a.kids hM hx hl) rfl rfl ?_
  clear hM
  intro v' w hM
  obtain ⟨a', c', rfl, _⟩ := hM.ownShape (i := 0) rfl
  (repeat (first | refine seq_ ?_ | refine sq_normal ?_ | refine rl_nil ?_ | refine ret_ ?_ | (refine region_ (id := 2) ?_; (try ((first | refine rl_loadAV hM ag31 rfl rfl (by assumption) (by rfl) ?_ | refine rl_loadAM (vs := [_, _, _, _]) 0 hM ag31 rfl rfl rfl rfl rfl ?_ | refine rl_loadAM (vs := [_, _, _, _]) 1 hM ag31 rfl rfl rfl rfl rfl ?_ | refine rl_loadAM (vs := [_, _, _, _]) 2 hM ag31 rfl rfl rfl rfl rfl ?_ | refine rl_loadAM (vs := [_, _, _, _]) 3 hM ag31 rfl rfl rfl rfl rfl ?_ | refine rl_loadAM (vs := [_, _, _, _]) 4 hM ag31 rfl rfl rfl rfl rfl ?_ | refine rl_loadAM (vs := [_, _, _, _]) 5 hM ag31 rfl rfl rfl rfl rfl ?_ | refine rl_loadAO (vs := [_, _, _, _]) 0 hM ag31 rfl rfl rfl (by assumption) rfl ?_ | refine rl_loadAO (vs := [_, _, _, _]) 1 hM ag31 rfl rfl rfl (by assumption) rfl ?_ | refine rl_loadAO (vs := [_, _, _, _]) 2 hM ag31 rfl rfl rfl (by assumption) rfl ?_ | refine rl_loadAO (vs := [_, _, _, _]) 3 hM ag31 rfl rfl rfl (by assumption) rfl ?_ | refine rl_loadAO (vs := [_, _, _, _]) 4 hM ag31 rfl rfl rfl (by assumption) rfl ?_ | refine rl_loadAO (vs := [_, _, _, _]) 5 hM ag31 rfl rfl rfl (by assumption) rfl ?_); (try ((first | (refine rl_storeWM 0 hM ag31 rfl rfl rfl rfl rfl rfl rfl ?_; clear hM; intro w hM) | (refine rl_storeWM 1 hM ag31 rfl rfl rfl rfl rfl rfl rfl ?_; clear hM; intro w hM) | (refine rl_storeWM 2 hM ag31 rfl rfl rfl rfl rfl rfl rfl ?_; clear hM; intro w hM) | (refine rl_storeWM 3 hM ag31 rfl rfl rfl rfl rfl rfl rfl ?_; clear hM; intro w hM) | (refine rl_storeWM 4 hM ag31 rfl rfl rfl rfl rfl rfl rfl ?_; clear hM; intro w hM) | (refine rl_storeWM 5 hM ag31 rfl rfl rfl rfl rfl rfl rfl ?_; clear hM; intro w hM))))))) | refine rl_fld fd31_3 rfl rfl ?_ | (first | (refine rl_storeM 0 hM vt29 rfl rfl rfl rfl rfl (by first | (simp; done) | (simp; omega) | omega) ?_; clear hM; intro w hM) | (refine rl_storeM 1 hM vt29 rfl rfl rfl rfl rfl (by first | (simp; done) | (simp; omega) | omega) ?_; clear hM; intro w hM) | (refine rl_storeM 2 hM vt29 rfl rfl rfl rfl rfl (by first | (simp; done) | (simp; omega) | omega) ?_; clear hM; intro w hM) | (refine rl_storeM 3 hM vt29 rfl rfl rfl rfl rfl (by first | (simp; done) | (simp; omega) | omega) ?_; clear hM; intro w hM) | (refine rl_storeM 4 hM vt29 rfl rfl rfl rfl rfl (by first | (simp; done) | (simp; omega) | omega) ?_; clear hM; intro w hM) | (refine rl_storeM 5 hM vt29 rfl rfl rfl rfl rfl (by first | (simp; done) | (simp; omega) | omega) ?_; clear hM; intro w hM))))
  refine bp_x1 rfl rfl (res_M 1 hM ag31 rfl rfl rfl) ⟨_, rfl, (hM.erase 1).erase 1⟩
end Go.Proofs.Ytoekjhalcjhegaa.Hep
