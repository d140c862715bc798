/- Walks of heap.New, Len, Get, Alloc. -/
import Derived.Test.YtoekjhalcjhegaaHepW3
set_option linter.unusedVariables false
set_option linter.unusedSimpArgs false
namespace Go.Hp
open Go Go.Eng
/-- A heap's own things: the variable, and the row of its nodes. -/
abbrev hp (S E h : Nat) (v : Value) (most : Int) (l : List Nd) (cs : List Value) (L : List Ent) : List Ent := .blk h [v, .int .i64 most] S :: .own v E 4 l.length cs :: L
def HP (S E : Nat) (w0 w : World) (V : Vw) (h : Nat) (most : Int) (l : List Nd) (L : List Ent) : Prop := ∃ v cs, Mem w0 w (hp S E h v most l cs L) V ∧ NdCells V l cs
theorem HP.ints {V : Vw} {l : List Nd} {cs : List Value} (h : NdCells V l cs) : cs.length = l.length * 4 := h.len
def new (most : Int) : Int := if 1 ≤ most ∧ most ≤ 4000 then 0 else 1
def alloc (most : Int) (l : List Nd) (a : Nd) : List Nd × Int × Int := if right l.length a = false then (l, 0, 1) else if most ≤ l.length then (l, 0, 54) else (l ++ [a], l.length, 0)
/-- What is at a place. -/
def getN (l : List Nd) (p : Int) : Nd × Bool := if inB l.length p then (l.getD p.toNat ⟨0, 0, [], []⟩, true) else (⟨0, 0, [], []⟩, false)
end Go.Hp
namespace Go.Proofs.Ytoekjhalcjhegaa.Hep
open Go Go.Eng Go.RowKit Go.Hp
attribute [local irreducible] RL RX KQ SQ Exit.inBlock Exit.then BP NP CallsOk IsSl IsRows IsInts IsBools Own Blk Code.wp Calls wpList
theorem ownF_ok (w0 w : World) (L : List Ent) (V : Vw) (a : Nd) (v : Value) (hM : Mem w0 w L V) (hx : IsInts V v a.kids) (hl : a.kids.length ≤ 1000000) :
    CallsOk Try.prog 33 #[.agg (ndCells a v).toArray] w fun r w' => ∃ V' v', VLe V V' ∧ Mem w0 w' L V' ∧ r = .agg (ndCells a v').toArray ∧ IsInts V' v' a.kids := by
  refine (own_ok w0 w L V a v hM hx hl).mono ?_
  rintro _ w' ⟨v', rfl, hM⟩
  obtain ⟨V', hV, hM', a', c', b', e1, e2, e3, e4, e5⟩ := Mem.freezeOwn hM
  subst e1
  exact ⟨V', _, hV, hM', rfl, isInts_of rfl e2 e3 e4 e5 hx.rng⟩
theorem new_ok (w0 w : World) (L : List Ent) (V : Vw) (most : Int) (hM : Mem w0 w L V) :
    CallsOk Try.prog 12 #[.int .i64 most] w fun r w' => (new most = 1 ∧ r = .tuple #[.pointer none, .int .i64 1] ∧ Mem w0 w' L V) ∨ (new most = 0 ∧ ∃ h, r = .tuple #[.pointer (some ⟨h, 0, none⟩), .int .i64 0] ∧ HP 67 31 w0 w' V h most [] L) := by
  refine enter_ (N := 13) Try.func12 rfl rfl rfl ?_
  by_cases h1 : most < 1
  · (repeat (first | refine seq_ ?_ | refine sq_normal ?_ | refine sq_ret ?_ | refine rl_nil ?_ | refine cond_t rfl ?_ | refine ret_ ?_ | (refine region_ (id := 0) ?_; (try (refine rl_assign (v := (Value.pointer _ : Value)) rfl rfl ?_; (try (refine rl_assign (v := (Value.int _ _ : Value)) rfl rfl ?_))))) | (refine region_ (id := 1) ?_; (try (refine rl_move (v := (Value.int _ _ : Value)) rfl rfl ?_; (try ((first | (refine rl_lss_t rfl rfl rfl ?_ ?_; omega) | (refine rl_lss_f rfl rfl rfl ?_ ?_; omega)); (try (refine rl_move (v := (Value.bool _ : Value)) rfl rfl ?_; (try ((first | refine rl_off rfl ?_ | refine rl_move (v := (Value.int _ _ : Value)) rfl rfl ?_); (try ((first | refine rl_off rfl ?_ | (refine rl_gtr_t rfl rfl rfl ?_ ?_; omega) | (refine rl_gtr_f rfl rfl rfl ?_ ?_; omega)); (try (refine rl_pick (v := (Value.bool _ : Value)) rfl rfl rfl ?_))))))))))))) | (refine region_ (id := 2) ?_; (try (refine rl_assign (v := (Value.pointer _ : Value)) rfl rfl ?_; (try (refine rl_assign (v := (Value.int _ _ : Value)) rfl rfl ?_)))))))
    exact bp_ret2 (v := Value.pointer _) (v' := Value.int _ _) rfl rfl rfl (.inl ⟨by unfold new; rw [if_neg (by omega)], rfl, hM⟩)
  · by_cases h2 : most ≤ 4000
    · replace hM := hM.newOwn 31 4
      (repeat (first | refine seq_ ?_ | refine sq_normal ?_ | refine rl_nil ?_ | refine cond_f rfl ?_ | refine skip_ ?_ | refine ret_ ?_ | (refine region_ (id := 0) ?_; (try (refine rl_assign (v := (Value.pointer _ : Value)) rfl rfl ?_; (try (refine rl_assign (v := (Value.int _ _ : Value)) rfl rfl ?_))))) | (refine region_ (id := 1) ?_; (try (refine rl_move (v := (Value.int _ _ : Value)) rfl rfl ?_; (try ((first | (refine rl_lss_t rfl rfl rfl ?_ ?_; omega) | (refine rl_lss_f rfl rfl rfl ?_ ?_; omega)); (try (refine rl_move (v := (Value.bool _ : Value)) rfl rfl ?_; (try ((first | refine rl_off rfl ?_ | refine rl_move (v := (Value.int _ _ : Value)) rfl rfl ?_); (try ((first | refine rl_off rfl ?_ | (refine rl_gtr_t rfl rfl rfl ?_ ?_; omega) | (refine rl_gtr_f rfl rfl rfl ?_ ?_; omega)); (try (refine rl_pick (v := (Value.bool _ : Value)) rfl rfl rfl ?_))))))))))))) | (refine region_ (id := 3) ?_; (try (refine rl_move (v := (Value.int _ _ : Value)) rfl rfl ?_; (try (refine rl_build [(Value.slice none 0 0), _] ag67 pl67 rfl rfl rfl ?_; (try ((refine rl_boxAM (d := 12) hM rfl rfl ?_; clear hM; intro w b12 hM); (try (refine rl_assign (v := (Value.pointer _ : Value)) rfl rfl ?_; (try (refine rl_assign (v := (Value.int _ _ : Value)) rfl rfl ?_)))))))))))))
      exact bp_ret2 (v := Value.pointer _) (v' := Value.int _ _) rfl rfl rfl (.inr ⟨by unfold new; rw [if_pos (by omega)], _, rfl, _, [], hM, rfl⟩)
    · (repeat (first | refine seq_ ?_ | refine sq_normal ?_ | refine sq_ret ?_ | refine rl_nil ?_ | refine cond_t rfl ?_ | refine ret_ ?_ | (refine region_ (id := 0) ?_; (try (refine rl_assign (v := (Value.pointer _ : Value)) rfl rfl ?_; (try (refine rl_assign (v := (Value.int _ _ : Value)) rfl rfl ?_))))) | (refine region_ (id := 1) ?_; (try (refine rl_move (v := (Value.int _ _ : Value)) rfl rfl ?_; (try ((first | (refine rl_lss_t rfl rfl rfl ?_ ?_; omega) | (refine rl_lss_f rfl rfl rfl ?_ ?_; omega)); (try (refine rl_move (v := (Value.bool _ : Value)) rfl rfl ?_; (try ((first | refine rl_off rfl ?_ | refine rl_move (v := (Value.int _ _ : Value)) rfl rfl ?_); (try ((first | refine rl_off rfl ?_ | (refine rl_gtr_t rfl rfl rfl ?_ ?_; omega) | (refine rl_gtr_f rfl rfl rfl ?_ ?_; omega)); (try (refine rl_pick (v := (Value.bool _ : Value)) rfl rfl rfl ?_))))))))))))) | (refine region_ (id := 2) ?_; (try (refine rl_assign (v := (Value.pointer _ : Value)) rfl rfl ?_; (try (refine rl_assign (v := (Value.int _ _ : Value)) rfl rfl ?_)))))))
      exact bp_ret2 (v := Value.pointer _) (v' := Value.int _ _) rfl rfl rfl (.inl ⟨by unfold new; rw [if_neg (by omega)], rfl, hM⟩)
theorem len_ok (w0 w : World) (L : List Ent) (V : Vw) (h : Nat) (most : Int) (l : List Nd) (hH : HP 67 31 w0 w V h most l L) :
    CallsOk Try.prog 14 #[.pointer (some ⟨h, 0, none⟩)] w fun r w' => r = .int .i64 l.length ∧ w = w' := by
  obtain ⟨v, cs, hM, hcs⟩ := hH
  obtain ⟨a, c, rfl, _, _⟩ := hM.ownShape (i := 1) rfl
  refine enter_ (N := 8) Try.func14 rfl rfl rfl ?_
  (repeat (first | refine seq_ ?_ | refine sq_normal ?_ | refine rl_nil ?_ | refine ret_ ?_ | (refine region_ (id := 0) ?_; (try (refine rl_assign (v := (Value.int _ _ : Value)) rfl rfl ?_))) | (refine region_ (id := 1) ?_; (try (refine rl_move (v := (Value.pointer _ : Value)) rfl rfl ?_; (try (refine rl_nilck rfl rfl ?_; (try (refine rl_fld fd67_0 rfl rfl ?_; (try ((first | refine rl_loadV hM vt60 rfl rfl (by first | assumption | exact VRow.get (by assumption) rfl | exact VRow.get0 (by assumption) rfl) ?_ | refine rl_loadM 0 hM vt60 rfl rfl rfl (by first | rfl | assumption) ?_ | refine rl_loadM 1 hM vt60 rfl rfl rfl (by first | rfl | assumption) ?_ | refine rl_loadM 2 hM vt60 rfl rfl rfl (by first | rfl | assumption) ?_ | refine rl_loadM 3 hM vt60 rfl rfl rfl (by first | rfl | assumption) ?_ | refine rl_loadM 4 hM vt60 rfl rfl rfl (by first | rfl | assumption) ?_ | refine rl_loadM 5 hM vt60 rfl rfl rfl (by first | rfl | assumption) ?_ | refine rl_loadO 0 hM vt60 rfl rfl rfl (by first | assumption | exact ORow.get (by assumption) rfl | exact ORow.get0 (by assumption) rfl) ?_ | refine rl_loadO 1 hM vt60 rfl rfl rfl (by first | assumption | exact ORow.get (by assumption) rfl | exact ORow.get0 (by assumption) rfl) ?_ | refine rl_loadO 2 hM vt60 rfl rfl rfl (by first | assumption | exact ORow.get (by assumption) rfl | exact ORow.get0 (by assumption) rfl) ?_ | refine rl_loadO 3 hM vt60 rfl rfl rfl (by first | assumption | exact ORow.get (by assumption) rfl | exact ORow.get0 (by assumption) rfl) ?_ | refine rl_loadO 4 hM vt60 rfl rfl rfl (by first | assumption | exact ORow.get (by assumption) rfl | exact ORow.get0 (by assumption) rfl) ?_ | refine rl_loadO 5 hM vt60 rfl rfl rfl (by first | assumption | exact ORow.get (by assumption) rfl | exact ORow.get0 (by assumption) rfl) ?_); (try (refine rl_len sl60 rfl rfl ?_; (try (refine rl_assign (v := (Value.int _ _ : Value)) rfl rfl ?_)))))))))))))))
  exact bp_ret1 (v := Value.int _ _) rfl rfl ⟨rfl, rfl⟩
theorem get_ok (w0 w : World) (L : List Ent) (V : Vw) (h : Nat) (most at_ : Int) (l : List Nd) (hH : HP 67 31 w0 w V h most l L) (hl : ∀ a ∈ l, a.kids.length ≤ 1000) :
    CallsOk Try.prog 16 #[.pointer (some ⟨h, 0, none⟩), .int .i64 at_] w fun r w' => ∃ V' v', VLe V V' ∧ HP 67 31 w0 w' V' h most l L ∧ r = .tuple #[.agg (ndCells (getN l at_).1 v').toArray, .bool (getN l at_).2] ∧ IsInts V' v' (getN l at_).1.kids := by
  obtain ⟨v, cs, hM, hcs⟩ := hH
  obtain ⟨a, c, rfl, _, _⟩ := hM.ownShape (i := 1) rfl
  refine enter_ (N := 19) Try.func16 rfl rfl rfl ?_
  by_cases hin : inB l.length at_ = true
  · obtain ⟨h0, h1⟩ := inB_iff.1 hin
    obtain ⟨b, c', hac, _⟩ := hM.ownA (i := 1) rfl (by omega)
    cases hac
    obtain ⟨nd, hnd⟩ : ∃ nd, l[at_.toNat]? = some nd := ⟨_, List.getElem?_eq_getElem (by omega)⟩
    obtain ⟨kv, hrow, hkv⟩ := hcs.get hnd
    have hget : getN l at_ = (nd, true) := by unfold getN; rw [if_pos hin, List.getD_eq_getElem?_getD, hnd]; rfl
    obtain ⟨_, _, _, _, rfl, _⟩ := hkv.open
    unfold ndCells at hrow
    (repeat (first | refine seq_ ?_ | refine sq_normal ?_ | refine rl_nil ?_ | (refine region_ (id := 0) ?_; (try ((refine rl_allocAM (d := 4) hM ag31 rfl ?_; clear hM; intro w b4 hM); (try (refine rl_assign (v := (Value.bool _ : Value)) rfl rfl ?_))))) | (refine region_ (id := 1) ?_; (try (refine rl_move (v := (Value.pointer _ : Value)) rfl rfl ?_; (try (refine rl_move (v := (Value.int _ _ : Value)) rfl rfl ?_)))))))
    refine rl_callf fn35 (is_ok w0 w _ V h l.length c _ most at_ 67 1 hM rfl) rfl rfl ?_
    rintro _ w ⟨rfl, rfl⟩
    rw [hin]
    (repeat (first | refine seq_ ?_ | refine sq_normal ?_ | refine rl_nil ?_ | refine cond_f rfl ?_ | refine skip_ ?_ | (refine region_ (id := 3) ?_; (try (refine rl_move (v := (Value.pointer _ : Value)) rfl rfl ?_; (try (refine rl_nilck rfl rfl ?_; (try (refine rl_fld fd67_0 rfl rfl ?_; (try ((first | refine rl_loadV hM vt60 rfl rfl (by first | assumption | exact VRow.get (by assumption) rfl | exact VRow.get0 (by assumption) rfl) ?_ | refine rl_loadM 0 hM vt60 rfl rfl rfl (by first | rfl | assumption) ?_ | refine rl_loadM 1 hM vt60 rfl rfl rfl (by first | rfl | assumption) ?_ | refine rl_loadM 2 hM vt60 rfl rfl rfl (by first | rfl | assumption) ?_ | refine rl_loadM 3 hM vt60 rfl rfl rfl (by first | rfl | assumption) ?_ | refine rl_loadM 4 hM vt60 rfl rfl rfl (by first | rfl | assumption) ?_ | refine rl_loadM 5 hM vt60 rfl rfl rfl (by first | rfl | assumption) ?_ | refine rl_loadO 0 hM vt60 rfl rfl rfl (by first | assumption | exact ORow.get (by assumption) rfl | exact ORow.get0 (by assumption) rfl) ?_ | refine rl_loadO 1 hM vt60 rfl rfl rfl (by first | assumption | exact ORow.get (by assumption) rfl | exact ORow.get0 (by assumption) rfl) ?_ | refine rl_loadO 2 hM vt60 rfl rfl rfl (by first | assumption | exact ORow.get (by assumption) rfl | exact ORow.get0 (by assumption) rfl) ?_ | refine rl_loadO 3 hM vt60 rfl rfl rfl (by first | assumption | exact ORow.get (by assumption) rfl | exact ORow.get0 (by assumption) rfl) ?_ | refine rl_loadO 4 hM vt60 rfl rfl rfl (by first | assumption | exact ORow.get (by assumption) rfl | exact ORow.get0 (by assumption) rfl) ?_ | refine rl_loadO 5 hM vt60 rfl rfl rfl (by first | assumption | exact ORow.get (by assumption) rfl | exact ORow.get0 (by assumption) rfl) ?_); (try (refine rl_move (v := (Value.int _ _ : Value)) rfl rfl ?_; (try ((first | (refine rl_idx sl60 rfl rfl rfl rfl ?_ ?_ ?_; omega; omega) | (apply rl_idx sl60 rfl rfl rfl; assumption; omega; omega)); (try ((first | refine rl_loadAV hM ag31 rfl rfl (by assumption) (by rfl) ?_ | refine rl_loadAM (vs := [_, _, _, _]) 0 hM ag31 rfl rfl rfl rfl rfl ?_ | refine rl_loadAM (vs := [_, _, _, _]) 1 hM ag31 rfl rfl rfl rfl rfl ?_ | refine rl_loadAM (vs := [_, _, _, _]) 2 hM ag31 rfl rfl rfl rfl rfl ?_ | refine rl_loadAM (vs := [_, _, _, _]) 3 hM ag31 rfl rfl rfl rfl rfl ?_ | refine rl_loadAM (vs := [_, _, _, _]) 4 hM ag31 rfl rfl rfl rfl rfl ?_ | refine rl_loadAM (vs := [_, _, _, _]) 5 hM ag31 rfl rfl rfl rfl rfl ?_ | refine rl_loadAO (vs := [_, _, _, _]) 0 hM ag31 rfl rfl rfl (by assumption) rfl ?_ | refine rl_loadAO (vs := [_, _, _, _]) 1 hM ag31 rfl rfl rfl (by assumption) rfl ?_ | refine rl_loadAO (vs := [_, _, _, _]) 2 hM ag31 rfl rfl rfl (by assumption) rfl ?_ | refine rl_loadAO (vs := [_, _, _, _]) 3 hM ag31 rfl rfl rfl (by assumption) rfl ?_ | refine rl_loadAO (vs := [_, _, _, _]) 4 hM ag31 rfl rfl rfl (by assumption) rfl ?_ | refine rl_loadAO (vs := [_, _, _, _]) 5 hM ag31 rfl rfl rfl (by assumption) rfl ?_)))))))))))))))) | refine rl_not rfl rfl ?_))
    refine rl_callf fn33 (ownF_ok w0 w _ V nd _ hM hkv (by have := hl nd (List.mem_of_getElem? hnd); omega)) rfl rfl ?_
    clear hM
    rintro _ w ⟨V1, u, hV, hM, rfl, hu⟩
    obtain ⟨_, _, _, _, rfl, _⟩ := hu.open
    unfold ndCells
    (repeat (first | refine sq_normal ?_ | refine rl_nil ?_ | refine ret_ ?_ | refine rl_assign (v := (Value.bool _ : Value)) rfl rfl ?_ | (first | (refine rl_storeWM 0 hM ag31 rfl rfl rfl rfl rfl rfl rfl ?_; clear hM; intro w hM) | (refine rl_storeWM 1 hM ag31 rfl rfl rfl rfl rfl rfl rfl ?_; clear hM; intro w hM) | (refine rl_storeWM 2 hM ag31 rfl rfl rfl rfl rfl rfl rfl ?_; clear hM; intro w hM) | (refine rl_storeWM 3 hM ag31 rfl rfl rfl rfl rfl rfl rfl ?_; clear hM; intro w hM) | (refine rl_storeWM 4 hM ag31 rfl rfl rfl rfl rfl rfl rfl ?_; clear hM; intro w hM) | (refine rl_storeWM 5 hM ag31 rfl rfl rfl rfl rfl rfl rfl ?_; clear hM; intro w hM))))
    rw [hget]
    exact bp_x2 rfl rfl (res_M 0 hM ag31 rfl rfl rfl) (res_tmp rfl) ⟨V1, _, hV, ⟨_, _, hM.dropn 1, hcs.le hV⟩, rfl, hu⟩
  · have hin' : inB l.length at_ = false := by simpa using hin
    have hget : getN l at_ = (⟨0, 0, [], []⟩, false) := by unfold getN; rw [if_neg hin]
    (repeat (first | refine seq_ ?_ | refine sq_normal ?_ | refine rl_nil ?_ | (refine region_ (id := 0) ?_; (try ((refine rl_allocAM (d := 4) hM ag31 rfl ?_; clear hM; intro w b4 hM); (try (refine rl_assign (v := (Value.bool _ : Value)) rfl rfl ?_))))) | (refine region_ (id := 1) ?_; (try (refine rl_move (v := (Value.pointer _ : Value)) rfl rfl ?_; (try (refine rl_move (v := (Value.int _ _ : Value)) rfl rfl ?_)))))))
    refine rl_callf fn35 (is_ok w0 w _ V h l.length c _ most at_ 67 1 hM rfl) rfl rfl ?_
    rintro _ w ⟨rfl, rfl⟩
    rw [hin']
    (repeat (first | refine seq_ ?_ | refine sq_normal ?_ | refine sq_ret ?_ | refine rl_nil ?_ | refine cond_t rfl ?_ | refine ret_ ?_ | (refine region_ (id := 2) ?_; (try (refine rl_build [(Value.int .i64 0), (Value.int .i64 0), (St []), (Value.slice none 0 0)] ag31 pl31 rfl rfl rfl ?_; (try ((first | (refine rl_storeWM 0 hM ag31 rfl rfl rfl rfl rfl rfl rfl ?_; clear hM; intro w hM) | (refine rl_storeWM 1 hM ag31 rfl rfl rfl rfl rfl rfl rfl ?_; clear hM; intro w hM) | (refine rl_storeWM 2 hM ag31 rfl rfl rfl rfl rfl rfl rfl ?_; clear hM; intro w hM) | (refine rl_storeWM 3 hM ag31 rfl rfl rfl rfl rfl rfl rfl ?_; clear hM; intro w hM) | (refine rl_storeWM 4 hM ag31 rfl rfl rfl rfl rfl rfl rfl ?_; clear hM; intro w hM) | (refine rl_storeWM 5 hM ag31 rfl rfl rfl rfl rfl rfl rfl ?_; clear hM; intro w hM)); (try (refine rl_assign (v := (Value.bool _ : Value)) rfl rfl ?_))))))) | refine rl_not rfl rfl ?_))
    rw [hget]
    exact bp_x2 rfl rfl (res_M 0 hM ag31 rfl rfl rfl) (res_tmp rfl) ⟨V, _, VLe.refl _, ⟨_, _, hM.dropn 1, hcs⟩, rfl, isInts_of (b := 0) (off := 0) rfl (Nat.le_refl _) (Nat.zero_le _) (fun h => absurd h (by simp)) (fun i u hi => by simp at hi) (fun x hx => by cases hx)⟩
end Go.Proofs.Ytoekjhalcjhegaa.Hep
