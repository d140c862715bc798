/- The walks of what heap.right calls. -/
import Derived.Test.YtoekjhalcjhegaaHepW1
set_option linter.unusedVariables false
set_option linter.unusedSimpArgs false
namespace Go.Proofs.Ytoekjhalcjhegaa.Hep
open Go Go.Eng Go.RowKit Go.Hp
attribute [local irreducible] RL RX KQ SQ Exit.inBlock Exit.then BP NP CallsOk IsSl IsRows IsInts IsBools Own Blk Code.wp Calls wpList
theorem right1_ok (w0 w : World) (L : List Ent) (V : Vw) (h n c hb : Nat) (a : Option Addr) (most at_ : Int) (t t' : TypeId) (i j : Nat) (hM : Mem w0 w L V) (hi : L[i]? = some (.blk h [.slice a n c, .int .i64 most] t)) (hj : L[j]? = some (.blk hb [.pointer (some ⟨h, 0, none⟩)] t')) :
    CallsOk Try.prog 43 #[.int .i64 at_, .pointer (some ⟨hb, 0, none⟩)] w fun r w' => r = .bool (!inB n at_) ∧ w = w' := by
  have hc : w.cell? ⟨hb, 0, none⟩ = some (.pointer (some ⟨h, 0, none⟩)) := hM.cell hj rfl
  refine enter_ (N := 8) Try.func43 rfl rfl rfl ?_
  (repeat (first | refine seq_ ?_ | refine sq_normal ?_ | refine rl_nil ?_ | (refine region_ (id := 0) ?_; (try (refine rl_assign (v := (Value.bool _ : Value)) rfl rfl ?_))) | (refine region_ (id := 1) ?_; (try ((first | refine rl_loadV hM vt23 rfl rfl (by first | assumption | exact VRow.get (by assumption) rfl | exact VRow.get0 (by assumption) rfl) ?_ | refine rl_loadM 0 hM vt23 rfl rfl rfl (by first | rfl | assumption) ?_ | refine rl_loadM 1 hM vt23 rfl rfl rfl (by first | rfl | assumption) ?_ | refine rl_loadM 2 hM vt23 rfl rfl rfl (by first | rfl | assumption) ?_ | refine rl_loadM 3 hM vt23 rfl rfl rfl (by first | rfl | assumption) ?_ | refine rl_loadM 4 hM vt23 rfl rfl rfl (by first | rfl | assumption) ?_ | refine rl_loadM 5 hM vt23 rfl rfl rfl (by first | rfl | assumption) ?_ | refine rl_loadO 0 hM vt23 rfl rfl rfl (by first | assumption | exact ORow.get (by assumption) rfl | exact ORow.get0 (by assumption) rfl) ?_ | refine rl_loadO 1 hM vt23 rfl rfl rfl (by first | assumption | exact ORow.get (by assumption) rfl | exact ORow.get0 (by assumption) rfl) ?_ | refine rl_loadO 2 hM vt23 rfl rfl rfl (by first | assumption | exact ORow.get (by assumption) rfl | exact ORow.get0 (by assumption) rfl) ?_ | refine rl_loadO 3 hM vt23 rfl rfl rfl (by first | assumption | exact ORow.get (by assumption) rfl | exact ORow.get0 (by assumption) rfl) ?_ | refine rl_loadO 4 hM vt23 rfl rfl rfl (by first | assumption | exact ORow.get (by assumption) rfl | exact ORow.get0 (by assumption) rfl) ?_ | refine rl_loadO 5 hM vt23 rfl rfl rfl (by first | assumption | exact ORow.get (by assumption) rfl | exact ORow.get0 (by assumption) rfl) ?_); (try (refine rl_move (v := (Value.int _ _ : Value)) rfl rfl ?_)))))))
  refine rl_load vt23 rfl rfl hc ?_
  (repeat (first | refine rl_move (v := (Value.int _ _ : Value)) rfl rfl ?_))
  refine rl_callf fn35 (is_ok w0 w L V h n c a most at_ t i hM hi) rfl rfl ?_
  rintro _ w ⟨rfl, rfl⟩
  (repeat (first | refine sq_normal ?_ | refine rl_nil ?_ | refine ret_ ?_ | refine rl_assign (v := (Value.bool _ : Value)) rfl rfl ?_ | refine rl_not rfl rfl ?_))
  exact bp_ret1 (v := Value.bool _) rfl rfl ⟨rfl, rfl⟩
theorem kidsIn_get {n : Nat} {xs : List Int} (h : ∀ (j : Nat) x, xs[j]? = some x → inB n x = true) : kidsIn n xs = true := by
  unfold kidsIn
  rw [List.all_eq_true]
  intro x hx
  obtain ⟨j, hj⟩ := List.mem_iff_getElem?.1 hx
  exact h j x hj
theorem kidsIn_no {n : Nat} {xs : List Int} {j : Nat} {x : Int} (h : xs[j]? = some x) (hx : inB n x = false) : kidsIn n xs = false := by
  unfold kidsIn
  rw [List.all_eq_false]
  exact ⟨x, List.mem_of_getElem? h, by rw [hx]; simp⟩
theorem index_ok (w0 w : World) (L : List Ent) (V : Vw) (h n c hb : Nat) (a : Option Addr) (most : Int) (t t' : TypeId) (i j : Nat) (v : Value) (xs : List Int) (hM : Mem w0 w L V) (hi : L[i]? = some (.blk h [.slice a n c, .int .i64 most] t)) (hj : L[j]? = some (.blk hb [.pointer (some ⟨h, 0, none⟩)] t'))
    (hx : IsInts V v xs) :
    CallsOk Try.prog 46 #[v, .func (.func 43) #[] #[.pointer (some ⟨hb, 0, none⟩)]] w fun r w' => (∃ q : Int, r = .int .i64 q ∧ ((0 ≤ q ∧ kidsIn n xs = false) ∨ (q = -1 ∧ kidsIn n xs = true))) ∧ w = w' := by
  have hml := maxLen_le
  obtain ⟨a2, c2, b, off, rfl, h1, h2, h3, h4⟩ := hx.open
  refine enter_ (N := 19) Try.func46 rfl rfl rfl ?_
  (repeat (first | refine seq_ ?_ | refine sq_normal ?_ | refine rl_nil ?_ | refine block_ ?_ | (refine region_ (id := 0) ?_; (try (refine rl_assign (v := (Value.int _ _ : Value)) rfl rfl ?_))) | (refine region_ (id := 1) ?_; (try (refine rl_move (v := (Value.slice _ _ _ : Value)) rfl rfl ?_; (try (refine rl_len sl29 rfl rfl ?_; (try (refine rl_move (v := (Value.int _ _ : Value)) rfl rfl ?_)))))))))
  refine loop1 [(4, 6), (8, 19)] 8 (fun m v wr => ∃ q : Nat, v = .int .i64 q ∧ q ≤ xs.length ∧ m = xs.length - q ∧ w = wr ∧ ∀ (j : Nat) x, j < q → xs[j]? = some x → inB n x = true) _ ⟨0, rfl, Nat.zero_le _, rfl, rfl, fun j x hj => absurd hj (by omega)⟩ ?_
  rintro m τ v wr ⟨q, rfl, hq, rfl, rfl, hall⟩ K0 hL0
  by_cases hlt : q < xs.length
  · have ha := h3 (by omega)
    subst ha
    obtain ⟨x, hxq⟩ : ∃ x, xs[q]? = some x := ⟨_, List.getElem?_eq_getElem hlt⟩
    have hv : V ⟨b, off + (q : Int).toNat, none⟩ = some (.int .i64 x) := h4 _ _ hxq
    (repeat (first | refine seq_ ?_ | refine sq_normal ?_ | refine rl_nil ?_ | refine cond_t rfl ?_ | refine skip_ ?_ | refine block_ ?_ | (refine region_ (id := 2) ?_; (try ((first | (refine rl_lss_t rfl rfl rfl ?_ ?_; omega) | (refine rl_lss_f rfl rfl rfl ?_ ?_; omega))))) | (refine region_ (id := 3) ?_; (try (refine rl_move (v := (Value.int _ _ : Value)) rfl rfl ?_; (try (refine rl_assign (v := (Value.int _ _ : Value)) rfl rfl ?_))))) | (refine region_ (id := 4) ?_; (try ((first | refine rl_move (v := (Value.func _ _ _ : Value)) rfl rfl ?_ | refine rl_move (v := (Value.nilFunc : Value)) rfl rfl ?_); (try (refine rl_move (v := (Value.slice _ _ _ : Value)) rfl rfl ?_; (try (refine rl_move (v := (Value.int _ _ : Value)) rfl rfl ?_; (try ((first | (refine rl_idx1 sl29 rfl rfl rfl rfl ?_ ?_ ?_; omega; omega) | (apply rl_idx1 sl29 rfl rfl rfl; assumption; omega; omega)); (try ((first | refine rl_loadV hM vt3 rfl rfl (by first | assumption | exact VRow.get (by assumption) rfl | exact VRow.get0 (by assumption) rfl) ?_ | refine rl_loadM 0 hM vt3 rfl rfl rfl (by first | rfl | assumption) ?_ | refine rl_loadM 1 hM vt3 rfl rfl rfl (by first | rfl | assumption) ?_ | refine rl_loadM 2 hM vt3 rfl rfl rfl (by first | rfl | assumption) ?_ | refine rl_loadM 3 hM vt3 rfl rfl rfl (by first | rfl | assumption) ?_ | refine rl_loadM 4 hM vt3 rfl rfl rfl (by first | rfl | assumption) ?_ | refine rl_loadM 5 hM vt3 rfl rfl rfl (by first | rfl | assumption) ?_ | refine rl_loadO 0 hM vt3 rfl rfl rfl (by first | assumption | exact ORow.get (by assumption) rfl | exact ORow.get0 (by assumption) rfl) ?_ | refine rl_loadO 1 hM vt3 rfl rfl rfl (by first | assumption | exact ORow.get (by assumption) rfl | exact ORow.get0 (by assumption) rfl) ?_ | refine rl_loadO 2 hM vt3 rfl rfl rfl (by first | assumption | exact ORow.get (by assumption) rfl | exact ORow.get0 (by assumption) rfl) ?_ | refine rl_loadO 3 hM vt3 rfl rfl rfl (by first | assumption | exact ORow.get (by assumption) rfl | exact ORow.get0 (by assumption) rfl) ?_ | refine rl_loadO 4 hM vt3 rfl rfl rfl (by first | assumption | exact ORow.get (by assumption) rfl | exact ORow.get0 (by assumption) rfl) ?_ | refine rl_loadO 5 hM vt3 rfl rfl rfl (by first | assumption | exact ORow.get (by assumption) rfl | exact ORow.get0 (by assumption) rfl) ?_))))))))))))))
    refine rl_callv fn43 (cap := [_]) (right1_ok w0 w L V h n c hb a most x t t' i j hM hi hj) rfl rfl rfl ?_
    rintro _ w ⟨rfl, rfl⟩
    cases hb : inB n x with
    | true =>
      (repeat (first | refine sq_normal ?_ | refine rl_nil ?_ | refine cond_f rfl ?_ | refine skip_ ?_ | refine inBlock_normal ?_ | (refine region_ (id := 6) ?_; (try ((refine rl_add rfl rfl rfl ?_ ?_ ?_; omega; omega); (try (refine rl_move (v := (Value.int _ _ : Value)) rfl rfl ?_)))))))
      refine kq_normal (hL0 (xs.length - (q + 1)) _ _ (by omega) (by (repeat (first | with_reducible exact Agree.ov | with_reducible exact Agree.refl _ _ | refine Agree.upd rfl ?_ | refine Agree.ovs rfl ?_))) ⟨q + 1, rfl, by omega, rfl, rfl, fun j x' hj hjx => ?_⟩)
      by_cases hjq : j = q
      · subst hjq; rw [hxq] at hjx; cases hjx; exact hb
      · exact hall j x' (by omega) hjx
    | false =>
      (repeat (first | refine seq_ ?_ | refine sq_normal ?_ | refine sq_ret ?_ | refine rl_nil ?_ | refine cond_t rfl ?_ | refine ret_ ?_ | refine inBlock_ret ?_ | refine kq_ret ?_ | (refine region_ (id := 5) ?_; (try (refine rl_move (v := (Value.int _ _ : Value)) rfl rfl ?_; (try (refine rl_assign (v := (Value.int _ _ : Value)) rfl rfl ?_)))))))
      exact bp_ret1 (v := Value.int _ _) rfl rfl ⟨⟨q, rfl, .inl ⟨by omega, kidsIn_no hxq hb⟩⟩, rfl⟩
  · (repeat (first | refine seq_ ?_ | refine sq_normal ?_ | refine sq_exit ?_ | refine rl_nil ?_ | refine cond_f rfl ?_ | refine ret_ ?_ | refine exit_ ?_ | refine inBlock_exit ?_ | refine kq_exit ?_ | (refine region_ (id := 2) ?_; (try ((first | (refine rl_lss_t rfl rfl rfl ?_ ?_; omega) | (refine rl_lss_f rfl rfl rfl ?_ ?_; omega))))) | (refine region_ (id := 7) ?_; (try (refine rl_assign (v := (Value.int _ _ : Value)) rfl rfl ?_)))))
    exact bp_ret1 (v := Value.int _ _) rfl rfl ⟨⟨-1, rfl, .inr ⟨rfl, kidsIn_get fun j x hj => hall j x (by have := (List.getElem?_eq_some_iff.1 hj).1; omega) hj⟩⟩, rfl⟩
theorem contains_ok (w0 w : World) (L : List Ent) (V : Vw) (h n c hb : Nat) (a : Option Addr) (most : Int) (t t' : TypeId) (i j : Nat) (v : Value) (xs : List Int) (hM : Mem w0 w L V) (hi : L[i]? = some (.blk h [.slice a n c, .int .i64 most] t)) (hj : L[j]? = some (.blk hb [.pointer (some ⟨h, 0, none⟩)] t'))
    (hx : IsInts V v xs) :
    CallsOk Try.prog 42 #[v, .func (.func 43) #[] #[.pointer (some ⟨hb, 0, none⟩)]] w fun r w' => r = .bool (!kidsIn n xs) ∧ w = w' := by
  obtain ⟨a2, c2, b, off, hv, _⟩ := hx.open
  refine enter_ (N := 9) Try.func42 rfl rfl rfl ?_
  subst hv
  (repeat (first | refine seq_ ?_ | refine sq_normal ?_ | refine rl_nil ?_ | (refine region_ (id := 0) ?_; (try (refine rl_assign (v := (Value.bool _ : Value)) rfl rfl ?_))) | (refine region_ (id := 1) ?_; (try (refine rl_move (v := (Value.slice _ _ _ : Value)) rfl rfl ?_; (try ((first | refine rl_move (v := (Value.func _ _ _ : Value)) rfl rfl ?_ | refine rl_move (v := (Value.nilFunc : Value)) rfl rfl ?_))))))))
  refine rl_callf fn46 (index_ok w0 w L V h n c hb a most t t' i j _ xs hM hi hj hx) rfl rfl ?_
  rintro _ w ⟨⟨q, rfl, hq⟩, rfl⟩
  rcases hq with ⟨hq, hk⟩ | ⟨rfl, hk⟩
  · (repeat (first | refine sq_normal ?_ | refine rl_nil ?_ | refine ret_ ?_ | refine rl_assign (v := (Value.bool _ : Value)) rfl rfl ?_ | (first | (refine rl_geq_t rfl rfl rfl ?_ ?_; omega) | (refine rl_geq_f rfl rfl rfl ?_ ?_; omega))))
    exact bp_ret1 (v := Value.bool _) rfl rfl ⟨by rw [hk]; rfl, rfl⟩
  · (repeat (first | refine sq_normal ?_ | refine rl_nil ?_ | refine ret_ ?_ | refine rl_assign (v := (Value.bool _ : Value)) rfl rfl ?_ | (first | (refine rl_geq_t rfl rfl rfl ?_ ?_; omega) | (refine rl_geq_f rfl rfl rfl ?_ ?_; omega))))
    exact bp_ret1 (v := Value.bool _) rfl rfl ⟨by rw [hk]; rfl, rfl⟩
end Go.Proofs.Ytoekjhalcjhegaa.Hep
