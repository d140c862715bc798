/- The walks of kinds.within, with its closure, and copied. -/
import Derived.Test.YtkjahcegjplbnaaKinW7
import Derived.Test.YtkjahcegjplbnaaKinT2
import Derived.Test.YtkjahcegjplbnaaKinW4
set_option linter.unusedVariables false
set_option linter.unusedSimpArgs false
namespace Go.Kn
open Go Go.Eng Go.RowKit
/-- The map's object: what is known. -/
def Knows (V : Vw) (o : Obj) (st : St1) : Prop := ∃ m M, MapIs o m ∧ Ents V M m ∧ Kw M st
theorem Ents.le {V V' : Vw} {M : List (Int × Tm)} {m : List (Value × Value)} (h : Ents V M m) (hv : VLe V V') : Ents V' M m := ⟨h.1, fun i n t hi => by obtain ⟨cs, h1, h2⟩ := h.2 i n t hi; exact ⟨cs, h1, h2.le hv⟩⟩
theorem Knows.le {V V' : Vw} {o : Obj} {st : St1} (h : Knows V o st) (hv : VLe V V') : Knows V' o st := by
  obtain ⟨m, M, h1, h2, h3⟩ := h
  exact ⟨m, M, h1, h2.le hv, h3⟩
theorem Knows.idem {V : Vw} {o : Obj} {st : St1} (h : Knows V o st) : Idem st := by
  obtain ⟨m, M, h1, h2, h3⟩ := h
  exact h3.idem
end Go.Kn
namespace Go.Eng
theorem Mem.rot {w0 w : World} {A S B : List Ent} {V : Vw} (h : Mem w0 w (A ++ (S ++ B)) V) : Mem w0 w (S ++ (A ++ B)) V := by
  refine h.perm ?_
  rw [← List.append_assoc, ← List.append_assoc]
  exact List.Perm.append_right _ List.perm_append_comm
end Go.Eng
namespace Go.Proofs.Ytkjahcegjplbnaa.Kin
open Go Go.Eng Go.RowKit Go.Kn
attribute [local irreducible] RL RX KQ SQ Exit.inBlock Exit.then BP NP CallsOk IsSl IsRows IsInts IsBools Own Blk Code.wp Calls wpList
theorem looks_ok (w0 w : World) (L : List Ent) (V : Vw) (s mb : Nat) (cnt : Int) (o : Obj) (st : St1) (t : Tm) (cs : List Value) (hM : Mem w0 w (sv s cnt mb o L) V) (hk : Knows V o st) (ht : TmV V t cs) :
    CallsOk Try.prog 44 #[.pointer (some ⟨s, 0, none⟩), .agg cs.toArray] w fun r w' => ∃ u us, r = .agg us.toArray ∧ TmV V u us ∧ Mem w0 w' (sv s cnt mb o L) V ∧ ap st u = ap st t ∧ ∀ k, u = .var k → ap st (.var k) = .var k := by
  obtain ⟨m, M, h1, h2, h3⟩ := hk
  exact look_ok w0 w L V s mb cnt o m M st t cs hM h1 h2 h3 ht
theorem indexFunc_ok (cap : List Value) (p : Tm → Bool) (ts : List Tm) (v : Value) (w0 w : World) (L : List Ent) (V : Vw) (hM : Mem w0 w L V) (hv : TmSl V v ts) (hl : ts.length ≤ 1000)
    (hf : ∀ x ∈ ts, ∀ (cs : List Value) (w : World), TmV V x cs → Mem w0 w L V → CallsOk Try.prog 58 ([Value.agg cs.toArray] ++ cap).toArray w fun r w' => r = .bool (p x) ∧ Mem w0 w' L V) :
    CallsOk Try.prog 59 #[v, .func (.func 58) #[] cap.toArray] w fun r w' => ∃ z : Int, r = .int .i64 z ∧ -1 ≤ z ∧ (0 ≤ z ↔ ts.any p = true) ∧ Mem w0 w' L V := by
  obtain ⟨a, c, b, off, rfl, h1, h2, h3, h4⟩ := hv
  have hml := maxLen_le
  refine enter_ (N := 19) Try.func59 rfl rfl rfl ?_
  (repeat (first | refine seq_ ?_ | refine sq_normal ?_ | refine rl_nil ?_ | refine block_ ?_ | (refine region_ (id := 0) ?_; (try (refine rl_assign (v := (Value.int _ _ : Value)) rfl rfl ?_))) | (refine region_ (id := 1) ?_; (try (refine rl_move (v := (Value.slice _ _ _ : Value)) rfl rfl ?_; (try (refine rl_len sl53 rfl rfl ?_; (try (refine rl_move (v := (Value.int _ _ : Value)) rfl rfl ?_)))))))))
  refine loop1 [(4, 6), (8, 19)] 8 (fun m v wr => ∃ q : Nat, v = .int .i64 q ∧ q ≤ ts.length ∧ m = ts.length - q ∧ Mem w0 wr L V ∧ ∀ x ∈ ts.take q, p x = false) _
    ⟨0, rfl, by omega, rfl, hM, by simp⟩ ?_
  clear hM
  rintro m τ v w ⟨q, rfl, hq, rfl, hM, hall⟩ K0 hL0
  by_cases hlt : q < ts.length
  · obtain ⟨x, hx⟩ : ∃ x, ts[q]? = some x := ⟨_, List.getElem?_eq_getElem hlt⟩
    obtain ⟨xs, hr, hxs⟩ := h4 q x hx
    have h3' := h3 (by omega)
    subst h3'
    have hxm := List.mem_of_getElem? hx
    obtain ⟨f0, n0, a0, k0, c0, rfl, _⟩ := id hxs.shape
    (repeat (first | refine seq_ ?_ | refine sq_normal ?_ | refine rl_nil ?_ | refine cond_t rfl ?_ | refine skip_ ?_ | refine block_ ?_ | (refine region_ (id := 2) ?_; (try ((first | (refine rl_lss_t rfl rfl rfl ?_ ?_; omega) | (refine rl_lss_f rfl rfl rfl ?_ ?_; omega))))) | (refine region_ (id := 3) ?_; (try (refine rl_move (v := (Value.int _ _ : Value)) rfl rfl ?_; (try (refine rl_assign (v := (Value.int _ _ : Value)) rfl rfl ?_))))) | (refine region_ (id := 4) ?_; (try ((first | refine rl_move (v := (Value.func _ _ _ : Value)) rfl rfl ?_ | refine rl_move (v := (Value.nilFunc : Value)) rfl rfl ?_); (try (refine rl_move (v := (Value.slice _ _ _ : Value)) rfl rfl ?_; (try (refine rl_move (v := (Value.int _ _ : Value)) rfl rfl ?_; (try ((first | (refine rl_idx sl53 rfl rfl rfl rfl ?_ ?_ ?_; omega; omega) | (apply rl_idx sl53 rfl rfl rfl; assumption; omega; omega)); (try ((first | refine rl_loadAV hM ag55 rfl rfl (by assumption) (by rfl) ?_ | refine rl_loadAM (vs := [_, _, _]) 0 hM ag55 rfl rfl rfl rfl rfl ?_ | refine rl_loadAM (vs := [_, _, _]) 1 hM ag55 rfl rfl rfl rfl rfl ?_ | refine rl_loadAM (vs := [_, _, _]) 2 hM ag55 rfl rfl rfl rfl rfl ?_ | refine rl_loadAM (vs := [_, _, _]) 3 hM ag55 rfl rfl rfl rfl rfl ?_ | refine rl_loadAM (vs := [_, _, _]) 4 hM ag55 rfl rfl rfl rfl rfl ?_ | refine rl_loadAM (vs := [_, _, _]) 5 hM ag55 rfl rfl rfl rfl rfl ?_ | refine rl_loadAM (vs := [_, _, _]) 6 hM ag55 rfl rfl rfl rfl rfl ?_ | refine rl_loadAM (vs := [_, _, _]) 7 hM ag55 rfl rfl rfl rfl rfl ?_))))))))))))))
    refine rl_callv fn58 (hf x hxm _ w hxs hM) rfl rfl rfl ?_
    clear hM
    rintro _ w ⟨rfl, hM⟩
    cases hpx : p x with
    | true =>
      (repeat (first | refine seq_ ?_ | refine sq_normal ?_ | refine sq_ret ?_ | refine rl_nil ?_ | refine cond_t rfl ?_ | refine ret_ ?_ | refine inBlock_ret ?_ | refine kq_ret ?_ | (refine region_ (id := 5) ?_; (try (refine rl_move (v := (Value.int _ _ : Value)) rfl rfl ?_; (try (refine rl_assign (v := (Value.int _ _ : Value)) rfl rfl ?_)))))))
      refine bp_ret1 (v := Value.int _ _) rfl rfl ⟨q, rfl, by omega, ?_, hM⟩
      simp only [Int.natCast_nonneg, true_iff]
      exact List.any_eq_true.2 ⟨x, hxm, hpx⟩
    | false =>
      (repeat (first | refine sq_normal ?_ | refine rl_nil ?_ | refine cond_f rfl ?_ | refine skip_ ?_ | refine inBlock_normal ?_ | (refine region_ (id := 6) ?_; (try ((refine rl_add rfl rfl rfl ?_ ?_ ?_; omega; omega); (try (refine rl_move (v := (Value.int _ _ : Value)) rfl rfl ?_)))))))
      refine kq_normal (hL0 (ts.length - (q + 1)) _ _ (by omega) (by (repeat (first | with_reducible exact Agree.ov | with_reducible exact Agree.refl _ _ | refine Agree.upd rfl ?_ | refine Agree.ovs rfl ?_))) ⟨q + 1, rfl, by omega, rfl, hM, ?_⟩)
      rw [List.take_add_one, hx]
      intro y hy
      rcases List.mem_append.1 hy with hy | hy
      · exact hall y hy
      · simp at hy; subst hy; exact hpx
  · have hqe : q = ts.length := by omega
    subst hqe
    rw [List.take_length] at hall
    (repeat (first | refine seq_ ?_ | refine sq_normal ?_ | refine sq_exit ?_ | refine rl_nil ?_ | refine cond_f rfl ?_ | refine ret_ ?_ | refine exit_ ?_ | refine inBlock_exit ?_ | refine kq_exit ?_ | (refine region_ (id := 2) ?_; (try ((first | (refine rl_lss_t rfl rfl rfl ?_ ?_; omega) | (refine rl_lss_f rfl rfl rfl ?_ ?_; omega))))) | (refine region_ (id := 7) ?_; (try (refine rl_assign (v := (Value.int _ _ : Value)) rfl rfl ?_)))))
    refine bp_ret1 (v := Value.int _ _) rfl rfl ⟨-1, rfl, by omega, ?_, hM⟩
    rw [List.any_eq_true]
    refine ⟨fun h => absurd h (by omega), fun ⟨x, hx, hp⟩ => ?_⟩
    rw [hall x hx] at hp; cases hp
theorem containsFunc_ok (cap : List Value) (p : Tm → Bool) (ts : List Tm) (v : Value) (w0 w : World) (L : List Ent) (V : Vw) (hM : Mem w0 w L V) (hv : TmSl V v ts) (hl : ts.length ≤ 1000)
    (hf : ∀ x ∈ ts, ∀ (cs : List Value) (w : World), TmV V x cs → Mem w0 w L V → CallsOk Try.prog 58 ([Value.agg cs.toArray] ++ cap).toArray w fun r w' => r = .bool (p x) ∧ Mem w0 w' L V) :
    CallsOk Try.prog 57 #[v, .func (.func 58) #[] cap.toArray] w fun r w' => r = .bool (ts.any p) ∧ Mem w0 w' L V := by
  obtain ⟨a, c, b, off, rfl, _⟩ := id hv
  refine enter_ (N := 9) Try.func57 rfl rfl rfl ?_
  (repeat (first | refine seq_ ?_ | refine sq_normal ?_ | refine rl_nil ?_ | (refine region_ (id := 0) ?_; (try (refine rl_assign (v := (Value.bool _ : Value)) rfl rfl ?_))) | (refine region_ (id := 1) ?_; (try (refine rl_move (v := (Value.slice _ _ _ : Value)) rfl rfl ?_; (try ((first | refine rl_move (v := (Value.func _ _ _ : Value)) rfl rfl ?_ | refine rl_move (v := (Value.nilFunc : Value)) rfl rfl ?_))))))))
  refine rl_callf fn59 (indexFunc_ok cap p ts _ w0 w L V hM hv hl hf) rfl rfl ?_
  clear hM
  rintro _ w ⟨z, rfl, hz1, hz2, hM⟩
  cases hany : ts.any p with
  | true =>
    have hz := hz2.2 hany
    (repeat (first | refine sq_normal ?_ | refine rl_nil ?_ | refine ret_ ?_ | refine rl_assign (v := (Value.bool _ : Value)) rfl rfl ?_ | (first | (refine rl_geq_t rfl rfl rfl ?_ ?_; omega) | (refine rl_geq_f rfl rfl rfl ?_ ?_; omega))))
    exact bp_ret1 (v := Value.bool _) rfl rfl ⟨rfl, hM⟩
  | false =>
    have hz : z < 0 := by
      rcases Int.lt_or_le z 0 with h | h
      · exact h
      · rw [hz2.1 h] at hany; cases hany
    (repeat (first | refine sq_normal ?_ | refine rl_nil ?_ | refine ret_ ?_ | refine rl_assign (v := (Value.bool _ : Value)) rfl rfl ?_ | (first | (refine rl_geq_t rfl rfl rfl ?_ ?_; omega) | (refine rl_geq_f rfl rfl rfl ?_ ?_; omega))))
    exact bp_ret1 (v := Value.bool _) rfl rfl ⟨rfl, hM⟩
/-- The closure of within, one level down. -/
theorem within1_ok (st : St1) (x : Tm) (cs : List Value) (n : Int) (w0 w : World) (L : List Ent) (V : Vw) (s mb b3 b4 b5 : Nat) (cnt : Int) (o : Obj) (us : List Value)
    (h : ∀ (w : World) (L : List Ent), Mem w0 w (sv s cnt mb o L) V → CallsOk Try.prog 54 #[.pointer (some ⟨s, 0, none⟩), .int .i64 n, .agg cs.toArray] w fun r w' => r = .bool (decide (n ∈ (ap st x).vars)) ∧ Mem w0 w' (sv s cnt mb o L) V)
    (hx : TmV V x cs) (hM : Mem w0 w (.blk b5 us 55 :: .blk b4 [.int .i64 n] 3 :: .blk b3 [.pointer (some ⟨s, 0, none⟩)] 45 :: sv s cnt mb o L) V) :
    CallsOk Try.prog 58 #[.agg cs.toArray, .pointer (some ⟨b3, 0, none⟩), .pointer (some ⟨b4, 0, none⟩)] w fun r w' => r = .bool (decide (n ∈ (ap st x).vars)) ∧ Mem w0 w' (.blk b5 us 55 :: .blk b4 [.int .i64 n] 3 :: .blk b3 [.pointer (some ⟨s, 0, none⟩)] 45 :: sv s cnt mb o L) V := by
  obtain ⟨f0, n0, a0, k0, c0, rfl, _⟩ := id hx.shape
  refine enter_ (N := 9) Try.func58 rfl rfl rfl ?_
  (repeat (first | refine seq_ ?_ | refine sq_normal ?_ | refine rl_nil ?_ | (refine region_ (id := 0) ?_; (try ((refine rl_boxAM (d := 3) hM rfl rfl ?_; clear hM; intro w b3 hM); (try (refine rl_assign (v := (Value.bool _ : Value)) rfl rfl ?_))))) | (refine region_ (id := 1) ?_; (try ((first | refine rl_loadV hM vt45 rfl rfl (by first | assumption | exact VRow.get (by assumption) rfl | exact VRow.get0 (by assumption) rfl) ?_ | refine rl_loadM 0 hM vt45 rfl rfl rfl (by first | rfl | assumption) ?_ | refine rl_loadM 1 hM vt45 rfl rfl rfl (by first | rfl | assumption) ?_ | refine rl_loadM 2 hM vt45 rfl rfl rfl (by first | rfl | assumption) ?_ | refine rl_loadM 3 hM vt45 rfl rfl rfl (by first | rfl | assumption) ?_ | refine rl_loadM 4 hM vt45 rfl rfl rfl (by first | rfl | assumption) ?_ | refine rl_loadM 5 hM vt45 rfl rfl rfl (by first | rfl | assumption) ?_ | refine rl_loadM 6 hM vt45 rfl rfl rfl (by first | rfl | assumption) ?_ | refine rl_loadM 7 hM vt45 rfl rfl rfl (by first | rfl | assumption) ?_); (try ((first | refine rl_loadV hM vt3 rfl rfl (by first | assumption | exact VRow.get (by assumption) rfl | exact VRow.get0 (by assumption) rfl) ?_ | refine rl_loadM 0 hM vt3 rfl rfl rfl (by first | rfl | assumption) ?_ | refine rl_loadM 1 hM vt3 rfl rfl rfl (by first | rfl | assumption) ?_ | refine rl_loadM 2 hM vt3 rfl rfl rfl (by first | rfl | assumption) ?_ | refine rl_loadM 3 hM vt3 rfl rfl rfl (by first | rfl | assumption) ?_ | refine rl_loadM 4 hM vt3 rfl rfl rfl (by first | rfl | assumption) ?_ | refine rl_loadM 5 hM vt3 rfl rfl rfl (by first | rfl | assumption) ?_ | refine rl_loadM 6 hM vt3 rfl rfl rfl (by first | rfl | assumption) ?_ | refine rl_loadM 7 hM vt3 rfl rfl rfl (by first | rfl | assumption) ?_); (try ((first | refine rl_loadAV hM ag55 rfl rfl (by assumption) (by rfl) ?_ | refine rl_loadAM (vs := [_, _, _]) 0 hM ag55 rfl rfl rfl rfl rfl ?_ | refine rl_loadAM (vs := [_, _, _]) 1 hM ag55 rfl rfl rfl rfl rfl ?_ | refine rl_loadAM (vs := [_, _, _]) 2 hM ag55 rfl rfl rfl rfl rfl ?_ | refine rl_loadAM (vs := [_, _, _]) 3 hM ag55 rfl rfl rfl rfl rfl ?_ | refine rl_loadAM (vs := [_, _, _]) 4 hM ag55 rfl rfl rfl rfl rfl ?_ | refine rl_loadAM (vs := [_, _, _]) 5 hM ag55 rfl rfl rfl rfl rfl ?_ | refine rl_loadAM (vs := [_, _, _]) 6 hM ag55 rfl rfl rfl rfl rfl ?_ | refine rl_loadAM (vs := [_, _, _]) 7 hM ag55 rfl rfl rfl rfl rfl ?_))))))))))
  refine rl_callf fn54 (h w _ (hM.rot (A := [_, _, _, _]) (S := [_, _]))) rfl rfl ?_
  clear hM
  rintro _ w ⟨rfl, hM⟩
  replace hM := hM.rot (A := [_, _]) (S := [_, _, _, _])
  (repeat (first | refine sq_normal ?_ | refine rl_nil ?_ | refine ret_ ?_ | refine rl_assign (v := (Value.bool _ : Value)) rfl rfl ?_))
  exact bp_ret1 (v := Value.bool _) rfl rfl ⟨rfl, hM.dropn 1⟩
set_option maxHeartbeats 1000000 in
theorem within_ok : ∀ (N : Nat) (st : St1) (t : Tm) (cs : List Value) (n : Int), (ap st t).size ≤ N → I64 n → ∀ (w0 w : World) (L : List Ent) (V : Vw) (s mb : Nat) (cnt : Int) (o : Obj), Mem w0 w (sv s cnt mb o L) V → Knows V o st → TmV V t cs →
    CallsOk Try.prog 54 #[.pointer (some ⟨s, 0, none⟩), .int .i64 n, .agg cs.toArray] w fun r w' => r = .bool (decide (n ∈ (ap st t).vars)) ∧ Mem w0 w' (sv s cnt mb o L) V := by
  intro N
  induction N with
  | zero => intro st t cs n hN; have : 0 < (ap st t).size := by cases ap st t <;> simp [Tm.size]
            omega
  | succ N ih =>
  intro st t cs n hN hn w0 w L V s mb cnt o hM hk ht
  obtain ⟨f0, n0, a0, k0, c0, rfl, _⟩ := id ht.shape
  refine enter_ (N := 21) Try.func54 rfl rfl rfl ?_
  (repeat (first | refine seq_ ?_ | refine sq_normal ?_ | refine rl_nil ?_ | (refine region_ (id := 0) ?_; (try ((refine rl_boxM (d := 3) hM rfl rfl rfl ?_; clear hM; intro w b3 hM); (try ((refine rl_boxM (d := 4) hM rfl rfl rfl ?_; clear hM; intro w b4 hM); (try ((refine rl_boxAM (d := 5) hM rfl rfl ?_; clear hM; intro w b5 hM); (try (refine rl_assign (v := (Value.bool _ : Value)) rfl rfl ?_))))))))) | (refine region_ (id := 1) ?_; (try ((first | refine rl_loadV hM vt45 rfl rfl (by first | assumption | exact VRow.get (by assumption) rfl | exact VRow.get0 (by assumption) rfl) ?_ | refine rl_loadM 0 hM vt45 rfl rfl rfl (by first | rfl | assumption) ?_ | refine rl_loadM 1 hM vt45 rfl rfl rfl (by first | rfl | assumption) ?_ | refine rl_loadM 2 hM vt45 rfl rfl rfl (by first | rfl | assumption) ?_ | refine rl_loadM 3 hM vt45 rfl rfl rfl (by first | rfl | assumption) ?_ | refine rl_loadM 4 hM vt45 rfl rfl rfl (by first | rfl | assumption) ?_ | refine rl_loadM 5 hM vt45 rfl rfl rfl (by first | rfl | assumption) ?_ | refine rl_loadM 6 hM vt45 rfl rfl rfl (by first | rfl | assumption) ?_ | refine rl_loadM 7 hM vt45 rfl rfl rfl (by first | rfl | assumption) ?_); (try ((first | refine rl_loadAV hM ag55 rfl rfl (by assumption) (by rfl) ?_ | refine rl_loadAM (vs := [_, _, _]) 0 hM ag55 rfl rfl rfl rfl rfl ?_ | refine rl_loadAM (vs := [_, _, _]) 1 hM ag55 rfl rfl rfl rfl rfl ?_ | refine rl_loadAM (vs := [_, _, _]) 2 hM ag55 rfl rfl rfl rfl rfl ?_ | refine rl_loadAM (vs := [_, _, _]) 3 hM ag55 rfl rfl rfl rfl rfl ?_ | refine rl_loadAM (vs := [_, _, _]) 4 hM ag55 rfl rfl rfl rfl rfl ?_ | refine rl_loadAM (vs := [_, _, _]) 5 hM ag55 rfl rfl rfl rfl rfl ?_ | refine rl_loadAM (vs := [_, _, _]) 6 hM ag55 rfl rfl rfl rfl rfl ?_ | refine rl_loadAM (vs := [_, _, _]) 7 hM ag55 rfl rfl rfl rfl rfl ?_))))))))
  refine rl_callf fn44 (looks_ok w0 w _ V s mb cnt o st t _ (hM.rot (A := [_, _, _]) (S := [_, _])) hk ht) rfl rfl ?_
  clear hM
  rintro _ w ⟨u, us, rfl, hu, hM, hap, hfree⟩
  replace hM := hM.rot (A := [_, _]) (S := [_, _, _])
  have hui := hk.idem t
  obtain ⟨v1, rfl, hsl, hi1, hi2⟩ := id hu.open
  obtain ⟨a1, c1, b1, off1, rfl, g1, g2, g3, g4⟩ := id hsl
  cases u with
  | var k =>
    have hapk := hfree k rfl
    rw [hapk] at hap
    rw [← hap]
    have hf1 : (Tm.var k).form = 1 := rfl
    have hf2 : (Tm.var k).num = k := rfl
    by_cases hkn : k = n
    · (repeat (first | refine seq_ ?_ | refine sq_normal ?_ | refine sq_ret ?_ | refine rl_nil ?_ | refine cond_t rfl ?_ | refine ret_ ?_ | (refine region_ (id := 2) ?_; (try (refine rl_fld fd55_0 rfl rfl ?_; (try ((first | refine rl_loadV hM vt3 rfl rfl (by first | assumption | exact VRow.get (by assumption) rfl | exact VRow.get0 (by assumption) rfl) ?_ | refine rl_loadM 0 hM vt3 rfl rfl rfl (by first | rfl | assumption) ?_ | refine rl_loadM 1 hM vt3 rfl rfl rfl (by first | rfl | assumption) ?_ | refine rl_loadM 2 hM vt3 rfl rfl rfl (by first | rfl | assumption) ?_ | refine rl_loadM 3 hM vt3 rfl rfl rfl (by first | rfl | assumption) ?_ | refine rl_loadM 4 hM vt3 rfl rfl rfl (by first | rfl | assumption) ?_ | refine rl_loadM 5 hM vt3 rfl rfl rfl (by first | rfl | assumption) ?_ | refine rl_loadM 6 hM vt3 rfl rfl rfl (by first | rfl | assumption) ?_ | refine rl_loadM 7 hM vt3 rfl rfl rfl (by first | rfl | assumption) ?_); (try ((first | (refine rl_eql_t rfl rfl rfl ?_ ?_; omega) | (refine rl_eql_f rfl rfl rfl ?_ ?_; omega))))))))) | (refine region_ (id := 3) ?_; (try (refine rl_fld fd55_1 rfl rfl ?_; (try ((first | refine rl_loadV hM vt3 rfl rfl (by first | assumption | exact VRow.get (by assumption) rfl | exact VRow.get0 (by assumption) rfl) ?_ | refine rl_loadM 0 hM vt3 rfl rfl rfl (by first | rfl | assumption) ?_ | refine rl_loadM 1 hM vt3 rfl rfl rfl (by first | rfl | assumption) ?_ | refine rl_loadM 2 hM vt3 rfl rfl rfl (by first | rfl | assumption) ?_ | refine rl_loadM 3 hM vt3 rfl rfl rfl (by first | rfl | assumption) ?_ | refine rl_loadM 4 hM vt3 rfl rfl rfl (by first | rfl | assumption) ?_ | refine rl_loadM 5 hM vt3 rfl rfl rfl (by first | rfl | assumption) ?_ | refine rl_loadM 6 hM vt3 rfl rfl rfl (by first | rfl | assumption) ?_ | refine rl_loadM 7 hM vt3 rfl rfl rfl (by first | rfl | assumption) ?_); (try ((first | refine rl_loadV hM vt3 rfl rfl (by first | assumption | exact VRow.get (by assumption) rfl | exact VRow.get0 (by assumption) rfl) ?_ | refine rl_loadM 0 hM vt3 rfl rfl rfl (by first | rfl | assumption) ?_ | refine rl_loadM 1 hM vt3 rfl rfl rfl (by first | rfl | assumption) ?_ | refine rl_loadM 2 hM vt3 rfl rfl rfl (by first | rfl | assumption) ?_ | refine rl_loadM 3 hM vt3 rfl rfl rfl (by first | rfl | assumption) ?_ | refine rl_loadM 4 hM vt3 rfl rfl rfl (by first | rfl | assumption) ?_ | refine rl_loadM 5 hM vt3 rfl rfl rfl (by first | rfl | assumption) ?_ | refine rl_loadM 6 hM vt3 rfl rfl rfl (by first | rfl | assumption) ?_ | refine rl_loadM 7 hM vt3 rfl rfl rfl (by first | rfl | assumption) ?_); (try ((first | (refine rl_eql_t rfl rfl rfl ?_ ?_; omega) | (refine rl_eql_f rfl rfl rfl ?_ ?_; omega)); (try (refine rl_assign (v := (Value.bool _ : Value)) rfl rfl ?_))))))))))) | (first | (refine rl_storeWM 0 hM ag55 rfl rfl rfl rfl rfl rfl rfl ?_; clear hM; intro w hM) | (refine rl_storeWM 1 hM ag55 rfl rfl rfl rfl rfl rfl rfl ?_; clear hM; intro w hM) | (refine rl_storeWM 2 hM ag55 rfl rfl rfl rfl rfl rfl rfl ?_; clear hM; intro w hM) | (refine rl_storeWM 3 hM ag55 rfl rfl rfl rfl rfl rfl rfl ?_; clear hM; intro w hM) | (refine rl_storeWM 4 hM ag55 rfl rfl rfl rfl rfl rfl rfl ?_; clear hM; intro w hM) | (refine rl_storeWM 5 hM ag55 rfl rfl rfl rfl rfl rfl rfl ?_; clear hM; intro w hM) | (refine rl_storeWM 6 hM ag55 rfl rfl rfl rfl rfl rfl rfl ?_; clear hM; intro w hM) | (refine rl_storeWM 7 hM ag55 rfl rfl rfl rfl rfl rfl rfl ?_; clear hM; intro w hM))))
      refine bp_ret1 (v := Value.bool _) rfl rfl ⟨?_, hM.dropn 3⟩
      subst hkn
      simp [Tm.vars]
    · (repeat (first | refine seq_ ?_ | refine sq_normal ?_ | refine sq_ret ?_ | refine rl_nil ?_ | refine cond_t rfl ?_ | refine ret_ ?_ | (refine region_ (id := 2) ?_; (try (refine rl_fld fd55_0 rfl rfl ?_; (try ((first | refine rl_loadV hM vt3 rfl rfl (by first | assumption | exact VRow.get (by assumption) rfl | exact VRow.get0 (by assumption) rfl) ?_ | refine rl_loadM 0 hM vt3 rfl rfl rfl (by first | rfl | assumption) ?_ | refine rl_loadM 1 hM vt3 rfl rfl rfl (by first | rfl | assumption) ?_ | refine rl_loadM 2 hM vt3 rfl rfl rfl (by first | rfl | assumption) ?_ | refine rl_loadM 3 hM vt3 rfl rfl rfl (by first | rfl | assumption) ?_ | refine rl_loadM 4 hM vt3 rfl rfl rfl (by first | rfl | assumption) ?_ | refine rl_loadM 5 hM vt3 rfl rfl rfl (by first | rfl | assumption) ?_ | refine rl_loadM 6 hM vt3 rfl rfl rfl (by first | rfl | assumption) ?_ | refine rl_loadM 7 hM vt3 rfl rfl rfl (by first | rfl | assumption) ?_); (try ((first | (refine rl_eql_t rfl rfl rfl ?_ ?_; omega) | (refine rl_eql_f rfl rfl rfl ?_ ?_; omega))))))))) | (refine region_ (id := 3) ?_; (try (refine rl_fld fd55_1 rfl rfl ?_; (try ((first | refine rl_loadV hM vt3 rfl rfl (by first | assumption | exact VRow.get (by assumption) rfl | exact VRow.get0 (by assumption) rfl) ?_ | refine rl_loadM 0 hM vt3 rfl rfl rfl (by first | rfl | assumption) ?_ | refine rl_loadM 1 hM vt3 rfl rfl rfl (by first | rfl | assumption) ?_ | refine rl_loadM 2 hM vt3 rfl rfl rfl (by first | rfl | assumption) ?_ | refine rl_loadM 3 hM vt3 rfl rfl rfl (by first | rfl | assumption) ?_ | refine rl_loadM 4 hM vt3 rfl rfl rfl (by first | rfl | assumption) ?_ | refine rl_loadM 5 hM vt3 rfl rfl rfl (by first | rfl | assumption) ?_ | refine rl_loadM 6 hM vt3 rfl rfl rfl (by first | rfl | assumption) ?_ | refine rl_loadM 7 hM vt3 rfl rfl rfl (by first | rfl | assumption) ?_); (try ((first | refine rl_loadV hM vt3 rfl rfl (by first | assumption | exact VRow.get (by assumption) rfl | exact VRow.get0 (by assumption) rfl) ?_ | refine rl_loadM 0 hM vt3 rfl rfl rfl (by first | rfl | assumption) ?_ | refine rl_loadM 1 hM vt3 rfl rfl rfl (by first | rfl | assumption) ?_ | refine rl_loadM 2 hM vt3 rfl rfl rfl (by first | rfl | assumption) ?_ | refine rl_loadM 3 hM vt3 rfl rfl rfl (by first | rfl | assumption) ?_ | refine rl_loadM 4 hM vt3 rfl rfl rfl (by first | rfl | assumption) ?_ | refine rl_loadM 5 hM vt3 rfl rfl rfl (by first | rfl | assumption) ?_ | refine rl_loadM 6 hM vt3 rfl rfl rfl (by first | rfl | assumption) ?_ | refine rl_loadM 7 hM vt3 rfl rfl rfl (by first | rfl | assumption) ?_); (try ((first | (refine rl_eql_t rfl rfl rfl ?_ ?_; omega) | (refine rl_eql_f rfl rfl rfl ?_ ?_; omega)); (try (refine rl_assign (v := (Value.bool _ : Value)) rfl rfl ?_))))))))))) | (first | (refine rl_storeWM 0 hM ag55 rfl rfl rfl rfl rfl rfl rfl ?_; clear hM; intro w hM) | (refine rl_storeWM 1 hM ag55 rfl rfl rfl rfl rfl rfl rfl ?_; clear hM; intro w hM) | (refine rl_storeWM 2 hM ag55 rfl rfl rfl rfl rfl rfl rfl ?_; clear hM; intro w hM) | (refine rl_storeWM 3 hM ag55 rfl rfl rfl rfl rfl rfl rfl ?_; clear hM; intro w hM) | (refine rl_storeWM 4 hM ag55 rfl rfl rfl rfl rfl rfl rfl ?_; clear hM; intro w hM) | (refine rl_storeWM 5 hM ag55 rfl rfl rfl rfl rfl rfl rfl ?_; clear hM; intro w hM) | (refine rl_storeWM 6 hM ag55 rfl rfl rfl rfl rfl rfl rfl ?_; clear hM; intro w hM) | (refine rl_storeWM 7 hM ag55 rfl rfl rfl rfl rfl rfl rfl ?_; clear hM; intro w hM))))
      refine bp_ret1 (v := Value.bool _) rfl rfl ⟨?_, hM.dropn 3⟩
      simp [Tm.vars, Ne.symm hkn]
  | star =>
    have hf1 : (Tm.star).form = 2 := rfl
    rw [ap_star] at hap
    rw [← hap]
    (repeat (first | refine seq_ ?_ | refine sq_normal ?_ | refine rl_nil ?_ | refine cond_f rfl ?_ | refine skip_ ?_ | (refine region_ (id := 2) ?_; (try (refine rl_fld fd55_0 rfl rfl ?_; (try ((first | refine rl_loadV hM vt3 rfl rfl (by first | assumption | exact VRow.get (by assumption) rfl | exact VRow.get0 (by assumption) rfl) ?_ | refine rl_loadM 0 hM vt3 rfl rfl rfl (by first | rfl | assumption) ?_ | refine rl_loadM 1 hM vt3 rfl rfl rfl (by first | rfl | assumption) ?_ | refine rl_loadM 2 hM vt3 rfl rfl rfl (by first | rfl | assumption) ?_ | refine rl_loadM 3 hM vt3 rfl rfl rfl (by first | rfl | assumption) ?_ | refine rl_loadM 4 hM vt3 rfl rfl rfl (by first | rfl | assumption) ?_ | refine rl_loadM 5 hM vt3 rfl rfl rfl (by first | rfl | assumption) ?_ | refine rl_loadM 6 hM vt3 rfl rfl rfl (by first | rfl | assumption) ?_ | refine rl_loadM 7 hM vt3 rfl rfl rfl (by first | rfl | assumption) ?_); (try ((first | (refine rl_eql_t rfl rfl rfl ?_ ?_; omega) | (refine rl_eql_f rfl rfl rfl ?_ ?_; omega))))))))) | (refine region_ (id := 4) ?_; (try (refine rl_fld fd55_2 rfl rfl ?_; (try ((first | refine rl_loadV hM vt53 rfl rfl (by first | assumption | exact VRow.get (by assumption) rfl | exact VRow.get0 (by assumption) rfl) ?_ | refine rl_loadM 0 hM vt53 rfl rfl rfl (by first | rfl | assumption) ?_ | refine rl_loadM 1 hM vt53 rfl rfl rfl (by first | rfl | assumption) ?_ | refine rl_loadM 2 hM vt53 rfl rfl rfl (by first | rfl | assumption) ?_ | refine rl_loadM 3 hM vt53 rfl rfl rfl (by first | rfl | assumption) ?_ | refine rl_loadM 4 hM vt53 rfl rfl rfl (by first | rfl | assumption) ?_ | refine rl_loadM 5 hM vt53 rfl rfl rfl (by first | rfl | assumption) ?_ | refine rl_loadM 6 hM vt53 rfl rfl rfl (by first | rfl | assumption) ?_ | refine rl_loadM 7 hM vt53 rfl rfl rfl (by first | rfl | assumption) ?_); (try (refine rl_mkfunc2 (v1 := Value.pointer (some _)) (v2 := Value.pointer (some _)) rfl rfl rfl ?_))))))) | (first | (refine rl_storeWM 0 hM ag55 rfl rfl rfl rfl rfl rfl rfl ?_; clear hM; intro w hM) | (refine rl_storeWM 1 hM ag55 rfl rfl rfl rfl rfl rfl rfl ?_; clear hM; intro w hM) | (refine rl_storeWM 2 hM ag55 rfl rfl rfl rfl rfl rfl rfl ?_; clear hM; intro w hM) | (refine rl_storeWM 3 hM ag55 rfl rfl rfl rfl rfl rfl rfl ?_; clear hM; intro w hM) | (refine rl_storeWM 4 hM ag55 rfl rfl rfl rfl rfl rfl rfl ?_; clear hM; intro w hM) | (refine rl_storeWM 5 hM ag55 rfl rfl rfl rfl rfl rfl rfl ?_; clear hM; intro w hM) | (refine rl_storeWM 6 hM ag55 rfl rfl rfl rfl rfl rfl rfl ?_; clear hM; intro w hM) | (refine rl_storeWM 7 hM ag55 rfl rfl rfl rfl rfl rfl rfl ?_; clear hM; intro w hM))))
    refine rl_callf fn57 (containsFunc_ok _ (fun _ => false) _ _ w0 w _ V hM hsl (by simp [Tm.kids]) (fun x hx => by simp [Tm.kids] at hx)) rfl rfl ?_
    clear hM
    rintro _ w ⟨rfl, hM⟩
    (repeat (first | refine sq_normal ?_ | refine rl_nil ?_ | refine ret_ ?_ | refine rl_assign (v := (Value.bool _ : Value)) rfl rfl ?_))
    exact bp_ret1 (v := Value.bool _) rfl rfl ⟨by simp [Tm.vars, Tm.kids], hM.dropn 3⟩
  | arr x y =>
    have hf1 : (Tm.arr x y).form = 3 := rfl
    rw [ap_arr] at hap
    rw [← hap] at hN
    simp only [Tm.size] at hN
    (repeat (first | refine seq_ ?_ | refine sq_normal ?_ | refine rl_nil ?_ | refine cond_f rfl ?_ | refine skip_ ?_ | (refine region_ (id := 2) ?_; (try (refine rl_fld fd55_0 rfl rfl ?_; (try ((first | refine rl_loadV hM vt3 rfl rfl (by first | assumption | exact VRow.get (by assumption) rfl | exact VRow.get0 (by assumption) rfl) ?_ | refine rl_loadM 0 hM vt3 rfl rfl rfl (by first | rfl | assumption) ?_ | refine rl_loadM 1 hM vt3 rfl rfl rfl (by first | rfl | assumption) ?_ | refine rl_loadM 2 hM vt3 rfl rfl rfl (by first | rfl | assumption) ?_ | refine rl_loadM 3 hM vt3 rfl rfl rfl (by first | rfl | assumption) ?_ | refine rl_loadM 4 hM vt3 rfl rfl rfl (by first | rfl | assumption) ?_ | refine rl_loadM 5 hM vt3 rfl rfl rfl (by first | rfl | assumption) ?_ | refine rl_loadM 6 hM vt3 rfl rfl rfl (by first | rfl | assumption) ?_ | refine rl_loadM 7 hM vt3 rfl rfl rfl (by first | rfl | assumption) ?_); (try ((first | (refine rl_eql_t rfl rfl rfl ?_ ?_; omega) | (refine rl_eql_f rfl rfl rfl ?_ ?_; omega))))))))) | (refine region_ (id := 4) ?_; (try (refine rl_fld fd55_2 rfl rfl ?_; (try ((first | refine rl_loadV hM vt53 rfl rfl (by first | assumption | exact VRow.get (by assumption) rfl | exact VRow.get0 (by assumption) rfl) ?_ | refine rl_loadM 0 hM vt53 rfl rfl rfl (by first | rfl | assumption) ?_ | refine rl_loadM 1 hM vt53 rfl rfl rfl (by first | rfl | assumption) ?_ | refine rl_loadM 2 hM vt53 rfl rfl rfl (by first | rfl | assumption) ?_ | refine rl_loadM 3 hM vt53 rfl rfl rfl (by first | rfl | assumption) ?_ | refine rl_loadM 4 hM vt53 rfl rfl rfl (by first | rfl | assumption) ?_ | refine rl_loadM 5 hM vt53 rfl rfl rfl (by first | rfl | assumption) ?_ | refine rl_loadM 6 hM vt53 rfl rfl rfl (by first | rfl | assumption) ?_ | refine rl_loadM 7 hM vt53 rfl rfl rfl (by first | rfl | assumption) ?_); (try (refine rl_mkfunc2 (v1 := Value.pointer (some _)) (v2 := Value.pointer (some _)) rfl rfl rfl ?_))))))) | (first | (refine rl_storeWM 0 hM ag55 rfl rfl rfl rfl rfl rfl rfl ?_; clear hM; intro w hM) | (refine rl_storeWM 1 hM ag55 rfl rfl rfl rfl rfl rfl rfl ?_; clear hM; intro w hM) | (refine rl_storeWM 2 hM ag55 rfl rfl rfl rfl rfl rfl rfl ?_; clear hM; intro w hM) | (refine rl_storeWM 3 hM ag55 rfl rfl rfl rfl rfl rfl rfl ?_; clear hM; intro w hM) | (refine rl_storeWM 4 hM ag55 rfl rfl rfl rfl rfl rfl rfl ?_; clear hM; intro w hM) | (refine rl_storeWM 5 hM ag55 rfl rfl rfl rfl rfl rfl rfl ?_; clear hM; intro w hM) | (refine rl_storeWM 6 hM ag55 rfl rfl rfl rfl rfl rfl rfl ?_; clear hM; intro w hM) | (refine rl_storeWM 7 hM ag55 rfl rfl rfl rfl rfl rfl rfl ?_; clear hM; intro w hM))))
    refine rl_callf fn57 (containsFunc_ok [_, _] (fun x => decide (n ∈ (ap st x).vars)) _ _ w0 w _ V hM hsl (by simp [Tm.kids]) (fun x' hx cs' w' hx' hM' => within1_ok st x' cs' n w0 w' L V s mb _ _ _ cnt o _ (fun w'' L'' hM'' => ?_) hx' hM')) rfl rfl ?_
    · refine ih st x' cs' n ?_ hn w0 w'' L'' V s mb cnt o hM'' hk hx'
      simp only [Tm.kids, List.mem_cons, List.not_mem_nil, or_false] at hx
      rcases hx with rfl | rfl <;> omega
    clear hM
    rintro _ w ⟨rfl, hM⟩
    (repeat (first | refine sq_normal ?_ | refine rl_nil ?_ | refine ret_ ?_ | refine rl_assign (v := (Value.bool _ : Value)) rfl rfl ?_))
    refine bp_ret1 (v := Value.bool _) rfl rfl ⟨?_, hM.dropn 3⟩
    rw [← hap]
    simp [Tm.vars, Tm.kids]
end Go.Proofs.Ytkjahcegjplbnaa.Kin
