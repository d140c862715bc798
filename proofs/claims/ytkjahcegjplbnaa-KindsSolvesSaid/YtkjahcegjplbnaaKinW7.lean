/- The walk of kinds.look. -/
import Derived.Test.YtkjahcegjplbnaaKinTy
import Derived.Test.YtkjahcegjplbnaaKinT
import Derived.Test.YtkjahcegjplbnaaEnC
set_option linter.unusedVariables false
set_option linter.unusedSimpArgs false
namespace Go.Kn
open Go Go.Eng Go.RowKit
def Ents (V : Vw) (M : List (Int × Tm)) (m : List (Value × Value)) : Prop := m.length = M.length ∧ ∀ (i : Nat) n t, M[i]? = some (n, t) → ∃ cs, m[i]? = some (.int .i64 n, .agg cs.toArray) ∧ TmV V t cs
theorem Ents.keys {V : Vw} {M : List (Int × Tm)} {m : List (Value × Value)} (h : Ents V M m) : ∀ p ∈ m, ∃ n t, (n, t) ∈ M ∧ p.1 = .int .i64 n := by
  intro p hp
  obtain ⟨i, hi⟩ := List.mem_iff_getElem?.1 hp
  have hlt := (List.getElem?_eq_some_iff.1 hi).1
  obtain ⟨q, hq⟩ : ∃ q, M[i]? = some q := ⟨_, List.getElem?_eq_getElem (by rw [← h.1]; exact hlt)⟩
  obtain ⟨cs, h1, _⟩ := h.2 i q.1 q.2 hq
  rw [hi] at h1; cases h1
  exact ⟨q.1, q.2, List.mem_of_getElem? hq, rfl⟩
theorem Ents.isKey {V : Vw} {M : List (Int × Tm)} {m : List (Value × Value)} (h : Ents V M m) : ∀ p ∈ m, MapKept.IsKey (.int .i64) p.1 := by
  intro p hp
  obtain ⟨n, t, _, e⟩ := h.keys p hp
  rw [e]; rfl
/-- The solver's own things: its variable and its map. -/
abbrev sv (s : Nat) (cnt : Int) (mb : Nat) (o : Obj) (L : List Ent) : List Ent := .blk s [.int .i64 cnt, .map (some mb)] 87 :: .obj mb o :: L
end Go.Kn
namespace Go.Proofs.Ytkjahcegjplbnaa.Kin
open Go Go.Eng Go.RowKit Go.Kn
attribute [local irreducible] RL RX KQ SQ Exit.inBlock Exit.then BP NP CallsOk IsSl IsRows IsInts IsBools Own Blk Code.wp Calls wpList
theorem ui3 : Try.prog.underlying 3 = some (.int .i64) := by kernel_rfl
theorem um85 : Try.prog.underlying 85 = some (.map 3 55) := by kernel_rfl
theorem za55 : (Try.prog.info? 55).map (·.zero) = some (some (.agg #[.int .i64 0, .int .i64 0, .slice none 0 0])) := by kernel_rfl
set_option maxHeartbeats 1000000 in
theorem look_ok (w0 w : World) (L : List Ent) (V : Vw) (s mb : Nat) (cnt : Int) (o : Obj) (m : List (Value × Value)) (M : List (Int × Tm)) (st : St1) (t : Tm) (cs : List Value) (hM : Mem w0 w (sv s cnt mb o L) V) (ho : MapIs o m) (hE : Ents V M m) (hK : Kw M st) (ht : TmV V t cs) :
    CallsOk Try.prog 44 #[.pointer (some ⟨s, 0, none⟩), .agg cs.toArray] w fun r w' => ∃ u us, r = .agg us.toArray ∧ TmV V u us ∧ Mem w0 w' (sv s cnt mb o L) V ∧ ap st u = ap st t ∧ ∀ k, u = .var k → ap st (.var k) = .var k := by
  obtain ⟨f0, n0, a0, k0, c0, rfl, _⟩ := ht.shape
  refine enter_ (N := 25) Try.func44 rfl rfl rfl ?_
  (repeat (first | refine seq_ ?_ | refine sq_normal ?_ | refine rl_nil ?_ | refine block_ ?_ | (refine region_ (id := 0) ?_; (try ((refine rl_boxAM (d := 3) hM rfl rfl ?_; clear hM; intro w b3 hM); (try ((refine rl_allocAM (d := 4) hM ag55 rfl ?_; clear hM; intro w b4 hM))))))))
  refine loop1 [(5, 24)] 10 (fun mm _ wr => ∃ (u : Tm) (us : List Value) (j : Nat), TmV V u us ∧ ap st u = ap st t ∧ mm = M.length + 1 - j ∧ j ≤ M.length + 1 ∧ (∀ (i : Nat) k t', u = .var k → M[i]? = some (k, t') → j ≤ i) ∧ Mem w0 wr (.blk b4 [.int .i64 0, .int .i64 0, .slice none 0 0] 55 :: .blk b3 us 55 :: sv s cnt mb o L) V) _
    ⟨t, _, 0, ht, rfl, rfl, Nat.zero_le _, fun _ _ _ _ _ => Nat.zero_le _, hM⟩ ?_
  clear hM
  rintro mm τ v10 w ⟨u, us, j, hu, hap, rfl, hj, hjj, hM⟩ K0 hL0
  cases u with
  | star =>
    obtain ⟨a, c, rfl, hc⟩ := id hu
    (repeat (first | refine seq_ ?_ | refine sq_normal ?_ | refine sq_exit ?_ | refine rl_nil ?_ | refine cond_f rfl ?_ | refine ret_ ?_ | refine exit_ ?_ | refine inBlock_exit ?_ | refine kq_exit ?_ | (refine region_ (id := 1) ?_; (try (refine rl_fld fd55_0 rfl rfl ?_; (try ((first | refine rl_loadV hM vt3 rfl rfl (by first | assumption | exact VRow.get (by assumption) rfl | exact VRow.get0 (by assumption) rfl) ?_ | refine rl_loadM 0 hM vt3 rfl rfl rfl (by first | rfl | assumption) ?_ | refine rl_loadM 1 hM vt3 rfl rfl rfl (by first | rfl | assumption) ?_ | refine rl_loadM 2 hM vt3 rfl rfl rfl (by first | rfl | assumption) ?_ | refine rl_loadM 3 hM vt3 rfl rfl rfl (by first | rfl | assumption) ?_ | refine rl_loadM 4 hM vt3 rfl rfl rfl (by first | rfl | assumption) ?_ | refine rl_loadM 5 hM vt3 rfl rfl rfl (by first | rfl | assumption) ?_ | refine rl_loadM 6 hM vt3 rfl rfl rfl (by first | rfl | assumption) ?_ | refine rl_loadM 7 hM vt3 rfl rfl rfl (by first | rfl | assumption) ?_); (try ((first | (refine rl_eql_t rfl rfl rfl ?_ ?_; omega) | (refine rl_eql_f rfl rfl rfl ?_ ?_; omega))))))))) | (refine region_ (id := 6) ?_; (try ((first | refine rl_loadAV hM ag55 rfl rfl (by assumption) (by rfl) ?_ | refine rl_loadAM (vs := [_, _, _]) 0 hM ag55 rfl rfl rfl rfl rfl ?_ | refine rl_loadAM (vs := [_, _, _]) 1 hM ag55 rfl rfl rfl rfl rfl ?_ | refine rl_loadAM (vs := [_, _, _]) 2 hM ag55 rfl rfl rfl rfl rfl ?_ | refine rl_loadAM (vs := [_, _, _]) 3 hM ag55 rfl rfl rfl rfl rfl ?_ | refine rl_loadAM (vs := [_, _, _]) 4 hM ag55 rfl rfl rfl rfl rfl ?_ | refine rl_loadAM (vs := [_, _, _]) 5 hM ag55 rfl rfl rfl rfl rfl ?_ | refine rl_loadAM (vs := [_, _, _]) 6 hM ag55 rfl rfl rfl rfl rfl ?_ | refine rl_loadAM (vs := [_, _, _]) 7 hM ag55 rfl rfl rfl rfl rfl ?_); (try ((first | (refine rl_storeWM 0 hM ag55 rfl rfl rfl rfl rfl rfl rfl ?_; clear hM; intro w hM) | (refine rl_storeWM 1 hM ag55 rfl rfl rfl rfl rfl rfl rfl ?_; clear hM; intro w hM) | (refine rl_storeWM 2 hM ag55 rfl rfl rfl rfl rfl rfl rfl ?_; clear hM; intro w hM) | (refine rl_storeWM 3 hM ag55 rfl rfl rfl rfl rfl rfl rfl ?_; clear hM; intro w hM) | (refine rl_storeWM 4 hM ag55 rfl rfl rfl rfl rfl rfl rfl ?_; clear hM; intro w hM) | (refine rl_storeWM 5 hM ag55 rfl rfl rfl rfl rfl rfl rfl ?_; clear hM; intro w hM) | (refine rl_storeWM 6 hM ag55 rfl rfl rfl rfl rfl rfl rfl ?_; clear hM; intro w hM) | (refine rl_storeWM 7 hM ag55 rfl rfl rfl rfl rfl rfl rfl ?_; clear hM; intro w hM)))))))))
    exact bp_x1 rfl rfl (res_M 0 hM ag55 rfl rfl rfl) ⟨_, _, rfl, hu, hM.dropn 2, hap, fun k h => by cases h⟩
  | arr x y =>
    obtain ⟨b, off, c, xs, ys, rfl, _⟩ := id hu
    (repeat (first | refine seq_ ?_ | refine sq_normal ?_ | refine sq_exit ?_ | refine rl_nil ?_ | refine cond_f rfl ?_ | refine ret_ ?_ | refine exit_ ?_ | refine inBlock_exit ?_ | refine kq_exit ?_ | (refine region_ (id := 1) ?_; (try (refine rl_fld fd55_0 rfl rfl ?_; (try ((first | refine rl_loadV hM vt3 rfl rfl (by first | assumption | exact VRow.get (by assumption) rfl | exact VRow.get0 (by assumption) rfl) ?_ | refine rl_loadM 0 hM vt3 rfl rfl rfl (by first | rfl | assumption) ?_ | refine rl_loadM 1 hM vt3 rfl rfl rfl (by first | rfl | assumption) ?_ | refine rl_loadM 2 hM vt3 rfl rfl rfl (by first | rfl | assumption) ?_ | refine rl_loadM 3 hM vt3 rfl rfl rfl (by first | rfl | assumption) ?_ | refine rl_loadM 4 hM vt3 rfl rfl rfl (by first | rfl | assumption) ?_ | refine rl_loadM 5 hM vt3 rfl rfl rfl (by first | rfl | assumption) ?_ | refine rl_loadM 6 hM vt3 rfl rfl rfl (by first | rfl | assumption) ?_ | refine rl_loadM 7 hM vt3 rfl rfl rfl (by first | rfl | assumption) ?_); (try ((first | (refine rl_eql_t rfl rfl rfl ?_ ?_; omega) | (refine rl_eql_f rfl rfl rfl ?_ ?_; omega))))))))) | (refine region_ (id := 6) ?_; (try ((first | refine rl_loadAV hM ag55 rfl rfl (by assumption) (by rfl) ?_ | refine rl_loadAM (vs := [_, _, _]) 0 hM ag55 rfl rfl rfl rfl rfl ?_ | refine rl_loadAM (vs := [_, _, _]) 1 hM ag55 rfl rfl rfl rfl rfl ?_ | refine rl_loadAM (vs := [_, _, _]) 2 hM ag55 rfl rfl rfl rfl rfl ?_ | refine rl_loadAM (vs := [_, _, _]) 3 hM ag55 rfl rfl rfl rfl rfl ?_ | refine rl_loadAM (vs := [_, _, _]) 4 hM ag55 rfl rfl rfl rfl rfl ?_ | refine rl_loadAM (vs := [_, _, _]) 5 hM ag55 rfl rfl rfl rfl rfl ?_ | refine rl_loadAM (vs := [_, _, _]) 6 hM ag55 rfl rfl rfl rfl rfl ?_ | refine rl_loadAM (vs := [_, _, _]) 7 hM ag55 rfl rfl rfl rfl rfl ?_); (try ((first | (refine rl_storeWM 0 hM ag55 rfl rfl rfl rfl rfl rfl rfl ?_; clear hM; intro w hM) | (refine rl_storeWM 1 hM ag55 rfl rfl rfl rfl rfl rfl rfl ?_; clear hM; intro w hM) | (refine rl_storeWM 2 hM ag55 rfl rfl rfl rfl rfl rfl rfl ?_; clear hM; intro w hM) | (refine rl_storeWM 3 hM ag55 rfl rfl rfl rfl rfl rfl rfl ?_; clear hM; intro w hM) | (refine rl_storeWM 4 hM ag55 rfl rfl rfl rfl rfl rfl rfl ?_; clear hM; intro w hM) | (refine rl_storeWM 5 hM ag55 rfl rfl rfl rfl rfl rfl rfl ?_; clear hM; intro w hM) | (refine rl_storeWM 6 hM ag55 rfl rfl rfl rfl rfl rfl rfl ?_; clear hM; intro w hM) | (refine rl_storeWM 7 hM ag55 rfl rfl rfl rfl rfl rfl rfl ?_; clear hM; intro w hM)))))))))
    exact bp_x1 rfl rfl (res_M 0 hM ag55 rfl rfl rfl) ⟨_, _, rfl, hu, hM.dropn 2, hap, fun k h => by cases h⟩
  | var n =>
    obtain ⟨a, c, rfl, hc, hn⟩ := id hu
    (repeat (first | refine seq_ ?_ | refine sq_normal ?_ | refine rl_nil ?_ | refine cond_t rfl ?_ | refine skip_ ?_ | refine block_ ?_ | (refine region_ (id := 1) ?_; (try (refine rl_fld fd55_0 rfl rfl ?_; (try ((first | refine rl_loadV hM vt3 rfl rfl (by first | assumption | exact VRow.get (by assumption) rfl | exact VRow.get0 (by assumption) rfl) ?_ | refine rl_loadM 0 hM vt3 rfl rfl rfl (by first | rfl | assumption) ?_ | refine rl_loadM 1 hM vt3 rfl rfl rfl (by first | rfl | assumption) ?_ | refine rl_loadM 2 hM vt3 rfl rfl rfl (by first | rfl | assumption) ?_ | refine rl_loadM 3 hM vt3 rfl rfl rfl (by first | rfl | assumption) ?_ | refine rl_loadM 4 hM vt3 rfl rfl rfl (by first | rfl | assumption) ?_ | refine rl_loadM 5 hM vt3 rfl rfl rfl (by first | rfl | assumption) ?_ | refine rl_loadM 6 hM vt3 rfl rfl rfl (by first | rfl | assumption) ?_ | refine rl_loadM 7 hM vt3 rfl rfl rfl (by first | rfl | assumption) ?_); (try ((first | (refine rl_eql_t rfl rfl rfl ?_ ?_; omega) | (refine rl_eql_f rfl rfl rfl ?_ ?_; omega)))))))))))
    refine drawnM_ 12 [(0, false), (1, false), (2, false), (3, false), (4, false), (5, false), (6, false), (7, false), (8, false), (9, false), (10, true), (11, true)] (fun w => Mem w0 w (.blk b4 [.int .i64 0, .int .i64 0, .slice none 0 0] 55 :: .blk b3 [.int .i64 1, .int .i64 n, .slice a 0 c] 55 :: sv s cnt mb o L) V) hM mo (by kernel_rfl) (fun _ h => h) ?_
    clear hM
    intro w hM
    (try (refine rx_move (v := (Value.pointer _ : Value)) rfl rfl rfl ?_; (try (refine rx_nilck rfl rfl rfl ?_; (try (refine rx_fld rfl fd87_1 rfl rfl ?_; (try ((first | refine rx_loadV rfl (fun _ h => h) vt85 rfl rfl (by first | assumption | exact VRow.get (by assumption) rfl | exact VRow.get0 (by assumption) rfl) ?_ | refine rx_loadM 0 rfl (fun _ h => h) vt85 rfl rfl rfl (by first | rfl | assumption) ?_ | refine rx_loadM 1 rfl (fun _ h => h) vt85 rfl rfl rfl (by first | rfl | assumption) ?_ | refine rx_loadM 2 rfl (fun _ h => h) vt85 rfl rfl rfl (by first | rfl | assumption) ?_ | refine rx_loadM 3 rfl (fun _ h => h) vt85 rfl rfl rfl (by first | rfl | assumption) ?_ | refine rx_loadM 4 rfl (fun _ h => h) vt85 rfl rfl rfl (by first | rfl | assumption) ?_ | refine rx_loadM 5 rfl (fun _ h => h) vt85 rfl rfl rfl (by first | rfl | assumption) ?_ | refine rx_loadM 6 rfl (fun _ h => h) vt85 rfl rfl rfl (by first | rfl | assumption) ?_ | refine rx_loadM 7 rfl (fun _ h => h) vt85 rfl rfl rfl (by first | rfl | assumption) ?_); (try (refine rx_fld rfl fd55_1 rfl rfl ?_; (try ((first | refine rx_loadV rfl (fun _ h => h) vt3 rfl rfl (by first | assumption | exact VRow.get (by assumption) rfl | exact VRow.get0 (by assumption) rfl) ?_ | refine rx_loadM 0 rfl (fun _ h => h) vt3 rfl rfl rfl (by first | rfl | assumption) ?_ | refine rx_loadM 1 rfl (fun _ h => h) vt3 rfl rfl rfl (by first | rfl | assumption) ?_ | refine rx_loadM 2 rfl (fun _ h => h) vt3 rfl rfl rfl (by first | rfl | assumption) ?_ | refine rx_loadM 3 rfl (fun _ h => h) vt3 rfl rfl rfl (by first | rfl | assumption) ?_ | refine rx_loadM 4 rfl (fun _ h => h) vt3 rfl rfl rfl (by first | rfl | assumption) ?_ | refine rx_loadM 5 rfl (fun _ h => h) vt3 rfl rfl rfl (by first | rfl | assumption) ?_ | refine rx_loadM 6 rfl (fun _ h => h) vt3 rfl rfl rfl (by first | rfl | assumption) ?_ | refine rx_loadM 7 rfl (fun _ h => h) vt3 rfl rfl rfl (by first | rfl | assumption) ?_)))))))))))))
    by_cases hin : ∃ (i : Nat) (t' : Tm), M[i]? = some (n, t')
    · obtain ⟨i, t', hi⟩ := hin
      obtain ⟨cs', hm, ht'⟩ := hE.2 i n t' hi
      obtain ⟨f1, n1, a1, k1, c1, rfl, _⟩ := id ht'.shape
      have hMn : m.length = M.length := hE.1
      refine rx_lookup_t (j := i) (key := .int .i64 n) (val := .agg [Value.int .i64 f1, .int .i64 n1, .slice a1 k1 c1].toArray) 3 rfl (fun _ h => h) um85 ui3 rfl rfl rfl rfl ho hE.isKey rfl hm (fun q v hq hqe => ?_) ?_
      · obtain ⟨p, hp⟩ : ∃ p, M[q]? = some p := ⟨_, List.getElem?_eq_getElem (by have := (List.getElem?_eq_some_iff.1 hqe).1; omega)⟩
        obtain ⟨cq, h1, _⟩ := hE.2 q p.1 p.2 hp
        rw [hqe] at h1
        simp at h1
        have hnd := hK.once
        have hp' : (M.map (·.1))[q]? = some n := by rw [List.getElem?_map, hp]; simp [h1.1]
        have hi' : (M.map (·.1))[i]? = some n := by rw [List.getElem?_map, hi]; rfl
        have e1 := (List.getElem?_eq_some_iff.1 hp')
        have e2 := (List.getElem?_eq_some_iff.1 hi')
        have := (List.getElem_inj (h₀ := e1.1) (h₁ := e2.1) hnd).1 (e1.2.trans e2.2.symm)
        omega
      · (try (refine rx_move (v := (Value.tuple _ : Value)) rfl rfl rfl ?_; (try (refine rx_extract rfl rfl rfl rfl ?_; (try (refine rx_extract rfl rfl rfl rfl ?_))))))
        refine rx_eff rfl (fun Kx hKx => ?_)
        refine rl_allocAM (d := 5) hM ag55 rfl ?_
        clear hM
        intro w b5 hM
        refine rl_nil (kq_normal (hKx _ _ (hM.dropn 1) ?_))
        refine rx_eff rfl (fun Kx hKx => ?_)
        refine rl_storeWM 0 hM ag55 rfl rfl rfl rfl rfl rfl rfl ?_
        clear hM
        intro w hM
        refine rl_nil (kq_normal (hKx _ _ (hM.dropn 1) ?_))
        refine rx_nil rfl ?_
        (repeat (first | refine seq_ ?_ | refine sq_normal ?_ | refine rl_nil ?_ | refine cond_f rfl ?_ | refine skip_ ?_ | refine inBlock_normal ?_ | refine np_normal ?_ | (refine region_ (id := 3) ?_; (try (refine rl_move (v := (Value.bool _ : Value)) rfl rfl ?_; (try (refine rl_not rfl rfl ?_))))) | (refine region_ (id := 5) ?_; (try ((first | refine rl_loadAV hM ag55 rfl rfl (by assumption) (by rfl) ?_ | refine rl_loadAM (vs := [_, _, _]) 0 hM ag55 rfl rfl rfl rfl rfl ?_ | refine rl_loadAM (vs := [_, _, _]) 1 hM ag55 rfl rfl rfl rfl rfl ?_ | refine rl_loadAM (vs := [_, _, _]) 2 hM ag55 rfl rfl rfl rfl rfl ?_ | refine rl_loadAM (vs := [_, _, _]) 3 hM ag55 rfl rfl rfl rfl rfl ?_ | refine rl_loadAM (vs := [_, _, _]) 4 hM ag55 rfl rfl rfl rfl rfl ?_ | refine rl_loadAM (vs := [_, _, _]) 5 hM ag55 rfl rfl rfl rfl rfl ?_ | refine rl_loadAM (vs := [_, _, _]) 6 hM ag55 rfl rfl rfl rfl rfl ?_ | refine rl_loadAM (vs := [_, _, _]) 7 hM ag55 rfl rfl rfl rfl rfl ?_); (try ((first | (refine rl_storeWM 0 hM ag55 rfl rfl rfl rfl rfl rfl rfl ?_; clear hM; intro w hM) | (refine rl_storeWM 1 hM ag55 rfl rfl rfl rfl rfl rfl rfl ?_; clear hM; intro w hM) | (refine rl_storeWM 2 hM ag55 rfl rfl rfl rfl rfl rfl rfl ?_; clear hM; intro w hM) | (refine rl_storeWM 3 hM ag55 rfl rfl rfl rfl rfl rfl rfl ?_; clear hM; intro w hM) | (refine rl_storeWM 4 hM ag55 rfl rfl rfl rfl rfl rfl rfl ?_; clear hM; intro w hM) | (refine rl_storeWM 5 hM ag55 rfl rfl rfl rfl rfl rfl rfl ?_; clear hM; intro w hM) | (refine rl_storeWM 6 hM ag55 rfl rfl rfl rfl rfl rfl rfl ?_; clear hM; intro w hM) | (refine rl_storeWM 7 hM ag55 rfl rfl rfl rfl rfl rfl rfl ?_; clear hM; intro w hM))))))) | refine rl_assign (v := (Value.bool _ : Value)) rfl rfl ?_))
        have hji := hjj i n t' rfl hi
        have hil := (List.getElem?_eq_some_iff.1 hi).1
        refine kq_normal (hL0 (M.length + 1 - (i + 1)) _ _ (by omega) (by (repeat (first | with_reducible exact Agree.ov | with_reducible exact Agree.refl _ _ | refine Agree.upd rfl ?_ | refine Agree.ovs rfl ?_))) ⟨t', _, i + 1, ht', ?_, rfl, by omega, fun i2 k t2 he h2 => ?_, hM.erase 0⟩)
        · rw [← hap]; exact (hK.got _ (List.mem_of_getElem? hi)).symm
        · subst he
          exact hK.later i i2 n k t2 hi h2
    · have hno : ∀ p ∈ m, p.1 ≠ .int .i64 n := by
        intro p hp he
        obtain ⟨n2, t2, h1, h2⟩ := hE.keys p hp
        rw [h2] at he; cases he
        obtain ⟨i, hi⟩ := List.mem_iff_getElem?.1 h1
        exact hin ⟨i, t2, hi⟩
      refine rx_lookup_f (key := .int .i64 n) 3 rfl (fun _ h => h) um85 ui3 za55 rfl rfl rfl rfl ho hE.isKey rfl hno ?_
      (try (refine rx_move (v := (Value.tuple _ : Value)) rfl rfl rfl ?_; (try (refine rx_extract rfl rfl rfl rfl ?_; (try (refine rx_extract rfl rfl rfl rfl ?_))))))
      refine rx_eff rfl (fun Kx hKx => ?_)
      refine rl_allocAM (d := 5) hM ag55 rfl ?_
      clear hM
      intro w b5 hM
      refine rl_nil (kq_normal (hKx _ _ (hM.dropn 1) ?_))
      refine rx_eff rfl (fun Kx hKx => ?_)
      refine rl_storeWM 0 hM ag55 rfl rfl rfl rfl rfl rfl rfl ?_
      clear hM
      intro w hM
      refine rl_nil (kq_normal (hKx _ _ (hM.dropn 1) ?_))
      refine rx_nil rfl ?_
      (repeat (first | refine seq_ ?_ | refine sq_normal ?_ | refine sq_ret ?_ | refine rl_nil ?_ | refine cond_t rfl ?_ | refine ret_ ?_ | refine inBlock_ret ?_ | refine kq_ret ?_ | refine np_normal ?_ | (refine region_ (id := 3) ?_; (try (refine rl_move (v := (Value.bool _ : Value)) rfl rfl ?_; (try (refine rl_not rfl rfl ?_))))) | (refine region_ (id := 4) ?_; (try ((first | refine rl_loadAV hM ag55 rfl rfl (by assumption) (by rfl) ?_ | refine rl_loadAM (vs := [_, _, _]) 0 hM ag55 rfl rfl rfl rfl rfl ?_ | refine rl_loadAM (vs := [_, _, _]) 1 hM ag55 rfl rfl rfl rfl rfl ?_ | refine rl_loadAM (vs := [_, _, _]) 2 hM ag55 rfl rfl rfl rfl rfl ?_ | refine rl_loadAM (vs := [_, _, _]) 3 hM ag55 rfl rfl rfl rfl rfl ?_ | refine rl_loadAM (vs := [_, _, _]) 4 hM ag55 rfl rfl rfl rfl rfl ?_ | refine rl_loadAM (vs := [_, _, _]) 5 hM ag55 rfl rfl rfl rfl rfl ?_ | refine rl_loadAM (vs := [_, _, _]) 6 hM ag55 rfl rfl rfl rfl rfl ?_ | refine rl_loadAM (vs := [_, _, _]) 7 hM ag55 rfl rfl rfl rfl rfl ?_); (try ((first | (refine rl_storeWM 0 hM ag55 rfl rfl rfl rfl rfl rfl rfl ?_; clear hM; intro w hM) | (refine rl_storeWM 1 hM ag55 rfl rfl rfl rfl rfl rfl rfl ?_; clear hM; intro w hM) | (refine rl_storeWM 2 hM ag55 rfl rfl rfl rfl rfl rfl rfl ?_; clear hM; intro w hM) | (refine rl_storeWM 3 hM ag55 rfl rfl rfl rfl rfl rfl rfl ?_; clear hM; intro w hM) | (refine rl_storeWM 4 hM ag55 rfl rfl rfl rfl rfl rfl rfl ?_; clear hM; intro w hM) | (refine rl_storeWM 5 hM ag55 rfl rfl rfl rfl rfl rfl rfl ?_; clear hM; intro w hM) | (refine rl_storeWM 6 hM ag55 rfl rfl rfl rfl rfl rfl rfl ?_; clear hM; intro w hM) | (refine rl_storeWM 7 hM ag55 rfl rfl rfl rfl rfl rfl rfl ?_; clear hM; intro w hM))))))) | refine rl_assign (v := (Value.bool _ : Value)) rfl rfl ?_))
      exact bp_x1 rfl rfl (res_M 1 hM ag55 rfl rfl rfl) ⟨_, _, rfl, hu, hM.dropn 3, hap, fun k h => by
        cases h
        exact hK.free n (fun p hp e => by
          obtain ⟨i, hi⟩ := List.mem_iff_getElem?.1 hp
          exact hin ⟨i, p.2, by rw [hi, ← e]⟩)⟩
end Go.Proofs.Ytkjahcegjplbnaa.Kin
