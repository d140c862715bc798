/- The walks of fugueref03.Term, fuguelaw03.terms. -/
import Derived.Test.YtkjahcegjplbnaaKinW16
import Derived.Test.YtkjahcegjplbnaaKinW6
set_option linter.unusedVariables false
set_option linter.unusedSimpArgs false
namespace Go.Eng
theorem Mem.first {w0 w : World} {L : List Ent} {V : Vw} (n : Nat) (h : Mem w0 w L V) : Mem w0 w (L.take n) V :=
  h.pick id (fun i e hi => by
    rw [List.getElem?_take] at hi
    split at hi
    · exact hi
    · cases hi) (fun i j _ _ h => h)
end Go.Eng
namespace Go.Proofs.Ytkjahcegjplbnaa.Kin
open Go Go.Eng Go.RowKit Go.Kn
attribute [local irreducible] RL RX KQ SQ Exit.inBlock Exit.then BP NP CallsOk IsSl IsRows IsInts IsBools Own Blk Code.wp Calls wpList
/-- A term, made of numbers (nested so deep at most); and what is left of them. -/
def term : Nat → List Int → Tm × List Int
  | _, [] => (.star, [])
  | 0, x :: l => if around x 9 < 5 then (.var (1 + around x 9), l) else (.star, l)
  | d + 1, x :: l => if around x 9 < 5 then (.var (1 + around x 9), l) else if around x 9 < 7 then (.star, l) else
      (.arr (term d l).1 (term d (term d l).2).1, (term d (term d l).2).2)
theorem term_vars : ∀ (d : Nat) (l : List Int), ∀ m ∈ (term d l).1.vars, m ∈ U5
  | 0, [], m, hm => by simp [term, Tm.vars] at hm
  | d + 1, [], m, hm => by simp [term, Tm.vars] at hm
  | 0, x :: l, m, hm => by
    unfold term at hm
    have := around_lt x 9 (by omega)
    split at hm
    · simp only [Tm.vars, List.mem_singleton] at hm; subst hm
      simp only [U5, List.mem_cons, List.not_mem_nil, or_false]; omega
    · simp [Tm.vars] at hm
  | d + 1, x :: l, m, hm => by
    unfold term at hm
    have := around_lt x 9 (by omega)
    split at hm
    · simp only [Tm.vars, List.mem_singleton] at hm; subst hm
      simp only [U5, List.mem_cons, List.not_mem_nil, or_false]; omega
    · split at hm
      · simp [Tm.vars] at hm
      · simp only [Tm.vars, List.mem_append] at hm
        rcases hm with h | h
        · exact term_vars d _ m h
        · exact term_vars d _ m h
theorem term_ht : ∀ (d : Nat) (l : List Int), (term d l).1.ht ≤ d
  | 0, [] => Nat.le_refl _
  | d + 1, [] => Nat.zero_le _
  | 0, x :: l => by unfold term; split <;> exact Nat.le_refl _
  | d + 1, x :: l => by
    have h1 := term_ht d l
    have h2 := term_ht d (term d l).2
    unfold term
    split
    · exact Nat.zero_le _
    · split
      · exact Nat.zero_le _
      · simp only [Tm.ht]; omega
set_option maxRecDepth 4000 in
set_option maxHeartbeats 2000000 in
theorem term_ok : ∀ (d : Nat) (l : List Int) (deep : Int), deep = 3 - (d : Int) → d ≤ 3 → ∀ (w0 w : World) (L : List Ent) (V : Vw) (v : Value), Mem w0 w L V → IsInts V v l →
    CallsOk Try.prog 41 #[v, .int .i64 deep] w fun r w' => ∃ V' xs v2, VLe V V' ∧ Mem w0 w' L V' ∧ r = .tuple #[.agg xs.toArray, v2] ∧ TmV V' (term d l).1 xs ∧ IsInts V' v2 (term d l).2 := by
  intro d
  induction d with
  | zero =>
    intro l deep hd hd4 w0 w L V v hM hI
    have hI' := hI
    have hml := maxLen_le
    obtain ⟨a, c, b, off, rfl, h1, h2, h3, h4⟩ := hI.open
    refine enter_ (N := 55) Try.func41 rfl rfl rfl ?_
    cases l with
    | nil =>
      have hq0 : ((([] : List Int).length : Nat) : Int) = 0 := rfl
      (repeat (first | refine seq_ ?_ | refine sq_normal ?_ | refine sq_ret ?_ | refine rl_nil ?_ | refine cond_t rfl ?_ | refine ret_ ?_ | (refine region_ (id := 0) ?_; (try ((refine rl_allocAM (d := 4) hM ag49 rfl ?_; clear hM; intro w b4 hM); (try (refine rl_assign (v := (Value.slice _ _ _ : Value)) rfl rfl ?_))))) | (refine region_ (id := 1) ?_; (try (refine rl_move (v := (Value.slice _ _ _ : Value)) rfl rfl ?_; (try (refine rl_len sl22 rfl rfl ?_; (try ((first | (refine rl_eql_t rfl rfl rfl ?_ ?_; omega) | (refine rl_eql_f rfl rfl rfl ?_ ?_; omega))))))))) | (refine region_ (id := 2) ?_; (try (refine rl_build [_, (Value.int .i64 0), (Value.slice none 0 0)] ag49 pl49 rfl rfl rfl ?_; (try (refine rl_move (v := (Value.slice _ _ _ : Value)) rfl rfl ?_; (try ((first | (refine rl_storeWM 0 hM ag49 rfl rfl rfl rfl rfl rfl rfl ?_; clear hM; intro w hM) | (refine rl_storeWM 1 hM ag49 rfl rfl rfl rfl rfl rfl rfl ?_; clear hM; intro w hM) | (refine rl_storeWM 2 hM ag49 rfl rfl rfl rfl rfl rfl rfl ?_; clear hM; intro w hM) | (refine rl_storeWM 3 hM ag49 rfl rfl rfl rfl rfl rfl rfl ?_; clear hM; intro w hM) | (refine rl_storeWM 4 hM ag49 rfl rfl rfl rfl rfl rfl rfl ?_; clear hM; intro w hM) | (refine rl_storeWM 5 hM ag49 rfl rfl rfl rfl rfl rfl rfl ?_; clear hM; intro w hM) | (refine rl_storeWM 6 hM ag49 rfl rfl rfl rfl rfl rfl rfl ?_; clear hM; intro w hM) | (refine rl_storeWM 7 hM ag49 rfl rfl rfl rfl rfl rfl rfl ?_; clear hM; intro w hM)); (try (refine rl_assign (v := (Value.slice _ _ _ : Value)) rfl rfl ?_)))))))))))
      exact bp_x2 rfl rfl (res_M 0 hM ag49 rfl rfl rfl) (res_tmp rfl) ⟨V, _, _, VLe.refl _, hM.dropn 1, rfl, ⟨none, 0, rfl, Nat.zero_le _⟩, hI'⟩
    | cons x l =>
      have hq0 : (((x :: l).length : Nat) : Int) = l.length + 1 := by simp
      have hq1 : (x :: l).length = l.length + 1 := rfl
      have h3' := h3 (by omega)
      subst h3'
      have hx := hI'.rng x (by simp)
      have c1 : V ⟨b, off + (0 : Int).toNat, none⟩ = some (.int .i64 x) := h4 0 x rfl
      (repeat (first | refine seq_ ?_ | refine sq_normal ?_ | refine rl_nil ?_ | refine cond_f rfl ?_ | refine skip_ ?_ | (refine region_ (id := 0) ?_; (try ((refine rl_allocAM (d := 4) hM ag49 rfl ?_; clear hM; intro w b4 hM); (try (refine rl_assign (v := (Value.slice _ _ _ : Value)) rfl rfl ?_))))) | (refine region_ (id := 1) ?_; (try (refine rl_move (v := (Value.slice _ _ _ : Value)) rfl rfl ?_; (try (refine rl_len sl22 rfl rfl ?_; (try ((first | (refine rl_eql_t rfl rfl rfl ?_ ?_; omega) | (refine rl_eql_f rfl rfl rfl ?_ ?_; omega))))))))) | (refine region_ (id := 3) ?_; (try (refine rl_move (v := (Value.slice _ _ _ : Value)) rfl rfl ?_; (try ((first | (refine rl_idx1 sl22 rfl rfl rfl rfl ?_ ?_ ?_; omega; omega) | (apply rl_idx1 sl22 rfl rfl rfl; assumption; omega; omega)); (try ((first | refine rl_loadV hM vt3 rfl rfl (by first | assumption | exact VRow.get (by assumption) rfl | exact VRow.get0 (by assumption) rfl) ?_ | refine rl_loadM 0 hM vt3 rfl rfl rfl (by first | rfl | assumption) ?_ | refine rl_loadM 1 hM vt3 rfl rfl rfl (by first | rfl | assumption) ?_ | refine rl_loadM 2 hM vt3 rfl rfl rfl (by first | rfl | assumption) ?_ | refine rl_loadM 3 hM vt3 rfl rfl rfl (by first | rfl | assumption) ?_ | refine rl_loadM 4 hM vt3 rfl rfl rfl (by first | rfl | assumption) ?_ | refine rl_loadM 5 hM vt3 rfl rfl rfl (by first | rfl | assumption) ?_ | refine rl_loadM 6 hM vt3 rfl rfl rfl (by first | rfl | assumption) ?_ | refine rl_loadM 7 hM vt3 rfl rfl rfl (by first | rfl | assumption) ?_))))))))))
      refine rl_callf fn16 (around_ok x 9 w hx.1 hx.2 (by omega) (by omega)) rfl rfl ?_
      rintro _ _ ⟨rfl, rfl⟩
      have hr := around_lt x 9 (by omega)
      (repeat (first | refine seq_ ?_ | refine sq_normal ?_ | refine rl_nil ?_ | (refine region_ (id := 4) ?_; (try (refine rl_move (v := (Value.slice _ _ _ : Value)) rfl rfl ?_))) | refine rl_assign (v := (Value.int _ _ : Value)) rfl rfl ?_))
      refine rl_slice_l (b := b) (off := off) sl22 rfl rfl rfl (fun _ => rfl) (by omega) (by omega) h1 ?_
      intro a' ha'
      have hIt : IsInts V (.slice a' ((x :: l).length - (1 : Int).toNat) (c - (1 : Int).toNat)) l := by
        have e1 : (1 : Int).toNat = 1 := rfl
        rw [e1] at ha' ⊢
        refine isInts_of (b := b) (off := off + 1) (by omega) (by omega) (by omega) (fun h => by rw [ha' (by omega)]) (fun i u hu => ?_) (fun y hy => hI'.rng y (by simp [hy]))
        rw [List.getElem?_map, Option.map_eq_some_iff] at hu
        obtain ⟨y, hy, rfl⟩ := hu
        rw [show off + 1 + i = off + (i + 1) by omega]
        exact h4 (i + 1) y (by simpa using hy)
      by_cases h5 : around x 9 < 5
      · have e : term 0 (x :: l) = (.var (1 + around x 9), l) := by unfold term; rw [if_pos h5]
        rw [e]
        (repeat (first | refine seq_ ?_ | refine sq_normal ?_ | refine sq_ret ?_ | refine rl_nil ?_ | refine cond_t rfl ?_ | refine ret_ ?_ | (refine region_ (id := 5) ?_; (try (refine rl_move (v := (Value.int _ _ : Value)) rfl rfl ?_; (try ((first | (refine rl_lss_t rfl rfl rfl ?_ ?_; omega) | (refine rl_lss_f rfl rfl rfl ?_ ?_; omega))))))) | (refine region_ (id := 6) ?_; (try (refine rl_move (v := (Value.int _ _ : Value)) rfl rfl ?_; (try ((refine rl_add rfl rfl rfl ?_ ?_ ?_; omega; omega); (try (refine rl_build [_, _, (Value.slice none 0 0)] ag49 pl49 rfl rfl rfl ?_; (try (refine rl_move (v := (Value.slice _ _ _ : Value)) rfl rfl ?_; (try ((first | (refine rl_storeWM 0 hM ag49 rfl rfl rfl rfl rfl rfl rfl ?_; clear hM; intro w hM) | (refine rl_storeWM 1 hM ag49 rfl rfl rfl rfl rfl rfl rfl ?_; clear hM; intro w hM) | (refine rl_storeWM 2 hM ag49 rfl rfl rfl rfl rfl rfl rfl ?_; clear hM; intro w hM) | (refine rl_storeWM 3 hM ag49 rfl rfl rfl rfl rfl rfl rfl ?_; clear hM; intro w hM) | (refine rl_storeWM 4 hM ag49 rfl rfl rfl rfl rfl rfl rfl ?_; clear hM; intro w hM) | (refine rl_storeWM 5 hM ag49 rfl rfl rfl rfl rfl rfl rfl ?_; clear hM; intro w hM) | (refine rl_storeWM 6 hM ag49 rfl rfl rfl rfl rfl rfl rfl ?_; clear hM; intro w hM) | (refine rl_storeWM 7 hM ag49 rfl rfl rfl rfl rfl rfl rfl ?_; clear hM; intro w hM)); (try (refine rl_assign (v := (Value.slice _ _ _ : Value)) rfl rfl ?_))))))))))))) | refine rl_assign (v := (Value.slice _ _ _ : Value)) rfl rfl ?_))
        exact bp_x2 rfl rfl (res_M 0 hM ag49 rfl rfl rfl) (res_tmp rfl) ⟨V, _, _, VLe.refl _, hM.dropn 1, rfl, ⟨none, 0, rfl, Nat.zero_le _, by constructor <;> omega⟩, hIt⟩
      · have e : term 0 (x :: l) = (.star, l) := by unfold term; rw [if_neg h5]
        rw [e]
        by_cases h7 : around x 9 < 7
        · (repeat (first | refine seq_ ?_ | refine sq_normal ?_ | refine sq_ret ?_ | refine rl_nil ?_ | refine cond_t rfl ?_ | refine cond_f rfl ?_ | refine skip_ ?_ | refine ret_ ?_ | (refine region_ (id := 5) ?_; (try (refine rl_move (v := (Value.int _ _ : Value)) rfl rfl ?_; (try ((first | (refine rl_lss_t rfl rfl rfl ?_ ?_; omega) | (refine rl_lss_f rfl rfl rfl ?_ ?_; omega))))))) | (refine region_ (id := 7) ?_; (try (refine rl_move (v := (Value.int _ _ : Value)) rfl rfl ?_; (try ((first | (refine rl_lss_t rfl rfl rfl ?_ ?_; omega) | (refine rl_lss_f rfl rfl rfl ?_ ?_; omega)); (try (refine rl_move (v := (Value.bool _ : Value)) rfl rfl ?_; (try ((first | refine rl_off rfl ?_ | refine rl_move (v := (Value.int _ _ : Value)) rfl rfl ?_); (try ((first | refine rl_off rfl ?_ | (refine rl_gtr_t rfl rfl rfl ?_ ?_; omega) | (refine rl_gtr_f rfl rfl rfl ?_ ?_; omega)); (try (refine rl_pick (v := (Value.bool _ : Value)) rfl rfl rfl ?_))))))))))))) | (refine region_ (id := 8) ?_; (try (refine rl_build [_, (Value.int .i64 0), (Value.slice none 0 0)] ag49 pl49 rfl rfl rfl ?_; (try (refine rl_move (v := (Value.slice _ _ _ : Value)) rfl rfl ?_; (try ((first | (refine rl_storeWM 0 hM ag49 rfl rfl rfl rfl rfl rfl rfl ?_; clear hM; intro w hM) | (refine rl_storeWM 1 hM ag49 rfl rfl rfl rfl rfl rfl rfl ?_; clear hM; intro w hM) | (refine rl_storeWM 2 hM ag49 rfl rfl rfl rfl rfl rfl rfl ?_; clear hM; intro w hM) | (refine rl_storeWM 3 hM ag49 rfl rfl rfl rfl rfl rfl rfl ?_; clear hM; intro w hM) | (refine rl_storeWM 4 hM ag49 rfl rfl rfl rfl rfl rfl rfl ?_; clear hM; intro w hM) | (refine rl_storeWM 5 hM ag49 rfl rfl rfl rfl rfl rfl rfl ?_; clear hM; intro w hM) | (refine rl_storeWM 6 hM ag49 rfl rfl rfl rfl rfl rfl rfl ?_; clear hM; intro w hM) | (refine rl_storeWM 7 hM ag49 rfl rfl rfl rfl rfl rfl rfl ?_; clear hM; intro w hM)); (try (refine rl_assign (v := (Value.slice _ _ _ : Value)) rfl rfl ?_))))))))) | refine rl_assign (v := (Value.slice _ _ _ : Value)) rfl rfl ?_))
          exact bp_x2 rfl rfl (res_M 0 hM ag49 rfl rfl rfl) (res_tmp rfl) ⟨V, _, _, VLe.refl _, hM.dropn 1, rfl, ⟨none, 0, rfl, Nat.zero_le _⟩, hIt⟩
        · (repeat (first | refine seq_ ?_ | refine sq_normal ?_ | refine sq_ret ?_ | refine rl_nil ?_ | refine cond_t rfl ?_ | refine cond_f rfl ?_ | refine skip_ ?_ | refine ret_ ?_ | (refine region_ (id := 5) ?_; (try (refine rl_move (v := (Value.int _ _ : Value)) rfl rfl ?_; (try ((first | (refine rl_lss_t rfl rfl rfl ?_ ?_; omega) | (refine rl_lss_f rfl rfl rfl ?_ ?_; omega))))))) | (refine region_ (id := 7) ?_; (try (refine rl_move (v := (Value.int _ _ : Value)) rfl rfl ?_; (try ((first | (refine rl_lss_t rfl rfl rfl ?_ ?_; omega) | (refine rl_lss_f rfl rfl rfl ?_ ?_; omega)); (try (refine rl_move (v := (Value.bool _ : Value)) rfl rfl ?_; (try ((first | refine rl_off rfl ?_ | refine rl_move (v := (Value.int _ _ : Value)) rfl rfl ?_); (try ((first | refine rl_off rfl ?_ | (refine rl_gtr_t rfl rfl rfl ?_ ?_; omega) | (refine rl_gtr_f rfl rfl rfl ?_ ?_; omega)); (try (refine rl_pick (v := (Value.bool _ : Value)) rfl rfl rfl ?_))))))))))))) | (refine region_ (id := 8) ?_; (try (refine rl_build [_, (Value.int .i64 0), (Value.slice none 0 0)] ag49 pl49 rfl rfl rfl ?_; (try (refine rl_move (v := (Value.slice _ _ _ : Value)) rfl rfl ?_; (try ((first | (refine rl_storeWM 0 hM ag49 rfl rfl rfl rfl rfl rfl rfl ?_; clear hM; intro w hM) | (refine rl_storeWM 1 hM ag49 rfl rfl rfl rfl rfl rfl rfl ?_; clear hM; intro w hM) | (refine rl_storeWM 2 hM ag49 rfl rfl rfl rfl rfl rfl rfl ?_; clear hM; intro w hM) | (refine rl_storeWM 3 hM ag49 rfl rfl rfl rfl rfl rfl rfl ?_; clear hM; intro w hM) | (refine rl_storeWM 4 hM ag49 rfl rfl rfl rfl rfl rfl rfl ?_; clear hM; intro w hM) | (refine rl_storeWM 5 hM ag49 rfl rfl rfl rfl rfl rfl rfl ?_; clear hM; intro w hM) | (refine rl_storeWM 6 hM ag49 rfl rfl rfl rfl rfl rfl rfl ?_; clear hM; intro w hM) | (refine rl_storeWM 7 hM ag49 rfl rfl rfl rfl rfl rfl rfl ?_; clear hM; intro w hM)); (try (refine rl_assign (v := (Value.slice _ _ _ : Value)) rfl rfl ?_))))))))) | refine rl_assign (v := (Value.slice _ _ _ : Value)) rfl rfl ?_))
          exact bp_x2 rfl rfl (res_M 0 hM ag49 rfl rfl rfl) (res_tmp rfl) ⟨V, _, _, VLe.refl _, hM.dropn 1, rfl, ⟨none, 0, rfl, Nat.zero_le _⟩, hIt⟩
  | succ d ih =>
    intro l deep hd hd4 w0 w L V v hM hI
    have hI' := hI
    have hml := maxLen_le
    obtain ⟨a, c, b, off, rfl, h1, h2, h3, h4⟩ := hI.open
    refine enter_ (N := 55) Try.func41 rfl rfl rfl ?_
    cases l with
    | nil =>
      have hq0 : ((([] : List Int).length : Nat) : Int) = 0 := rfl
      (repeat (first | refine seq_ ?_ | refine sq_normal ?_ | refine sq_ret ?_ | refine rl_nil ?_ | refine cond_t rfl ?_ | refine ret_ ?_ | (refine region_ (id := 0) ?_; (try ((refine rl_allocAM (d := 4) hM ag49 rfl ?_; clear hM; intro w b4 hM); (try (refine rl_assign (v := (Value.slice _ _ _ : Value)) rfl rfl ?_))))) | (refine region_ (id := 1) ?_; (try (refine rl_move (v := (Value.slice _ _ _ : Value)) rfl rfl ?_; (try (refine rl_len sl22 rfl rfl ?_; (try ((first | (refine rl_eql_t rfl rfl rfl ?_ ?_; omega) | (refine rl_eql_f rfl rfl rfl ?_ ?_; omega))))))))) | (refine region_ (id := 2) ?_; (try (refine rl_build [_, (Value.int .i64 0), (Value.slice none 0 0)] ag49 pl49 rfl rfl rfl ?_; (try (refine rl_move (v := (Value.slice _ _ _ : Value)) rfl rfl ?_; (try ((first | (refine rl_storeWM 0 hM ag49 rfl rfl rfl rfl rfl rfl rfl ?_; clear hM; intro w hM) | (refine rl_storeWM 1 hM ag49 rfl rfl rfl rfl rfl rfl rfl ?_; clear hM; intro w hM) | (refine rl_storeWM 2 hM ag49 rfl rfl rfl rfl rfl rfl rfl ?_; clear hM; intro w hM) | (refine rl_storeWM 3 hM ag49 rfl rfl rfl rfl rfl rfl rfl ?_; clear hM; intro w hM) | (refine rl_storeWM 4 hM ag49 rfl rfl rfl rfl rfl rfl rfl ?_; clear hM; intro w hM) | (refine rl_storeWM 5 hM ag49 rfl rfl rfl rfl rfl rfl rfl ?_; clear hM; intro w hM) | (refine rl_storeWM 6 hM ag49 rfl rfl rfl rfl rfl rfl rfl ?_; clear hM; intro w hM) | (refine rl_storeWM 7 hM ag49 rfl rfl rfl rfl rfl rfl rfl ?_; clear hM; intro w hM)); (try (refine rl_assign (v := (Value.slice _ _ _ : Value)) rfl rfl ?_)))))))))))
      exact bp_x2 rfl rfl (res_M 0 hM ag49 rfl rfl rfl) (res_tmp rfl) ⟨V, _, _, VLe.refl _, hM.dropn 1, rfl, ⟨none, 0, rfl, Nat.zero_le _⟩, hI'⟩
    | cons x l =>
      have hq0 : (((x :: l).length : Nat) : Int) = l.length + 1 := by simp
      have hq1 : (x :: l).length = l.length + 1 := rfl
      have h3' := h3 (by omega)
      subst h3'
      have hx := hI'.rng x (by simp)
      have c1 : V ⟨b, off + (0 : Int).toNat, none⟩ = some (.int .i64 x) := h4 0 x rfl
      (repeat (first | refine seq_ ?_ | refine sq_normal ?_ | refine rl_nil ?_ | refine cond_f rfl ?_ | refine skip_ ?_ | (refine region_ (id := 0) ?_; (try ((refine rl_allocAM (d := 4) hM ag49 rfl ?_; clear hM; intro w b4 hM); (try (refine rl_assign (v := (Value.slice _ _ _ : Value)) rfl rfl ?_))))) | (refine region_ (id := 1) ?_; (try (refine rl_move (v := (Value.slice _ _ _ : Value)) rfl rfl ?_; (try (refine rl_len sl22 rfl rfl ?_; (try ((first | (refine rl_eql_t rfl rfl rfl ?_ ?_; omega) | (refine rl_eql_f rfl rfl rfl ?_ ?_; omega))))))))) | (refine region_ (id := 3) ?_; (try (refine rl_move (v := (Value.slice _ _ _ : Value)) rfl rfl ?_; (try ((first | (refine rl_idx1 sl22 rfl rfl rfl rfl ?_ ?_ ?_; omega; omega) | (apply rl_idx1 sl22 rfl rfl rfl; assumption; omega; omega)); (try ((first | refine rl_loadV hM vt3 rfl rfl (by first | assumption | exact VRow.get (by assumption) rfl | exact VRow.get0 (by assumption) rfl) ?_ | refine rl_loadM 0 hM vt3 rfl rfl rfl (by first | rfl | assumption) ?_ | refine rl_loadM 1 hM vt3 rfl rfl rfl (by first | rfl | assumption) ?_ | refine rl_loadM 2 hM vt3 rfl rfl rfl (by first | rfl | assumption) ?_ | refine rl_loadM 3 hM vt3 rfl rfl rfl (by first | rfl | assumption) ?_ | refine rl_loadM 4 hM vt3 rfl rfl rfl (by first | rfl | assumption) ?_ | refine rl_loadM 5 hM vt3 rfl rfl rfl (by first | rfl | assumption) ?_ | refine rl_loadM 6 hM vt3 rfl rfl rfl (by first | rfl | assumption) ?_ | refine rl_loadM 7 hM vt3 rfl rfl rfl (by first | rfl | assumption) ?_))))))))))
      refine rl_callf fn16 (around_ok x 9 w hx.1 hx.2 (by omega) (by omega)) rfl rfl ?_
      rintro _ _ ⟨rfl, rfl⟩
      have hr := around_lt x 9 (by omega)
      (repeat (first | refine seq_ ?_ | refine sq_normal ?_ | refine rl_nil ?_ | (refine region_ (id := 4) ?_; (try (refine rl_move (v := (Value.slice _ _ _ : Value)) rfl rfl ?_))) | refine rl_assign (v := (Value.int _ _ : Value)) rfl rfl ?_))
      refine rl_slice_l (b := b) (off := off) sl22 rfl rfl rfl (fun _ => rfl) (by omega) (by omega) h1 ?_
      intro a' ha'
      have hIt : IsInts V (.slice a' ((x :: l).length - (1 : Int).toNat) (c - (1 : Int).toNat)) l := by
        have e1 : (1 : Int).toNat = 1 := rfl
        rw [e1] at ha' ⊢
        refine isInts_of (b := b) (off := off + 1) (by omega) (by omega) (by omega) (fun h => by rw [ha' (by omega)]) (fun i u hu => ?_) (fun y hy => hI'.rng y (by simp [hy]))
        rw [List.getElem?_map, Option.map_eq_some_iff] at hu
        obtain ⟨y, hy, rfl⟩ := hu
        rw [show off + 1 + i = off + (i + 1) by omega]
        exact h4 (i + 1) y (by simpa using hy)
      by_cases h5 : around x 9 < 5
      · have e : term (d + 1) (x :: l) = (.var (1 + around x 9), l) := by unfold term; rw [if_pos h5]
        rw [e]
        (repeat (first | refine seq_ ?_ | refine sq_normal ?_ | refine sq_ret ?_ | refine rl_nil ?_ | refine cond_t rfl ?_ | refine ret_ ?_ | (refine region_ (id := 5) ?_; (try (refine rl_move (v := (Value.int _ _ : Value)) rfl rfl ?_; (try ((first | (refine rl_lss_t rfl rfl rfl ?_ ?_; omega) | (refine rl_lss_f rfl rfl rfl ?_ ?_; omega))))))) | (refine region_ (id := 6) ?_; (try (refine rl_move (v := (Value.int _ _ : Value)) rfl rfl ?_; (try ((refine rl_add rfl rfl rfl ?_ ?_ ?_; omega; omega); (try (refine rl_build [_, _, (Value.slice none 0 0)] ag49 pl49 rfl rfl rfl ?_; (try (refine rl_move (v := (Value.slice _ _ _ : Value)) rfl rfl ?_; (try ((first | (refine rl_storeWM 0 hM ag49 rfl rfl rfl rfl rfl rfl rfl ?_; clear hM; intro w hM) | (refine rl_storeWM 1 hM ag49 rfl rfl rfl rfl rfl rfl rfl ?_; clear hM; intro w hM) | (refine rl_storeWM 2 hM ag49 rfl rfl rfl rfl rfl rfl rfl ?_; clear hM; intro w hM) | (refine rl_storeWM 3 hM ag49 rfl rfl rfl rfl rfl rfl rfl ?_; clear hM; intro w hM) | (refine rl_storeWM 4 hM ag49 rfl rfl rfl rfl rfl rfl rfl ?_; clear hM; intro w hM) | (refine rl_storeWM 5 hM ag49 rfl rfl rfl rfl rfl rfl rfl ?_; clear hM; intro w hM) | (refine rl_storeWM 6 hM ag49 rfl rfl rfl rfl rfl rfl rfl ?_; clear hM; intro w hM) | (refine rl_storeWM 7 hM ag49 rfl rfl rfl rfl rfl rfl rfl ?_; clear hM; intro w hM)); (try (refine rl_assign (v := (Value.slice _ _ _ : Value)) rfl rfl ?_))))))))))))) | refine rl_assign (v := (Value.slice _ _ _ : Value)) rfl rfl ?_))
        exact bp_x2 rfl rfl (res_M 0 hM ag49 rfl rfl rfl) (res_tmp rfl) ⟨V, _, _, VLe.refl _, hM.dropn 1, rfl, ⟨none, 0, rfl, Nat.zero_le _, by constructor <;> omega⟩, hIt⟩
      · by_cases h7 : around x 9 < 7
        · have e : term (d + 1) (x :: l) = (.star, l) := by unfold term; rw [if_neg h5, if_pos h7]
          rw [e]
          (repeat (first | refine seq_ ?_ | refine sq_normal ?_ | refine sq_ret ?_ | refine rl_nil ?_ | refine cond_t rfl ?_ | refine cond_f rfl ?_ | refine skip_ ?_ | refine ret_ ?_ | (refine region_ (id := 5) ?_; (try (refine rl_move (v := (Value.int _ _ : Value)) rfl rfl ?_; (try ((first | (refine rl_lss_t rfl rfl rfl ?_ ?_; omega) | (refine rl_lss_f rfl rfl rfl ?_ ?_; omega))))))) | (refine region_ (id := 7) ?_; (try (refine rl_move (v := (Value.int _ _ : Value)) rfl rfl ?_; (try ((first | (refine rl_lss_t rfl rfl rfl ?_ ?_; omega) | (refine rl_lss_f rfl rfl rfl ?_ ?_; omega)); (try (refine rl_move (v := (Value.bool _ : Value)) rfl rfl ?_; (try ((first | refine rl_off rfl ?_ | refine rl_move (v := (Value.int _ _ : Value)) rfl rfl ?_); (try ((first | refine rl_off rfl ?_ | (refine rl_gtr_t rfl rfl rfl ?_ ?_; omega) | (refine rl_gtr_f rfl rfl rfl ?_ ?_; omega)); (try (refine rl_pick (v := (Value.bool _ : Value)) rfl rfl rfl ?_))))))))))))) | (refine region_ (id := 8) ?_; (try (refine rl_build [_, (Value.int .i64 0), (Value.slice none 0 0)] ag49 pl49 rfl rfl rfl ?_; (try (refine rl_move (v := (Value.slice _ _ _ : Value)) rfl rfl ?_; (try ((first | (refine rl_storeWM 0 hM ag49 rfl rfl rfl rfl rfl rfl rfl ?_; clear hM; intro w hM) | (refine rl_storeWM 1 hM ag49 rfl rfl rfl rfl rfl rfl rfl ?_; clear hM; intro w hM) | (refine rl_storeWM 2 hM ag49 rfl rfl rfl rfl rfl rfl rfl ?_; clear hM; intro w hM) | (refine rl_storeWM 3 hM ag49 rfl rfl rfl rfl rfl rfl rfl ?_; clear hM; intro w hM) | (refine rl_storeWM 4 hM ag49 rfl rfl rfl rfl rfl rfl rfl ?_; clear hM; intro w hM) | (refine rl_storeWM 5 hM ag49 rfl rfl rfl rfl rfl rfl rfl ?_; clear hM; intro w hM) | (refine rl_storeWM 6 hM ag49 rfl rfl rfl rfl rfl rfl rfl ?_; clear hM; intro w hM) | (refine rl_storeWM 7 hM ag49 rfl rfl rfl rfl rfl rfl rfl ?_; clear hM; intro w hM)); (try (refine rl_assign (v := (Value.slice _ _ _ : Value)) rfl rfl ?_))))))))) | refine rl_assign (v := (Value.slice _ _ _ : Value)) rfl rfl ?_))
          exact bp_x2 rfl rfl (res_M 0 hM ag49 rfl rfl rfl) (res_tmp rfl) ⟨V, _, _, VLe.refl _, hM.dropn 1, rfl, ⟨none, 0, rfl, Nat.zero_le _⟩, hIt⟩
        · have e : term (d + 1) (x :: l) = (.arr (term d l).1 (term d (term d l).2).1, (term d (term d l).2).2) := by rw [term, if_neg h5, if_neg h7]
          rw [e]
          (repeat (first | refine seq_ ?_ | refine sq_normal ?_ | refine rl_nil ?_ | refine cond_f rfl ?_ | refine skip_ ?_ | (refine region_ (id := 5) ?_; (try (refine rl_move (v := (Value.int _ _ : Value)) rfl rfl ?_; (try ((first | (refine rl_lss_t rfl rfl rfl ?_ ?_; omega) | (refine rl_lss_f rfl rfl rfl ?_ ?_; omega))))))) | (refine region_ (id := 7) ?_; (try (refine rl_move (v := (Value.int _ _ : Value)) rfl rfl ?_; (try ((first | (refine rl_lss_t rfl rfl rfl ?_ ?_; omega) | (refine rl_lss_f rfl rfl rfl ?_ ?_; omega)); (try (refine rl_move (v := (Value.bool _ : Value)) rfl rfl ?_; (try ((first | refine rl_off rfl ?_ | refine rl_move (v := (Value.int _ _ : Value)) rfl rfl ?_); (try ((first | refine rl_off rfl ?_ | (refine rl_gtr_t rfl rfl rfl ?_ ?_; omega) | (refine rl_gtr_f rfl rfl rfl ?_ ?_; omega)); (try (refine rl_pick (v := (Value.bool _ : Value)) rfl rfl rfl ?_))))))))))))) | (refine region_ (id := 9) ?_; (try (refine rl_move (v := (Value.slice _ _ _ : Value)) rfl rfl ?_; (try (refine rl_move (v := (Value.int _ _ : Value)) rfl rfl ?_; (try ((refine rl_add rfl rfl rfl ?_ ?_ ?_; omega; omega)))))))) | refine rl_assign (v := (Value.slice _ _ _ : Value)) rfl rfl ?_))
          refine rl_callf fn41 (ih l (deep + 1) (by omega) (by omega) w0 w _ V _ hM hIt) rfl rfl ?_
          clear hM
          rintro _ w ⟨V1, xs, v1, hV1, hM, rfl, hx1, hI1⟩
          obtain ⟨f2, n2, a2, k2, c2, rfl, _⟩ := id hx1.shape
          obtain ⟨_, _, _, _, rfl, _⟩ := id hI1.open
          (repeat (first | refine seq_ ?_ | refine sq_normal ?_ | refine rl_nil ?_ | (refine region_ (id := 10) ?_; (try (refine rl_move (v := (Value.slice _ _ _ : Value)) rfl rfl ?_; (try (refine rl_move (v := (Value.int _ _ : Value)) rfl rfl ?_; (try ((refine rl_add rfl rfl rfl ?_ ?_ ?_; omega; omega)))))))) | refine rl_assign (v := (Value.slice _ _ _ : Value)) rfl rfl ?_ | (first | (refine rl_storeWM 0 hM ag49 rfl rfl rfl rfl rfl rfl rfl ?_; clear hM; intro w hM) | (refine rl_storeWM 1 hM ag49 rfl rfl rfl rfl rfl rfl rfl ?_; clear hM; intro w hM) | (refine rl_storeWM 2 hM ag49 rfl rfl rfl rfl rfl rfl rfl ?_; clear hM; intro w hM) | (refine rl_storeWM 3 hM ag49 rfl rfl rfl rfl rfl rfl rfl ?_; clear hM; intro w hM) | (refine rl_storeWM 4 hM ag49 rfl rfl rfl rfl rfl rfl rfl ?_; clear hM; intro w hM) | (refine rl_storeWM 5 hM ag49 rfl rfl rfl rfl rfl rfl rfl ?_; clear hM; intro w hM) | (refine rl_storeWM 6 hM ag49 rfl rfl rfl rfl rfl rfl rfl ?_; clear hM; intro w hM) | (refine rl_storeWM 7 hM ag49 rfl rfl rfl rfl rfl rfl rfl ?_; clear hM; intro w hM)) | refine rl_move (v := (Value.tuple _ : Value)) rfl rfl ?_ | refine rl_extract rfl rfl rfl ?_ | (refine rl_allocAM (d := 7) hM ag49 rfl ?_; clear hM; intro w b7 hM)))
          refine rl_callf fn41 (ih _ (deep + 1) (by omega) (by omega) w0 w _ V1 _ hM hI1) rfl rfl ?_
          clear hM
          rintro _ w ⟨V2, ys, v2, hV2, hM, rfl, hx2, hI2⟩
          obtain ⟨f3, n3, a3, k3, c3, rfl, _⟩ := id hx2.shape
          obtain ⟨_, _, _, _, rfl, _⟩ := id hI2.open
          (repeat (first | refine seq_ ?_ | refine sq_normal ?_ | refine rl_nil ?_ | refine ret_ ?_ | (refine region_ (id := 11) ?_; (try ((first | refine rl_loadAV hM ag49 rfl rfl (by assumption) (by rfl) ?_ | refine rl_loadAM (vs := [_, _, _]) 0 hM ag49 rfl rfl rfl rfl rfl ?_ | refine rl_loadAM (vs := [_, _, _]) 1 hM ag49 rfl rfl rfl rfl rfl ?_ | refine rl_loadAM (vs := [_, _, _]) 2 hM ag49 rfl rfl rfl rfl rfl ?_ | refine rl_loadAM (vs := [_, _, _]) 3 hM ag49 rfl rfl rfl rfl rfl ?_ | refine rl_loadAM (vs := [_, _, _]) 4 hM ag49 rfl rfl rfl rfl rfl ?_ | refine rl_loadAM (vs := [_, _, _]) 5 hM ag49 rfl rfl rfl rfl rfl ?_ | refine rl_loadAM (vs := [_, _, _]) 6 hM ag49 rfl rfl rfl rfl rfl ?_ | refine rl_loadAM (vs := [_, _, _]) 7 hM ag49 rfl rfl rfl rfl rfl ?_); (try ((first | refine rl_loadAV hM ag49 rfl rfl (by assumption) (by rfl) ?_ | refine rl_loadAM (vs := [_, _, _]) 0 hM ag49 rfl rfl rfl rfl rfl ?_ | refine rl_loadAM (vs := [_, _, _]) 1 hM ag49 rfl rfl rfl rfl rfl ?_ | refine rl_loadAM (vs := [_, _, _]) 2 hM ag49 rfl rfl rfl rfl rfl ?_ | refine rl_loadAM (vs := [_, _, _]) 3 hM ag49 rfl rfl rfl rfl rfl ?_ | refine rl_loadAM (vs := [_, _, _]) 4 hM ag49 rfl rfl rfl rfl rfl ?_ | refine rl_loadAM (vs := [_, _, _]) 5 hM ag49 rfl rfl rfl rfl rfl ?_ | refine rl_loadAM (vs := [_, _, _]) 6 hM ag49 rfl rfl rfl rfl rfl ?_ | refine rl_loadAM (vs := [_, _, _]) 7 hM ag49 rfl rfl rfl rfl rfl ?_); (try ((refine rl_bsliceM (d := 52) [_, _] hM sl47 rfl rfl rfl rfl rfl (by decide) (by decide) ?_; clear hM; intro w b52 hM); (try (refine rl_build [_, (Value.int .i64 0), _] ag49 pl49 rfl rfl rfl ?_; (try (refine rl_move (v := (Value.slice _ _ _ : Value)) rfl rfl ?_; (try ((first | (refine rl_storeWM 0 hM ag49 rfl rfl rfl rfl rfl rfl rfl ?_; clear hM; intro w hM) | (refine rl_storeWM 1 hM ag49 rfl rfl rfl rfl rfl rfl rfl ?_; clear hM; intro w hM) | (refine rl_storeWM 2 hM ag49 rfl rfl rfl rfl rfl rfl rfl ?_; clear hM; intro w hM) | (refine rl_storeWM 3 hM ag49 rfl rfl rfl rfl rfl rfl rfl ?_; clear hM; intro w hM) | (refine rl_storeWM 4 hM ag49 rfl rfl rfl rfl rfl rfl rfl ?_; clear hM; intro w hM) | (refine rl_storeWM 5 hM ag49 rfl rfl rfl rfl rfl rfl rfl ?_; clear hM; intro w hM) | (refine rl_storeWM 6 hM ag49 rfl rfl rfl rfl rfl rfl rfl ?_; clear hM; intro w hM) | (refine rl_storeWM 7 hM ag49 rfl rfl rfl rfl rfl rfl rfl ?_; clear hM; intro w hM)); (try (refine rl_assign (v := (Value.slice _ _ _ : Value)) rfl rfl ?_))))))))))))))) | refine rl_assign (v := (Value.slice _ _ _ : Value)) rfl rfl ?_ | (first | (refine rl_storeWM 0 hM ag49 rfl rfl rfl rfl rfl rfl rfl ?_; clear hM; intro w hM) | (refine rl_storeWM 1 hM ag49 rfl rfl rfl rfl rfl rfl rfl ?_; clear hM; intro w hM) | (refine rl_storeWM 2 hM ag49 rfl rfl rfl rfl rfl rfl rfl ?_; clear hM; intro w hM) | (refine rl_storeWM 3 hM ag49 rfl rfl rfl rfl rfl rfl rfl ?_; clear hM; intro w hM) | (refine rl_storeWM 4 hM ag49 rfl rfl rfl rfl rfl rfl rfl ?_; clear hM; intro w hM) | (refine rl_storeWM 5 hM ag49 rfl rfl rfl rfl rfl rfl rfl ?_; clear hM; intro w hM) | (refine rl_storeWM 6 hM ag49 rfl rfl rfl rfl rfl rfl rfl ?_; clear hM; intro w hM) | (refine rl_storeWM 7 hM ag49 rfl rfl rfl rfl rfl rfl rfl ?_; clear hM; intro w hM)) | refine rl_move (v := (Value.tuple _ : Value)) rfl rfl ?_ | refine rl_extract rfl rfl rfl ?_ | (refine rl_allocAM (d := 9) hM ag49 rfl ?_; clear hM; intro w b9 hM)))
          obtain ⟨V4, hV4, hM2, hc⟩ := hM.freezeBlk
          exact bp_x2 rfl rfl (res_M 3 hM ag49 rfl rfl rfl) (res_tmp rfl) ⟨V4, _, _, hV1.trans (hV2.trans hV4), hM2.dropn 3, rfl, TmV.pair (hx1.le hV2) hx2 hV4 hc, hI2.le hV4⟩
theorem terms_ok (l : List Int) (w0 w : World) (L : List Ent) (V : Vw) (v : Value) (hM : Mem w0 w L V) (hI : IsInts V v l) :
    CallsOk Try.prog 23 #[v] w fun r w' => ∃ V' xs ys, VLe V V' ∧ Mem w0 w' L V' ∧ r = .tuple #[.agg xs.toArray, .agg ys.toArray] ∧ TmV V' (term 3 (l.take 14)).1 xs ∧ TmV V' (term 3 (term 3 (l.take 14)).2).1 ys := by
  obtain ⟨_, _, _, _, rfl, _⟩ := id hI.open
  refine enter_ (N := 21) Try.func23 rfl rfl rfl ?_
  (repeat (first | refine seq_ ?_ | refine sq_normal ?_ | refine rl_nil ?_ | (refine region_ (id := 0) ?_; (try ((refine rl_allocAM (d := 2) hM ag49 rfl ?_; clear hM; intro w b2 hM); (try ((refine rl_allocAM (d := 3) hM ag49 rfl ?_; clear hM; intro w b3 hM)))))) | (refine region_ (id := 1) ?_; (try (refine rl_move (v := (Value.slice _ _ _ : Value)) rfl rfl ?_)))))
  refine rl_callf fn35 (ints_ok w0 w _ V _ l 14 hM (by omega) (by omega) hI) rfl rfl ?_
  clear hM
  rintro v1 w ⟨V1, hV1, hM, hI1⟩
  refine rl_callf fn41 (term_ok 3 (l.take 14) 0 (by omega) (by omega) w0 w _ V1 _ hM hI1) rfl rfl ?_
  clear hM
  rintro _ w ⟨V2, xs, v2, hV2, hM, rfl, hx, hI2⟩
  obtain ⟨f2, n2, a2, k2, c2, rfl, _⟩ := id hx.shape
  obtain ⟨_, _, _, _, rfl, _⟩ := id hI2.open
  (repeat (first | refine seq_ ?_ | refine sq_normal ?_ | refine rl_nil ?_ | (refine region_ (id := 2) ?_; (try (refine rl_move (v := (Value.slice _ _ _ : Value)) rfl rfl ?_))) | refine rl_move (v := (Value.tuple _ : Value)) rfl rfl ?_ | refine rl_extract rfl rfl rfl ?_ | (refine rl_allocAM (d := 4) hM ag49 rfl ?_; clear hM; intro w b4 hM) | (first | (refine rl_storeWM 0 hM ag49 rfl rfl rfl rfl rfl rfl rfl ?_; clear hM; intro w hM) | (refine rl_storeWM 1 hM ag49 rfl rfl rfl rfl rfl rfl rfl ?_; clear hM; intro w hM) | (refine rl_storeWM 2 hM ag49 rfl rfl rfl rfl rfl rfl rfl ?_; clear hM; intro w hM) | (refine rl_storeWM 3 hM ag49 rfl rfl rfl rfl rfl rfl rfl ?_; clear hM; intro w hM) | (refine rl_storeWM 4 hM ag49 rfl rfl rfl rfl rfl rfl rfl ?_; clear hM; intro w hM) | (refine rl_storeWM 5 hM ag49 rfl rfl rfl rfl rfl rfl rfl ?_; clear hM; intro w hM) | (refine rl_storeWM 6 hM ag49 rfl rfl rfl rfl rfl rfl rfl ?_; clear hM; intro w hM) | (refine rl_storeWM 7 hM ag49 rfl rfl rfl rfl rfl rfl rfl ?_; clear hM; intro w hM)) | refine rl_assign (v := (Value.slice _ _ _ : Value)) rfl rfl ?_))
  refine rl_callf fn41 (term_ok 3 _ 0 (by omega) (by omega) w0 w _ V2 _ hM hI2) rfl rfl ?_
  clear hM
  rintro _ w ⟨V3, ys, v3, hV3, hM, rfl, hy, hI3⟩
  obtain ⟨f3, n3, a3, k3, c3, rfl, _⟩ := id hy.shape
  obtain ⟨_, _, _, _, rfl, _⟩ := id hI3.open
  (repeat (first | refine seq_ ?_ | refine sq_normal ?_ | refine rl_nil ?_ | refine rl_move (v := (Value.tuple _ : Value)) rfl rfl ?_ | refine rl_extract rfl rfl rfl ?_ | (first | (refine rl_storeWM 0 hM ag49 rfl rfl rfl rfl rfl rfl rfl ?_; clear hM; intro w hM) | (refine rl_storeWM 1 hM ag49 rfl rfl rfl rfl rfl rfl rfl ?_; clear hM; intro w hM) | (refine rl_storeWM 2 hM ag49 rfl rfl rfl rfl rfl rfl rfl ?_; clear hM; intro w hM) | (refine rl_storeWM 3 hM ag49 rfl rfl rfl rfl rfl rfl rfl ?_; clear hM; intro w hM) | (refine rl_storeWM 4 hM ag49 rfl rfl rfl rfl rfl rfl rfl ?_; clear hM; intro w hM) | (refine rl_storeWM 5 hM ag49 rfl rfl rfl rfl rfl rfl rfl ?_; clear hM; intro w hM) | (refine rl_storeWM 6 hM ag49 rfl rfl rfl rfl rfl rfl rfl ?_; clear hM; intro w hM) | (refine rl_storeWM 7 hM ag49 rfl rfl rfl rfl rfl rfl rfl ?_; clear hM; intro w hM)) | refine rl_assign (v := (Value.slice _ _ _ : Value)) rfl rfl ?_ | (refine rl_allocAM (d := 6) hM ag49 rfl ?_; clear hM; intro w b6 hM)))
  refine drawnM_ 3 [(0, false), (1, false), (2, true)] (fun w => Mem w0 w [.blk b6 [.int .i64 f3, .int .i64 n3, .slice a3 k3 c3] 49, .blk b4 [.int .i64 f2, .int .i64 n2, .slice a2 k2 c2] 49] V3) hM mo (by kernel_rfl) (fun _ h => h.first 2) ?_
  clear hM
  intro w hM
  refine rx_loadAM (vs := [_, _, _]) 1 rfl (fun _ h => h) ag49 rfl rfl rfl rfl rfl ?_
  refine rx_loadAM (vs := [_, _, _]) 0 rfl (fun _ h => h) ag49 rfl rfl rfl rfl rfl ?_
  refine rx_eff rfl (fun K hK => ?_)
  (repeat (first | refine rl_nil ?_ | (first | (refine rl_storeWM 0 hM ag49 rfl rfl rfl rfl rfl rfl rfl ?_; clear hM; intro w hM) | (refine rl_storeWM 1 hM ag49 rfl rfl rfl rfl rfl rfl rfl ?_; clear hM; intro w hM) | (refine rl_storeWM 2 hM ag49 rfl rfl rfl rfl rfl rfl rfl ?_; clear hM; intro w hM) | (refine rl_storeWM 3 hM ag49 rfl rfl rfl rfl rfl rfl rfl ?_; clear hM; intro w hM) | (refine rl_storeWM 4 hM ag49 rfl rfl rfl rfl rfl rfl rfl ?_; clear hM; intro w hM) | (refine rl_storeWM 5 hM ag49 rfl rfl rfl rfl rfl rfl rfl ?_; clear hM; intro w hM) | (refine rl_storeWM 6 hM ag49 rfl rfl rfl rfl rfl rfl rfl ?_; clear hM; intro w hM) | (refine rl_storeWM 7 hM ag49 rfl rfl rfl rfl rfl rfl rfl ?_; clear hM; intro w hM))))
  refine kq_normal (hK _ _ (hM.first 2) ?_)
  refine rx_nil rfl ?_
  (repeat (first | refine sq_normal ?_ | refine rl_nil ?_ | refine ret_ ?_ | refine np_normal ?_ | (first | (refine rl_storeWM 0 hM ag49 rfl rfl rfl rfl rfl rfl rfl ?_; clear hM; intro w hM) | (refine rl_storeWM 1 hM ag49 rfl rfl rfl rfl rfl rfl rfl ?_; clear hM; intro w hM) | (refine rl_storeWM 2 hM ag49 rfl rfl rfl rfl rfl rfl rfl ?_; clear hM; intro w hM) | (refine rl_storeWM 3 hM ag49 rfl rfl rfl rfl rfl rfl rfl ?_; clear hM; intro w hM) | (refine rl_storeWM 4 hM ag49 rfl rfl rfl rfl rfl rfl rfl ?_; clear hM; intro w hM) | (refine rl_storeWM 5 hM ag49 rfl rfl rfl rfl rfl rfl rfl ?_; clear hM; intro w hM) | (refine rl_storeWM 6 hM ag49 rfl rfl rfl rfl rfl rfl rfl ?_; clear hM; intro w hM) | (refine rl_storeWM 7 hM ag49 rfl rfl rfl rfl rfl rfl rfl ?_; clear hM; intro w hM))))
  exact bp_x2 rfl rfl (res_M 3 hM ag49 rfl rfl rfl) (res_M 2 hM ag49 rfl rfl rfl) ⟨V3, _, _, hV1.trans (hV2.trans hV3), hM.dropn 4, rfl, hx.le hV3, hy⟩
end Go.Proofs.Ytkjahcegjplbnaa.Kin
