/- The walks of kinds.Read, fugueref03.Made, Kind, and the laws' example. -/
import Derived.Test.YtkjahcegjplbnaaKinW5
set_option linter.unusedVariables false
set_option linter.unusedSimpArgs false
namespace Go.Kn.Kd
def app : Kd → Kd → Kd
  | nil, l => l
  | cons a r, l => cons a (r.app l)
theorem app_nil : ∀ k : Kd, k.app nil = k
  | nil => rfl
  | cons a r => by simp [app, app_nil r]
theorem app_snoc : ∀ (k : Kd) (x l : Kd), (k.app (cons x nil)).app l = k.app (cons x l)
  | nil, x, l => rfl
  | cons a r, x, l => by simp [app, app_snoc r]
theorem snoc_len : ∀ (k x : Kd), (k.app (cons x nil)).len = k.len + 1
  | nil, x => rfl
  | cons a r, x => by simp [app, len, snoc_len r]
theorem snoc_nth : ∀ {k x a : Kd} {j : Nat}, (k.app (cons x nil)).nth j = some a → (j < k.len ∧ k.nth j = some a) ∨ (j = k.len ∧ a = x)
  | nil, x, a, 0, h => by simp [app, nth] at h; exact .inr ⟨rfl, h.symm⟩
  | nil, x, a, j + 1, h => by simp [app, nth] at h
  | cons b r, x, a, 0, h => by simp [app, nth] at h; exact .inl ⟨by simp [len], by simpa [nth] using h⟩
  | cons b r, x, a, j + 1, h => by
    rcases snoc_nth (k := r) (j := j) (by simpa [app, nth] using h) with ⟨h1, h2⟩ | ⟨h1, h2⟩
    · exact .inl ⟨by simp only [len]; omega, by simpa [nth] using h2⟩
    · exact .inr ⟨by simp only [len]; omega, h2⟩
def rep (f : List Int → Kd × List Int) : Nat → List Int → Kd × List Int
  | 0, l => (nil, l)
  | n + 1, l => (cons (f l).1 (rep f n (f l).2).1, (rep f n (f l).2).2)
end Go.Kn.Kd
namespace Go.Proofs.Ytkjahcegjplbnaa.Kin
open Go Go.Eng Go.RowKit Go.Kn
attribute [local irreducible] RL RX KQ SQ Exit.inBlock Exit.then BP NP CallsOk IsSl IsRows IsInts IsBools Own Blk Code.wp Calls wpList
def cnt (x : Int) : Nat := if 2 < around x 4 then 0 else (around x 4).toNat
/-- A kind, made of numbers; and what is left of them. -/
def made : Nat → List Int → Kd × List Int
  | 0, l => (.nil, l)
  | _ + 1, [] => (.nil, [])
  | d + 1, x :: l => Kd.rep (made d) (cnt x) l
theorem rep_len {f : List Int → Kd × List Int} (h : ∀ l, (f l).2.length ≤ l.length) : ∀ (n : Nat) (l : List Int), (Kd.rep f n l).2.length ≤ l.length
  | 0, l => Nat.le_refl _
  | n + 1, l => Nat.le_trans (rep_len h n _) (h l)
theorem made_len : ∀ (d : Nat) (l : List Int), (made d l).2.length ≤ l.length
  | 0, l => Nat.le_refl _
  | d + 1, [] => Nat.le_refl _
  | d + 1, x :: l => by
    have := rep_len (made_len d) (cnt x) l
    simp only [made, List.length_cons]; omega
theorem cnt_le (x : Int) : cnt x ≤ 2 := by unfold cnt; split <;> omega
theorem rep_sz {f : List Int → Kd × List Int} (h : ∀ l, (f l).1.sz + 2 * (f l).2.length ≤ 2 * l.length) : ∀ (n : Nat) (l : List Int), (Kd.rep f n l).1.sz + 2 * (Kd.rep f n l).2.length ≤ 2 * l.length + n
  | 0, l => by simp [Kd.rep, Kd.sz]
  | n + 1, l => by
    have h1 := h l
    have h2 := rep_sz h n (f l).2
    simp only [Kd.rep, Kd.sz]; omega
theorem made_sz : ∀ (d : Nat) (l : List Int), (made d l).1.sz + 2 * (made d l).2.length ≤ 2 * l.length
  | 0, l => by simp [made, Kd.sz]
  | d + 1, [] => by simp [made, Kd.sz]
  | d + 1, x :: l => by
    have := rep_sz (made_sz d) (cnt x) l
    have := cnt_le x
    simp only [made, List.length_cons]; omega
/-- A kind, made of numbers. -/
def kindOf (l : List Int) : Kd := (made 4 (l.take 12)).1
theorem kindOf_sz (l : List Int) : (kindOf l).sz ≤ 24 := by
  have := made_sz 4 (l.take 12)
  have h : (l.take 12).length ≤ 12 := by rw [List.length_take]; omega
  unfold kindOf; omega
theorem read_ok (s : List UInt8) (hs : s.length ≤ 100000) (w0 w : World) (L : List Ent) (V : Vw) (hM : Mem w0 w L V) :
    CallsOk Try.prog 12 #[St s] w fun r w' => ∃ V' v', VLe V V' ∧ Mem w0 w' L V' ∧ match Kd.read s with
      | some k => r = .tuple #[.agg #[v'], .int .i64 0] ∧ KSl V' v' k
      | none => r = .tuple #[.agg #[v'], .int .i64 12] ∧ KSl V' v' .nil := by
  refine enter_ (N := 27) Try.func12 rfl rfl rfl ?_
  (repeat (first | refine seq_ ?_ | refine sq_normal ?_ | refine rl_nil ?_ | (refine region_ (id := 0) ?_; (try ((refine rl_allocAM (d := 2) hM ag25 rfl ?_; clear hM; intro w b2 hM); (try (refine rl_assign (v := (Value.int _ _ : Value)) rfl rfl ?_))))) | (refine region_ (id := 1) ?_; (try (refine rl_move (v := (Value.string _ : Value)) rfl rfl ?_)))))
  refine rl_callf fn38 (whole_ok (2 * s.length + 2) s (by omega) (by omega) w0 w _ V hM) rfl rfl ?_
  clear hM
  rintro _ w ⟨V1, v1, hV1, hM, rfl, hk1⟩
  obtain ⟨_, _, rfl⟩ := hk1.shape
  have hsz := Kd.rd_sz (2 * s.length + 2) true s
  have hpl := Kd.prn_len (Kd.rd (2 * s.length + 2) true s).1
  unfold Kd.read
  cases hb : (Kd.rd (2 * s.length + 2) true s).2.2 with
  | false =>
    simp only [Bool.false_and, Bool.false_eq_true, if_false, hb]
    (repeat (first | refine seq_ ?_ | refine sq_normal ?_ | refine sq_ret ?_ | refine rl_nil ?_ | refine cond_t rfl ?_ | refine ret_ ?_ | (refine region_ (id := 2) ?_; (try (refine rl_move (v := (Value.bool _ : Value)) rfl rfl ?_; (try (refine rl_not rfl rfl ?_; (try (refine rl_move (v := (Value.bool _ : Value)) rfl rfl ?_; (try ((first | refine rl_off rfl ?_ | refine rl_move (v := (Value.string _ : Value)) rfl rfl ?_); (try ((first | refine rl_off rfl ?_ | refine rl_sneq_f rfl rfl rfl (by first | rfl | assumption) ?_ | refine rl_sneq_t rfl rfl rfl (by first | assumption | decide) ?_); (try (refine rl_pick (v := (Value.bool _ : Value)) rfl rfl rfl ?_; (try (refine rl_move (v := (Value.bool _ : Value)) rfl rfl ?_; (try ((first | refine rl_off rfl ?_ | refine rl_loadAV hM ag25 rfl rfl (by assumption) (by rfl) ?_ | refine rl_loadAM (vs := [_]) 0 hM ag25 rfl rfl rfl rfl rfl ?_ | refine rl_loadAM (vs := [_]) 1 hM ag25 rfl rfl rfl rfl rfl ?_ | refine rl_loadAM (vs := [_]) 2 hM ag25 rfl rfl rfl rfl rfl ?_ | refine rl_loadAM (vs := [_]) 3 hM ag25 rfl rfl rfl rfl rfl ?_ | refine rl_loadAM (vs := [_]) 4 hM ag25 rfl rfl rfl rfl rfl ?_ | refine rl_loadAM (vs := [_]) 5 hM ag25 rfl rfl rfl rfl rfl ?_ | refine rl_loadAM (vs := [_]) 6 hM ag25 rfl rfl rfl rfl rfl ?_ | refine rl_loadAM (vs := [_]) 7 hM ag25 rfl rfl rfl rfl rfl ?_)))))))))))))))))) | (refine region_ (id := 3) ?_; (try (refine rl_build [(Value.slice none 0 0)] ag25 pl25 rfl rfl rfl ?_; (try ((first | (refine rl_storeWM 0 hM ag25 rfl rfl rfl rfl rfl rfl rfl ?_; clear hM; intro w hM) | (refine rl_storeWM 1 hM ag25 rfl rfl rfl rfl rfl rfl rfl ?_; clear hM; intro w hM) | (refine rl_storeWM 2 hM ag25 rfl rfl rfl rfl rfl rfl rfl ?_; clear hM; intro w hM) | (refine rl_storeWM 3 hM ag25 rfl rfl rfl rfl rfl rfl rfl ?_; clear hM; intro w hM) | (refine rl_storeWM 4 hM ag25 rfl rfl rfl rfl rfl rfl rfl ?_; clear hM; intro w hM) | (refine rl_storeWM 5 hM ag25 rfl rfl rfl rfl rfl rfl rfl ?_; clear hM; intro w hM) | (refine rl_storeWM 6 hM ag25 rfl rfl rfl rfl rfl rfl rfl ?_; clear hM; intro w hM) | (refine rl_storeWM 7 hM ag25 rfl rfl rfl rfl rfl rfl rfl ?_; clear hM; intro w hM)); (try (refine rl_assign (v := (Value.int _ _ : Value)) rfl rfl ?_))))))) | refine rl_move (v := (Value.tuple _ : Value)) rfl rfl ?_ | refine rl_extract rfl rfl rfl ?_ | (refine rl_allocAM (d := 4) hM ag25 rfl ?_; clear hM; intro w b4 hM) | (first | (refine rl_storeWM 0 hM ag25 rfl rfl rfl rfl rfl rfl rfl ?_; clear hM; intro w hM) | (refine rl_storeWM 1 hM ag25 rfl rfl rfl rfl rfl rfl rfl ?_; clear hM; intro w hM) | (refine rl_storeWM 2 hM ag25 rfl rfl rfl rfl rfl rfl rfl ?_; clear hM; intro w hM) | (refine rl_storeWM 3 hM ag25 rfl rfl rfl rfl rfl rfl rfl ?_; clear hM; intro w hM) | (refine rl_storeWM 4 hM ag25 rfl rfl rfl rfl rfl rfl rfl ?_; clear hM; intro w hM) | (refine rl_storeWM 5 hM ag25 rfl rfl rfl rfl rfl rfl rfl ?_; clear hM; intro w hM) | (refine rl_storeWM 6 hM ag25 rfl rfl rfl rfl rfl rfl rfl ?_; clear hM; intro w hM) | (refine rl_storeWM 7 hM ag25 rfl rfl rfl rfl rfl rfl rfl ?_; clear hM; intro w hM)) | refine rl_assign (v := (Value.string _ : Value)) rfl rfl ?_ | refine rl_assign (v := (Value.bool _ : Value)) rfl rfl ?_ | (first | refine rl_off rfl ?_ | refine rl_move (v := (Value.string _ : Value)) rfl rfl ?_) | refine rl_pick (v := (Value.bool _ : Value)) rfl rfl rfl ?_))
    exact bp_x2 rfl rfl (res_M 1 hM ag25 rfl rfl rfl) (res_tmp rfl) ⟨V1, _, hV1, hM.dropn 2, rfl, KSl.nil _ _ (Nat.zero_le _)⟩
  | true =>
    by_cases hr : (Kd.rd (2 * s.length + 2) true s).2.1 = []
    · by_cases hp : (Kd.rd (2 * s.length + 2) true s).1.prn = s
      · simp only [hb, hr, hp, List.isEmpty_nil, Bool.and_self, decide_true, if_true]
        (repeat (first | refine seq_ ?_ | refine sq_normal ?_ | refine rl_nil ?_ | (refine region_ (id := 2) ?_; (try (refine rl_move (v := (Value.bool _ : Value)) rfl rfl ?_; (try (refine rl_not rfl rfl ?_; (try (refine rl_move (v := (Value.bool _ : Value)) rfl rfl ?_; (try ((first | refine rl_off rfl ?_ | refine rl_move (v := (Value.string _ : Value)) rfl rfl ?_); (try ((first | refine rl_off rfl ?_ | refine rl_sneq_f rfl rfl rfl (by first | rfl | assumption) ?_ | refine rl_sneq_t rfl rfl rfl (by first | assumption | decide) ?_); (try (refine rl_pick (v := (Value.bool _ : Value)) rfl rfl rfl ?_; (try (refine rl_move (v := (Value.bool _ : Value)) rfl rfl ?_; (try ((first | refine rl_off rfl ?_ | refine rl_loadAV hM ag25 rfl rfl (by assumption) (by rfl) ?_ | refine rl_loadAM (vs := [_]) 0 hM ag25 rfl rfl rfl rfl rfl ?_ | refine rl_loadAM (vs := [_]) 1 hM ag25 rfl rfl rfl rfl rfl ?_ | refine rl_loadAM (vs := [_]) 2 hM ag25 rfl rfl rfl rfl rfl ?_ | refine rl_loadAM (vs := [_]) 3 hM ag25 rfl rfl rfl rfl rfl ?_ | refine rl_loadAM (vs := [_]) 4 hM ag25 rfl rfl rfl rfl rfl ?_ | refine rl_loadAM (vs := [_]) 5 hM ag25 rfl rfl rfl rfl rfl ?_ | refine rl_loadAM (vs := [_]) 6 hM ag25 rfl rfl rfl rfl rfl ?_ | refine rl_loadAM (vs := [_]) 7 hM ag25 rfl rfl rfl rfl rfl ?_)))))))))))))))))) | refine rl_move (v := (Value.tuple _ : Value)) rfl rfl ?_ | refine rl_extract rfl rfl rfl ?_ | (refine rl_allocAM (d := 4) hM ag25 rfl ?_; clear hM; intro w b4 hM) | (first | (refine rl_storeWM 0 hM ag25 rfl rfl rfl rfl rfl rfl rfl ?_; clear hM; intro w hM) | (refine rl_storeWM 1 hM ag25 rfl rfl rfl rfl rfl rfl rfl ?_; clear hM; intro w hM) | (refine rl_storeWM 2 hM ag25 rfl rfl rfl rfl rfl rfl rfl ?_; clear hM; intro w hM) | (refine rl_storeWM 3 hM ag25 rfl rfl rfl rfl rfl rfl rfl ?_; clear hM; intro w hM) | (refine rl_storeWM 4 hM ag25 rfl rfl rfl rfl rfl rfl rfl ?_; clear hM; intro w hM) | (refine rl_storeWM 5 hM ag25 rfl rfl rfl rfl rfl rfl rfl ?_; clear hM; intro w hM) | (refine rl_storeWM 6 hM ag25 rfl rfl rfl rfl rfl rfl rfl ?_; clear hM; intro w hM) | (refine rl_storeWM 7 hM ag25 rfl rfl rfl rfl rfl rfl rfl ?_; clear hM; intro w hM)) | refine rl_assign (v := (Value.string _ : Value)) rfl rfl ?_ | refine rl_assign (v := (Value.bool _ : Value)) rfl rfl ?_))
        refine rl_callf fn11 (print_ok _ _ (Nat.lt_succ_self _) w0 w _ V1 _ hM hk1 (by omega)) rfl rfl ?_
        clear hM
        rintro _ w ⟨rfl, hM⟩
        (repeat (first | refine seq_ ?_ | refine sq_normal ?_ | refine rl_nil ?_ | refine cond_f rfl ?_ | refine skip_ ?_ | refine ret_ ?_ | (refine region_ (id := 4) ?_; (try ((first | refine rl_loadAV hM ag25 rfl rfl (by assumption) (by rfl) ?_ | refine rl_loadAM (vs := [_]) 0 hM ag25 rfl rfl rfl rfl rfl ?_ | refine rl_loadAM (vs := [_]) 1 hM ag25 rfl rfl rfl rfl rfl ?_ | refine rl_loadAM (vs := [_]) 2 hM ag25 rfl rfl rfl rfl rfl ?_ | refine rl_loadAM (vs := [_]) 3 hM ag25 rfl rfl rfl rfl rfl ?_ | refine rl_loadAM (vs := [_]) 4 hM ag25 rfl rfl rfl rfl rfl ?_ | refine rl_loadAM (vs := [_]) 5 hM ag25 rfl rfl rfl rfl rfl ?_ | refine rl_loadAM (vs := [_]) 6 hM ag25 rfl rfl rfl rfl rfl ?_ | refine rl_loadAM (vs := [_]) 7 hM ag25 rfl rfl rfl rfl rfl ?_); (try ((first | (refine rl_storeWM 0 hM ag25 rfl rfl rfl rfl rfl rfl rfl ?_; clear hM; intro w hM) | (refine rl_storeWM 1 hM ag25 rfl rfl rfl rfl rfl rfl rfl ?_; clear hM; intro w hM) | (refine rl_storeWM 2 hM ag25 rfl rfl rfl rfl rfl rfl rfl ?_; clear hM; intro w hM) | (refine rl_storeWM 3 hM ag25 rfl rfl rfl rfl rfl rfl rfl ?_; clear hM; intro w hM) | (refine rl_storeWM 4 hM ag25 rfl rfl rfl rfl rfl rfl rfl ?_; clear hM; intro w hM) | (refine rl_storeWM 5 hM ag25 rfl rfl rfl rfl rfl rfl rfl ?_; clear hM; intro w hM) | (refine rl_storeWM 6 hM ag25 rfl rfl rfl rfl rfl rfl rfl ?_; clear hM; intro w hM) | (refine rl_storeWM 7 hM ag25 rfl rfl rfl rfl rfl rfl rfl ?_; clear hM; intro w hM)); (try (refine rl_assign (v := (Value.int _ _ : Value)) rfl rfl ?_))))))) | refine rl_move (v := (Value.string _ : Value)) rfl rfl ?_ | (first | refine rl_off rfl ?_ | refine rl_sneq_f rfl rfl rfl (by first | rfl | assumption) ?_ | refine rl_sneq_t rfl rfl rfl (by first | assumption | decide) ?_) | refine rl_pick (v := (Value.bool _ : Value)) rfl rfl rfl ?_))
        exact bp_x2 rfl rfl (res_M 1 hM ag25 rfl rfl rfl) (res_tmp rfl) ⟨V1, _, hV1, hM.dropn 2, rfl, hk1⟩
      · simp only [hb, hr, hp, List.isEmpty_nil, Bool.and_false, decide_false, Bool.false_eq_true, if_false]
        (repeat (first | refine seq_ ?_ | refine sq_normal ?_ | refine rl_nil ?_ | (refine region_ (id := 2) ?_; (try (refine rl_move (v := (Value.bool _ : Value)) rfl rfl ?_; (try (refine rl_not rfl rfl ?_; (try (refine rl_move (v := (Value.bool _ : Value)) rfl rfl ?_; (try ((first | refine rl_off rfl ?_ | refine rl_move (v := (Value.string _ : Value)) rfl rfl ?_); (try ((first | refine rl_off rfl ?_ | refine rl_sneq_f rfl rfl rfl (by first | rfl | assumption) ?_ | refine rl_sneq_t rfl rfl rfl (by first | assumption | decide) ?_); (try (refine rl_pick (v := (Value.bool _ : Value)) rfl rfl rfl ?_; (try (refine rl_move (v := (Value.bool _ : Value)) rfl rfl ?_; (try ((first | refine rl_off rfl ?_ | refine rl_loadAV hM ag25 rfl rfl (by assumption) (by rfl) ?_ | refine rl_loadAM (vs := [_]) 0 hM ag25 rfl rfl rfl rfl rfl ?_ | refine rl_loadAM (vs := [_]) 1 hM ag25 rfl rfl rfl rfl rfl ?_ | refine rl_loadAM (vs := [_]) 2 hM ag25 rfl rfl rfl rfl rfl ?_ | refine rl_loadAM (vs := [_]) 3 hM ag25 rfl rfl rfl rfl rfl ?_ | refine rl_loadAM (vs := [_]) 4 hM ag25 rfl rfl rfl rfl rfl ?_ | refine rl_loadAM (vs := [_]) 5 hM ag25 rfl rfl rfl rfl rfl ?_ | refine rl_loadAM (vs := [_]) 6 hM ag25 rfl rfl rfl rfl rfl ?_ | refine rl_loadAM (vs := [_]) 7 hM ag25 rfl rfl rfl rfl rfl ?_)))))))))))))))))) | refine rl_move (v := (Value.tuple _ : Value)) rfl rfl ?_ | refine rl_extract rfl rfl rfl ?_ | (refine rl_allocAM (d := 4) hM ag25 rfl ?_; clear hM; intro w b4 hM) | (first | (refine rl_storeWM 0 hM ag25 rfl rfl rfl rfl rfl rfl rfl ?_; clear hM; intro w hM) | (refine rl_storeWM 1 hM ag25 rfl rfl rfl rfl rfl rfl rfl ?_; clear hM; intro w hM) | (refine rl_storeWM 2 hM ag25 rfl rfl rfl rfl rfl rfl rfl ?_; clear hM; intro w hM) | (refine rl_storeWM 3 hM ag25 rfl rfl rfl rfl rfl rfl rfl ?_; clear hM; intro w hM) | (refine rl_storeWM 4 hM ag25 rfl rfl rfl rfl rfl rfl rfl ?_; clear hM; intro w hM) | (refine rl_storeWM 5 hM ag25 rfl rfl rfl rfl rfl rfl rfl ?_; clear hM; intro w hM) | (refine rl_storeWM 6 hM ag25 rfl rfl rfl rfl rfl rfl rfl ?_; clear hM; intro w hM) | (refine rl_storeWM 7 hM ag25 rfl rfl rfl rfl rfl rfl rfl ?_; clear hM; intro w hM)) | refine rl_assign (v := (Value.string _ : Value)) rfl rfl ?_ | refine rl_assign (v := (Value.bool _ : Value)) rfl rfl ?_))
        refine rl_callf fn11 (print_ok _ _ (Nat.lt_succ_self _) w0 w _ V1 _ hM hk1 (by omega)) rfl rfl ?_
        clear hM
        rintro _ w ⟨rfl, hM⟩
        (repeat (first | refine seq_ ?_ | refine sq_normal ?_ | refine sq_ret ?_ | refine rl_nil ?_ | refine cond_t rfl ?_ | refine ret_ ?_ | (refine region_ (id := 3) ?_; (try (refine rl_build [(Value.slice none 0 0)] ag25 pl25 rfl rfl rfl ?_; (try ((first | (refine rl_storeWM 0 hM ag25 rfl rfl rfl rfl rfl rfl rfl ?_; clear hM; intro w hM) | (refine rl_storeWM 1 hM ag25 rfl rfl rfl rfl rfl rfl rfl ?_; clear hM; intro w hM) | (refine rl_storeWM 2 hM ag25 rfl rfl rfl rfl rfl rfl rfl ?_; clear hM; intro w hM) | (refine rl_storeWM 3 hM ag25 rfl rfl rfl rfl rfl rfl rfl ?_; clear hM; intro w hM) | (refine rl_storeWM 4 hM ag25 rfl rfl rfl rfl rfl rfl rfl ?_; clear hM; intro w hM) | (refine rl_storeWM 5 hM ag25 rfl rfl rfl rfl rfl rfl rfl ?_; clear hM; intro w hM) | (refine rl_storeWM 6 hM ag25 rfl rfl rfl rfl rfl rfl rfl ?_; clear hM; intro w hM) | (refine rl_storeWM 7 hM ag25 rfl rfl rfl rfl rfl rfl rfl ?_; clear hM; intro w hM)); (try (refine rl_assign (v := (Value.int _ _ : Value)) rfl rfl ?_))))))) | refine rl_move (v := (Value.string _ : Value)) rfl rfl ?_ | (first | refine rl_off rfl ?_ | refine rl_sneq_f rfl rfl rfl (by first | rfl | assumption) ?_ | refine rl_sneq_t rfl rfl rfl (by first | assumption | decide) ?_) | refine rl_pick (v := (Value.bool _ : Value)) rfl rfl rfl ?_))
        exact bp_x2 rfl rfl (res_M 1 hM ag25 rfl rfl rfl) (res_tmp rfl) ⟨V1, _, hV1, hM.dropn 2, rfl, KSl.nil _ _ (Nat.zero_le _)⟩
    · have he : (Kd.rd (2 * s.length + 2) true s).2.1.isEmpty = false := by
        cases hq : (Kd.rd (2 * s.length + 2) true s).2.1 with
        | nil => exact absurd hq hr
        | cons a l => rfl
      simp only [hb, he, Bool.and_false, Bool.false_and, Bool.false_eq_true, if_false]
      (repeat (first | refine seq_ ?_ | refine sq_normal ?_ | refine sq_ret ?_ | refine rl_nil ?_ | refine cond_t rfl ?_ | refine ret_ ?_ | (refine region_ (id := 2) ?_; (try (refine rl_move (v := (Value.bool _ : Value)) rfl rfl ?_; (try (refine rl_not rfl rfl ?_; (try (refine rl_move (v := (Value.bool _ : Value)) rfl rfl ?_; (try ((first | refine rl_off rfl ?_ | refine rl_move (v := (Value.string _ : Value)) rfl rfl ?_); (try ((first | refine rl_off rfl ?_ | refine rl_sneq_f rfl rfl rfl (by first | rfl | assumption) ?_ | refine rl_sneq_t rfl rfl rfl (by first | assumption | decide) ?_); (try (refine rl_pick (v := (Value.bool _ : Value)) rfl rfl rfl ?_; (try (refine rl_move (v := (Value.bool _ : Value)) rfl rfl ?_; (try ((first | refine rl_off rfl ?_ | refine rl_loadAV hM ag25 rfl rfl (by assumption) (by rfl) ?_ | refine rl_loadAM (vs := [_]) 0 hM ag25 rfl rfl rfl rfl rfl ?_ | refine rl_loadAM (vs := [_]) 1 hM ag25 rfl rfl rfl rfl rfl ?_ | refine rl_loadAM (vs := [_]) 2 hM ag25 rfl rfl rfl rfl rfl ?_ | refine rl_loadAM (vs := [_]) 3 hM ag25 rfl rfl rfl rfl rfl ?_ | refine rl_loadAM (vs := [_]) 4 hM ag25 rfl rfl rfl rfl rfl ?_ | refine rl_loadAM (vs := [_]) 5 hM ag25 rfl rfl rfl rfl rfl ?_ | refine rl_loadAM (vs := [_]) 6 hM ag25 rfl rfl rfl rfl rfl ?_ | refine rl_loadAM (vs := [_]) 7 hM ag25 rfl rfl rfl rfl rfl ?_)))))))))))))))))) | (refine region_ (id := 3) ?_; (try (refine rl_build [(Value.slice none 0 0)] ag25 pl25 rfl rfl rfl ?_; (try ((first | (refine rl_storeWM 0 hM ag25 rfl rfl rfl rfl rfl rfl rfl ?_; clear hM; intro w hM) | (refine rl_storeWM 1 hM ag25 rfl rfl rfl rfl rfl rfl rfl ?_; clear hM; intro w hM) | (refine rl_storeWM 2 hM ag25 rfl rfl rfl rfl rfl rfl rfl ?_; clear hM; intro w hM) | (refine rl_storeWM 3 hM ag25 rfl rfl rfl rfl rfl rfl rfl ?_; clear hM; intro w hM) | (refine rl_storeWM 4 hM ag25 rfl rfl rfl rfl rfl rfl rfl ?_; clear hM; intro w hM) | (refine rl_storeWM 5 hM ag25 rfl rfl rfl rfl rfl rfl rfl ?_; clear hM; intro w hM) | (refine rl_storeWM 6 hM ag25 rfl rfl rfl rfl rfl rfl rfl ?_; clear hM; intro w hM) | (refine rl_storeWM 7 hM ag25 rfl rfl rfl rfl rfl rfl rfl ?_; clear hM; intro w hM)); (try (refine rl_assign (v := (Value.int _ _ : Value)) rfl rfl ?_))))))) | refine rl_move (v := (Value.tuple _ : Value)) rfl rfl ?_ | refine rl_extract rfl rfl rfl ?_ | (refine rl_allocAM (d := 4) hM ag25 rfl ?_; clear hM; intro w b4 hM) | (first | (refine rl_storeWM 0 hM ag25 rfl rfl rfl rfl rfl rfl rfl ?_; clear hM; intro w hM) | (refine rl_storeWM 1 hM ag25 rfl rfl rfl rfl rfl rfl rfl ?_; clear hM; intro w hM) | (refine rl_storeWM 2 hM ag25 rfl rfl rfl rfl rfl rfl rfl ?_; clear hM; intro w hM) | (refine rl_storeWM 3 hM ag25 rfl rfl rfl rfl rfl rfl rfl ?_; clear hM; intro w hM) | (refine rl_storeWM 4 hM ag25 rfl rfl rfl rfl rfl rfl rfl ?_; clear hM; intro w hM) | (refine rl_storeWM 5 hM ag25 rfl rfl rfl rfl rfl rfl rfl ?_; clear hM; intro w hM) | (refine rl_storeWM 6 hM ag25 rfl rfl rfl rfl rfl rfl rfl ?_; clear hM; intro w hM) | (refine rl_storeWM 7 hM ag25 rfl rfl rfl rfl rfl rfl rfl ?_; clear hM; intro w hM)) | refine rl_assign (v := (Value.string _ : Value)) rfl rfl ?_ | refine rl_assign (v := (Value.bool _ : Value)) rfl rfl ?_ | (first | refine rl_off rfl ?_ | refine rl_move (v := (Value.string _ : Value)) rfl rfl ?_) | refine rl_pick (v := (Value.bool _ : Value)) rfl rfl rfl ?_))
      exact bp_x2 rfl rfl (res_M 1 hM ag25 rfl rfl rfl) (res_tmp rfl) ⟨V1, _, hV1, hM.dropn 2, rfl, KSl.nil _ _ (Nat.zero_le _)⟩
set_option maxHeartbeats 2000000 in
theorem made_ok : ∀ (d : Nat) (l : List Int) (deep : Int), deep = 4 - (d : Int) → d ≤ 4 → l.length ≤ 1000 → ∀ (w0 w : World) (L : List Ent) (V : Vw) (v : Value), Mem w0 w L V → IsInts V v l →
    CallsOk Try.prog 34 #[v, .int .i64 deep] w fun r w' => ∃ V' v1 v2, VLe V V' ∧ Mem w0 w' L V' ∧ r = .tuple #[.agg #[v1], v2] ∧ KSl V' v1 (made d l).1 ∧ IsInts V' v2 (made d l).2 := by
  intro d
  induction d with
  | zero =>
    intro l deep hd hd4 hl w0 w L V v hM hI
    have hI' := hI
    obtain ⟨a, c, b, off, rfl, h1, h2, h3, h4⟩ := hI.open
    refine enter_ (N := 49) Try.func34 rfl rfl rfl ?_
    by_cases h0 : (l.length : Int) = 0
    · (repeat (first | refine seq_ ?_ | refine sq_normal ?_ | refine sq_ret ?_ | refine rl_nil ?_ | refine cond_t rfl ?_ | refine ret_ ?_ | (refine region_ (id := 0) ?_; (try ((refine rl_allocAM (d := 4) hM ag25 rfl ?_; clear hM; intro w b4 hM); (try (refine rl_assign (v := (Value.slice _ _ _ : Value)) rfl rfl ?_))))) | (refine region_ (id := 1) ?_; (try ((refine rl_allocAM (d := 6) hM ag25 rfl ?_; clear hM; intro w b6 hM)))) | (refine region_ (id := 2) ?_; (try (refine rl_move (v := (Value.slice _ _ _ : Value)) rfl rfl ?_; (try (refine rl_len sl22 rfl rfl ?_; (try ((first | (refine rl_eql_t rfl rfl rfl ?_ ?_; omega) | (refine rl_eql_f rfl rfl rfl ?_ ?_; omega)); (try (refine rl_move (v := (Value.bool _ : Value)) rfl rfl ?_; (try ((first | refine rl_off rfl ?_ | refine rl_move (v := (Value.int _ _ : Value)) rfl rfl ?_); (try ((first | refine rl_off rfl ?_ | (refine rl_gtr_t rfl rfl rfl ?_ ?_; omega) | (refine rl_gtr_f rfl rfl rfl ?_ ?_; omega)); (try (refine rl_pick (v := (Value.bool _ : Value)) rfl rfl rfl ?_))))))))))))))) | (refine region_ (id := 3) ?_; (try ((first | refine rl_loadAV hM ag25 rfl rfl (by assumption) (by rfl) ?_ | refine rl_loadAM (vs := [_]) 0 hM ag25 rfl rfl rfl rfl rfl ?_ | refine rl_loadAM (vs := [_]) 1 hM ag25 rfl rfl rfl rfl rfl ?_ | refine rl_loadAM (vs := [_]) 2 hM ag25 rfl rfl rfl rfl rfl ?_ | refine rl_loadAM (vs := [_]) 3 hM ag25 rfl rfl rfl rfl rfl ?_ | refine rl_loadAM (vs := [_]) 4 hM ag25 rfl rfl rfl rfl rfl ?_ | refine rl_loadAM (vs := [_]) 5 hM ag25 rfl rfl rfl rfl rfl ?_ | refine rl_loadAM (vs := [_]) 6 hM ag25 rfl rfl rfl rfl rfl ?_ | refine rl_loadAM (vs := [_]) 7 hM ag25 rfl rfl rfl rfl rfl ?_); (try (refine rl_move (v := (Value.slice _ _ _ : Value)) rfl rfl ?_; (try ((first | (refine rl_storeWM 0 hM ag25 rfl rfl rfl rfl rfl rfl rfl ?_; clear hM; intro w hM) | (refine rl_storeWM 1 hM ag25 rfl rfl rfl rfl rfl rfl rfl ?_; clear hM; intro w hM) | (refine rl_storeWM 2 hM ag25 rfl rfl rfl rfl rfl rfl rfl ?_; clear hM; intro w hM) | (refine rl_storeWM 3 hM ag25 rfl rfl rfl rfl rfl rfl rfl ?_; clear hM; intro w hM) | (refine rl_storeWM 4 hM ag25 rfl rfl rfl rfl rfl rfl rfl ?_; clear hM; intro w hM) | (refine rl_storeWM 5 hM ag25 rfl rfl rfl rfl rfl rfl rfl ?_; clear hM; intro w hM) | (refine rl_storeWM 6 hM ag25 rfl rfl rfl rfl rfl rfl rfl ?_; clear hM; intro w hM) | (refine rl_storeWM 7 hM ag25 rfl rfl rfl rfl rfl rfl rfl ?_; clear hM; intro w hM)); (try (refine rl_assign (v := (Value.slice _ _ _ : Value)) rfl rfl ?_)))))))))))
      exact bp_x2 rfl rfl (res_M 1 hM ag25 rfl rfl rfl) (res_tmp rfl) ⟨V, _, _, VLe.refl _, hM.dropn 2, rfl, KSl.nil _ _ (Nat.zero_le _), hI'⟩
    · (repeat (first | refine seq_ ?_ | refine sq_normal ?_ | refine sq_ret ?_ | refine rl_nil ?_ | refine cond_t rfl ?_ | refine ret_ ?_ | (refine region_ (id := 0) ?_; (try ((refine rl_allocAM (d := 4) hM ag25 rfl ?_; clear hM; intro w b4 hM); (try (refine rl_assign (v := (Value.slice _ _ _ : Value)) rfl rfl ?_))))) | (refine region_ (id := 1) ?_; (try ((refine rl_allocAM (d := 6) hM ag25 rfl ?_; clear hM; intro w b6 hM)))) | (refine region_ (id := 2) ?_; (try (refine rl_move (v := (Value.slice _ _ _ : Value)) rfl rfl ?_; (try (refine rl_len sl22 rfl rfl ?_; (try ((first | (refine rl_eql_t rfl rfl rfl ?_ ?_; omega) | (refine rl_eql_f rfl rfl rfl ?_ ?_; omega)); (try (refine rl_move (v := (Value.bool _ : Value)) rfl rfl ?_; (try ((first | refine rl_off rfl ?_ | refine rl_move (v := (Value.int _ _ : Value)) rfl rfl ?_); (try ((first | refine rl_off rfl ?_ | (refine rl_gtr_t rfl rfl rfl ?_ ?_; omega) | (refine rl_gtr_f rfl rfl rfl ?_ ?_; omega)); (try (refine rl_pick (v := (Value.bool _ : Value)) rfl rfl rfl ?_))))))))))))))) | (refine region_ (id := 3) ?_; (try ((first | refine rl_loadAV hM ag25 rfl rfl (by assumption) (by rfl) ?_ | refine rl_loadAM (vs := [_]) 0 hM ag25 rfl rfl rfl rfl rfl ?_ | refine rl_loadAM (vs := [_]) 1 hM ag25 rfl rfl rfl rfl rfl ?_ | refine rl_loadAM (vs := [_]) 2 hM ag25 rfl rfl rfl rfl rfl ?_ | refine rl_loadAM (vs := [_]) 3 hM ag25 rfl rfl rfl rfl rfl ?_ | refine rl_loadAM (vs := [_]) 4 hM ag25 rfl rfl rfl rfl rfl ?_ | refine rl_loadAM (vs := [_]) 5 hM ag25 rfl rfl rfl rfl rfl ?_ | refine rl_loadAM (vs := [_]) 6 hM ag25 rfl rfl rfl rfl rfl ?_ | refine rl_loadAM (vs := [_]) 7 hM ag25 rfl rfl rfl rfl rfl ?_); (try (refine rl_move (v := (Value.slice _ _ _ : Value)) rfl rfl ?_; (try ((first | (refine rl_storeWM 0 hM ag25 rfl rfl rfl rfl rfl rfl rfl ?_; clear hM; intro w hM) | (refine rl_storeWM 1 hM ag25 rfl rfl rfl rfl rfl rfl rfl ?_; clear hM; intro w hM) | (refine rl_storeWM 2 hM ag25 rfl rfl rfl rfl rfl rfl rfl ?_; clear hM; intro w hM) | (refine rl_storeWM 3 hM ag25 rfl rfl rfl rfl rfl rfl rfl ?_; clear hM; intro w hM) | (refine rl_storeWM 4 hM ag25 rfl rfl rfl rfl rfl rfl rfl ?_; clear hM; intro w hM) | (refine rl_storeWM 5 hM ag25 rfl rfl rfl rfl rfl rfl rfl ?_; clear hM; intro w hM) | (refine rl_storeWM 6 hM ag25 rfl rfl rfl rfl rfl rfl rfl ?_; clear hM; intro w hM) | (refine rl_storeWM 7 hM ag25 rfl rfl rfl rfl rfl rfl rfl ?_; clear hM; intro w hM)); (try (refine rl_assign (v := (Value.slice _ _ _ : Value)) rfl rfl ?_)))))))))))
      exact bp_x2 rfl rfl (res_M 1 hM ag25 rfl rfl rfl) (res_tmp rfl) ⟨V, _, _, VLe.refl _, hM.dropn 2, rfl, KSl.nil _ _ (Nat.zero_le _), hI'⟩
  | succ d ih =>
    intro l deep hd hd4 hl w0 w L V v hM hI
    have hI' := hI
    have hml := maxLen_le
    obtain ⟨a, c, b, off, rfl, h1, h2, h3, h4⟩ := hI.open
    refine enter_ (N := 49) Try.func34 rfl rfl rfl ?_
    cases l with
    | nil =>
      have hq0 : ((([] : List Int).length : Nat) : Int) = 0 := rfl
      (repeat (first | refine seq_ ?_ | refine sq_normal ?_ | refine sq_ret ?_ | refine rl_nil ?_ | refine cond_t rfl ?_ | refine ret_ ?_ | (refine region_ (id := 0) ?_; (try ((refine rl_allocAM (d := 4) hM ag25 rfl ?_; clear hM; intro w b4 hM); (try (refine rl_assign (v := (Value.slice _ _ _ : Value)) rfl rfl ?_))))) | (refine region_ (id := 1) ?_; (try ((refine rl_allocAM (d := 6) hM ag25 rfl ?_; clear hM; intro w b6 hM)))) | (refine region_ (id := 2) ?_; (try (refine rl_move (v := (Value.slice _ _ _ : Value)) rfl rfl ?_; (try (refine rl_len sl22 rfl rfl ?_; (try ((first | (refine rl_eql_t rfl rfl rfl ?_ ?_; omega) | (refine rl_eql_f rfl rfl rfl ?_ ?_; omega)); (try (refine rl_move (v := (Value.bool _ : Value)) rfl rfl ?_; (try ((first | refine rl_off rfl ?_ | refine rl_move (v := (Value.int _ _ : Value)) rfl rfl ?_); (try ((first | refine rl_off rfl ?_ | (refine rl_gtr_t rfl rfl rfl ?_ ?_; omega) | (refine rl_gtr_f rfl rfl rfl ?_ ?_; omega)); (try (refine rl_pick (v := (Value.bool _ : Value)) rfl rfl rfl ?_))))))))))))))) | (refine region_ (id := 3) ?_; (try ((first | refine rl_loadAV hM ag25 rfl rfl (by assumption) (by rfl) ?_ | refine rl_loadAM (vs := [_]) 0 hM ag25 rfl rfl rfl rfl rfl ?_ | refine rl_loadAM (vs := [_]) 1 hM ag25 rfl rfl rfl rfl rfl ?_ | refine rl_loadAM (vs := [_]) 2 hM ag25 rfl rfl rfl rfl rfl ?_ | refine rl_loadAM (vs := [_]) 3 hM ag25 rfl rfl rfl rfl rfl ?_ | refine rl_loadAM (vs := [_]) 4 hM ag25 rfl rfl rfl rfl rfl ?_ | refine rl_loadAM (vs := [_]) 5 hM ag25 rfl rfl rfl rfl rfl ?_ | refine rl_loadAM (vs := [_]) 6 hM ag25 rfl rfl rfl rfl rfl ?_ | refine rl_loadAM (vs := [_]) 7 hM ag25 rfl rfl rfl rfl rfl ?_); (try (refine rl_move (v := (Value.slice _ _ _ : Value)) rfl rfl ?_; (try ((first | (refine rl_storeWM 0 hM ag25 rfl rfl rfl rfl rfl rfl rfl ?_; clear hM; intro w hM) | (refine rl_storeWM 1 hM ag25 rfl rfl rfl rfl rfl rfl rfl ?_; clear hM; intro w hM) | (refine rl_storeWM 2 hM ag25 rfl rfl rfl rfl rfl rfl rfl ?_; clear hM; intro w hM) | (refine rl_storeWM 3 hM ag25 rfl rfl rfl rfl rfl rfl rfl ?_; clear hM; intro w hM) | (refine rl_storeWM 4 hM ag25 rfl rfl rfl rfl rfl rfl rfl ?_; clear hM; intro w hM) | (refine rl_storeWM 5 hM ag25 rfl rfl rfl rfl rfl rfl rfl ?_; clear hM; intro w hM) | (refine rl_storeWM 6 hM ag25 rfl rfl rfl rfl rfl rfl rfl ?_; clear hM; intro w hM) | (refine rl_storeWM 7 hM ag25 rfl rfl rfl rfl rfl rfl rfl ?_; clear hM; intro w hM)); (try (refine rl_assign (v := (Value.slice _ _ _ : Value)) rfl rfl ?_)))))))))))
      exact bp_x2 rfl rfl (res_M 1 hM ag25 rfl rfl rfl) (res_tmp rfl) ⟨V, _, _, VLe.refl _, hM.dropn 2, rfl, KSl.nil _ _ (Nat.zero_le _), hI'⟩
    | cons x l =>
      have hq0 : (((x :: l).length : Nat) : Int) = l.length + 1 := by simp
      have hq1 : (x :: l).length = l.length + 1 := rfl
      have h3' := h3 (by omega)
      subst h3'
      have hx := hI'.rng x (by simp)
      have c1 : V ⟨b, off + (0 : Int).toNat, none⟩ = some (.int .i64 x) := h4 0 x rfl
      (repeat (first | refine seq_ ?_ | refine sq_normal ?_ | refine rl_nil ?_ | refine cond_f rfl ?_ | refine skip_ ?_ | (refine region_ (id := 0) ?_; (try ((refine rl_allocAM (d := 4) hM ag25 rfl ?_; clear hM; intro w b4 hM); (try (refine rl_assign (v := (Value.slice _ _ _ : Value)) rfl rfl ?_))))) | (refine region_ (id := 1) ?_; (try ((refine rl_allocAM (d := 6) hM ag25 rfl ?_; clear hM; intro w b6 hM)))) | (refine region_ (id := 2) ?_; (try (refine rl_move (v := (Value.slice _ _ _ : Value)) rfl rfl ?_; (try (refine rl_len sl22 rfl rfl ?_; (try ((first | (refine rl_eql_t rfl rfl rfl ?_ ?_; omega) | (refine rl_eql_f rfl rfl rfl ?_ ?_; omega)); (try (refine rl_move (v := (Value.bool _ : Value)) rfl rfl ?_; (try ((first | refine rl_off rfl ?_ | refine rl_move (v := (Value.int _ _ : Value)) rfl rfl ?_); (try ((first | refine rl_off rfl ?_ | (refine rl_gtr_t rfl rfl rfl ?_ ?_; omega) | (refine rl_gtr_f rfl rfl rfl ?_ ?_; omega)); (try (refine rl_pick (v := (Value.bool _ : Value)) rfl rfl rfl ?_))))))))))))))) | (refine region_ (id := 4) ?_; (try (refine rl_move (v := (Value.slice _ _ _ : Value)) rfl rfl ?_; (try ((first | (refine rl_idx1 sl22 rfl rfl rfl rfl ?_ ?_ ?_; omega; omega) | (apply rl_idx1 sl22 rfl rfl rfl; assumption; omega; omega)); (try ((first | refine rl_loadV hM vt3 rfl rfl (by first | assumption | exact VRow.get (by assumption) rfl | exact VRow.get0 (by assumption) rfl) ?_ | refine rl_loadM 0 hM vt3 rfl rfl rfl (by first | rfl | assumption) ?_ | refine rl_loadM 1 hM vt3 rfl rfl rfl (by first | rfl | assumption) ?_ | refine rl_loadM 2 hM vt3 rfl rfl rfl (by first | rfl | assumption) ?_ | refine rl_loadM 3 hM vt3 rfl rfl rfl (by first | rfl | assumption) ?_ | refine rl_loadM 4 hM vt3 rfl rfl rfl (by first | rfl | assumption) ?_ | refine rl_loadM 5 hM vt3 rfl rfl rfl (by first | rfl | assumption) ?_ | refine rl_loadM 6 hM vt3 rfl rfl rfl (by first | rfl | assumption) ?_ | refine rl_loadM 7 hM vt3 rfl rfl rfl (by first | rfl | assumption) ?_))))))))))
      refine rl_callf fn16 (around_ok x 4 w hx.1 hx.2 (by omega) (by omega)) rfl rfl ?_
      rintro _ _ ⟨rfl, rfl⟩
      have hr := around_lt x 4 (by omega)
      (repeat (first | refine seq_ ?_ | refine sq_normal ?_ | refine rl_nil ?_ | (refine region_ (id := 5) ?_; (try (refine rl_move (v := (Value.slice _ _ _ : Value)) rfl rfl ?_))) | refine rl_assign (v := (Value.int _ _ : Value)) rfl rfl ?_))
      refine rl_slice_l (b := b) (off := off) sl22 rfl rfl rfl (fun _ => rfl) (by omega) (by omega) h1 ?_
      intro a' ha'
      (repeat (first | refine seq_ ?_ | refine sq_normal ?_ | refine rl_nil ?_ | (refine region_ (id := 6) ?_; (try (refine rl_move (v := (Value.int _ _ : Value)) rfl rfl ?_; (try ((first | (refine rl_gtr_t rfl rfl rfl ?_ ?_; omega) | (refine rl_gtr_f rfl rfl rfl ?_ ?_; omega))))))) | refine rl_assign (v := (Value.slice _ _ _ : Value)) rfl rfl ?_))
      have hIt : IsInts V (.slice a' ((x :: l).length - (1 : Int).toNat) (c - (1 : Int).toNat)) l := by
        have e1 : (1 : Int).toNat = 1 := rfl
        rw [e1] at ha' ⊢
        refine isInts_of (b := b) (off := off + 1) (by omega) (by omega) (by omega) (fun h => by rw [ha' (by omega)]) (fun i u hu => ?_) (fun y hy => hI'.rng y (by simp [hy]))
        rw [List.getElem?_map, Option.map_eq_some_iff] at hu
        obtain ⟨y, hy, rfl⟩ := hu
        rw [show off + 1 + i = off + (i + 1) by omega]
        exact h4 (i + 1) y (by simpa using hy)
      have hcx : cnt x = if 2 < around x 4 then 0 else (around x 4).toNat := rfl
      obtain ⟨n, hn⟩ : ∃ n : Int, n = (cnt x : Int) := ⟨_, rfl⟩
      have hn2 := cnt_le x
      refine rl_gtr rfl rfl rfl ?_
      (repeat (first | refine sq_normal ?_ | refine rl_nil ?_))
      refine cut_seq1 [(7, 8)] 7 (fun v w' => v = .int .i64 n ∧ Mem w0 w' (.blk b6 [.slice none 0 0] 25 :: .blk b4 [.slice none 0 0] 25 :: L) V) ?_ ?_
      · refine cond_b rfl (fun h => ?_) (fun h => ?_)
        · have h := of_decide_eq_true h
          (repeat (first | refine rl_nil ?_ | (refine region_ (id := 7) ?_; (try (refine rl_assign (v := (Value.int _ _ : Value)) rfl rfl ?_)))))
          refine kq_normal ⟨by (repeat (first | with_reducible exact Agree.ov | with_reducible exact Agree.refl _ _ | refine Agree.upd rfl ?_ | refine Agree.ovs rfl ?_)), ?_, hM⟩
          show Value.int .i64 0 = _
          rw [hn, hcx, if_pos h]; rfl
        · have h := of_decide_eq_false h
          (repeat (first | refine skip_ ?_))
          refine kq_normal ⟨by (repeat (first | with_reducible exact Agree.ov | with_reducible exact Agree.refl _ _ | refine Agree.upd rfl ?_ | refine Agree.ovs rfl ?_)), ?_, hM⟩
          show Value.int .i64 (around x 4) = _
          rw [hn, hcx, if_neg h]
          congr 1
          omega
      clear hM
      rintro τ _ w ⟨rfl, hM⟩
      (repeat (first | refine seq_ ?_ | refine sq_normal ?_ | refine rl_nil ?_ | refine block_ ?_ | (refine region_ (id := 8) ?_; (try (refine rl_assign (v := (Value.int _ _ : Value)) rfl rfl ?_)))))
      have hM := hM.newOwn 25 1
      refine loop2 [(0, 1), (8, 11), (28, 47)] 0 8 (fun m v0 v8 wr => ∃ (i : Int) (us : List Value) (ks : Kd) (rest : List Int) (V1 : Vw) (a c : _), v8 = .int .i64 i ∧ 0 ≤ i ∧ i ≤ n ∧ m = (n - i).toNat ∧ VLe V V1 ∧
          Mem w0 wr (.own (.slice a us.length c) 25 1 us.length us :: .blk b6 [.slice a us.length c] 25 :: .blk b4 [.slice none 0 0] 25 :: L) V1 ∧ IsInts V1 v0 rest ∧ rest.length ≤ l.length ∧ us.length = i.toNat ∧ ks.len = i.toNat ∧
          (∀ (j : Nat) a, ks.nth j = some a → ∃ u, us[j]? = some u ∧ KSl V1 u a) ∧
          Kd.rep (made d) (cnt x) l = (ks.app (Kd.rep (made d) (n - i).toNat rest).1, (Kd.rep (made d) (n - i).toNat rest).2)) _
        ⟨0, [], .nil, l, V, none, 0, rfl, by omega, by omega, rfl, VLe.refl _, hM, hIt, Nat.le_refl _, rfl, rfl, fun j a h => by simp [Kd.nth] at h, by
          rw [show (n - 0).toNat = cnt x by omega]; rfl⟩ ?_
      clear hM
      rintro m τ2 v0 v8 w ⟨i, us, ks, rest, V1, a1, c1, rfl, hi0, hin, rfl, hV1, hM, hIr, hrl, hul, hkl, hks, hrep⟩ K0 hL0
      have hq1' : (x :: l).length = l.length + 1 := rfl
      obtain ⟨ra, rc, rb, roff, rfl, g1, g2, g3, g4⟩ := id hIr.open
      by_cases hi : i < n
      · (repeat (first | refine seq_ ?_ | refine sq_normal ?_ | refine rl_nil ?_ | refine cond_t rfl ?_ | refine skip_ ?_ | refine block_ ?_ | (refine region_ (id := 9) ?_; (try (refine rl_move (v := (Value.int _ _ : Value)) rfl rfl ?_; (try (refine rl_move (v := (Value.int _ _ : Value)) rfl rfl ?_; (try ((first | (refine rl_lss_t rfl rfl rfl ?_ ?_; omega) | (refine rl_lss_f rfl rfl rfl ?_ ?_; omega))))))))) | (refine region_ (id := 11) ?_; (try (refine rl_move (v := (Value.slice _ _ _ : Value)) rfl rfl ?_; (try (refine rl_move (v := (Value.int _ _ : Value)) rfl rfl ?_; (try ((refine rl_add rfl rfl rfl ?_ ?_ ?_; omega; omega))))))))))
        refine rl_callf fn34 (ih rest (deep + 1) (by omega) (by omega) (by omega) w0 w _ V1 _ hM hIr) rfl rfl ?_
        clear hM
        rintro _ w ⟨V2, v1, v2, hV2, hM, rfl, hk2, hI2⟩
        obtain ⟨sa, sc, rfl⟩ := hk2.shape
        have hl2 := made_len d rest
        obtain ⟨_, _, _, _, rfl, _⟩ := id hI2.open
        (repeat (first | refine seq_ ?_ | refine sq_normal ?_ | refine rl_nil ?_ | (refine region_ (id := 12) ?_; (try (refine rl_move (v := (Value.slice _ _ _ : Value)) rfl rfl ?_; (try (refine rl_assign (v := (Value.slice _ _ _ : Value)) rfl rfl ?_))))) | (refine region_ (id := 13) ?_; (try (refine rl_fld fd25_0 rfl rfl ?_; (try ((first | refine rl_loadV hM vt23 rfl rfl (by first | assumption | exact VRow.get (by assumption) rfl | exact VRow.get0 (by assumption) rfl) ?_ | refine rl_loadM 0 hM vt23 rfl rfl rfl (by first | rfl | assumption) ?_ | refine rl_loadM 1 hM vt23 rfl rfl rfl (by first | rfl | assumption) ?_ | refine rl_loadM 2 hM vt23 rfl rfl rfl (by first | rfl | assumption) ?_ | refine rl_loadM 3 hM vt23 rfl rfl rfl (by first | rfl | assumption) ?_ | refine rl_loadM 4 hM vt23 rfl rfl rfl (by first | rfl | assumption) ?_ | refine rl_loadM 5 hM vt23 rfl rfl rfl (by first | rfl | assumption) ?_ | refine rl_loadM 6 hM vt23 rfl rfl rfl (by first | rfl | assumption) ?_ | refine rl_loadM 7 hM vt23 rfl rfl rfl (by first | rfl | assumption) ?_); (try ((first | refine rl_loadAV hM ag25 rfl rfl (by assumption) (by rfl) ?_ | refine rl_loadAM (vs := [_]) 0 hM ag25 rfl rfl rfl rfl rfl ?_ | refine rl_loadAM (vs := [_]) 1 hM ag25 rfl rfl rfl rfl rfl ?_ | refine rl_loadAM (vs := [_]) 2 hM ag25 rfl rfl rfl rfl rfl ?_ | refine rl_loadAM (vs := [_]) 3 hM ag25 rfl rfl rfl rfl rfl ?_ | refine rl_loadAM (vs := [_]) 4 hM ag25 rfl rfl rfl rfl rfl ?_ | refine rl_loadAM (vs := [_]) 5 hM ag25 rfl rfl rfl rfl rfl ?_ | refine rl_loadAM (vs := [_]) 6 hM ag25 rfl rfl rfl rfl rfl ?_ | refine rl_loadAM (vs := [_]) 7 hM ag25 rfl rfl rfl rfl rfl ?_); (try ((refine rl_bsliceM (d := 44) [_] hM sl23 rfl rfl rfl rfl rfl (by decide) (by decide) ?_; clear hM; intro w b44 hM)))))))))) | refine rl_assign (v := (Value.slice _ _ _ : Value)) rfl rfl ?_ | (first | (refine rl_storeWM 0 hM ag25 rfl rfl rfl rfl rfl rfl rfl ?_; clear hM; intro w hM) | (refine rl_storeWM 1 hM ag25 rfl rfl rfl rfl rfl rfl rfl ?_; clear hM; intro w hM) | (refine rl_storeWM 2 hM ag25 rfl rfl rfl rfl rfl rfl rfl ?_; clear hM; intro w hM) | (refine rl_storeWM 3 hM ag25 rfl rfl rfl rfl rfl rfl rfl ?_; clear hM; intro w hM) | (refine rl_storeWM 4 hM ag25 rfl rfl rfl rfl rfl rfl rfl ?_; clear hM; intro w hM) | (refine rl_storeWM 5 hM ag25 rfl rfl rfl rfl rfl rfl rfl ?_; clear hM; intro w hM) | (refine rl_storeWM 6 hM ag25 rfl rfl rfl rfl rfl rfl rfl ?_; clear hM; intro w hM) | (refine rl_storeWM 7 hM ag25 rfl rfl rfl rfl rfl rfl rfl ?_; clear hM; intro w hM)) | refine rl_move (v := (Value.tuple _ : Value)) rfl rfl ?_ | refine rl_extract rfl rfl rfl ?_ | (refine rl_allocAM (d := 9) hM ag25 rfl ?_; clear hM; intro w b9 hM)))
        refine rl_appendM 2 (B := b44) (off := 0) hM sl23 rfl (by decide) rfl (hM.row (i := 0) rfl) rfl rfl rfl (fun _ => rfl) rfl ?_ ?_ ?_ ?_
        · intro u hu
          have hu := List.mem_singleton.1 hu
          subst hu; rfl
        · unfold maxLen; omega
        · omega
        clear hM
        intro w a3 c3 e1 e2 hM
        (repeat (first | refine sq_normal ?_ | refine rl_nil ?_ | refine inBlock_normal ?_ | (refine region_ (id := 10) ?_; (try (refine rl_move (v := (Value.int _ _ : Value)) rfl rfl ?_; (try ((refine rl_add rfl rfl rfl ?_ ?_ ?_; omega; omega); (try (refine rl_assign (v := (Value.int _ _ : Value)) rfl rfl ?_))))))) | refine rl_fld fd25_0 rfl rfl ?_ | (first | (refine rl_storeM 0 hM vt23 rfl rfl rfl rfl rfl (by first | (simp; done) | (simp; omega) | omega) ?_; clear hM; intro w hM) | (refine rl_storeM 1 hM vt23 rfl rfl rfl rfl rfl (by first | (simp; done) | (simp; omega) | omega) ?_; clear hM; intro w hM) | (refine rl_storeM 2 hM vt23 rfl rfl rfl rfl rfl (by first | (simp; done) | (simp; omega) | omega) ?_; clear hM; intro w hM) | (refine rl_storeM 3 hM vt23 rfl rfl rfl rfl rfl (by first | (simp; done) | (simp; omega) | omega) ?_; clear hM; intro w hM) | (refine rl_storeM 4 hM vt23 rfl rfl rfl rfl rfl (by first | (simp; done) | (simp; omega) | omega) ?_; clear hM; intro w hM) | (refine rl_storeM 5 hM vt23 rfl rfl rfl rfl rfl (by first | (simp; done) | (simp; omega) | omega) ?_; clear hM; intro w hM) | (refine rl_storeM 6 hM vt23 rfl rfl rfl rfl rfl (by first | (simp; done) | (simp; omega) | omega) ?_; clear hM; intro w hM) | (refine rl_storeM 7 hM vt23 rfl rfl rfl rfl rfl (by first | (simp; done) | (simp; omega) | omega) ?_; clear hM; intro w hM))))
        have hM := hM.dropn 2
        have hlen : (us ++ [Value.slice sa (made d rest).1.len sc]).length = us.length + 1 := by simp
        rw [show (n - i).toNat = (n - (i + 1)).toNat + 1 by omega] at hrep
        refine kq_normal (hL0 (n - (i + 1)).toNat _ _ (by omega) (by (repeat (first | with_reducible exact Agree.ov | with_reducible exact Agree.refl _ _ | refine Agree.upd rfl ?_ | refine Agree.ovs rfl ?_))) ⟨i + 1, us ++ [Value.slice sa (made d rest).1.len sc], ks.app (.cons (made d rest).1 .nil), (made d rest).2, V2, a3, c3, rfl, by omega, by omega, rfl, hV1.trans hV2, ?_, hI2, by omega, by rw [hlen]; omega, by rw [Kd.snoc_len]; omega, fun j a hj => ?_, ?_⟩)
        · rw [hlen]
          exact hM
        · rcases Kd.snoc_nth hj with ⟨h1, h2⟩ | ⟨h1, rfl⟩
          · obtain ⟨u, f1, f2⟩ := hks j a h2
            exact ⟨u, by rw [List.getElem?_append_left (by omega)]; exact f1, f2.le hV2⟩
          · exact ⟨_, by rw [List.getElem?_append_right (by omega), show j - us.length = 0 by omega]; rfl, hk2⟩
        · rw [hrep]
          simp only [Kd.rep]
          rw [Kd.app_snoc]
      · (repeat (first | refine seq_ ?_ | refine sq_normal ?_ | refine sq_exit ?_ | refine rl_nil ?_ | refine cond_f rfl ?_ | refine ret_ ?_ | refine exit_ ?_ | refine inBlock_exit ?_ | refine kq_exit ?_ | (refine region_ (id := 9) ?_; (try (refine rl_move (v := (Value.int _ _ : Value)) rfl rfl ?_; (try (refine rl_move (v := (Value.int _ _ : Value)) rfl rfl ?_; (try ((first | (refine rl_lss_t rfl rfl rfl ?_ ?_; omega) | (refine rl_lss_f rfl rfl rfl ?_ ?_; omega))))))))) | (refine region_ (id := 14) ?_; (try ((first | refine rl_loadAV hM ag25 rfl rfl (by assumption) (by rfl) ?_ | refine rl_loadAM (vs := [_]) 0 hM ag25 rfl rfl rfl rfl rfl ?_ | refine rl_loadAM (vs := [_]) 1 hM ag25 rfl rfl rfl rfl rfl ?_ | refine rl_loadAM (vs := [_]) 2 hM ag25 rfl rfl rfl rfl rfl ?_ | refine rl_loadAM (vs := [_]) 3 hM ag25 rfl rfl rfl rfl rfl ?_ | refine rl_loadAM (vs := [_]) 4 hM ag25 rfl rfl rfl rfl rfl ?_ | refine rl_loadAM (vs := [_]) 5 hM ag25 rfl rfl rfl rfl rfl ?_ | refine rl_loadAM (vs := [_]) 6 hM ag25 rfl rfl rfl rfl rfl ?_ | refine rl_loadAM (vs := [_]) 7 hM ag25 rfl rfl rfl rfl rfl ?_); (try (refine rl_move (v := (Value.slice _ _ _ : Value)) rfl rfl ?_; (try ((first | (refine rl_storeWM 0 hM ag25 rfl rfl rfl rfl rfl rfl rfl ?_; clear hM; intro w hM) | (refine rl_storeWM 1 hM ag25 rfl rfl rfl rfl rfl rfl rfl ?_; clear hM; intro w hM) | (refine rl_storeWM 2 hM ag25 rfl rfl rfl rfl rfl rfl rfl ?_; clear hM; intro w hM) | (refine rl_storeWM 3 hM ag25 rfl rfl rfl rfl rfl rfl rfl ?_; clear hM; intro w hM) | (refine rl_storeWM 4 hM ag25 rfl rfl rfl rfl rfl rfl rfl ?_; clear hM; intro w hM) | (refine rl_storeWM 5 hM ag25 rfl rfl rfl rfl rfl rfl rfl ?_; clear hM; intro w hM) | (refine rl_storeWM 6 hM ag25 rfl rfl rfl rfl rfl rfl rfl ?_; clear hM; intro w hM) | (refine rl_storeWM 7 hM ag25 rfl rfl rfl rfl rfl rfl rfl ?_; clear hM; intro w hM)); (try (refine rl_assign (v := (Value.slice _ _ _ : Value)) rfl rfl ?_)))))))))))
        have hni : (n - i).toNat = 0 := by omega
        rw [hni] at hrep
        have hmd : made (d + 1) (x :: l) = (ks, rest) := by
          simp only [made]
          rw [hrep]
          simp [Kd.rep, Kd.app_nil]
        rw [hmd]
        have hM2 : Mem w0 w (.own (.slice a1 us.length c1) 25 1 us.length us :: .blk b6 [.slice a1 us.length c1] 25 :: .blk b4 [.slice a1 us.length c1] 25 :: L) V1 := hM
        obtain ⟨V2, hV2, hM3, a2, c2, b2, e1, e2, e3, e4, e5⟩ := Mem.freezeOwn hM2
        cases e1
        refine bp_x2 rfl rfl (res_M 2 hM2 ag25 rfl rfl rfl) (res_tmp rfl) ⟨V2, _, _, hV1.trans hV2, hM3.dropn 2, rfl, ?_, hIr.le hV2⟩
        show KSl V2 _ ks
        refine KSl.of (by omega) (by omega) e3 (fun h => e4 (by omega)) (fun j a hj => ?_)
        obtain ⟨u, f1, f2⟩ := hks j a hj
        exact ⟨u, e5 j u f1, f2.le hV2⟩
theorem kind_ok (l : List Int) (w0 w : World) (L : List Ent) (V : Vw) (v : Value) (hM : Mem w0 w L V) (hI : IsInts V v l) :
    CallsOk Try.prog 10 #[v] w fun r w' => ∃ V' v', VLe V V' ∧ Mem w0 w' L V' ∧ r = .agg #[v'] ∧ KSl V' v' (kindOf l) := by
  obtain ⟨a, c, b, off, rfl, h1, h2, h3, h4⟩ := id hI.open
  refine enter_ (N := 12) Try.func10 rfl rfl rfl ?_
  (repeat (first | refine seq_ ?_ | refine sq_normal ?_ | refine rl_nil ?_ | (refine region_ (id := 0) ?_; (try ((refine rl_allocAM (d := 2) hM ag25 rfl ?_; clear hM; intro w b2 hM)))) | (refine region_ (id := 1) ?_; (try (refine rl_move (v := (Value.slice _ _ _ : Value)) rfl rfl ?_)))))
  refine rl_callf fn35 (ints_ok w0 w _ V _ l 12 hM (by omega) (by omega) hI) rfl rfl ?_
  clear hM
  rintro v1 w ⟨V1, hV1, hM, hI1⟩
  refine rl_callf fn34 (made_ok 4 (l.take 12) 0 (by omega) (by omega) (by rw [List.length_take]; omega) w0 w _ V1 _ hM hI1) rfl rfl ?_
  clear hM
  rintro _ w ⟨V2, v2, v3, hV2, hM, rfl, hk, hI2⟩
  obtain ⟨_, _, rfl⟩ := hk.shape
  obtain ⟨_, _, _, _, rfl, _⟩ := hI2.open
  (repeat (first | refine seq_ ?_ | refine sq_normal ?_ | refine rl_nil ?_ | refine ret_ ?_ | (refine region_ (id := 2) ?_; (try ((first | refine rl_loadAV hM ag25 rfl rfl (by assumption) (by rfl) ?_ | refine rl_loadAM (vs := [_]) 0 hM ag25 rfl rfl rfl rfl rfl ?_ | refine rl_loadAM (vs := [_]) 1 hM ag25 rfl rfl rfl rfl rfl ?_ | refine rl_loadAM (vs := [_]) 2 hM ag25 rfl rfl rfl rfl rfl ?_ | refine rl_loadAM (vs := [_]) 3 hM ag25 rfl rfl rfl rfl rfl ?_ | refine rl_loadAM (vs := [_]) 4 hM ag25 rfl rfl rfl rfl rfl ?_ | refine rl_loadAM (vs := [_]) 5 hM ag25 rfl rfl rfl rfl rfl ?_ | refine rl_loadAM (vs := [_]) 6 hM ag25 rfl rfl rfl rfl rfl ?_ | refine rl_loadAM (vs := [_]) 7 hM ag25 rfl rfl rfl rfl rfl ?_); (try ((first | (refine rl_storeWM 0 hM ag25 rfl rfl rfl rfl rfl rfl rfl ?_; clear hM; intro w hM) | (refine rl_storeWM 1 hM ag25 rfl rfl rfl rfl rfl rfl rfl ?_; clear hM; intro w hM) | (refine rl_storeWM 2 hM ag25 rfl rfl rfl rfl rfl rfl rfl ?_; clear hM; intro w hM) | (refine rl_storeWM 3 hM ag25 rfl rfl rfl rfl rfl rfl rfl ?_; clear hM; intro w hM) | (refine rl_storeWM 4 hM ag25 rfl rfl rfl rfl rfl rfl rfl ?_; clear hM; intro w hM) | (refine rl_storeWM 5 hM ag25 rfl rfl rfl rfl rfl rfl rfl ?_; clear hM; intro w hM) | (refine rl_storeWM 6 hM ag25 rfl rfl rfl rfl rfl rfl rfl ?_; clear hM; intro w hM) | (refine rl_storeWM 7 hM ag25 rfl rfl rfl rfl rfl rfl rfl ?_; clear hM; intro w hM))))))) | refine rl_move (v := (Value.tuple _ : Value)) rfl rfl ?_ | refine rl_extract rfl rfl rfl ?_ | (refine rl_allocAM (d := 3) hM ag25 rfl ?_; clear hM; intro w b3 hM) | (first | (refine rl_storeWM 0 hM ag25 rfl rfl rfl rfl rfl rfl rfl ?_; clear hM; intro w hM) | (refine rl_storeWM 1 hM ag25 rfl rfl rfl rfl rfl rfl rfl ?_; clear hM; intro w hM) | (refine rl_storeWM 2 hM ag25 rfl rfl rfl rfl rfl rfl rfl ?_; clear hM; intro w hM) | (refine rl_storeWM 3 hM ag25 rfl rfl rfl rfl rfl rfl rfl ?_; clear hM; intro w hM) | (refine rl_storeWM 4 hM ag25 rfl rfl rfl rfl rfl rfl rfl ?_; clear hM; intro w hM) | (refine rl_storeWM 5 hM ag25 rfl rfl rfl rfl rfl rfl rfl ?_; clear hM; intro w hM) | (refine rl_storeWM 6 hM ag25 rfl rfl rfl rfl rfl rfl rfl ?_; clear hM; intro w hM) | (refine rl_storeWM 7 hM ag25 rfl rfl rfl rfl rfl rfl rfl ?_; clear hM; intro w hM)) | refine rl_assign (v := (Value.slice _ _ _ : Value)) rfl rfl ?_))
  exact bp_x1 rfl rfl (res_M 1 hM ag25 rfl rfl rfl) ⟨V2, _, hV1.trans hV2, hM.dropn 2, rfl, hk⟩
end Go.Proofs.Ytkjahcegjplbnaa.Kin
