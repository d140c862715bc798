/- LexRound. -/
import Derived.Test.YtlalagkkmoifpaaLexL4
import Derived.Test.YtlalagkkmoifpaaLexW19
set_option linter.unusedVariables false
set_option linter.unusedSimpArgs false
namespace Go.Proofs.Ytlalagkkmoifpaa.Lex
open Go Go.Eng Go.RowKit Go.Lx
attribute [local irreducible] RL RX KQ SQ Exit.inBlock Exit.then BP NP CallsOk IsSl IsRows IsInts IsBools Own Blk Code.wp Calls wpList
def ytoks : List (List UInt8) → List Tok
  | [] => []
  | t :: ts => ⟨(tok t).k, t, (tok t).n, 0⟩ :: toks ts [] t.length
theorem ytoks_len (ts : List (List UInt8)) : (ytoks ts).length = ts.length := by cases ts <;> simp [ytoks, toks_len]
theorem tl_src (ts : List (List UInt8)) : tl ts = srcOf ts [] := by
  induction ts with
  | nil => rfl
  | cons t ts ih => simp only [tl, List.flatMap_cons, srcOf] at ih ⊢; rw [ih]; simp
theorem jn_lex (ts : List (List UInt8)) (hm : ∀ t ∈ ts, t ∈ table) (hl : (jn ts).length ≤ 4000) : lexA (jn ts) = .ok (ytoks ts ++ [⟨6, [], 0, (((jn ts).length : Nat) : Int)⟩]) := by
  rw [lexA_le hl]
  cases ts with
  | nil => rfl
  | cons t ts =>
    have h1 := lex_src ts [] [] (0 + t.length) (fun t h => hm t (by simp [h])) tail_nil
    rw [List.append_nil] at h1
    simp only [jn, tl_src, ytoks]
    have hs := src_sep ts [] tail_nil
    rw [List.append_nil] at hs
    rw [lex_word (hm t (by simp)) hs, h1]
    simp only [pre, Nat.zero_add, List.length_append, List.singleton_append, List.cons_append]
    rfl
theorem ytoks_get (ts : List (List UInt8)) (k : Nat) (t : List UInt8) (h : ts[k]? = some t) : ∃ a : Int, (ytoks ts)[k]? = some ⟨(tok t).k, t, (tok t).n, a⟩ := by
  cases ts with
  | nil => simp at h
  | cons t0 ts =>
    cases k with
    | zero => simp at h; subst h; exact ⟨0, rfl⟩
    | succ k =>
      obtain ⟨a, ha⟩ := toks_get ts [] t0.length k t (by simpa using h)
      exact ⟨a, by simpa [ytoks] using ha⟩
theorem txts_of : ∀ (ts : List (List UInt8)) (l : List Tok) (q : Int), l.length = ts.length → (∀ t ∈ ts, t ∈ table) → (∀ (k : Nat) t, ts[k]? = some t → ∃ a : Int, l[k]? = some ⟨(tok t).k, t, (tok t).n, a⟩) → txts (l ++ [⟨6, [], 0, q⟩]) = ts
  | [], l, q, hl, _, _ => by
    have : l = [] := List.eq_nil_of_length_eq_zero (by simpa using hl)
    subst this
    simp [txts]
  | t :: ts, [], q, hl, _, _ => by simp at hl
  | t :: ts, x :: l, q, hl, hm, hg => by
    obtain ⟨a, ha⟩ := hg 0 t rfl
    simp at ha
    subst ha
    have ih := txts_of ts l q (by simpa using hl) (fun t h => hm t (by simp [h])) (fun k u hu => by
      obtain ⟨a, ha⟩ := hg (k + 1) u (by simpa using hu)
      exact ⟨a, by simpa using ha⟩)
    have hk := (word_k (hm t (by simp))).1
    unfold txts at ih ⊢
    rw [List.cons_append, List.filter_cons, if_pos (by simpa using hk), List.map_cons, ih]
theorem table_ne : ∀ t ∈ table, t.length ≤ 1000 ∧ t ≠ [] := by decide
theorem jn_len (ts : List (List UInt8)) (hl : ts.length ≤ 30) (hw : ∀ t ∈ ts, t.length ≤ 10) : (jn ts).length ≤ 1000 := by
  cases ts with
  | nil => simp [jn]
  | cons t ts =>
    have h1 := hw t (by simp)
    have : ∀ (ts : List (List UInt8)), (∀ t ∈ ts, t.length ≤ 10) → sm ts ≤ ts.length * 10 := by
      intro ts
      induction ts with
      | nil => intro _; simp [sm]
      | cons t ts ih =>
        intro h
        have := ih (fun t ht => h t (by simp [ht]))
        have := h t (by simp)
        simp only [sm, List.map_cons, List.sum_cons, List.length_cons] at *
        omega
    have := this ts (fun t h => hw t (by simp [h]))
    simp only [jn, List.length_append, tl_len, List.length_cons] at *
    omega
set_option maxHeartbeats 4000000 in
set_option maxRecDepth 20000 in
theorem law8 (v : Value) (l : List Int) (va : Value) (la : List Int) (w : World) (hI : IsInts w.cell? v l) (hIa : IsInts w.cell? va la) :
    CallsOk Try.prog 8 #[v, va] w fun r w' => r = .bool true ∧ Below w.heap.size w w' := by
  have hml := maxLen_le
  have hM := Mem.init w
  obtain ⟨w0, hw0⟩ : ∃ w0, w0 = w := ⟨_, rfl⟩
  obtain ⟨V, hVd⟩ : ∃ V, V = w.cell? := ⟨_, rfl⟩
  rw [← hVd] at hM hI hIa
  have hM : Mem w0 w [] V := by rw [hw0]; exact hM
  have key : CallsOk Try.prog 8 #[v, va] w fun r w' => r = .bool true ∧ Below w0.heap.size w0 w' := by
    obtain ⟨_, _, _, _, rfl, _⟩ := id hI.open
    obtain ⟨_, _, _, _, rfl, _⟩ := id hIa.open
    refine enter_ (N := 99) Try.func8 rfl rfl rfl ?_
    (repeat (first | refine seq_ ?_ | refine sq_normal ?_ | refine rl_nil ?_ | (refine region_ (id := 0) ?_; (try (refine rl_assign (v := (Value.bool _ : Value)) rfl rfl ?_))) | (refine region_ (id := 1) ?_; (try (refine rl_move (v := (Value.slice _ _ _ : Value)) rfl rfl ?_)))))
    refine rl_callf fn9 (texts_ok _ l w0 w _ V hM hI) rfl rfl ?_
    clear hM
    rintro _ w ⟨V1, hV1, hM, htx⟩
    have hwl := words_len l
    have hwe := words_le l
    have hwm := words_mem l
    obtain ⟨_, _, _, _, hsh, _⟩ := id htx.open'
    subst hsh
    have hsa := srcOf_len (words l) la hwe
    have hjl := jn_len (words l) hwl hwe
    obtain ⟨x, hx⟩ : ∃ x, x = toks (words l) la 0 ++ [⟨6, [], 0, (((srcOf (words l) la ++ []).length : Nat) : Int)⟩] := ⟨_, rfl⟩
    obtain ⟨y, hy⟩ : ∃ y, y = ytoks (words l) ++ [⟨6, [], 0, (((jn (words l)).length : Nat) : Int)⟩] := ⟨_, rfl⟩
    have hxl : x.length = (words l).length + 1 := by rw [hx]; simp [toks_len]
    have hyl : y.length = (words l).length + 1 := by rw [hy]; simp [ytoks_len]
    have hlx := lexA_src (words l) la [] hwm tail_nil (by rw [List.length_append]; simp; omega)
    have hly := jn_lex (words l) hwm (by omega)
    rw [← hx, List.append_nil] at hlx
    rw [← hy] at hly
    have htx1 : txts x = words l := by rw [hx]; exact txts_of _ _ _ (toks_len _ _ _) hwm (fun k t h => toks_get _ _ _ k t h)
    have hty1 : txts y = words l := by rw [hy]; exact txts_of _ _ _ (ytoks_len _) hwm (fun k t h => ytoks_get _ k t h)
    have hpair : ∀ i, i < (words l).length + 1 → ∃ k s n a1 a2, x[i]? = some ⟨k, s, n, a1⟩ ∧ y[i]? = some ⟨k, s, n, a2⟩ ∧ s.length ≤ 1000 := by
      intro i hi
      by_cases hlt : i < (words l).length
      · obtain ⟨t, ht⟩ : ∃ t, (words l)[i]? = some t := ⟨_, List.getElem?_eq_getElem hlt⟩
        obtain ⟨p1, hp1⟩ := toks_get (words l) la 0 i t ht
        obtain ⟨p2, hp2⟩ := ytoks_get (words l) i t ht
        exact ⟨_, _, _, p1, p2, by rw [hx, List.getElem?_append_left (by rw [toks_len]; exact hlt)]; exact hp1, by rw [hy, List.getElem?_append_left (by rw [ytoks_len]; exact hlt)]; exact hp2, (table_ne t (hwm t (List.mem_of_getElem? ht))).1⟩
      · have hi' : i = (words l).length := by omega
        subst hi'
        exact ⟨6, [], 0, _, _, by rw [hx, List.getElem?_append_right (by rw [toks_len]; omega), toks_len, Nat.sub_self]; rfl, by rw [hy, List.getElem?_append_right (by rw [ytoks_len]; omega), ytoks_len, Nat.sub_self]; rfl, by simp⟩
    have hxw : ∀ t ∈ x, t.s.length ≤ 1000 := by
      intro t ht
      obtain ⟨i, hi, he⟩ := List.mem_iff_getElem.1 ht
      obtain ⟨k, s, n, a1, a2, h1, h2, h3⟩ := hpair i (by omega)
      rw [List.getElem?_eq_getElem hi, he] at h1
      cases h1
      exact h3
    have hyw : ∀ t ∈ y, t.s.length ≤ 1000 := by
      intro t ht
      obtain ⟨i, hi, he⟩ := List.mem_iff_getElem.1 ht
      obtain ⟨k, s, n, a1, a2, h1, h2, h3⟩ := hpair i (by omega)
      rw [List.getElem?_eq_getElem hi, he] at h2
      cases h2
      exact h3
    clear hx hy
    (repeat (first | refine rl_move (v := (Value.slice _ _ _ : Value)) rfl rfl ?_))
    refine rl_callf fn11 (source_ok _ _ (words l) la w0 w _ V1 hM htx (hIa.le hV1) hwl hwe) rfl rfl ?_
    clear hM
    rintro _ w ⟨rfl, hM⟩
    skip
    refine rl_callf fn12 (lex_ok (srcOf (words l) la) w0 w _ V1 hM (by omega)) rfl rfl ?_
    clear hM
    rintro _ w ⟨V2, v1, l1, e1, a1, hV2, hM, rfl, htk1, ho1⟩
    obtain ⟨rfl, rfl, rfl⟩ := told ho1 hlx
    obtain ⟨_, _, _, _, hsh, _⟩ := id htk1
    subst hsh
    (repeat (first | refine seq_ ?_ | refine sq_normal ?_ | refine rl_nil ?_ | (refine region_ (id := 2) ?_; (try (refine rl_move (v := (Value.slice _ _ _ : Value)) rfl rfl ?_))) | refine rl_move (v := (Value.tuple _ : Value)) rfl rfl ?_ | refine rl_extract rfl rfl rfl ?_ | (refine rl_allocAM (d := 6) hM ag30 rfl ?_; clear hM; intro w b6 hM) | refine rl_assign (v := (Value.slice _ _ _ : Value)) rfl rfl ?_ | (first | (refine rl_storeWM 0 hM ag30 rfl rfl rfl rfl rfl rfl rfl ?_; clear hM; intro w hM) | (refine rl_storeWM 1 hM ag30 rfl rfl rfl rfl rfl rfl rfl ?_; clear hM; intro w hM) | (refine rl_storeWM 2 hM ag30 rfl rfl rfl rfl rfl rfl rfl ?_; clear hM; intro w hM) | (refine rl_storeWM 3 hM ag30 rfl rfl rfl rfl rfl rfl rfl ?_; clear hM; intro w hM) | (refine rl_storeWM 4 hM ag30 rfl rfl rfl rfl rfl rfl rfl ?_; clear hM; intro w hM) | (refine rl_storeWM 5 hM ag30 rfl rfl rfl rfl rfl rfl rfl ?_; clear hM; intro w hM) | (refine rl_storeWM 6 hM ag30 rfl rfl rfl rfl rfl rfl rfl ?_; clear hM; intro w hM) | (refine rl_storeWM 7 hM ag30 rfl rfl rfl rfl rfl rfl rfl ?_; clear hM; intro w hM))))
    refine rl_callf fn23 (print_ok _ l1 w0 w _ V2 hM htk1 (by omega) hxw) rfl rfl ?_
    clear hM
    rintro _ w ⟨rfl, hM⟩
    rw [htx1]
    (repeat (first | refine seq_ ?_ | refine sq_normal ?_ | refine rl_nil ?_ | (refine region_ (id := 3) ?_; (try (refine rl_move (v := (Value.string _ : Value)) rfl rfl ?_))) | refine rl_assign (v := (Value.string _ : Value)) rfl rfl ?_))
    refine rl_callf fn12 (lex_ok (jn (words l)) w0 w _ V2 hM (by omega)) rfl rfl ?_
    clear hM
    rintro _ w ⟨V3, v2, l2, e2, a2, hV3, hM, rfl, htk2, ho2⟩
    obtain ⟨rfl, rfl, rfl⟩ := told ho2 hly
    obtain ⟨_, c1, b1, o1, hsh, k1, k2, k3, k4⟩ := htk1.le hV3
    cases hsh
    obtain ⟨_, c2, b2, o2, rfl, j1, j2, j3, j4⟩ := id htk2
    clear ho1 ho2 hlx hly
    have hle : (l1.length : Int) = l2.length := by omega
    (repeat (first | refine seq_ ?_ | refine sq_normal ?_ | refine rl_nil ?_ | (refine region_ (id := 4) ?_; (try ((first | refine rl_loadAV hM ag30 rfl rfl (by assumption) (by rfl) ?_ | refine rl_loadAM (vs := [_, _]) 0 hM ag30 rfl rfl rfl rfl rfl ?_ | refine rl_loadAM (vs := [_, _]) 1 hM ag30 rfl rfl rfl rfl rfl ?_ | refine rl_loadAM (vs := [_, _]) 2 hM ag30 rfl rfl rfl rfl rfl ?_ | refine rl_loadAM (vs := [_, _]) 3 hM ag30 rfl rfl rfl rfl rfl ?_ | refine rl_loadAM (vs := [_, _]) 4 hM ag30 rfl rfl rfl rfl rfl ?_ | refine rl_loadAM (vs := [_, _]) 5 hM ag30 rfl rfl rfl rfl rfl ?_ | refine rl_loadAM (vs := [_, _]) 6 hM ag30 rfl rfl rfl rfl rfl ?_ | refine rl_loadAM (vs := [_, _]) 7 hM ag30 rfl rfl rfl rfl rfl ?_); (try (refine rl_build [(Value.int .i64 0), (Value.int .i64 0)] ag30 pl30 rfl rfl rfl ?_; (try ((first | refine rl_aneq_f eq30 rfl rfl rfl rfl rfl (by first | rfl | assumption) ?_ | refine rl_aneq_t eq30 rfl rfl rfl rfl rfl (by assumption) ?_); (try (refine rl_move (v := (Value.bool _ : Value)) rfl rfl ?_; (try ((first | refine rl_off rfl ?_ | refine rl_loadAV hM ag30 rfl rfl (by assumption) (by rfl) ?_ | refine rl_loadAM (vs := [_, _]) 0 hM ag30 rfl rfl rfl rfl rfl ?_ | refine rl_loadAM (vs := [_, _]) 1 hM ag30 rfl rfl rfl rfl rfl ?_ | refine rl_loadAM (vs := [_, _]) 2 hM ag30 rfl rfl rfl rfl rfl ?_ | refine rl_loadAM (vs := [_, _]) 3 hM ag30 rfl rfl rfl rfl rfl ?_ | refine rl_loadAM (vs := [_, _]) 4 hM ag30 rfl rfl rfl rfl rfl ?_ | refine rl_loadAM (vs := [_, _]) 5 hM ag30 rfl rfl rfl rfl rfl ?_ | refine rl_loadAM (vs := [_, _]) 6 hM ag30 rfl rfl rfl rfl rfl ?_ | refine rl_loadAM (vs := [_, _]) 7 hM ag30 rfl rfl rfl rfl rfl ?_); (try ((first | refine rl_off rfl ?_ | refine rl_build [(Value.int .i64 0), (Value.int .i64 0)] ag30 pl30 rfl rfl rfl ?_); (try ((first | refine rl_off rfl ?_ | refine rl_aneq_f eq30 rfl rfl rfl rfl rfl (by first | rfl | assumption) ?_ | refine rl_aneq_t eq30 rfl rfl rfl rfl rfl (by assumption) ?_); (try (refine rl_pick (v := (Value.bool _ : Value)) rfl rfl rfl ?_; (try (refine rl_move (v := (Value.bool _ : Value)) rfl rfl ?_; (try ((first | refine rl_off rfl ?_ | refine rl_move (v := (Value.slice _ _ _ : Value)) rfl rfl ?_); (try ((first | refine rl_off rfl ?_ | refine rl_len sl27 rfl rfl ?_); (try ((first | refine rl_off rfl ?_ | refine rl_move (v := (Value.slice _ _ _ : Value)) rfl rfl ?_); (try ((first | refine rl_off rfl ?_ | refine rl_len sl27 rfl rfl ?_); (try ((first | refine rl_off rfl ?_ | (refine rl_neq_t rfl rfl rfl ?_ ?_; omega) | (refine rl_neq_f rfl rfl rfl ?_ ?_; omega)); (try (refine rl_pick (v := (Value.bool _ : Value)) rfl rfl rfl ?_; (try (refine rl_move (v := (Value.bool _ : Value)) rfl rfl ?_; (try ((first | refine rl_off rfl ?_ | refine rl_move (v := (Value.slice _ _ _ : Value)) rfl rfl ?_)))))))))))))))))))))))))))))))))))) | refine rl_move (v := (Value.tuple _ : Value)) rfl rfl ?_ | refine rl_extract rfl rfl rfl ?_ | refine rl_assign (v := (Value.slice _ _ _ : Value)) rfl rfl ?_ | (first | (refine rl_storeWM 0 hM ag30 rfl rfl rfl rfl rfl rfl rfl ?_; clear hM; intro w hM) | (refine rl_storeWM 1 hM ag30 rfl rfl rfl rfl rfl rfl rfl ?_; clear hM; intro w hM) | (refine rl_storeWM 2 hM ag30 rfl rfl rfl rfl rfl rfl rfl ?_; clear hM; intro w hM) | (refine rl_storeWM 3 hM ag30 rfl rfl rfl rfl rfl rfl rfl ?_; clear hM; intro w hM) | (refine rl_storeWM 4 hM ag30 rfl rfl rfl rfl rfl rfl rfl ?_; clear hM; intro w hM) | (refine rl_storeWM 5 hM ag30 rfl rfl rfl rfl rfl rfl rfl ?_; clear hM; intro w hM) | (refine rl_storeWM 6 hM ag30 rfl rfl rfl rfl rfl rfl rfl ?_; clear hM; intro w hM) | (refine rl_storeWM 7 hM ag30 rfl rfl rfl rfl rfl rfl rfl ?_; clear hM; intro w hM)) | (refine rl_allocAM (d := 9) hM ag30 rfl ?_; clear hM; intro w b9 hM)))
    refine rl_callf fn23 (print_ok _ l2 w0 w _ V3 hM htk2 (by omega) hyw) rfl rfl ?_
    clear hM
    rintro _ w ⟨rfl, hM⟩
    rw [hty1]
    (repeat (first | refine seq_ ?_ | refine sq_normal ?_ | refine rl_nil ?_ | refine cond_f rfl ?_ | refine skip_ ?_ | refine block_ ?_ | (refine region_ (id := 6) ?_; (try (refine rl_assign (v := (Value.int _ _ : Value)) rfl rfl ?_))) | refine rl_move (v := (Value.string _ : Value)) rfl rfl ?_ | refine rl_pick (v := (Value.bool _ : Value)) rfl rfl rfl ?_ | (first | refine rl_off rfl ?_ | refine rl_sneq_f rfl rfl rfl (by first | rfl | assumption) ?_ | refine rl_sneq_t rfl rfl rfl (by first | assumption | decide) ?_)))
    have g1 := k3 (by omega)
    have g2 := j3 (by omega)
    subst g1 g2
    refine loop1 [(4, 5), (10, 11), (47, 90)] 10 (fun m v wr => ∃ i : Nat, v = .int .i64 i ∧ i ≤ l1.length ∧ m = l1.length - i ∧ ∃ L, Mem w0 wr L V3) _
      ⟨0, rfl, by omega, rfl, _, hM⟩ ?_
    clear hM
    rintro m τ v10 w ⟨i, rfl, hi, rfl, L, hM⟩ K0 hL0
    by_cases hlt : i < l1.length
    · obtain ⟨k, s, n, p1, p2, q1, q2, q3⟩ := hpair i (by omega)
      have r2 : VRow V3 b1 (o1 + i * 4) [.int .i64 k, St s, .int .i64 n, .int .i64 p1] := k4 i _ q1
      have r3 : VRow V3 b2 (o2 + i * 4) [.int .i64 k, St s, .int .i64 n, .int .i64 p2] := j4 i _ q2
      (repeat (first | refine seq_ ?_ | refine sq_normal ?_ | refine rl_nil ?_ | refine cond_t rfl ?_ | refine skip_ ?_ | refine block_ ?_ | (refine region_ (id := 7) ?_; (try (refine rl_move (v := (Value.int _ _ : Value)) rfl rfl ?_; (try (refine rl_move (v := (Value.slice _ _ _ : Value)) rfl rfl ?_; (try (refine rl_len sl27 rfl rfl ?_; (try ((first | (refine rl_lss_t rfl rfl rfl ?_ ?_; omega) | (refine rl_lss_f rfl rfl rfl ?_ ?_; omega)))))))))))))
      (refine drawnM_ 36 [(0, false), (1, false), (2, false), (3, false), (4, false), (5, false), (6, false), (7, false), (8, false), (9, false), (10, false), (11, false), (12, false), (13, false), (14, false), (15, false), (16, false), (17, false), (18, false), (19, false), (20, false), (21, false), (22, false), (23, false), (24, false), (25, false), (26, false), (27, false), (28, false), (29, false), (30, false), (31, false), (32, false), (33, false), (34, false), (35, false)] (fun w => Mem w0 w _ _) hM mo (by kernel_rfl) (fun _ h => h) ?_; clear hM; intro w hM; (try (refine rx_move (v := (Value.slice _ _ _ : Value)) rfl rfl rfl ?_; (try (refine rx_move (v := (Value.int _ _ : Value)) rfl rfl rfl ?_; (try ((first | (refine rx_idx rfl sl27 rfl rfl rfl rfl ?_ ?_ ?_; omega; omega) | (apply rx_idx rfl sl27 rfl rfl rfl; assumption; omega; omega)); (try (refine rx_fld rfl fd40_0 rfl rfl ?_; (try ((first | refine rx_loadV rfl (fun _ h => h) vt3 rfl rfl (by first | assumption | exact VRow.get (by assumption) rfl | exact VRow.get0 (by assumption) rfl) ?_ | refine rx_loadM 0 rfl (fun _ h => h) vt3 rfl rfl rfl (by first | rfl | assumption) ?_ | refine rx_loadM 1 rfl (fun _ h => h) vt3 rfl rfl rfl (by first | rfl | assumption) ?_ | refine rx_loadM 2 rfl (fun _ h => h) vt3 rfl rfl rfl (by first | rfl | assumption) ?_ | refine rx_loadM 3 rfl (fun _ h => h) vt3 rfl rfl rfl (by first | rfl | assumption) ?_ | refine rx_loadM 4 rfl (fun _ h => h) vt3 rfl rfl rfl (by first | rfl | assumption) ?_ | refine rx_loadM 5 rfl (fun _ h => h) vt3 rfl rfl rfl (by first | rfl | assumption) ?_ | refine rx_loadM 6 rfl (fun _ h => h) vt3 rfl rfl rfl (by first | rfl | assumption) ?_ | refine rx_loadM 7 rfl (fun _ h => h) vt3 rfl rfl rfl (by first | rfl | assumption) ?_); (try (refine rx_move (v := (Value.slice _ _ _ : Value)) rfl rfl rfl ?_; (try (refine rx_move (v := (Value.int _ _ : Value)) rfl rfl rfl ?_; (try ((first | (refine rx_idx rfl sl27 rfl rfl rfl rfl ?_ ?_ ?_; omega; omega) | (apply rx_idx rfl sl27 rfl rfl rfl; assumption; omega; omega)); (try (refine rx_fld rfl fd40_0 rfl rfl ?_; (try ((first | refine rx_loadV rfl (fun _ h => h) vt3 rfl rfl (by first | assumption | exact VRow.get (by assumption) rfl | exact VRow.get0 (by assumption) rfl) ?_ | refine rx_loadM 0 rfl (fun _ h => h) vt3 rfl rfl rfl (by first | rfl | assumption) ?_ | refine rx_loadM 1 rfl (fun _ h => h) vt3 rfl rfl rfl (by first | rfl | assumption) ?_ | refine rx_loadM 2 rfl (fun _ h => h) vt3 rfl rfl rfl (by first | rfl | assumption) ?_ | refine rx_loadM 3 rfl (fun _ h => h) vt3 rfl rfl rfl (by first | rfl | assumption) ?_ | refine rx_loadM 4 rfl (fun _ h => h) vt3 rfl rfl rfl (by first | rfl | assumption) ?_ | refine rx_loadM 5 rfl (fun _ h => h) vt3 rfl rfl rfl (by first | rfl | assumption) ?_ | refine rx_loadM 6 rfl (fun _ h => h) vt3 rfl rfl rfl (by first | rfl | assumption) ?_ | refine rx_loadM 7 rfl (fun _ h => h) vt3 rfl rfl rfl (by first | rfl | assumption) ?_); (try ((first | (refine rx_neq_t rfl rfl rfl rfl ?_ ?_; omega) | (refine rx_neq_f rfl rfl rfl rfl ?_ ?_; omega)); (try (refine rx_move (v := (Value.bool _ : Value)) rfl rfl rfl ?_; (try ((first | refine rx_off rfl rfl ?_ | refine rx_move (v := (Value.slice _ _ _ : Value)) rfl rfl rfl ?_); (try ((first | refine rx_off rfl rfl ?_ | refine rx_move (v := (Value.int _ _ : Value)) rfl rfl rfl ?_); (try ((first | refine rx_off rfl rfl ?_ | (refine rx_idx rfl sl27 rfl rfl rfl rfl ?_ ?_ ?_; omega; omega) | (apply rx_idx rfl sl27 rfl rfl rfl; assumption; omega; omega)); (try ((first | refine rx_off rfl rfl ?_ | refine rx_fld rfl fd40_1 rfl rfl ?_); (try ((first | refine rx_off rfl rfl ?_ | refine rx_loadV rfl (fun _ h => h) vt9 rfl rfl (by first | assumption | exact VRow.get (by assumption) rfl | exact VRow.get0 (by assumption) rfl) ?_ | refine rx_loadM 0 rfl (fun _ h => h) vt9 rfl rfl rfl (by first | rfl | assumption) ?_ | refine rx_loadM 1 rfl (fun _ h => h) vt9 rfl rfl rfl (by first | rfl | assumption) ?_ | refine rx_loadM 2 rfl (fun _ h => h) vt9 rfl rfl rfl (by first | rfl | assumption) ?_ | refine rx_loadM 3 rfl (fun _ h => h) vt9 rfl rfl rfl (by first | rfl | assumption) ?_ | refine rx_loadM 4 rfl (fun _ h => h) vt9 rfl rfl rfl (by first | rfl | assumption) ?_ | refine rx_loadM 5 rfl (fun _ h => h) vt9 rfl rfl rfl (by first | rfl | assumption) ?_ | refine rx_loadM 6 rfl (fun _ h => h) vt9 rfl rfl rfl (by first | rfl | assumption) ?_ | refine rx_loadM 7 rfl (fun _ h => h) vt9 rfl rfl rfl (by first | rfl | assumption) ?_); (try ((first | refine rx_off rfl rfl ?_ | refine rx_move (v := (Value.slice _ _ _ : Value)) rfl rfl rfl ?_); (try ((first | refine rx_off rfl rfl ?_ | refine rx_move (v := (Value.int _ _ : Value)) rfl rfl rfl ?_); (try ((first | refine rx_off rfl rfl ?_ | (refine rx_idx rfl sl27 rfl rfl rfl rfl ?_ ?_ ?_; omega; omega) | (apply rx_idx rfl sl27 rfl rfl rfl; assumption; omega; omega)); (try ((first | refine rx_off rfl rfl ?_ | refine rx_fld rfl fd40_1 rfl rfl ?_); (try ((first | refine rx_off rfl rfl ?_ | refine rx_loadV rfl (fun _ h => h) vt9 rfl rfl (by first | assumption | exact VRow.get (by assumption) rfl | exact VRow.get0 (by assumption) rfl) ?_ | refine rx_loadM 0 rfl (fun _ h => h) vt9 rfl rfl rfl (by first | rfl | assumption) ?_ | refine rx_loadM 1 rfl (fun _ h => h) vt9 rfl rfl rfl (by first | rfl | assumption) ?_ | refine rx_loadM 2 rfl (fun _ h => h) vt9 rfl rfl rfl (by first | rfl | assumption) ?_ | refine rx_loadM 3 rfl (fun _ h => h) vt9 rfl rfl rfl (by first | rfl | assumption) ?_ | refine rx_loadM 4 rfl (fun _ h => h) vt9 rfl rfl rfl (by first | rfl | assumption) ?_ | refine rx_loadM 5 rfl (fun _ h => h) vt9 rfl rfl rfl (by first | rfl | assumption) ?_ | refine rx_loadM 6 rfl (fun _ h => h) vt9 rfl rfl rfl (by first | rfl | assumption) ?_ | refine rx_loadM 7 rfl (fun _ h => h) vt9 rfl rfl rfl (by first | rfl | assumption) ?_); (try ((first | refine rx_off rfl rfl ?_ | refine rx_sneq_f rfl rfl rfl rfl (by first | rfl | assumption) ?_ | refine rx_sneq_t rfl rfl rfl rfl (by first | assumption | decide) ?_); (try (refine rx_pick (v := (Value.bool _ : Value)) rfl rfl rfl rfl ?_; (try (refine rx_move (v := (Value.bool _ : Value)) rfl rfl rfl ?_; (try ((first | refine rx_off rfl rfl ?_ | refine rx_move (v := (Value.slice _ _ _ : Value)) rfl rfl rfl ?_); (try ((first | refine rx_off rfl rfl ?_ | refine rx_move (v := (Value.int _ _ : Value)) rfl rfl rfl ?_); (try ((first | refine rx_off rfl rfl ?_ | (refine rx_idx rfl sl27 rfl rfl rfl rfl ?_ ?_ ?_; omega; omega) | (apply rx_idx rfl sl27 rfl rfl rfl; assumption; omega; omega)); (try ((first | refine rx_off rfl rfl ?_ | refine rx_fld rfl fd40_2 rfl rfl ?_); (try ((first | refine rx_off rfl rfl ?_ | refine rx_loadV rfl (fun _ h => h) vt3 rfl rfl (by first | assumption | exact VRow.get (by assumption) rfl | exact VRow.get0 (by assumption) rfl) ?_ | refine rx_loadM 0 rfl (fun _ h => h) vt3 rfl rfl rfl (by first | rfl | assumption) ?_ | refine rx_loadM 1 rfl (fun _ h => h) vt3 rfl rfl rfl (by first | rfl | assumption) ?_ | refine rx_loadM 2 rfl (fun _ h => h) vt3 rfl rfl rfl (by first | rfl | assumption) ?_ | refine rx_loadM 3 rfl (fun _ h => h) vt3 rfl rfl rfl (by first | rfl | assumption) ?_ | refine rx_loadM 4 rfl (fun _ h => h) vt3 rfl rfl rfl (by first | rfl | assumption) ?_ | refine rx_loadM 5 rfl (fun _ h => h) vt3 rfl rfl rfl (by first | rfl | assumption) ?_ | refine rx_loadM 6 rfl (fun _ h => h) vt3 rfl rfl rfl (by first | rfl | assumption) ?_ | refine rx_loadM 7 rfl (fun _ h => h) vt3 rfl rfl rfl (by first | rfl | assumption) ?_); (try ((first | refine rx_off rfl rfl ?_ | refine rx_move (v := (Value.slice _ _ _ : Value)) rfl rfl rfl ?_); (try ((first | refine rx_off rfl rfl ?_ | refine rx_move (v := (Value.int _ _ : Value)) rfl rfl rfl ?_); (try ((first | refine rx_off rfl rfl ?_ | (refine rx_idx rfl sl27 rfl rfl rfl rfl ?_ ?_ ?_; omega; omega) | (apply rx_idx rfl sl27 rfl rfl rfl; assumption; omega; omega)); (try ((first | refine rx_off rfl rfl ?_ | refine rx_fld rfl fd40_2 rfl rfl ?_); (try ((first | refine rx_off rfl rfl ?_ | refine rx_loadV rfl (fun _ h => h) vt3 rfl rfl (by first | assumption | exact VRow.get (by assumption) rfl | exact VRow.get0 (by assumption) rfl) ?_ | refine rx_loadM 0 rfl (fun _ h => h) vt3 rfl rfl rfl (by first | rfl | assumption) ?_ | refine rx_loadM 1 rfl (fun _ h => h) vt3 rfl rfl rfl (by first | rfl | assumption) ?_ | refine rx_loadM 2 rfl (fun _ h => h) vt3 rfl rfl rfl (by first | rfl | assumption) ?_ | refine rx_loadM 3 rfl (fun _ h => h) vt3 rfl rfl rfl (by first | rfl | assumption) ?_ | refine rx_loadM 4 rfl (fun _ h => h) vt3 rfl rfl rfl (by first | rfl | assumption) ?_ | refine rx_loadM 5 rfl (fun _ h => h) vt3 rfl rfl rfl (by first | rfl | assumption) ?_ | refine rx_loadM 6 rfl (fun _ h => h) vt3 rfl rfl rfl (by first | rfl | assumption) ?_ | refine rx_loadM 7 rfl (fun _ h => h) vt3 rfl rfl rfl (by first | rfl | assumption) ?_); (try ((first | refine rx_off rfl rfl ?_ | (refine rx_neq_t rfl rfl rfl rfl ?_ ?_; omega) | (refine rx_neq_f rfl rfl rfl rfl ?_ ?_; omega)))))))))))))))))))))))))))))))))))))))))))))))))))))))))))))))))))))))))))
      refine rx_nil rfl ?_
      (repeat (first | refine sq_normal ?_ | refine rl_nil ?_ | refine cond_f rfl ?_ | refine skip_ ?_ | refine inBlock_normal ?_ | refine np_normal ?_ | (refine region_ (id := 8) ?_; (try (refine rl_move (v := (Value.int _ _ : Value)) rfl rfl ?_; (try ((refine rl_add rfl rfl rfl ?_ ?_ ?_; omega; omega); (try (refine rl_assign (v := (Value.int _ _ : Value)) rfl rfl ?_))))))) | refine rl_pick (v := (Value.bool _ : Value)) rfl rfl rfl ?_))
      exact kq_normal (hL0 (l1.length - (i + 1)) _ _ (by omega) (by (repeat (first | with_reducible exact Agree.ov | with_reducible exact Agree.refl _ _ | refine Agree.upd rfl ?_ | refine Agree.ovs rfl ?_))) ⟨i + 1, rfl, by omega, rfl, _, hM⟩)
    · (repeat (first | refine seq_ ?_ | refine sq_normal ?_ | refine sq_exit ?_ | refine rl_nil ?_ | refine cond_f rfl ?_ | refine exit_ ?_ | refine inBlock_exit ?_ | refine kq_exit ?_ | (refine region_ (id := 7) ?_; (try (refine rl_move (v := (Value.int _ _ : Value)) rfl rfl ?_; (try (refine rl_move (v := (Value.slice _ _ _ : Value)) rfl rfl ?_; (try (refine rl_len sl27 rfl rfl ?_; (try ((first | (refine rl_lss_t rfl rfl rfl ?_ ?_; omega) | (refine rl_lss_f rfl rfl rfl ?_ ?_; omega))))))))))) | (refine region_ (id := 11) ?_; (try (refine rl_move (v := (Value.string _ : Value)) rfl rfl ?_; (try (refine rl_move (v := (Value.slice _ _ _ : Value)) rfl rfl ?_)))))))
      refine rl_callf fn9 (texts_ok _ l w0 w _ V3 hM (hI.le (hV1.trans (hV2.trans hV3)))) rfl rfl ?_
      clear hM
      rintro _ w ⟨V4, hV4, hM, htx4⟩
      obtain ⟨_, _, _, _, hsh, _⟩ := id (IsTs.open' htx4)
      subst hsh
      skip
      refine rl_callf fn25 (words_ok _ (words l) w0 w _ V4 hM htx4 (by omega)) rfl rfl ?_
      clear hM
      rintro _ w ⟨V5, hV5, hM, htk5⟩
      obtain ⟨_, _, _, _, hsh, _⟩ := id htk5
      subst hsh
      skip
      refine rl_callf fn24 (refprint_ok _ (words l) w0 w _ V5 hM htk5 (by omega) (fun t ht => table_ne t (hwm t ht))) rfl rfl ?_
      clear hM
      rintro _ w ⟨rfl, hM⟩
      (repeat (first | refine rl_move (v := (Value.bool _ : Value)) rfl rfl ?_ | (first | refine rl_seql_t rfl rfl rfl (by first | rfl | assumption) ?_ | refine rl_seql_f rfl rfl rfl (by first | assumption | decide) ?_)))
      refine rl_callf fn15 (lives_ok w0 w _ V5 hM) rfl rfl ?_
      clear hM
      rintro _ w ⟨rfl, hM⟩
      (repeat (first | refine sq_normal ?_ | refine rl_nil ?_ | refine ret_ ?_ | refine rl_assign (v := (Value.bool _ : Value)) rfl rfl ?_ | refine rl_pick (v := (Value.bool _ : Value)) rfl rfl rfl ?_))
      exact bp_ret1 (v := Value.bool _) rfl rfl ⟨rfl, hM.below⟩
  rw [hw0] at key
  exact key
end Go.Proofs.Ytlalagkkmoifpaa.Lex
