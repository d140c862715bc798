/- LexReads. -/
import Derived.Test.YtlalagkkmoifpaaLexW15
set_option linter.unusedVariables false
set_option linter.unusedSimpArgs false
namespace Go.Proofs.Ytlalagkkmoifpaa.Lex
open Go Go.Eng Go.RowKit Go.Lx
attribute [local irreducible] RL RX KQ SQ Exit.inBlock Exit.then BP NP CallsOk IsSl IsRows IsInts IsBools Own Blk Code.wp Calls wpList
theorem agree {x : Except (Int × Nat) (List Tok)} {l l' : List Tok} {e a e' a' : Int}
    (h : (x = .ok l ∧ e = 0 ∧ a = 0) ∨ (l = [] ∧ e ≠ 0 ∧ ∃ n : Nat, x = .error (e, n) ∧ a = n)) (h' : (x = .ok l' ∧ e' = 0 ∧ a' = 0) ∨ (l' = [] ∧ e' ≠ 0 ∧ ∃ n : Nat, x = .error (e', n) ∧ a' = n)) : l = l' ∧ e = e' ∧ a = a' := by
  rcases h with ⟨h1, h2, h3⟩ | ⟨h1, h2, n, h3, h4⟩ <;> rcases h' with ⟨h1', h2', h3'⟩ | ⟨h1', h2', n', h3', h4'⟩
  · rw [h1] at h1'
    cases h1'
    exact ⟨rfl, by omega, by omega⟩
  · rw [h1] at h3'; cases h3'
  · rw [h3] at h1'; cases h1'
  · rw [h3] at h3'
    cases h3'
    exact ⟨by rw [h1, h1'], rfl, by omega⟩
theorem flat_len (ts : List (List UInt8)) (h : ∀ t ∈ ts, t.length ≤ 10) : ts.flatten.length ≤ ts.length * 10 := by
  induction ts with
  | nil => simp
  | cons t ts ih =>
    have := ih (fun t ht => h t (by simp [ht]))
    have := h t (by simp)
    simp only [List.flatten_cons, List.length_append, List.length_cons]
    omega
theorem words_len (l : List Int) : (words l).length ≤ 30 := by unfold words; simp; omega
theorem words_le (l : List Int) : ∀ t ∈ words l, t.length ≤ 10 := by
  intro t ht
  obtain ⟨n, _, rfl⟩ := List.mem_map.1 ht
  exact word_len n
theorem srcOf_len : ∀ (ts : List (List UInt8)) (gs : List Int), (∀ t ∈ ts, t.length ≤ 10) → (srcOf ts gs).length ≤ ts.length * 20
  | [], _, _ => by simp [srcOf]
  | t :: ts, [], h => by
    have := srcOf_len ts [] (fun t ht => h t (by simp [ht]))
    have := h t (by simp)
    simp only [srcOf, List.length_cons, List.length_append]
    omega
  | t :: ts, g :: gs, h => by
    have := srcOf_len ts gs (fun t ht => h t (by simp [ht]))
    have := h t (by simp)
    have := gap_len g
    simp only [srcOf, List.length_cons, List.length_append]
    omega
theorem lexF_len : ∀ (f : Nat) (s : List UInt8) (i : Nat) (l : List Tok), lexF f s i = .ok l → l.length ≤ f + 1
  | 0, _, _, l, h => by simp only [lexF] at h; cases h; simp
  | f + 1, [], _, l, h => by simp only [lexF] at h; cases h; simp
  | f + 1, c :: r, i, l, h => by
    simp only [lexF] at h
    split at h
    · have := lexF_len f _ _ _ h; omega
    · split at h
      · have := lexF_len f _ _ _ h; omega
      · split at h
        · cases h
        · split at h
          · cases h
          · rename_i l' hl'
            cases h
            have := lexF_len f _ _ _ hl'
            simp only [List.length_cons]
            omega
theorem lex_len {x : List UInt8} {l : List Tok} {e a : Int} (h : (lexA x = .ok l ∧ e = 0 ∧ a = 0) ∨ (l = [] ∧ e ≠ 0 ∧ ∃ n : Nat, lexA x = .error (e, n) ∧ a = n)) (hx : x.length ≤ 100000) : l.length ≤ 1000000 := by
  rcases h with ⟨h, _⟩ | ⟨rfl, _⟩
  · unfold lexA at h
    split at h
    · have := lexF_len _ _ _ _ h; omega
    · cases h
  · simp
set_option maxHeartbeats 2000000 in
theorem law3 (s : List UInt8) (v : Value) (l : List Int) (t : List UInt8) (w : World) (hs : s.length ≤ maxLen) (hI : IsInts w.cell? v l) (ht : t.length ≤ maxLen) : CallsOk Try.prog 3 #[St s, v, St t] w fun r w' => r = .bool true ∧ Below w.heap.size w w' := by
  have hml := maxLen_le
  have hM := Mem.init w
  obtain ⟨w0, hw0⟩ : ∃ w0, w0 = w := ⟨_, rfl⟩
  obtain ⟨V, hVd⟩ : ∃ V, V = w.cell? := ⟨_, rfl⟩
  rw [← hVd] at hM hI
  have hM : Mem w0 w [] V := by rw [hw0]; exact hM
  have key : CallsOk Try.prog 3 #[St s, v, St t] w fun r w' => r = .bool true ∧ Below w0.heap.size w0 w' := by
    obtain ⟨_, _, _, _, rfl, _⟩ := id hI.open
    refine enter_ (N := 73) Try.func3 rfl rfl rfl ?_
    (repeat (first | refine seq_ ?_ | refine sq_normal ?_ | refine rl_nil ?_ | (refine region_ (id := 0) ?_; (try (refine rl_assign (v := (Value.bool _ : Value)) rfl rfl ?_))) | (refine region_ (id := 1) ?_; (try (refine rl_move (v := (Value.slice _ _ _ : Value)) rfl rfl ?_)))))
    refine rl_callf fn9 (texts_ok _ l w0 w _ V hM hI) rfl rfl ?_
    clear hM
    rintro _ w ⟨V1, hV1, hM, htx⟩
    have hwl := words_len l
    have hwe := words_le l
    obtain ⟨a, c, b, off, rfl, h1, h2, h3, h4⟩ := id htx.open'
    (repeat (first | refine seq_ ?_ | refine sq_normal ?_ | refine rl_nil ?_ | refine block_ ?_ | (refine region_ (id := 2) ?_; (try (refine rl_assign (v := (Value.string _ : Value)) rfl rfl ?_))) | (refine region_ (id := 3) ?_; (try (refine rl_assign (v := (Value.int _ _ : Value)) rfl rfl ?_))) | refine rl_assign (v := (Value.slice _ _ _ : Value)) rfl rfl ?_))
    refine loop2 [(8, 10), (18, 30)] 8 9 (fun m v8 v9 wr => ∃ (bs : List UInt8) (i : Nat), v8 = St bs ∧ v9 = .int .i64 i ∧ i ≤ (words l).length ∧ m = (words l).length - i ∧ Mem w0 wr [] V1 ∧ bs.length ≤ i * 10) _
      ⟨[], 0, rfl, rfl, by omega, rfl, hM, by simp⟩ ?_
    clear hM
    rintro m τ v8 v9 w ⟨bs, i, rfl, rfl, hi, rfl, hM, hbl⟩ K0 hL0
    by_cases hlt : i < (words l).length
    · obtain ⟨x, hx⟩ : ∃ x, (words l)[i]? = some x := ⟨_, List.getElem?_eq_getElem hlt⟩
      have hA := h3 (by omega)
      subst hA
      have hvx := h4 i x hx
      have hxl := hwe x (List.mem_of_getElem? hx)
      (repeat (first | refine seq_ ?_ | refine sq_normal ?_ | refine rl_nil ?_ | refine cond_t rfl ?_ | refine skip_ ?_ | refine block_ ?_ | refine inBlock_normal ?_ | (refine region_ (id := 4) ?_; (try (refine rl_move (v := (Value.int _ _ : Value)) rfl rfl ?_; (try (refine rl_move (v := (Value.slice _ _ _ : Value)) rfl rfl ?_; (try (refine rl_len sl23 rfl rfl ?_; (try ((first | (refine rl_lss_t rfl rfl rfl ?_ ?_; omega) | (refine rl_lss_f rfl rfl rfl ?_ ?_; omega))))))))))) | (refine region_ (id := 5) ?_; (try (refine rl_move (v := (Value.int _ _ : Value)) rfl rfl ?_; (try ((refine rl_add rfl rfl rfl ?_ ?_ ?_; omega; omega); (try (refine rl_assign (v := (Value.int _ _ : Value)) rfl rfl ?_))))))) | (refine region_ (id := 6) ?_; (try (refine rl_move (v := (Value.string _ : Value)) rfl rfl ?_; (try (refine rl_move (v := (Value.slice _ _ _ : Value)) rfl rfl ?_; (try (refine rl_move (v := (Value.int _ _ : Value)) rfl rfl ?_; (try ((first | (refine rl_idx1 sl23 rfl rfl rfl rfl ?_ ?_ ?_; omega; omega) | (apply rl_idx1 sl23 rfl rfl rfl; assumption; omega; omega)); (try ((first | refine rl_loadV hM vt9 rfl rfl (by first | assumption | exact VRow.get (by assumption) rfl | exact VRow.get0 (by assumption) rfl) ?_ | refine rl_loadM 0 hM vt9 rfl rfl rfl (by first | rfl | assumption) ?_ | refine rl_loadM 1 hM vt9 rfl rfl rfl (by first | rfl | assumption) ?_ | refine rl_loadM 2 hM vt9 rfl rfl rfl (by first | rfl | assumption) ?_ | refine rl_loadM 3 hM vt9 rfl rfl rfl (by first | rfl | assumption) ?_ | refine rl_loadM 4 hM vt9 rfl rfl rfl (by first | rfl | assumption) ?_ | refine rl_loadM 5 hM vt9 rfl rfl rfl (by first | rfl | assumption) ?_ | refine rl_loadM 6 hM vt9 rfl rfl rfl (by first | rfl | assumption) ?_ | refine rl_loadM 7 hM vt9 rfl rfl rfl (by first | rfl | assumption) ?_); (try ((refine rl_sadd rfl rfl rfl (by (first | omega | (simp only [List.length_append, List.length_cons, List.length_nil, List.length_take, List.length_drop] at *; omega))) ?_); (try (refine rl_assign (v := (Value.string _ : Value)) rfl rfl ?_)))))))))))))))))
      exact kq_normal (hL0 ((words l).length - (i + 1)) _ _ (by omega) (by (repeat (first | with_reducible exact Agree.ov | with_reducible exact Agree.refl _ _ | refine Agree.upd rfl ?_ | refine Agree.ovs rfl ?_))) ⟨_, i + 1, rfl, rfl, by omega, rfl, hM, by simp only [List.length_append]; omega⟩)
    · (repeat (first | refine seq_ ?_ | refine sq_normal ?_ | refine sq_exit ?_ | refine rl_nil ?_ | refine cond_f rfl ?_ | refine exit_ ?_ | refine inBlock_exit ?_ | refine kq_exit ?_ | (refine region_ (id := 4) ?_; (try (refine rl_move (v := (Value.int _ _ : Value)) rfl rfl ?_; (try (refine rl_move (v := (Value.slice _ _ _ : Value)) rfl rfl ?_; (try (refine rl_len sl23 rfl rfl ?_; (try ((first | (refine rl_lss_t rfl rfl rfl ?_ ?_; omega) | (refine rl_lss_f rfl rfl rfl ?_ ?_; omega))))))))))) | (refine region_ (id := 7) ?_; (try (refine rl_move (v := (Value.string _ : Value)) rfl rfl ?_)))))
      refine rl_callf fn10 (short_ok s 80 w (by omega) (by omega) (by omega)) rfl rfl ?_
      rintro _ w ⟨rfl, rfl⟩
      (repeat (first | refine rl_move (v := (Value.slice _ _ _ : Value)) rfl rfl ?_))
      refine rl_callf fn11 (source_ok _ _ (words l) l w0 w _ V1 hM htx (hI.le hV1) hwl hwe) rfl rfl ?_
      clear hM
      rintro _ w ⟨rfl, hM⟩
      have hsl := srcOf_len (words l) l hwe
      (repeat (first | refine rl_move (v := (Value.string _ : Value)) rfl rfl ?_))
      refine rl_callf fn10 (short_ok t 10 w (by omega) (by omega) (by omega)) rfl rfl ?_
      rintro _ w ⟨rfl, rfl⟩
      have htl : (t.take (10 : Int).toNat).length ≤ 10 := by rw [List.length_take]; have : (10 : Int).toNat = 10 := rfl; omega
      have hsl8 : (s.take (80 : Int).toNat).length ≤ 80 := by rw [List.length_take]; have : (80 : Int).toNat = 80 := rfl; omega
      (repeat (first | refine rl_move (v := (Value.string _ : Value)) rfl rfl ?_ | (refine rl_sadd rfl rfl rfl (by (first | omega | (simp only [List.length_append, List.length_cons, List.length_nil, List.length_take, List.length_drop] at *; omega))) ?_)))
      refine rl_callf fn10 (short_ok t 10 w (by omega) (by omega) (by omega)) rfl rfl ?_
      rintro _ w ⟨rfl, rfl⟩
      (repeat (first | refine seq_ ?_ | refine sq_normal ?_ | refine rl_nil ?_ | refine block_ ?_ | (refine region_ (id := 8) ?_; (try (refine rl_assign (v := (Value.int _ _ : Value)) rfl rfl ?_))) | refine rl_assign (v := (Value.slice _ _ _ : Value)) rfl rfl ?_ | (refine rl_sadd rfl rfl rfl (by (first | omega | (simp only [List.length_append, List.length_cons, List.length_nil, List.length_take, List.length_drop] at *; omega))) ?_) | (refine rl_bsliceM (d := 42) [_, _, _] hM sl23 rfl rfl rfl rfl rfl (by decide) (by decide) ?_; clear hM; intro w b42 hM)))
      obtain ⟨A, hA⟩ : ∃ A : List (List UInt8), A = [s.take (80 : Int).toNat, srcOf (words l) l ++ t.take (10 : Int).toNat, bs ++ t.take (10 : Int).toNat] := ⟨_, rfl⟩
      have hM : Mem w0 w [.blk b42 (A.map St) 9] V1 := by rw [hA]; exact hM
      have hA3 : A.length = 3 := by rw [hA]; rfl
      have hAl : ∀ x ∈ A, x.length ≤ 1000 := by
        intro x hx
        rw [hA] at hx
        simp only [List.mem_cons, List.not_mem_nil, or_false] at hx
        rcases hx with rfl | rfl | rfl
        · omega
        · rw [List.length_append]; omega
        · rw [List.length_append]; omega
      clear hA
      refine loop1 [(6, 7), (11, 16), (43, 72)] 11 (fun m v wr => ∃ (i : Nat) (V2 : Vw), v = .int .i64 i ∧ i ≤ 3 ∧ m = 3 - i ∧ Mem w0 wr [.blk b42 (A.map St) 9] V2) _
        ⟨0, V1, rfl, by omega, rfl, hM⟩ ?_
      clear hM
      rintro m2 τ2 v11 w ⟨i2, V2, rfl, hi2, rfl, hM⟩ K1 hL1
      by_cases hlt2 : i2 < 3
      · obtain ⟨x, hx⟩ : ∃ x, A[i2]? = some x := ⟨_, List.getElem?_eq_getElem (by omega)⟩
        have hu : (A.map St)[0 + i2]? = some (St x) := by rw [Nat.zero_add]; simp [hx]
        have hxl := hAl x (List.mem_of_getElem? hx)
        (repeat (first | refine seq_ ?_ | refine sq_normal ?_ | refine rl_nil ?_ | refine cond_t rfl ?_ | refine skip_ ?_ | refine block_ ?_ | (refine region_ (id := 9) ?_; (try (refine rl_move (v := (Value.int _ _ : Value)) rfl rfl ?_; (try ((first | (refine rl_lss_t rfl rfl rfl ?_ ?_; omega) | (refine rl_lss_f rfl rfl rfl ?_ ?_; omega))))))) | (refine region_ (id := 11) ?_; (try (refine rl_move (v := (Value.slice _ _ _ : Value)) rfl rfl ?_; (try (refine rl_move (v := (Value.int _ _ : Value)) rfl rfl ?_; (try ((first | (refine rl_idx1 sl23 rfl rfl rfl rfl ?_ ?_ ?_; omega; omega) | (apply rl_idx1 sl23 rfl rfl rfl; assumption; omega; omega)); (try ((first | refine rl_loadV hM vt9 rfl rfl (by first | assumption | exact VRow.get (by assumption) rfl | exact VRow.get0 (by assumption) rfl) ?_ | refine rl_loadM 0 hM vt9 rfl rfl rfl (by first | rfl | assumption) ?_ | refine rl_loadM 1 hM vt9 rfl rfl rfl (by first | rfl | assumption) ?_ | refine rl_loadM 2 hM vt9 rfl rfl rfl (by first | rfl | assumption) ?_ | refine rl_loadM 3 hM vt9 rfl rfl rfl (by first | rfl | assumption) ?_ | refine rl_loadM 4 hM vt9 rfl rfl rfl (by first | rfl | assumption) ?_ | refine rl_loadM 5 hM vt9 rfl rfl rfl (by first | rfl | assumption) ?_ | refine rl_loadM 6 hM vt9 rfl rfl rfl (by first | rfl | assumption) ?_ | refine rl_loadM 7 hM vt9 rfl rfl rfl (by first | rfl | assumption) ?_))))))))))))
        refine rl_callf fn12 (lex_ok x w0 w _ V2 hM (by omega)) rfl rfl ?_
        clear hM
        rintro _ w ⟨V3, v1, l1, e1, a1, hV3, hM, rfl, htk1, ho1⟩
        obtain ⟨_, _, _, _, hsh, _⟩ := id htk1
        subst hsh
        (repeat (first | refine seq_ ?_ | refine sq_normal ?_ | refine rl_nil ?_ | (refine region_ (id := 12) ?_; (try (refine rl_move (v := (Value.slice _ _ _ : Value)) rfl rfl ?_; (try (refine rl_move (v := (Value.int _ _ : Value)) rfl rfl ?_; (try ((first | (refine rl_idx1 sl23 rfl rfl rfl rfl ?_ ?_ ?_; omega; omega) | (apply rl_idx1 sl23 rfl rfl rfl; assumption; omega; omega)); (try ((first | refine rl_loadV hM vt9 rfl rfl (by first | assumption | exact VRow.get (by assumption) rfl | exact VRow.get0 (by assumption) rfl) ?_ | refine rl_loadM 0 hM vt9 rfl rfl rfl (by first | rfl | assumption) ?_ | refine rl_loadM 1 hM vt9 rfl rfl rfl (by first | rfl | assumption) ?_ | refine rl_loadM 2 hM vt9 rfl rfl rfl (by first | rfl | assumption) ?_ | refine rl_loadM 3 hM vt9 rfl rfl rfl (by first | rfl | assumption) ?_ | refine rl_loadM 4 hM vt9 rfl rfl rfl (by first | rfl | assumption) ?_ | refine rl_loadM 5 hM vt9 rfl rfl rfl (by first | rfl | assumption) ?_ | refine rl_loadM 6 hM vt9 rfl rfl rfl (by first | rfl | assumption) ?_ | refine rl_loadM 7 hM vt9 rfl rfl rfl (by first | rfl | assumption) ?_)))))))))) | refine rl_assign (v := (Value.slice _ _ _ : Value)) rfl rfl ?_ | refine rl_move (v := (Value.tuple _ : Value)) rfl rfl ?_ | refine rl_extract rfl rfl rfl ?_ | (refine rl_allocAM (d := 13) hM ag30 rfl ?_; clear hM; intro w b13 hM) | (first | (refine rl_storeWM 0 hM ag30 rfl rfl rfl rfl rfl rfl rfl ?_; clear hM; intro w hM) | (refine rl_storeWM 1 hM ag30 rfl rfl rfl rfl rfl rfl rfl ?_; clear hM; intro w hM) | (refine rl_storeWM 2 hM ag30 rfl rfl rfl rfl rfl rfl rfl ?_; clear hM; intro w hM) | (refine rl_storeWM 3 hM ag30 rfl rfl rfl rfl rfl rfl rfl ?_; clear hM; intro w hM) | (refine rl_storeWM 4 hM ag30 rfl rfl rfl rfl rfl rfl rfl ?_; clear hM; intro w hM) | (refine rl_storeWM 5 hM ag30 rfl rfl rfl rfl rfl rfl rfl ?_; clear hM; intro w hM) | (refine rl_storeWM 6 hM ag30 rfl rfl rfl rfl rfl rfl rfl ?_; clear hM; intro w hM) | (refine rl_storeWM 7 hM ag30 rfl rfl rfl rfl rfl rfl rfl ?_; clear hM; intro w hM))))
        refine rl_callf fn13 (reflex_ok x w0 w _ V3 hM (by omega)) rfl rfl ?_
        clear hM
        rintro _ w ⟨V4, v2, l2, e2, a2, hV4, hM, rfl, htk2, ho2⟩
        obtain ⟨_, _, _, _, hsh, _⟩ := id htk2
        subst hsh
        obtain ⟨rfl, rfl, rfl⟩ := agree ho1 ho2
        have hll : l1.length ≤ 1000000 := lex_len ho1 (by omega)
        (repeat (first | refine seq_ ?_ | refine sq_normal ?_ | refine rl_nil ?_ | (refine region_ (id := 13) ?_; (try ((first | refine rl_loadAV hM ag30 rfl rfl (by assumption) (by rfl) ?_ | refine rl_loadAM (vs := [_, _]) 0 hM ag30 rfl rfl rfl rfl rfl ?_ | refine rl_loadAM (vs := [_, _]) 1 hM ag30 rfl rfl rfl rfl rfl ?_ | refine rl_loadAM (vs := [_, _]) 2 hM ag30 rfl rfl rfl rfl rfl ?_ | refine rl_loadAM (vs := [_, _]) 3 hM ag30 rfl rfl rfl rfl rfl ?_ | refine rl_loadAM (vs := [_, _]) 4 hM ag30 rfl rfl rfl rfl rfl ?_ | refine rl_loadAM (vs := [_, _]) 5 hM ag30 rfl rfl rfl rfl rfl ?_ | refine rl_loadAM (vs := [_, _]) 6 hM ag30 rfl rfl rfl rfl rfl ?_ | refine rl_loadAM (vs := [_, _]) 7 hM ag30 rfl rfl rfl rfl rfl ?_); (try ((first | refine rl_loadAV hM ag30 rfl rfl (by assumption) (by rfl) ?_ | refine rl_loadAM (vs := [_, _]) 0 hM ag30 rfl rfl rfl rfl rfl ?_ | refine rl_loadAM (vs := [_, _]) 1 hM ag30 rfl rfl rfl rfl rfl ?_ | refine rl_loadAM (vs := [_, _]) 2 hM ag30 rfl rfl rfl rfl rfl ?_ | refine rl_loadAM (vs := [_, _]) 3 hM ag30 rfl rfl rfl rfl rfl ?_ | refine rl_loadAM (vs := [_, _]) 4 hM ag30 rfl rfl rfl rfl rfl ?_ | refine rl_loadAM (vs := [_, _]) 5 hM ag30 rfl rfl rfl rfl rfl ?_ | refine rl_loadAM (vs := [_, _]) 6 hM ag30 rfl rfl rfl rfl rfl ?_ | refine rl_loadAM (vs := [_, _]) 7 hM ag30 rfl rfl rfl rfl rfl ?_); (try ((first | refine rl_aneq_f eq30 rfl rfl rfl rfl rfl (by first | rfl | assumption) ?_ | refine rl_aneq_t eq30 rfl rfl rfl rfl rfl (by assumption) ?_); (try (refine rl_move (v := (Value.bool _ : Value)) rfl rfl ?_; (try ((first | refine rl_off rfl ?_ | refine rl_move (v := (Value.slice _ _ _ : Value)) rfl rfl ?_); (try ((first | refine rl_off rfl ?_ | refine rl_move (v := (Value.slice _ _ _ : Value)) rfl rfl ?_)))))))))))))) | refine rl_assign (v := (Value.slice _ _ _ : Value)) rfl rfl ?_ | refine rl_move (v := (Value.tuple _ : Value)) rfl rfl ?_ | refine rl_extract rfl rfl rfl ?_ | (first | (refine rl_storeWM 0 hM ag30 rfl rfl rfl rfl rfl rfl rfl ?_; clear hM; intro w hM) | (refine rl_storeWM 1 hM ag30 rfl rfl rfl rfl rfl rfl rfl ?_; clear hM; intro w hM) | (refine rl_storeWM 2 hM ag30 rfl rfl rfl rfl rfl rfl rfl ?_; clear hM; intro w hM) | (refine rl_storeWM 3 hM ag30 rfl rfl rfl rfl rfl rfl rfl ?_; clear hM; intro w hM) | (refine rl_storeWM 4 hM ag30 rfl rfl rfl rfl rfl rfl rfl ?_; clear hM; intro w hM) | (refine rl_storeWM 5 hM ag30 rfl rfl rfl rfl rfl rfl rfl ?_; clear hM; intro w hM) | (refine rl_storeWM 6 hM ag30 rfl rfl rfl rfl rfl rfl rfl ?_; clear hM; intro w hM) | (refine rl_storeWM 7 hM ag30 rfl rfl rfl rfl rfl rfl rfl ?_; clear hM; intro w hM)) | (refine rl_allocAM (d := 15) hM ag30 rfl ?_; clear hM; intro w b15 hM)))
        refine rl_callf fn14 (same_ok _ _ l1 l1 w0 w _ V4 hM (htk1.le hV4) htk2 hll hll) rfl rfl ?_
        clear hM
        rintro _ w ⟨rfl, hM⟩
        rw [decide_eq_true rfl]
        (repeat (first | refine sq_normal ?_ | refine rl_nil ?_ | refine cond_f rfl ?_ | refine skip_ ?_ | refine inBlock_normal ?_ | (refine region_ (id := 10) ?_; (try (refine rl_move (v := (Value.int _ _ : Value)) rfl rfl ?_; (try ((refine rl_add rfl rfl rfl ?_ ?_ ?_; omega; omega); (try (refine rl_assign (v := (Value.int _ _ : Value)) rfl rfl ?_))))))) | (first | refine rl_off rfl ?_ | refine rl_not rfl rfl ?_) | refine rl_pick (v := (Value.bool _ : Value)) rfl rfl rfl ?_))
        exact kq_normal (hL1 (3 - (i2 + 1)) _ _ (by omega) (by (repeat (first | with_reducible exact Agree.ov | with_reducible exact Agree.refl _ _ | refine Agree.upd rfl ?_ | refine Agree.ovs rfl ?_))) ⟨i2 + 1, V4, rfl, by omega, rfl, hM.dropn 2⟩)
      · (repeat (first | refine seq_ ?_ | refine sq_normal ?_ | refine sq_exit ?_ | refine rl_nil ?_ | refine cond_f rfl ?_ | refine exit_ ?_ | refine inBlock_exit ?_ | refine kq_exit ?_ | (refine region_ (id := 9) ?_; (try (refine rl_move (v := (Value.int _ _ : Value)) rfl rfl ?_; (try ((first | (refine rl_lss_t rfl rfl rfl ?_ ?_; omega) | (refine rl_lss_f rfl rfl rfl ?_ ?_; omega))))))) | (refine region_ (id := 15) ?_)))
        refine rl_callf fn15 (lives_ok w0 w _ V2 hM) rfl rfl ?_
        clear hM
        rintro _ w ⟨rfl, hM⟩
        (repeat (first | refine sq_normal ?_ | refine rl_nil ?_ | refine ret_ ?_ | refine rl_assign (v := (Value.bool _ : Value)) rfl rfl ?_))
        exact bp_ret1 (v := Value.bool _) rfl rfl ⟨rfl, hM.below⟩
  rw [hw0] at key
  exact key
end Go.Proofs.Ytlalagkkmoifpaa.Lex
