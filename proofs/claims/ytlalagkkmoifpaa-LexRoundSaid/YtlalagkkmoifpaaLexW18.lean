/- The walk of strings.Join. -/
import Derived.Test.YtlalagkkmoifpaaLexW17
set_option linter.unusedVariables false
set_option linter.unusedSimpArgs false
namespace Go.Proofs.Ytlalagkkmoifpaa.Lex
open Go Go.Eng Go.RowKit Go.Lx
attribute [local irreducible] RL RX KQ SQ Exit.inBlock Exit.then BP NP CallsOk IsSl IsRows IsInts IsBools Own Blk Code.wp Calls wpList
def tl (ts : List (List UInt8)) : List UInt8 := ts.flatMap fun t => 32 :: t
/-- Texts with a blank between. -/
def jn : List (List UInt8) → List UInt8
  | [] => []
  | t :: ts => t ++ tl ts
theorem tl_snoc (ts : List (List UInt8)) (k : Nat) (t : List UInt8) (h : ts[k]? = some t) : tl (ts.take (k + 1)) = tl (ts.take k) ++ [32] ++ t := by
  rw [List.take_add_one, h]
  simp [tl]
def sm (ts : List (List UInt8)) : Nat := (ts.map List.length).sum
theorem sm_snoc (ts : List (List UInt8)) (k : Nat) (t : List UInt8) (h : ts[k]? = some t) : sm (ts.take (k + 1)) = sm (ts.take k) + t.length := by
  rw [List.take_add_one, h]
  simp [sm]
theorem tl_len (ts : List (List UInt8)) : (tl ts).length = ts.length + sm ts := by
  induction ts with
  | nil => rfl
  | cons t ts ih => simp only [tl, sm, List.flatMap_cons, List.length_append, List.length_cons, List.map_cons, List.sum_cons] at ih ⊢; omega
theorem sm_le (ts : List (List UInt8)) (h : ∀ t ∈ ts, t.length ≤ 1000) : sm ts ≤ ts.length * 1000 := by
  induction ts with
  | nil => simp [sm]
  | cons t ts ih =>
    have := ih (fun t ht => h t (by simp [ht]))
    have := h t (by simp)
    simp only [sm, List.map_cons, List.sum_cons, List.length_cons] at *
    omega
set_option maxHeartbeats 2000000 in
theorem join_ok (v : Value) (ts : List (List UInt8)) (w0 w : World) (L : List Ent) (V : Vw) (hM : Mem w0 w L V) (hv : IsTs V v ts) (hl : ts.length ≤ 1000) (hw : ∀ t ∈ ts, t.length ≤ 1000) :
    CallsOk Try.prog 35 #[v, St [32]] w fun r w' => r = St (jn ts) ∧ Mem w0 w' L V := by
  have hml := maxLen_le
  obtain ⟨a, c, b, off, rfl, h1, h2, h3, h4⟩ := IsTs.open' hv
  refine enter_ (N := 75) Try.func35 rfl rfl rfl ?_
  rcases Nat.lt_or_ge ts.length 2 with h2' | h2'
  · match ts, h2' with
    | [], _ =>
      have hz : (([] : List (List UInt8)).length : Int) = 0 := rfl
      (repeat (first | refine seq_ ?_ | refine sq_normal ?_ | refine sq_ret ?_ | refine rl_nil ?_ | refine cond_t rfl ?_ | refine ret_ ?_ | refine block_ ?_ | refine inBlock_ret ?_ | (refine region_ (id := 0) ?_; (try (refine rl_assign (v := (Value.string _ : Value)) rfl rfl ?_))) | (refine region_ (id := 1) ?_; (try (refine rl_move (v := (Value.slice _ _ _ : Value)) rfl rfl ?_; (try (refine rl_len sl23 rfl rfl ?_))))) | (refine region_ (id := 2) ?_; (try ((first | (refine rl_eql_t rfl rfl rfl ?_ ?_; omega) | (refine rl_eql_f rfl rfl rfl ?_ ?_; omega)); (try (refine rl_assign (v := (Value.bool _ : Value)) rfl rfl ?_))))) | (refine region_ (id := 3) ?_; (try (refine rl_assign (v := (Value.string _ : Value)) rfl rfl ?_)))))
      exact bp_ret1 (v := St []) rfl rfl ⟨rfl, hM⟩
    | [t], _ =>
      have hz : (([t] : List (List UInt8)).length : Int) = 1 := rfl
      have hA := h3 (by simp)
      subst hA
      have ht := h4 0 t rfl
      have ht : V ⟨b, off + (0 : Int).toNat, none⟩ = some (St t) := ht
      (repeat (first | refine seq_ ?_ | refine sq_normal ?_ | refine sq_ret ?_ | refine rl_nil ?_ | refine cond_t rfl ?_ | refine cond_f rfl ?_ | refine ret_ ?_ | refine block_ ?_ | refine inBlock_ret ?_ | (refine region_ (id := 0) ?_; (try (refine rl_assign (v := (Value.string _ : Value)) rfl rfl ?_))) | (refine region_ (id := 1) ?_; (try (refine rl_move (v := (Value.slice _ _ _ : Value)) rfl rfl ?_; (try (refine rl_len sl23 rfl rfl ?_))))) | (refine region_ (id := 2) ?_; (try ((first | (refine rl_eql_t rfl rfl rfl ?_ ?_; omega) | (refine rl_eql_f rfl rfl rfl ?_ ?_; omega)); (try (refine rl_assign (v := (Value.bool _ : Value)) rfl rfl ?_))))) | (refine region_ (id := 4) ?_; (try ((first | (refine rl_eql_t rfl rfl rfl ?_ ?_; omega) | (refine rl_eql_f rfl rfl rfl ?_ ?_; omega)); (try (refine rl_assign (v := (Value.bool _ : Value)) rfl rfl ?_))))) | (refine region_ (id := 5) ?_; (try (refine rl_move (v := (Value.slice _ _ _ : Value)) rfl rfl ?_; (try ((first | (refine rl_idx1 sl23 rfl rfl rfl rfl ?_ ?_ ?_; omega; omega) | (apply rl_idx1 sl23 rfl rfl rfl; assumption; omega; omega)); (try ((first | refine rl_loadV hM vt9 rfl rfl (by first | assumption | exact VRow.get (by assumption) rfl | exact VRow.get0 (by assumption) rfl) ?_ | refine rl_loadM 0 hM vt9 rfl rfl rfl (by first | rfl | assumption) ?_ | refine rl_loadM 1 hM vt9 rfl rfl rfl (by first | rfl | assumption) ?_ | refine rl_loadM 2 hM vt9 rfl rfl rfl (by first | rfl | assumption) ?_ | refine rl_loadM 3 hM vt9 rfl rfl rfl (by first | rfl | assumption) ?_ | refine rl_loadM 4 hM vt9 rfl rfl rfl (by first | rfl | assumption) ?_ | refine rl_loadM 5 hM vt9 rfl rfl rfl (by first | rfl | assumption) ?_ | refine rl_loadM 6 hM vt9 rfl rfl rfl (by first | rfl | assumption) ?_ | refine rl_loadM 7 hM vt9 rfl rfl rfl (by first | rfl | assumption) ?_); (try (refine rl_assign (v := (Value.string _ : Value)) rfl rfl ?_)))))))))))
      exact bp_ret1 (v := St t) rfl rfl ⟨by simp [jn, tl], hM⟩
  · have hA := h3 (by omega)
    subst hA
    obtain ⟨t0, ts', rfl⟩ : ∃ t0 ts', ts = t0 :: ts' := by
      cases ts with
      | nil => simp at h2'
      | cons t0 ts' => exact ⟨t0, ts', rfl⟩
    have hz : ((t0 :: ts').length : Int) = ts'.length + 1 := by simp
    have hz2 : (t0 :: ts').length = ts'.length + 1 := by simp
    have ht0 : V ⟨b, off + (0 : Int).toNat, none⟩ = some (St t0) := h4 0 t0 rfl
    have hq : 1000000 ≤ 9223372036854775807 / (((t0 :: ts').length : Int) - 1) := Int.le_ediv_of_mul_le (by omega) (by omega)
    have hone : (([32] : List UInt8).length : Int) = 1 := rfl
    have hmul : (([32] : List UInt8).length : Int) * (((t0 :: ts').length : Int) - 1) = ts'.length := by rw [hone]; omega
    have hsm := sm_le (t0 :: ts') hw
    (repeat (first | refine seq_ ?_ | refine sq_normal ?_ | refine rl_nil ?_ | refine cond_t rfl ?_ | refine cond_f rfl ?_ | refine skip_ ?_ | refine block_ ?_ | refine inBlock_normal ?_ | (refine region_ (id := 0) ?_; (try (refine rl_assign (v := (Value.string _ : Value)) rfl rfl ?_))) | (refine region_ (id := 1) ?_; (try (refine rl_move (v := (Value.slice _ _ _ : Value)) rfl rfl ?_; (try (refine rl_len sl23 rfl rfl ?_))))) | (refine region_ (id := 2) ?_; (try ((first | (refine rl_eql_t rfl rfl rfl ?_ ?_; omega) | (refine rl_eql_f rfl rfl rfl ?_ ?_; omega)); (try (refine rl_assign (v := (Value.bool _ : Value)) rfl rfl ?_))))) | (refine region_ (id := 4) ?_; (try ((first | (refine rl_eql_t rfl rfl rfl ?_ ?_; omega) | (refine rl_eql_f rfl rfl rfl ?_ ?_; omega)); (try (refine rl_assign (v := (Value.bool _ : Value)) rfl rfl ?_))))) | (refine region_ (id := 6) ?_; (try (refine rl_assign (v := (Value.int _ _ : Value)) rfl rfl ?_))) | (refine region_ (id := 7) ?_; (try (refine rl_move (v := (Value.string _ : Value)) rfl rfl ?_; (try (refine rl_slen us9 rfl rfl ?_; (try ((first | (refine rl_gtr_t rfl rfl rfl ?_ ?_; omega) | (refine rl_gtr_f rfl rfl rfl ?_ ?_; omega))))))))) | (refine region_ (id := 8) ?_; (try (refine rl_move (v := (Value.string _ : Value)) rfl rfl ?_; (try (refine rl_slen us9 rfl rfl ?_; (try (refine rl_move (v := (Value.slice _ _ _ : Value)) rfl rfl ?_; (try (refine rl_len sl23 rfl rfl ?_; (try ((refine rl_sub rfl rfl rfl ?_ ?_ ?_; omega; omega); (try ((refine rl_quo rfl rfl rfl ?_ ?_ ?_ ?_; omega; omega; omega); (try ((first | (refine rl_geq_t rfl rfl rfl ?_ ?_; omega) | (refine rl_geq_f rfl rfl rfl ?_ ?_; omega))))))))))))))))) | (refine region_ (id := 10) ?_; (try (refine rl_move (v := (Value.int _ _ : Value)) rfl rfl ?_; (try (refine rl_move (v := (Value.string _ : Value)) rfl rfl ?_; (try (refine rl_slen us9 rfl rfl ?_; (try (refine rl_move (v := (Value.slice _ _ _ : Value)) rfl rfl ?_; (try (refine rl_len sl23 rfl rfl ?_; (try ((refine rl_sub rfl rfl rfl ?_ ?_ ?_; omega; omega); (try ((refine rl_mul rfl rfl rfl ?_ ?_ ?_; omega; omega); (try ((refine rl_add rfl rfl rfl ?_ ?_ ?_; omega; omega); (try (refine rl_assign (v := (Value.int _ _ : Value)) rfl rfl ?_))))))))))))))))))) | (refine region_ (id := 11) ?_; (try (refine rl_move (v := (Value.slice _ _ _ : Value)) rfl rfl ?_; (try (refine rl_len sl23 rfl rfl ?_; (try (refine rl_move (v := (Value.int _ _ : Value)) rfl rfl ?_)))))))))
    refine loop2 [(5, 6), (7, 8), (41, 56)] 5 41 (fun m v5 v41 wr => ∃ p : Nat, v5 = .int .i64 ((ts'.length : Int) + sm ((t0 :: ts').take p)) ∧ v41 = .int .i64 p ∧ p ≤ (t0 :: ts').length ∧ m = (t0 :: ts').length - p ∧ sm ((t0 :: ts').take p) ≤ p * 1000 ∧ Mem w0 wr L V) _
      ⟨0, by show Value.int .i64 (0 + (([32] : List UInt8).length : Int) * (((t0 :: ts').length : Int) - 1)) = _; rw [hmul]; simp [sm], rfl, by omega, rfl, by simp [sm], hM⟩ ?_
    clear hM
    rintro m τ v5 v41 w ⟨p, rfl, rfl, hp, rfl, hps, hM⟩ K0 hL0
    by_cases hlt : p < (t0 :: ts').length
    · obtain ⟨t, ht⟩ : ∃ t, (t0 :: ts')[p]? = some t := ⟨_, List.getElem?_eq_getElem hlt⟩
      have htv := h4 p t ht
      have htl := hw t (List.mem_of_getElem? ht)
      (repeat (first | refine seq_ ?_ | refine sq_normal ?_ | refine rl_nil ?_ | refine cond_t rfl ?_ | refine cond_f rfl ?_ | refine skip_ ?_ | refine block_ ?_ | refine inBlock_normal ?_ | (refine region_ (id := 12) ?_; (try ((first | (refine rl_lss_t rfl rfl rfl ?_ ?_; omega) | (refine rl_lss_f rfl rfl rfl ?_ ?_; omega))))) | (refine region_ (id := 13) ?_; (try ((first | (refine rl_idx1 sl23 rfl rfl rfl rfl ?_ ?_ ?_; omega; omega) | (apply rl_idx1 sl23 rfl rfl rfl; assumption; omega; omega)); (try ((first | refine rl_loadV hM vt9 rfl rfl (by first | assumption | exact VRow.get (by assumption) rfl | exact VRow.get0 (by assumption) rfl) ?_ | refine rl_loadM 0 hM vt9 rfl rfl rfl (by first | rfl | assumption) ?_ | refine rl_loadM 1 hM vt9 rfl rfl rfl (by first | rfl | assumption) ?_ | refine rl_loadM 2 hM vt9 rfl rfl rfl (by first | rfl | assumption) ?_ | refine rl_loadM 3 hM vt9 rfl rfl rfl (by first | rfl | assumption) ?_ | refine rl_loadM 4 hM vt9 rfl rfl rfl (by first | rfl | assumption) ?_ | refine rl_loadM 5 hM vt9 rfl rfl rfl (by first | rfl | assumption) ?_ | refine rl_loadM 6 hM vt9 rfl rfl rfl (by first | rfl | assumption) ?_ | refine rl_loadM 7 hM vt9 rfl rfl rfl (by first | rfl | assumption) ?_); (try (refine rl_assign (v := (Value.string _ : Value)) rfl rfl ?_))))))) | (refine region_ (id := 14) ?_; (try (refine rl_move (v := (Value.string _ : Value)) rfl rfl ?_; (try (refine rl_slen us9 rfl rfl ?_; (try (refine rl_move (v := (Value.int _ _ : Value)) rfl rfl ?_; (try ((refine rl_sub rfl rfl rfl ?_ ?_ ?_; omega; omega); (try ((first | (refine rl_gtr_t rfl rfl rfl ?_ ?_; omega) | (refine rl_gtr_f rfl rfl rfl ?_ ?_; omega))))))))))))) | (refine region_ (id := 16) ?_; (try (refine rl_move (v := (Value.int _ _ : Value)) rfl rfl ?_; (try (refine rl_move (v := (Value.string _ : Value)) rfl rfl ?_; (try (refine rl_slen us9 rfl rfl ?_; (try ((refine rl_add rfl rfl rfl ?_ ?_ ?_; omega; omega); (try (refine rl_assign (v := (Value.int _ _ : Value)) rfl rfl ?_))))))))))) | (refine region_ (id := 17) ?_; (try ((refine rl_add rfl rfl rfl ?_ ?_ ?_; omega; omega); (try (refine rl_move (v := (Value.int _ _ : Value)) rfl rfl ?_)))))))
      exact kq_normal (hL0 ((t0 :: ts').length - (p + 1)) _ _ (by omega) (by (repeat (first | with_reducible exact Agree.ov | with_reducible exact Agree.refl _ _ | refine Agree.upd rfl ?_ | refine Agree.ovs rfl ?_))) ⟨p + 1, by rw [sm_snoc _ _ _ ht, Int.natCast_add, ← Int.add_assoc]; rfl, rfl, by omega, rfl, by rw [sm_snoc _ _ _ ht]; omega, hM⟩)
    · have hpe : p = (t0 :: ts').length := by omega
      subst hpe
      rw [List.take_length] at hps ⊢
      obtain ⟨n, hn⟩ : ∃ n : Nat, (n : Int) = (ts'.length : Int) + sm (t0 :: ts') := ⟨ts'.length + sm (t0 :: ts'), by simp⟩
      rw [← hn]
      (repeat (first | refine seq_ ?_ | refine sq_normal ?_ | refine sq_exit ?_ | refine rl_nil ?_ | refine cond_f rfl ?_ | refine exit_ ?_ | refine inBlock_exit ?_ | refine kq_exit ?_ | (refine region_ (id := 12) ?_; (try ((first | (refine rl_lss_t rfl rfl rfl ?_ ?_; omega) | (refine rl_lss_f rfl rfl rfl ?_ ?_; omega))))) | (refine region_ (id := 18) ?_; (try ((refine rl_allocAM (d := 8) hM ag71 rfl ?_; clear hM; intro w b8 hM)))) | (refine region_ (id := 19) ?_; (try (refine rl_move (v := (Value.int _ _ : Value)) rfl rfl ?_)))))
      refine rl_callf fn51 (grow_ok w0 w _ V b8 (.pointer none) n hM (.inl rfl) (by omega) (by omega)) rfl rfl ?_
      clear hM
      rintro _ w ⟨rfl, v1, hM⟩
      have htl0 := hw t0 (by simp)
      (repeat (first | refine seq_ ?_ | refine sq_normal ?_ | refine rl_nil ?_ | (refine region_ (id := 20) ?_; (try (refine rl_move (v := (Value.slice _ _ _ : Value)) rfl rfl ?_; (try ((first | (refine rl_idx1 sl23 rfl rfl rfl rfl ?_ ?_ ?_; omega; omega) | (apply rl_idx1 sl23 rfl rfl rfl; assumption; omega; omega)); (try ((first | refine rl_loadV hM vt9 rfl rfl (by first | assumption | exact VRow.get (by assumption) rfl | exact VRow.get0 (by assumption) rfl) ?_ | refine rl_loadM 0 hM vt9 rfl rfl rfl (by first | rfl | assumption) ?_ | refine rl_loadM 1 hM vt9 rfl rfl rfl (by first | rfl | assumption) ?_ | refine rl_loadM 2 hM vt9 rfl rfl rfl (by first | rfl | assumption) ?_ | refine rl_loadM 3 hM vt9 rfl rfl rfl (by first | rfl | assumption) ?_ | refine rl_loadM 4 hM vt9 rfl rfl rfl (by first | rfl | assumption) ?_ | refine rl_loadM 5 hM vt9 rfl rfl rfl (by first | rfl | assumption) ?_ | refine rl_loadM 6 hM vt9 rfl rfl rfl (by first | rfl | assumption) ?_ | refine rl_loadM 7 hM vt9 rfl rfl rfl (by first | rfl | assumption) ?_))))))))))
      refine rl_callf fn52 (write_ok w0 w _ V b8 _ v1 [] t0 hM (.inr rfl) (by simp; omega)) rfl rfl ?_
      clear hM
      rintro _ w ⟨v2, hM⟩
      rw [List.nil_append] at hM
      (repeat (first | refine seq_ ?_ | refine sq_normal ?_ | refine rl_nil ?_ | (refine region_ (id := 21) ?_; (try (refine rl_move (v := (Value.slice _ _ _ : Value)) rfl rfl ?_)))))
      refine rl_slice_l (b := b) (off := off) sl23 rfl rfl rfl (fun _ => rfl) (by omega) (by omega) (by omega) ?_
      intro a' ha'
      have hn1 : (t0 :: ts').length - (1 : Int).toNat = ts'.length := by simp
      rw [hn1]
      rw [hz2] at ha'
      (repeat (first | refine sq_normal ?_ | refine rl_nil ?_ | refine block_ ?_ | refine rl_len sl23 rfl rfl ?_ | refine rl_move (v := (Value.int _ _ : Value)) rfl rfl ?_))
      refine loop1 [(10, 11), (65, 74)] 65 (fun m v65 wr => ∃ (p : Nat) (v' : Value), v65 = .int .i64 p ∧ p ≤ ts'.length ∧ m = ts'.length - p ∧ (t0 ++ tl (ts'.take p)).length ≤ 1000 + p * 1001 ∧ Mem w0 wr (bld b8 (.pointer (some ⟨b8, 0, none⟩)) v' (t0 ++ tl (ts'.take p)) L) V) _
        ⟨0, v2, rfl, by omega, rfl, by simp [tl]; exact htl0, by simpa [tl] using hM⟩ ?_
      clear hM
      rintro m τ2 v65 w ⟨p, v', rfl, hp2, rfl, hbl, hM⟩ K2 hL2
      by_cases hlt2 : p < ts'.length
      · obtain ⟨t, ht⟩ : ∃ t, ts'[p]? = some t := ⟨_, List.getElem?_eq_getElem hlt2⟩
        have htv := h4 (p + 1) t (by simpa using ht)
        have htl := hw t (by simp [List.mem_of_getElem? ht])
        have hA' := ha' (by omega)
        subst hA'
        have htv : V ⟨b, off + (1 : Int).toNat * 1 + (p : Int).toNat, none⟩ = some (St t) := by
          rw [← htv]; congr 2; have : (1 : Int).toNat = 1 := rfl; omega
        (repeat (first | refine seq_ ?_ | refine sq_normal ?_ | refine rl_nil ?_ | refine cond_t rfl ?_ | refine skip_ ?_ | refine block_ ?_ | (refine region_ (id := 22) ?_; (try ((first | (refine rl_lss_t rfl rfl rfl ?_ ?_; omega) | (refine rl_lss_f rfl rfl rfl ?_ ?_; omega))))) | (refine region_ (id := 23) ?_; (try ((first | (refine rl_idx1 sl23 rfl rfl rfl rfl ?_ ?_ ?_; omega; omega) | (apply rl_idx1 sl23 rfl rfl rfl; assumption; omega; omega)); (try ((first | refine rl_loadV hM vt9 rfl rfl (by first | assumption | exact VRow.get (by assumption) rfl | exact VRow.get0 (by assumption) rfl) ?_ | refine rl_loadM 0 hM vt9 rfl rfl rfl (by first | rfl | assumption) ?_ | refine rl_loadM 1 hM vt9 rfl rfl rfl (by first | rfl | assumption) ?_ | refine rl_loadM 2 hM vt9 rfl rfl rfl (by first | rfl | assumption) ?_ | refine rl_loadM 3 hM vt9 rfl rfl rfl (by first | rfl | assumption) ?_ | refine rl_loadM 4 hM vt9 rfl rfl rfl (by first | rfl | assumption) ?_ | refine rl_loadM 5 hM vt9 rfl rfl rfl (by first | rfl | assumption) ?_ | refine rl_loadM 6 hM vt9 rfl rfl rfl (by first | rfl | assumption) ?_ | refine rl_loadM 7 hM vt9 rfl rfl rfl (by first | rfl | assumption) ?_); (try (refine rl_assign (v := (Value.string _ : Value)) rfl rfl ?_))))))) | (refine region_ (id := 24) ?_; (try (refine rl_move (v := (Value.string _ : Value)) rfl rfl ?_)))))
        refine rl_callf fn52 (write_ok w0 w _ V b8 _ v' _ [32] hM (.inr rfl) (by simp only [List.length_append, List.length_cons, List.length_nil] at hbl ⊢; omega)) rfl rfl ?_
        clear hM
        rintro _ w ⟨v3, hM⟩
        (repeat (first | refine sq_normal ?_ | refine rl_nil ?_ | (refine region_ (id := 25) ?_; (try (refine rl_move (v := (Value.string _ : Value)) rfl rfl ?_)))))
        refine rl_callf fn52 (write_ok w0 w _ V b8 _ v3 _ t hM (.inr rfl) (by simp only [List.length_append, List.length_cons, List.length_nil] at hbl ⊢; omega)) rfl rfl ?_
        clear hM
        rintro _ w ⟨v4, hM⟩
        (repeat (first | refine sq_normal ?_ | refine rl_nil ?_ | refine inBlock_normal ?_ | (refine region_ (id := 26) ?_; (try ((refine rl_add rfl rfl rfl ?_ ?_ ?_; omega; omega); (try (refine rl_move (v := (Value.int _ _ : Value)) rfl rfl ?_)))))))
        have e : t0 ++ tl (ts'.take (p + 1)) = t0 ++ tl (ts'.take p) ++ [32] ++ t := by rw [tl_snoc _ _ _ ht]; simp
        exact kq_normal (hL2 (ts'.length - (p + 1)) _ _ (by omega) (by (repeat (first | with_reducible exact Agree.ov | with_reducible exact Agree.refl _ _ | refine Agree.upd rfl ?_ | refine Agree.ovs rfl ?_))) ⟨p + 1, v4, rfl, by omega, rfl, by rw [e]; simp only [List.length_append, List.length_cons, List.length_nil] at hbl ⊢; omega, by rw [e]; exact hM⟩)
      · have hpe : p = ts'.length := by omega
        subst hpe
        rw [List.take_length] at hbl hM
        (repeat (first | refine seq_ ?_ | refine sq_normal ?_ | refine sq_exit ?_ | refine rl_nil ?_ | refine cond_f rfl ?_ | refine exit_ ?_ | refine inBlock_exit ?_ | refine kq_exit ?_ | (refine region_ (id := 22) ?_; (try ((first | (refine rl_lss_t rfl rfl rfl ?_ ?_; omega) | (refine rl_lss_f rfl rfl rfl ?_ ?_; omega))))) | (refine region_ (id := 27) ?_)))
        have hne : t0 ++ tl ts' ≠ [] := by
          intro h
          have := congrArg List.length h
          rw [List.length_append, tl_len] at this
          simp only [List.length_nil] at this
          omega
        refine rl_callf fn53 (string_ok w0 w L V b8 _ v' _ hM (by omega) hne) rfl rfl ?_
        clear hM
        rintro _ w ⟨rfl, hM⟩
        (repeat (first | refine sq_normal ?_ | refine rl_nil ?_ | refine ret_ ?_ | refine rl_assign (v := (Value.string _ : Value)) rfl rfl ?_))
        exact bp_ret1 (v := St _) rfl rfl ⟨rfl, hM⟩
end Go.Proofs.Ytlalagkkmoifpaa.Lex
