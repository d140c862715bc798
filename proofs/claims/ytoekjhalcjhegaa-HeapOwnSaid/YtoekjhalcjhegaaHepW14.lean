/- The walks of fuguelaw27.built, fugueref27.Copy, where, Follow. -/
import Derived.Test.YtoekjhalcjhegaaHepW13
import Derived.Test.YtoekjhalcjhegaaHepW12
set_option linter.unusedVariables false
set_option linter.unusedSimpArgs false
namespace Go.Hp
open Go.Eng
noncomputable def stepN (l : List Nd) (x : Ac) : List Nd := if x.doo = 0 then (alloc 40 l (cutN x.node)).1 else if x.doo = 1 then (setN l x.at_ (cutN x.node)).1 else l
noncomputable def builtN (xs : List Ac) : List Nd := (xs.take 60).foldl stepN []
theorem alloc_ok1 {most : Int} {l : List Nd} {a : Nd} (h : Ok l) : Ok (alloc most l a).1 := by
  unfold alloc
  cases hr : right l.length a with
  | false => rw [if_pos rfl]; exact h
  | true =>
    rw [if_neg (by decide)]
    split
    · exact h
    · exact h.snoc hr
theorem setN_ok {l : List Nd} {p : Int} {a : Nd} (h : Ok l) : Ok (setN l p a).1 := by
  unfold setN
  split
  · exact h
  · rename_i h1
    split
    · exact h
    · rename_i h2
      have h3 : inB l.length p = true := by cases hb : inB l.length p <;> simp_all
      have h4 : right l.length a = true := by cases hb : right l.length a <;> simp_all
      have := inB_iff.1 h3
      exact h.set this.1 this.2 h4 h2
theorem setN_len {l : List Nd} {p : Int} {a : Nd} : (setN l p a).1.length = l.length := by
  unfold setN
  split
  · rfl
  · split
    · rfl
    · simp
theorem alloc_len {l : List Nd} {a : Nd} {m : Nat} (h : l.length ≤ m) : (alloc m l a).1.length ≤ m := by
  unfold alloc
  split
  · exact h
  · split
    · exact h
    · simp; omega
theorem stepN_ok {l : List Nd} (x : Ac) (h : Ok l) : Ok (stepN l x) := by
  unfold stepN
  split
  · exact alloc_ok1 h
  · split
    · exact setN_ok h
    · exact h
theorem stepN_len {l : List Nd} (x : Ac) (h : l.length ≤ 40) : (stepN l x).length ≤ 40 := by
  unfold stepN
  split
  · exact alloc_len h
  · split
    · rw [setN_len]; exact h
    · exact h
theorem fold_ok : ∀ (xs : List Ac) {l : List Nd}, Ok l → l.length ≤ 40 → Ok (xs.foldl stepN l) ∧ (xs.foldl stepN l).length ≤ 40
  | [], _, h, hl => ⟨h, hl⟩
  | x :: xs, _, h, hl => fold_ok xs (stepN_ok x h) (stepN_len x hl)
theorem builtN_ok (xs : List Ac) : Ok (builtN xs) := (fold_ok _ Ok.nil (Nat.zero_le _)).1
theorem builtN_len (xs : List Ac) : (builtN xs).length ≤ 40 := (fold_ok _ Ok.nil (Nat.zero_le _)).2
theorem Ok.short {l : List Nd} (h : Ok l) : ∀ a ∈ l, a.kids.length ≤ 1000 := fun a ha => by have := right_short (h.right a ha); omega
end Go.Hp
namespace Go.Proofs.Ytoekjhalcjhegaa.Hep
open Go Go.Eng Go.RowKit Go.Hp
attribute [local irreducible] RL RX KQ SQ Exit.inBlock Exit.then BP NP CallsOk IsSl IsRows IsInts IsBools Own Blk Code.wp Calls wpList
set_option maxHeartbeats 1000000 in
theorem built_ok (w0 w : World) (L : List Ent) (V : Vw) (v : Value) (xs : List Ac) (hM : Mem w0 w L V) (hx : IsActs V v xs) :
    CallsOk Try.prog 28 #[v] w fun r w' => ∃ V' h, VLe V V' ∧ r = .tuple #[.pointer (some ⟨h, 0, none⟩), .bool true] ∧ HP 67 31 w0 w' V' h 40 (builtN xs) L := by
  obtain ⟨a, c, b, off, rfl, hc1, hc2, ha, hx⟩ := hx
  have hml := maxLen_le
  refine enter_ (N := 50) Try.func28 rfl rfl rfl ?_
  (repeat (first | refine seq_ ?_ | refine sq_normal ?_ | refine rl_nil ?_ | (refine region_ (id := 0) ?_; (try (refine rl_assign (v := (Value.pointer _ : Value)) rfl rfl ?_; (try (refine rl_assign (v := (Value.bool _ : Value)) rfl rfl ?_))))) | (refine region_ (id := 1) ?_)))
  refine rl_callf fn12 (new_ok w0 w _ V 40 hM) rfl rfl ?_
  clear hM
  rintro _ w (⟨h1, _⟩ | ⟨_, h, rfl, hH⟩)
  · exact absurd h1 (by decide)
  (repeat (first | refine seq_ ?_ | refine sq_normal ?_ | refine rl_nil ?_ | refine cond_f rfl ?_ | refine skip_ ?_ | refine block_ ?_ | (refine region_ (id := 2) ?_; (try (refine rl_move (v := (Value.int _ _ : Value)) rfl rfl ?_; (try ((first | (refine rl_neq_t rfl rfl rfl ?_ ?_; omega) | (refine rl_neq_f rfl rfl rfl ?_ ?_; omega)); (try (refine rl_move (v := (Value.bool _ : Value)) rfl rfl ?_; (try ((first | refine rl_off rfl ?_ | refine rl_move (v := (Value.pointer _ : Value)) rfl rfl ?_); (try ((first | refine rl_off rfl ?_ | refine rl_peqnil up23 rfl rfl rfl ?_); (try (refine rl_pick (v := (Value.bool _ : Value)) rfl rfl rfl ?_))))))))))))) | (refine region_ (id := 4) ?_; (try (refine rl_assign (v := (Value.int _ _ : Value)) rfl rfl ?_))) | refine rl_assign (v := (Value.pointer _ : Value)) rfl rfl ?_ | refine rl_move (v := (Value.tuple _ : Value)) rfl rfl ?_ | refine rl_extract rfl rfl rfl ?_ | refine rl_assign (v := (Value.int _ _ : Value)) rfl rfl ?_))
  refine loop1 [(6, 8), (18, 49)] 6 (fun m vi wr => ∃ (i : Nat) (V1 : Vw), vi = .int .i64 i ∧ i ≤ xs.length ∧ i ≤ 60 ∧ m = 60 - i ∧ VLe V V1 ∧ HP 67 31 w0 wr V1 h 40 ((xs.take i).foldl stepN []) L) _
    ⟨0, V, rfl, Nat.zero_le _, Nat.zero_le _, rfl, VLe.refl _, hH⟩ ?_
  clear hH
  rintro m τ vi w ⟨i, V1, rfl, hi, hi2, rfl, hV1, hH⟩ K0 hL0
  obtain ⟨l, hl⟩ : ∃ l, l = (xs.take i).foldl stepN [] := ⟨_, rfl⟩
  rw [← hl] at hH
  have hO : Ok l ∧ l.length ≤ 40 := by rw [hl]; exact fold_ok _ Ok.nil (Nat.zero_le _)
  by_cases hlt : i < xs.length
  · by_cases hlt2 : i < 60
    · obtain ⟨x, hxi⟩ : ∃ x, xs[i]? = some x := ⟨_, List.getElem?_eq_getElem hlt⟩
      have hnx : (xs.take (i + 1)).foldl stepN [] = stepN l x := by rw [List.take_add_one, hxi, hl]; simp
      have ha' := ha (by omega)
      subst ha'
      obtain ⟨hw, kv, hrow, hkv⟩ := hx i x hxi
      have hrow' : VRow V1 b (off + (i : Int).toNat * 6) (acCells x kv) := hrow.le hV1
      obtain ⟨_, _, _, _, rfl, _⟩ := id hkv.open
      obtain ⟨hv, hcs0, hM, hcs⟩ := hH
      (repeat (first | refine seq_ ?_ | refine sq_normal ?_ | refine rl_nil ?_ | refine cond_t rfl ?_ | refine skip_ ?_ | refine block_ ?_ | (refine region_ (id := 5) ?_; (try (refine rl_move (v := (Value.int _ _ : Value)) rfl rfl ?_; (try (refine rl_move (v := (Value.slice _ _ _ : Value)) rfl rfl ?_; (try (refine rl_len sl38 rfl rfl ?_; (try ((first | (refine rl_lss_t rfl rfl rfl ?_ ?_; omega) | (refine rl_lss_f rfl rfl rfl ?_ ?_; omega)); (try (refine rl_move (v := (Value.bool _ : Value)) rfl rfl ?_; (try ((first | refine rl_off rfl ?_ | refine rl_move (v := (Value.int _ _ : Value)) rfl rfl ?_); (try ((first | refine rl_off rfl ?_ | (refine rl_lss_t rfl rfl rfl ?_ ?_; omega) | (refine rl_lss_f rfl rfl rfl ?_ ?_; omega)); (try (refine rl_pick (v := (Value.bool _ : Value)) rfl rfl rfl ?_))))))))))))))))) | (refine region_ (id := 7) ?_; (try (refine rl_move (v := (Value.slice _ _ _ : Value)) rfl rfl ?_; (try (refine rl_move (v := (Value.int _ _ : Value)) rfl rfl ?_; (try ((first | (refine rl_idx sl38 rfl rfl rfl rfl ?_ ?_ ?_; omega; omega) | (apply rl_idx sl38 rfl rfl rfl; assumption; omega; omega)); (try ((first | refine rl_loadAV hM ag44 rfl rfl (by assumption) (by rfl) ?_ | refine rl_loadAM (vs := [_, _, _, _, _, _]) 0 hM ag44 rfl rfl rfl rfl rfl ?_ | refine rl_loadAM (vs := [_, _, _, _, _, _]) 1 hM ag44 rfl rfl rfl rfl rfl ?_ | refine rl_loadAM (vs := [_, _, _, _, _, _]) 2 hM ag44 rfl rfl rfl rfl rfl ?_ | refine rl_loadAM (vs := [_, _, _, _, _, _]) 3 hM ag44 rfl rfl rfl rfl rfl ?_ | refine rl_loadAM (vs := [_, _, _, _, _, _]) 4 hM ag44 rfl rfl rfl rfl rfl ?_ | refine rl_loadAM (vs := [_, _, _, _, _, _]) 5 hM ag44 rfl rfl rfl rfl rfl ?_ | refine rl_loadAM (vs := [_, _, _, _, _, _]) 6 hM ag44 rfl rfl rfl rfl rfl ?_ | refine rl_loadAM (vs := [_, _, _, _, _, _]) 7 hM ag44 rfl rfl rfl rfl rfl ?_ | refine rl_loadAO (vs := [_, _, _, _, _, _]) 0 hM ag44 rfl rfl rfl (by assumption) rfl ?_ | refine rl_loadAO (vs := [_, _, _, _, _, _]) 1 hM ag44 rfl rfl rfl (by assumption) rfl ?_ | refine rl_loadAO (vs := [_, _, _, _, _, _]) 2 hM ag44 rfl rfl rfl (by assumption) rfl ?_ | refine rl_loadAO (vs := [_, _, _, _, _, _]) 3 hM ag44 rfl rfl rfl (by assumption) rfl ?_ | refine rl_loadAO (vs := [_, _, _, _, _, _]) 4 hM ag44 rfl rfl rfl (by assumption) rfl ?_ | refine rl_loadAO (vs := [_, _, _, _, _, _]) 5 hM ag44 rfl rfl rfl (by assumption) rfl ?_ | refine rl_loadAO (vs := [_, _, _, _, _, _]) 6 hM ag44 rfl rfl rfl (by assumption) rfl ?_ | refine rl_loadAO (vs := [_, _, _, _, _, _]) 7 hM ag44 rfl rfl rfl (by assumption) rfl ?_))))))))))))
      refine rl_callf fn18 (cut_ok w0 w _ V1 x _ hM (hkv.le hV1) (by have := hw.name; omega)) rfl rfl ?_
      clear hM
      rintro _ w ⟨V2, kv2, hV2, hM, rfl, hkv2⟩
      obtain ⟨k2a, k2c, _, _, rfl, _⟩ := id hkv2.open
      (repeat (first | refine seq_ ?_ | refine sq_normal ?_ | refine rl_nil ?_ | (refine region_ (id := 8) ?_; (try (refine rl_fld fd44_0 rfl rfl ?_; (try ((first | refine rl_loadV hM vt3 rfl rfl (by first | assumption | exact VRow.get (by assumption) rfl | exact VRow.get0 (by assumption) rfl) ?_ | refine rl_loadM 0 hM vt3 rfl rfl rfl (by first | rfl | assumption) ?_ | refine rl_loadM 1 hM vt3 rfl rfl rfl (by first | rfl | assumption) ?_ | refine rl_loadM 2 hM vt3 rfl rfl rfl (by first | rfl | assumption) ?_ | refine rl_loadM 3 hM vt3 rfl rfl rfl (by first | rfl | assumption) ?_ | refine rl_loadM 4 hM vt3 rfl rfl rfl (by first | rfl | assumption) ?_ | refine rl_loadM 5 hM vt3 rfl rfl rfl (by first | rfl | assumption) ?_ | refine rl_loadM 6 hM vt3 rfl rfl rfl (by first | rfl | assumption) ?_ | refine rl_loadM 7 hM vt3 rfl rfl rfl (by first | rfl | assumption) ?_ | refine rl_loadO 0 hM vt3 rfl rfl rfl (by first | assumption | exact ORow.get (by assumption) rfl | exact ORow.get0 (by assumption) rfl) ?_ | refine rl_loadO 1 hM vt3 rfl rfl rfl (by first | assumption | exact ORow.get (by assumption) rfl | exact ORow.get0 (by assumption) rfl) ?_ | refine rl_loadO 2 hM vt3 rfl rfl rfl (by first | assumption | exact ORow.get (by assumption) rfl | exact ORow.get0 (by assumption) rfl) ?_ | refine rl_loadO 3 hM vt3 rfl rfl rfl (by first | assumption | exact ORow.get (by assumption) rfl | exact ORow.get0 (by assumption) rfl) ?_ | refine rl_loadO 4 hM vt3 rfl rfl rfl (by first | assumption | exact ORow.get (by assumption) rfl | exact ORow.get0 (by assumption) rfl) ?_ | refine rl_loadO 5 hM vt3 rfl rfl rfl (by first | assumption | exact ORow.get (by assumption) rfl | exact ORow.get0 (by assumption) rfl) ?_ | refine rl_loadO 6 hM vt3 rfl rfl rfl (by first | assumption | exact ORow.get (by assumption) rfl | exact ORow.get0 (by assumption) rfl) ?_ | refine rl_loadO 7 hM vt3 rfl rfl rfl (by first | assumption | exact ORow.get (by assumption) rfl | exact ORow.get0 (by assumption) rfl) ?_); (try ((first | (refine rl_eql_t rfl rfl rfl ?_ ?_; omega) | (refine rl_eql_f rfl rfl rfl ?_ ?_; omega))))))))) | (refine rl_allocAM (d := 7) hM ag44 rfl ?_; clear hM; intro w b7 hM) | (first | (refine rl_storeWM 0 hM ag44 rfl rfl rfl rfl rfl rfl rfl ?_; clear hM; intro w hM) | (refine rl_storeWM 1 hM ag44 rfl rfl rfl rfl rfl rfl rfl ?_; clear hM; intro w hM) | (refine rl_storeWM 2 hM ag44 rfl rfl rfl rfl rfl rfl rfl ?_; clear hM; intro w hM) | (refine rl_storeWM 3 hM ag44 rfl rfl rfl rfl rfl rfl rfl ?_; clear hM; intro w hM) | (refine rl_storeWM 4 hM ag44 rfl rfl rfl rfl rfl rfl rfl ?_; clear hM; intro w hM) | (refine rl_storeWM 5 hM ag44 rfl rfl rfl rfl rfl rfl rfl ?_; clear hM; intro w hM) | (refine rl_storeWM 6 hM ag44 rfl rfl rfl rfl rfl rfl rfl ?_; clear hM; intro w hM) | (refine rl_storeWM 7 hM ag44 rfl rfl rfl rfl rfl rfl rfl ?_; clear hM; intro w hM))))
      obtain ⟨n2, hn2⟩ : ∃ n2, n2 = (cutA x).node.kids.length := ⟨_, rfl⟩
      rw [← hn2] at hkv2 hM
      replace hM : Mem w0 w (hp 67 31 h hv 40 l hcs0 (.blk b7 [.int .i64 x.doo, .int .i64 x.at_, .int .i64 x.node.form, .int .i64 x.node.n, St (x.node.name.take 12), .slice k2a n2 k2c] 44 :: L)) V2 := (hM.front 2 rfl).front 2 rfl
      replace hcs := hcs.le hV2
      by_cases hd0 : x.doo = 0
      · have hd0' : (cutA x).doo = 0 := hd0
        have hs : stepN l x = (alloc 40 l (cutN x.node)).1 := by unfold stepN; rw [if_pos hd0]
        (repeat (first | refine sq_normal ?_ | refine rl_nil ?_ | refine cond_t rfl ?_ | (refine region_ (id := 9) ?_; (try (refine rl_move (v := (Value.pointer _ : Value)) rfl rfl ?_; (try (refine rl_fld fd44_2 rfl rfl ?_; (try ((first | refine rl_loadAV hM ag31 rfl rfl (by assumption) (by rfl) ?_ | refine rl_loadAM (vs := [_, _, _, _]) 0 hM ag31 rfl rfl rfl rfl rfl ?_ | refine rl_loadAM (vs := [_, _, _, _]) 1 hM ag31 rfl rfl rfl rfl rfl ?_ | refine rl_loadAM (vs := [_, _, _, _]) 2 hM ag31 rfl rfl rfl rfl rfl ?_ | refine rl_loadAM (vs := [_, _, _, _]) 3 hM ag31 rfl rfl rfl rfl rfl ?_ | refine rl_loadAM (vs := [_, _, _, _]) 4 hM ag31 rfl rfl rfl rfl rfl ?_ | refine rl_loadAM (vs := [_, _, _, _]) 5 hM ag31 rfl rfl rfl rfl rfl ?_ | refine rl_loadAM (vs := [_, _, _, _]) 6 hM ag31 rfl rfl rfl rfl rfl ?_ | refine rl_loadAM (vs := [_, _, _, _]) 7 hM ag31 rfl rfl rfl rfl rfl ?_ | refine rl_loadAO (vs := [_, _, _, _]) 0 hM ag31 rfl rfl rfl (by assumption) rfl ?_ | refine rl_loadAO (vs := [_, _, _, _]) 1 hM ag31 rfl rfl rfl (by assumption) rfl ?_ | refine rl_loadAO (vs := [_, _, _, _]) 2 hM ag31 rfl rfl rfl (by assumption) rfl ?_ | refine rl_loadAO (vs := [_, _, _, _]) 3 hM ag31 rfl rfl rfl (by assumption) rfl ?_ | refine rl_loadAO (vs := [_, _, _, _]) 4 hM ag31 rfl rfl rfl (by assumption) rfl ?_ | refine rl_loadAO (vs := [_, _, _, _]) 5 hM ag31 rfl rfl rfl (by assumption) rfl ?_ | refine rl_loadAO (vs := [_, _, _, _]) 6 hM ag31 rfl rfl rfl (by assumption) rfl ?_ | refine rl_loadAO (vs := [_, _, _, _]) 7 hM ag31 rfl rfl rfl (by assumption) rfl ?_)))))))) | (first | (refine rl_eql_t rfl rfl rfl ?_ ?_; omega) | (refine rl_eql_f rfl rfl rfl ?_ ?_; omega))))
        refine rl_callf fn13 (alloc_ok w0 w _ V2 h 40 l (cutN x.node) _ ⟨hv, hcs0, hM, hcs⟩ hkv2 (by omega) (by decide)) rfl rfl ?_
        clear hM hcs
        rintro _ w ⟨V3, hV3, ⟨hv, hcs0, hM, hcs⟩, rfl⟩
        rw [← hs] at hM hcs
        (repeat (first | refine seq_ ?_ | refine sq_normal ?_ | refine rl_nil ?_ | refine cond_f rfl ?_ | refine skip_ ?_ | refine inBlock_normal ?_ | (refine region_ (id := 6) ?_; (try (refine rl_move (v := (Value.int _ _ : Value)) rfl rfl ?_; (try ((refine rl_add rfl rfl rfl ?_ ?_ ?_; omega; omega); (try (refine rl_assign (v := (Value.int _ _ : Value)) rfl rfl ?_))))))) | (refine region_ (id := 10) ?_; (try (refine rl_fld fd44_0 rfl rfl ?_; (try ((first | refine rl_loadV hM vt3 rfl rfl (by first | assumption | exact VRow.get (by assumption) rfl | exact VRow.get0 (by assumption) rfl) ?_ | refine rl_loadM 0 hM vt3 rfl rfl rfl (by first | rfl | assumption) ?_ | refine rl_loadM 1 hM vt3 rfl rfl rfl (by first | rfl | assumption) ?_ | refine rl_loadM 2 hM vt3 rfl rfl rfl (by first | rfl | assumption) ?_ | refine rl_loadM 3 hM vt3 rfl rfl rfl (by first | rfl | assumption) ?_ | refine rl_loadM 4 hM vt3 rfl rfl rfl (by first | rfl | assumption) ?_ | refine rl_loadM 5 hM vt3 rfl rfl rfl (by first | rfl | assumption) ?_ | refine rl_loadM 6 hM vt3 rfl rfl rfl (by first | rfl | assumption) ?_ | refine rl_loadM 7 hM vt3 rfl rfl rfl (by first | rfl | assumption) ?_ | refine rl_loadO 0 hM vt3 rfl rfl rfl (by first | assumption | exact ORow.get (by assumption) rfl | exact ORow.get0 (by assumption) rfl) ?_ | refine rl_loadO 1 hM vt3 rfl rfl rfl (by first | assumption | exact ORow.get (by assumption) rfl | exact ORow.get0 (by assumption) rfl) ?_ | refine rl_loadO 2 hM vt3 rfl rfl rfl (by first | assumption | exact ORow.get (by assumption) rfl | exact ORow.get0 (by assumption) rfl) ?_ | refine rl_loadO 3 hM vt3 rfl rfl rfl (by first | assumption | exact ORow.get (by assumption) rfl | exact ORow.get0 (by assumption) rfl) ?_ | refine rl_loadO 4 hM vt3 rfl rfl rfl (by first | assumption | exact ORow.get (by assumption) rfl | exact ORow.get0 (by assumption) rfl) ?_ | refine rl_loadO 5 hM vt3 rfl rfl rfl (by first | assumption | exact ORow.get (by assumption) rfl | exact ORow.get0 (by assumption) rfl) ?_ | refine rl_loadO 6 hM vt3 rfl rfl rfl (by first | assumption | exact ORow.get (by assumption) rfl | exact ORow.get0 (by assumption) rfl) ?_ | refine rl_loadO 7 hM vt3 rfl rfl rfl (by first | assumption | exact ORow.get (by assumption) rfl | exact ORow.get0 (by assumption) rfl) ?_); (try ((first | (refine rl_eql_t rfl rfl rfl ?_ ?_; omega) | (refine rl_eql_f rfl rfl rfl ?_ ?_; omega)))))))))))
        refine kq_normal (hL0 (60 - (i + 1)) _ _ (by omega) (by (repeat (first | with_reducible exact Agree.ov | with_reducible exact Agree.refl _ _ | refine Agree.upd rfl ?_ | refine Agree.ovs rfl ?_))) ⟨i + 1, V3, rfl, by omega, by omega, rfl, hV1.trans (hV2.trans hV3), ?_⟩)
        rw [hnx]
        exact ⟨hv, hcs0, hM.erase 2, hcs⟩
      · have hd0' : ¬ (cutA x).doo = 0 := hd0
        by_cases hd1 : x.doo = 1
        · have hs : stepN l x = (setN l x.at_ (cutN x.node)).1 := by unfold stepN; rw [if_neg hd0, if_pos hd1]
          (repeat (first | refine seq_ ?_ | refine sq_normal ?_ | refine rl_nil ?_ | refine cond_t rfl ?_ | refine cond_f rfl ?_ | refine skip_ ?_ | (refine region_ (id := 10) ?_; (try (refine rl_fld fd44_0 rfl rfl ?_; (try ((first | refine rl_loadV hM vt3 rfl rfl (by first | assumption | exact VRow.get (by assumption) rfl | exact VRow.get0 (by assumption) rfl) ?_ | refine rl_loadM 0 hM vt3 rfl rfl rfl (by first | rfl | assumption) ?_ | refine rl_loadM 1 hM vt3 rfl rfl rfl (by first | rfl | assumption) ?_ | refine rl_loadM 2 hM vt3 rfl rfl rfl (by first | rfl | assumption) ?_ | refine rl_loadM 3 hM vt3 rfl rfl rfl (by first | rfl | assumption) ?_ | refine rl_loadM 4 hM vt3 rfl rfl rfl (by first | rfl | assumption) ?_ | refine rl_loadM 5 hM vt3 rfl rfl rfl (by first | rfl | assumption) ?_ | refine rl_loadM 6 hM vt3 rfl rfl rfl (by first | rfl | assumption) ?_ | refine rl_loadM 7 hM vt3 rfl rfl rfl (by first | rfl | assumption) ?_ | refine rl_loadO 0 hM vt3 rfl rfl rfl (by first | assumption | exact ORow.get (by assumption) rfl | exact ORow.get0 (by assumption) rfl) ?_ | refine rl_loadO 1 hM vt3 rfl rfl rfl (by first | assumption | exact ORow.get (by assumption) rfl | exact ORow.get0 (by assumption) rfl) ?_ | refine rl_loadO 2 hM vt3 rfl rfl rfl (by first | assumption | exact ORow.get (by assumption) rfl | exact ORow.get0 (by assumption) rfl) ?_ | refine rl_loadO 3 hM vt3 rfl rfl rfl (by first | assumption | exact ORow.get (by assumption) rfl | exact ORow.get0 (by assumption) rfl) ?_ | refine rl_loadO 4 hM vt3 rfl rfl rfl (by first | assumption | exact ORow.get (by assumption) rfl | exact ORow.get0 (by assumption) rfl) ?_ | refine rl_loadO 5 hM vt3 rfl rfl rfl (by first | assumption | exact ORow.get (by assumption) rfl | exact ORow.get0 (by assumption) rfl) ?_ | refine rl_loadO 6 hM vt3 rfl rfl rfl (by first | assumption | exact ORow.get (by assumption) rfl | exact ORow.get0 (by assumption) rfl) ?_ | refine rl_loadO 7 hM vt3 rfl rfl rfl (by first | assumption | exact ORow.get (by assumption) rfl | exact ORow.get0 (by assumption) rfl) ?_); (try ((first | (refine rl_eql_t rfl rfl rfl ?_ ?_; omega) | (refine rl_eql_f rfl rfl rfl ?_ ?_; omega))))))))) | (refine region_ (id := 11) ?_; (try (refine rl_move (v := (Value.pointer _ : Value)) rfl rfl ?_; (try (refine rl_fld fd44_1 rfl rfl ?_; (try ((first | refine rl_loadV hM vt3 rfl rfl (by first | assumption | exact VRow.get (by assumption) rfl | exact VRow.get0 (by assumption) rfl) ?_ | refine rl_loadM 0 hM vt3 rfl rfl rfl (by first | rfl | assumption) ?_ | refine rl_loadM 1 hM vt3 rfl rfl rfl (by first | rfl | assumption) ?_ | refine rl_loadM 2 hM vt3 rfl rfl rfl (by first | rfl | assumption) ?_ | refine rl_loadM 3 hM vt3 rfl rfl rfl (by first | rfl | assumption) ?_ | refine rl_loadM 4 hM vt3 rfl rfl rfl (by first | rfl | assumption) ?_ | refine rl_loadM 5 hM vt3 rfl rfl rfl (by first | rfl | assumption) ?_ | refine rl_loadM 6 hM vt3 rfl rfl rfl (by first | rfl | assumption) ?_ | refine rl_loadM 7 hM vt3 rfl rfl rfl (by first | rfl | assumption) ?_ | refine rl_loadO 0 hM vt3 rfl rfl rfl (by first | assumption | exact ORow.get (by assumption) rfl | exact ORow.get0 (by assumption) rfl) ?_ | refine rl_loadO 1 hM vt3 rfl rfl rfl (by first | assumption | exact ORow.get (by assumption) rfl | exact ORow.get0 (by assumption) rfl) ?_ | refine rl_loadO 2 hM vt3 rfl rfl rfl (by first | assumption | exact ORow.get (by assumption) rfl | exact ORow.get0 (by assumption) rfl) ?_ | refine rl_loadO 3 hM vt3 rfl rfl rfl (by first | assumption | exact ORow.get (by assumption) rfl | exact ORow.get0 (by assumption) rfl) ?_ | refine rl_loadO 4 hM vt3 rfl rfl rfl (by first | assumption | exact ORow.get (by assumption) rfl | exact ORow.get0 (by assumption) rfl) ?_ | refine rl_loadO 5 hM vt3 rfl rfl rfl (by first | assumption | exact ORow.get (by assumption) rfl | exact ORow.get0 (by assumption) rfl) ?_ | refine rl_loadO 6 hM vt3 rfl rfl rfl (by first | assumption | exact ORow.get (by assumption) rfl | exact ORow.get0 (by assumption) rfl) ?_ | refine rl_loadO 7 hM vt3 rfl rfl rfl (by first | assumption | exact ORow.get (by assumption) rfl | exact ORow.get0 (by assumption) rfl) ?_); (try (refine rl_fld fd44_2 rfl rfl ?_; (try ((first | refine rl_loadAV hM ag31 rfl rfl (by assumption) (by rfl) ?_ | refine rl_loadAM (vs := [_, _, _, _]) 0 hM ag31 rfl rfl rfl rfl rfl ?_ | refine rl_loadAM (vs := [_, _, _, _]) 1 hM ag31 rfl rfl rfl rfl rfl ?_ | refine rl_loadAM (vs := [_, _, _, _]) 2 hM ag31 rfl rfl rfl rfl rfl ?_ | refine rl_loadAM (vs := [_, _, _, _]) 3 hM ag31 rfl rfl rfl rfl rfl ?_ | refine rl_loadAM (vs := [_, _, _, _]) 4 hM ag31 rfl rfl rfl rfl rfl ?_ | refine rl_loadAM (vs := [_, _, _, _]) 5 hM ag31 rfl rfl rfl rfl rfl ?_ | refine rl_loadAM (vs := [_, _, _, _]) 6 hM ag31 rfl rfl rfl rfl rfl ?_ | refine rl_loadAM (vs := [_, _, _, _]) 7 hM ag31 rfl rfl rfl rfl rfl ?_ | refine rl_loadAO (vs := [_, _, _, _]) 0 hM ag31 rfl rfl rfl (by assumption) rfl ?_ | refine rl_loadAO (vs := [_, _, _, _]) 1 hM ag31 rfl rfl rfl (by assumption) rfl ?_ | refine rl_loadAO (vs := [_, _, _, _]) 2 hM ag31 rfl rfl rfl (by assumption) rfl ?_ | refine rl_loadAO (vs := [_, _, _, _]) 3 hM ag31 rfl rfl rfl (by assumption) rfl ?_ | refine rl_loadAO (vs := [_, _, _, _]) 4 hM ag31 rfl rfl rfl (by assumption) rfl ?_ | refine rl_loadAO (vs := [_, _, _, _]) 5 hM ag31 rfl rfl rfl (by assumption) rfl ?_ | refine rl_loadAO (vs := [_, _, _, _]) 6 hM ag31 rfl rfl rfl (by assumption) rfl ?_ | refine rl_loadAO (vs := [_, _, _, _]) 7 hM ag31 rfl rfl rfl (by assumption) rfl ?_)))))))))))) | (first | (refine rl_eql_t rfl rfl rfl ?_ ?_; omega) | (refine rl_eql_f rfl rfl rfl ?_ ?_; omega))))
          refine rl_callf fn21 (set_ok w0 w _ V2 h 40 x.at_ l (cutN x.node) _ ⟨hv, hcs0, hM, hcs⟩ hO.1.ends hkv2) rfl rfl ?_
          clear hM hcs
          rintro _ w ⟨V3, hV3, ⟨hv, hcs0, hM, hcs⟩, rfl⟩
          rw [← hs] at hM hcs
          (repeat (first | refine sq_normal ?_ | refine rl_nil ?_ | refine inBlock_normal ?_ | (refine region_ (id := 6) ?_; (try (refine rl_move (v := (Value.int _ _ : Value)) rfl rfl ?_; (try ((refine rl_add rfl rfl rfl ?_ ?_ ?_; omega; omega); (try (refine rl_assign (v := (Value.int _ _ : Value)) rfl rfl ?_)))))))))
          refine kq_normal (hL0 (60 - (i + 1)) _ _ (by omega) (by (repeat (first | with_reducible exact Agree.ov | with_reducible exact Agree.refl _ _ | refine Agree.upd rfl ?_ | refine Agree.ovs rfl ?_))) ⟨i + 1, V3, rfl, by omega, by omega, rfl, hV1.trans (hV2.trans hV3), ?_⟩)
          rw [hnx]
          exact ⟨hv, hcs0, hM.erase 2, hcs⟩
        · have hs : stepN l x = l := by unfold stepN; rw [if_neg hd0, if_neg hd1]
          (repeat (first | refine seq_ ?_ | refine sq_normal ?_ | refine rl_nil ?_ | refine cond_f rfl ?_ | refine skip_ ?_ | refine inBlock_normal ?_ | (refine region_ (id := 6) ?_; (try (refine rl_move (v := (Value.int _ _ : Value)) rfl rfl ?_; (try ((refine rl_add rfl rfl rfl ?_ ?_ ?_; omega; omega); (try (refine rl_assign (v := (Value.int _ _ : Value)) rfl rfl ?_))))))) | (refine region_ (id := 10) ?_; (try (refine rl_fld fd44_0 rfl rfl ?_; (try ((first | refine rl_loadV hM vt3 rfl rfl (by first | assumption | exact VRow.get (by assumption) rfl | exact VRow.get0 (by assumption) rfl) ?_ | refine rl_loadM 0 hM vt3 rfl rfl rfl (by first | rfl | assumption) ?_ | refine rl_loadM 1 hM vt3 rfl rfl rfl (by first | rfl | assumption) ?_ | refine rl_loadM 2 hM vt3 rfl rfl rfl (by first | rfl | assumption) ?_ | refine rl_loadM 3 hM vt3 rfl rfl rfl (by first | rfl | assumption) ?_ | refine rl_loadM 4 hM vt3 rfl rfl rfl (by first | rfl | assumption) ?_ | refine rl_loadM 5 hM vt3 rfl rfl rfl (by first | rfl | assumption) ?_ | refine rl_loadM 6 hM vt3 rfl rfl rfl (by first | rfl | assumption) ?_ | refine rl_loadM 7 hM vt3 rfl rfl rfl (by first | rfl | assumption) ?_ | refine rl_loadO 0 hM vt3 rfl rfl rfl (by first | assumption | exact ORow.get (by assumption) rfl | exact ORow.get0 (by assumption) rfl) ?_ | refine rl_loadO 1 hM vt3 rfl rfl rfl (by first | assumption | exact ORow.get (by assumption) rfl | exact ORow.get0 (by assumption) rfl) ?_ | refine rl_loadO 2 hM vt3 rfl rfl rfl (by first | assumption | exact ORow.get (by assumption) rfl | exact ORow.get0 (by assumption) rfl) ?_ | refine rl_loadO 3 hM vt3 rfl rfl rfl (by first | assumption | exact ORow.get (by assumption) rfl | exact ORow.get0 (by assumption) rfl) ?_ | refine rl_loadO 4 hM vt3 rfl rfl rfl (by first | assumption | exact ORow.get (by assumption) rfl | exact ORow.get0 (by assumption) rfl) ?_ | refine rl_loadO 5 hM vt3 rfl rfl rfl (by first | assumption | exact ORow.get (by assumption) rfl | exact ORow.get0 (by assumption) rfl) ?_ | refine rl_loadO 6 hM vt3 rfl rfl rfl (by first | assumption | exact ORow.get (by assumption) rfl | exact ORow.get0 (by assumption) rfl) ?_ | refine rl_loadO 7 hM vt3 rfl rfl rfl (by first | assumption | exact ORow.get (by assumption) rfl | exact ORow.get0 (by assumption) rfl) ?_); (try ((first | (refine rl_eql_t rfl rfl rfl ?_ ?_; omega) | (refine rl_eql_f rfl rfl rfl ?_ ?_; omega))))))))) | (first | (refine rl_eql_t rfl rfl rfl ?_ ?_; omega) | (refine rl_eql_f rfl rfl rfl ?_ ?_; omega))))
          refine kq_normal (hL0 (60 - (i + 1)) _ _ (by omega) (by (repeat (first | with_reducible exact Agree.ov | with_reducible exact Agree.refl _ _ | refine Agree.upd rfl ?_ | refine Agree.ovs rfl ?_))) ⟨i + 1, V2, rfl, by omega, by omega, rfl, hV1.trans hV2, ?_⟩)
          rw [hnx, hs]
          exact ⟨hv, hcs0, hM.erase 2, hcs⟩
    · obtain rfl : i = 60 := by omega
      (repeat (first | refine seq_ ?_ | refine sq_normal ?_ | refine sq_exit ?_ | refine rl_nil ?_ | refine cond_f rfl ?_ | refine ret_ ?_ | refine exit_ ?_ | refine inBlock_exit ?_ | refine kq_exit ?_ | (refine region_ (id := 5) ?_; (try (refine rl_move (v := (Value.int _ _ : Value)) rfl rfl ?_; (try (refine rl_move (v := (Value.slice _ _ _ : Value)) rfl rfl ?_; (try (refine rl_len sl38 rfl rfl ?_; (try ((first | (refine rl_lss_t rfl rfl rfl ?_ ?_; omega) | (refine rl_lss_f rfl rfl rfl ?_ ?_; omega)); (try (refine rl_move (v := (Value.bool _ : Value)) rfl rfl ?_; (try ((first | refine rl_off rfl ?_ | refine rl_move (v := (Value.int _ _ : Value)) rfl rfl ?_); (try ((first | refine rl_off rfl ?_ | (refine rl_lss_t rfl rfl rfl ?_ ?_; omega) | (refine rl_lss_f rfl rfl rfl ?_ ?_; omega)); (try (refine rl_pick (v := (Value.bool _ : Value)) rfl rfl rfl ?_))))))))))))))))) | (refine region_ (id := 12) ?_; (try (refine rl_move (v := (Value.pointer _ : Value)) rfl rfl ?_; (try (refine rl_assign (v := (Value.pointer _ : Value)) rfl rfl ?_; (try (refine rl_assign (v := (Value.bool _ : Value)) rfl rfl ?_)))))))))
      refine bp_ret2 (v := Value.pointer _) (v' := Value.bool _) rfl rfl rfl ⟨V1, h, hV1, rfl, ?_⟩
      unfold builtN
      rw [← hl]; exact hH
  · obtain rfl : i = xs.length := by omega
    (repeat (first | refine seq_ ?_ | refine sq_normal ?_ | refine sq_exit ?_ | refine rl_nil ?_ | refine cond_f rfl ?_ | refine ret_ ?_ | refine exit_ ?_ | refine inBlock_exit ?_ | refine kq_exit ?_ | (refine region_ (id := 5) ?_; (try (refine rl_move (v := (Value.int _ _ : Value)) rfl rfl ?_; (try (refine rl_move (v := (Value.slice _ _ _ : Value)) rfl rfl ?_; (try (refine rl_len sl38 rfl rfl ?_; (try ((first | (refine rl_lss_t rfl rfl rfl ?_ ?_; omega) | (refine rl_lss_f rfl rfl rfl ?_ ?_; omega)); (try (refine rl_move (v := (Value.bool _ : Value)) rfl rfl ?_; (try ((first | refine rl_off rfl ?_ | refine rl_move (v := (Value.int _ _ : Value)) rfl rfl ?_); (try ((first | refine rl_off rfl ?_ | (refine rl_lss_t rfl rfl rfl ?_ ?_; omega) | (refine rl_lss_f rfl rfl rfl ?_ ?_; omega)); (try (refine rl_pick (v := (Value.bool _ : Value)) rfl rfl rfl ?_))))))))))))))))) | (refine region_ (id := 12) ?_; (try (refine rl_move (v := (Value.pointer _ : Value)) rfl rfl ?_; (try (refine rl_assign (v := (Value.pointer _ : Value)) rfl rfl ?_; (try (refine rl_assign (v := (Value.bool _ : Value)) rfl rfl ?_)))))))))
    refine bp_ret2 (v := Value.pointer _) (v' := Value.bool _) rfl rfl rfl ⟨V1, h, hV1, rfl, ?_⟩
    have e : builtN xs = l := by
      unfold builtN
      rw [hl, List.take_length, List.take_of_length_le (by omega)]
    rw [e]; exact hH
end Go.Proofs.Ytoekjhalcjhegaa.Hep
