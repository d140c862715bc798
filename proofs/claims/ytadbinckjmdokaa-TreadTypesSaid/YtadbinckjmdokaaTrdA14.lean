/- The walk of fugueref02.Texts. -/
import Derived.Test.YtadbinckjmdokaaTrdA11
set_option linter.unusedVariables false
set_option linter.unusedSimpArgs false
namespace Go.Proofs.Ytadbinckjmdokaa.Trd
open Go Go.Eng Go.RowKit Go.Lx
attribute [local irreducible] RL RX KQ SQ Exit.inBlock Exit.then BP NP CallsOk IsSl IsRows IsInts IsBools Own Blk Code.wp Calls wpList
def table : List (List UInt8) := [[102], [120], [120, 115], [97], [84], [67, 111, 110, 115], [78, 105, 108], [100, 97, 116, 97], [99, 108, 97, 115, 115], [105, 110, 115, 116, 97, 110, 99, 101], [108, 101, 116], [105, 110], [99, 97, 115, 101], [111, 102], [45, 62], [61, 62], [92], [61], [124], [40], [41], [123], [125], [59], [58], [44], [95], [48], [55], [50, 49, 52, 55, 52, 56, 51, 54, 52, 55], [120, 39], [97, 95, 98], [99, 97, 115, 69], [105, 110, 49]]
def word (n : Int) : List UInt8 := (table[(around n 34).toNat]?).getD []
def words (l : List Int) : List (List UInt8) := (l.take 30).map word
theorem texts_ok (v : Value) (xs : List Int) (w0 w : World) (L : List Ent) (V : Vw) (hM : Mem w0 w L V) (hx : IsInts V v xs) :
    CallsOk Try.prog 40 #[v] w (TsPost w0 L V (words xs)) := by
  obtain ⟨a, c, b, off, rfl, h1, h2, h3, h4⟩ := hx.open
  have hml := maxLen_le
  refine enter_ (N := 31) Try.func40 rfl rfl rfl ?_
  (repeat (first | refine seq_ ?_ | refine sq_normal ?_ | refine rl_nil ?_ | refine block_ ?_ | (refine region_ (id := 0) ?_; (try (refine rl_assign (v := (Value.slice _ _ _ : Value)) rfl rfl ?_))) | (refine region_ (id := 1) ?_; (try ((refine rl_bsliceM (d := 6) [_, _, _, _, _, _, _, _, _, _, _, _, _, _, _, _, _, _, _, _, _, _, _, _, _, _, _, _, _, _, _, _, _, _] hM sl23 rfl rfl rfl rfl rfl (by decide) (by decide) ?_; clear hM; intro w b6 hM); (try (refine rl_assign (v := (Value.slice _ _ _ : Value)) rfl rfl ?_))))) | (refine region_ (id := 2) ?_; (try (refine rl_assign (v := (Value.slice _ _ _ : Value)) rfl rfl ?_))) | (refine region_ (id := 3) ?_; (try (refine rl_assign (v := (Value.int _ _ : Value)) rfl rfl ?_)))))
  have hM : Mem w0 w (.own (.slice none 0 0) 9 1 0 [] :: .blk b6 (table.map St) 9 :: L) V := Mem.newOwn (by exact hM) 9 1
  refine loop2 [(4, 6), (7, 30)] 4 5 (fun m v4 v5 wr => ∃ (a : Option Addr) (cc : Nat) (i : Nat), v4 = .slice a i cc ∧ v5 = .int .i64 i ∧ i ≤ xs.length ∧ i ≤ 30 ∧ m = 30 - i ∧
    Mem w0 wr (.own (.slice a i cc) 9 1 i (((xs.take i).map word).map St) :: .blk b6 (table.map St) 9 :: L) V) _
    ⟨none, 0, 0, rfl, rfl, by omega, by omega, rfl, hM⟩ ?_
  clear hM
  rintro m τ v4 v5 w ⟨a', cc, i, rfl, rfl, hi, hi30, rfl, hM⟩ K0 hL0
  by_cases hgo : i < xs.length ∧ i < 30
  · obtain ⟨hg1, hg2⟩ := hgo
    obtain ⟨x, hxi⟩ : ∃ x, xs[i]? = some x := ⟨_, List.getElem?_eq_getElem hg1⟩
    have hA := h3 (by omega)
    subst hA
    have hv := h4 i x hxi
    have hrng := hx.rng x (List.mem_of_getElem? hxi)
    (repeat (first | refine seq_ ?_ | refine sq_normal ?_ | refine rl_nil ?_ | refine cond_t rfl ?_ | refine skip_ ?_ | refine block_ ?_ | (refine region_ (id := 4) ?_; (try (refine rl_move (v := (Value.int _ _ : Value)) rfl rfl ?_; (try (refine rl_move (v := (Value.slice _ _ _ : Value)) rfl rfl ?_; (try (refine rl_len sl22 rfl rfl ?_; (try ((refine rl_lss_t rfl rfl rfl ?_ ?_; omega); (try (refine rl_move (v := (Value.bool _ : Value)) rfl rfl ?_; (try (refine rl_move (v := (Value.int _ _ : Value)) rfl rfl ?_; (try ((refine rl_lss_t rfl rfl rfl ?_ ?_; omega); (try (refine rl_pick (v := (Value.bool _ : Value)) rfl rfl rfl ?_))))))))))))))))) | (refine region_ (id := 6) ?_; (try (refine rl_move (v := (Value.slice _ _ _ : Value)) rfl rfl ?_; (try (refine rl_move (v := (Value.slice _ _ _ : Value)) rfl rfl ?_; (try (refine rl_move (v := (Value.slice _ _ _ : Value)) rfl rfl ?_; (try (refine rl_move (v := (Value.int _ _ : Value)) rfl rfl ?_; (try ((refine rl_idx1 sl22 rfl rfl rfl rfl ?_ ?_ ?_; omega; omega); (try (refine rl_loadV hM vt3 rfl rfl (by first | assumption | exact VRow.get (by assumption) rfl | exact VRow.get0 (by assumption) rfl) ?_; (try (refine rl_move (v := (Value.slice _ _ _ : Value)) rfl rfl ?_; (try (refine rl_len sl23 rfl rfl ?_)))))))))))))))))))
    refine rl_callf fn15 (around_ok x 34 w hrng.1 hrng.2 (by omega) (by omega)) rfl rfl ?_
    rintro _ w ⟨rfl, rfl⟩
    have hr := around_lt x 34 (by omega)
    obtain ⟨y, hy⟩ : ∃ y, table[(around x 34).toNat]? = some y := ⟨_, List.getElem?_eq_getElem (by show _ < 34; omega)⟩
    have hwd : word x = y := by unfold word; rw [hy]; rfl
    have hu : (table.map St)[0 + (around x 34).toNat]? = some (St y) := by rw [Nat.zero_add]; simp [hy]
    (repeat (first | (refine rl_idx1 sl23 rfl rfl rfl rfl ?_ ?_ ?_; omega; omega) | refine rl_loadM 1 hM vt9 rfl rfl rfl (by first | rfl | assumption) ?_ | (refine rl_bsliceM (d := 28) [_] hM sl23 rfl rfl rfl rfl rfl (by decide) (by decide) ?_; clear hM; intro w b28 hM)))
    refine rl_appendM 1 (news := [St y]) (B := b28) (off := 0) hM sl23 rfl (by decide) rfl (hM.row (i := 0) rfl) rfl rfl rfl (fun _ => rfl) rfl ?_ ?_ ?_ ?_
    · intro u hu
      simp only [List.mem_cons, List.not_mem_nil, or_false] at hu
      subst hu; rfl
    · unfold maxLen; omega
    · omega
    clear hM
    intro w a2 c2 _ _ hM
    (repeat (first | refine sq_normal ?_ | refine rl_nil ?_ | refine inBlock_normal ?_ | (refine region_ (id := 5) ?_; (try (refine rl_move (v := (Value.int _ _ : Value)) rfl rfl ?_; (try ((refine rl_add rfl rfl rfl ?_ ?_ ?_; omega; omega); (try (refine rl_assign (v := (Value.int _ _ : Value)) rfl rfl ?_))))))) | refine rl_assign (v := (Value.slice _ _ _ : Value)) rfl rfl ?_))
    refine kq_normal (hL0 (30 - (i + 1)) _ _ (by omega) (by (repeat (first | with_reducible exact Agree.ov | with_reducible exact Agree.refl _ _ | refine Agree.upd rfl ?_ | refine Agree.ovs rfl ?_))) ⟨a2, c2, i + 1, rfl, rfl, by omega, by omega, rfl, ?_⟩)
    have e : ((xs.take (i + 1)).map word).map St = ((xs.take i).map word).map St ++ [St y] := by
      rw [List.take_add_one, hxi]
      simp [hwd]
    rw [e]
    exact hM.dropn 1
  · have hw : words xs = (xs.take i).map word := by
      unfold words
      by_cases h30 : i = 30
      · rw [h30]
      · rw [List.take_of_length_le (by omega), List.take_of_length_le (by omega)]
    have hlen : ((xs.take i).map word).length = i := by simp; omega
    have fin : TsPost w0 L V (words xs) (.slice a' i cc) w := by
      rw [hw]
      obtain ⟨V', hV, hM', a3, c3, b3, e1, e2, e3, e4, e5⟩ := Mem.freezeOwn hM
      cases e1
      exact ⟨V', hV, hM'.dropn 1, isTs_of hlen.symm (by omega) e3 (fun h => e4 (by omega)) e5⟩
    by_cases hl : i < xs.length
    · (repeat (first | refine seq_ ?_ | refine sq_normal ?_ | refine sq_exit ?_ | refine rl_nil ?_ | refine cond_f rfl ?_ | refine ret_ ?_ | refine exit_ ?_ | refine inBlock_exit ?_ | refine kq_exit ?_ | (refine region_ (id := 4) ?_; (try (refine rl_move (v := (Value.int _ _ : Value)) rfl rfl ?_; (try (refine rl_move (v := (Value.slice _ _ _ : Value)) rfl rfl ?_; (try (refine rl_len sl22 rfl rfl ?_; (try ((refine rl_lss_t rfl rfl rfl ?_ ?_; omega); (try (refine rl_move (v := (Value.bool _ : Value)) rfl rfl ?_; (try (refine rl_move (v := (Value.int _ _ : Value)) rfl rfl ?_; (try ((refine rl_lss_f rfl rfl rfl ?_ ?_; omega); (try (refine rl_pick (v := (Value.bool _ : Value)) rfl rfl rfl ?_))))))))))))))))) | (refine region_ (id := 7) ?_; (try (refine rl_move (v := (Value.slice _ _ _ : Value)) rfl rfl ?_; (try (refine rl_assign (v := (Value.slice _ _ _ : Value)) rfl rfl ?_)))))))
      exact bp_ret1 (v := Value.slice _ _ _) rfl rfl fin
    · (repeat (first | refine seq_ ?_ | refine sq_normal ?_ | refine sq_exit ?_ | refine rl_nil ?_ | refine cond_f rfl ?_ | refine ret_ ?_ | refine exit_ ?_ | refine inBlock_exit ?_ | refine kq_exit ?_ | (refine region_ (id := 4) ?_; (try (refine rl_move (v := (Value.int _ _ : Value)) rfl rfl ?_; (try (refine rl_move (v := (Value.slice _ _ _ : Value)) rfl rfl ?_; (try (refine rl_len sl22 rfl rfl ?_; (try ((refine rl_lss_f rfl rfl rfl ?_ ?_; omega); (try (refine rl_move (v := (Value.bool _ : Value)) rfl rfl ?_; (try (refine rl_off rfl ?_; (try (refine rl_off rfl ?_; (try (refine rl_pick (v := (Value.bool _ : Value)) rfl rfl rfl ?_))))))))))))))))) | (refine region_ (id := 7) ?_; (try (refine rl_move (v := (Value.slice _ _ _ : Value)) rfl rfl ?_; (try (refine rl_assign (v := (Value.slice _ _ _ : Value)) rfl rfl ?_)))))))
      exact bp_ret1 (v := Value.slice _ _ _) rfl rfl fin
end Go.Proofs.Ytadbinckjmdokaa.Trd
