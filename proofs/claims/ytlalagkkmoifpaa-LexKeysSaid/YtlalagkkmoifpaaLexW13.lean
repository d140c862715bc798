/- The walks of fugueref02.Gap, Texts. -/
import Derived.Test.YtlalagkkmoifpaaLexW12
set_option linter.unusedVariables false
set_option linter.unusedSimpArgs false
namespace Go.Proofs.Ytlalagkkmoifpaa.Lex
open Go Go.Eng Go.RowKit Go.Lx
attribute [local irreducible] RL RX KQ SQ Exit.inBlock Exit.then BP NP CallsOk IsSl IsRows IsInts IsBools Own Blk Code.wp Calls wpList
def gaps : List (List UInt8) := [[32], [10], [32, 32], [9], [32, 45, 45, 32, 97, 32, 98, 10], [45, 45, 10], [10, 10]]
def gap (n : Int) : List UInt8 := (gaps[(around n 7).toNat]?).getD []
theorem gap_ok (n : Int) (w0 w : World) (L : List Ent) (V : Vw) (hM : Mem w0 w L V) (h1 : -9223372036854775808 ≤ n) (h2 : n ≤ 9223372036854775807) :
    CallsOk Try.prog 26 #[.int .i64 n] w fun r w' => r = St (gap n) ∧ Mem w0 w' L V := by
  refine enter_ (N := 8) Try.func26 rfl rfl rfl ?_
  (repeat (first | refine seq_ ?_ | refine sq_normal ?_ | refine rl_nil ?_ | (refine region_ (id := 0) ?_; (try (refine rl_assign (v := (Value.string _ : Value)) rfl rfl ?_))) | (refine region_ (id := 1) ?_; (try ((refine rl_bsliceM (d := 3) [_, _, _, _, _, _, _] hM sl23 rfl rfl rfl rfl rfl (by decide) (by decide) ?_; clear hM; intro w b3 hM); (try (refine rl_move (v := (Value.int _ _ : Value)) rfl rfl ?_)))))))
  have hM : Mem w0 w (.blk b3 (gaps.map St) 9 :: L) V := hM
  refine rl_callf fn18 (around_ok n 7 w h1 h2 (by omega) (by omega)) rfl rfl ?_
  rintro _ w ⟨rfl, rfl⟩
  have hr := around_lt n 7 (by omega)
  obtain ⟨x, hx⟩ : ∃ x, gaps[(around n 7).toNat]? = some x := ⟨_, List.getElem?_eq_getElem (by show _ < 7; omega)⟩
  have hg : gap n = x := by unfold gap; rw [hx]; rfl
  have hu : (gaps.map St)[0 + (around n 7).toNat]? = some (St x) := by rw [Nat.zero_add]; simp [hx]
  (repeat (first | refine sq_normal ?_ | refine rl_nil ?_ | refine ret_ ?_ | refine rl_assign (v := (Value.string _ : Value)) rfl rfl ?_ | (first | (refine rl_idx1 sl23 rfl rfl rfl rfl ?_ ?_ ?_; omega; omega) | (apply rl_idx1 sl23 rfl rfl rfl; assumption; omega; omega)) | (first | refine rl_loadV hM vt9 rfl rfl (by first | assumption | exact VRow.get (by assumption) rfl | exact VRow.get0 (by assumption) rfl) ?_ | refine rl_loadM 0 hM vt9 rfl rfl rfl (by first | rfl | assumption) ?_ | refine rl_loadM 1 hM vt9 rfl rfl rfl (by first | rfl | assumption) ?_ | refine rl_loadM 2 hM vt9 rfl rfl rfl (by first | rfl | assumption) ?_ | refine rl_loadM 3 hM vt9 rfl rfl rfl (by first | rfl | assumption) ?_ | refine rl_loadM 4 hM vt9 rfl rfl rfl (by first | rfl | assumption) ?_ | refine rl_loadM 5 hM vt9 rfl rfl rfl (by first | rfl | assumption) ?_ | refine rl_loadM 6 hM vt9 rfl rfl rfl (by first | rfl | assumption) ?_ | refine rl_loadM 7 hM vt9 rfl rfl rfl (by first | rfl | assumption) ?_)))
  exact bp_ret1 (v := St x) rfl rfl ⟨by rw [hg], hM.dropn 1⟩
end Go.Proofs.Ytlalagkkmoifpaa.Lex
