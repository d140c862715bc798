/- The walks of slices.Clone of predicates, tread.Scheme. -/
import Derived.Test.YtadbinckjmdokaaDoorDrdW8
import Derived.Test.YtadbinckjmdokaaDoorDrdW10
import Derived.Test.YtadbinckjmdokaaDoorEnC
set_option linter.unusedVariables false
set_option linter.unusedSimpArgs false
namespace Go.Proofs.YtadbinckjmdokaaDoor.Trd
open Go Go.Eng Go.RowKit Go.Tr Go.Lx
attribute [local irreducible] RL RX KQ SQ Exit.inBlock Exit.then BP NP CallsOk IsSl IsRows IsInts IsBools Own Blk Code.wp Calls wpList
theorem PdSl.cells' {V : Vw} {v : Value} {ps : List Pd} (h : PdSl V v ps) : ∃ us, PdsO V ps us ∧ ∃ a c b off, v = .slice a ps.length c ∧ ps.length ≤ c ∧ c ≤ maxLen ∧ (0 < ps.length → a = some ⟨b, off, none⟩) ∧ ∀ (j : Nat) u, us[j]? = some u → V ⟨b, off + j, none⟩ = some u := by
  obtain ⟨a, c, b, off, h1, h2, h3, h4, h5⟩ := h
  obtain ⟨us, g1, g2⟩ := PdSl.cells h5
  exact ⟨us, g1, a, c, b, off, h1, h2, h3, h4, g2⟩
theorem clone_ok (ps : List Pd) (v : Value) (w0 w : World) (L : List Ent) (V : Vw) (hM : Mem w0 w L V) (hp : PdSl V v ps) (hl : ps.length ≤ 1000000) :
    CallsOk Tryd.prog 34 #[v] w fun r w' => ∃ us, PdsO V ps us ∧ Mem w0 w' (.own r 42 5 ps.length us :: L) V := by
  obtain ⟨us, hO, a, c, b, off, rfl, h2, h3, h4, h5⟩ := PdSl.cells' hp
  have hml := maxLen_le
  have hmx : 100000000 ≤ maxLen := by unfold maxLen; omega
  refine enter_ (N := 8) Tryd.func34 rfl rfl rfl ?_
  cases a with
  | none =>
    have h0 : ps = [] := by
      cases ps with
      | nil => rfl
      | cons p ps => exact absurd (h4 (by simp)) (by simp)
    subst h0
    (repeat (first | refine seq_ ?_ | refine sq_normal ?_ | refine sq_ret ?_ | refine rl_nil ?_ | refine cond_t rfl ?_ | refine ret_ ?_ | (refine region_ (id := 0) ?_; (try (refine rl_assign (v := (Value.slice _ _ _ : Value)) rfl rfl ?_))) | (refine region_ (id := 1) ?_; (try (refine rl_move (v := (Value.slice _ _ _ : Value)) rfl rfl ?_; (try (refine rl_eqnil sl30 rfl rfl rfl rfl ?_))))) | (refine region_ (id := 2) ?_; (try (refine rl_assign (v := (Value.slice _ _ _ : Value)) rfl rfl ?_)))))
    have hM := hM.newOwn 42 5
    exact bp_ret1 (v := Value.slice _ _ _) rfl rfl ⟨[], PdsO.nil _, hM⟩
  | some ad =>
    (repeat (first | refine seq_ ?_ | refine sq_normal ?_ | refine rl_nil ?_ | refine cond_f rfl ?_ | refine skip_ ?_ | (refine region_ (id := 0) ?_; (try (refine rl_assign (v := (Value.slice _ _ _ : Value)) rfl rfl ?_))) | (refine region_ (id := 1) ?_; (try (refine rl_move (v := (Value.slice _ _ _ : Value)) rfl rfl ?_; (try (refine rl_eqnil sl30 rfl rfl rfl rfl ?_))))) | (refine region_ (id := 3) ?_; (try ((refine rl_bslice0M (d := 5) hM sl30 rfl ?_; clear hM; intro w b5 hM); (try (refine rl_move (v := (Value.slice _ _ _ : Value)) rfl rfl ?_)))))))
    have hM := hM.asOwn (n := 0) (sz := 5) 0 rfl rfl (by omega)
    refine rl_appendM 0 (news := us) (B := b) (off := off) hM sl30 rfl (by decide) rfl (fun j u hj => hM.view (h5 j u hj)) rfl rfl rfl h4 hO.1 ?_ ?_ ?_ ?_
    · exact hO.one
    · omega
    · omega
    clear hM
    intro w a' c' hc1 hc2 hM
    have hM : Mem w0 w (.own (.slice a' (0 + ps.length) c') 42 5 (0 + ps.length) ([] ++ us) :: L) V := hM
    rw [List.nil_append, Nat.zero_add] at hM
    (repeat (first | refine sq_normal ?_ | refine rl_nil ?_ | refine ret_ ?_ | refine rl_assign (v := (Value.slice _ _ _ : Value)) rfl rfl ?_))
    rw [Nat.zero_add]
    exact bp_ret1 (v := Value.slice _ _ _) rfl rfl ⟨us, hO, hM⟩
end Go.Proofs.YtadbinckjmdokaaDoor.Trd
