/- What lets nothing out. Nothing here names a program. -/
import Derived.Test.YtoekjhalcjhegaaEng24
set_option linter.unusedVariables false
namespace Go.Eng
open Go Go.RowKit
variable {P : Program} {N : NN} {Q : Exit → Act → World → Prop}
theorem no_bp {fn : Func} {Post : Value → World → Prop} : ¬ LetsOut (BP P fn Post) := fun ⟨_, _, h⟩ => by
  obtain ⟨v, hv, _⟩ := h
  cases hv
theorem no_kq {K : Env → World → Prop} (h : ¬ LetsOut Q) : ¬ LetsOut (KQ N K Q) := h
theorem no_sq {y : Code} (h : ¬ LetsOut Q) : ¬ LetsOut (SQ P y Q) := h
theorem no_blk {id : Nat} (h : ¬ LetsOut Q) : ¬ LetsOut (Exit.inBlock id Q) := h
theorem no_sr {lp : Nat} {y : Code} (h : ¬ LetsOut Q) : ¬ LetsOut (SR P lp y Q) := h
theorem no_rp {lp : Nat} {R : Ending → World → Prop} : ¬ LetsOut (roundPost P lp R) := fun ⟨_, _, h⟩ => h
theorem no_false {K : Env → World → Prop} : ¬ LetsOut (KQ N K (fun _ _ _ => False)) := fun ⟨_, _, h⟩ => h
theorem kqf_normal {K : Env → World → Prop} {σ : Env} {w : World} (h : K σ w) : KQ N K (fun _ _ _ => False) .normal (Fr N σ) w := ⟨σ, rfl, h⟩
/-! ## Rounds over own things -/
variable {w0 w : World} {L : List Ent} {V : Vw} {lp : Nat} {r : Loop} {R : Ending → World → Prop}
theorem round_M {M : Nat} {fn : FuncId} {assign body : Code} {σ : Env} (hM : Mem w0 w (.obj lp (.loop r) :: L) V) (hr : r.state = .ready)
    (h : ∀ K : Env → World → Prop, (∀ σ', (∀ w', Mem w0 w' (.obj lp (.loop { r with state := .busy }) :: L) V → WR P lp body (roundPost P lp R) (Fr ⟨M, []⟩ σ') w') → K σ' w) →
      WR P lp assign (KQ ⟨M, []⟩ K (fun _ _ _ => False)) (Fr ⟨M, []⟩ σ) w) : RoundIn Fence.wide 0 P lp fn (Fr ⟨M, []⟩ σ).tmps assign body w R :=
  round_ (hM.getObj (i := 0) rfl) hr fun K hK => h K fun σ' hσ => hK σ' ((hM.putObj (.loop { r with state := .busy }) (i := 0) rfl).getObj (i := 0) rfl) (hσ _ (hM.putObj (.loop { r with state := .busy }) (i := 0) rfl))
theorem rpM_normal {a : Act} (hM : Mem w0 w (.obj lp (.loop r) :: L) V) (h : ∀ w', Mem w0 w' (.obj lp (.loop { r with state := .ready, pending := none }) :: L) V → R (.returned (.bool true)) w') : roundPost P lp R .normal a w :=
  rp_normal (hM.getObj (i := 0) rfl) (h _ (hM.putObj (.loop { r with state := .ready, pending := none }) (i := 0) rfl))
theorem rpM_ret {a : Act} (hM : Mem w0 w (.obj lp (.loop r) :: L) V) (h : ∀ w', Mem w0 w' (.obj lp (.loop { r with state := .done, pending := some .ret }) :: L) V → R (.returned (.bool false)) w') : roundPost P lp R .ret a w :=
  rp_ret (hM.getObj (i := 0) rfl) (h _ (hM.putObj (.loop { r with state := .done, pending := some .ret }) (i := 0) rfl))
theorem rangeP_M {a : Act} (hM : Mem w0 w (.obj lp (.loop r) :: L) V) (hr : r.state ≠ .busy)
    (h : ∀ w', Mem w0 w' (.obj lp (.loop { r with state := .exhausted }) :: L) V → match r.pending with | none => Q .normal a w' | some c => c.wp P Q a w') : RangeP P lp Q a w :=
  ⟨r, _, hM.getObj (i := 0) rfl, hr, rfl, h _ (hM.putObj (.loop { r with state := .exhausted }) (i := 0) rfl)⟩
theorem res_M1 {σ : Env} {a t b : Nat} {t' : TypeId} {v : Value} (i : Nat) (hM : Mem w0 w L V) (hT : VarT P t) (hx : ev N σ (.tmp a) = .pointer (some ⟨b, 0, none⟩)) (hi : L[i]? = some (.blk b [v] t')) : ResOk P N σ w (.cell a t) v :=
  ⟨_, hx, by simp [loadVar, hT.noAgg, hM.cell hi (o := 0) rfl]⟩
theorem bpM_x1 {M D i : Nat} {fn : Func} {σ : Env} {Post : Value → World → Prop} {r1 : ResultVar} {v1 : Value} {e : Exit} (hr : fn.results = #[r1]) (he : isEnd e = true) (hM : Mem w0 w L V) (hi : L[i]? = some (.obj D (.deferred (some []))))
    (h1 : ∀ w', Mem w0 w' (L.set i (.obj D (.deferred none))) V → ResOk P ⟨M, [{ target := .collected D, args := #[] }]⟩ σ w' r1 v1)
    (h : ∀ w', Mem w0 w' (L.set i (.obj D (.deferred none))) V → Post v1 w') :
    BP P fn Post e (Fr ⟨M, [{ target := .collected D, args := #[] }]⟩ σ) w :=
  bpm_x1 hr he (hM.getObj hi) (h1 _ (hM.putObj (.deferred none) hi)) (h _ (hM.putObj (.deferred none) hi))
end Go.Eng
