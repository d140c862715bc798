/- The document's example, as lists. -/
import Derived.Test.YtoekjhalcjhegaaHepC
set_option linter.unusedVariables false
namespace Go.Hp
def exA : Nd := ⟨1, 7, [], []⟩
def exB : Nd := ⟨5, 0, [], [0]⟩
def exC : Nd := ⟨2, 0, [], [1, 1]⟩
theorem ex1 : Ok [exA] := Ok.nil.snoc (a := exA) rfl
theorem ex2 : Ok [exA, exB] := ex1.snoc (a := exB) rfl
theorem ex3 : Ok [exA, exB, exC] := ex2.snoc (a := exC) rfl
theorem exf0 : fol [exA, exB, exC] 0 = 0 := fol_stop (a := exA) (by decide) rfl (by decide)
theorem exf1 : fol [exA, exB, exC] 1 = 0 := (fol_step ex3.ends (a := exB) (k := 0) (by decide) rfl rfl rfl).trans exf0
theorem exf2 : fol [exA, exB, exC] 2 = 2 := fol_stop (a := exC) (by decide) rfl (by decide)
theorem exK : kept [exA, exB, exC] [2] = [2, 0] := by
  refine kept_eq ?_
  have e0 : adds [exA, exB, exC] [] (isPlaces [exA, exB, exC] [2]) = [2] := by
    show add [] (fol _ 2) = _
    rw [exf2]; rfl
  rw [e0]
  refine Bfs.step (q := 2) rfl ?_
  have e1 : adds [exA, exB, exC] [2] (nodeAt [exA, exB, exC] 2).kids = [2, 0] := by
    show add (add [2] (fol _ 1)) (fol _ 1) = _
    rw [exf1]; rfl
  rw [e1]
  refine Bfs.step (q := 0) rfl ?_
  have e2 : adds [exA, exB, exC] [2, 0] (nodeAt [exA, exB, exC] 0).kids = [2, 0] := rfl
  rw [e2]
  exact Bfs.done (Nat.le_refl _)
theorem exCol : collect [exA, exB, exC] [2] = ([exC, exA], [0]) := by
  unfold collect
  rw [exK]
  have h1 : ren [exA, exB, exC] [2, 0] (nodeAt [exA, exB, exC] 2) = exC := by
    show (⟨2, 0, [], [(List.idxOf (fol _ 1) [2, 0] : Nat), (List.idxOf (fol _ 1) [2, 0] : Nat)]⟩ : Nd) = _
    rw [exf1]; rfl
  have h2 : ren [exA, exB, exC] [2, 0] (nodeAt [exA, exB, exC] 0) = exA := rfl
  have h3 : (if inB [exA, exB, exC].length 2 = true then (([2, 0] : List Int).idxOf (fol [exA, exB, exC] 2) : Int) else -1) = 0 := by rw [exf2]; rfl
  show ([ren _ _ (nodeAt _ 2), ren _ _ (nodeAt _ 0)], [_]) = _
  rw [h1, h2]
  exact congrArg (fun x => ([exC, exA], [x])) h3
end Go.Hp
