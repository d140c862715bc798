/- Nodes in memory. -/
import Derived.Test.YtoekjhalcjhegaaHepG
import Derived.Test.YtoekjhalcjhegaaEng17
set_option linter.unusedVariables false
set_option linter.unusedSimpArgs false
namespace Go.Hp
open Go Go.Eng Go.RowKit
def ndCells (a : Nd) (v : Value) : List Value := [.int .i64 a.form, .int .i64 a.n, St a.name, v]
/-- These are the cells of these nodes, one behind the other. -/
def NdCells (V : Vw) : List Nd → List Value → Prop
  | [], cs => cs = []
  | a :: l, cs => ∃ v r, cs = ndCells a v ++ r ∧ IsInts V v a.kids ∧ NdCells V l r
theorem NdCells.le {V V' : Vw} (hv : VLe V V') : ∀ {l : List Nd} {cs : List Value}, NdCells V l cs → NdCells V' l cs
  | [], _, h => h
  | a :: l, cs, h => by
    obtain ⟨v, r, h1, h2, h3⟩ := h
    exact ⟨v, r, h1, h2.le hv, h3.le hv⟩
theorem NdCells.len {V : Vw} : ∀ {l : List Nd} {cs : List Value}, NdCells V l cs → cs.length = l.length * 4
  | [], _, h => by cases h; rfl
  | a :: l, cs, h => by
    obtain ⟨v, r, h1, h2, h3⟩ := h
    have := h3.len
    subst h1
    simp [ndCells]; omega
theorem NdCells.get {V : Vw} : ∀ {l : List Nd} {cs : List Value} {i : Nat} {a : Nd}, NdCells V l cs → l[i]? = some a → ∃ v, ORow cs (0 + i * 4) (ndCells a v) ∧ IsInts V v a.kids
  | [], _, i, a, h, hi => by simp at hi
  | b :: l, cs, 0, a, h, hi => by
    obtain ⟨v, r, h1, h2, h3⟩ := h
    simp at hi
    subst hi h1
    exact ⟨v, fun j u hj => by rw [List.getElem?_append_left (by have := (List.getElem?_eq_some_iff.1 hj).1; omega)]; simpa using hj, h2⟩
  | b :: l, cs, i + 1, a, h, hi => by
    obtain ⟨v, r, h1, h2, h3⟩ := h
    obtain ⟨v', e1, e2⟩ := h3.get (i := i) (by simpa using hi)
    subst h1
    refine ⟨v', fun j u hj => ?_, e2⟩
    rw [List.getElem?_append_right (by simp [ndCells]; omega)]
    have := e1 j u hj
    rw [← this]
    congr 1
    simp [ndCells]; omega
theorem NdCells.snoc {V : Vw} {a : Nd} {v : Value} (hv : IsInts V v a.kids) : ∀ {l : List Nd} {cs : List Value}, NdCells V l cs → NdCells V (l ++ [a]) (cs ++ ndCells a v)
  | [], _, h => by cases h; exact ⟨v, [], by simp, hv, rfl⟩
  | b :: l, cs, h => by
    obtain ⟨u, r, h1, h2, h3⟩ := h
    subst h1
    exact ⟨u, r ++ ndCells a v, by simp, h2, h3.snoc hv⟩
theorem NdCells.set {V : Vw} {a : Nd} {v : Value} (hv : IsInts V v a.kids) : ∀ {l : List Nd} {cs : List Value} {i : Nat}, NdCells V l cs → i < l.length → NdCells V (l.set i a) (cs.take (0 + i * 4) ++ ndCells a v ++ cs.drop (0 + i * 4 + (ndCells a v).length))
  | [], _, i, h, hi => by simp at hi
  | b :: l, cs, 0, h, hi => by
    obtain ⟨u, r, h1, h2, h3⟩ := h
    subst h1
    exact ⟨v, r, by simp [ndCells], hv, h3⟩
  | b :: l, cs, i + 1, h, hi => by
    obtain ⟨u, r, h1, h2, h3⟩ := h
    subst h1
    have := h3.set (i := i) hv (by simpa using hi)
    refine ⟨u, _, ?_, h2, this⟩
    have e1 : 0 + (i + 1) * 4 = (ndCells b u).length + (0 + i * 4) := by simp [ndCells]; omega
    rw [e1, List.take_length_add_append, Nat.add_assoc, List.drop_length_add_append]
    simp
end Go.Hp
