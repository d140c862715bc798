/- A table of rows of the call's own: how a row of it turns. -/
import Derived.Test.YtgiifodmbckbmaaSccP0
import Derived.Test.YtgiifodmbckbmaaEng10
set_option linter.unusedVariables false
set_option linter.unusedSimpArgs false
namespace Go.Proofs.Ytgiifodmbckbmaa.Scc
open Go Go.Eng Go.RowKit Go.Scc
attribute [local irreducible] RL RX KQ SQ Exit.inBlock Exit.then BP NP CallsOk IsSl IsRows IsInts IsBools Own Blk Code.wp Calls wpList
theorem Rws.ext {w w' : World} {B b : Nat} {v : Value} {ls : List (List Int)} {us : List Value} {bs : List Nat} (h : Rws w B v ls us bs b) (hb : Below w.heap.size w w') : Rws w' B v ls us bs b := by
  refine ⟨h.own.ext hb, h.low, h.ul, h.bl, fun i xs hx => ?_, h.apart⟩
  obtain ⟨u, c, h1, h2, h3, h4⟩ := h.row i xs hx
  exact ⟨u, c, h1, h2, h3.ext hb, h4⟩
/-- Row i, and the block that it may be appended to in. -/
theorem Rws.at {w : World} {B b i : Nat} {v : Value} {ls : List (List Int)} {us : List Value} {bs : List Nat} {xs : List Int} (h : Rws w B v ls us bs b) (hi : ls[i]? = some xs) :
    ∃ u c, us[i]? = some u ∧ Own w 3 1 u xs.length (xs.map (Value.int .i64)) c ∧ (∀ x ∈ xs, I64 x) ∧ ((xs ≠ [] ∧ bs[i]? = some c ∧ B ≤ c ∧ c ≠ b ∧ c < w.heap.size) ∨ (xs = [] ∧ u = .slice none 0 0 ∧ c = w.heap.size)) := by
  obtain ⟨u, c, h1, h2, h3, h4, h5, h6⟩ := h.row i xs hi
  by_cases hx : xs = []
  · subst hx
    refine ⟨u, w.heap.size, h1, ?_, h4, .inr ⟨rfl, h6 rfl, rfl⟩⟩
    rw [h6 rfl]; exact Own.nil _ _ _ _
  · exact ⟨u, c, h1, h3, h4, .inl ⟨hx, h2, (h5 hx).1, (h5 hx).2, h3.lt (List.length_pos_iff.2 hx)⟩⟩
theorem Rws.tab_lt {w : World} {B b i : Nat} {v : Value} {ls : List (List Int)} {us : List Value} {bs : List Nat} {xs : List Int} (h : Rws w B v ls us bs b) (hi : ls[i]? = some xs) : b < w.heap.size :=
  h.own.lt (by have := (List.getElem?_eq_some_iff.1 hi).1; omega)
theorem Rws.upd {w w4 w5 : World} {B b c c' i : Nat} {v u' : Value} {ls : List (List Int)} {us : List Value} {bs : List Nat} {xs xs' : List Int} (hR : Rws w B v ls us bs b) (hB : B ≤ w.heap.size) (hi : ls[i]? = some xs)
    (hc : (xs ≠ [] ∧ bs[i]? = some c ∧ B ≤ c ∧ c ≠ b ∧ c < w.heap.size) ∨ w.heap.size ≤ c) (hg : Chg c w w4) (hO : Own w4 3 1 u' xs'.length (xs'.map (Value.int .i64)) c') (hc' : c' = c ∨ w.heap.size ≤ c') (hx : ∀ x ∈ xs', I64 x) (hne : xs' ≠ [])
    (hT : Own w5 29 1 v ls.length (us.set i u') b) (hg5 : Chg b w4 w5) : Rws w5 B v (ls.set i xs') (us.set i u') (bs.set i c') b := by
  have hbl := hR.tab_lt hi
  have hil := (List.getElem?_eq_some_iff.1 hi).1
  have hcb : c' ≠ b := by
    rcases hc with ⟨h1, h2, h3, h4, h5⟩ | h1 <;> rcases hc' with rfl | h6 <;> omega
  have hcB : B ≤ c' := by
    rcases hc with ⟨h1, h2, h3, h4, h5⟩ | h1 <;> rcases hc' with rfl | h6 <;> omega
  refine ⟨by simpa using hT, hR.low, by simp [hR.ul], by simp [hR.bl], fun j ys hj => ?_, fun j k ys zs d e hjk h1 h2 h3 h4 hy hz => ?_⟩
  · by_cases hij : i = j
    · subst hij
      rw [List.getElem?_set_self hil] at hj
      cases hj
      refine ⟨u', c', List.getElem?_set_self (by rw [hR.ul]; exact hil), List.getElem?_set_self (by rw [hR.bl]; exact hil), hO.chg hg5 hcb, hx, fun _ => ⟨hcB, hcb⟩, fun h => absurd h hne⟩
    · rw [List.getElem?_set_ne hij] at hj
      obtain ⟨u, d, e1, e2, e3, e4, e5, e6⟩ := hR.row j ys hj
      refine ⟨u, d, by rw [List.getElem?_set_ne hij]; exact e1, by rw [List.getElem?_set_ne hij]; exact e2, ?_, e4, e5, e6⟩
      by_cases hy : ys = []
      · subst hy; rw [e6 rfl]; exact Own.nil _ _ _ _
      · have hdl : d < w.heap.size := e3.lt (List.length_pos_iff.2 hy)
        have hdc : d ≠ c := by
          rcases hc with ⟨h1, h2, h3, h4, h5⟩ | h1
          · exact fun h => hR.apart i j xs ys c d hij hi hj h2 e2 h1 hy h.symm
          · omega
        exact (e3.chg hg hdc).chg hg5 (e5 hy).2
  · have key : ∀ (j : Nat) ys d, i ≠ j → (ls.set i xs')[j]? = some ys → (bs.set i c')[j]? = some d → ys ≠ [] → d ≠ c' := by
      intro j ys d hij h1 h2 hy
      rw [List.getElem?_set_ne hij] at h1 h2
      obtain ⟨u, d', e1, e2, e3, e4, e5, e6⟩ := hR.row j ys h1
      have : d' = d := by rw [h2] at e2; cases e2; rfl
      subst this
      have hdl : d' < w.heap.size := e3.lt (List.length_pos_iff.2 hy)
      rcases hc' with rfl | h6
      · rcases hc with ⟨g1, g2, g3, g4, g5⟩ | g1
        · exact fun h => hR.apart i j xs ys c' d' hij hi h1 g2 h2 g1 hy h.symm
        · omega
      · omega
    by_cases hij : i = j
    · subst hij
      rw [List.getElem?_set_self (by rw [hR.bl]; exact hil)] at h3
      cases h3
      exact fun h => key k zs e hjk h2 h4 hz h.symm
    · by_cases hik : i = k
      · subst hik
        rw [List.getElem?_set_self (by rw [hR.bl]; exact hil)] at h4
        cases h4
        exact key j ys d hij h1 h3 hy
      · rw [List.getElem?_set_ne hij] at h1 h3
        rw [List.getElem?_set_ne hik] at h2 h4
        exact hR.apart j k ys zs d e hjk h1 h2 h3 h4 hy hz
end Go.Proofs.Ytgiifodmbckbmaa.Scc
