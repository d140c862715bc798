/- Lines and columns. No program in sight. -/
import Derived.Test.YtbcplbkjeinplaaDoorLexG
set_option linter.unusedVariables false
set_option linter.unusedSimpArgs false
namespace Go.Lx
def colF (n : Nat) (c : UInt8) : Nat := if c = 10 then 1 else n + 1
def colP (l : List UInt8) : Nat := l.foldl colF 1
def lineP (l : List UInt8) : Nat := l.count 10 + 1
theorem colP_snoc (l : List UInt8) (c : UInt8) : colP (l ++ [c]) = if c = 10 then 1 else colP l + 1 := by
  simp [colP, List.foldl_append, colF]
theorem lineP_snoc (l : List UInt8) (c : UInt8) : lineP (l ++ [c]) = if c = 10 then lineP l + 1 else lineP l := by
  unfold lineP
  rw [List.count_append, List.count_singleton]
  by_cases h : c = 10
  · subst h; simp
  · simp [h]
theorem take_snoc {l : List UInt8} {p : Nat} {c : UInt8} (h : l[p]? = some c) : l.take (p + 1) = l.take p ++ [c] := by
  rw [List.take_add_one, h]; rfl
theorem colF_run : ∀ (l : List UInt8) (n : Nat), (∀ u ∈ l, u ≠ 10) → l.foldl colF n = n + l.length
  | [], n, _ => rfl
  | u :: l, n, h => by
    rw [List.foldl_cons, colF_run l _ fun v hv => h v (List.mem_cons_of_mem _ hv), colF, if_neg (h u (List.mem_cons_self ..)), List.length_cons]; omega
theorem colP_tail {l : List UInt8} {i : Nat} (hi : i ≤ l.length) (h : ∀ j u, i ≤ j → l[j]? = some u → u ≠ 10) (h0 : i = 0 ∨ ∃ k, i = k + 1 ∧ l[k]? = some 10) : colP l = (l.drop i).length + 1 := by
  have e : l = l.take i ++ l.drop i := (List.take_append_drop i l).symm
  have hd : ∀ u ∈ l.drop i, u ≠ 10 := fun u hu => by
    obtain ⟨j, hj⟩ := List.mem_iff_getElem?.1 hu
    rw [List.getElem?_drop] at hj
    exact h _ u (by omega) hj
  have ht : (l.take i).foldl colF 1 = 1 := by
    rcases h0 with rfl | ⟨k, rfl, hk⟩
    · rfl
    · rw [take_snoc hk, List.foldl_append]; rfl
  unfold colP
  rw [e, List.foldl_append, ht, ← e, colF_run _ _ hd]; omega
theorem colP_le (l : List UInt8) : colP l ≤ l.length + 1 := by
  suffices h : ∀ (l : List UInt8) (n : Nat), 1 ≤ n → l.foldl colF n ≤ n + l.length by have := h l 1 (Nat.le_refl _); unfold colP; omega
  intro l
  induction l with
  | nil => intro n _; exact Nat.le_refl _
  | cons c l ih =>
    intro n hn
    rw [List.foldl_cons, List.length_cons]
    have hc : colF n c = 1 ∨ colF n c = n + 1 := by
      unfold colF; split
      · exact .inl rfl
      · exact .inr rfl
    rcases hc with h | h
    · rw [h]; have := ih 1 (Nat.le_refl _); omega
    · rw [h]; have := ih (n + 1) (by omega); omega
theorem lineP_le (l : List UInt8) : lineP l ≤ l.length + 1 := by
  unfold lineP
  have := List.count_le_length (a := (10 : UInt8)) (l := l); omega
end Go.Lx
