/- The name of a number: a lower name, and no other number's. No program in sight. -/
import Derived.Test.YtbcplbkjeinplaaDoorChrW6
set_option linter.unusedVariables false
set_option linter.unusedSimpArgs false
namespace Go.Lx
open Go
def valD (l : List UInt8) : Nat := l.foldl (fun a c => a * 10 + (c.toNat - 48)) 0
theorem valD_dec : ∀ (k n : Nat), n < k → valD (Lib.decDigits n) = n
  | 0, n, h => absurd h (by omega)
  | k + 1, n, h => by
    by_cases h10 : n < 10
    · rw [Lib.decDigits_one h10]
      simp only [valD, List.foldl_cons, List.foldl_nil, UInt8.toNat_ofNat']; omega
    · have ih := valD_dec k (n / 10) (by omega)
      rw [Lib.decDigits, dif_neg h10]
      simp only [valD] at ih ⊢
      rw [List.foldl_append, ih]
      simp only [List.foldl_cons, List.foldl_nil, UInt8.toNat_ofNat']; omega
theorem dec_all : ∀ (k n : Nat), n < k → Lib.decDigits n ≠ [] ∧ ∀ c ∈ Lib.decDigits n, 48 ≤ c.toNat ∧ c.toNat ≤ 57
  | 0, n, h => absurd h (by omega)
  | k + 1, n, h => by
    have hd : ∀ m : Nat, m < 10 → 48 ≤ (UInt8.ofNat (48 + m)).toNat ∧ (UInt8.ofNat (48 + m)).toNat ≤ 57 := fun m hm => by
      rw [UInt8.toNat_ofNat']; omega
    by_cases h10 : n < 10
    · rw [Lib.decDigits_one h10]
      refine ⟨by simp, fun c hc => ?_⟩
      rw [List.mem_singleton] at hc
      subst hc
      exact hd n h10
    · have ih := dec_all k (n / 10) (by omega)
      rw [Lib.decDigits, dif_neg h10]
      refine ⟨by simp, fun c hc => ?_⟩
      rcases List.mem_append.1 hc with h | h
      · exact ih.2 c h
      · rw [List.mem_singleton] at h
        subst h
        exact hd (n % 10) (by omega)
theorem letters_eq (n : Nat) : letters n = UInt8.ofNat (97 + n % 26) :: (if n < 26 then [] else Lib.decDigits (n / 26)) := by
  unfold letters
  split <;> rfl
theorem letters_inj {x y : Nat} : letters x = letters y ↔ x = y := by
  refine ⟨fun h => ?_, fun h => by rw [h]⟩
  rw [letters_eq, letters_eq, List.cons.injEq] at h
  obtain ⟨h1, h2⟩ := h
  have h3 : x % 26 = y % 26 := by
    have := congrArg UInt8.toNat h1
    rw [UInt8.toNat_ofNat', UInt8.toNat_ofNat'] at this; omega
  by_cases hx : x < 26 <;> by_cases hy : y < 26
  · omega
  · rw [if_pos hx, if_neg hy] at h2
    exact absurd h2.symm (dec_all _ _ (Nat.lt_succ_self _)).1
  · rw [if_neg hx, if_pos hy] at h2
    exact absurd h2 (dec_all _ _ (Nat.lt_succ_self _)).1
  · rw [if_neg hx, if_neg hy] at h2
    have h4 := congrArg valD h2
    rw [valD_dec _ _ (Nat.lt_succ_self _), valD_dec _ _ (Nat.lt_succ_self _)] at h4
    omega
theorem letters_len {n : Nat} (h : (n : Int) ≤ 9223372036854775807) : (letters n).length ≤ 20 := by
  rw [letters_eq, List.length_cons]
  split
  · simp
  · have := dec_len19 (u := n / 26) (by omega)
    omega
theorem plain_sign {c : UInt8} (h : plain c = true) : sign c = true := by
  unfold sign; rw [h]; rfl
theorem letters_lower {n : Nat} (h : (n : Int) ≤ 9223372036854775807) : isName 97 122 (letters n) = true := by
  have hl := letters_len h
  have hc : 97 ≤ (UInt8.ofNat (97 + n % 26)).toNat ∧ (UInt8.ofNat (97 + n % 26)).toNat ≤ 122 := by
    rw [UInt8.toNat_ofNat']; omega
  refine isName_iff.2 ⟨by rw [letters_eq]; simp, by omega, ?_, ?_⟩
  · rw [letters_eq, List.all_cons, Bool.and_eq_true]
    refine ⟨?_, ?_⟩
    · exact plain_sign ((plain_iff _).2 (.inl hc))
    · split
      · rfl
      · rw [List.all_eq_true]
        intro c hc
        exact plain_sign ((plain_iff _).2 (.inr (.inr ((dec_all _ _ (Nat.lt_succ_self _)).2 c hc))))
  · rw [letters_eq]
    show (decide _ && decide _) = true
    rw [Bool.and_eq_true, decide_eq_true_eq, decide_eq_true_eq]
    exact hc
end Go.Lx
