/- A byte as the text of its sign. No program in sight. -/
import Derived.Test.YtbcplbkjeinplaaDoorLexG2
set_option linter.unusedVariables false
namespace Go.Lx
open Go
theorem enc1 (r : Nat) (c1 : r < 128) : (Utf8.encode (r : Int)).data.toList = [UInt8.ofNat r] := by
  have v : Utf8.valid (r : Int) = true := by simp [Utf8.valid]; omega
  simp [Utf8.encode, v, c1]
theorem enc2 (r : Nat) (c1 : ¬ r < 128) (c2 : r < 2048) : (Utf8.encode (r : Int)).data.toList = [UInt8.ofNat (192 + r / 64), UInt8.ofNat (128 + r % 64)] := by
  have v : Utf8.valid (r : Int) = true := by simp [Utf8.valid]; omega
  simp [Utf8.encode, v, c1, c2]
def enc (c : UInt8) : List UInt8 := if c.toNat < 128 then [c] else [UInt8.ofNat (192 + c.toNat / 64), UInt8.ofNat (128 + c.toNat % 64)]
theorem ofNat_toNat (c : UInt8) : UInt8.ofNat c.toNat = c := by simp
theorem enc_lo {c : UInt8} (h : c.toNat < 128) : enc c = [c] := if_pos h
theorem enc_two {c : UInt8} (h : ¬ c.toNat < 128) : enc c = [UInt8.ofNat (192 + c.toNat / 64), UInt8.ofNat (128 + c.toNat % 64)] := if_neg h
/-- Why not by definition: the kernel would count to 55296. -/
theorem enc_eq (c : UInt8) : (Utf8.encode ((c.toNat : Nat) : Int)).data.toList = enc c := by
  by_cases h : c.toNat < 128
  · have h1 := enc1 c.toNat h
    rw [ofNat_toNat] at h1
    exact h1.trans (enc_lo h).symm
  · exact (enc2 c.toNat h (by have := c.toNat_lt; omega)).trans (enc_two h).symm
theorem enc_hi {c : UInt8} (h : 128 ≤ c.toNat) : ∃ a r, enc c = a :: r ∧ 192 ≤ a.toNat := by
  have hl := c.toNat_lt
  refine ⟨UInt8.ofNat (192 + c.toNat / 64), [UInt8.ofNat (128 + c.toNat % 64)], enc_two (by omega), ?_⟩
  have h5 : 192 + c.toNat / 64 < 256 := by omega
  simp [UInt8.toNat_ofNat', Nat.mod_eq_of_lt h5]
theorem enc_len (c : UInt8) : (enc c).length ≤ 4 := by
  by_cases h : c.toNat < 128
  · rw [enc_lo h]; simp
  · rw [enc_two h]; simp
theorem isName_enc (c : UInt8) (lo hi : Nat) (hh : hi < 128) : isName lo hi (enc c) = (sign c && (decide (lo ≤ c.toNat) && decide (c.toNat ≤ hi))) := by
  by_cases h : c.toNat < 128
  · rw [enc_lo h]
    simp [isName, fst]
  · obtain ⟨a, r, he, ha⟩ := enc_hi (c := c) (by omega)
    rw [he]
    have h1 : decide (a.toNat ≤ hi) = false := decide_eq_false (by omega)
    have h2 : decide (c.toNat ≤ hi) = false := decide_eq_false (by omega)
    simp only [isName, fst, List.head?_cons, Option.all_some, h1, h2, Bool.and_false]
theorem isLow_enc (c : UInt8) : isName 97 122 (enc c) = low c := by
  rw [isName_enc c 97 122 (by decide)]
  cases h : low c with
  | true =>
    have : sign c = true := by simp [sign, plain, h]
    rw [this]; exact h
  | false =>
    have : (decide (97 ≤ c.toNat) && decide (c.toNat ≤ 122)) = false := h
    rw [this, Bool.and_false]
theorem isUpp_enc (c : UInt8) : isName 65 90 (enc c) = upp c := by
  rw [isName_enc c 65 90 (by decide)]
  cases h : upp c with
  | true =>
    have : sign c = true := by simp [sign, plain, h]
    rw [this]; exact h
  | false =>
    have : (decide (65 ≤ c.toNat) && decide (c.toNat ≤ 90)) = false := h
    rw [this, Bool.and_false]
end Go.Lx
