/- Signs, names, tokens: what the walks show to be computed. No program in sight. -/
import Derived.Test.YtbcplbkjeinplaaDoorEng19
set_option linter.unusedVariables false
namespace Go.Lx
def dig (c : UInt8) : Bool := decide (48 ≤ c.toNat) && decide (c.toNat ≤ 57)
def low (c : UInt8) : Bool := decide (97 ≤ c.toNat) && decide (c.toNat ≤ 122)
def upp (c : UInt8) : Bool := decide (65 ≤ c.toNat) && decide (c.toNat ≤ 90)
def plain (c : UInt8) : Bool := low c || upp c || dig c
def sign (c : UInt8) : Bool := plain c || decide (c.toNat = 39) || decide (c.toNat = 95)
def fst (lo hi : Nat) (s : List UInt8) : Bool := s.head?.all fun c => decide (lo ≤ c.toNat) && decide (c.toNat ≤ hi)
def isName (lo hi : Nat) (s : List UInt8) : Bool := !s.isEmpty && (decide (s.length ≤ 32) && (s.all sign && fst lo hi s))
theorem plain_iff (c : UInt8) : plain c = true ↔ (97 ≤ c.toNat ∧ c.toNat ≤ 122) ∨ (65 ≤ c.toNat ∧ c.toNat ≤ 90) ∨ (48 ≤ c.toNat ∧ c.toNat ≤ 57) := by
  simp [plain, low, upp, dig, or_assoc]
theorem sign_lt {c : UInt8} (h : sign c = true) : c.toNat < 128 := by
  simp only [sign, Bool.or_eq_true, decide_eq_true_eq] at h
  rw [plain_iff] at h
  omega
theorem isName_iff {lo hi : Nat} {s : List UInt8} : isName lo hi s = true ↔ s ≠ [] ∧ s.length ≤ 32 ∧ s.all sign = true ∧ fst lo hi s = true := by
  simp only [isName, Bool.and_eq_true, decide_eq_true_eq, Bool.not_eq_true', ne_eq, List.isEmpty_eq_false_iff]
theorem isName_false {lo hi : Nat} {s : List UInt8} {p : Nat} {c : UInt8} (h : s[p]? = some c) (hc : sign c = false) : isName lo hi s = false := by
  cases hn : isName lo hi s with
  | false => rfl
  | true =>
    have := (isName_iff.1 hn).2.2.1
    rw [List.all_eq_true] at this
    have h2 := this c (List.mem_of_getElem? h)
    rw [hc] at h2; cases h2
theorem all_take_succ {s : List UInt8} {p : Nat} {c : UInt8} {f : UInt8 → Bool} (h : s[p]? = some c) (h1 : (s.take p).all f = true) (h2 : f c = true) : (s.take (p + 1)).all f = true := by
  rw [List.take_add_one, h, List.all_append, h1]
  simp [h2]
end Go.Lx
