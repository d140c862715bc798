/- Bytes in print: a letter or a digit as it is, else a mark and two signs. No program in sight. -/
import Derived.Test.YtbcplbkjeinplaaDoorLexG
set_option linter.unusedVariables false
set_option linter.unusedSimpArgs false
namespace Go.Lx
def sixteen : List UInt8 := [48, 49, 50, 51, 52, 53, 54, 55, 56, 57, 97, 98, 99, 100, 101, 102]
def byteP (c : UInt8) : List UInt8 := if plain c then [c] else [39] ++ (sixteen.take (c.toNat / 16 + 1)).drop (c.toNat / 16) ++ (sixteen.take (c.toNat % 16 + 1)).drop (c.toNat % 16)
def printP (s : List UInt8) : List UInt8 := if s = [] then [95] else s.flatMap byteP
theorem byteP_len (c : UInt8) : (byteP c).length ≤ 3 := by
  unfold byteP
  split
  · simp
  · have h := c.toNat_lt
    simp only [List.length_append, List.length_drop, List.length_take, List.length_singleton, sixteen, List.length_cons, List.length_nil]; omega
theorem flatP_len : ∀ s : List UInt8, (s.flatMap byteP).length ≤ 3 * s.length
  | [] => Nat.le_refl _
  | c :: s => by
    have h1 := byteP_len c
    have h2 := flatP_len s
    simp only [List.flatMap_cons, List.length_append, List.length_cons]; omega
theorem printP_len (s : List UInt8) : (printP s).length ≤ 3 * s.length + 1 := by
  unfold printP
  split
  · simp
  · have := flatP_len s; omega
theorem flatP_take {s : List UInt8} {p : Nat} {c : UInt8} (h : s[p]? = some c) : (s.take (p + 1)).flatMap byteP = (s.take p).flatMap byteP ++ byteP c := by
  rw [List.take_add_one, h]; simp
end Go.Lx
