/- Texts cut at marks, and what is scanned of them. No program in sight. -/
import Derived.Test.YtbcplbkjeinplaaDoorChrP3
set_option linter.unusedVariables false
set_option linter.unusedSimpArgs false
namespace Go.Lx
/-- A text cut at the first mark: what is ahead, what is behind, whether there is one. -/
def CutAt (l h r : List UInt8) (f : Bool) : Prop := (∀ u ∈ h, u ≠ 39) ∧ (f = true → l = h ++ 39 :: r) ∧ (f = false → h = l ∧ r = [])
/-- Where the scan stands: what is got, and what is behind the next mark, if there is one. -/
def ScanAt (s out rest : List UInt8) (f : Bool) : Prop := (f = true → dec s = (dec (39 :: rest)).map (out ++ ·)) ∧ (f = false → dec s = some out)
theorem dec_plain {h : List UInt8} (hh : ∀ u ∈ h, u ≠ 39) : dec h = some h := by
  have := dec_app h [] hh
  rw [List.append_nil, dec] at this
  rw [this]; simp
theorem CutAt.dec {l h t : List UInt8} {f : Bool} (hc : CutAt l h t f) : ScanAt l h t f := by
  obtain ⟨h1, h2, h3⟩ := hc
  refine ⟨fun hf => ?_, fun hf => ?_⟩
  · rw [h2 hf, dec_app h _ h1]
  · rw [← (h3 hf).1]; exact dec_plain h1
theorem CutAt.len {l h t : List UInt8} {f : Bool} (hc : CutAt l h t f) : h.length + t.length ≤ l.length := by
  obtain ⟨h1, h2, h3⟩ := hc
  cases f with
  | true => rw [h2 rfl]; simp
  | false => obtain ⟨e1, e2⟩ := h3 rfl; rw [e1, e2]; simp
theorem CutAt.lt {l h t : List UInt8} (hc : CutAt l h t true) : t.length < l.length := by
  rw [hc.2.1 rfl]; simp; omega
theorem ScanAt.step {s out r h t : List UInt8} {a b c : UInt8} {f : Bool} (hs : dec s = (dec (39 :: a :: b :: r)).map (out ++ ·)) (hx : hex2 a b = some c) (hc : CutAt r h t f) : ScanAt s (out ++ [c] ++ h) t f := by
  have hd := hc.dec
  rw [dec_esc, hx] at hs
  refine ⟨fun hf => ?_, fun hf => ?_⟩
  · have h1 := hd.1 hf
    rw [hs]
    show ((dec r).map (c :: ·)).map (out ++ ·) = _
    rw [h1, Option.map_map, Option.map_map]
    congr 1
    funext x
    simp
  · have h1 := hd.2 hf
    rw [hs]
    show ((dec r).map (c :: ·)).map (out ++ ·) = _
    rw [h1]
    simp
theorem pre_iff {s p : List UInt8} {i : Nat} : (s.take (i + p.length)).drop i = p ↔ p <+: s.drop i := by
  rw [List.drop_take, List.prefix_iff_eq_take, Nat.add_sub_cancel_left]
  exact eq_comm
theorem take_flat {s out : List UInt8} {i : Nat} {u : UInt8} (h : s.take i = out.flatMap byteP) (hp : byteP u <+: s.drop i) (hi : i ≤ s.length) : s.take (i + (byteP u).length) = (out ++ [u]).flatMap byteP ∧ i + (byteP u).length ≤ s.length := by
  obtain ⟨t, ht⟩ := hp
  have e : s = out.flatMap byteP ++ (byteP u ++ t) := by rw [ht, ← h, List.take_append_drop]
  have hl : (out.flatMap byteP).length = i := by rw [← h, List.length_take]; omega
  have hs : s.length = i + (byteP u).length + t.length := by rw [e]; simp [hl]; omega
  refine ⟨?_, by omega⟩
  rw [List.flatMap_append, e, ← List.append_assoc]
  have : (out.flatMap byteP ++ byteP u).length = i + (byteP u).length := by rw [List.length_append, hl]
  rw [List.take_append_of_le_length (by omega), List.take_of_length_le (by omega)]
  simp
theorem scan_stuck {s out : List UInt8} {i : Nat} (h95 : s ≠ [95]) (h : s.take i = out.flatMap byteP) (hi : i < s.length) (hn : ∀ c, ¬ byteP c <+: s.drop i) : scanP s = none :=
  scanP_stuck h95 (out := out) (rest := s.drop i) (by rw [← h, List.take_append_drop]) (by
    intro e
    have := congrArg List.length e
    rw [List.length_drop] at this
    simp at this; omega) hn
end Go.Lx
