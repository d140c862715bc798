/-
  No cell of these rows narrows 'for every input' (looked for: loops, veiled, ifaces, maps, wideKeys, modest, calm, conditions, laid).
  DERIVED. THE GIVEN ROWS OF THIS SEAT. 6 by the template 'for every input the law returns true; each argument reads behind the call as it read before'; 0 by the template 'total and deterministic' (their statements: YtlalagkkmoifpaaTotals.lean).
  GIVEN WITH THE SEED: the statements are not yours to turn. If you find one false, say at which input.
  Laid BY PROGRAM, IN A SANDBOX (cutbox-rows.mjs): the forced cells as the released guide's own fill.sh prints them over the translation d9f528eb5b2b6a8b… (all of the seat's roots in one cut). By AI agents, Wed Nov 11 2026. No macro, syntax, notation, axiom, sorry.
-/
import Derived.Test.YtlalagkkmoifpaaChecked
import GoSem.Claim
import GoSem.ClaimJoined
import GoSem.ClaimMapViews
import Derived.JoinedTies
import Derived.KernelRfl
namespace Go.Proofs.Ytlalagkkmoifpaa
/- THE CELL 'sum', in the pinned program and in every row, IS THE sha256 OF THE DUMP (.gsa) THAT YtlalagkkmoifpaaProg.lean LOADS. Nothing in Lean hashes anything: it is a label: what it is worth is what the hold of that sum in a sandbox is worth. -/
noncomputable def Try.pinned : Pinned := { name := "ytlalagkkmoifpaa", sum := "d9f528eb5b2b6a8bae6171d7f99d5e6efe976bf2cb899b0e6c4973fe649fc247", checked := Try.checked }
namespace Rows
def none {H : Type} : Left H := { results := [], args := [] }

/-- 'fuguelaw02.LexReads': WHATEVER THE INPUT: true; the input reads as it did. -/
def lexReadsSpec : ChangeSpec := { name := "lexReads", fn := fun _ => fun
  | [d1, d2, d3] => { results := [.lit (.bool true)], args := [d1, d2, d3] }
  | _ => none }
def lexReadsRow : OpenClaim := { program := "ytlalagkkmoifpaa", sum := "d9f528eb5b2b6a8bae6171d7f99d5e6efe976bf2cb899b0e6c4973fe649fc247", func := "fugue/fuguelaw02.LexReads", spec := "lexReads", inPlace := ["internal/bytealg.IndexByteString"], unfollowed := true, recurses := true, apart := false }
def LexReadsSaid : Prop := lexReadsRow.holds Try.pinned (OpenSpec.ofChange lexReadsSpec)

/-- ITS FALSE NEIGHBOUR: 'it returns false'. Refute it at one input. -/
def lexReadsWrong : ChangeSpec := { name := "lexReads", fn := fun _ => fun
  | [d1, d2, d3] => { results := [.lit (.bool false)], args := [d1, d2, d3] }
  | _ => none }
def LexReadsWrongFalsely : Prop := lexReadsRow.holds Try.pinned (OpenSpec.ofChange lexReadsWrong)

/-- 'fuguelaw02.LexBlanks': WHATEVER THE INPUT: true; the input reads as it did. -/
def lexBlanksSpec : ChangeSpec := { name := "lexBlanks", fn := fun _ => fun
  | [d1, d2, d3] => { results := [.lit (.bool true)], args := [d1, d2, d3] }
  | _ => none }
def lexBlanksRow : OpenClaim := { program := "ytlalagkkmoifpaa", sum := "d9f528eb5b2b6a8bae6171d7f99d5e6efe976bf2cb899b0e6c4973fe649fc247", func := "fugue/fuguelaw02.LexBlanks", spec := "lexBlanks", inPlace := ["internal/bytealg.IndexByteString"], unfollowed := true, recurses := true, apart := false }
def LexBlanksSaid : Prop := lexBlanksRow.holds Try.pinned (OpenSpec.ofChange lexBlanksSpec)

/-- ITS FALSE NEIGHBOUR: 'it returns false'. Refute it at one input. -/
def lexBlanksWrong : ChangeSpec := { name := "lexBlanks", fn := fun _ => fun
  | [d1, d2, d3] => { results := [.lit (.bool false)], args := [d1, d2, d3] }
  | _ => none }
def LexBlanksWrongFalsely : Prop := lexBlanksRow.holds Try.pinned (OpenSpec.ofChange lexBlanksWrong)

/-- 'fuguelaw02.LexPlaces': WHATEVER THE INPUT: true; the input reads as it did. -/
def lexPlacesSpec : ChangeSpec := { name := "lexPlaces", fn := fun _ => fun
  | [d1, d2] => { results := [.lit (.bool true)], args := [d1, d2] }
  | _ => none }
def lexPlacesRow : OpenClaim := { program := "ytlalagkkmoifpaa", sum := "d9f528eb5b2b6a8bae6171d7f99d5e6efe976bf2cb899b0e6c4973fe649fc247", func := "fugue/fuguelaw02.LexPlaces", spec := "lexPlaces", inPlace := ["internal/bytealg.IndexByteString"], unfollowed := true, recurses := true, apart := false }
def LexPlacesSaid : Prop := lexPlacesRow.holds Try.pinned (OpenSpec.ofChange lexPlacesSpec)

/-- ITS FALSE NEIGHBOUR: 'it returns false'. Refute it at one input. -/
def lexPlacesWrong : ChangeSpec := { name := "lexPlaces", fn := fun _ => fun
  | [d1, d2] => { results := [.lit (.bool false)], args := [d1, d2] }
  | _ => none }
def LexPlacesWrongFalsely : Prop := lexPlacesRow.holds Try.pinned (OpenSpec.ofChange lexPlacesWrong)

/-- 'fuguelaw02.LexLimits': WHATEVER THE INPUT: true; the input reads as it did. -/
def lexLimitsSpec : ChangeSpec := { name := "lexLimits", fn := fun _ => fun
  | [d1, d2, d3] => { results := [.lit (.bool true)], args := [d1, d2, d3] }
  | _ => none }
def lexLimitsRow : OpenClaim := { program := "ytlalagkkmoifpaa", sum := "d9f528eb5b2b6a8bae6171d7f99d5e6efe976bf2cb899b0e6c4973fe649fc247", func := "fugue/fuguelaw02.LexLimits", spec := "lexLimits", inPlace := ["internal/bytealg.IndexByteString"], unfollowed := true, recurses := true, apart := false }
def LexLimitsSaid : Prop := lexLimitsRow.holds Try.pinned (OpenSpec.ofChange lexLimitsSpec)

/-- ITS FALSE NEIGHBOUR: 'it returns false'. Refute it at one input. -/
def lexLimitsWrong : ChangeSpec := { name := "lexLimits", fn := fun _ => fun
  | [d1, d2, d3] => { results := [.lit (.bool false)], args := [d1, d2, d3] }
  | _ => none }
def LexLimitsWrongFalsely : Prop := lexLimitsRow.holds Try.pinned (OpenSpec.ofChange lexLimitsWrong)

/-- 'fuguelaw02.LexKeys': WHATEVER THE INPUT: true; the input reads as it did. -/
def lexKeysSpec : ChangeSpec := { name := "lexKeys", fn := fun _ => fun
  | [d1, d2] => { results := [.lit (.bool true)], args := [d1, d2] }
  | _ => none }
def lexKeysRow : OpenClaim := { program := "ytlalagkkmoifpaa", sum := "d9f528eb5b2b6a8bae6171d7f99d5e6efe976bf2cb899b0e6c4973fe649fc247", func := "fugue/fuguelaw02.LexKeys", spec := "lexKeys", inPlace := ["internal/bytealg.IndexByteString"], unfollowed := true, recurses := true, apart := false }
def LexKeysSaid : Prop := lexKeysRow.holds Try.pinned (OpenSpec.ofChange lexKeysSpec)

/-- ITS FALSE NEIGHBOUR: 'it returns false'. Refute it at one input. -/
def lexKeysWrong : ChangeSpec := { name := "lexKeys", fn := fun _ => fun
  | [d1, d2] => { results := [.lit (.bool false)], args := [d1, d2] }
  | _ => none }
def LexKeysWrongFalsely : Prop := lexKeysRow.holds Try.pinned (OpenSpec.ofChange lexKeysWrong)

/-- 'fuguelaw02.LexRound': WHATEVER THE INPUT: true; the input reads as it did. -/
def lexRoundSpec : ChangeSpec := { name := "lexRound", fn := fun _ => fun
  | [d1, d2] => { results := [.lit (.bool true)], args := [d1, d2] }
  | _ => none }
def lexRoundRow : OpenClaim := { program := "ytlalagkkmoifpaa", sum := "d9f528eb5b2b6a8bae6171d7f99d5e6efe976bf2cb899b0e6c4973fe649fc247", func := "fugue/fuguelaw02.LexRound", spec := "lexRound", inPlace := ["internal/bytealg.IndexByteString", "internal/abi.NoEscape", "internal/bytealg.MakeNoZero"], unfollowed := true, recurses := true, apart := false }
def LexRoundSaid : Prop := lexRoundRow.holds Try.pinned (OpenSpec.ofChange lexRoundSpec)

/-- ITS FALSE NEIGHBOUR: 'it returns false'. Refute it at one input. -/
def lexRoundWrong : ChangeSpec := { name := "lexRound", fn := fun _ => fun
  | [d1, d2] => { results := [.lit (.bool false)], args := [d1, d2] }
  | _ => none }
def LexRoundWrongFalsely : Prop := lexRoundRow.holds Try.pinned (OpenSpec.ofChange lexRoundWrong)

/- THE SECOND FORM. 'bulk': how many values and letters a reading holds, each counted each time it is reached (what is shared counts as often as it is met; a slice's spare places count too). A statement '..UptoSaid' is the law's where the arguments, and the package variables that the reading takes, are together of bulk at most 1048576: NARROWER than '..Said'. Prove '..Said' where nothing that the law and all that it calls make is longer than what came in: it says more and counts as full. Else prove '..UptoSaid'. A law counts once. -/
mutual
def uptoBulk {H : Type} : DataW H → Nat
  | .lit (.string bytes) => bytes.length + 1
  | .lit _ => 1
  | .nil => 1
  | .ptr d => uptoBulk d + 1
  | .slice elems spare => uptoBulkAll elems + uptoBulkAll spare + 1
  | .agg parts => uptoBulkAll parts + 1
  | .iface _ d => uptoBulk d + 1
  | .map entries => uptoBulkEntries entries + 1
  | .held _ => 1
def uptoBulkAll {H : Type} : List (DataW H) → Nat
  | [] => 0
  | d :: r => uptoBulk d + uptoBulkAll r
def uptoBulkEntries {H : Type} : List (Lit × DataW H) → Nat
  | [] => 0
  | x :: r => uptoBulkEntry x + uptoBulkEntries r
def uptoBulkEntry {H : Type} : Lit × DataW H → Nat
  | (.string bytes, d) => bytes.length + uptoBulk d + 1
  | (_, d) => uptoBulk d + 1
 end
def uptoSmall : (H : Type) → List (DataW H) → Bool := fun _ ds => decide (uptoBulkAll ds ≤ 1048576)
def OpenSpec.upto (s : _root_.Go.ChangeSpec) : _root_.Go.OpenSpec := { _root_.Go.OpenSpec.ofChange s with cond := some uptoSmall }

/-- 'fuguelaw02.LexReads', WHERE WHAT IT READS IS OF BULK AT MOST 1048576: true; the input reads as it did. -/
def lexReadsUptoRow : OpenClaim := { program := "ytlalagkkmoifpaa", sum := "d9f528eb5b2b6a8bae6171d7f99d5e6efe976bf2cb899b0e6c4973fe649fc247", func := "fugue/fuguelaw02.LexReads", spec := "lexReads", inPlace := ["internal/bytealg.IndexByteString"], unfollowed := true, recurses := true, apart := false, narrowed := true }
def LexReadsUptoSaid : Prop := lexReadsUptoRow.holds Try.pinned (OpenSpec.upto lexReadsSpec)

/-- 'fuguelaw02.LexBlanks', WHERE WHAT IT READS IS OF BULK AT MOST 1048576: true; the input reads as it did. -/
def lexBlanksUptoRow : OpenClaim := { program := "ytlalagkkmoifpaa", sum := "d9f528eb5b2b6a8bae6171d7f99d5e6efe976bf2cb899b0e6c4973fe649fc247", func := "fugue/fuguelaw02.LexBlanks", spec := "lexBlanks", inPlace := ["internal/bytealg.IndexByteString"], unfollowed := true, recurses := true, apart := false, narrowed := true }
def LexBlanksUptoSaid : Prop := lexBlanksUptoRow.holds Try.pinned (OpenSpec.upto lexBlanksSpec)

/-- 'fuguelaw02.LexPlaces', WHERE WHAT IT READS IS OF BULK AT MOST 1048576: true; the input reads as it did. -/
def lexPlacesUptoRow : OpenClaim := { program := "ytlalagkkmoifpaa", sum := "d9f528eb5b2b6a8bae6171d7f99d5e6efe976bf2cb899b0e6c4973fe649fc247", func := "fugue/fuguelaw02.LexPlaces", spec := "lexPlaces", inPlace := ["internal/bytealg.IndexByteString"], unfollowed := true, recurses := true, apart := false, narrowed := true }
def LexPlacesUptoSaid : Prop := lexPlacesUptoRow.holds Try.pinned (OpenSpec.upto lexPlacesSpec)

/-- 'fuguelaw02.LexLimits', WHERE WHAT IT READS IS OF BULK AT MOST 1048576: true; the input reads as it did. -/
def lexLimitsUptoRow : OpenClaim := { program := "ytlalagkkmoifpaa", sum := "d9f528eb5b2b6a8bae6171d7f99d5e6efe976bf2cb899b0e6c4973fe649fc247", func := "fugue/fuguelaw02.LexLimits", spec := "lexLimits", inPlace := ["internal/bytealg.IndexByteString"], unfollowed := true, recurses := true, apart := false, narrowed := true }
def LexLimitsUptoSaid : Prop := lexLimitsUptoRow.holds Try.pinned (OpenSpec.upto lexLimitsSpec)

/-- 'fuguelaw02.LexKeys', WHERE WHAT IT READS IS OF BULK AT MOST 1048576: true; the input reads as it did. -/
def lexKeysUptoRow : OpenClaim := { program := "ytlalagkkmoifpaa", sum := "d9f528eb5b2b6a8bae6171d7f99d5e6efe976bf2cb899b0e6c4973fe649fc247", func := "fugue/fuguelaw02.LexKeys", spec := "lexKeys", inPlace := ["internal/bytealg.IndexByteString"], unfollowed := true, recurses := true, apart := false, narrowed := true }
def LexKeysUptoSaid : Prop := lexKeysUptoRow.holds Try.pinned (OpenSpec.upto lexKeysSpec)

/-- 'fuguelaw02.LexRound', WHERE WHAT IT READS IS OF BULK AT MOST 1048576: true; the input reads as it did. -/
def lexRoundUptoRow : OpenClaim := { program := "ytlalagkkmoifpaa", sum := "d9f528eb5b2b6a8bae6171d7f99d5e6efe976bf2cb899b0e6c4973fe649fc247", func := "fugue/fuguelaw02.LexRound", spec := "lexRound", inPlace := ["internal/bytealg.IndexByteString", "internal/abi.NoEscape", "internal/bytealg.MakeNoZero"], unfollowed := true, recurses := true, apart := false, narrowed := true }
def LexRoundUptoSaid : Prop := lexRoundUptoRow.holds Try.pinned (OpenSpec.upto lexRoundSpec)

end Rows
end Go.Proofs.Ytlalagkkmoifpaa
