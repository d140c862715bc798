/-
  No cell of these rows narrows 'for every input' (looked for: loops, veiled, ifaces, maps, wideKeys, modest, calm, conditions, laid).
  DERIVED. THE GIVEN ROWS OF THIS SEAT. 8 by the template 'for every input the law returns true; each argument reads behind the call as it read before'; 0 by the template 'total and deterministic' (their statements: YtoekjhalcjhegaaTotals.lean).
  GIVEN WITH THE SEED: the statements are not yours to turn. If you find one false, say at which input.
  Laid BY PROGRAM, IN A SANDBOX (cutbox-rows.mjs): the forced cells as the released guide's own fill.sh prints them over the translation e15904807141b9ab… (all of the seat's roots in one cut). By AI agents, Wed Nov 11 2026. No macro, syntax, notation, axiom, sorry.
-/
import Derived.Test.YtoekjhalcjhegaaChecked
import GoSem.Claim
import GoSem.ClaimJoined
import GoSem.ClaimMapViews
import Derived.JoinedTies
import Derived.KernelRfl
namespace Go.Proofs.Ytoekjhalcjhegaa
/- THE CELL 'sum', in the pinned program and in every row, IS THE sha256 OF THE DUMP (.gsa) THAT YtoekjhalcjhegaaProg.lean LOADS. Nothing in Lean hashes anything: it is a label: what it is worth is what the hold of that sum in a sandbox is worth. -/
noncomputable def Try.pinned : Pinned := { name := "ytoekjhalcjhegaa", sum := "e15904807141b9abd24035ac39bcc3874c2152b0b9107efddacda683e4b38cb5", checked := Try.checked }
namespace Rows
def none {H : Type} : Left H := { results := [], args := [] }

/-- 'fuguelaw27.HeapRoom': WHATEVER THE INPUT: true; the input reads as it did. -/
def heapRoomSpec : ChangeSpec := { name := "heapRoom", fn := fun _ => fun
  | [d1, d2] => { results := [.lit (.bool true)], args := [d1, d2] }
  | _ => none }
def heapRoomRow : OpenClaim := { program := "ytoekjhalcjhegaa", sum := "e15904807141b9abd24035ac39bcc3874c2152b0b9107efddacda683e4b38cb5", func := "fugue/fuguelaw27.HeapRoom", spec := "heapRoom", unfollowed := true, recurses := true, apart := false }
def HeapRoomSaid : Prop := heapRoomRow.holds Try.pinned (OpenSpec.ofChange heapRoomSpec)

/-- ITS FALSE NEIGHBOUR: 'it returns false'. Refute it at one input. -/
def heapRoomWrong : ChangeSpec := { name := "heapRoom", fn := fun _ => fun
  | [d1, d2] => { results := [.lit (.bool false)], args := [d1, d2] }
  | _ => none }
def HeapRoomWrongFalsely : Prop := heapRoomRow.holds Try.pinned (OpenSpec.ofChange heapRoomWrong)

/-- 'fuguelaw27.HeapPlays': WHATEVER THE INPUT: true; the input reads as it did. -/
def heapPlaysSpec : ChangeSpec := { name := "heapPlays", fn := fun _ => fun
  | [d1, d2] => { results := [.lit (.bool true)], args := [d1, d2] }
  | _ => none }
def heapPlaysRow : OpenClaim := { program := "ytoekjhalcjhegaa", sum := "e15904807141b9abd24035ac39bcc3874c2152b0b9107efddacda683e4b38cb5", func := "fugue/fuguelaw27.HeapPlays", spec := "heapPlays", unfollowed := true, recurses := true, apart := false }
def HeapPlaysSaid : Prop := heapPlaysRow.holds Try.pinned (OpenSpec.ofChange heapPlaysSpec)

/-- ITS FALSE NEIGHBOUR: 'it returns false'. Refute it at one input. -/
def heapPlaysWrong : ChangeSpec := { name := "heapPlays", fn := fun _ => fun
  | [d1, d2] => { results := [.lit (.bool false)], args := [d1, d2] }
  | _ => none }
def HeapPlaysWrongFalsely : Prop := heapPlaysRow.holds Try.pinned (OpenSpec.ofChange heapPlaysWrong)

/-- 'fuguelaw27.HeapSees': WHATEVER THE INPUT: true; the input reads as it did. -/
def heapSeesSpec : ChangeSpec := { name := "heapSees", fn := fun _ => fun
  | [d1, d2, d3] => { results := [.lit (.bool true)], args := [d1, d2, d3] }
  | _ => none }
def heapSeesRow : OpenClaim := { program := "ytoekjhalcjhegaa", sum := "e15904807141b9abd24035ac39bcc3874c2152b0b9107efddacda683e4b38cb5", func := "fugue/fuguelaw27.HeapSees", spec := "heapSees", unfollowed := true, recurses := true, apart := false }
def HeapSeesSaid : Prop := heapSeesRow.holds Try.pinned (OpenSpec.ofChange heapSeesSpec)

/-- ITS FALSE NEIGHBOUR: 'it returns false'. Refute it at one input. -/
def heapSeesWrong : ChangeSpec := { name := "heapSees", fn := fun _ => fun
  | [d1, d2, d3] => { results := [.lit (.bool false)], args := [d1, d2, d3] }
  | _ => none }
def HeapSeesWrongFalsely : Prop := heapSeesRow.holds Try.pinned (OpenSpec.ofChange heapSeesWrong)

/-- 'fuguelaw27.HeapLeast': WHATEVER THE INPUT: true; the input reads as it did. -/
def heapLeastSpec : ChangeSpec := { name := "heapLeast", fn := fun _ => fun
  | [d1, d2] => { results := [.lit (.bool true)], args := [d1, d2] }
  | _ => none }
def heapLeastRow : OpenClaim := { program := "ytoekjhalcjhegaa", sum := "e15904807141b9abd24035ac39bcc3874c2152b0b9107efddacda683e4b38cb5", func := "fugue/fuguelaw27.HeapLeast", spec := "heapLeast", unfollowed := true, recurses := true, apart := false }
def HeapLeastSaid : Prop := heapLeastRow.holds Try.pinned (OpenSpec.ofChange heapLeastSpec)

/-- ITS FALSE NEIGHBOUR: 'it returns false'. Refute it at one input. -/
def heapLeastWrong : ChangeSpec := { name := "heapLeast", fn := fun _ => fun
  | [d1, d2] => { results := [.lit (.bool false)], args := [d1, d2] }
  | _ => none }
def HeapLeastWrongFalsely : Prop := heapLeastRow.holds Try.pinned (OpenSpec.ofChange heapLeastWrong)

/-- 'fuguelaw27.HeapFollows': WHATEVER THE INPUT: true; the input reads as it did. -/
def heapFollowsSpec : ChangeSpec := { name := "heapFollows", fn := fun _ => fun
  | [d1, d2, d3] => { results := [.lit (.bool true)], args := [d1, d2, d3] }
  | _ => none }
def heapFollowsRow : OpenClaim := { program := "ytoekjhalcjhegaa", sum := "e15904807141b9abd24035ac39bcc3874c2152b0b9107efddacda683e4b38cb5", func := "fugue/fuguelaw27.HeapFollows", spec := "heapFollows", unfollowed := true, recurses := true, apart := false }
def HeapFollowsSaid : Prop := heapFollowsRow.holds Try.pinned (OpenSpec.ofChange heapFollowsSpec)

/-- ITS FALSE NEIGHBOUR: 'it returns false'. Refute it at one input. -/
def heapFollowsWrong : ChangeSpec := { name := "heapFollows", fn := fun _ => fun
  | [d1, d2, d3] => { results := [.lit (.bool false)], args := [d1, d2, d3] }
  | _ => none }
def HeapFollowsWrongFalsely : Prop := heapFollowsRow.holds Try.pinned (OpenSpec.ofChange heapFollowsWrong)

/-- 'fuguelaw27.HeapOwn': WHATEVER THE INPUT: true; the input reads as it did. -/
def heapOwnSpec : ChangeSpec := { name := "heapOwn", fn := fun _ => fun
  | [d1, d2] => { results := [.lit (.bool true)], args := [d1, d2] }
  | _ => none }
def heapOwnRow : OpenClaim := { program := "ytoekjhalcjhegaa", sum := "e15904807141b9abd24035ac39bcc3874c2152b0b9107efddacda683e4b38cb5", func := "fugue/fuguelaw27.HeapOwn", spec := "heapOwn", unfollowed := true, recurses := true, apart := false }
def HeapOwnSaid : Prop := heapOwnRow.holds Try.pinned (OpenSpec.ofChange heapOwnSpec)

/-- ITS FALSE NEIGHBOUR: 'it returns false'. Refute it at one input. -/
def heapOwnWrong : ChangeSpec := { name := "heapOwn", fn := fun _ => fun
  | [d1, d2] => { results := [.lit (.bool false)], args := [d1, d2] }
  | _ => none }
def HeapOwnWrongFalsely : Prop := heapOwnRow.holds Try.pinned (OpenSpec.ofChange heapOwnWrong)

/-- 'fuguelaw27.HeapRow': WHATEVER THE INPUT: true; the input reads as it did. -/
def heapRowSpec : ChangeSpec := { name := "heapRow", fn := fun _ => fun
  | [d1, d2] => { results := [.lit (.bool true)], args := [d1, d2] }
  | _ => none }
def heapRowRow : OpenClaim := { program := "ytoekjhalcjhegaa", sum := "e15904807141b9abd24035ac39bcc3874c2152b0b9107efddacda683e4b38cb5", func := "fugue/fuguelaw27.HeapRow", spec := "heapRow", unfollowed := true, recurses := true, apart := false }
def HeapRowSaid : Prop := heapRowRow.holds Try.pinned (OpenSpec.ofChange heapRowSpec)

/-- ITS FALSE NEIGHBOUR: 'it returns false'. Refute it at one input. -/
def heapRowWrong : ChangeSpec := { name := "heapRow", fn := fun _ => fun
  | [d1, d2] => { results := [.lit (.bool false)], args := [d1, d2] }
  | _ => none }
def HeapRowWrongFalsely : Prop := heapRowRow.holds Try.pinned (OpenSpec.ofChange heapRowWrong)

/-- 'fuguelaw27.HeapCounts': WHATEVER THE INPUT: true; the input reads as it did. -/
def heapCountsSpec : ChangeSpec := { name := "heapCounts", fn := fun _ => fun
  | [d1, d2] => { results := [.lit (.bool true)], args := [d1, d2] }
  | _ => none }
def heapCountsRow : OpenClaim := { program := "ytoekjhalcjhegaa", sum := "e15904807141b9abd24035ac39bcc3874c2152b0b9107efddacda683e4b38cb5", func := "fugue/fuguelaw27.HeapCounts", spec := "heapCounts", unfollowed := true, recurses := true, apart := false }
def HeapCountsSaid : Prop := heapCountsRow.holds Try.pinned (OpenSpec.ofChange heapCountsSpec)

/-- ITS FALSE NEIGHBOUR: 'it returns false'. Refute it at one input. -/
def heapCountsWrong : ChangeSpec := { name := "heapCounts", fn := fun _ => fun
  | [d1, d2] => { results := [.lit (.bool false)], args := [d1, d2] }
  | _ => none }
def HeapCountsWrongFalsely : Prop := heapCountsRow.holds Try.pinned (OpenSpec.ofChange heapCountsWrong)

/- THE SECOND FORM. 'bulk': how many values and letters a reading holds, each counted each time it is reached (what is shared counts as often as it is met; a slice's spare places count too). A statement '..UptoSaid' is the law's where the arguments, and the package variables that the reading takes, are together of bulk at most 1048576: NARROWER than '..Said'. Prove '..Said' where nothing that the law and all that it calls make is longer than what came in: it says more and counts as full. Else prove '..UptoSaid'. A law counts once. -/
mutual
def uptoBulk {H : Type} : DataW H → Nat
  | .lit (.string bytes) => bytes.length + 1
  | .lit _ => 1
  | .nil => 1
  | .ptr d => uptoBulk d + 1
  | .slice elems spare => uptoBulkAll elems + uptoBulkAll spare + 1
  | .agg parts => uptoBulkAll parts + 1
  | .iface _ d => uptoBulk d + 1
  | .map entries => uptoBulkEntries entries + 1
  | .held _ => 1
def uptoBulkAll {H : Type} : List (DataW H) → Nat
  | [] => 0
  | d :: r => uptoBulk d + uptoBulkAll r
def uptoBulkEntries {H : Type} : List (Lit × DataW H) → Nat
  | [] => 0
  | x :: r => uptoBulkEntry x + uptoBulkEntries r
def uptoBulkEntry {H : Type} : Lit × DataW H → Nat
  | (.string bytes, d) => bytes.length + uptoBulk d + 1
  | (_, d) => uptoBulk d + 1
 end
def uptoSmall : (H : Type) → List (DataW H) → Bool := fun _ ds => decide (uptoBulkAll ds ≤ 1048576)
def OpenSpec.upto (s : _root_.Go.ChangeSpec) : _root_.Go.OpenSpec := { _root_.Go.OpenSpec.ofChange s with cond := some uptoSmall }

/-- 'fuguelaw27.HeapRoom', WHERE WHAT IT READS IS OF BULK AT MOST 1048576: true; the input reads as it did. -/
def heapRoomUptoRow : OpenClaim := { program := "ytoekjhalcjhegaa", sum := "e15904807141b9abd24035ac39bcc3874c2152b0b9107efddacda683e4b38cb5", func := "fugue/fuguelaw27.HeapRoom", spec := "heapRoom", unfollowed := true, recurses := true, apart := false, narrowed := true }
def HeapRoomUptoSaid : Prop := heapRoomUptoRow.holds Try.pinned (OpenSpec.upto heapRoomSpec)

/-- 'fuguelaw27.HeapPlays', WHERE WHAT IT READS IS OF BULK AT MOST 1048576: true; the input reads as it did. -/
def heapPlaysUptoRow : OpenClaim := { program := "ytoekjhalcjhegaa", sum := "e15904807141b9abd24035ac39bcc3874c2152b0b9107efddacda683e4b38cb5", func := "fugue/fuguelaw27.HeapPlays", spec := "heapPlays", unfollowed := true, recurses := true, apart := false, narrowed := true }
def HeapPlaysUptoSaid : Prop := heapPlaysUptoRow.holds Try.pinned (OpenSpec.upto heapPlaysSpec)

/-- 'fuguelaw27.HeapSees', WHERE WHAT IT READS IS OF BULK AT MOST 1048576: true; the input reads as it did. -/
def heapSeesUptoRow : OpenClaim := { program := "ytoekjhalcjhegaa", sum := "e15904807141b9abd24035ac39bcc3874c2152b0b9107efddacda683e4b38cb5", func := "fugue/fuguelaw27.HeapSees", spec := "heapSees", unfollowed := true, recurses := true, apart := false, narrowed := true }
def HeapSeesUptoSaid : Prop := heapSeesUptoRow.holds Try.pinned (OpenSpec.upto heapSeesSpec)

/-- 'fuguelaw27.HeapLeast', WHERE WHAT IT READS IS OF BULK AT MOST 1048576: true; the input reads as it did. -/
def heapLeastUptoRow : OpenClaim := { program := "ytoekjhalcjhegaa", sum := "e15904807141b9abd24035ac39bcc3874c2152b0b9107efddacda683e4b38cb5", func := "fugue/fuguelaw27.HeapLeast", spec := "heapLeast", unfollowed := true, recurses := true, apart := false, narrowed := true }
def HeapLeastUptoSaid : Prop := heapLeastUptoRow.holds Try.pinned (OpenSpec.upto heapLeastSpec)

/-- 'fuguelaw27.HeapFollows', WHERE WHAT IT READS IS OF BULK AT MOST 1048576: true; the input reads as it did. -/
def heapFollowsUptoRow : OpenClaim := { program := "ytoekjhalcjhegaa", sum := "e15904807141b9abd24035ac39bcc3874c2152b0b9107efddacda683e4b38cb5", func := "fugue/fuguelaw27.HeapFollows", spec := "heapFollows", unfollowed := true, recurses := true, apart := false, narrowed := true }
def HeapFollowsUptoSaid : Prop := heapFollowsUptoRow.holds Try.pinned (OpenSpec.upto heapFollowsSpec)

/-- 'fuguelaw27.HeapOwn', WHERE WHAT IT READS IS OF BULK AT MOST 1048576: true; the input reads as it did. -/
def heapOwnUptoRow : OpenClaim := { program := "ytoekjhalcjhegaa", sum := "e15904807141b9abd24035ac39bcc3874c2152b0b9107efddacda683e4b38cb5", func := "fugue/fuguelaw27.HeapOwn", spec := "heapOwn", unfollowed := true, recurses := true, apart := false, narrowed := true }
def HeapOwnUptoSaid : Prop := heapOwnUptoRow.holds Try.pinned (OpenSpec.upto heapOwnSpec)

/-- 'fuguelaw27.HeapRow', WHERE WHAT IT READS IS OF BULK AT MOST 1048576: true; the input reads as it did. -/
def heapRowUptoRow : OpenClaim := { program := "ytoekjhalcjhegaa", sum := "e15904807141b9abd24035ac39bcc3874c2152b0b9107efddacda683e4b38cb5", func := "fugue/fuguelaw27.HeapRow", spec := "heapRow", unfollowed := true, recurses := true, apart := false, narrowed := true }
def HeapRowUptoSaid : Prop := heapRowUptoRow.holds Try.pinned (OpenSpec.upto heapRowSpec)

/-- 'fuguelaw27.HeapCounts', WHERE WHAT IT READS IS OF BULK AT MOST 1048576: true; the input reads as it did. -/
def heapCountsUptoRow : OpenClaim := { program := "ytoekjhalcjhegaa", sum := "e15904807141b9abd24035ac39bcc3874c2152b0b9107efddacda683e4b38cb5", func := "fugue/fuguelaw27.HeapCounts", spec := "heapCounts", unfollowed := true, recurses := true, apart := false, narrowed := true }
def HeapCountsUptoSaid : Prop := heapCountsUptoRow.holds Try.pinned (OpenSpec.upto heapCountsSpec)

end Rows
end Go.Proofs.Ytoekjhalcjhegaa
