/-
  No cell of these rows narrows 'for every input' (looked for: loops, veiled, ifaces, maps, wideKeys, modest, calm, conditions, laid).
  DERIVED. THE GIVEN ROWS OF THIS SEAT. 7 by the template 'for every input the law returns true; each argument reads behind the call as it read before'; 0 by the template 'total and deterministic' (their statements: YtkjahcegjplbnaaTotals.lean).
  GIVEN WITH THE SEED: the statements are not yours to turn. If you find one false, say at which input.
  Laid BY PROGRAM, IN A SANDBOX (cutbox-rows.mjs): the forced cells as the released guide's own fill.sh prints them over the translation ff27a89d5e464550… (all of the seat's roots in one cut). By AI agents, Wed Nov 11 2026. No macro, syntax, notation, axiom, sorry.
-/
import Derived.Test.YtkjahcegjplbnaaChecked
import GoSem.Claim
import GoSem.ClaimJoined
import GoSem.ClaimMapViews
import Derived.JoinedTies
import Derived.KernelRfl
namespace Go.Proofs.Ytkjahcegjplbnaa
/- THE CELL 'sum', in the pinned program and in every row, IS THE sha256 OF THE DUMP (.gsa) THAT YtkjahcegjplbnaaProg.lean LOADS. Nothing in Lean hashes anything: it is a label: what it is worth is what the hold of that sum in a sandbox is worth. -/
noncomputable def Try.pinned : Pinned := { name := "ytkjahcegjplbnaa", sum := "ff27a89d5e464550bdd3bbcd2b1acc72828b5a1d28473a6f394c48aa3180c3d5", checked := Try.checked }
namespace Rows
def none {H : Type} : Left H := { results := [], args := [] }

/-- 'fuguelaw03.KindsPrints': WHATEVER THE INPUT: true; the input reads as it did. -/
def kindsPrintsSpec : ChangeSpec := { name := "kindsPrints", fn := fun _ => fun
  | [d] => { results := [.lit (.bool true)], args := [d] }
  | _ => none }
def kindsPrintsRow : OpenClaim := { program := "ytkjahcegjplbnaa", sum := "ff27a89d5e464550bdd3bbcd2b1acc72828b5a1d28473a6f394c48aa3180c3d5", func := "fugue/fuguelaw03.KindsPrints", spec := "kindsPrints", inPlace := ["internal/abi.NoEscape"], recurses := true, apart := false }
def KindsPrintsSaid : Prop := kindsPrintsRow.holds Try.pinned (OpenSpec.ofChange kindsPrintsSpec)

/-- ITS FALSE NEIGHBOUR: 'it returns false'. Refute it at one input. -/
def kindsPrintsWrong : ChangeSpec := { name := "kindsPrints", fn := fun _ => fun
  | [d] => { results := [.lit (.bool false)], args := [d] }
  | _ => none }
def KindsPrintsWrongFalsely : Prop := kindsPrintsRow.holds Try.pinned (OpenSpec.ofChange kindsPrintsWrong)

/-- 'fuguelaw03.KindsReads': WHATEVER THE INPUT: true; the input reads as it did. -/
def kindsReadsSpec : ChangeSpec := { name := "kindsReads", fn := fun _ => fun
  | [d1, d2, d3, d4] => { results := [.lit (.bool true)], args := [d1, d2, d3, d4] }
  | _ => none }
def kindsReadsRow : OpenClaim := { program := "ytkjahcegjplbnaa", sum := "ff27a89d5e464550bdd3bbcd2b1acc72828b5a1d28473a6f394c48aa3180c3d5", func := "fugue/fuguelaw03.KindsReads", spec := "kindsReads", inPlace := ["internal/abi.NoEscape"], recurses := true, apart := false }
def KindsReadsSaid : Prop := kindsReadsRow.holds Try.pinned (OpenSpec.ofChange kindsReadsSpec)

/-- ITS FALSE NEIGHBOUR: 'it returns false'. Refute it at one input. -/
def kindsReadsWrong : ChangeSpec := { name := "kindsReads", fn := fun _ => fun
  | [d1, d2, d3, d4] => { results := [.lit (.bool false)], args := [d1, d2, d3, d4] }
  | _ => none }
def KindsReadsWrongFalsely : Prop := kindsReadsRow.holds Try.pinned (OpenSpec.ofChange kindsReadsWrong)

/-- 'fuguelaw03.KindsArrows': WHATEVER THE INPUT: true; the input reads as it did. -/
def kindsArrowsSpec : ChangeSpec := { name := "kindsArrows", fn := fun _ => fun
  | [d1, d2] => { results := [.lit (.bool true)], args := [d1, d2] }
  | _ => none }
def kindsArrowsRow : OpenClaim := { program := "ytkjahcegjplbnaa", sum := "ff27a89d5e464550bdd3bbcd2b1acc72828b5a1d28473a6f394c48aa3180c3d5", func := "fugue/fuguelaw03.KindsArrows", spec := "kindsArrows", inPlace := ["internal/abi.NoEscape"], unfollowed := true, recurses := true, apart := false }
def KindsArrowsSaid : Prop := kindsArrowsRow.holds Try.pinned (OpenSpec.ofChange kindsArrowsSpec)

/-- ITS FALSE NEIGHBOUR: 'it returns false'. Refute it at one input. -/
def kindsArrowsWrong : ChangeSpec := { name := "kindsArrows", fn := fun _ => fun
  | [d1, d2] => { results := [.lit (.bool false)], args := [d1, d2] }
  | _ => none }
def KindsArrowsWrongFalsely : Prop := kindsArrowsRow.holds Try.pinned (OpenSpec.ofChange kindsArrowsWrong)

/-- 'fuguelaw03.KindsRow': WHATEVER THE INPUT: true; the input reads as it did. -/
def kindsRowSpec : ChangeSpec := { name := "kindsRow", fn := fun _ => fun
  | [d] => { results := [.lit (.bool true)], args := [d] }
  | _ => none }
def kindsRowRow : OpenClaim := { program := "ytkjahcegjplbnaa", sum := "ff27a89d5e464550bdd3bbcd2b1acc72828b5a1d28473a6f394c48aa3180c3d5", func := "fugue/fuguelaw03.KindsRow", spec := "kindsRow", inPlace := ["maps.clone", "internal/abi.NoEscape"], unfollowed := true, recurses := true, apart := false }
def KindsRowSaid : Prop := kindsRowRow.holds Try.pinned (OpenSpec.ofChange kindsRowSpec)

/-- ITS FALSE NEIGHBOUR: 'it returns false'. Refute it at one input. -/
def kindsRowWrong : ChangeSpec := { name := "kindsRow", fn := fun _ => fun
  | [d] => { results := [.lit (.bool false)], args := [d] }
  | _ => none }
def KindsRowWrongFalsely : Prop := kindsRowRow.holds Try.pinned (OpenSpec.ofChange kindsRowWrong)

/-- 'fuguelaw03.KindsLeast': WHATEVER THE INPUT: true; the input reads as it did. -/
def kindsLeastSpec : ChangeSpec := { name := "kindsLeast", fn := fun _ => fun
  | [d1, d2] => { results := [.lit (.bool true)], args := [d1, d2] }
  | _ => none }
def kindsLeastRow : OpenClaim := { program := "ytkjahcegjplbnaa", sum := "ff27a89d5e464550bdd3bbcd2b1acc72828b5a1d28473a6f394c48aa3180c3d5", func := "fugue/fuguelaw03.KindsLeast", spec := "kindsLeast", inPlace := ["maps.clone", "internal/abi.NoEscape"], unfollowed := true, recurses := true, apart := false }
def KindsLeastSaid : Prop := kindsLeastRow.holds Try.pinned (OpenSpec.ofChange kindsLeastSpec)

/-- ITS FALSE NEIGHBOUR: 'it returns false'. Refute it at one input. -/
def kindsLeastWrong : ChangeSpec := { name := "kindsLeast", fn := fun _ => fun
  | [d1, d2] => { results := [.lit (.bool false)], args := [d1, d2] }
  | _ => none }
def KindsLeastWrongFalsely : Prop := kindsLeastRow.holds Try.pinned (OpenSpec.ofChange kindsLeastWrong)

/-- 'fuguelaw03.KindsSolves': WHATEVER THE INPUT: true; the input reads as it did. -/
def kindsSolvesSpec : ChangeSpec := { name := "kindsSolves", fn := fun _ => fun
  | [d] => { results := [.lit (.bool true)], args := [d] }
  | _ => none }
def kindsSolvesRow : OpenClaim := { program := "ytkjahcegjplbnaa", sum := "ff27a89d5e464550bdd3bbcd2b1acc72828b5a1d28473a6f394c48aa3180c3d5", func := "fugue/fuguelaw03.KindsSolves", spec := "kindsSolves", inPlace := ["maps.clone", "internal/abi.NoEscape"], unfollowed := true, recurses := true, apart := false }
def KindsSolvesSaid : Prop := kindsSolvesRow.holds Try.pinned (OpenSpec.ofChange kindsSolvesSpec)

/-- ITS FALSE NEIGHBOUR: 'it returns false'. Refute it at one input. -/
def kindsSolvesWrong : ChangeSpec := { name := "kindsSolves", fn := fun _ => fun
  | [d] => { results := [.lit (.bool false)], args := [d] }
  | _ => none }
def KindsSolvesWrongFalsely : Prop := kindsSolvesRow.holds Try.pinned (OpenSpec.ofChange kindsSolvesWrong)

/-- 'fuguelaw03.KindsOf': WHATEVER THE INPUT: true; the input reads as it did. -/
def kindsOfSpec : ChangeSpec := { name := "kindsOf", fn := fun _ => fun
  | [d1, d2] => { results := [.lit (.bool true)], args := [d1, d2] }
  | _ => none }
def kindsOfRow : OpenClaim := { program := "ytkjahcegjplbnaa", sum := "ff27a89d5e464550bdd3bbcd2b1acc72828b5a1d28473a6f394c48aa3180c3d5", func := "fugue/fuguelaw03.KindsOf", spec := "kindsOf", inPlace := ["maps.clone", "internal/abi.NoEscape"], unfollowed := true, recurses := true, apart := false }
def KindsOfSaid : Prop := kindsOfRow.holds Try.pinned (OpenSpec.ofChange kindsOfSpec)

/-- ITS FALSE NEIGHBOUR: 'it returns false'. Refute it at one input. -/
def kindsOfWrong : ChangeSpec := { name := "kindsOf", fn := fun _ => fun
  | [d1, d2] => { results := [.lit (.bool false)], args := [d1, d2] }
  | _ => none }
def KindsOfWrongFalsely : Prop := kindsOfRow.holds Try.pinned (OpenSpec.ofChange kindsOfWrong)

/- THE SECOND FORM. 'bulk': how many values and letters a reading holds, each counted each time it is reached (what is shared counts as often as it is met; a slice's spare places count too). A statement '..UptoSaid' is the law's where the arguments, and the package variables that the reading takes, are together of bulk at most 1048576: NARROWER than '..Said'. Prove '..Said' where nothing that the law and all that it calls make is longer than what came in: it says more and counts as full. Else prove '..UptoSaid'. A law counts once. -/
mutual
def uptoBulk {H : Type} : DataW H → Nat
  | .lit (.string bytes) => bytes.length + 1
  | .lit _ => 1
  | .nil => 1
  | .ptr d => uptoBulk d + 1
  | .slice elems spare => uptoBulkAll elems + uptoBulkAll spare + 1
  | .agg parts => uptoBulkAll parts + 1
  | .iface _ d => uptoBulk d + 1
  | .map entries => uptoBulkEntries entries + 1
  | .held _ => 1
def uptoBulkAll {H : Type} : List (DataW H) → Nat
  | [] => 0
  | d :: r => uptoBulk d + uptoBulkAll r
def uptoBulkEntries {H : Type} : List (Lit × DataW H) → Nat
  | [] => 0
  | x :: r => uptoBulkEntry x + uptoBulkEntries r
def uptoBulkEntry {H : Type} : Lit × DataW H → Nat
  | (.string bytes, d) => bytes.length + uptoBulk d + 1
  | (_, d) => uptoBulk d + 1
 end
def uptoSmall : (H : Type) → List (DataW H) → Bool := fun _ ds => decide (uptoBulkAll ds ≤ 1048576)
def OpenSpec.upto (s : _root_.Go.ChangeSpec) : _root_.Go.OpenSpec := { _root_.Go.OpenSpec.ofChange s with cond := some uptoSmall }

/-- 'fuguelaw03.KindsPrints', WHERE WHAT IT READS IS OF BULK AT MOST 1048576: true; the input reads as it did. -/
def kindsPrintsUptoRow : OpenClaim := { program := "ytkjahcegjplbnaa", sum := "ff27a89d5e464550bdd3bbcd2b1acc72828b5a1d28473a6f394c48aa3180c3d5", func := "fugue/fuguelaw03.KindsPrints", spec := "kindsPrints", inPlace := ["internal/abi.NoEscape"], recurses := true, apart := false, narrowed := true }
def KindsPrintsUptoSaid : Prop := kindsPrintsUptoRow.holds Try.pinned (OpenSpec.upto kindsPrintsSpec)

/-- 'fuguelaw03.KindsReads', WHERE WHAT IT READS IS OF BULK AT MOST 1048576: true; the input reads as it did. -/
def kindsReadsUptoRow : OpenClaim := { program := "ytkjahcegjplbnaa", sum := "ff27a89d5e464550bdd3bbcd2b1acc72828b5a1d28473a6f394c48aa3180c3d5", func := "fugue/fuguelaw03.KindsReads", spec := "kindsReads", inPlace := ["internal/abi.NoEscape"], recurses := true, apart := false, narrowed := true }
def KindsReadsUptoSaid : Prop := kindsReadsUptoRow.holds Try.pinned (OpenSpec.upto kindsReadsSpec)

/-- 'fuguelaw03.KindsArrows', WHERE WHAT IT READS IS OF BULK AT MOST 1048576: true; the input reads as it did. -/
def kindsArrowsUptoRow : OpenClaim := { program := "ytkjahcegjplbnaa", sum := "ff27a89d5e464550bdd3bbcd2b1acc72828b5a1d28473a6f394c48aa3180c3d5", func := "fugue/fuguelaw03.KindsArrows", spec := "kindsArrows", inPlace := ["internal/abi.NoEscape"], unfollowed := true, recurses := true, apart := false, narrowed := true }
def KindsArrowsUptoSaid : Prop := kindsArrowsUptoRow.holds Try.pinned (OpenSpec.upto kindsArrowsSpec)

/-- 'fuguelaw03.KindsRow', WHERE WHAT IT READS IS OF BULK AT MOST 1048576: true; the input reads as it did. -/
def kindsRowUptoRow : OpenClaim := { program := "ytkjahcegjplbnaa", sum := "ff27a89d5e464550bdd3bbcd2b1acc72828b5a1d28473a6f394c48aa3180c3d5", func := "fugue/fuguelaw03.KindsRow", spec := "kindsRow", inPlace := ["maps.clone", "internal/abi.NoEscape"], unfollowed := true, recurses := true, apart := false, narrowed := true }
def KindsRowUptoSaid : Prop := kindsRowUptoRow.holds Try.pinned (OpenSpec.upto kindsRowSpec)

/-- 'fuguelaw03.KindsLeast', WHERE WHAT IT READS IS OF BULK AT MOST 1048576: true; the input reads as it did. -/
def kindsLeastUptoRow : OpenClaim := { program := "ytkjahcegjplbnaa", sum := "ff27a89d5e464550bdd3bbcd2b1acc72828b5a1d28473a6f394c48aa3180c3d5", func := "fugue/fuguelaw03.KindsLeast", spec := "kindsLeast", inPlace := ["maps.clone", "internal/abi.NoEscape"], unfollowed := true, recurses := true, apart := false, narrowed := true }
def KindsLeastUptoSaid : Prop := kindsLeastUptoRow.holds Try.pinned (OpenSpec.upto kindsLeastSpec)

/-- 'fuguelaw03.KindsSolves', WHERE WHAT IT READS IS OF BULK AT MOST 1048576: true; the input reads as it did. -/
def kindsSolvesUptoRow : OpenClaim := { program := "ytkjahcegjplbnaa", sum := "ff27a89d5e464550bdd3bbcd2b1acc72828b5a1d28473a6f394c48aa3180c3d5", func := "fugue/fuguelaw03.KindsSolves", spec := "kindsSolves", inPlace := ["maps.clone", "internal/abi.NoEscape"], unfollowed := true, recurses := true, apart := false, narrowed := true }
def KindsSolvesUptoSaid : Prop := kindsSolvesUptoRow.holds Try.pinned (OpenSpec.upto kindsSolvesSpec)

/-- 'fuguelaw03.KindsOf', WHERE WHAT IT READS IS OF BULK AT MOST 1048576: true; the input reads as it did. -/
def kindsOfUptoRow : OpenClaim := { program := "ytkjahcegjplbnaa", sum := "ff27a89d5e464550bdd3bbcd2b1acc72828b5a1d28473a6f394c48aa3180c3d5", func := "fugue/fuguelaw03.KindsOf", spec := "kindsOf", inPlace := ["maps.clone", "internal/abi.NoEscape"], unfollowed := true, recurses := true, apart := false, narrowed := true }
def KindsOfUptoSaid : Prop := kindsOfUptoRow.holds Try.pinned (OpenSpec.upto kindsOfSpec)

end Rows
end Go.Proofs.Ytkjahcegjplbnaa
