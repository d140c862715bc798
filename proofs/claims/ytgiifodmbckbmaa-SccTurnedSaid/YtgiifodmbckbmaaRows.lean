/-
  No cell of these rows narrows 'for every input' (looked for: loops, veiled, ifaces, maps, wideKeys, modest, calm, conditions, laid).
  DERIVED. THE GIVEN ROWS OF THIS SEAT. 6 by the template 'for every input the law returns true; each argument reads behind the call as it read before'; 0 by the template 'total and deterministic' (their statements: YtgiifodmbckbmaaTotals.lean).
  GIVEN WITH THE SEED: the statements are not yours to turn. If you find one false, say at which input.
  Laid BY PROGRAM, IN A SANDBOX (cutbox-rows.mjs): the forced cells as the released guide's own fill.sh prints them over the translation 698504882bab8076… (all of the seat's roots in one cut). By AI agents, Wed Nov 11 2026. No macro, syntax, notation, axiom, sorry.
-/
import Derived.Test.YtgiifodmbckbmaaChecked
import GoSem.Claim
import GoSem.ClaimJoined
import GoSem.ClaimMapViews
import Derived.JoinedTies
import Derived.KernelRfl
namespace Go.Proofs.Ytgiifodmbckbmaa
/- THE CELL 'sum', in the pinned program and in every row, IS THE sha256 OF THE DUMP (.gsa) THAT YtgiifodmbckbmaaProg.lean LOADS. Nothing in Lean hashes anything: it is a label: what it is worth is what the hold of that sum in a sandbox is worth. -/
noncomputable def Try.pinned : Pinned := { name := "ytgiifodmbckbmaa", sum := "698504882bab807623de9fa1db8a24ec4310790904a225a7706088f439eaebf2", checked := Try.checked }
namespace Rows
def none {H : Type} : Left H := { results := [], args := [] }

/-- 'fuguelaw07.SccGroups': WHATEVER THE INPUT: true; the input reads as it did. -/
def sccGroupsSpec : ChangeSpec := { name := "sccGroups", fn := fun _ => fun
  | [d1, d2] => { results := [.lit (.bool true)], args := [d1, d2] }
  | _ => none }
def sccGroupsRow : OpenClaim := { program := "ytgiifodmbckbmaa", sum := "698504882bab807623de9fa1db8a24ec4310790904a225a7706088f439eaebf2", func := "fugue/fuguelaw07.SccGroups", spec := "sccGroups", unfollowed := true, recurses := true, apart := false }
def SccGroupsSaid : Prop := sccGroupsRow.holds Try.pinned (OpenSpec.ofChange sccGroupsSpec)

/-- ITS FALSE NEIGHBOUR: 'it returns false'. Refute it at one input. -/
def sccGroupsWrong : ChangeSpec := { name := "sccGroups", fn := fun _ => fun
  | [d1, d2] => { results := [.lit (.bool false)], args := [d1, d2] }
  | _ => none }
def SccGroupsWrongFalsely : Prop := sccGroupsRow.holds Try.pinned (OpenSpec.ofChange sccGroupsWrong)

/-- 'fuguelaw07.SccRow': WHATEVER THE INPUT: true; the input reads as it did. -/
def sccRowSpec : ChangeSpec := { name := "sccRow", fn := fun _ => fun
  | [d1, d2] => { results := [.lit (.bool true)], args := [d1, d2] }
  | _ => none }
def sccRowRow : OpenClaim := { program := "ytgiifodmbckbmaa", sum := "698504882bab807623de9fa1db8a24ec4310790904a225a7706088f439eaebf2", func := "fugue/fuguelaw07.SccRow", spec := "sccRow", unfollowed := true, recurses := true, apart := false }
def SccRowSaid : Prop := sccRowRow.holds Try.pinned (OpenSpec.ofChange sccRowSpec)

/-- ITS FALSE NEIGHBOUR: 'it returns false'. Refute it at one input. -/
def sccRowWrong : ChangeSpec := { name := "sccRow", fn := fun _ => fun
  | [d1, d2] => { results := [.lit (.bool false)], args := [d1, d2] }
  | _ => none }
def SccRowWrongFalsely : Prop := sccRowRow.holds Try.pinned (OpenSpec.ofChange sccRowWrong)

/-- 'fuguelaw07.SccOwns': WHATEVER THE INPUT: true; the input reads as it did. -/
def sccOwnsSpec : ChangeSpec := { name := "sccOwns", fn := fun _ => fun
  | [d1, d2, d3] => { results := [.lit (.bool true)], args := [d1, d2, d3] }
  | _ => none }
def sccOwnsRow : OpenClaim := { program := "ytgiifodmbckbmaa", sum := "698504882bab807623de9fa1db8a24ec4310790904a225a7706088f439eaebf2", func := "fugue/fuguelaw07.SccOwns", spec := "sccOwns", unfollowed := true, recurses := true, apart := false }
def SccOwnsSaid : Prop := sccOwnsRow.holds Try.pinned (OpenSpec.ofChange sccOwnsSpec)

/-- ITS FALSE NEIGHBOUR: 'it returns false'. Refute it at one input. -/
def sccOwnsWrong : ChangeSpec := { name := "sccOwns", fn := fun _ => fun
  | [d1, d2, d3] => { results := [.lit (.bool false)], args := [d1, d2, d3] }
  | _ => none }
def SccOwnsWrongFalsely : Prop := sccOwnsRow.holds Try.pinned (OpenSpec.ofChange sccOwnsWrong)

/-- 'fuguelaw07.SccTurned': WHATEVER THE INPUT: true; the input reads as it did. -/
def sccTurnedSpec : ChangeSpec := { name := "sccTurned", fn := fun _ => fun
  | [d1, d2] => { results := [.lit (.bool true)], args := [d1, d2] }
  | _ => none }
def sccTurnedRow : OpenClaim := { program := "ytgiifodmbckbmaa", sum := "698504882bab807623de9fa1db8a24ec4310790904a225a7706088f439eaebf2", func := "fugue/fuguelaw07.SccTurned", spec := "sccTurned", unfollowed := true, recurses := true, apart := false }
def SccTurnedSaid : Prop := sccTurnedRow.holds Try.pinned (OpenSpec.ofChange sccTurnedSpec)

/-- ITS FALSE NEIGHBOUR: 'it returns false'. Refute it at one input. -/
def sccTurnedWrong : ChangeSpec := { name := "sccTurned", fn := fun _ => fun
  | [d1, d2] => { results := [.lit (.bool false)], args := [d1, d2] }
  | _ => none }
def SccTurnedWrongFalsely : Prop := sccTurnedRow.holds Try.pinned (OpenSpec.ofChange sccTurnedWrong)

/-- 'fuguelaw07.SccReaches': WHATEVER THE INPUT: true; the input reads as it did. -/
def sccReachesSpec : ChangeSpec := { name := "sccReaches", fn := fun _ => fun
  | [d1, d2, d3, d4] => { results := [.lit (.bool true)], args := [d1, d2, d3, d4] }
  | _ => none }
def sccReachesRow : OpenClaim := { program := "ytgiifodmbckbmaa", sum := "698504882bab807623de9fa1db8a24ec4310790904a225a7706088f439eaebf2", func := "fugue/fuguelaw07.SccReaches", spec := "sccReaches", unfollowed := true, recurses := true, apart := false }
def SccReachesSaid : Prop := sccReachesRow.holds Try.pinned (OpenSpec.ofChange sccReachesSpec)

/-- ITS FALSE NEIGHBOUR: 'it returns false'. Refute it at one input. -/
def sccReachesWrong : ChangeSpec := { name := "sccReaches", fn := fun _ => fun
  | [d1, d2, d3, d4] => { results := [.lit (.bool false)], args := [d1, d2, d3, d4] }
  | _ => none }
def SccReachesWrongFalsely : Prop := sccReachesRow.holds Try.pinned (OpenSpec.ofChange sccReachesWrong)

/-- 'fuguelaw07.SccOne': WHATEVER THE INPUT: true; the input reads as it did. -/
def sccOneSpec : ChangeSpec := { name := "sccOne", fn := fun _ => fun
  | [d1, d2, d3, d4] => { results := [.lit (.bool true)], args := [d1, d2, d3, d4] }
  | _ => none }
def sccOneRow : OpenClaim := { program := "ytgiifodmbckbmaa", sum := "698504882bab807623de9fa1db8a24ec4310790904a225a7706088f439eaebf2", func := "fugue/fuguelaw07.SccOne", spec := "sccOne", unfollowed := true, recurses := true, apart := false }
def SccOneSaid : Prop := sccOneRow.holds Try.pinned (OpenSpec.ofChange sccOneSpec)

/-- ITS FALSE NEIGHBOUR: 'it returns false'. Refute it at one input. -/
def sccOneWrong : ChangeSpec := { name := "sccOne", fn := fun _ => fun
  | [d1, d2, d3, d4] => { results := [.lit (.bool false)], args := [d1, d2, d3, d4] }
  | _ => none }
def SccOneWrongFalsely : Prop := sccOneRow.holds Try.pinned (OpenSpec.ofChange sccOneWrong)

/- THE SECOND FORM. 'bulk': how many values and letters a reading holds, each counted each time it is reached (what is shared counts as often as it is met; a slice's spare places count too). A statement '..UptoSaid' is the law's where the arguments, and the package variables that the reading takes, are together of bulk at most 1048576: NARROWER than '..Said'. Prove '..Said' where nothing that the law and all that it calls make is longer than what came in: it says more and counts as full. Else prove '..UptoSaid'. A law counts once. -/
mutual
def uptoBulk {H : Type} : DataW H → Nat
  | .lit (.string bytes) => bytes.length + 1
  | .lit _ => 1
  | .nil => 1
  | .ptr d => uptoBulk d + 1
  | .slice elems spare => uptoBulkAll elems + uptoBulkAll spare + 1
  | .agg parts => uptoBulkAll parts + 1
  | .iface _ d => uptoBulk d + 1
  | .map entries => uptoBulkEntries entries + 1
  | .held _ => 1
def uptoBulkAll {H : Type} : List (DataW H) → Nat
  | [] => 0
  | d :: r => uptoBulk d + uptoBulkAll r
def uptoBulkEntries {H : Type} : List (Lit × DataW H) → Nat
  | [] => 0
  | x :: r => uptoBulkEntry x + uptoBulkEntries r
def uptoBulkEntry {H : Type} : Lit × DataW H → Nat
  | (.string bytes, d) => bytes.length + uptoBulk d + 1
  | (_, d) => uptoBulk d + 1
 end
def uptoSmall : (H : Type) → List (DataW H) → Bool := fun _ ds => decide (uptoBulkAll ds ≤ 1048576)
def OpenSpec.upto (s : _root_.Go.ChangeSpec) : _root_.Go.OpenSpec := { _root_.Go.OpenSpec.ofChange s with cond := some uptoSmall }

/-- 'fuguelaw07.SccGroups', WHERE WHAT IT READS IS OF BULK AT MOST 1048576: true; the input reads as it did. -/
def sccGroupsUptoRow : OpenClaim := { program := "ytgiifodmbckbmaa", sum := "698504882bab807623de9fa1db8a24ec4310790904a225a7706088f439eaebf2", func := "fugue/fuguelaw07.SccGroups", spec := "sccGroups", unfollowed := true, recurses := true, apart := false, narrowed := true }
def SccGroupsUptoSaid : Prop := sccGroupsUptoRow.holds Try.pinned (OpenSpec.upto sccGroupsSpec)

/-- 'fuguelaw07.SccRow', WHERE WHAT IT READS IS OF BULK AT MOST 1048576: true; the input reads as it did. -/
def sccRowUptoRow : OpenClaim := { program := "ytgiifodmbckbmaa", sum := "698504882bab807623de9fa1db8a24ec4310790904a225a7706088f439eaebf2", func := "fugue/fuguelaw07.SccRow", spec := "sccRow", unfollowed := true, recurses := true, apart := false, narrowed := true }
def SccRowUptoSaid : Prop := sccRowUptoRow.holds Try.pinned (OpenSpec.upto sccRowSpec)

/-- 'fuguelaw07.SccOwns', WHERE WHAT IT READS IS OF BULK AT MOST 1048576: true; the input reads as it did. -/
def sccOwnsUptoRow : OpenClaim := { program := "ytgiifodmbckbmaa", sum := "698504882bab807623de9fa1db8a24ec4310790904a225a7706088f439eaebf2", func := "fugue/fuguelaw07.SccOwns", spec := "sccOwns", unfollowed := true, recurses := true, apart := false, narrowed := true }
def SccOwnsUptoSaid : Prop := sccOwnsUptoRow.holds Try.pinned (OpenSpec.upto sccOwnsSpec)

/-- 'fuguelaw07.SccTurned', WHERE WHAT IT READS IS OF BULK AT MOST 1048576: true; the input reads as it did. -/
def sccTurnedUptoRow : OpenClaim := { program := "ytgiifodmbckbmaa", sum := "698504882bab807623de9fa1db8a24ec4310790904a225a7706088f439eaebf2", func := "fugue/fuguelaw07.SccTurned", spec := "sccTurned", unfollowed := true, recurses := true, apart := false, narrowed := true }
def SccTurnedUptoSaid : Prop := sccTurnedUptoRow.holds Try.pinned (OpenSpec.upto sccTurnedSpec)

/-- 'fuguelaw07.SccReaches', WHERE WHAT IT READS IS OF BULK AT MOST 1048576: true; the input reads as it did. -/
def sccReachesUptoRow : OpenClaim := { program := "ytgiifodmbckbmaa", sum := "698504882bab807623de9fa1db8a24ec4310790904a225a7706088f439eaebf2", func := "fugue/fuguelaw07.SccReaches", spec := "sccReaches", unfollowed := true, recurses := true, apart := false, narrowed := true }
def SccReachesUptoSaid : Prop := sccReachesUptoRow.holds Try.pinned (OpenSpec.upto sccReachesSpec)

/-- 'fuguelaw07.SccOne', WHERE WHAT IT READS IS OF BULK AT MOST 1048576: true; the input reads as it did. -/
def sccOneUptoRow : OpenClaim := { program := "ytgiifodmbckbmaa", sum := "698504882bab807623de9fa1db8a24ec4310790904a225a7706088f439eaebf2", func := "fugue/fuguelaw07.SccOne", spec := "sccOne", unfollowed := true, recurses := true, apart := false, narrowed := true }
def SccOneUptoSaid : Prop := sccOneUptoRow.holds Try.pinned (OpenSpec.upto sccOneSpec)

end Rows
end Go.Proofs.Ytgiifodmbckbmaa
