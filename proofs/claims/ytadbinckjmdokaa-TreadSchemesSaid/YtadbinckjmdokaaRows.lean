/-
  No cell of these rows narrows 'for every input' (looked for: loops, veiled, ifaces, maps, wideKeys, modest, calm, conditions, laid).
  DERIVED. THE GIVEN ROWS OF THIS SEAT. 4 by the template 'for every input the law returns true; each argument reads behind the call as it read before'; 0 by the template 'total and deterministic' (their statements: YtadbinckjmdokaaTotals.lean).
  GIVEN WITH THE SEED: the statements are not yours to turn. If you find one false, say at which input.
  Laid BY PROGRAM, IN A SANDBOX (cutbox-rows.mjs): the forced cells as the released guide's own fill.sh prints them over the translation 39014dba1bf66710… (all of the seat's roots in one cut). By AI agents, Wed Nov 11 2026. No macro, syntax, notation, axiom, sorry.
-/
import Derived.Test.YtadbinckjmdokaaChecked
import GoSem.Claim
import GoSem.ClaimJoined
import GoSem.ClaimMapViews
import Derived.JoinedTies
import Derived.KernelRfl
namespace Go.Proofs.Ytadbinckjmdokaa
/- THE CELL 'sum', in the pinned program and in every row, IS THE sha256 OF THE DUMP (.gsa) THAT YtadbinckjmdokaaProg.lean LOADS. Nothing in Lean hashes anything: it is a label: what it is worth is what the hold of that sum in a sandbox is worth. -/
noncomputable def Try.pinned : Pinned := { name := "ytadbinckjmdokaa", sum := "39014dba1bf667103633c4a67acab3a945ceb459f1c54c2c5d8dc8f5b5a13862", checked := Try.checked }
namespace Rows
def none {H : Type} : Left H := { results := [], args := [] }

/-- 'fuguelaw05.TreadSchemes': WHATEVER THE INPUT: true; the input reads as it did. -/
def treadSchemesSpec : ChangeSpec := { name := "treadSchemes", fn := fun _ => fun
  | [d1, d2, d3, d4] => { results := [.lit (.bool true)], args := [d1, d2, d3, d4] }
  | _ => none }
def treadSchemesRow : OpenClaim := { program := "ytadbinckjmdokaa", sum := "39014dba1bf667103633c4a67acab3a945ceb459f1c54c2c5d8dc8f5b5a13862", func := "fugue/fuguelaw05.TreadSchemes", spec := "treadSchemes", inPlace := ["internal/bytealg.IndexByteString"], unfollowed := true, recurses := true, apart := false }
def TreadSchemesSaid : Prop := treadSchemesRow.holds Try.pinned (OpenSpec.ofChange treadSchemesSpec)

/-- ITS FALSE NEIGHBOUR: 'it returns false'. Refute it at one input. -/
def treadSchemesWrong : ChangeSpec := { name := "treadSchemes", fn := fun _ => fun
  | [d1, d2, d3, d4] => { results := [.lit (.bool false)], args := [d1, d2, d3, d4] }
  | _ => none }
def TreadSchemesWrongFalsely : Prop := treadSchemesRow.holds Try.pinned (OpenSpec.ofChange treadSchemesWrong)

/-- 'fuguelaw05.TreadPlaces': WHATEVER THE INPUT: true; the input reads as it did. -/
def treadPlacesSpec : ChangeSpec := { name := "treadPlaces", fn := fun _ => fun
  | [d1, d2] => { results := [.lit (.bool true)], args := [d1, d2] }
  | _ => none }
def treadPlacesRow : OpenClaim := { program := "ytadbinckjmdokaa", sum := "39014dba1bf667103633c4a67acab3a945ceb459f1c54c2c5d8dc8f5b5a13862", func := "fugue/fuguelaw05.TreadPlaces", spec := "treadPlaces", inPlace := ["internal/bytealg.IndexByteString"], unfollowed := true, recurses := true, apart := false }
def TreadPlacesSaid : Prop := treadPlacesRow.holds Try.pinned (OpenSpec.ofChange treadPlacesSpec)

/-- ITS FALSE NEIGHBOUR: 'it returns false'. Refute it at one input. -/
def treadPlacesWrong : ChangeSpec := { name := "treadPlaces", fn := fun _ => fun
  | [d1, d2] => { results := [.lit (.bool false)], args := [d1, d2] }
  | _ => none }
def TreadPlacesWrongFalsely : Prop := treadPlacesRow.holds Try.pinned (OpenSpec.ofChange treadPlacesWrong)

/-- 'fuguelaw05.TreadTypes': WHATEVER THE INPUT: true; the input reads as it did. -/
def treadTypesSpec : ChangeSpec := { name := "treadTypes", fn := fun _ => fun
  | [d1, d2, d3, d4] => { results := [.lit (.bool true)], args := [d1, d2, d3, d4] }
  | _ => none }
def treadTypesRow : OpenClaim := { program := "ytadbinckjmdokaa", sum := "39014dba1bf667103633c4a67acab3a945ceb459f1c54c2c5d8dc8f5b5a13862", func := "fugue/fuguelaw05.TreadTypes", spec := "treadTypes", inPlace := ["internal/bytealg.IndexByteString"], unfollowed := true, recurses := true, apart := false }
def TreadTypesSaid : Prop := treadTypesRow.holds Try.pinned (OpenSpec.ofChange treadTypesSpec)

/-- ITS FALSE NEIGHBOUR: 'it returns false'. Refute it at one input. -/
def treadTypesWrong : ChangeSpec := { name := "treadTypes", fn := fun _ => fun
  | [d1, d2, d3, d4] => { results := [.lit (.bool false)], args := [d1, d2, d3, d4] }
  | _ => none }
def TreadTypesWrongFalsely : Prop := treadTypesRow.holds Try.pinned (OpenSpec.ofChange treadTypesWrong)

/-- 'fuguelaw05.TreadDeep': WHATEVER THE INPUT: true; the input reads as it did. -/
def treadDeepSpec : ChangeSpec := { name := "treadDeep", fn := fun _ => fun
  | [d1, d2] => { results := [.lit (.bool true)], args := [d1, d2] }
  | _ => none }
def treadDeepRow : OpenClaim := { program := "ytadbinckjmdokaa", sum := "39014dba1bf667103633c4a67acab3a945ceb459f1c54c2c5d8dc8f5b5a13862", func := "fugue/fuguelaw05.TreadDeep", spec := "treadDeep", inPlace := ["internal/bytealg.IndexByteString"], unfollowed := true, recurses := true, apart := false }
def TreadDeepSaid : Prop := treadDeepRow.holds Try.pinned (OpenSpec.ofChange treadDeepSpec)

/-- ITS FALSE NEIGHBOUR: 'it returns false'. Refute it at one input. -/
def treadDeepWrong : ChangeSpec := { name := "treadDeep", fn := fun _ => fun
  | [d1, d2] => { results := [.lit (.bool false)], args := [d1, d2] }
  | _ => none }
def TreadDeepWrongFalsely : Prop := treadDeepRow.holds Try.pinned (OpenSpec.ofChange treadDeepWrong)

/- THE SECOND FORM. 'bulk': how many values and letters a reading holds, each counted each time it is reached (what is shared counts as often as it is met; a slice's spare places count too). A statement '..UptoSaid' is the law's where the arguments, and the package variables that the reading takes, are together of bulk at most 1048576: NARROWER than '..Said'. Prove '..Said' where nothing that the law and all that it calls make is longer than what came in: it says more and counts as full. Else prove '..UptoSaid'. A law counts once. -/
mutual
def uptoBulk {H : Type} : DataW H → Nat
  | .lit (.string bytes) => bytes.length + 1
  | .lit _ => 1
  | .nil => 1
  | .ptr d => uptoBulk d + 1
  | .slice elems spare => uptoBulkAll elems + uptoBulkAll spare + 1
  | .agg parts => uptoBulkAll parts + 1
  | .iface _ d => uptoBulk d + 1
  | .map entries => uptoBulkEntries entries + 1
  | .held _ => 1
def uptoBulkAll {H : Type} : List (DataW H) → Nat
  | [] => 0
  | d :: r => uptoBulk d + uptoBulkAll r
def uptoBulkEntries {H : Type} : List (Lit × DataW H) → Nat
  | [] => 0
  | x :: r => uptoBulkEntry x + uptoBulkEntries r
def uptoBulkEntry {H : Type} : Lit × DataW H → Nat
  | (.string bytes, d) => bytes.length + uptoBulk d + 1
  | (_, d) => uptoBulk d + 1
 end
def uptoSmall : (H : Type) → List (DataW H) → Bool := fun _ ds => decide (uptoBulkAll ds ≤ 1048576)
def OpenSpec.upto (s : _root_.Go.ChangeSpec) : _root_.Go.OpenSpec := { _root_.Go.OpenSpec.ofChange s with cond := some uptoSmall }

/-- 'fuguelaw05.TreadSchemes', WHERE WHAT IT READS IS OF BULK AT MOST 1048576: true; the input reads as it did. -/
def treadSchemesUptoRow : OpenClaim := { program := "ytadbinckjmdokaa", sum := "39014dba1bf667103633c4a67acab3a945ceb459f1c54c2c5d8dc8f5b5a13862", func := "fugue/fuguelaw05.TreadSchemes", spec := "treadSchemes", inPlace := ["internal/bytealg.IndexByteString"], unfollowed := true, recurses := true, apart := false, narrowed := true }
def TreadSchemesUptoSaid : Prop := treadSchemesUptoRow.holds Try.pinned (OpenSpec.upto treadSchemesSpec)

/-- 'fuguelaw05.TreadPlaces', WHERE WHAT IT READS IS OF BULK AT MOST 1048576: true; the input reads as it did. -/
def treadPlacesUptoRow : OpenClaim := { program := "ytadbinckjmdokaa", sum := "39014dba1bf667103633c4a67acab3a945ceb459f1c54c2c5d8dc8f5b5a13862", func := "fugue/fuguelaw05.TreadPlaces", spec := "treadPlaces", inPlace := ["internal/bytealg.IndexByteString"], unfollowed := true, recurses := true, apart := false, narrowed := true }
def TreadPlacesUptoSaid : Prop := treadPlacesUptoRow.holds Try.pinned (OpenSpec.upto treadPlacesSpec)

/-- 'fuguelaw05.TreadTypes', WHERE WHAT IT READS IS OF BULK AT MOST 1048576: true; the input reads as it did. -/
def treadTypesUptoRow : OpenClaim := { program := "ytadbinckjmdokaa", sum := "39014dba1bf667103633c4a67acab3a945ceb459f1c54c2c5d8dc8f5b5a13862", func := "fugue/fuguelaw05.TreadTypes", spec := "treadTypes", inPlace := ["internal/bytealg.IndexByteString"], unfollowed := true, recurses := true, apart := false, narrowed := true }
def TreadTypesUptoSaid : Prop := treadTypesUptoRow.holds Try.pinned (OpenSpec.upto treadTypesSpec)

/-- 'fuguelaw05.TreadDeep', WHERE WHAT IT READS IS OF BULK AT MOST 1048576: true; the input reads as it did. -/
def treadDeepUptoRow : OpenClaim := { program := "ytadbinckjmdokaa", sum := "39014dba1bf667103633c4a67acab3a945ceb459f1c54c2c5d8dc8f5b5a13862", func := "fugue/fuguelaw05.TreadDeep", spec := "treadDeep", inPlace := ["internal/bytealg.IndexByteString"], unfollowed := true, recurses := true, apart := false, narrowed := true }
def TreadDeepUptoSaid : Prop := treadDeepUptoRow.holds Try.pinned (OpenSpec.upto treadDeepSpec)

end Rows
end Go.Proofs.Ytadbinckjmdokaa
