/- Facts on the types of the seat's program, written by gentypes.py. -/
import Derived.Test.YtbcplbkjeinplaaDoorEng19
import Derived.Test.YtbcplbkjeinplaaDoorChecked
set_option linter.unusedVariables false
set_option linter.unusedSimpArgs false
namespace Go.Proofs.YtbcplbkjeinplaaDoor.Chr
open Go Go.Eng Go.RowKit
theorem mo : Tryd.prog.follows .mixedOrders = true := by kernel_rfl
theorem vt2 : VarT Tryd.prog 2 := ⟨by kernel_rfl, by kernel_rfl⟩
theorem zt2 : (Tryd.prog.info? 2).map (·.zero) = some (some (.int .i64 0)) := by kernel_rfl
theorem ui2 : Tryd.prog.underlying 2 = some (.int .i64) := by kernel_rfl
theorem vt3 : VarT Tryd.prog 3 := ⟨by kernel_rfl, by kernel_rfl⟩
theorem zt3 : (Tryd.prog.info? 3).map (·.zero) = some (some (.int .i64 0)) := by kernel_rfl
theorem ui3 : Tryd.prog.underlying 3 = some (.int .i64) := by kernel_rfl
theorem vt4 : VarT Tryd.prog 4 := ⟨by kernel_rfl, by kernel_rfl⟩
theorem zt4 : (Tryd.prog.info? 4).map (·.zero) = some (some (.bool false)) := by kernel_rfl
theorem ub4 : Tryd.prog.underlying 4 = some .bool := by kernel_rfl
theorem vt5 : VarT Tryd.prog 5 := ⟨by kernel_rfl, by kernel_rfl⟩
theorem zt5 : (Tryd.prog.info? 5).map (·.zero) = some (some (.int .u8 0)) := by kernel_rfl
theorem ui5 : Tryd.prog.underlying 5 = some (.int .u8) := by kernel_rfl
theorem vt9 : VarT Tryd.prog 9 := ⟨by kernel_rfl, by kernel_rfl⟩
theorem zt9 : (Tryd.prog.info? 9).map (·.zero) = some (some (St [])) := by kernel_rfl
theorem us9 : Tryd.prog.underlying 9 = some .string := by kernel_rfl
theorem vt20 : VarT Tryd.prog 20 := ⟨by kernel_rfl, by kernel_rfl⟩
theorem zt20 : (Tryd.prog.info? 20).map (·.zero) = some (some (.nilIface)) := by kernel_rfl
theorem vt21 : VarT Tryd.prog 21 := ⟨by kernel_rfl, by kernel_rfl⟩
theorem zt21 : (Tryd.prog.info? 21).map (·.zero) = some (some (.int .i32 0)) := by kernel_rfl
theorem ui21 : Tryd.prog.underlying 21 = some (.int .i32) := by kernel_rfl
theorem vt23 : VarT Tryd.prog 23 := ⟨by kernel_rfl, by kernel_rfl⟩
theorem zt23 : (Tryd.prog.info? 23).map (·.zero) = some (some (.slice none 0 0)) := by kernel_rfl
theorem sl23 : SlT Tryd.prog 23 5 1 1 (.int .u8 0) := ⟨by kernel_rfl, by kernel_rfl⟩
theorem vt25 : VarT Tryd.prog 25 := ⟨by kernel_rfl, by kernel_rfl⟩
theorem zt25 : (Tryd.prog.info? 25).map (·.zero) = some (some (.slice none 0 0)) := by kernel_rfl
theorem sl25 : SlT Tryd.prog 25 9 1 16 (St []) := ⟨by kernel_rfl, by kernel_rfl⟩
theorem vt31 : VarT Tryd.prog 31 := ⟨by kernel_rfl, by kernel_rfl⟩
theorem zt31 : (Tryd.prog.info? 31).map (·.zero) = some (some (.slice none 0 0)) := by kernel_rfl
theorem sl31 : SlT Tryd.prog 31 3 1 8 (.int .i64 0) := ⟨by kernel_rfl, by kernel_rfl⟩
theorem vt38 : VarT Tryd.prog 38 := ⟨by kernel_rfl, by kernel_rfl⟩
theorem zt38 : (Tryd.prog.info? 38).map (·.zero) = some (some (.int .i64 0)) := by kernel_rfl
theorem ui38 : Tryd.prog.underlying 38 = some (.int .i64) := by kernel_rfl
theorem vt46 : VarT Tryd.prog 46 := ⟨by kernel_rfl, by kernel_rfl⟩
theorem zt46 : (Tryd.prog.info? 46).map (·.zero) = some (some (.pointer none)) := by kernel_rfl
theorem up46 : Tryd.prog.underlying 46 = some (.pointer 48) := by kernel_rfl
theorem ag48 : AgT Tryd.prog 48 2 [(Value.pointer none), (Value.slice none 0 0)] := ⟨by kernel_rfl, by kernel_rfl, rfl⟩
theorem pl48 : PlT Tryd.prog 48 [(0, 1), (1, 1)] := by unfold PlT; kernel_rfl
theorem fd48_0 : FldT Tryd.prog 48 0 0 := by unfold FldT; kernel_rfl
theorem fd48_1 : FldT Tryd.prog 48 1 1 := by unfold FldT; kernel_rfl
theorem vt51 : VarT Tryd.prog 51 := ⟨by kernel_rfl, by kernel_rfl⟩
theorem zt51 : (Tryd.prog.info? 51).map (·.zero) = some (some (.nilIface)) := by kernel_rfl
theorem vt58 : VarT Tryd.prog 58 := ⟨by kernel_rfl, by kernel_rfl⟩
theorem zt58 : (Tryd.prog.info? 58).map (·.zero) = some (some (.int .u64 0)) := by kernel_rfl
theorem ui58 : Tryd.prog.underlying 58 = some (.int .u64) := by kernel_rfl
theorem vt62 : VarT Tryd.prog 62 := ⟨by kernel_rfl, by kernel_rfl⟩
theorem zt62 : (Tryd.prog.info? 62).map (·.zero) = some (some (.nilFunc)) := by kernel_rfl
theorem vt66 : VarT Tryd.prog 66 := ⟨by kernel_rfl, by kernel_rfl⟩
theorem zt66 : (Tryd.prog.info? 66).map (·.zero) = some (some (.pointer none)) := by kernel_rfl
theorem up66 : Tryd.prog.underlying 66 = some (.pointer 5) := by kernel_rfl
theorem vt69 : VarT Tryd.prog 69 := ⟨by kernel_rfl, by kernel_rfl⟩
theorem zt69 : (Tryd.prog.info? 69).map (·.zero) = some (some (.int .u32 0)) := by kernel_rfl
theorem ui69 : Tryd.prog.underlying 69 = some (.int .u32) := by kernel_rfl
theorem vt72 : VarT Tryd.prog 72 := ⟨by kernel_rfl, by kernel_rfl⟩
theorem zt72 : (Tryd.prog.info? 72).map (·.zero) = some (some (.pointer none)) := by kernel_rfl
theorem vt74 : VarT Tryd.prog 74 := ⟨by kernel_rfl, by kernel_rfl⟩
theorem zt74 : (Tryd.prog.info? 74).map (·.zero) = some (some (.int .i64 0)) := by kernel_rfl
theorem ui74 : Tryd.prog.underlying 74 = some (.int .i64) := by kernel_rfl
theorem vt76 : VarT Tryd.prog 76 := ⟨by kernel_rfl, by kernel_rfl⟩
theorem zt76 : (Tryd.prog.info? 76).map (·.zero) = some (some (.int .u64 0)) := by kernel_rfl
theorem ui76 : Tryd.prog.underlying 76 = some (.int .u64) := by kernel_rfl
theorem vt77 : VarT Tryd.prog 77 := ⟨by kernel_rfl, by kernel_rfl⟩
theorem zt77 : (Tryd.prog.info? 77).map (·.zero) = some (some (.pointer none)) := by kernel_rfl
theorem up77 : Tryd.prog.underlying 77 = some (.pointer 87) := by kernel_rfl
theorem ag87 : AgT Tryd.prog 87 3 [(St []), (St []), Value.nilIface] := ⟨by kernel_rfl, by kernel_rfl, rfl⟩
theorem pl87 : PlT Tryd.prog 87 [(0, 1), (1, 1), (2, 1)] := by unfold PlT; kernel_rfl
theorem fd87_0 : FldT Tryd.prog 87 0 0 := by unfold FldT; kernel_rfl
theorem fd87_1 : FldT Tryd.prog 87 1 1 := by unfold FldT; kernel_rfl
theorem fd87_2 : FldT Tryd.prog 87 2 2 := by unfold FldT; kernel_rfl
theorem vt94 : VarT Tryd.prog 94 := ⟨by kernel_rfl, by kernel_rfl⟩
theorem zt94 : (Tryd.prog.info? 94).map (·.zero) = some (some (.pointer none)) := by kernel_rfl
theorem up94 : Tryd.prog.underlying 94 = some (.pointer 96) := by kernel_rfl
theorem ag96 : AgT Tryd.prog 96 1 [(St [])] := ⟨by kernel_rfl, by kernel_rfl, rfl⟩
theorem eq96 : EqT Tryd.prog 96 [none] := ⟨by kernel_rfl, by kernel_rfl, by kernel_rfl, by kernel_rfl⟩
theorem pl96 : PlT Tryd.prog 96 [(0, 1)] := by unfold PlT; kernel_rfl
theorem fd96_0 : FldT Tryd.prog 96 0 0 := by unfold FldT; kernel_rfl
theorem fn3 : FnT Tryd.prog 3 := FnT.mk' Tryd.func3 (by kernel_rfl) rfl
theorem fn4 : FnT Tryd.prog 4 := FnT.mk' Tryd.func4 (by kernel_rfl) rfl
theorem fn5 : FnT Tryd.prog 5 := FnT.mk' Tryd.func5 (by kernel_rfl) rfl
theorem fn6 : FnT Tryd.prog 6 := FnT.mk' Tryd.func6 (by kernel_rfl) rfl
theorem fn7 : FnT Tryd.prog 7 := FnT.mk' Tryd.func7 (by kernel_rfl) rfl
theorem fn8 : FnT Tryd.prog 8 := FnT.mk' Tryd.func8 (by kernel_rfl) rfl
theorem fn9 : FnT Tryd.prog 9 := FnT.mk' Tryd.func9 (by kernel_rfl) rfl
theorem fn10 : FnT Tryd.prog 10 := FnT.mk' Tryd.func10 (by kernel_rfl) rfl
theorem fn11 : FnT Tryd.prog 11 := FnT.mk' Tryd.func11 (by kernel_rfl) rfl
theorem fn12 : FnT Tryd.prog 12 := FnT.mk' Tryd.func12 (by kernel_rfl) rfl
theorem fn13 : FnT Tryd.prog 13 := FnT.mk' Tryd.func13 (by kernel_rfl) rfl
theorem fn14 : FnT Tryd.prog 14 := FnT.mk' Tryd.func14 (by kernel_rfl) rfl
theorem fn15 : FnT Tryd.prog 15 := FnT.mk' Tryd.func15 (by kernel_rfl) rfl
theorem fn16 : FnT Tryd.prog 16 := FnT.mk' Tryd.func16 (by kernel_rfl) rfl
theorem fn17 : FnT Tryd.prog 17 := FnT.mk' Tryd.func17 (by kernel_rfl) rfl
theorem fn18 : FnT Tryd.prog 18 := FnT.mk' Tryd.func18 (by kernel_rfl) rfl
theorem fn19 : FnT Tryd.prog 19 := FnT.mk' Tryd.func19 (by kernel_rfl) rfl
theorem fn20 : FnT Tryd.prog 20 := FnT.mk' Tryd.func20 (by kernel_rfl) rfl
theorem fn21 : FnT Tryd.prog 21 := FnT.mk' Tryd.func21 (by kernel_rfl) rfl
theorem fn22 : FnT Tryd.prog 22 := FnT.mk' Tryd.func22 (by kernel_rfl) rfl
theorem fn23 : FnT Tryd.prog 23 := FnT.mk' Tryd.func23 (by kernel_rfl) rfl
theorem fn24 : FnT Tryd.prog 24 := FnT.mk' Tryd.func24 (by kernel_rfl) rfl
theorem fn25 : FnT Tryd.prog 25 := FnT.mk' Tryd.func25 (by kernel_rfl) rfl
theorem fn26 : FnT Tryd.prog 26 := FnT.mk' Tryd.func26 (by kernel_rfl) rfl
theorem fn27 : FnT Tryd.prog 27 := FnT.mk' Tryd.func27 (by kernel_rfl) rfl
theorem fn28 : FnT Tryd.prog 28 := FnT.mk' Tryd.func28 (by kernel_rfl) rfl
theorem fn29 : FnT Tryd.prog 29 := FnT.mk' Tryd.func29 (by kernel_rfl) rfl
theorem fn30 : FnT Tryd.prog 30 := FnT.mk' Tryd.func30 (by kernel_rfl) rfl
theorem fn31 : FnT Tryd.prog 31 := FnT.mk' Tryd.func31 (by kernel_rfl) rfl
theorem fn32 : FnT Tryd.prog 32 := FnT.mk' Tryd.func32 (by kernel_rfl) rfl
theorem fn33 : FnT Tryd.prog 33 := FnT.mk' Tryd.func33 (by kernel_rfl) rfl
theorem fn34 : FnT Tryd.prog 34 := FnT.mk' Tryd.func34 (by kernel_rfl) rfl
theorem fn35 : FnT Tryd.prog 35 := FnT.mk' Tryd.func35 (by kernel_rfl) rfl
theorem fn36 : FnT Tryd.prog 36 := FnT.mk' Tryd.func36 (by kernel_rfl) rfl
theorem fn37 : FnT Tryd.prog 37 := FnT.mk' Tryd.func37 (by kernel_rfl) rfl
theorem fn38 : FnT Tryd.prog 38 := FnT.mk' Tryd.func38 (by kernel_rfl) rfl
theorem fn39 : FnT Tryd.prog 39 := FnT.mk' Tryd.func39 (by kernel_rfl) rfl
theorem fn40 : FnT Tryd.prog 40 := FnT.mk' Tryd.func40 (by kernel_rfl) rfl
theorem fn41 : FnT Tryd.prog 41 := FnT.mk' Tryd.func41 (by kernel_rfl) rfl
theorem fn42 : FnT Tryd.prog 42 := FnT.mk' Tryd.func42 (by kernel_rfl) rfl
theorem fn43 : FnT Tryd.prog 43 := FnT.mk' Tryd.func43 (by kernel_rfl) rfl
theorem fn44 : FnT Tryd.prog 44 := FnT.mk' Tryd.func44 (by kernel_rfl) rfl
theorem fn46 : FnT Tryd.prog 46 := FnT.mk' Tryd.func46 (by kernel_rfl) rfl
theorem fn47 : FnT Tryd.prog 47 := FnT.mk' Tryd.func47 (by kernel_rfl) rfl
theorem fn48 : FnT Tryd.prog 48 := FnT.mk' Tryd.func48 (by kernel_rfl) rfl
theorem fn49 : FnT Tryd.prog 49 := FnT.mk' Tryd.func49 (by kernel_rfl) rfl
theorem fn50 : FnT Tryd.prog 50 := FnT.mk' Tryd.func50 (by kernel_rfl) rfl
theorem fn51 : FnT Tryd.prog 51 := FnT.mk' Tryd.func51 (by kernel_rfl) rfl
theorem fn52 : FnT Tryd.prog 52 := FnT.mk' Tryd.func52 (by kernel_rfl) rfl
theorem fn53 : FnT Tryd.prog 53 := FnT.mk' Tryd.func53 (by kernel_rfl) rfl
theorem fn55 : FnT Tryd.prog 55 := FnT.mk' Tryd.func55 (by kernel_rfl) rfl
theorem fn56 : FnT Tryd.prog 56 := FnT.mk' Tryd.func56 (by kernel_rfl) rfl
theorem fn57 : FnT Tryd.prog 57 := FnT.mk' Tryd.func57 (by kernel_rfl) rfl
theorem fn58 : FnT Tryd.prog 58 := FnT.mk' Tryd.func58 (by kernel_rfl) rfl
theorem fn59 : FnT Tryd.prog 59 := FnT.mk' Tryd.func59 (by kernel_rfl) rfl
theorem fn60 : FnT Tryd.prog 60 := FnT.mk' Tryd.func60 (by kernel_rfl) rfl
theorem fn61 : FnT Tryd.prog 61 := FnT.mk' Tryd.func61 (by kernel_rfl) rfl
theorem fn62 : FnT Tryd.prog 62 := FnT.mk' Tryd.func62 (by kernel_rfl) rfl
theorem fn63 : FnT Tryd.prog 63 := FnT.mk' Tryd.func63 (by kernel_rfl) rfl
theorem fn64 : FnT Tryd.prog 64 := FnT.mk' Tryd.func64 (by kernel_rfl) rfl
theorem fn65 : FnT Tryd.prog 65 := FnT.mk' Tryd.func65 (by kernel_rfl) rfl
theorem fn67 : FnT Tryd.prog 67 := FnT.mk' Tryd.func67 (by kernel_rfl) rfl
theorem fn68 : FnT Tryd.prog 68 := FnT.mk' Tryd.func68 (by kernel_rfl) rfl
theorem fn69 : FnT Tryd.prog 69 := FnT.mk' Tryd.func69 (by kernel_rfl) rfl
theorem fn70 : FnT Tryd.prog 70 := FnT.mk' Tryd.func70 (by kernel_rfl) rfl
theorem fn71 : FnT Tryd.prog 71 := FnT.mk' Tryd.func71 (by kernel_rfl) rfl
theorem fn72 : FnT Tryd.prog 72 := FnT.mk' Tryd.func72 (by kernel_rfl) rfl
theorem fn73 : FnT Tryd.prog 73 := FnT.mk' Tryd.func73 (by kernel_rfl) rfl
theorem fn74 : FnT Tryd.prog 74 := FnT.mk' Tryd.func74 (by kernel_rfl) rfl
theorem fn75 : FnT Tryd.prog 75 := FnT.mk' Tryd.func75 (by kernel_rfl) rfl
theorem fn77 : FnT Tryd.prog 77 := FnT.mk' Tryd.func77 (by kernel_rfl) rfl
theorem fn78 : FnT Tryd.prog 78 := FnT.mk' Tryd.func78 (by kernel_rfl) rfl
theorem fn79 : FnT Tryd.prog 79 := FnT.mk' Tryd.func79 (by kernel_rfl) rfl
end Go.Proofs.YtbcplbkjeinplaaDoor.Chr
