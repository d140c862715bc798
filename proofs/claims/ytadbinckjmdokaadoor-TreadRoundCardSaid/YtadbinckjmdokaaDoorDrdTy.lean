/- Facts on the types of the seat's program, written by gentypes.py. -/
import Derived.Test.YtadbinckjmdokaaDoorEnC
import Derived.Test.YtadbinckjmdokaaDoorChecked
set_option linter.unusedVariables false
namespace Go.Proofs.YtadbinckjmdokaaDoor.Trd
open Go Go.Eng Go.RowKit
theorem mo : Tryd.prog.follows .mixedOrders = true := by kernel_rfl
theorem vt2 : VarT Tryd.prog 2 := ⟨by kernel_rfl, by kernel_rfl⟩
theorem zt2 : (Tryd.prog.info? 2).map (·.zero) = some (some (.int .i64 0)) := by kernel_rfl
theorem ui2 : Tryd.prog.underlying 2 = some (.int .i64) := by kernel_rfl
theorem vt3 : VarT Tryd.prog 3 := ⟨by kernel_rfl, by kernel_rfl⟩
theorem zt3 : (Tryd.prog.info? 3).map (·.zero) = some (some (.int .i64 0)) := by kernel_rfl
theorem ui3 : Tryd.prog.underlying 3 = some (.int .i64) := by kernel_rfl
theorem vt4 : VarT Tryd.prog 4 := ⟨by kernel_rfl, by kernel_rfl⟩
theorem zt4 : (Tryd.prog.info? 4).map (·.zero) = some (some (.bool false)) := by kernel_rfl
theorem ub4 : Tryd.prog.underlying 4 = some .bool := by kernel_rfl
theorem vt5 : VarT Tryd.prog 5 := ⟨by kernel_rfl, by kernel_rfl⟩
theorem zt5 : (Tryd.prog.info? 5).map (·.zero) = some (some (.int .u8 0)) := by kernel_rfl
theorem ui5 : Tryd.prog.underlying 5 = some (.int .u8) := by kernel_rfl
theorem vt6 : VarT Tryd.prog 6 := ⟨by kernel_rfl, by kernel_rfl⟩
theorem zt6 : (Tryd.prog.info? 6).map (·.zero) = some (some (.int .u8 0)) := by kernel_rfl
theorem ui6 : Tryd.prog.underlying 6 = some (.int .u8) := by kernel_rfl
theorem ag8 : AgT Tryd.prog 8 4 [(Value.int .i64 0), (Value.int .i64 0), (Value.bool false), (Value.int .u8 0)] := ⟨by kernel_rfl, by kernel_rfl, rfl⟩
theorem pl8 : PlT Tryd.prog 8 [(0, 1), (1, 1), (2, 1), (3, 1)] := by unfold PlT; kernel_rfl
theorem fd8_0 : FldT Tryd.prog 8 0 0 := by unfold FldT; kernel_rfl
theorem fd8_1 : FldT Tryd.prog 8 1 1 := by unfold FldT; kernel_rfl
theorem fd8_2 : FldT Tryd.prog 8 2 2 := by unfold FldT; kernel_rfl
theorem fd8_3 : FldT Tryd.prog 8 3 3 := by unfold FldT; kernel_rfl
theorem vt9 : VarT Tryd.prog 9 := ⟨by kernel_rfl, by kernel_rfl⟩
theorem zt9 : (Tryd.prog.info? 9).map (·.zero) = some (some (St [])) := by kernel_rfl
theorem us9 : Tryd.prog.underlying 9 = some .string := by kernel_rfl
theorem vt10 : VarT Tryd.prog 10 := ⟨by kernel_rfl, by kernel_rfl⟩
theorem zt10 : (Tryd.prog.info? 10).map (·.zero) = some (some (St [])) := by kernel_rfl
theorem us10 : Tryd.prog.underlying 10 = some .string := by kernel_rfl
theorem vt11 : VarT Tryd.prog 11 := ⟨by kernel_rfl, by kernel_rfl⟩
theorem zt11 : (Tryd.prog.info? 11).map (·.zero) = some (some (St [])) := by kernel_rfl
theorem us11 : Tryd.prog.underlying 11 = some .string := by kernel_rfl
theorem vt12 : VarT Tryd.prog 12 := ⟨by kernel_rfl, by kernel_rfl⟩
theorem zt12 : (Tryd.prog.info? 12).map (·.zero) = some (some (.int .u64 0)) := by kernel_rfl
theorem ui12 : Tryd.prog.underlying 12 = some (.int .u64) := by kernel_rfl
theorem ag14 : AgT Tryd.prog 14 2 [(St []), (Value.int .u64 0)] := ⟨by kernel_rfl, by kernel_rfl, rfl⟩
theorem pl14 : PlT Tryd.prog 14 [(0, 1), (1, 1)] := by unfold PlT; kernel_rfl
theorem fd14_0 : FldT Tryd.prog 14 0 0 := by unfold FldT; kernel_rfl
theorem fd14_1 : FldT Tryd.prog 14 1 1 := by unfold FldT; kernel_rfl
theorem vt15 : VarT Tryd.prog 15 := ⟨by kernel_rfl, by kernel_rfl⟩
theorem zt15 : (Tryd.prog.info? 15).map (·.zero) = some (some (.pointer none)) := by kernel_rfl
theorem up15 : Tryd.prog.underlying 15 = some (.pointer 120) := by kernel_rfl
theorem vt16 : VarT Tryd.prog 16 := ⟨by kernel_rfl, by kernel_rfl⟩
theorem zt16 : (Tryd.prog.info? 16).map (·.zero) = some (some (.pointer none)) := by kernel_rfl
theorem up16 : Tryd.prog.underlying 16 = some (.pointer 123) := by kernel_rfl
theorem vt17 : VarT Tryd.prog 17 := ⟨by kernel_rfl, by kernel_rfl⟩
theorem zt17 : (Tryd.prog.info? 17).map (·.zero) = some (some (.pointer none)) := by kernel_rfl
theorem up17 : Tryd.prog.underlying 17 = some (.pointer 132) := by kernel_rfl
theorem ag19 : AgT Tryd.prog 19 1 [(Value.pointer none)] := ⟨by kernel_rfl, by kernel_rfl, rfl⟩
theorem pl19 : PlT Tryd.prog 19 [(0, 1)] := by unfold PlT; kernel_rfl
theorem fd19_0 : FldT Tryd.prog 19 0 0 := by unfold FldT; kernel_rfl
theorem vt20 : VarT Tryd.prog 20 := ⟨by kernel_rfl, by kernel_rfl⟩
theorem zt20 : (Tryd.prog.info? 20).map (·.zero) = some (some (.nilIface)) := by kernel_rfl
theorem vt21 : VarT Tryd.prog 21 := ⟨by kernel_rfl, by kernel_rfl⟩
theorem zt21 : (Tryd.prog.info? 21).map (·.zero) = some (some (.int .i32 0)) := by kernel_rfl
theorem ui21 : Tryd.prog.underlying 21 = some (.int .i32) := by kernel_rfl
theorem vt22 : VarT Tryd.prog 22 := ⟨by kernel_rfl, by kernel_rfl⟩
theorem zt22 : (Tryd.prog.info? 22).map (·.zero) = some (some (.slice none 0 0)) := by kernel_rfl
theorem sl22 : SlT Tryd.prog 22 3 1 8 (.int .i64 0) := ⟨by kernel_rfl, by kernel_rfl⟩
theorem vt24 : VarT Tryd.prog 24 := ⟨by kernel_rfl, by kernel_rfl⟩
theorem zt24 : (Tryd.prog.info? 24).map (·.zero) = some (some (.slice none 0 0)) := by kernel_rfl
theorem sl24 : SlT Tryd.prog 24 26 4 56 (.agg #[.int .i64 0, .int .i64 0, St [], .slice none 0 0]) := ⟨by kernel_rfl, by kernel_rfl⟩
theorem ag26 : AgT Tryd.prog 26 4 [(Value.int .i64 0), (Value.int .i64 0), (St []), (Value.slice none 0 0)] := ⟨by kernel_rfl, by kernel_rfl, rfl⟩
theorem pl26 : PlT Tryd.prog 26 [(0, 1), (1, 1), (2, 1), (3, 1)] := by unfold PlT; kernel_rfl
theorem fd26_0 : FldT Tryd.prog 26 0 0 := by unfold FldT; kernel_rfl
theorem fd26_1 : FldT Tryd.prog 26 1 1 := by unfold FldT; kernel_rfl
theorem fd26_2 : FldT Tryd.prog 26 2 2 := by unfold FldT; kernel_rfl
theorem fd26_3 : FldT Tryd.prog 26 3 3 := by unfold FldT; kernel_rfl
theorem vt28 : VarT Tryd.prog 28 := ⟨by kernel_rfl, by kernel_rfl⟩
theorem zt28 : (Tryd.prog.info? 28).map (·.zero) = some (some (.slice none 0 0)) := by kernel_rfl
theorem sl28 : SlT Tryd.prog 28 9 1 16 (St []) := ⟨by kernel_rfl, by kernel_rfl⟩
theorem vt29 : VarT Tryd.prog 29 := ⟨by kernel_rfl, by kernel_rfl⟩
theorem zt29 : (Tryd.prog.info? 29).map (·.zero) = some (some (.slice none 0 0)) := by kernel_rfl
theorem sl29 : SlT Tryd.prog 29 134 1 24 (.agg #[.slice none 0 0]) := ⟨by kernel_rfl, by kernel_rfl⟩
theorem vt30 : VarT Tryd.prog 30 := ⟨by kernel_rfl, by kernel_rfl⟩
theorem zt30 : (Tryd.prog.info? 30).map (·.zero) = some (some (.slice none 0 0)) := by kernel_rfl
theorem sl30 : SlT Tryd.prog 30 42 5 72 (.agg #[St [], .int .i64 0, .int .i64 0, St [], .slice none 0 0]) := ⟨by kernel_rfl, by kernel_rfl⟩
theorem ag32 : AgT Tryd.prog 32 7 [(Value.slice none 0 0), (Value.slice none 0 0), (Value.slice none 0 0), (Value.int .i64 0), (Value.int .i64 0), (St []), (Value.slice none 0 0)] := ⟨by kernel_rfl, by kernel_rfl, rfl⟩
theorem pl32 : PlT Tryd.prog 32 [(0, 1), (1, 1), (2, 1), (3, 4)] := by unfold PlT; kernel_rfl
theorem fd32_0 : FldT Tryd.prog 32 0 0 := by unfold FldT; kernel_rfl
theorem fd32_1 : FldT Tryd.prog 32 1 1 := by unfold FldT; kernel_rfl
theorem fd32_2 : FldT Tryd.prog 32 2 2 := by unfold FldT; kernel_rfl
theorem fd32_3 : FldT Tryd.prog 32 3 3 := by unfold FldT; kernel_rfl
theorem vt33 : VarT Tryd.prog 33 := ⟨by kernel_rfl, by kernel_rfl⟩
theorem zt33 : (Tryd.prog.info? 33).map (·.zero) = some (some (.int .i64 0)) := by kernel_rfl
theorem ui33 : Tryd.prog.underlying 33 = some (.int .i64) := by kernel_rfl
theorem ag35 : AgT Tryd.prog 35 2 [(Value.int .i64 0), (Value.int .i64 0)] := ⟨by kernel_rfl, by kernel_rfl, rfl⟩
theorem eq35 : EqT Tryd.prog 35 [some .i64, some .i64] := ⟨by kernel_rfl, by kernel_rfl, by kernel_rfl, by kernel_rfl⟩
theorem pl35 : PlT Tryd.prog 35 [(0, 1), (1, 1)] := by unfold PlT; kernel_rfl
theorem fd35_0 : FldT Tryd.prog 35 0 0 := by unfold FldT; kernel_rfl
theorem fd35_1 : FldT Tryd.prog 35 1 1 := by unfold FldT; kernel_rfl
theorem ag42 : AgT Tryd.prog 42 5 [(St []), (Value.int .i64 0), (Value.int .i64 0), (St []), (Value.slice none 0 0)] := ⟨by kernel_rfl, by kernel_rfl, rfl⟩
theorem pl42 : PlT Tryd.prog 42 [(0, 1), (1, 4)] := by unfold PlT; kernel_rfl
theorem fd42_0 : FldT Tryd.prog 42 0 0 := by unfold FldT; kernel_rfl
theorem fd42_1 : FldT Tryd.prog 42 1 1 := by unfold FldT; kernel_rfl
theorem vt52 : VarT Tryd.prog 52 := ⟨by kernel_rfl, by kernel_rfl⟩
theorem zt52 : (Tryd.prog.info? 52).map (·.zero) = some (some (.slice none 0 0)) := by kernel_rfl
theorem sl52 : SlT Tryd.prog 52 70 4 40 (.agg #[.int .i64 0, St [], .int .i64 0, .int .i64 0]) := ⟨by kernel_rfl, by kernel_rfl⟩
theorem vt55 : VarT Tryd.prog 55 := ⟨by kernel_rfl, by kernel_rfl⟩
theorem zt55 : (Tryd.prog.info? 55).map (·.zero) = some (some (.nilFunc)) := by kernel_rfl
theorem ag70 : AgT Tryd.prog 70 4 [(Value.int .i64 0), (St []), (Value.int .i64 0), (Value.int .i64 0)] := ⟨by kernel_rfl, by kernel_rfl, rfl⟩
theorem eq70 : EqT Tryd.prog 70 [some .i64, none, some .i64, some .i64] := ⟨by kernel_rfl, by kernel_rfl, by kernel_rfl, by kernel_rfl⟩
theorem pl70 : PlT Tryd.prog 70 [(0, 1), (1, 1), (2, 1), (3, 1)] := by unfold PlT; kernel_rfl
theorem fd70_0 : FldT Tryd.prog 70 0 0 := by unfold FldT; kernel_rfl
theorem fd70_1 : FldT Tryd.prog 70 1 1 := by unfold FldT; kernel_rfl
theorem fd70_2 : FldT Tryd.prog 70 2 2 := by unfold FldT; kernel_rfl
theorem fd70_3 : FldT Tryd.prog 70 3 3 := by unfold FldT; kernel_rfl
theorem vt84 : VarT Tryd.prog 84 := ⟨by kernel_rfl, by kernel_rfl⟩
theorem zt84 : (Tryd.prog.info? 84).map (·.zero) = some (some (.nilFunc)) := by kernel_rfl
theorem vt92 : VarT Tryd.prog 92 := ⟨by kernel_rfl, by kernel_rfl⟩
theorem zt92 : (Tryd.prog.info? 92).map (·.zero) = some (some (.slice none 0 0)) := by kernel_rfl
theorem sl92 : SlT Tryd.prog 92 5 1 1 (.int .u8 0) := ⟨by kernel_rfl, by kernel_rfl⟩
theorem vt93 : VarT Tryd.prog 93 := ⟨by kernel_rfl, by kernel_rfl⟩
theorem zt93 : (Tryd.prog.info? 93).map (·.zero) = some (some (.nilFunc)) := by kernel_rfl
theorem vt102 : VarT Tryd.prog 102 := ⟨by kernel_rfl, by kernel_rfl⟩
theorem zt102 : (Tryd.prog.info? 102).map (·.zero) = some (some (.int .u64 0)) := by kernel_rfl
theorem ui102 : Tryd.prog.underlying 102 = some (.int .u64) := by kernel_rfl
theorem vt107 : VarT Tryd.prog 107 := ⟨by kernel_rfl, by kernel_rfl⟩
theorem zt107 : (Tryd.prog.info? 107).map (·.zero) = some (some (.nilFunc)) := by kernel_rfl
theorem vt110 : VarT Tryd.prog 110 := ⟨by kernel_rfl, by kernel_rfl⟩
theorem zt110 : (Tryd.prog.info? 110).map (·.zero) = some (some (.int .u32 0)) := by kernel_rfl
theorem ui110 : Tryd.prog.underlying 110 = some (.int .u32) := by kernel_rfl
theorem vt113 : VarT Tryd.prog 113 := ⟨by kernel_rfl, by kernel_rfl⟩
theorem zt113 : (Tryd.prog.info? 113).map (·.zero) = some (some (.int .u64 0)) := by kernel_rfl
theorem ui113 : Tryd.prog.underlying 113 = some (.int .u64) := by kernel_rfl
theorem vt126 : VarT Tryd.prog 126 := ⟨by kernel_rfl, by kernel_rfl⟩
theorem zt126 : (Tryd.prog.info? 126).map (·.zero) = some (some (.int .u8 0)) := by kernel_rfl
theorem ui126 : Tryd.prog.underlying 126 = some (.int .u8) := by kernel_rfl
theorem ag134 : AgT Tryd.prog 134 1 [(Value.slice none 0 0)] := ⟨by kernel_rfl, by kernel_rfl, rfl⟩
theorem pl134 : PlT Tryd.prog 134 [(0, 1)] := by unfold PlT; kernel_rfl
theorem fd134_0 : FldT Tryd.prog 134 0 0 := by unfold FldT; kernel_rfl
theorem fn3 : FnT Tryd.prog 3 := FnT.mk' Tryd.func3 (by kernel_rfl) rfl
theorem fn4 : FnT Tryd.prog 4 := FnT.mk' Tryd.func4 (by kernel_rfl) rfl
theorem fn5 : FnT Tryd.prog 5 := FnT.mk' Tryd.func5 (by kernel_rfl) rfl
theorem fn6 : FnT Tryd.prog 6 := FnT.mk' Tryd.func6 (by kernel_rfl) rfl
theorem fn7 : FnT Tryd.prog 7 := FnT.mk' Tryd.func7 (by kernel_rfl) rfl
theorem fn8 : FnT Tryd.prog 8 := FnT.mk' Tryd.func8 (by kernel_rfl) rfl
theorem fn9 : FnT Tryd.prog 9 := FnT.mk' Tryd.func9 (by kernel_rfl) rfl
theorem fn10 : FnT Tryd.prog 10 := FnT.mk' Tryd.func10 (by kernel_rfl) rfl
theorem fn11 : FnT Tryd.prog 11 := FnT.mk' Tryd.func11 (by kernel_rfl) rfl
theorem fn12 : FnT Tryd.prog 12 := FnT.mk' Tryd.func12 (by kernel_rfl) rfl
theorem fn13 : FnT Tryd.prog 13 := FnT.mk' Tryd.func13 (by kernel_rfl) rfl
theorem fn14 : FnT Tryd.prog 14 := FnT.mk' Tryd.func14 (by kernel_rfl) rfl
theorem fn15 : FnT Tryd.prog 15 := FnT.mk' Tryd.func15 (by kernel_rfl) rfl
theorem fn16 : FnT Tryd.prog 16 := FnT.mk' Tryd.func16 (by kernel_rfl) rfl
theorem fn17 : FnT Tryd.prog 17 := FnT.mk' Tryd.func17 (by kernel_rfl) rfl
theorem fn18 : FnT Tryd.prog 18 := FnT.mk' Tryd.func18 (by kernel_rfl) rfl
theorem fn19 : FnT Tryd.prog 19 := FnT.mk' Tryd.func19 (by kernel_rfl) rfl
theorem fn20 : FnT Tryd.prog 20 := FnT.mk' Tryd.func20 (by kernel_rfl) rfl
theorem fn21 : FnT Tryd.prog 21 := FnT.mk' Tryd.func21 (by kernel_rfl) rfl
theorem fn22 : FnT Tryd.prog 22 := FnT.mk' Tryd.func22 (by kernel_rfl) rfl
theorem fn23 : FnT Tryd.prog 23 := FnT.mk' Tryd.func23 (by kernel_rfl) rfl
theorem fn24 : FnT Tryd.prog 24 := FnT.mk' Tryd.func24 (by kernel_rfl) rfl
theorem fn25 : FnT Tryd.prog 25 := FnT.mk' Tryd.func25 (by kernel_rfl) rfl
theorem fn26 : FnT Tryd.prog 26 := FnT.mk' Tryd.func26 (by kernel_rfl) rfl
theorem fn27 : FnT Tryd.prog 27 := FnT.mk' Tryd.func27 (by kernel_rfl) rfl
theorem fn28 : FnT Tryd.prog 28 := FnT.mk' Tryd.func28 (by kernel_rfl) rfl
theorem fn29 : FnT Tryd.prog 29 := FnT.mk' Tryd.func29 (by kernel_rfl) rfl
theorem fn30 : FnT Tryd.prog 30 := FnT.mk' Tryd.func30 (by kernel_rfl) rfl
theorem fn31 : FnT Tryd.prog 31 := FnT.mk' Tryd.func31 (by kernel_rfl) rfl
theorem fn32 : FnT Tryd.prog 32 := FnT.mk' Tryd.func32 (by kernel_rfl) rfl
theorem fn33 : FnT Tryd.prog 33 := FnT.mk' Tryd.func33 (by kernel_rfl) rfl
theorem fn34 : FnT Tryd.prog 34 := FnT.mk' Tryd.func34 (by kernel_rfl) rfl
theorem fn35 : FnT Tryd.prog 35 := FnT.mk' Tryd.func35 (by kernel_rfl) rfl
theorem fn36 : FnT Tryd.prog 36 := FnT.mk' Tryd.func36 (by kernel_rfl) rfl
theorem fn37 : FnT Tryd.prog 37 := FnT.mk' Tryd.func37 (by kernel_rfl) rfl
theorem fn38 : FnT Tryd.prog 38 := FnT.mk' Tryd.func38 (by kernel_rfl) rfl
theorem fn39 : FnT Tryd.prog 39 := FnT.mk' Tryd.func39 (by kernel_rfl) rfl
theorem fn40 : FnT Tryd.prog 40 := FnT.mk' Tryd.func40 (by kernel_rfl) rfl
theorem fn41 : FnT Tryd.prog 41 := FnT.mk' Tryd.func41 (by kernel_rfl) rfl
theorem fn42 : FnT Tryd.prog 42 := FnT.mk' Tryd.func42 (by kernel_rfl) rfl
theorem fn43 : FnT Tryd.prog 43 := FnT.mk' Tryd.func43 (by kernel_rfl) rfl
theorem fn44 : FnT Tryd.prog 44 := FnT.mk' Tryd.func44 (by kernel_rfl) rfl
theorem fn45 : FnT Tryd.prog 45 := FnT.mk' Tryd.func45 (by kernel_rfl) rfl
theorem fn46 : FnT Tryd.prog 46 := FnT.mk' Tryd.func46 (by kernel_rfl) rfl
theorem fn47 : FnT Tryd.prog 47 := FnT.mk' Tryd.func47 (by kernel_rfl) rfl
theorem fn48 : FnT Tryd.prog 48 := FnT.mk' Tryd.func48 (by kernel_rfl) rfl
theorem fn49 : FnT Tryd.prog 49 := FnT.mk' Tryd.func49 (by kernel_rfl) rfl
theorem fn50 : FnT Tryd.prog 50 := FnT.mk' Tryd.func50 (by kernel_rfl) rfl
theorem fn51 : FnT Tryd.prog 51 := FnT.mk' Tryd.func51 (by kernel_rfl) rfl
theorem fn52 : FnT Tryd.prog 52 := FnT.mk' Tryd.func52 (by kernel_rfl) rfl
theorem fn53 : FnT Tryd.prog 53 := FnT.mk' Tryd.func53 (by kernel_rfl) rfl
theorem fn54 : FnT Tryd.prog 54 := FnT.mk' Tryd.func54 (by kernel_rfl) rfl
theorem fn55 : FnT Tryd.prog 55 := FnT.mk' Tryd.func55 (by kernel_rfl) rfl
theorem fn56 : FnT Tryd.prog 56 := FnT.mk' Tryd.func56 (by kernel_rfl) rfl
theorem fn57 : FnT Tryd.prog 57 := FnT.mk' Tryd.func57 (by kernel_rfl) rfl
theorem fn58 : FnT Tryd.prog 58 := FnT.mk' Tryd.func58 (by kernel_rfl) rfl
theorem fn59 : FnT Tryd.prog 59 := FnT.mk' Tryd.func59 (by kernel_rfl) rfl
theorem fn60 : FnT Tryd.prog 60 := FnT.mk' Tryd.func60 (by kernel_rfl) rfl
theorem fn61 : FnT Tryd.prog 61 := FnT.mk' Tryd.func61 (by kernel_rfl) rfl
theorem fn62 : FnT Tryd.prog 62 := FnT.mk' Tryd.func62 (by kernel_rfl) rfl
theorem fn63 : FnT Tryd.prog 63 := FnT.mk' Tryd.func63 (by kernel_rfl) rfl
theorem fn64 : FnT Tryd.prog 64 := FnT.mk' Tryd.func64 (by kernel_rfl) rfl
theorem fn65 : FnT Tryd.prog 65 := FnT.mk' Tryd.func65 (by kernel_rfl) rfl
theorem fn66 : FnT Tryd.prog 66 := FnT.mk' Tryd.func66 (by kernel_rfl) rfl
theorem fn67 : FnT Tryd.prog 67 := FnT.mk' Tryd.func67 (by kernel_rfl) rfl
theorem fn68 : FnT Tryd.prog 68 := FnT.mk' Tryd.func68 (by kernel_rfl) rfl
theorem fn69 : FnT Tryd.prog 69 := FnT.mk' Tryd.func69 (by kernel_rfl) rfl
theorem fn70 : FnT Tryd.prog 70 := FnT.mk' Tryd.func70 (by kernel_rfl) rfl
theorem fn72 : FnT Tryd.prog 72 := FnT.mk' Tryd.func72 (by kernel_rfl) rfl
theorem fn73 : FnT Tryd.prog 73 := FnT.mk' Tryd.func73 (by kernel_rfl) rfl
theorem fn74 : FnT Tryd.prog 74 := FnT.mk' Tryd.func74 (by kernel_rfl) rfl
theorem fn75 : FnT Tryd.prog 75 := FnT.mk' Tryd.func75 (by kernel_rfl) rfl
theorem fn76 : FnT Tryd.prog 76 := FnT.mk' Tryd.func76 (by kernel_rfl) rfl
theorem fn77 : FnT Tryd.prog 77 := FnT.mk' Tryd.func77 (by kernel_rfl) rfl
theorem fn78 : FnT Tryd.prog 78 := FnT.mk' Tryd.func78 (by kernel_rfl) rfl
theorem fn79 : FnT Tryd.prog 79 := FnT.mk' Tryd.func79 (by kernel_rfl) rfl
theorem fn80 : FnT Tryd.prog 80 := FnT.mk' Tryd.func80 (by kernel_rfl) rfl
theorem fn81 : FnT Tryd.prog 81 := FnT.mk' Tryd.func81 (by kernel_rfl) rfl
theorem fn82 : FnT Tryd.prog 82 := FnT.mk' Tryd.func82 (by kernel_rfl) rfl
theorem fn83 : FnT Tryd.prog 83 := FnT.mk' Tryd.func83 (by kernel_rfl) rfl
theorem fn84 : FnT Tryd.prog 84 := FnT.mk' Tryd.func84 (by kernel_rfl) rfl
theorem fn85 : FnT Tryd.prog 85 := FnT.mk' Tryd.func85 (by kernel_rfl) rfl
end Go.Proofs.YtadbinckjmdokaaDoor.Trd
