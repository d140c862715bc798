/- Facts on the types of the seat's program, written by gentypes.py. -/
import Derived.Test.YtkjahcegjplbnaaEnB
import Derived.Test.YtkjahcegjplbnaaChecked
set_option linter.unusedVariables false
namespace Go.Proofs.Ytkjahcegjplbnaa.Kin
open Go Go.Eng Go.RowKit
theorem mo : Try.prog.follows .mixedOrders = true := by kernel_rfl
theorem vt3 : VarT Try.prog 3 := ⟨by kernel_rfl, by kernel_rfl⟩
theorem zt3 : (Try.prog.info? 3).map (·.zero) = some (some (.int .i64 0)) := by kernel_rfl
theorem vt4 : VarT Try.prog 4 := ⟨by kernel_rfl, by kernel_rfl⟩
theorem zt4 : (Try.prog.info? 4).map (·.zero) = some (some (.bool false)) := by kernel_rfl
theorem ub4 : Try.prog.underlying 4 = some .bool := by kernel_rfl
theorem vt5 : VarT Try.prog 5 := ⟨by kernel_rfl, by kernel_rfl⟩
theorem zt5 : (Try.prog.info? 5).map (·.zero) = some (some (.int .u8 0)) := by kernel_rfl
theorem vt9 : VarT Try.prog 9 := ⟨by kernel_rfl, by kernel_rfl⟩
theorem zt9 : (Try.prog.info? 9).map (·.zero) = some (some (St [])) := by kernel_rfl
theorem us9 : Try.prog.underlying 9 = some .string := by kernel_rfl
theorem vt20 : VarT Try.prog 20 := ⟨by kernel_rfl, by kernel_rfl⟩
theorem zt20 : (Try.prog.info? 20).map (·.zero) = some (some (.nilIface)) := by kernel_rfl
theorem vt22 : VarT Try.prog 22 := ⟨by kernel_rfl, by kernel_rfl⟩
theorem zt22 : (Try.prog.info? 22).map (·.zero) = some (some (.slice none 0 0)) := by kernel_rfl
theorem sl22 : SlT Try.prog 22 3 1 8 (.int .i64 0) := ⟨by kernel_rfl, by kernel_rfl⟩
theorem vt23 : VarT Try.prog 23 := ⟨by kernel_rfl, by kernel_rfl⟩
theorem zt23 : (Try.prog.info? 23).map (·.zero) = some (some (.slice none 0 0)) := by kernel_rfl
theorem sl23 : SlT Try.prog 23 25 1 24 (.agg #[.slice none 0 0]) := ⟨by kernel_rfl, by kernel_rfl⟩
theorem ag25 : AgT Try.prog 25 1 [(Value.slice none 0 0)] := ⟨by kernel_rfl, by kernel_rfl, rfl⟩
theorem pl25 : PlT Try.prog 25 [(0, 1)] := by unfold PlT; kernel_rfl
theorem fd25_0 : FldT Try.prog 25 0 0 := by unfold FldT; kernel_rfl
theorem vt28 : VarT Try.prog 28 := ⟨by kernel_rfl, by kernel_rfl⟩
theorem zt28 : (Try.prog.info? 28).map (·.zero) = some (some (.int .i64 0)) := by kernel_rfl
theorem vt31 : VarT Try.prog 31 := ⟨by kernel_rfl, by kernel_rfl⟩
theorem zt31 : (Try.prog.info? 31).map (·.zero) = some (some (.nilFunc)) := by kernel_rfl
theorem vt34 : VarT Try.prog 34 := ⟨by kernel_rfl, by kernel_rfl⟩
theorem zt34 : (Try.prog.info? 34).map (·.zero) = some (some (.slice none 0 0)) := by kernel_rfl
theorem sl34 : SlT Try.prog 34 5 1 1 (.int .u8 0) := ⟨by kernel_rfl, by kernel_rfl⟩
theorem vt37 : VarT Try.prog 37 := ⟨by kernel_rfl, by kernel_rfl⟩
theorem zt37 : (Try.prog.info? 37).map (·.zero) = some (some (.slice none 0 0)) := by kernel_rfl
theorem sl37 : SlT Try.prog 37 9 1 16 (St []) := ⟨by kernel_rfl, by kernel_rfl⟩
theorem vt44 : VarT Try.prog 44 := ⟨by kernel_rfl, by kernel_rfl⟩
theorem zt44 : (Try.prog.info? 44).map (·.zero) = some (some (.slice none 0 0)) := by kernel_rfl
theorem sl44 : SlT Try.prog 44 22 1 24 (.slice none 0 0) := ⟨by kernel_rfl, by kernel_rfl⟩
theorem vt45 : VarT Try.prog 45 := ⟨by kernel_rfl, by kernel_rfl⟩
theorem zt45 : (Try.prog.info? 45).map (·.zero) = some (some (.pointer none)) := by kernel_rfl
theorem up45 : Try.prog.underlying 45 = some (.pointer 87) := by kernel_rfl
theorem vt47 : VarT Try.prog 47 := ⟨by kernel_rfl, by kernel_rfl⟩
theorem zt47 : (Try.prog.info? 47).map (·.zero) = some (some (.slice none 0 0)) := by kernel_rfl
theorem sl47 : SlT Try.prog 47 49 3 40 (.agg #[.int .i64 0, .int .i64 0, .slice none 0 0]) := ⟨by kernel_rfl, by kernel_rfl⟩
theorem ag49 : AgT Try.prog 49 3 [(Value.int .i64 0), (Value.int .i64 0), (Value.slice none 0 0)] := ⟨by kernel_rfl, by kernel_rfl, rfl⟩
theorem pl49 : PlT Try.prog 49 [(0, 1), (1, 1), (2, 1)] := by unfold PlT; kernel_rfl
theorem fd49_0 : FldT Try.prog 49 0 0 := by unfold FldT; kernel_rfl
theorem fd49_1 : FldT Try.prog 49 1 1 := by unfold FldT; kernel_rfl
theorem fd49_2 : FldT Try.prog 49 2 2 := by unfold FldT; kernel_rfl
theorem vt53 : VarT Try.prog 53 := ⟨by kernel_rfl, by kernel_rfl⟩
theorem zt53 : (Try.prog.info? 53).map (·.zero) = some (some (.slice none 0 0)) := by kernel_rfl
theorem sl53 : SlT Try.prog 53 55 3 40 (.agg #[.int .i64 0, .int .i64 0, .slice none 0 0]) := ⟨by kernel_rfl, by kernel_rfl⟩
theorem ag55 : AgT Try.prog 55 3 [(Value.int .i64 0), (Value.int .i64 0), (Value.slice none 0 0)] := ⟨by kernel_rfl, by kernel_rfl, rfl⟩
theorem pl55 : PlT Try.prog 55 [(0, 1), (1, 1), (2, 1)] := by unfold PlT; kernel_rfl
theorem fd55_0 : FldT Try.prog 55 0 0 := by unfold FldT; kernel_rfl
theorem fd55_1 : FldT Try.prog 55 1 1 := by unfold FldT; kernel_rfl
theorem fd55_2 : FldT Try.prog 55 2 2 := by unfold FldT; kernel_rfl
theorem ag60 : AgT Try.prog 60 2 [(Value.slice none 0 0), (Value.slice none 0 0)] := ⟨by kernel_rfl, by kernel_rfl, rfl⟩
theorem pl60 : PlT Try.prog 60 [(0, 1), (1, 1)] := by unfold PlT; kernel_rfl
theorem fd60_0 : FldT Try.prog 60 0 0 := by unfold FldT; kernel_rfl
theorem fd60_1 : FldT Try.prog 60 1 1 := by unfold FldT; kernel_rfl
theorem vt73 : VarT Try.prog 73 := ⟨by kernel_rfl, by kernel_rfl⟩
theorem zt73 : (Try.prog.info? 73).map (·.zero) = some (some (.pointer none)) := by kernel_rfl
theorem up73 : Try.prog.underlying 73 = some (.pointer 75) := by kernel_rfl
theorem ag75 : AgT Try.prog 75 2 [(Value.pointer none), (Value.slice none 0 0)] := ⟨by kernel_rfl, by kernel_rfl, rfl⟩
theorem pl75 : PlT Try.prog 75 [(0, 1), (1, 1)] := by unfold PlT; kernel_rfl
theorem fd75_0 : FldT Try.prog 75 0 0 := by unfold FldT; kernel_rfl
theorem fd75_1 : FldT Try.prog 75 1 1 := by unfold FldT; kernel_rfl
theorem vt77 : VarT Try.prog 77 := ⟨by kernel_rfl, by kernel_rfl⟩
theorem zt77 : (Try.prog.info? 77).map (·.zero) = some (some (.nilIface)) := by kernel_rfl
theorem vt85 : VarT Try.prog 85 := ⟨by kernel_rfl, by kernel_rfl⟩
theorem zt85 : (Try.prog.info? 85).map (·.zero) = some (some (.map none)) := by kernel_rfl
theorem ag87 : AgT Try.prog 87 2 [(Value.int .i64 0), (Value.map none)] := ⟨by kernel_rfl, by kernel_rfl, rfl⟩
theorem pl87 : PlT Try.prog 87 [(0, 1), (1, 1)] := by unfold PlT; kernel_rfl
theorem fd87_0 : FldT Try.prog 87 0 0 := by unfold FldT; kernel_rfl
theorem fd87_1 : FldT Try.prog 87 1 1 := by unfold FldT; kernel_rfl
theorem vt93 : VarT Try.prog 93 := ⟨by kernel_rfl, by kernel_rfl⟩
theorem zt93 : (Try.prog.info? 93).map (·.zero) = some (some (.pointer none)) := by kernel_rfl
theorem up93 : Try.prog.underlying 93 = some (.pointer 5) := by kernel_rfl
theorem vt99 : VarT Try.prog 99 := ⟨by kernel_rfl, by kernel_rfl⟩
theorem zt99 : (Try.prog.info? 99).map (·.zero) = some (some (.pointer none)) := by kernel_rfl
theorem vt104 : VarT Try.prog 104 := ⟨by kernel_rfl, by kernel_rfl⟩
theorem zt104 : (Try.prog.info? 104).map (·.zero) = some (some (.nilFunc)) := by kernel_rfl
theorem fn3 : FnT Try.prog 3 := FnT.mk' Try.func3 (by kernel_rfl) rfl
theorem fn4 : FnT Try.prog 4 := FnT.mk' Try.func4 (by kernel_rfl) rfl
theorem fn5 : FnT Try.prog 5 := FnT.mk' Try.func5 (by kernel_rfl) rfl
theorem fn6 : FnT Try.prog 6 := FnT.mk' Try.func6 (by kernel_rfl) rfl
theorem fn7 : FnT Try.prog 7 := FnT.mk' Try.func7 (by kernel_rfl) rfl
theorem fn8 : FnT Try.prog 8 := FnT.mk' Try.func8 (by kernel_rfl) rfl
theorem fn9 : FnT Try.prog 9 := FnT.mk' Try.func9 (by kernel_rfl) rfl
theorem fn10 : FnT Try.prog 10 := FnT.mk' Try.func10 (by kernel_rfl) rfl
theorem fn11 : FnT Try.prog 11 := FnT.mk' Try.func11 (by kernel_rfl) rfl
theorem fn12 : FnT Try.prog 12 := FnT.mk' Try.func12 (by kernel_rfl) rfl
theorem fn13 : FnT Try.prog 13 := FnT.mk' Try.func13 (by kernel_rfl) rfl
theorem fn14 : FnT Try.prog 14 := FnT.mk' Try.func14 (by kernel_rfl) rfl
theorem fn15 : FnT Try.prog 15 := FnT.mk' Try.func15 (by kernel_rfl) rfl
theorem fn16 : FnT Try.prog 16 := FnT.mk' Try.func16 (by kernel_rfl) rfl
theorem fn17 : FnT Try.prog 17 := FnT.mk' Try.func17 (by kernel_rfl) rfl
theorem fn18 : FnT Try.prog 18 := FnT.mk' Try.func18 (by kernel_rfl) rfl
theorem fn19 : FnT Try.prog 19 := FnT.mk' Try.func19 (by kernel_rfl) rfl
theorem fn20 : FnT Try.prog 20 := FnT.mk' Try.func20 (by kernel_rfl) rfl
theorem fn21 : FnT Try.prog 21 := FnT.mk' Try.func21 (by kernel_rfl) rfl
theorem fn22 : FnT Try.prog 22 := FnT.mk' Try.func22 (by kernel_rfl) rfl
theorem fn23 : FnT Try.prog 23 := FnT.mk' Try.func23 (by kernel_rfl) rfl
theorem fn24 : FnT Try.prog 24 := FnT.mk' Try.func24 (by kernel_rfl) rfl
theorem fn25 : FnT Try.prog 25 := FnT.mk' Try.func25 (by kernel_rfl) rfl
theorem fn26 : FnT Try.prog 26 := FnT.mk' Try.func26 (by kernel_rfl) rfl
theorem fn27 : FnT Try.prog 27 := FnT.mk' Try.func27 (by kernel_rfl) rfl
theorem fn28 : FnT Try.prog 28 := FnT.mk' Try.func28 (by kernel_rfl) rfl
theorem fn29 : FnT Try.prog 29 := FnT.mk' Try.func29 (by kernel_rfl) rfl
theorem fn30 : FnT Try.prog 30 := FnT.mk' Try.func30 (by kernel_rfl) rfl
theorem fn31 : FnT Try.prog 31 := FnT.mk' Try.func31 (by kernel_rfl) rfl
theorem fn32 : FnT Try.prog 32 := FnT.mk' Try.func32 (by kernel_rfl) rfl
theorem fn33 : FnT Try.prog 33 := FnT.mk' Try.func33 (by kernel_rfl) rfl
theorem fn34 : FnT Try.prog 34 := FnT.mk' Try.func34 (by kernel_rfl) rfl
theorem fn35 : FnT Try.prog 35 := FnT.mk' Try.func35 (by kernel_rfl) rfl
theorem fn36 : FnT Try.prog 36 := FnT.mk' Try.func36 (by kernel_rfl) rfl
theorem fn37 : FnT Try.prog 37 := FnT.mk' Try.func37 (by kernel_rfl) rfl
theorem fn38 : FnT Try.prog 38 := FnT.mk' Try.func38 (by kernel_rfl) rfl
theorem fn39 : FnT Try.prog 39 := FnT.mk' Try.func39 (by kernel_rfl) rfl
theorem fn40 : FnT Try.prog 40 := FnT.mk' Try.func40 (by kernel_rfl) rfl
theorem fn41 : FnT Try.prog 41 := FnT.mk' Try.func41 (by kernel_rfl) rfl
theorem fn42 : FnT Try.prog 42 := FnT.mk' Try.func42 (by kernel_rfl) rfl
theorem fn43 : FnT Try.prog 43 := FnT.mk' Try.func43 (by kernel_rfl) rfl
theorem fn44 : FnT Try.prog 44 := FnT.mk' Try.func44 (by kernel_rfl) rfl
theorem fn45 : FnT Try.prog 45 := FnT.mk' Try.func45 (by kernel_rfl) rfl
theorem fn46 : FnT Try.prog 46 := FnT.mk' Try.func46 (by kernel_rfl) rfl
theorem fn47 : FnT Try.prog 47 := FnT.mk' Try.func47 (by kernel_rfl) rfl
theorem fn48 : FnT Try.prog 48 := FnT.mk' Try.func48 (by kernel_rfl) rfl
theorem fn49 : FnT Try.prog 49 := FnT.mk' Try.func49 (by kernel_rfl) rfl
theorem fn51 : FnT Try.prog 51 := FnT.mk' Try.func51 (by kernel_rfl) rfl
theorem fn53 : FnT Try.prog 53 := FnT.mk' Try.func53 (by kernel_rfl) rfl
theorem fn54 : FnT Try.prog 54 := FnT.mk' Try.func54 (by kernel_rfl) rfl
theorem fn55 : FnT Try.prog 55 := FnT.mk' Try.func55 (by kernel_rfl) rfl
theorem fn56 : FnT Try.prog 56 := FnT.mk' Try.func56 (by kernel_rfl) rfl
theorem fn57 : FnT Try.prog 57 := FnT.mk' Try.func57 (by kernel_rfl) rfl
theorem fn58 : FnT Try.prog 58 := FnT.mk' Try.func58 (by kernel_rfl) rfl
theorem fn59 : FnT Try.prog 59 := FnT.mk' Try.func59 (by kernel_rfl) rfl
end Go.Proofs.Ytkjahcegjplbnaa.Kin
