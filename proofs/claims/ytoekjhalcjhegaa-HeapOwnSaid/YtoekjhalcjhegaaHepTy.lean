/- Facts on the types of the seat's program, written by gentypes.py. -/
import Derived.Test.YtoekjhalcjhegaaEng19
import Derived.Test.YtoekjhalcjhegaaChecked
set_option linter.unusedVariables false
namespace Go.Proofs.Ytoekjhalcjhegaa.Hep
open Go Go.Eng Go.RowKit
theorem mo : Try.prog.follows .mixedOrders = true := by kernel_rfl
theorem vt3 : VarT Try.prog 3 := ⟨by kernel_rfl, by kernel_rfl⟩
theorem zt3 : (Try.prog.info? 3).map (·.zero) = some (some (.int .i64 0)) := by kernel_rfl
theorem ui3 : Try.prog.underlying 3 = some (.int .i64) := by kernel_rfl
theorem vt4 : VarT Try.prog 4 := ⟨by kernel_rfl, by kernel_rfl⟩
theorem zt4 : (Try.prog.info? 4).map (·.zero) = some (some (.bool false)) := by kernel_rfl
theorem ub4 : Try.prog.underlying 4 = some .bool := by kernel_rfl
theorem vt9 : VarT Try.prog 9 := ⟨by kernel_rfl, by kernel_rfl⟩
theorem zt9 : (Try.prog.info? 9).map (·.zero) = some (some (St [])) := by kernel_rfl
theorem us9 : Try.prog.underlying 9 = some .string := by kernel_rfl
theorem vt23 : VarT Try.prog 23 := ⟨by kernel_rfl, by kernel_rfl⟩
theorem zt23 : (Try.prog.info? 23).map (·.zero) = some (some (.pointer none)) := by kernel_rfl
theorem up23 : Try.prog.underlying 23 = some (.pointer 67) := by kernel_rfl
theorem vt24 : VarT Try.prog 24 := ⟨by kernel_rfl, by kernel_rfl⟩
theorem zt24 : (Try.prog.info? 24).map (·.zero) = some (some (.int .i64 0)) := by kernel_rfl
theorem ui24 : Try.prog.underlying 24 = some (.int .i64) := by kernel_rfl
theorem vt29 : VarT Try.prog 29 := ⟨by kernel_rfl, by kernel_rfl⟩
theorem zt29 : (Try.prog.info? 29).map (·.zero) = some (some (.slice none 0 0)) := by kernel_rfl
theorem sl29 : SlT Try.prog 29 3 1 8 (.int .i64 0) := ⟨by kernel_rfl, by kernel_rfl⟩
theorem ag31 : AgT Try.prog 31 4 [(Value.int .i64 0), (Value.int .i64 0), (St []), (Value.slice none 0 0)] := ⟨by kernel_rfl, by kernel_rfl, rfl⟩
theorem pl31 : PlT Try.prog 31 [(0, 1), (1, 1), (2, 1), (3, 1)] := by unfold PlT; kernel_rfl
theorem fd31_0 : FldT Try.prog 31 0 0 := by unfold FldT; kernel_rfl
theorem fd31_1 : FldT Try.prog 31 1 1 := by unfold FldT; kernel_rfl
theorem fd31_2 : FldT Try.prog 31 2 2 := by unfold FldT; kernel_rfl
theorem fd31_3 : FldT Try.prog 31 3 3 := by unfold FldT; kernel_rfl
theorem vt38 : VarT Try.prog 38 := ⟨by kernel_rfl, by kernel_rfl⟩
theorem zt38 : (Try.prog.info? 38).map (·.zero) = some (some (.slice none 0 0)) := by kernel_rfl
theorem sl38 : SlT Try.prog 38 44 6 72 (.agg #[.int .i64 0, .int .i64 0, .int .i64 0, .int .i64 0, St [], .slice none 0 0]) := ⟨by kernel_rfl, by kernel_rfl⟩
theorem vt39 : VarT Try.prog 39 := ⟨by kernel_rfl, by kernel_rfl⟩
theorem zt39 : (Try.prog.info? 39).map (·.zero) = some (some (.pointer none)) := by kernel_rfl
theorem up39 : Try.prog.underlying 39 = some (.pointer 42) := by kernel_rfl
theorem vt40 : VarT Try.prog 40 := ⟨by kernel_rfl, by kernel_rfl⟩
theorem zt40 : (Try.prog.info? 40).map (·.zero) = some (some (.slice none 0 0)) := by kernel_rfl
theorem sl40 : SlT Try.prog 40 47 4 56 (.agg #[.int .i64 0, .int .i64 0, St [], .slice none 0 0]) := ⟨by kernel_rfl, by kernel_rfl⟩
theorem ag42 : AgT Try.prog 42 2 [(Value.slice none 0 0), (Value.int .i64 0)] := ⟨by kernel_rfl, by kernel_rfl, rfl⟩
theorem pl42 : PlT Try.prog 42 [(0, 1), (1, 1)] := by unfold PlT; kernel_rfl
theorem fd42_0 : FldT Try.prog 42 0 0 := by unfold FldT; kernel_rfl
theorem fd42_1 : FldT Try.prog 42 1 1 := by unfold FldT; kernel_rfl
theorem ag44 : AgT Try.prog 44 6 [(Value.int .i64 0), (Value.int .i64 0), (Value.int .i64 0), (Value.int .i64 0), (St []), (Value.slice none 0 0)] := ⟨by kernel_rfl, by kernel_rfl, rfl⟩
theorem pl44 : PlT Try.prog 44 [(0, 1), (1, 1), (2, 4)] := by unfold PlT; kernel_rfl
theorem fd44_0 : FldT Try.prog 44 0 0 := by unfold FldT; kernel_rfl
theorem fd44_1 : FldT Try.prog 44 1 1 := by unfold FldT; kernel_rfl
theorem fd44_2 : FldT Try.prog 44 2 2 := by unfold FldT; kernel_rfl
theorem ag47 : AgT Try.prog 47 4 [(Value.int .i64 0), (Value.int .i64 0), (St []), (Value.slice none 0 0)] := ⟨by kernel_rfl, by kernel_rfl, rfl⟩
theorem pl47 : PlT Try.prog 47 [(0, 1), (1, 1), (2, 1), (3, 1)] := by unfold PlT; kernel_rfl
theorem fd47_0 : FldT Try.prog 47 0 0 := by unfold FldT; kernel_rfl
theorem fd47_1 : FldT Try.prog 47 1 1 := by unfold FldT; kernel_rfl
theorem fd47_2 : FldT Try.prog 47 2 2 := by unfold FldT; kernel_rfl
theorem fd47_3 : FldT Try.prog 47 3 3 := by unfold FldT; kernel_rfl
theorem vt53 : VarT Try.prog 53 := ⟨by kernel_rfl, by kernel_rfl⟩
theorem zt53 : (Try.prog.info? 53).map (·.zero) = some (some (.nilFunc)) := by kernel_rfl
theorem vt60 : VarT Try.prog 60 := ⟨by kernel_rfl, by kernel_rfl⟩
theorem zt60 : (Try.prog.info? 60).map (·.zero) = some (some (.slice none 0 0)) := by kernel_rfl
theorem sl60 : SlT Try.prog 60 31 4 56 (.agg #[.int .i64 0, .int .i64 0, St [], .slice none 0 0]) := ⟨by kernel_rfl, by kernel_rfl⟩
theorem vt65 : VarT Try.prog 65 := ⟨by kernel_rfl, by kernel_rfl⟩
theorem zt65 : (Try.prog.info? 65).map (·.zero) = some (some (.slice none 0 0)) := by kernel_rfl
theorem sl65 : SlT Try.prog 65 4 1 1 (.bool false) := ⟨by kernel_rfl, by kernel_rfl⟩
theorem ag67 : AgT Try.prog 67 2 [(Value.slice none 0 0), (Value.int .i64 0)] := ⟨by kernel_rfl, by kernel_rfl, rfl⟩
theorem pl67 : PlT Try.prog 67 [(0, 1), (1, 1)] := by unfold PlT; kernel_rfl
theorem fd67_0 : FldT Try.prog 67 0 0 := by unfold FldT; kernel_rfl
theorem fd67_1 : FldT Try.prog 67 1 1 := by unfold FldT; kernel_rfl
theorem vt70 : VarT Try.prog 70 := ⟨by kernel_rfl, by kernel_rfl⟩
theorem zt70 : (Try.prog.info? 70).map (·.zero) = some (some (.map none)) := by kernel_rfl
theorem vt72 : VarT Try.prog 72 := ⟨by kernel_rfl, by kernel_rfl⟩
theorem zt72 : (Try.prog.info? 72).map (·.zero) = some (some (.nilFunc)) := by kernel_rfl
theorem vt77 : VarT Try.prog 77 := ⟨by kernel_rfl, by kernel_rfl⟩
theorem zt77 : (Try.prog.info? 77).map (·.zero) = some (some (.nilFunc)) := by kernel_rfl
theorem vt78 : VarT Try.prog 78 := ⟨by kernel_rfl, by kernel_rfl⟩
theorem zt78 : (Try.prog.info? 78).map (·.zero) = some (some (.nilFunc)) := by kernel_rfl
theorem fn3 : FnT Try.prog 3 := FnT.mk' Try.func3 (by kernel_rfl) rfl
theorem fn4 : FnT Try.prog 4 := FnT.mk' Try.func4 (by kernel_rfl) rfl
theorem fn5 : FnT Try.prog 5 := FnT.mk' Try.func5 (by kernel_rfl) rfl
theorem fn6 : FnT Try.prog 6 := FnT.mk' Try.func6 (by kernel_rfl) rfl
theorem fn7 : FnT Try.prog 7 := FnT.mk' Try.func7 (by kernel_rfl) rfl
theorem fn8 : FnT Try.prog 8 := FnT.mk' Try.func8 (by kernel_rfl) rfl
theorem fn9 : FnT Try.prog 9 := FnT.mk' Try.func9 (by kernel_rfl) rfl
theorem fn10 : FnT Try.prog 10 := FnT.mk' Try.func10 (by kernel_rfl) rfl
theorem fn11 : FnT Try.prog 11 := FnT.mk' Try.func11 (by kernel_rfl) rfl
theorem fn12 : FnT Try.prog 12 := FnT.mk' Try.func12 (by kernel_rfl) rfl
theorem fn13 : FnT Try.prog 13 := FnT.mk' Try.func13 (by kernel_rfl) rfl
theorem fn14 : FnT Try.prog 14 := FnT.mk' Try.func14 (by kernel_rfl) rfl
theorem fn15 : FnT Try.prog 15 := FnT.mk' Try.func15 (by kernel_rfl) rfl
theorem fn16 : FnT Try.prog 16 := FnT.mk' Try.func16 (by kernel_rfl) rfl
theorem fn17 : FnT Try.prog 17 := FnT.mk' Try.func17 (by kernel_rfl) rfl
theorem fn18 : FnT Try.prog 18 := FnT.mk' Try.func18 (by kernel_rfl) rfl
theorem fn19 : FnT Try.prog 19 := FnT.mk' Try.func19 (by kernel_rfl) rfl
theorem fn20 : FnT Try.prog 20 := FnT.mk' Try.func20 (by kernel_rfl) rfl
theorem fn21 : FnT Try.prog 21 := FnT.mk' Try.func21 (by kernel_rfl) rfl
theorem fn22 : FnT Try.prog 22 := FnT.mk' Try.func22 (by kernel_rfl) rfl
theorem fn23 : FnT Try.prog 23 := FnT.mk' Try.func23 (by kernel_rfl) rfl
theorem fn24 : FnT Try.prog 24 := FnT.mk' Try.func24 (by kernel_rfl) rfl
theorem fn25 : FnT Try.prog 25 := FnT.mk' Try.func25 (by kernel_rfl) rfl
theorem fn26 : FnT Try.prog 26 := FnT.mk' Try.func26 (by kernel_rfl) rfl
theorem fn27 : FnT Try.prog 27 := FnT.mk' Try.func27 (by kernel_rfl) rfl
theorem fn28 : FnT Try.prog 28 := FnT.mk' Try.func28 (by kernel_rfl) rfl
theorem fn29 : FnT Try.prog 29 := FnT.mk' Try.func29 (by kernel_rfl) rfl
theorem fn30 : FnT Try.prog 30 := FnT.mk' Try.func30 (by kernel_rfl) rfl
theorem fn31 : FnT Try.prog 31 := FnT.mk' Try.func31 (by kernel_rfl) rfl
theorem fn32 : FnT Try.prog 32 := FnT.mk' Try.func32 (by kernel_rfl) rfl
theorem fn33 : FnT Try.prog 33 := FnT.mk' Try.func33 (by kernel_rfl) rfl
theorem fn34 : FnT Try.prog 34 := FnT.mk' Try.func34 (by kernel_rfl) rfl
theorem fn35 : FnT Try.prog 35 := FnT.mk' Try.func35 (by kernel_rfl) rfl
theorem fn36 : FnT Try.prog 36 := FnT.mk' Try.func36 (by kernel_rfl) rfl
theorem fn37 : FnT Try.prog 37 := FnT.mk' Try.func37 (by kernel_rfl) rfl
theorem fn38 : FnT Try.prog 38 := FnT.mk' Try.func38 (by kernel_rfl) rfl
theorem fn39 : FnT Try.prog 39 := FnT.mk' Try.func39 (by kernel_rfl) rfl
theorem fn40 : FnT Try.prog 40 := FnT.mk' Try.func40 (by kernel_rfl) rfl
theorem fn41 : FnT Try.prog 41 := FnT.mk' Try.func41 (by kernel_rfl) rfl
theorem fn42 : FnT Try.prog 42 := FnT.mk' Try.func42 (by kernel_rfl) rfl
theorem fn43 : FnT Try.prog 43 := FnT.mk' Try.func43 (by kernel_rfl) rfl
theorem fn44 : FnT Try.prog 44 := FnT.mk' Try.func44 (by kernel_rfl) rfl
theorem fn45 : FnT Try.prog 45 := FnT.mk' Try.func45 (by kernel_rfl) rfl
theorem fn46 : FnT Try.prog 46 := FnT.mk' Try.func46 (by kernel_rfl) rfl
end Go.Proofs.Ytoekjhalcjhegaa.Hep
