/- Facts on the types of the seat's program, written by gentypes.py. -/
import Derived.Test.YtadbinckjmdokaaEnC
import Derived.Test.YtadbinckjmdokaaChecked
set_option linter.unusedVariables false
namespace Go.Proofs.Ytadbinckjmdokaa.Trd
open Go Go.Eng Go.RowKit
theorem mo : Try.prog.follows .mixedOrders = true := by kernel_rfl
theorem vt3 : VarT Try.prog 3 := ⟨by kernel_rfl, by kernel_rfl⟩
theorem zt3 : (Try.prog.info? 3).map (·.zero) = some (some (.int .i64 0)) := by kernel_rfl
theorem ui3 : Try.prog.underlying 3 = some (.int .i64) := by kernel_rfl
theorem vt4 : VarT Try.prog 4 := ⟨by kernel_rfl, by kernel_rfl⟩
theorem zt4 : (Try.prog.info? 4).map (·.zero) = some (some (.bool false)) := by kernel_rfl
theorem ub4 : Try.prog.underlying 4 = some .bool := by kernel_rfl
theorem vt5 : VarT Try.prog 5 := ⟨by kernel_rfl, by kernel_rfl⟩
theorem zt5 : (Try.prog.info? 5).map (·.zero) = some (some (.int .u8 0)) := by kernel_rfl
theorem ui5 : Try.prog.underlying 5 = some (.int .u8) := by kernel_rfl
theorem vt9 : VarT Try.prog 9 := ⟨by kernel_rfl, by kernel_rfl⟩
theorem zt9 : (Try.prog.info? 9).map (·.zero) = some (some (St [])) := by kernel_rfl
theorem us9 : Try.prog.underlying 9 = some .string := by kernel_rfl
theorem vt21 : VarT Try.prog 21 := ⟨by kernel_rfl, by kernel_rfl⟩
theorem zt21 : (Try.prog.info? 21).map (·.zero) = some (some (.int .i32 0)) := by kernel_rfl
theorem ui21 : Try.prog.underlying 21 = some (.int .i32) := by kernel_rfl
theorem vt22 : VarT Try.prog 22 := ⟨by kernel_rfl, by kernel_rfl⟩
theorem zt22 : (Try.prog.info? 22).map (·.zero) = some (some (.slice none 0 0)) := by kernel_rfl
theorem sl22 : SlT Try.prog 22 3 1 8 (.int .i64 0) := ⟨by kernel_rfl, by kernel_rfl⟩
theorem vt23 : VarT Try.prog 23 := ⟨by kernel_rfl, by kernel_rfl⟩
theorem zt23 : (Try.prog.info? 23).map (·.zero) = some (some (.slice none 0 0)) := by kernel_rfl
theorem sl23 : SlT Try.prog 23 9 1 16 (St []) := ⟨by kernel_rfl, by kernel_rfl⟩
theorem vt25 : VarT Try.prog 25 := ⟨by kernel_rfl, by kernel_rfl⟩
theorem zt25 : (Try.prog.info? 25).map (·.zero) = some (some (.slice none 0 0)) := by kernel_rfl
theorem sl25 : SlT Try.prog 25 140 1 24 (.agg #[.slice none 0 0]) := ⟨by kernel_rfl, by kernel_rfl⟩
theorem vt26 : VarT Try.prog 26 := ⟨by kernel_rfl, by kernel_rfl⟩
theorem zt26 : (Try.prog.info? 26).map (·.zero) = some (some (.slice none 0 0)) := by kernel_rfl
theorem sl26 : SlT Try.prog 26 92 5 72 (.agg #[St [], .int .i64 0, .int .i64 0, St [], .slice none 0 0]) := ⟨by kernel_rfl, by kernel_rfl⟩
theorem vt27 : VarT Try.prog 27 := ⟨by kernel_rfl, by kernel_rfl⟩
theorem zt27 : (Try.prog.info? 27).map (·.zero) = some (some (.slice none 0 0)) := by kernel_rfl
theorem sl27 : SlT Try.prog 27 29 4 56 (.agg #[.int .i64 0, .int .i64 0, St [], .slice none 0 0]) := ⟨by kernel_rfl, by kernel_rfl⟩
theorem ag29 : AgT Try.prog 29 4 [(Value.int .i64 0), (Value.int .i64 0), (St []), (Value.slice none 0 0)] := ⟨by kernel_rfl, by kernel_rfl, rfl⟩
theorem pl29 : PlT Try.prog 29 [(0, 1), (1, 1), (2, 1), (3, 1)] := by unfold PlT; kernel_rfl
theorem fd29_0 : FldT Try.prog 29 0 0 := by unfold FldT; kernel_rfl
theorem fd29_1 : FldT Try.prog 29 1 1 := by unfold FldT; kernel_rfl
theorem fd29_2 : FldT Try.prog 29 2 2 := by unfold FldT; kernel_rfl
theorem fd29_3 : FldT Try.prog 29 3 3 := by unfold FldT; kernel_rfl
theorem ag31 : AgT Try.prog 31 7 [(Value.slice none 0 0), (Value.slice none 0 0), (Value.slice none 0 0), (Value.int .i64 0), (Value.int .i64 0), (St []), (Value.slice none 0 0)] := ⟨by kernel_rfl, by kernel_rfl, rfl⟩
theorem pl31 : PlT Try.prog 31 [(0, 1), (1, 1), (2, 1), (3, 4)] := by unfold PlT; kernel_rfl
theorem fd31_0 : FldT Try.prog 31 0 0 := by unfold FldT; kernel_rfl
theorem fd31_1 : FldT Try.prog 31 1 1 := by unfold FldT; kernel_rfl
theorem fd31_2 : FldT Try.prog 31 2 2 := by unfold FldT; kernel_rfl
theorem fd31_3 : FldT Try.prog 31 3 3 := by unfold FldT; kernel_rfl
theorem vt32 : VarT Try.prog 32 := ⟨by kernel_rfl, by kernel_rfl⟩
theorem zt32 : (Try.prog.info? 32).map (·.zero) = some (some (.int .i64 0)) := by kernel_rfl
theorem ui32 : Try.prog.underlying 32 = some (.int .i64) := by kernel_rfl
theorem ag34 : AgT Try.prog 34 2 [(Value.int .i64 0), (Value.int .i64 0)] := ⟨by kernel_rfl, by kernel_rfl, rfl⟩
theorem eq34 : EqT Try.prog 34 [some .i64, some .i64] := ⟨by kernel_rfl, by kernel_rfl, by kernel_rfl, by kernel_rfl⟩
theorem pl34 : PlT Try.prog 34 [(0, 1), (1, 1)] := by unfold PlT; kernel_rfl
theorem fd34_0 : FldT Try.prog 34 0 0 := by unfold FldT; kernel_rfl
theorem fd34_1 : FldT Try.prog 34 1 1 := by unfold FldT; kernel_rfl
theorem ag38 : AgT Try.prog 38 9 [(Value.int .i64 0), (Value.int .i64 0), (St []), (Value.slice none 0 0), (Value.slice none 0 0), (Value.slice none 0 0), (Value.int .i64 0), (Value.int .i64 0), (Value.int .i64 0)] := ⟨by kernel_rfl, by kernel_rfl, rfl⟩
theorem pl38 : PlT Try.prog 38 [(0, 4), (4, 1), (5, 1), (6, 1), (7, 2)] := by unfold PlT; kernel_rfl
theorem fd38_0 : FldT Try.prog 38 0 0 := by unfold FldT; kernel_rfl
theorem fd38_1 : FldT Try.prog 38 1 4 := by unfold FldT; kernel_rfl
theorem fd38_2 : FldT Try.prog 38 2 5 := by unfold FldT; kernel_rfl
theorem fd38_3 : FldT Try.prog 38 3 6 := by unfold FldT; kernel_rfl
theorem fd38_4 : FldT Try.prog 38 4 7 := by unfold FldT; kernel_rfl
theorem vt43 : VarT Try.prog 43 := ⟨by kernel_rfl, by kernel_rfl⟩
theorem zt43 : (Try.prog.info? 43).map (·.zero) = some (some (.slice none 0 0)) := by kernel_rfl
theorem sl43 : SlT Try.prog 43 80 4 40 (.agg #[.int .i64 0, St [], .int .i64 0, .int .i64 0]) := ⟨by kernel_rfl, by kernel_rfl⟩
theorem vt47 : VarT Try.prog 47 := ⟨by kernel_rfl, by kernel_rfl⟩
theorem zt47 : (Try.prog.info? 47).map (·.zero) = some (some (.slice none 0 0)) := by kernel_rfl
theorem sl47 : SlT Try.prog 47 73 4 40 (.agg #[.int .i64 0, St [], .int .i64 0, .int .i64 0]) := ⟨by kernel_rfl, by kernel_rfl⟩
theorem vt68 : VarT Try.prog 68 := ⟨by kernel_rfl, by kernel_rfl⟩
theorem zt68 : (Try.prog.info? 68).map (·.zero) = some (some (.slice none 0 0)) := by kernel_rfl
theorem sl68 : SlT Try.prog 68 5 1 1 (.int .u8 0) := ⟨by kernel_rfl, by kernel_rfl⟩
theorem vt71 : VarT Try.prog 71 := ⟨by kernel_rfl, by kernel_rfl⟩
theorem zt71 : (Try.prog.info? 71).map (·.zero) = some (some (.nilFunc)) := by kernel_rfl
theorem ag73 : AgT Try.prog 73 4 [(Value.int .i64 0), (St []), (Value.int .i64 0), (Value.int .i64 0)] := ⟨by kernel_rfl, by kernel_rfl, rfl⟩
theorem eq73 : EqT Try.prog 73 [some .i64, none, some .i64, some .i64] := ⟨by kernel_rfl, by kernel_rfl, by kernel_rfl, by kernel_rfl⟩
theorem pl73 : PlT Try.prog 73 [(0, 1), (1, 1), (2, 1), (3, 1)] := by unfold PlT; kernel_rfl
theorem fd73_0 : FldT Try.prog 73 0 0 := by unfold FldT; kernel_rfl
theorem fd73_1 : FldT Try.prog 73 1 1 := by unfold FldT; kernel_rfl
theorem fd73_2 : FldT Try.prog 73 2 2 := by unfold FldT; kernel_rfl
theorem fd73_3 : FldT Try.prog 73 3 3 := by unfold FldT; kernel_rfl
theorem vt79 : VarT Try.prog 79 := ⟨by kernel_rfl, by kernel_rfl⟩
theorem zt79 : (Try.prog.info? 79).map (·.zero) = some (some (.nilFunc)) := by kernel_rfl
theorem ag80 : AgT Try.prog 80 4 [(Value.int .i64 0), (St []), (Value.int .i64 0), (Value.int .i64 0)] := ⟨by kernel_rfl, by kernel_rfl, rfl⟩
theorem eq80 : EqT Try.prog 80 [some .i64, none, some .i64, some .i64] := ⟨by kernel_rfl, by kernel_rfl, by kernel_rfl, by kernel_rfl⟩
theorem pl80 : PlT Try.prog 80 [(0, 1), (1, 1), (2, 1), (3, 1)] := by unfold PlT; kernel_rfl
theorem fd80_0 : FldT Try.prog 80 0 0 := by unfold FldT; kernel_rfl
theorem fd80_1 : FldT Try.prog 80 1 1 := by unfold FldT; kernel_rfl
theorem fd80_2 : FldT Try.prog 80 2 2 := by unfold FldT; kernel_rfl
theorem fd80_3 : FldT Try.prog 80 3 3 := by unfold FldT; kernel_rfl
theorem ag92 : AgT Try.prog 92 5 [(St []), (Value.int .i64 0), (Value.int .i64 0), (St []), (Value.slice none 0 0)] := ⟨by kernel_rfl, by kernel_rfl, rfl⟩
theorem pl92 : PlT Try.prog 92 [(0, 1), (1, 4)] := by unfold PlT; kernel_rfl
theorem fd92_0 : FldT Try.prog 92 0 0 := by unfold FldT; kernel_rfl
theorem fd92_1 : FldT Try.prog 92 1 1 := by unfold FldT; kernel_rfl
theorem vt111 : VarT Try.prog 111 := ⟨by kernel_rfl, by kernel_rfl⟩
theorem zt111 : (Try.prog.info? 111).map (·.zero) = some (some (.nilFunc)) := by kernel_rfl
theorem vt121 : VarT Try.prog 121 := ⟨by kernel_rfl, by kernel_rfl⟩
theorem zt121 : (Try.prog.info? 121).map (·.zero) = some (some (.nilFunc)) := by kernel_rfl
theorem ag140 : AgT Try.prog 140 1 [(Value.slice none 0 0)] := ⟨by kernel_rfl, by kernel_rfl, rfl⟩
theorem pl140 : PlT Try.prog 140 [(0, 1)] := by unfold PlT; kernel_rfl
theorem fd140_0 : FldT Try.prog 140 0 0 := by unfold FldT; kernel_rfl
theorem fn3 : FnT Try.prog 3 := FnT.mk' Try.func3 (by kernel_rfl) rfl
theorem fn4 : FnT Try.prog 4 := FnT.mk' Try.func4 (by kernel_rfl) rfl
theorem fn5 : FnT Try.prog 5 := FnT.mk' Try.func5 (by kernel_rfl) rfl
theorem fn6 : FnT Try.prog 6 := FnT.mk' Try.func6 (by kernel_rfl) rfl
theorem fn7 : FnT Try.prog 7 := FnT.mk' Try.func7 (by kernel_rfl) rfl
theorem fn8 : FnT Try.prog 8 := FnT.mk' Try.func8 (by kernel_rfl) rfl
theorem fn9 : FnT Try.prog 9 := FnT.mk' Try.func9 (by kernel_rfl) rfl
theorem fn10 : FnT Try.prog 10 := FnT.mk' Try.func10 (by kernel_rfl) rfl
theorem fn11 : FnT Try.prog 11 := FnT.mk' Try.func11 (by kernel_rfl) rfl
theorem fn12 : FnT Try.prog 12 := FnT.mk' Try.func12 (by kernel_rfl) rfl
theorem fn13 : FnT Try.prog 13 := FnT.mk' Try.func13 (by kernel_rfl) rfl
theorem fn14 : FnT Try.prog 14 := FnT.mk' Try.func14 (by kernel_rfl) rfl
theorem fn15 : FnT Try.prog 15 := FnT.mk' Try.func15 (by kernel_rfl) rfl
theorem fn16 : FnT Try.prog 16 := FnT.mk' Try.func16 (by kernel_rfl) rfl
theorem fn17 : FnT Try.prog 17 := FnT.mk' Try.func17 (by kernel_rfl) rfl
theorem fn18 : FnT Try.prog 18 := FnT.mk' Try.func18 (by kernel_rfl) rfl
theorem fn19 : FnT Try.prog 19 := FnT.mk' Try.func19 (by kernel_rfl) rfl
theorem fn20 : FnT Try.prog 20 := FnT.mk' Try.func20 (by kernel_rfl) rfl
theorem fn21 : FnT Try.prog 21 := FnT.mk' Try.func21 (by kernel_rfl) rfl
theorem fn22 : FnT Try.prog 22 := FnT.mk' Try.func22 (by kernel_rfl) rfl
theorem fn23 : FnT Try.prog 23 := FnT.mk' Try.func23 (by kernel_rfl) rfl
theorem fn24 : FnT Try.prog 24 := FnT.mk' Try.func24 (by kernel_rfl) rfl
theorem fn25 : FnT Try.prog 25 := FnT.mk' Try.func25 (by kernel_rfl) rfl
theorem fn26 : FnT Try.prog 26 := FnT.mk' Try.func26 (by kernel_rfl) rfl
theorem fn27 : FnT Try.prog 27 := FnT.mk' Try.func27 (by kernel_rfl) rfl
theorem fn28 : FnT Try.prog 28 := FnT.mk' Try.func28 (by kernel_rfl) rfl
theorem fn29 : FnT Try.prog 29 := FnT.mk' Try.func29 (by kernel_rfl) rfl
theorem fn30 : FnT Try.prog 30 := FnT.mk' Try.func30 (by kernel_rfl) rfl
theorem fn31 : FnT Try.prog 31 := FnT.mk' Try.func31 (by kernel_rfl) rfl
theorem fn32 : FnT Try.prog 32 := FnT.mk' Try.func32 (by kernel_rfl) rfl
theorem fn33 : FnT Try.prog 33 := FnT.mk' Try.func33 (by kernel_rfl) rfl
theorem fn34 : FnT Try.prog 34 := FnT.mk' Try.func34 (by kernel_rfl) rfl
theorem fn35 : FnT Try.prog 35 := FnT.mk' Try.func35 (by kernel_rfl) rfl
theorem fn36 : FnT Try.prog 36 := FnT.mk' Try.func36 (by kernel_rfl) rfl
theorem fn37 : FnT Try.prog 37 := FnT.mk' Try.func37 (by kernel_rfl) rfl
theorem fn38 : FnT Try.prog 38 := FnT.mk' Try.func38 (by kernel_rfl) rfl
theorem fn39 : FnT Try.prog 39 := FnT.mk' Try.func39 (by kernel_rfl) rfl
theorem fn40 : FnT Try.prog 40 := FnT.mk' Try.func40 (by kernel_rfl) rfl
theorem fn41 : FnT Try.prog 41 := FnT.mk' Try.func41 (by kernel_rfl) rfl
theorem fn42 : FnT Try.prog 42 := FnT.mk' Try.func42 (by kernel_rfl) rfl
theorem fn43 : FnT Try.prog 43 := FnT.mk' Try.func43 (by kernel_rfl) rfl
theorem fn44 : FnT Try.prog 44 := FnT.mk' Try.func44 (by kernel_rfl) rfl
theorem fn45 : FnT Try.prog 45 := FnT.mk' Try.func45 (by kernel_rfl) rfl
theorem fn46 : FnT Try.prog 46 := FnT.mk' Try.func46 (by kernel_rfl) rfl
theorem fn47 : FnT Try.prog 47 := FnT.mk' Try.func47 (by kernel_rfl) rfl
theorem fn48 : FnT Try.prog 48 := FnT.mk' Try.func48 (by kernel_rfl) rfl
theorem fn49 : FnT Try.prog 49 := FnT.mk' Try.func49 (by kernel_rfl) rfl
theorem fn50 : FnT Try.prog 50 := FnT.mk' Try.func50 (by kernel_rfl) rfl
theorem fn51 : FnT Try.prog 51 := FnT.mk' Try.func51 (by kernel_rfl) rfl
theorem fn52 : FnT Try.prog 52 := FnT.mk' Try.func52 (by kernel_rfl) rfl
theorem fn53 : FnT Try.prog 53 := FnT.mk' Try.func53 (by kernel_rfl) rfl
theorem fn54 : FnT Try.prog 54 := FnT.mk' Try.func54 (by kernel_rfl) rfl
theorem fn55 : FnT Try.prog 55 := FnT.mk' Try.func55 (by kernel_rfl) rfl
theorem fn56 : FnT Try.prog 56 := FnT.mk' Try.func56 (by kernel_rfl) rfl
theorem fn57 : FnT Try.prog 57 := FnT.mk' Try.func57 (by kernel_rfl) rfl
theorem fn58 : FnT Try.prog 58 := FnT.mk' Try.func58 (by kernel_rfl) rfl
theorem fn59 : FnT Try.prog 59 := FnT.mk' Try.func59 (by kernel_rfl) rfl
theorem fn60 : FnT Try.prog 60 := FnT.mk' Try.func60 (by kernel_rfl) rfl
theorem fn61 : FnT Try.prog 61 := FnT.mk' Try.func61 (by kernel_rfl) rfl
theorem fn62 : FnT Try.prog 62 := FnT.mk' Try.func62 (by kernel_rfl) rfl
theorem fn63 : FnT Try.prog 63 := FnT.mk' Try.func63 (by kernel_rfl) rfl
theorem fn64 : FnT Try.prog 64 := FnT.mk' Try.func64 (by kernel_rfl) rfl
theorem fn65 : FnT Try.prog 65 := FnT.mk' Try.func65 (by kernel_rfl) rfl
theorem fn66 : FnT Try.prog 66 := FnT.mk' Try.func66 (by kernel_rfl) rfl
theorem fn67 : FnT Try.prog 67 := FnT.mk' Try.func67 (by kernel_rfl) rfl
theorem fn68 : FnT Try.prog 68 := FnT.mk' Try.func68 (by kernel_rfl) rfl
theorem fn69 : FnT Try.prog 69 := FnT.mk' Try.func69 (by kernel_rfl) rfl
theorem fn70 : FnT Try.prog 70 := FnT.mk' Try.func70 (by kernel_rfl) rfl
theorem fn71 : FnT Try.prog 71 := FnT.mk' Try.func71 (by kernel_rfl) rfl
theorem fn72 : FnT Try.prog 72 := FnT.mk' Try.func72 (by kernel_rfl) rfl
theorem fn73 : FnT Try.prog 73 := FnT.mk' Try.func73 (by kernel_rfl) rfl
theorem fn74 : FnT Try.prog 74 := FnT.mk' Try.func74 (by kernel_rfl) rfl
theorem fn75 : FnT Try.prog 75 := FnT.mk' Try.func75 (by kernel_rfl) rfl
theorem fn76 : FnT Try.prog 76 := FnT.mk' Try.func76 (by kernel_rfl) rfl
theorem fn77 : FnT Try.prog 77 := FnT.mk' Try.func77 (by kernel_rfl) rfl
theorem fn78 : FnT Try.prog 78 := FnT.mk' Try.func78 (by kernel_rfl) rfl
theorem fn79 : FnT Try.prog 79 := FnT.mk' Try.func79 (by kernel_rfl) rfl
theorem fn80 : FnT Try.prog 80 := FnT.mk' Try.func80 (by kernel_rfl) rfl
theorem fn81 : FnT Try.prog 81 := FnT.mk' Try.func81 (by kernel_rfl) rfl
theorem fn82 : FnT Try.prog 82 := FnT.mk' Try.func82 (by kernel_rfl) rfl
theorem fn83 : FnT Try.prog 83 := FnT.mk' Try.func83 (by kernel_rfl) rfl
theorem fn84 : FnT Try.prog 84 := FnT.mk' Try.func84 (by kernel_rfl) rfl
theorem fn85 : FnT Try.prog 85 := FnT.mk' Try.func85 (by kernel_rfl) rfl
theorem fn86 : FnT Try.prog 86 := FnT.mk' Try.func86 (by kernel_rfl) rfl
theorem fn87 : FnT Try.prog 87 := FnT.mk' Try.func87 (by kernel_rfl) rfl
theorem fn88 : FnT Try.prog 88 := FnT.mk' Try.func88 (by kernel_rfl) rfl
theorem fn89 : FnT Try.prog 89 := FnT.mk' Try.func89 (by kernel_rfl) rfl
theorem fn91 : FnT Try.prog 91 := FnT.mk' Try.func91 (by kernel_rfl) rfl
theorem fn92 : FnT Try.prog 92 := FnT.mk' Try.func92 (by kernel_rfl) rfl
theorem fn93 : FnT Try.prog 93 := FnT.mk' Try.func93 (by kernel_rfl) rfl
theorem fn94 : FnT Try.prog 94 := FnT.mk' Try.func94 (by kernel_rfl) rfl
theorem fn95 : FnT Try.prog 95 := FnT.mk' Try.func95 (by kernel_rfl) rfl
theorem fn96 : FnT Try.prog 96 := FnT.mk' Try.func96 (by kernel_rfl) rfl
theorem fn97 : FnT Try.prog 97 := FnT.mk' Try.func97 (by kernel_rfl) rfl
theorem fn98 : FnT Try.prog 98 := FnT.mk' Try.func98 (by kernel_rfl) rfl
theorem fn99 : FnT Try.prog 99 := FnT.mk' Try.func99 (by kernel_rfl) rfl
end Go.Proofs.Ytadbinckjmdokaa.Trd
