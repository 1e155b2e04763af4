/- Written by a program of mine (gennames.py): the seat's types, and its functions by their names. -/
import Derived.Test.YtefahijlcmfpjaaProg
import Derived.Test.YtefahijlcmfpjaaSEd
namespace Go.Proofs.Ytefahijlcmfpjaa
open Go Go.SE
def lay : Lay := [
  (3, ⟨.int .i64, 1, 8, .int .i64 0⟩),
  (4, ⟨.bool, 1, 1, .bool false⟩),
  (22, ⟨.slice 37, 1, 24, .slice none 0 0⟩),
  (24, ⟨.ptr 72, 1, 8, .pointer none⟩),
  (25, ⟨.array 64 3, 64, 512, .agg (List.toArray (List.replicate 64 (Value.int .i64 0)))⟩),
  (27, ⟨.array 64 4, 64, 64, .agg (List.toArray (List.replicate 64 (Value.bool false)))⟩),
  (29, ⟨.struct [(3, 0), (25, 1), (27, 65)], 129, 584, .agg (List.toArray (List.replicate 65 (Value.int .i64 0) ++ List.replicate 64 (Value.bool false)))⟩),
  (34, ⟨.slice 27, 1, 24, .slice none 0 0⟩),
  (36, ⟨.slice 38, 1, 24, .slice none 0 0⟩),
  (37, ⟨.int .u64, 1, 8, .int .u64 0⟩),
  (38, ⟨.int .u64, 1, 8, .int .u64 0⟩),
  (39, ⟨.int .i64, 1, 8, .int .i64 0⟩),
  (44, ⟨.slice 46, 1, 24, .slice none 0 0⟩),
  (46, ⟨.struct [(3, 0), (4, 1)], 2, 16, .agg #[.int .i64 0, .bool false]⟩),
  (58, ⟨.func, 1, 8, .nilFunc⟩),
  (60, ⟨.struct [(3, 0), (37, 1)], 2, 16, .agg #[.int .i64 0, .int .u64 0]⟩),
  (72, ⟨.struct [(36, 0), (38, 1)], 2, 32, .agg #[.slice none 0 0, .int .u64 0]⟩),
  (81, ⟨.slice 3, 1, 24, .slice none 0 0⟩),
  (84, ⟨.int .u64, 1, 8, .int .u64 0⟩)]
theorem lay_eq : lay.map (fun x => tiOf Try.prog x.1) = lay.map fun x => some (x.2.kind, x.2.size, x.2.bytes, x.2.zero) := by kernel_rfl
theorem lay_ok : lay.Ok Try.prog := Lay.ok_of _ _ lay_eq
theorem mixed : Try.prog.follows .mixedOrders = true := by kernel_rfl
noncomputable def cx : Cx := ⟨Try.prog, lay, lay_ok, mixed⟩
abbrev T_int : Nat := 3
abbrev T_bool : Nat := 4
abbrev T_S_uint64 : Nat := 22
abbrev T_P_topo_Topo : Nat := 24
abbrev T_64_int : Nat := 25
abbrev T_ref01_Set : Nat := 27
abbrev T_ref05_T : Nat := 29
abbrev T_S_ref01_Set : Nat := 34
abbrev T_S_mask_Set : Nat := 36
abbrev T_uint64 : Nat := 37
abbrev T_mask_Set : Nat := 38
abbrev T_api_Errno : Nat := 39
abbrev T_S_law05_Act : Nat := 44
abbrev T_law05_Act : Nat := 46
abbrev T_func_mask_Set_bool : Nat := 58
abbrev T_law05_Ask : Nat := 60
abbrev T_topo_Topo : Nat := 72
abbrev T_S_int : Nat := 81
abbrev T_uint : Nat := 84
abbrev F_law05_TopoNews : Nat := 3
abbrev N_law05_TopoNews : Nat := 69
noncomputable abbrev B_law05_TopoNews : Func := Try.f3
theorem fn_law05_TopoNews : cx.P.funcs[F_law05_TopoNews]? = some B_law05_TopoNews := Try.func3
theorem real_law05_TopoNews : Real cx.P F_law05_TopoNews := ⟨_, Try.func3, rfl, rfl⟩
abbrev F_law05_TopoPlays : Nat := 4
abbrev N_law05_TopoPlays : Nat := 68
noncomputable abbrev B_law05_TopoPlays : Func := Try.f4
theorem fn_law05_TopoPlays : cx.P.funcs[F_law05_TopoPlays]? = some B_law05_TopoPlays := Try.func4
theorem real_law05_TopoPlays : Real cx.P F_law05_TopoPlays := ⟨_, Try.func4, rfl, rfl⟩
abbrev F_law05_TopoCopies : Nat := 5
abbrev N_law05_TopoCopies : Nat := 90
noncomputable abbrev B_law05_TopoCopies : Func := Try.f5
theorem fn_law05_TopoCopies : cx.P.funcs[F_law05_TopoCopies]? = some B_law05_TopoCopies := Try.func5
theorem real_law05_TopoCopies : Real cx.P F_law05_TopoCopies := ⟨_, Try.func5, rfl, rfl⟩
abbrev F_law05_TopoParts : Nat := 6
abbrev N_law05_TopoParts : Nat := 127
noncomputable abbrev B_law05_TopoParts : Func := Try.f6
theorem fn_law05_TopoParts : cx.P.funcs[F_law05_TopoParts]? = some B_law05_TopoParts := Try.func6
theorem real_law05_TopoParts : Real cx.P F_law05_TopoParts := ⟨_, Try.func6, rfl, rfl⟩
abbrev F_law05_TopoMasks : Nat := 7
abbrev N_law05_TopoMasks : Nat := 108
noncomputable abbrev B_law05_TopoMasks : Func := Try.f7
theorem fn_law05_TopoMasks : cx.P.funcs[F_law05_TopoMasks]? = some B_law05_TopoMasks := Try.func7
theorem real_law05_TopoMasks : Real cx.P F_law05_TopoMasks := ⟨_, Try.func7, rfl, rfl⟩
abbrev F_law05_awake : Nat := 8
abbrev N_law05_awake : Nat := 34
noncomputable abbrev B_law05_awake : Func := Try.f8
theorem fn_law05_awake : cx.P.funcs[F_law05_awake]? = some B_law05_awake := Try.func8
theorem real_law05_awake : Real cx.P F_law05_awake := ⟨_, Try.func8, rfl, rfl⟩
abbrev F_law05_Open : Nat := 9
abbrev N_law05_Open : Nat := 50
noncomputable abbrev B_law05_Open : Func := Try.f9
theorem fn_law05_Open : cx.P.funcs[F_law05_Open]? = some B_law05_Open := Try.func9
theorem real_law05_Open : Real cx.P F_law05_Open := ⟨_, Try.func9, rfl, rfl⟩
abbrev F_ref05_New : Nat := 10
abbrev N_ref05_New : Nat := 62
noncomputable abbrev B_ref05_New : Func := Try.f10
theorem fn_ref05_New : cx.P.funcs[F_ref05_New]? = some B_ref05_New := Try.func10
theorem real_ref05_New : Real cx.P F_ref05_New := ⟨_, Try.func10, rfl, rfl⟩
abbrev F_law05_Sets : Nat := 11
abbrev N_law05_Sets : Nat := 19
noncomputable abbrev B_law05_Sets : Func := Try.f11
theorem fn_law05_Sets : cx.P.funcs[F_law05_Sets]? = some B_law05_Sets := Try.func11
theorem real_law05_Sets : Real cx.P F_law05_Sets := ⟨_, Try.func11, rfl, rfl⟩
abbrev F_topo_New : Nat := 12
abbrev N_topo_New : Nat := 45
noncomputable abbrev B_topo_New : Func := Try.f12
theorem fn_topo_New : cx.P.funcs[F_topo_New]? = some B_topo_New := Try.func12
theorem real_topo_New : Real cx.P F_topo_New := ⟨_, Try.func12, rfl, rfl⟩
abbrev F_law05_Is : Nat := 13
abbrev N_law05_Is : Nat := 118
noncomputable abbrev B_law05_Is : Func := Try.f13
theorem fn_law05_Is : cx.P.funcs[F_law05_Is]? = some B_law05_Is := Try.func13
theorem real_law05_Is : Real cx.P F_law05_Is := ⟨_, Try.func13, rfl, rfl⟩
abbrev F_law05_do : Nat := 14
abbrev N_law05_do : Nat := 42
noncomputable abbrev B_law05_do : Func := Try.f14
theorem fn_law05_do : cx.P.funcs[F_law05_do]? = some B_law05_do := Try.func14
theorem real_law05_do : Real cx.P F_law05_do := ⟨_, Try.func14, rfl, rfl⟩
abbrev F_topo_Topo_Online : Nat := 15
abbrev N_topo_Topo_Online : Nat := 21
noncomputable abbrev B_topo_Topo_Online : Func := Try.f15
theorem fn_topo_Topo_Online : cx.P.funcs[F_topo_Topo_Online]? = some B_topo_Topo_Online := Try.func15
theorem real_topo_Topo_Online : Real cx.P F_topo_Topo_Online := ⟨_, Try.func15, rfl, rfl⟩
abbrev F_topo_Topo_Copy : Nat := 16
abbrev N_topo_Topo_Copy : Nat := 13
noncomputable abbrev B_topo_Topo_Copy : Func := Try.f16
theorem fn_topo_Topo_Copy : cx.P.funcs[F_topo_Topo_Copy]? = some B_topo_Topo_Copy := Try.func16
theorem real_topo_Topo_Copy : Real cx.P F_topo_Topo_Copy := ⟨_, Try.func16, rfl, rfl⟩
abbrev F_topo_Topo_Of : Nat := 17
abbrev N_topo_Topo_Of : Nat := 16
noncomputable abbrev B_topo_Topo_Of : Func := Try.f17
theorem fn_topo_Topo_Of : cx.P.funcs[F_topo_Topo_Of]? = some B_topo_Topo_Of := Try.func17
theorem real_topo_Topo_Of : Real cx.P F_topo_Topo_Of := ⟨_, Try.func17, rfl, rfl⟩
abbrev F_topo_Topo_Domains : Nat := 18
abbrev N_topo_Topo_Domains : Nat := 8
noncomputable abbrev B_topo_Topo_Domains : Func := Try.f18
theorem fn_topo_Topo_Domains : cx.P.funcs[F_topo_Topo_Domains]? = some B_topo_Topo_Domains := Try.func18
theorem real_topo_Topo_Domains : Real cx.P F_topo_Topo_Domains := ⟨_, Try.func18, rfl, rfl⟩
abbrev F_topo_Topo_Cores : Nat := 19
abbrev N_topo_Topo_Cores : Nat := 24
noncomputable abbrev B_topo_Topo_Cores : Func := Try.f19
theorem fn_topo_Topo_Cores : cx.P.funcs[F_topo_Topo_Cores]? = some B_topo_Topo_Cores := Try.func19
theorem real_topo_Topo_Cores : Real cx.P F_topo_Topo_Cores := ⟨_, Try.func19, rfl, rfl⟩
abbrev F_mask_Set_Has : Nat := 20
abbrev N_mask_Set_Has : Nat := 14
noncomputable abbrev B_mask_Set_Has : Func := Try.f20
theorem fn_mask_Set_Has : cx.P.funcs[F_mask_Set_Has]? = some B_mask_Set_Has := Try.func20
theorem real_mask_Set_Has : Real cx.P F_mask_Set_Has := ⟨_, Try.func20, rfl, rfl⟩
abbrev F_mask_Set_In : Nat := 21
abbrev N_mask_Set_In : Nat := 9
noncomputable abbrev B_mask_Set_In : Func := Try.f21
theorem fn_mask_Set_In : cx.P.funcs[F_mask_Set_In]? = some B_mask_Set_In := Try.func21
theorem real_mask_Set_In : Real cx.P F_mask_Set_In := ⟨_, Try.func21, rfl, rfl⟩
abbrev F_topo_Topo_On : Nat := 22
abbrev N_topo_Topo_On : Nat := 11
noncomputable abbrev B_topo_Topo_On : Func := Try.f22
theorem fn_topo_Topo_On : cx.P.funcs[F_topo_Topo_On]? = some B_topo_Topo_On := Try.func22
theorem real_topo_Topo_On : Real cx.P F_topo_Topo_On := ⟨_, Try.func22, rfl, rfl⟩
abbrev F_ref01_Bits : Nat := 23
abbrev N_ref01_Bits : Nat := 18
noncomputable abbrev B_ref01_Bits : Func := Try.f23
theorem fn_ref01_Bits : cx.P.funcs[F_ref01_Bits]? = some B_ref01_Bits := Try.func23
theorem real_ref01_Bits : Real cx.P F_ref01_Bits := ⟨_, Try.func23, rfl, rfl⟩
abbrev F_topo_Topo_Effective : Nat := 24
abbrev N_topo_Topo_Effective : Nat := 31
noncomputable abbrev B_topo_Topo_Effective : Func := Try.f24
theorem fn_topo_Topo_Effective : cx.P.funcs[F_topo_Topo_Effective]? = some B_topo_Topo_Effective := Try.func24
theorem real_topo_Topo_Effective : Real cx.P F_topo_Topo_Effective := ⟨_, Try.func24, rfl, rfl⟩
abbrev F_ref05_Effective : Nat := 25
abbrev N_ref05_Effective : Nat := 34
noncomputable abbrev B_ref05_Effective : Func := Try.f25
theorem fn_ref05_Effective : cx.P.funcs[F_ref05_Effective]? = some B_ref05_Effective := Try.func25
theorem real_ref05_Effective : Real cx.P F_ref05_Effective := ⟨_, Try.func25, rfl, rfl⟩
abbrev F_topo_Topo_Check : Nat := 26
abbrev N_topo_Topo_Check : Nat := 24
noncomputable abbrev B_topo_Topo_Check : Func := Try.f26
theorem fn_topo_Topo_Check : cx.P.funcs[F_topo_Topo_Check]? = some B_topo_Topo_Check := Try.func26
theorem real_topo_Topo_Check : Real cx.P F_topo_Topo_Check := ⟨_, Try.func26, rfl, rfl⟩
abbrev F_ref05_Check : Nat := 27
abbrev N_ref05_Check : Nat := 23
noncomputable abbrev B_ref05_Check : Func := Try.f27
theorem fn_ref05_Check : cx.P.funcs[F_ref05_Check]? = some B_ref05_Check := Try.func27
theorem real_ref05_Check : Real cx.P F_ref05_Check := ⟨_, Try.func27, rfl, rfl⟩
abbrev F_law01_Is : Nat := 28
abbrev N_law01_Is : Nat := 9
noncomputable abbrev B_law01_Is : Func := Try.f28
theorem fn_law01_Is : cx.P.funcs[F_law01_Is]? = some B_law01_Is := Try.func28
theorem real_law01_Is : Real cx.P F_law01_Is := ⟨_, Try.func28, rfl, rfl⟩
abbrev F_topo_Topo_Down : Nat := 29
abbrev N_topo_Topo_Down : Nat := 42
noncomputable abbrev B_topo_Topo_Down : Func := Try.f29
theorem fn_topo_Topo_Down : cx.P.funcs[F_topo_Topo_Down]? = some B_topo_Topo_Down := Try.func29
theorem real_topo_Topo_Down : Real cx.P F_topo_Topo_Down := ⟨_, Try.func29, rfl, rfl⟩
abbrev F_slices_Clone_mask_Set_mask_Set : Nat := 30
abbrev N_slices_Clone_mask_Set_mask_Set : Nat := 8
noncomputable abbrev B_slices_Clone_mask_Set_mask_Set : Func := Try.f30
theorem fn_slices_Clone_mask_Set_mask_Set : cx.P.funcs[F_slices_Clone_mask_Set_mask_Set]? = some B_slices_Clone_mask_Set_mask_Set := Try.func30
theorem real_slices_Clone_mask_Set_mask_Set : Real cx.P F_slices_Clone_mask_Set_mask_Set := ⟨_, Try.func30, rfl, rfl⟩
abbrev F_mask_Set_Meets : Nat := 31
abbrev N_mask_Set_Meets : Nat := 9
noncomputable abbrev B_mask_Set_Meets : Func := Try.f31
theorem fn_mask_Set_Meets : cx.P.funcs[F_mask_Set_Meets]? = some B_mask_Set_Meets := Try.func31
theorem real_mask_Set_Meets : Real cx.P F_mask_Set_Meets := ⟨_, Try.func31, rfl, rfl⟩
abbrev F_ref05_Cores : Nat := 32
abbrev N_ref05_Cores : Nat := 43
noncomputable abbrev B_ref05_Cores : Func := Try.f32
theorem fn_ref05_Cores : cx.P.funcs[F_ref05_Cores]? = some B_ref05_Cores := Try.func32
theorem real_ref05_Cores : Real cx.P F_ref05_Cores := ⟨_, Try.func32, rfl, rfl⟩
abbrev F_ref05_Domain : Nat := 33
abbrev N_ref05_Domain : Nat := 20
noncomputable abbrev B_ref05_Domain : Func := Try.f33
theorem fn_ref05_Domain : cx.P.funcs[F_ref05_Domain]? = some B_ref05_Domain := Try.func33
theorem real_ref05_Domain : Real cx.P F_ref05_Domain := ⟨_, Try.func33, rfl, rfl⟩
abbrev F_ref05_Up : Nat := 34
abbrev N_ref05_Up : Nat := 27
noncomputable abbrev B_ref05_Up : Func := Try.f34
theorem fn_ref05_Up : cx.P.funcs[F_ref05_Up]? = some B_ref05_Up := Try.func34
theorem real_ref05_Up : Real cx.P F_ref05_Up := ⟨_, Try.func34, rfl, rfl⟩
abbrev F_topo_Topo_Up : Nat := 35
abbrev N_topo_Topo_Up : Nat := 28
noncomputable abbrev B_topo_Topo_Up : Func := Try.f35
theorem fn_topo_Topo_Up : cx.P.funcs[F_topo_Topo_Up]? = some B_topo_Topo_Up := Try.func35
theorem real_topo_Topo_Up : Real cx.P F_topo_Topo_Up := ⟨_, Try.func35, rfl, rfl⟩
abbrev F_ref05_Down : Nat := 36
abbrev N_ref05_Down : Nat := 41
noncomputable abbrev B_ref05_Down : Func := Try.f36
theorem fn_ref05_Down : cx.P.funcs[F_ref05_Down]? = some B_ref05_Down := Try.func36
theorem real_ref05_Down : Real cx.P F_ref05_Down := ⟨_, Try.func36, rfl, rfl⟩
abbrev F_slices_IndexFunc_mask_Set_mask_Set : Nat := 37
abbrev N_slices_IndexFunc_mask_Set_mask_Set : Nat := 19
noncomputable abbrev B_slices_IndexFunc_mask_Set_mask_Set : Func := Try.f37
theorem fn_slices_IndexFunc_mask_Set_mask_Set : cx.P.funcs[F_slices_IndexFunc_mask_Set_mask_Set]? = some B_slices_IndexFunc_mask_Set_mask_Set := Try.func37
theorem real_slices_IndexFunc_mask_Set_mask_Set : Real cx.P F_slices_IndexFunc_mask_Set_mask_Set := ⟨_, Try.func37, rfl, rfl⟩
abbrev F_topo_Topo_Of_1 : Nat := 38
abbrev N_topo_Topo_Of_1 : Nat := 7
noncomputable abbrev B_topo_Topo_Of_1 : Func := Try.f38
theorem fn_topo_Topo_Of_1 : cx.P.funcs[F_topo_Topo_Of_1]? = some B_topo_Topo_Of_1 := Try.func38
theorem real_topo_Topo_Of_1 : Real cx.P F_topo_Topo_Of_1 := ⟨_, Try.func38, rfl, rfl⟩
abbrev F_mask_core : Nat := 39
abbrev N_mask_core : Nat := 9
noncomputable abbrev B_mask_core : Func := Try.f39
theorem fn_mask_core : cx.P.funcs[F_mask_core]? = some B_mask_core := Try.func39
theorem real_mask_core : Real cx.P F_mask_core := ⟨_, Try.func39, rfl, rfl⟩
abbrev F_ref01_Both : Nat := 40
abbrev N_ref01_Both : Nat := 21
noncomputable abbrev B_ref01_Both : Func := Try.f40
theorem fn_ref01_Both : cx.P.funcs[F_ref01_Both]? = some B_ref01_Both := Try.func40
theorem real_ref01_Both : Real cx.P F_ref01_Both := ⟨_, Try.func40, rfl, rfl⟩
abbrev F_ref01_Number : Nat := 41
abbrev N_ref01_Number : Nat := 17
noncomputable abbrev B_ref01_Number : Func := Try.f41
theorem fn_ref01_Number : cx.P.funcs[F_ref01_Number]? = some B_ref01_Number := Try.func41
theorem real_ref01_Number : Real cx.P F_ref01_Number := ⟨_, Try.func41, rfl, rfl⟩
abbrev F_mask_Set_Len : Nat := 42
abbrev N_mask_Set_Len : Nat := 5
noncomputable abbrev B_mask_Set_Len : Func := Try.f42
theorem fn_mask_Set_Len : cx.P.funcs[F_mask_Set_Len]? = some B_mask_Set_Len := Try.func42
theorem real_mask_Set_Len : Real cx.P F_mask_Set_Len := ⟨_, Try.func42, rfl, rfl⟩
abbrev F_mask_Set_Without : Nat := 43
abbrev N_mask_Set_Without : Nat := 13
noncomputable abbrev B_mask_Set_Without : Func := Try.f43
theorem fn_mask_Set_Without : cx.P.funcs[F_mask_Set_Without]? = some B_mask_Set_Without := Try.func43
theorem real_mask_Set_Without : Real cx.P F_mask_Set_Without := ⟨_, Try.func43, rfl, rfl⟩
abbrev F_ref01_Core : Nat := 44
abbrev N_ref01_Core : Nat := 9
noncomputable abbrev B_ref01_Core : Func := Try.f44
theorem fn_ref01_Core : cx.P.funcs[F_ref01_Core]? = some B_ref01_Core := Try.func44
theorem real_ref01_Core : Real cx.P F_ref01_Core := ⟨_, Try.func44, rfl, rfl⟩
abbrev F_mask_Set_With : Nat := 45
abbrev N_mask_Set_With : Nat := 13
noncomputable abbrev B_mask_Set_With : Func := Try.f45
theorem fn_mask_Set_With : cx.P.funcs[F_mask_Set_With]? = some B_mask_Set_With := Try.func45
theorem real_mask_Set_With : Real cx.P F_mask_Set_With := ⟨_, Try.func45, rfl, rfl⟩
abbrev F_ref01_Cores : Nat := 46
abbrev N_ref01_Cores : Nat := 17
noncomputable abbrev B_ref01_Cores : Func := Try.f46
theorem fn_ref01_Cores : cx.P.funcs[F_ref01_Cores]? = some B_ref01_Cores := Try.func46
theorem real_ref01_Cores : Real cx.P F_ref01_Cores := ⟨_, Try.func46, rfl, rfl⟩
abbrev F_math_bits_OnesCount64 : Nat := 47
abbrev N_math_bits_OnesCount64 : Nat := 35
noncomputable abbrev B_math_bits_OnesCount64 : Func := Try.f47
theorem fn_math_bits_OnesCount64 : cx.P.funcs[F_math_bits_OnesCount64]? = some B_math_bits_OnesCount64 := Try.func47
theorem real_math_bits_OnesCount64 : Real cx.P F_math_bits_OnesCount64 := ⟨_, Try.func47, rfl, rfl⟩
end Go.Proofs.Ytefahijlcmfpjaa
