/- Written by a program of mine (gennames.py): the seat's types, and its functions by their names. -/
import Derived.Test.YthmmibjhhifmeaaProg
import Derived.Test.YthmmibjhhifmeaaSEe
namespace Go.Proofs.Ythmmibjhhifmeaa
open Go Go.SE
def lay : Lay := [
  (3, ⟨.int .i64, 1, 8, .int .i64 0⟩),
  (4, ⟨.bool, 1, 1, .bool false⟩),
  (5, ⟨.int .u8, 1, 1, .int .u8 0⟩),
  (9, ⟨.str, 1, 16, .string ByteArray.empty⟩),
  (22, ⟨.slice 5, 1, 24, .slice none 0 0⟩),
  (24, ⟨.slice 36, 1, 24, .slice none 0 0⟩),
  (26, ⟨.int .u8, 1, 1, .int .u8 0⟩),
  (27, ⟨.int .u64, 1, 8, .int .u64 0⟩),
  (28, ⟨.int .u64, 1, 8, .int .u64 0⟩),
  (30, ⟨.struct [(26, 0), (3, 1), (3, 2), (28, 3)], 4, 32, .agg #[.int .u8 0, .int .i64 0, .int .i64 0, .int .u64 0]⟩),
  (31, ⟨.int .i64, 1, 8, .int .i64 0⟩),
  (32, ⟨.slice 3, 1, 24, .slice none 0 0⟩),
  (34, ⟨.struct [(31, 0), (32, 1)], 2, 32, .agg #[.int .i64 0, .slice none 0 0]⟩),
  (36, ⟨.struct [(3, 0), (3, 1), (4, 2), (30, 3), (34, 7)], 9, 88, .agg #[.int .i64 0, .int .i64 0, .bool false, .int .u8 0, .int .i64 0, .int .i64 0, .int .u64 0, .int .i64 0, .slice none 0 0]⟩),
  (38, ⟨.slice 57, 1, 24, .slice none 0 0⟩),
  (41, ⟨.slice 45, 1, 24, .slice none 0 0⟩),
  (43, ⟨.slice 30, 1, 24, .slice none 0 0⟩),
  (45, ⟨.struct [(3, 0), (3, 1), (3, 2), (27, 3)], 4, 32, .agg #[.int .i64 0, .int .i64 0, .int .i64 0, .int .u64 0]⟩),
  (55, ⟨.struct [(3, 0), (32, 1)], 2, 32, .agg #[.int .i64 0, .slice none 0 0]⟩),
  (57, ⟨.struct [(3, 0), (3, 1), (4, 2), (45, 3), (55, 7)], 9, 88, .agg #[.int .i64 0, .int .i64 0, .bool false, .int .i64 0, .int .i64 0, .int .i64 0, .int .u64 0, .int .i64 0, .slice none 0 0]⟩),
  (68, ⟨.struct [(9, 0), (3, 1), (3, 2), (3, 3)], 4, 40, .agg #[.string ByteArray.empty, .int .i64 0, .int .i64 0, .int .i64 0]⟩),
  (76, ⟨.array 5 3, 5, 40, .agg #[.int .i64 0, .int .i64 0, .int .i64 0, .int .i64 0, .int .i64 0]⟩),
  (78, ⟨.array 20 68, 80, 800, .agg #[.string ByteArray.empty, .int .i64 0, .int .i64 0, .int .i64 0, .string ByteArray.empty, .int .i64 0, .int .i64 0, .int .i64 0, .string ByteArray.empty, .int .i64 0, .int .i64 0, .int .i64 0, .string ByteArray.empty, .int .i64 0, .int .i64 0, .int .i64 0, .string ByteArray.empty, .int .i64 0, .int .i64 0, .int .i64 0, .string ByteArray.empty, .int .i64 0, .int .i64 0, .int .i64 0, .string ByteArray.empty, .int .i64 0, .int .i64 0, .int .i64 0, .string ByteArray.empty, .int .i64 0, .int .i64 0, .int .i64 0, .string ByteArray.empty, .int .i64 0, .int .i64 0, .int .i64 0, .string ByteArray.empty, .int .i64 0, .int .i64 0, .int .i64 0, .string ByteArray.empty, .int .i64 0, .int .i64 0, .int .i64 0, .string ByteArray.empty, .int .i64 0, .int .i64 0, .int .i64 0, .string ByteArray.empty, .int .i64 0, .int .i64 0, .int .i64 0, .string ByteArray.empty, .int .i64 0, .int .i64 0, .int .i64 0, .string ByteArray.empty, .int .i64 0, .int .i64 0, .int .i64 0, .string ByteArray.empty, .int .i64 0, .int .i64 0, .int .i64 0, .string ByteArray.empty, .int .i64 0, .int .i64 0, .int .i64 0, .string ByteArray.empty, .int .i64 0, .int .i64 0, .int .i64 0, .string ByteArray.empty, .int .i64 0, .int .i64 0, .int .i64 0, .string ByteArray.empty, .int .i64 0, .int .i64 0, .int .i64 0]⟩),
  (80, ⟨.int .u64, 1, 8, .int .u64 0⟩)]
theorem lay_eq : lay.map (fun x => tiOf Try.prog x.1) = lay.map fun x => some (x.2.kind, x.2.size, x.2.bytes, x.2.zero) := by kernel_rfl
theorem lay_ok : lay.Ok Try.prog := Lay.ok_of _ _ lay_eq
theorem mixed : Try.prog.follows .mixedOrders = true := by kernel_rfl
noncomputable def cx : Cx := ⟨Try.prog, lay, lay_ok, mixed⟩
abbrev T_int : Nat := 3
abbrev T_bool : Nat := 4
abbrev T_uint8 : Nat := 5
abbrev T_string : Nat := 9
abbrev T_S_uint8 : Nat := 22
abbrev T_S_script_Step : Nat := 24
abbrev T_code_Op : Nat := 26
abbrev T_uint64 : Nat := 27
abbrev T_mask_Set : Nat := 28
abbrev T_code_Command : Nat := 30
abbrev T_api_Errno : Nat := 31
abbrev T_S_int : Nat := 32
abbrev T_sched_Reply : Nat := 34
abbrev T_script_Step : Nat := 36
abbrev T_S_ref24_T : Nat := 38
abbrev T_S_ref22_C : Nat := 41
abbrev T_S_code_Command : Nat := 43
abbrev T_ref22_C : Nat := 45
abbrev T_ref23_R : Nat := 55
abbrev T_ref24_T : Nat := 57
abbrev T_code_shape : Nat := 68
abbrev T_5_int : Nat := 76
abbrev T_20_code_shape : Nat := 78
abbrev T_uint : Nat := 80
abbrev F_law24_ScriptSteps : Nat := 3
abbrev N_law24_ScriptSteps : Nat := 49
noncomputable abbrev B_law24_ScriptSteps : Func := Try.f3
theorem fn_law24_ScriptSteps : cx.P.funcs[F_law24_ScriptSteps]? = some B_law24_ScriptSteps := Try.func3
theorem real_law24_ScriptSteps : Real cx.P F_law24_ScriptSteps := ⟨_, Try.func3, rfl, rfl⟩
abbrev F_law24_ScriptBytes : Nat := 4
abbrev N_law24_ScriptBytes : Nat := 94
noncomputable abbrev B_law24_ScriptBytes : Func := Try.f4
theorem fn_law24_ScriptBytes : cx.P.funcs[F_law24_ScriptBytes]? = some B_law24_ScriptBytes := Try.func4
theorem real_law24_ScriptBytes : Real cx.P F_law24_ScriptBytes := ⟨_, Try.func4, rfl, rfl⟩
abbrev F_law24_awake : Nat := 5
abbrev N_law24_awake : Nat := 54
noncomputable abbrev B_law24_awake : Func := Try.f5
theorem fn_law24_awake : cx.P.funcs[F_law24_awake]? = some B_law24_awake := Try.func5
theorem real_law24_awake : Real cx.P F_law24_awake := ⟨_, Try.func5, rfl, rfl⟩
abbrev F_script_Steps : Nat := 6
abbrev N_script_Steps : Nat := 33
noncomputable abbrev B_script_Steps : Func := Try.f6
theorem fn_script_Steps : cx.P.funcs[F_script_Steps]? = some B_script_Steps := Try.func6
theorem real_script_Steps : Real cx.P F_script_Steps := ⟨_, Try.func6, rfl, rfl⟩
abbrev F_law24_is : Nat := 7
abbrev N_law24_is : Nat := 60
noncomputable abbrev B_law24_is : Func := Try.f7
theorem fn_law24_is : cx.P.funcs[F_law24_is]? = some B_law24_is := Try.func7
theorem real_law24_is : Real cx.P F_law24_is := ⟨_, Try.func7, rfl, rfl⟩
abbrev F_ref24_Steps : Nat := 8
abbrev N_ref24_Steps : Nat := 33
noncomputable abbrev B_ref24_Steps : Func := Try.f8
theorem fn_ref24_Steps : cx.P.funcs[F_ref24_Steps]? = some B_ref24_Steps := Try.func8
theorem real_ref24_Steps : Real cx.P F_ref24_Steps := ⟨_, Try.func8, rfl, rfl⟩
abbrev F_law23_Few : Nat := 9
abbrev N_law23_Few : Nat := 26
noncomputable abbrev B_law23_Few : Func := Try.f9
theorem fn_law23_Few : cx.P.funcs[F_law23_Few]? = some B_law23_Few := Try.func9
theorem real_law23_Few : Real cx.P F_law23_Few := ⟨_, Try.func9, rfl, rfl⟩
abbrev F_law22_Real : Nat := 10
abbrev N_law22_Real : Nat := 13
noncomputable abbrev B_law22_Real : Func := Try.f10
theorem fn_law22_Real : cx.P.funcs[F_law22_Real]? = some B_law22_Real := Try.func10
theorem real_law22_Real : Real cx.P F_law22_Real := ⟨_, Try.func10, rfl, rfl⟩
abbrev F_ref22_Good : Nat := 11
abbrev N_ref22_Good : Nat := 40
noncomputable abbrev B_ref22_Good : Func := Try.f11
theorem fn_ref22_Good : cx.P.funcs[F_ref22_Good]? = some B_ref22_Good := Try.func11
theorem real_ref22_Good : Real cx.P F_ref22_Good := ⟨_, Try.func11, rfl, rfl⟩
abbrev F_ref22_Encode : Nat := 12
abbrev N_ref22_Encode : Nat := 38
noncomputable abbrev B_ref22_Encode : Func := Try.f12
theorem fn_ref22_Encode : cx.P.funcs[F_ref22_Encode]? = some B_ref22_Encode := Try.func12
theorem real_ref22_Encode : Real cx.P F_ref22_Encode := ⟨_, Try.func12, rfl, rfl⟩
abbrev F_script_Bytes : Nat := 13
abbrev N_script_Bytes : Nat := 28
noncomputable abbrev B_script_Bytes : Func := Try.f13
theorem fn_script_Bytes : cx.P.funcs[F_script_Bytes]? = some B_script_Bytes := Try.func13
theorem real_script_Bytes : Real cx.P F_script_Bytes := ⟨_, Try.func13, rfl, rfl⟩
abbrev F_code_Decode : Nat := 14
abbrev N_code_Decode : Nat := 69
noncomputable abbrev B_code_Decode : Func := Try.f14
theorem fn_code_Decode : cx.P.funcs[F_code_Decode]? = some B_code_Decode := Try.func14
theorem real_code_Decode : Real cx.P F_code_Decode := ⟨_, Try.func14, rfl, rfl⟩
abbrev F_law22_Is : Nat := 15
abbrev N_law22_Is : Nat := 32
noncomputable abbrev B_law22_Is : Func := Try.f15
theorem fn_law22_Is : cx.P.funcs[F_law22_Is]? = some B_law22_Is := Try.func15
theorem real_law22_Is : Real cx.P F_law22_Is := ⟨_, Try.func15, rfl, rfl⟩
abbrev F_law23_Is : Nat := 16
abbrev N_law23_Is : Nat := 17
noncomputable abbrev B_law23_Is : Func := Try.f16
theorem fn_law23_Is : cx.P.funcs[F_law23_Is]? = some B_law23_Is := Try.func16
theorem real_law23_Is : Real cx.P F_law23_Is := ⟨_, Try.func16, rfl, rfl⟩
abbrev F_ref22_Decode : Nat := 17
abbrev N_ref22_Decode : Nat := 79
noncomputable abbrev B_ref22_Decode : Func := Try.f17
theorem fn_ref22_Decode : cx.P.funcs[F_ref22_Decode]? = some B_ref22_Decode := Try.func17
theorem real_ref22_Decode : Real cx.P F_ref22_Decode := ⟨_, Try.func17, rfl, rfl⟩
abbrev F_ref22_Widths : Nat := 18
abbrev N_ref22_Widths : Nat := 23
noncomputable abbrev B_ref22_Widths : Func := Try.f18
theorem fn_ref22_Widths : cx.P.funcs[F_ref22_Widths]? = some B_ref22_Widths := Try.func18
theorem real_ref22_Widths : Real cx.P F_ref22_Widths := ⟨_, Try.func18, rfl, rfl⟩
abbrev F_ref22_fits : Nat := 19
abbrev N_ref22_fits : Nat := 16
noncomputable abbrev B_ref22_fits : Func := Try.f19
theorem fn_ref22_fits : cx.P.funcs[F_ref22_fits]? = some B_ref22_fits := Try.func19
theorem real_ref22_fits : Real cx.P F_ref22_fits := ⟨_, Try.func19, rfl, rfl⟩
abbrev F_ref22_number : Nat := 20
abbrev N_ref22_number : Nat := 24
noncomputable abbrev B_ref22_number : Func := Try.f20
theorem fn_ref22_number : cx.P.funcs[F_ref22_number]? = some B_ref22_number := Try.func20
theorem real_ref22_number : Real cx.P F_ref22_number := ⟨_, Try.func20, rfl, rfl⟩
abbrev F_code_Encode : Nat := 21
abbrev N_code_Encode : Nat := 37
noncomputable abbrev B_code_Encode : Func := Try.f21
theorem fn_code_Encode : cx.P.funcs[F_code_Encode]? = some B_code_Encode := Try.func21
theorem real_code_Encode : Real cx.P F_code_Encode := ⟨_, Try.func21, rfl, rfl⟩
abbrev F_code_of : Nat := 22
abbrev N_code_of : Nat := 14
noncomputable abbrev B_code_of : Func := Try.f22
theorem fn_code_of : cx.P.funcs[F_code_of]? = some B_code_of := Try.func22
theorem real_code_of : Real cx.P F_code_of := ⟨_, Try.func22, rfl, rfl⟩
abbrev F_code_shape_size : Nat := 23
abbrev N_code_shape_size : Nat := 12
noncomputable abbrev B_code_shape_size : Func := Try.f23
theorem fn_code_shape_size : cx.P.funcs[F_code_shape_size]? = some B_code_shape_size := Try.func23
theorem real_code_shape_size : Real cx.P F_code_shape_size := ⟨_, Try.func23, rfl, rfl⟩
abbrev F_code_take : Nat := 24
abbrev N_code_take : Nat := 27
noncomputable abbrev B_code_take : Func := Try.f24
theorem fn_code_take : cx.P.funcs[F_code_take]? = some B_code_take := Try.func24
theorem real_code_take : Real cx.P F_code_take := ⟨_, Try.func24, rfl, rfl⟩
abbrev F_law06_Ints : Nat := 25
abbrev N_law06_Ints : Nat := 26
noncomputable abbrev B_law06_Ints : Func := Try.f25
theorem fn_law06_Ints : cx.P.funcs[F_law06_Ints]? = some B_law06_Ints := Try.func25
theorem real_law06_Ints : Real cx.P F_law06_Ints := ⟨_, Try.func25, rfl, rfl⟩
abbrev F_ref22_read : Nat := 26
abbrev N_ref22_read : Nat := 20
noncomputable abbrev B_ref22_read : Func := Try.f26
theorem fn_ref22_read : cx.P.funcs[F_ref22_read]? = some B_ref22_read := Try.func26
theorem real_ref22_read : Real cx.P F_ref22_read := ⟨_, Try.func26, rfl, rfl⟩
abbrev F_code_Command_Good : Nat := 27
abbrev N_code_Command_Good : Nat := 36
noncomputable abbrev B_code_Command_Good : Func := Try.f27
theorem fn_code_Command_Good : cx.P.funcs[F_code_Command_Good]? = some B_code_Command_Good := Try.func27
theorem real_code_Command_Good : Real cx.P F_code_Command_Good := ⟨_, Try.func27, rfl, rfl⟩
abbrev F_code_put : Nat := 28
abbrev N_code_put : Nat := 23
noncomputable abbrev B_code_put : Func := Try.f28
theorem fn_code_put : cx.P.funcs[F_code_put]? = some B_code_put := Try.func28
theorem real_code_put : Real cx.P F_code_put := ⟨_, Try.func28, rfl, rfl⟩
abbrev F_code_shapes : Nat := 29
abbrev N_code_shapes : Nat := 21
noncomputable abbrev B_code_shapes : Func := Try.f29
theorem fn_code_shapes : cx.P.funcs[F_code_shapes]? = some B_code_shapes := Try.func29
theorem real_code_shapes : Real cx.P F_code_shapes := ⟨_, Try.func29, rfl, rfl⟩
abbrev F_code_fits : Nat := 30
abbrev N_code_fits : Nat := 14
noncomputable abbrev B_code_fits : Func := Try.f30
theorem fn_code_fits : cx.P.funcs[F_code_fits]? = some B_code_fits := Try.func30
theorem real_code_fits : Real cx.P F_code_fits := ⟨_, Try.func30, rfl, rfl⟩
abbrev F_runtime_boundsError_Error : Nat := 31
abbrev F_runtime_boundsError_RuntimeError : Nat := 32
abbrev F_runtime_errorString_Error : Nat := 33
abbrev F_runtime_errorString_RuntimeError : Nat := 34
abbrev F_runtime_plainError_Error : Nat := 35
abbrev F_runtime_plainError_RuntimeError : Nat := 36
abbrev F_runtime_errorAddressString_Error : Nat := 37
abbrev F_runtime_errorAddressString_RuntimeError : Nat := 38
abbrev F_runtime_TypeAssertionError_Error : Nat := 39
abbrev F_runtime_TypeAssertionError_RuntimeError : Nat := 40
abbrev F_runtime_PanicNilError_Error : Nat := 41
abbrev F_runtime_PanicNilError_RuntimeError : Nat := 42
abbrev F_internal_abi_Type_Align : Nat := 43
abbrev F_internal_runtime_maps_unhashableTypeError_Error : Nat := 44
abbrev F_internal_runtime_maps_unhashableTypeError_RuntimeError : Nat := 45
abbrev F_mask_Set_First : Nat := 46
abbrev F_sched_Reply_Text : Nat := 47
end Go.Proofs.Ythmmibjhhifmeaa
