/- Written by a program of mine (gennames.py): the seat's types, and its functions by their names. -/
import Derived.Test.YtkpbpjnabbfdiaaProg
import Derived.Test.YtkpbpjnabbfdiaaSEe
namespace Go.Proofs.Ytkpbpjnabbfdiaa
open Go Go.SE
def lay : Lay := [
  (3, ⟨.int .i64, 1, 8, .int .i64 0⟩),
  (4, ⟨.bool, 1, 1, .bool false⟩),
  (5, ⟨.int .u8, 1, 1, .int .u8 0⟩),
  (9, ⟨.str, 1, 16, .string ByteArray.empty⟩),
  (22, ⟨.slice 71, 1, 24, .slice none 0 0⟩),
  (23, ⟨.slice 51, 1, 24, .slice none 0 0⟩),
  (24, ⟨.slice 50, 1, 24, .slice none 0 0⟩),
  (26, ⟨.struct [(3, 0), (22, 1), (23, 2), (24, 3)], 4, 80, .agg #[.int .i64 0, .slice none 0 0, .slice none 0 0, .slice none 0 0]⟩),
  (30, ⟨.slice 43, 1, 24, .slice none 0 0⟩),
  (32, ⟨.slice 73, 1, 24, .slice none 0 0⟩),
  (33, ⟨.slice 46, 1, 24, .slice none 0 0⟩),
  (34, ⟨.slice 63, 1, 24, .slice none 0 0⟩),
  (36, ⟨.struct [(3, 0), (32, 1), (33, 2), (34, 3)], 4, 80, .agg #[.int .i64 0, .slice none 0 0, .slice none 0 0, .slice none 0 0]⟩),
  (38, ⟨.slice 52, 1, 24, .slice none 0 0⟩),
  (40, ⟨.slice 9, 1, 24, .slice none 0 0⟩),
  (43, ⟨.struct [(3, 0), (3, 1)], 2, 16, .agg #[.int .i64 0, .int .i64 0]⟩),
  (44, ⟨.slice 3, 1, 24, .slice none 0 0⟩),
  (46, ⟨.struct [(3, 0), (3, 1), (44, 2)], 3, 40, .agg #[.int .i64 0, .int .i64 0, .slice none 0 0]⟩),
  (47, ⟨.map 3 4, 1, 8, .map none⟩),
  (48, ⟨.int .u64, 1, 8, .int .u64 0⟩),
  (50, ⟨.struct [(3, 0), (3, 1), (48, 2), (4, 3), (4, 4), (3, 5), (3, 6), (3, 7), (3, 8)], 9, 64, .agg #[.int .i64 0, .int .i64 0, .int .u64 0, .bool false, .bool false, .int .i64 0, .int .i64 0, .int .i64 0, .int .i64 0]⟩),
  (51, ⟨.struct [(3, 0), (3, 1), (44, 2)], 3, 40, .agg #[.int .i64 0, .int .i64 0, .slice none 0 0]⟩),
  (52, ⟨.struct [(3, 0), (3, 1)], 2, 16, .agg #[.int .i64 0, .int .i64 0]⟩),
  (53, ⟨.ptr 57, 1, 8, .pointer none⟩),
  (54, ⟨.map 3 58, 1, 8, .map none⟩),
  (55, ⟨.map 3 63, 1, 8, .map none⟩),
  (57, ⟨.struct [(36, 0), (54, 4), (55, 5), (30, 6)], 7, 120, .agg #[.int .i64 0, .slice none 0 0, .slice none 0 0, .slice none 0 0, .map none, .map none, .slice none 0 0]⟩),
  (58, ⟨.slice 60, 1, 24, .slice none 0 0⟩),
  (60, ⟨.struct [(3, 0), (4, 1)], 2, 16, .agg #[.int .i64 0, .bool false]⟩),
  (61, ⟨.int .u64, 1, 8, .int .u64 0⟩),
  (63, ⟨.struct [(3, 0), (3, 1), (3, 2), (3, 3), (61, 4), (4, 5), (4, 6), (3, 7), (3, 8), (3, 9), (3, 10)], 11, 80, .agg #[.int .i64 0, .int .i64 0, .int .i64 0, .int .i64 0, .int .u64 0, .bool false, .bool false, .int .i64 0, .int .i64 0, .int .i64 0, .int .i64 0]⟩),
  (68, ⟨.func, 1, 8, .nilFunc⟩),
  (71, ⟨.struct [(48, 0), (48, 1), (3, 2)], 3, 24, .agg #[.int .u64 0, .int .u64 0, .int .i64 0]⟩),
  (73, ⟨.struct [(61, 0), (61, 1), (3, 2)], 3, 24, .agg #[.int .u64 0, .int .u64 0, .int .i64 0]⟩),
  (89, ⟨.int .u64, 1, 8, .int .u64 0⟩),
  (91, ⟨.array 64 4, 64, 64, .agg (List.toArray (List.replicate 64 (Value.bool false)))⟩),
  (99, ⟨.func, 1, 8, .nilFunc⟩),
  (101, ⟨.int .i64, 1, 8, .int .i64 0⟩),
  (108, ⟨.int .u32, 1, 4, .int .u32 0⟩),
  (112, ⟨.int .u64, 1, 8, .int .u64 0⟩),
  (116, ⟨.ptr 3, 1, 8, .pointer none⟩),
  (118, ⟨.ptr 112, 1, 8, .pointer none⟩)]
theorem lay_eq : lay.map (fun x => tiOf Try.prog x.1) = lay.map fun x => some (x.2.kind, x.2.size, x.2.bytes, x.2.zero) := by kernel_rfl
theorem lay_ok : lay.Ok Try.prog := Lay.ok_of _ _ lay_eq
theorem mixed : Try.prog.follows .mixedOrders = true := by kernel_rfl
noncomputable def cx : Cx := ⟨Try.prog, lay, lay_ok, mixed⟩
abbrev T_int : Nat := 3
abbrev T_bool : Nat := 4
abbrev T_uint8 : Nat := 5
abbrev T_string : Nat := 9
abbrev T_S_ref21_D : Nat := 22
abbrev T_S_ref21_C : Nat := 23
abbrev T_S_ref21_T : Nat := 24
abbrev T_ref21_V : Nat := 26
abbrev T_S_audit_Finding : Nat := 30
abbrev T_S_audit_Domain : Nat := 32
abbrev T_S_audit_Core : Nat := 33
abbrev T_S_state_Thread : Nat := 34
abbrev T_audit_View : Nat := 36
abbrev T_S_ref21_F : Nat := 38
abbrev T_S_string : Nat := 40
abbrev T_audit_Finding : Nat := 43
abbrev T_S_int : Nat := 44
abbrev T_audit_Core : Nat := 46
abbrev T_map_int_bool : Nat := 47
abbrev T_uint64 : Nat := 48
abbrev T_ref21_T : Nat := 50
abbrev T_ref21_C : Nat := 51
abbrev T_ref21_F : Nat := 52
abbrev T_P_audit_auditor : Nat := 53
abbrev T_map_int_S_audit_spot : Nat := 54
abbrev T_map_int_state_Thread : Nat := 55
abbrev T_audit_auditor : Nat := 57
abbrev T_S_audit_spot : Nat := 58
abbrev T_audit_spot : Nat := 60
abbrev T_mask_Set : Nat := 61
abbrev T_state_Thread : Nat := 63
abbrev T_func_audit_Finding_audit_Finding_int : Nat := 68
abbrev T_ref21_D : Nat := 71
abbrev T_audit_Domain : Nat := 73
abbrev T_uint : Nat := 89
abbrev T_ref01_Set : Nat := 91
abbrev T_func_audit_Domain_bool : Nat := 99
abbrev T_slices_sortedHint : Nat := 101
abbrev T_uint32 : Nat := 108
abbrev T_slices_xorshift : Nat := 112
abbrev T_P_int : Nat := 116
abbrev T_P_slices_xorshift : Nat := 118
abbrev F_law21_AuditChecks : Nat := 3
abbrev N_law21_AuditChecks : Nat := 22
noncomputable abbrev B_law21_AuditChecks : Func := Try.f3
theorem fn_law21_AuditChecks : cx.P.funcs[F_law21_AuditChecks]? = some B_law21_AuditChecks := Try.func3
theorem real_law21_AuditChecks : Real cx.P F_law21_AuditChecks := ⟨_, Try.func3, rfl, rfl⟩
abbrev F_law21_AuditOrders : Nat := 4
abbrev N_law21_AuditOrders : Nat := 70
noncomputable abbrev B_law21_AuditOrders : Func := Try.f4
theorem fn_law21_AuditOrders : cx.P.funcs[F_law21_AuditOrders]? = some B_law21_AuditOrders := Try.func4
theorem real_law21_AuditOrders : Real cx.P F_law21_AuditOrders := ⟨_, Try.func4, rfl, rfl⟩
abbrev F_law21_awake : Nat := 5
abbrev N_law21_awake : Nat := 23
noncomputable abbrev B_law21_awake : Func := Try.f5
theorem fn_law21_awake : cx.P.funcs[F_law21_awake]? = some B_law21_awake := Try.func5
theorem real_law21_awake : Real cx.P F_law21_awake := ⟨_, Try.func5, rfl, rfl⟩
abbrev F_law21_small : Nat := 6
abbrev N_law21_small : Nat := 74
noncomputable abbrev B_law21_small : Func := Try.f6
theorem fn_law21_small : cx.P.funcs[F_law21_small]? = some B_law21_small := Try.func6
theorem real_law21_small : Real cx.P F_law21_small := ⟨_, Try.func6, rfl, rfl⟩
abbrev F_law21_is : Nat := 7
abbrev N_law21_is : Nat := 38
noncomputable abbrev B_law21_is : Func := Try.f7
theorem fn_law21_is : cx.P.funcs[F_law21_is]? = some B_law21_is := Try.func7
theorem real_law21_is : Real cx.P F_law21_is := ⟨_, Try.func7, rfl, rfl⟩
abbrev F_audit_Check : Nat := 8
abbrev N_audit_Check : Nat := 113
noncomputable abbrev B_audit_Check : Func := Try.f8
theorem fn_audit_Check : cx.P.funcs[F_audit_Check]? = some B_audit_Check := Try.func8
theorem real_audit_Check : Real cx.P F_audit_Check := ⟨_, Try.func8, rfl, rfl⟩
abbrev F_law21_Real : Nat := 9
abbrev N_law21_Real : Nat := 88
noncomputable abbrev B_law21_Real : Func := Try.f9
theorem fn_law21_Real : cx.P.funcs[F_law21_Real]? = some B_law21_Real := Try.func9
theorem real_law21_Real : Real cx.P F_law21_Real := ⟨_, Try.func9, rfl, rfl⟩
abbrev F_ref21_Check : Nat := 10
abbrev N_ref21_Check : Nat := 150
noncomputable abbrev B_ref21_Check : Func := Try.f10
theorem fn_ref21_Check : cx.P.funcs[F_ref21_Check]? = some B_ref21_Check := Try.func10
theorem real_ref21_Check : Real cx.P F_ref21_Check := ⟨_, Try.func10, rfl, rfl⟩
abbrev F_audit_Names : Nat := 11
abbrev N_audit_Names : Nat := 2
noncomputable abbrev B_audit_Names : Func := Try.f11
theorem fn_audit_Names : cx.P.funcs[F_audit_Names]? = some B_audit_Names := Try.func11
theorem real_audit_Names : Real cx.P F_audit_Names := ⟨_, Try.func11, rfl, rfl⟩
abbrev F_audit_auditor_domains : Nat := 12
abbrev N_audit_auditor_domains : Nat := 72
noncomputable abbrev B_audit_auditor_domains : Func := Try.f12
theorem fn_audit_auditor_domains : cx.P.funcs[F_audit_auditor_domains]? = some B_audit_auditor_domains := Try.func12
theorem real_audit_auditor_domains : Real cx.P F_audit_auditor_domains := ⟨_, Try.func12, rfl, rfl⟩
abbrev F_audit_auditor_cores : Nat := 13
abbrev N_audit_auditor_cores : Nat := 77
noncomputable abbrev B_audit_auditor_cores : Func := Try.f13
theorem fn_audit_auditor_cores : cx.P.funcs[F_audit_auditor_cores]? = some B_audit_auditor_cores := Try.func13
theorem real_audit_auditor_cores : Real cx.P F_audit_auditor_cores := ⟨_, Try.func13, rfl, rfl⟩
abbrev F_audit_auditor_thread : Nat := 14
abbrev N_audit_auditor_thread : Nat := 110
noncomputable abbrev B_audit_auditor_thread : Func := Try.f14
theorem fn_audit_auditor_thread : cx.P.funcs[F_audit_auditor_thread]? = some B_audit_auditor_thread := Try.func14
theorem real_audit_auditor_thread : Real cx.P F_audit_auditor_thread := ⟨_, Try.func14, rfl, rfl⟩
abbrev F_slices_SortFunc_audit_Finding_audit_Finding : Nat := 15
abbrev N_slices_SortFunc_audit_Finding_audit_Finding : Nat := 14
noncomputable abbrev B_slices_SortFunc_audit_Finding_audit_Finding : Func := Try.f15
theorem fn_slices_SortFunc_audit_Finding_audit_Finding : cx.P.funcs[F_slices_SortFunc_audit_Finding_audit_Finding]? = some B_slices_SortFunc_audit_Finding_audit_Finding := Try.func15
theorem real_slices_SortFunc_audit_Finding_audit_Finding : Real cx.P F_slices_SortFunc_audit_Finding_audit_Finding := ⟨_, Try.func15, rfl, rfl⟩
abbrev F_audit_Check_1 : Nat := 16
abbrev N_audit_Check_1 : Nat := 17
noncomputable abbrev B_audit_Check_1 : Func := Try.f16
theorem fn_audit_Check_1 : cx.P.funcs[F_audit_Check_1]? = some B_audit_Check_1 := Try.func16
theorem real_audit_Check_1 : Real cx.P F_audit_Check_1 := ⟨_, Try.func16, rfl, rfl⟩
abbrev F_cmp_Or_int : Nat := 17
abbrev N_cmp_Or_int : Nat := 18
noncomputable abbrev B_cmp_Or_int : Func := Try.f17
theorem fn_cmp_Or_int : cx.P.funcs[F_cmp_Or_int]? = some B_cmp_Or_int := Try.func17
theorem real_cmp_Or_int : Real cx.P F_cmp_Or_int := ⟨_, Try.func17, rfl, rfl⟩
abbrev F_cmp_Compare_int : Nat := 18
abbrev N_cmp_Compare_int : Nat := 20
noncomputable abbrev B_cmp_Compare_int : Func := Try.f18
theorem fn_cmp_Compare_int : cx.P.funcs[F_cmp_Compare_int]? = some B_cmp_Compare_int := Try.func18
theorem real_cmp_Compare_int : Real cx.P F_cmp_Compare_int := ⟨_, Try.func18, rfl, rfl⟩
abbrev F_slices_Compact_audit_Finding_audit_Finding : Nat := 19
abbrev N_slices_Compact_audit_Finding_audit_Finding : Nat := 61
noncomputable abbrev B_slices_Compact_audit_Finding_audit_Finding : Func := Try.f19
theorem fn_slices_Compact_audit_Finding_audit_Finding : cx.P.funcs[F_slices_Compact_audit_Finding_audit_Finding]? = some B_slices_Compact_audit_Finding_audit_Finding := Try.func19
theorem real_slices_Compact_audit_Finding_audit_Finding : Real cx.P F_slices_Compact_audit_Finding_audit_Finding := ⟨_, Try.func19, rfl, rfl⟩
abbrev F_ref21_dark : Nat := 20
abbrev N_ref21_dark : Nat := 19
noncomputable abbrev B_ref21_dark : Func := Try.f20
theorem fn_ref21_dark : cx.P.funcs[F_ref21_dark]? = some B_ref21_dark := Try.func20
theorem real_ref21_dark : Real cx.P F_ref21_dark := ⟨_, Try.func20, rfl, rfl⟩
abbrev F_ref21_put : Nat := 21
abbrev N_ref21_put : Nat := 67
noncomputable abbrev B_ref21_put : Func := Try.f21
theorem fn_ref21_put : cx.P.funcs[F_ref21_put]? = some B_ref21_put := Try.func21
theorem real_ref21_put : Real cx.P F_ref21_put := ⟨_, Try.func21, rfl, rfl⟩
abbrev F_ref21_low : Nat := 22
abbrev N_ref21_low : Nat := 38
noncomputable abbrev B_ref21_low : Func := Try.f22
theorem fn_ref21_low : cx.P.funcs[F_ref21_low]? = some B_ref21_low := Try.func22
theorem real_ref21_low : Real cx.P F_ref21_low := ⟨_, Try.func22, rfl, rfl⟩
abbrev F_ref21_places : Nat := 23
abbrev N_ref21_places : Nat := 54
noncomputable abbrev B_ref21_places : Func := Try.f23
theorem fn_ref21_places : cx.P.funcs[F_ref21_places]? = some B_ref21_places := Try.func23
theorem real_ref21_places : Real cx.P F_ref21_places := ⟨_, Try.func23, rfl, rfl⟩
abbrev F_ref21_up : Nat := 24
abbrev N_ref21_up : Nat := 29
noncomputable abbrev B_ref21_up : Func := Try.f24
theorem fn_ref21_up : cx.P.funcs[F_ref21_up]? = some B_ref21_up := Try.func24
theorem real_ref21_up : Real cx.P F_ref21_up := ⟨_, Try.func24, rfl, rfl⟩
abbrev F_ref21_off : Nat := 25
abbrev N_ref21_off : Nat := 31
noncomputable abbrev B_ref21_off : Func := Try.f25
theorem fn_ref21_off : cx.P.funcs[F_ref21_off]? = some B_ref21_off := Try.func25
theorem real_ref21_off : Real cx.P F_ref21_off := ⟨_, Try.func25, rfl, rfl⟩
abbrev F_ref21_order : Nat := 26
abbrev N_ref21_order : Nat := 52
noncomputable abbrev B_ref21_order : Func := Try.f26
theorem fn_ref21_order : cx.P.funcs[F_ref21_order]? = some B_ref21_order := Try.func26
theorem real_ref21_order : Real cx.P F_ref21_order := ⟨_, Try.func26, rfl, rfl⟩
abbrev F_ref21_thread : Nat := 27
abbrev N_ref21_thread : Nat := 76
noncomputable abbrev B_ref21_thread : Func := Try.f27
theorem fn_ref21_thread : cx.P.funcs[F_ref21_thread]? = some B_ref21_thread := Try.func27
theorem real_ref21_thread : Real cx.P F_ref21_thread := ⟨_, Try.func27, rfl, rfl⟩
abbrev F_audit_auditor_tell : Nat := 28
abbrev N_audit_auditor_tell : Nat := 21
noncomputable abbrev B_audit_auditor_tell : Func := Try.f28
theorem fn_audit_auditor_tell : cx.P.funcs[F_audit_auditor_tell]? = some B_audit_auditor_tell := Try.func28
theorem real_audit_auditor_tell : Real cx.P F_audit_auditor_tell := ⟨_, Try.func28, rfl, rfl⟩
abbrev F_mask_Set_In : Nat := 29
abbrev N_mask_Set_In : Nat := 9
noncomputable abbrev B_mask_Set_In : Func := Try.f29
theorem fn_mask_Set_In : cx.P.funcs[F_mask_Set_In]? = some B_mask_Set_In := Try.func29
theorem real_mask_Set_In : Real cx.P F_mask_Set_In := ⟨_, Try.func29, rfl, rfl⟩
abbrev F_audit_auditor_on : Nat := 30
abbrev N_audit_auditor_on : Nat := 12
noncomputable abbrev B_audit_auditor_on : Func := Try.f30
theorem fn_audit_auditor_on : cx.P.funcs[F_audit_auditor_on]? = some B_audit_auditor_on := Try.func30
theorem real_audit_auditor_on : Real cx.P F_audit_auditor_on := ⟨_, Try.func30, rfl, rfl⟩
abbrev F_audit_auditor_turned : Nat := 31
abbrev N_audit_auditor_turned : Nat := 38
noncomputable abbrev B_audit_auditor_turned : Func := Try.f31
theorem fn_audit_auditor_turned : cx.P.funcs[F_audit_auditor_turned]? = some B_audit_auditor_turned := Try.func31
theorem real_audit_auditor_turned : Real cx.P F_audit_auditor_turned := ⟨_, Try.func31, rfl, rfl⟩
abbrev F_mask_Set_Has : Nat := 32
abbrev N_mask_Set_Has : Nat := 14
noncomputable abbrev B_mask_Set_Has : Func := Try.f32
theorem fn_mask_Set_Has : cx.P.funcs[F_mask_Set_Has]? = some B_mask_Set_Has := Try.func32
theorem real_mask_Set_Has : Real cx.P F_mask_Set_Has := ⟨_, Try.func32, rfl, rfl⟩
abbrev F_audit_Domain_effective : Nat := 33
abbrev N_audit_Domain_effective : Nat := 27
noncomputable abbrev B_audit_Domain_effective : Func := Try.f33
theorem fn_audit_Domain_effective : cx.P.funcs[F_audit_Domain_effective]? = some B_audit_Domain_effective := Try.func33
theorem real_audit_Domain_effective : Real cx.P F_audit_Domain_effective := ⟨_, Try.func33, rfl, rfl⟩
abbrev F_audit_Domain_rounded : Nat := 34
abbrev N_audit_Domain_rounded : Nat := 45
noncomputable abbrev B_audit_Domain_rounded : Func := Try.f34
theorem fn_audit_Domain_rounded : cx.P.funcs[F_audit_Domain_rounded]? = some B_audit_Domain_rounded := Try.func34
theorem real_audit_Domain_rounded : Real cx.P F_audit_Domain_rounded := ⟨_, Try.func34, rfl, rfl⟩
abbrev F_slices_pdqsortCmpFunc_audit_Finding : Nat := 35
abbrev N_slices_pdqsortCmpFunc_audit_Finding : Nat := 148
noncomputable abbrev B_slices_pdqsortCmpFunc_audit_Finding : Func := Try.f35
theorem fn_slices_pdqsortCmpFunc_audit_Finding : cx.P.funcs[F_slices_pdqsortCmpFunc_audit_Finding]? = some B_slices_pdqsortCmpFunc_audit_Finding := Try.func35
theorem real_slices_pdqsortCmpFunc_audit_Finding : Real cx.P F_slices_pdqsortCmpFunc_audit_Finding := ⟨_, Try.func35, rfl, rfl⟩
abbrev F_math_bits_Len : Nat := 36
abbrev N_math_bits_Len : Nat := 8
noncomputable abbrev B_math_bits_Len : Func := Try.f36
theorem fn_math_bits_Len : cx.P.funcs[F_math_bits_Len]? = some B_math_bits_Len := Try.func36
theorem real_math_bits_Len : Real cx.P F_math_bits_Len := ⟨_, Try.func36, rfl, rfl⟩
abbrev F_cmp_isNaN_int : Nat := 37
abbrev N_cmp_isNaN_int : Nat := 6
noncomputable abbrev B_cmp_isNaN_int : Func := Try.f37
theorem fn_cmp_isNaN_int : cx.P.funcs[F_cmp_isNaN_int]? = some B_cmp_isNaN_int := Try.func37
theorem real_cmp_isNaN_int : Real cx.P F_cmp_isNaN_int := ⟨_, Try.func37, rfl, rfl⟩
abbrev F_ref01_Bits : Nat := 38
abbrev N_ref01_Bits : Nat := 18
noncomputable abbrev B_ref01_Bits : Func := Try.f38
theorem fn_ref01_Bits : cx.P.funcs[F_ref01_Bits]? = some B_ref01_Bits := Try.func38
theorem real_ref01_Bits : Real cx.P F_ref01_Bits := ⟨_, Try.func38, rfl, rfl⟩
abbrev F_ref01_Both : Nat := 39
abbrev N_ref01_Both : Nat := 21
noncomputable abbrev B_ref01_Both : Func := Try.f39
theorem fn_ref01_Both : cx.P.funcs[F_ref01_Both]? = some B_ref01_Both := Try.func39
theorem real_ref01_Both : Real cx.P F_ref01_Both := ⟨_, Try.func39, rfl, rfl⟩
abbrev F_ref21_has : Nat := 40
abbrev N_ref21_has : Nat := 15
noncomputable abbrev B_ref21_has : Func := Try.f40
theorem fn_ref21_has : cx.P.funcs[F_ref21_has]? = some B_ref21_has := Try.func40
theorem real_ref21_has : Real cx.P F_ref21_has := ⟨_, Try.func40, rfl, rfl⟩
abbrev F_ref21_tag : Nat := 41
abbrev N_ref21_tag : Nat := 36
noncomputable abbrev B_ref21_tag : Func := Try.f41
theorem fn_ref21_tag : cx.P.funcs[F_ref21_tag]? = some B_ref21_tag := Try.func41
theorem real_ref21_tag : Real cx.P F_ref21_tag := ⟨_, Try.func41, rfl, rfl⟩
abbrev F_ref21_placed : Nat := 42
abbrev N_ref21_placed : Nat := 101
noncomputable abbrev B_ref21_placed : Func := Try.f42
theorem fn_ref21_placed : cx.P.funcs[F_ref21_placed]? = some B_ref21_placed := Try.func42
theorem real_ref21_placed : Real cx.P F_ref21_placed := ⟨_, Try.func42, rfl, rfl⟩
abbrev F_ref21_known : Nat := 43
abbrev N_ref21_known : Nat := 16
noncomputable abbrev B_ref21_known : Func := Try.f43
theorem fn_ref21_known : cx.P.funcs[F_ref21_known]? = some B_ref21_known := Try.func43
theorem real_ref21_known : Real cx.P F_ref21_known := ⟨_, Try.func43, rfl, rfl⟩
abbrev F_ref21_masked : Nat := 44
abbrev N_ref21_masked : Nat := 44
noncomputable abbrev B_ref21_masked : Func := Try.f44
theorem fn_ref21_masked : cx.P.funcs[F_ref21_masked]? = some B_ref21_masked := Try.func44
theorem real_ref21_masked : Real cx.P F_ref21_masked := ⟨_, Try.func44, rfl, rfl⟩
abbrev F_ref21_round : Nat := 45
abbrev N_ref21_round : Nat := 48
noncomputable abbrev B_ref21_round : Func := Try.f45
theorem fn_ref21_round : cx.P.funcs[F_ref21_round]? = some B_ref21_round := Try.func45
theorem real_ref21_round : Real cx.P F_ref21_round := ⟨_, Try.func45, rfl, rfl⟩
abbrev F_slices_ContainsFunc_audit_Domain_audit_Domain : Nat := 46
abbrev N_slices_ContainsFunc_audit_Domain_audit_Domain : Nat := 9
noncomputable abbrev B_slices_ContainsFunc_audit_Domain_audit_Domain : Func := Try.f46
theorem fn_slices_ContainsFunc_audit_Domain_audit_Domain : cx.P.funcs[F_slices_ContainsFunc_audit_Domain_audit_Domain]? = some B_slices_ContainsFunc_audit_Domain_audit_Domain := Try.func46
theorem real_slices_ContainsFunc_audit_Domain_audit_Domain : Real cx.P F_slices_ContainsFunc_audit_Domain_audit_Domain := ⟨_, Try.func46, rfl, rfl⟩
abbrev F_audit_auditor_on_1 : Nat := 47
abbrev N_audit_auditor_on_1 : Nat := 8
noncomputable abbrev B_audit_auditor_on_1 : Func := Try.f47
theorem fn_audit_auditor_on_1 : cx.P.funcs[F_audit_auditor_on_1]? = some B_audit_auditor_on_1 := Try.func47
theorem real_audit_auditor_on_1 : Real cx.P F_audit_auditor_on_1 := ⟨_, Try.func47, rfl, rfl⟩
abbrev F_mask_core : Nat := 48
abbrev N_mask_core : Nat := 9
noncomputable abbrev B_mask_core : Func := Try.f48
theorem fn_mask_core : cx.P.funcs[F_mask_core]? = some B_mask_core := Try.func48
theorem real_mask_core : Real cx.P F_mask_core := ⟨_, Try.func48, rfl, rfl⟩
abbrev F_mask_Set_Meets : Nat := 49
abbrev N_mask_Set_Meets : Nat := 9
noncomputable abbrev B_mask_Set_Meets : Func := Try.f49
theorem fn_mask_Set_Meets : cx.P.funcs[F_mask_Set_Meets]? = some B_mask_Set_Meets := Try.func49
theorem real_mask_Set_Meets : Real cx.P F_mask_Set_Meets := ⟨_, Try.func49, rfl, rfl⟩
abbrev F_slices_insertionSortCmpFunc_audit_Finding : Nat := 50
abbrev N_slices_insertionSortCmpFunc_audit_Finding : Nat := 53
noncomputable abbrev B_slices_insertionSortCmpFunc_audit_Finding : Func := Try.f50
theorem fn_slices_insertionSortCmpFunc_audit_Finding : cx.P.funcs[F_slices_insertionSortCmpFunc_audit_Finding]? = some B_slices_insertionSortCmpFunc_audit_Finding := Try.func50
theorem real_slices_insertionSortCmpFunc_audit_Finding : Real cx.P F_slices_insertionSortCmpFunc_audit_Finding := ⟨_, Try.func50, rfl, rfl⟩
abbrev F_slices_heapSortCmpFunc_audit_Finding : Nat := 51
abbrev N_slices_heapSortCmpFunc_audit_Finding : Nat := 60
noncomputable abbrev B_slices_heapSortCmpFunc_audit_Finding : Func := Try.f51
theorem fn_slices_heapSortCmpFunc_audit_Finding : cx.P.funcs[F_slices_heapSortCmpFunc_audit_Finding]? = some B_slices_heapSortCmpFunc_audit_Finding := Try.func51
theorem real_slices_heapSortCmpFunc_audit_Finding : Real cx.P F_slices_heapSortCmpFunc_audit_Finding := ⟨_, Try.func51, rfl, rfl⟩
abbrev F_slices_breakPatternsCmpFunc_audit_Finding : Nat := 52
abbrev N_slices_breakPatternsCmpFunc_audit_Finding : Nat := 67
noncomputable abbrev B_slices_breakPatternsCmpFunc_audit_Finding : Func := Try.f52
theorem fn_slices_breakPatternsCmpFunc_audit_Finding : cx.P.funcs[F_slices_breakPatternsCmpFunc_audit_Finding]? = some B_slices_breakPatternsCmpFunc_audit_Finding := Try.func52
theorem real_slices_breakPatternsCmpFunc_audit_Finding : Real cx.P F_slices_breakPatternsCmpFunc_audit_Finding := ⟨_, Try.func52, rfl, rfl⟩
abbrev F_slices_choosePivotCmpFunc_audit_Finding : Nat := 53
abbrev N_slices_choosePivotCmpFunc_audit_Finding : Nat := 63
noncomputable abbrev B_slices_choosePivotCmpFunc_audit_Finding : Func := Try.f53
theorem fn_slices_choosePivotCmpFunc_audit_Finding : cx.P.funcs[F_slices_choosePivotCmpFunc_audit_Finding]? = some B_slices_choosePivotCmpFunc_audit_Finding := Try.func53
theorem real_slices_choosePivotCmpFunc_audit_Finding : Real cx.P F_slices_choosePivotCmpFunc_audit_Finding := ⟨_, Try.func53, rfl, rfl⟩
abbrev F_slices_reverseRangeCmpFunc_audit_Finding : Nat := 54
abbrev N_slices_reverseRangeCmpFunc_audit_Finding : Nat := 34
noncomputable abbrev B_slices_reverseRangeCmpFunc_audit_Finding : Func := Try.f54
theorem fn_slices_reverseRangeCmpFunc_audit_Finding : cx.P.funcs[F_slices_reverseRangeCmpFunc_audit_Finding]? = some B_slices_reverseRangeCmpFunc_audit_Finding := Try.func54
theorem real_slices_reverseRangeCmpFunc_audit_Finding : Real cx.P F_slices_reverseRangeCmpFunc_audit_Finding := ⟨_, Try.func54, rfl, rfl⟩
abbrev F_slices_partialInsertionSortCmpFunc_audit_Finding : Nat := 55
abbrev N_slices_partialInsertionSortCmpFunc_audit_Finding : Nat := 141
noncomputable abbrev B_slices_partialInsertionSortCmpFunc_audit_Finding : Func := Try.f55
theorem fn_slices_partialInsertionSortCmpFunc_audit_Finding : cx.P.funcs[F_slices_partialInsertionSortCmpFunc_audit_Finding]? = some B_slices_partialInsertionSortCmpFunc_audit_Finding := Try.func55
theorem real_slices_partialInsertionSortCmpFunc_audit_Finding : Real cx.P F_slices_partialInsertionSortCmpFunc_audit_Finding := ⟨_, Try.func55, rfl, rfl⟩
abbrev F_slices_partitionEqualCmpFunc_audit_Finding : Nat := 56
abbrev N_slices_partitionEqualCmpFunc_audit_Finding : Nat := 90
noncomputable abbrev B_slices_partitionEqualCmpFunc_audit_Finding : Func := Try.f56
theorem fn_slices_partitionEqualCmpFunc_audit_Finding : cx.P.funcs[F_slices_partitionEqualCmpFunc_audit_Finding]? = some B_slices_partitionEqualCmpFunc_audit_Finding := Try.func56
theorem real_slices_partitionEqualCmpFunc_audit_Finding : Real cx.P F_slices_partitionEqualCmpFunc_audit_Finding := ⟨_, Try.func56, rfl, rfl⟩
abbrev F_slices_partitionCmpFunc_audit_Finding : Nat := 57
abbrev N_slices_partitionCmpFunc_audit_Finding : Nat := 178
noncomputable abbrev B_slices_partitionCmpFunc_audit_Finding : Func := Try.f57
theorem fn_slices_partitionCmpFunc_audit_Finding : cx.P.funcs[F_slices_partitionCmpFunc_audit_Finding]? = some B_slices_partitionCmpFunc_audit_Finding := Try.func57
theorem real_slices_partitionCmpFunc_audit_Finding : Real cx.P F_slices_partitionCmpFunc_audit_Finding := ⟨_, Try.func57, rfl, rfl⟩
abbrev F_math_bits_Len32 : Nat := 58
abbrev N_math_bits_Len32 : Nat := 19
noncomputable abbrev B_math_bits_Len32 : Func := Try.f58
theorem fn_math_bits_Len32 : cx.P.funcs[F_math_bits_Len32]? = some B_math_bits_Len32 := Try.func58
theorem real_math_bits_Len32 : Real cx.P F_math_bits_Len32 := ⟨_, Try.func58, rfl, rfl⟩
abbrev F_math_bits_Len64 : Nat := 59
abbrev N_math_bits_Len64 : Nat := 25
noncomputable abbrev B_math_bits_Len64 : Func := Try.f59
theorem fn_math_bits_Len64 : cx.P.funcs[F_math_bits_Len64]? = some B_math_bits_Len64 := Try.func59
theorem real_math_bits_Len64 : Real cx.P F_math_bits_Len64 := ⟨_, Try.func59, rfl, rfl⟩
abbrev F_ref01_Core : Nat := 60
abbrev N_ref01_Core : Nat := 9
noncomputable abbrev B_ref01_Core : Func := Try.f60
theorem fn_ref01_Core : cx.P.funcs[F_ref01_Core]? = some B_ref01_Core := Try.func60
theorem real_ref01_Core : Real cx.P F_ref01_Core := ⟨_, Try.func60, rfl, rfl⟩
abbrev F_ref01_Number : Nat := 61
abbrev N_ref01_Number : Nat := 17
noncomputable abbrev B_ref01_Number : Func := Try.f61
theorem fn_ref01_Number : cx.P.funcs[F_ref01_Number]? = some B_ref01_Number := Try.func61
theorem real_ref01_Number : Real cx.P F_ref01_Number := ⟨_, Try.func61, rfl, rfl⟩
abbrev F_slices_IndexFunc_audit_Domain_audit_Domain : Nat := 62
abbrev N_slices_IndexFunc_audit_Domain_audit_Domain : Nat := 19
noncomputable abbrev B_slices_IndexFunc_audit_Domain_audit_Domain : Func := Try.f62
theorem fn_slices_IndexFunc_audit_Domain_audit_Domain : cx.P.funcs[F_slices_IndexFunc_audit_Domain_audit_Domain]? = some B_slices_IndexFunc_audit_Domain_audit_Domain := Try.func62
theorem real_slices_IndexFunc_audit_Domain_audit_Domain : Real cx.P F_slices_IndexFunc_audit_Domain_audit_Domain := ⟨_, Try.func62, rfl, rfl⟩
abbrev F_slices_siftDownCmpFunc_audit_Finding : Nat := 63
abbrev N_slices_siftDownCmpFunc_audit_Finding : Nat := 82
noncomputable abbrev B_slices_siftDownCmpFunc_audit_Finding : Func := Try.f63
theorem fn_slices_siftDownCmpFunc_audit_Finding : cx.P.funcs[F_slices_siftDownCmpFunc_audit_Finding]? = some B_slices_siftDownCmpFunc_audit_Finding := Try.func63
theorem real_slices_siftDownCmpFunc_audit_Finding : Real cx.P F_slices_siftDownCmpFunc_audit_Finding := ⟨_, Try.func63, rfl, rfl⟩
abbrev F_slices_nextPowerOfTwo : Nat := 64
abbrev N_slices_nextPowerOfTwo : Nat := 7
noncomputable abbrev B_slices_nextPowerOfTwo : Func := Try.f64
theorem fn_slices_nextPowerOfTwo : cx.P.funcs[F_slices_nextPowerOfTwo]? = some B_slices_nextPowerOfTwo := Try.func64
theorem real_slices_nextPowerOfTwo : Real cx.P F_slices_nextPowerOfTwo := ⟨_, Try.func64, rfl, rfl⟩
abbrev F_slices_xorshift_Next : Nat := 65
abbrev N_slices_xorshift_Next : Nat := 33
noncomputable abbrev B_slices_xorshift_Next : Func := Try.f65
theorem fn_slices_xorshift_Next : cx.P.funcs[F_slices_xorshift_Next]? = some B_slices_xorshift_Next := Try.func65
theorem real_slices_xorshift_Next : Real cx.P F_slices_xorshift_Next := ⟨_, Try.func65, rfl, rfl⟩
abbrev F_slices_medianAdjacentCmpFunc_audit_Finding : Nat := 66
abbrev N_slices_medianAdjacentCmpFunc_audit_Finding : Nat := 18
noncomputable abbrev B_slices_medianAdjacentCmpFunc_audit_Finding : Func := Try.f66
theorem fn_slices_medianAdjacentCmpFunc_audit_Finding : cx.P.funcs[F_slices_medianAdjacentCmpFunc_audit_Finding]? = some B_slices_medianAdjacentCmpFunc_audit_Finding := Try.func66
theorem real_slices_medianAdjacentCmpFunc_audit_Finding : Real cx.P F_slices_medianAdjacentCmpFunc_audit_Finding := ⟨_, Try.func66, rfl, rfl⟩
abbrev F_slices_medianCmpFunc_audit_Finding : Nat := 67
abbrev N_slices_medianCmpFunc_audit_Finding : Nat := 41
noncomputable abbrev B_slices_medianCmpFunc_audit_Finding : Func := Try.f67
theorem fn_slices_medianCmpFunc_audit_Finding : cx.P.funcs[F_slices_medianCmpFunc_audit_Finding]? = some B_slices_medianCmpFunc_audit_Finding := Try.func67
theorem real_slices_medianCmpFunc_audit_Finding : Real cx.P F_slices_medianCmpFunc_audit_Finding := ⟨_, Try.func67, rfl, rfl⟩
abbrev F_slices_order2CmpFunc_audit_Finding : Nat := 68
abbrev N_slices_order2CmpFunc_audit_Finding : Nat := 32
noncomputable abbrev B_slices_order2CmpFunc_audit_Finding : Func := Try.f68
theorem fn_slices_order2CmpFunc_audit_Finding : cx.P.funcs[F_slices_order2CmpFunc_audit_Finding]? = some B_slices_order2CmpFunc_audit_Finding := Try.func68
theorem real_slices_order2CmpFunc_audit_Finding : Real cx.P F_slices_order2CmpFunc_audit_Finding := ⟨_, Try.func68, rfl, rfl⟩
abbrev F_runtime_boundsError_Error : Nat := 69
abbrev F_runtime_boundsError_RuntimeError : Nat := 70
abbrev F_runtime_errorString_Error : Nat := 71
abbrev F_runtime_errorString_RuntimeError : Nat := 72
abbrev F_runtime_plainError_Error : Nat := 73
abbrev F_runtime_plainError_RuntimeError : Nat := 74
abbrev F_runtime_errorAddressString_Error : Nat := 75
abbrev F_runtime_errorAddressString_RuntimeError : Nat := 76
abbrev F_runtime_TypeAssertionError_Error : Nat := 77
abbrev F_runtime_TypeAssertionError_RuntimeError : Nat := 78
abbrev F_runtime_PanicNilError_Error : Nat := 79
abbrev F_runtime_PanicNilError_RuntimeError : Nat := 80
abbrev F_internal_abi_Type_Align : Nat := 81
abbrev F_internal_runtime_maps_unhashableTypeError_Error : Nat := 82
abbrev F_internal_runtime_maps_unhashableTypeError_RuntimeError : Nat := 83
abbrev F_mask_Set_First : Nat := 84
abbrev F_internal_abi_Kind_String : Nat := 85
end Go.Proofs.Ytkpbpjnabbfdiaa
