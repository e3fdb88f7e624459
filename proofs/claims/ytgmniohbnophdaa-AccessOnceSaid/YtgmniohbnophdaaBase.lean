import Derived.Test.YtgmniohbnophdaaRows
import Derived.Test.YtgmniohbnophdaaKc
namespace Go.Proofs.Ytgmniohbnophdaa
open Go.Sx
def N_main_main : Nat := 0
def N_gosem_cut : Nat := 1
def N_gosem_cut_init : Nat := 2
def N_law38_AccessOnce : Nat := 3
def N_law38_AccessApart : Nat := 4
def N_law38_AccessMany : Nat := 5
def N_law38_AccessRaw : Nat := 6
def N_law38_AccessRuns : Nat := 7
def N_access_Begin : Nat := 8
def N_access_Tick : Nat := 9
def N_law38_awake : Nat := 10
def N_access_Preamble : Nat := 11
def N_law38_agree : Nat := 12
def N_ref38_Preamble : Nat := 13
def N_roll_Light : Nat := 14
def N_roll_Roll : Nat := 15
def N_roll_Dice_Next : Nat := 16
def N_roll_Dice_Rest : Nat := 17
def N_ref38_Stop : Nat := 18
def N_ref38_Begin : Nat := 19
def N_ref38_Tick : Nat := 20
def N_access_Check : Nat := 21
def N_access_clone : Nat := 22
def N_access_known : Nat := 23
def N_access_find : Nat := 24
def N_access_with : Nat := 25
def N_slices_Clone_Sapi_Attempt_api_Attempt : Nat := 26
def N_ref38_Same : Nat := 27
def N_ref38_Check : Nat := 28
def N_roll_SameInts : Nat := 29
def N_access_Stop : Nat := 30
def N_roll_Mod : Nat := 31
def N_ref38_has : Nat := 32
def N_ref38_put : Nat := 33
def N_access_order : Nat := 34
def N_slices_IndexFunc_Sapi_Attempt_api_Attempt : Nat := 35
def N_access_find_1 : Nat := 36
def N_slices_BinarySearchFunc_Sapi_Attempt_api_Attempt_api_Attempt : Nat := 37
def N_slices_Insert_Sapi_Attempt_api_Attempt : Nat := 38
def N_ref38_before : Nat := 39
def N_slices_Delete_Sapi_Attempt_api_Attempt : Nat := 40
def N_cmp_Or_int : Nat := 41
def N_cmp_Compare_int : Nat := 42
def N_slices_overlaps_api_Attempt : Nat := 43
def N_slices_rotateRight_api_Attempt : Nat := 44
def N_cmp_isNaN_int : Nat := 45
def N_slices_rotateLeft_api_Attempt : Nat := 46
def N_slices_Reverse_Sapi_Attempt_api_Attempt : Nat := 47
def N_runtime_boundsError_Error : Nat := 48
def N_runtime_boundsError_RuntimeError : Nat := 49
def N_runtime_errorString_Error : Nat := 50
def N_runtime_errorString_RuntimeError : Nat := 51
def N_runtime_plainError_Error : Nat := 52
def N_runtime_plainError_RuntimeError : Nat := 53
def N_runtime_errorAddressString_Error : Nat := 54
def N_runtime_errorAddressString_RuntimeError : Nat := 55
def N_runtime_TypeAssertionError_Error : Nat := 56
def N_runtime_TypeAssertionError_RuntimeError : Nat := 57
def N_runtime_PanicNilError_Error : Nat := 58
def N_runtime_PanicNilError_RuntimeError : Nat := 59
def N_internal_abi_Type_Align : Nat := 60
def N_internal_runtime_maps_unhashableTypeError_Error : Nat := 61
def N_internal_runtime_maps_unhashableTypeError_RuntimeError : Nat := 62
def N_internal_abi_Kind_String : Nat := 63
def Ty_unit : Nat := 0
def Ty_func : Nat := 1
def Ty_int64 : Nat := 2
def Ty_int : Nat := 3
def Ty_bool : Nat := 4
def Ty_uint8 : Nat := 5
def Ty_abi_BoundsErrorCode : Nat := 6
def Ty_struct_x_int64_y_int_signed_bool_57 : Nat := 7
def Ty_runtime_boundsError : Nat := 8
def Ty_string : Nat := 9
def Ty_runtime_errorString : Nat := 10
def Ty_runtime_plainError : Nat := 11
def Ty_uintptr : Nat := 12
def Ty_struct_msg_string_addr_uintptr : Nat := 13
def Ty_runtime_errorAddressString : Nat := 14
def Ty_P_runtime_TypeAssertionError : Nat := 15
def Ty_P_runtime_PanicNilError : Nat := 16
def Ty_P_abi_Type : Nat := 17
def Ty_struct_typ_P_abi_Type : Nat := 18
def Ty_maps_unhashableTypeError : Nat := 19
def Ty_interface : Nat := 20
def Ty_int32 : Nat := 21
def Ty_S_uint8 : Nat := 22
def Ty_S_api_Attempt : Nat := 23
def Ty_struct_Preambles_int_Tries_int_B_65 : Nat := 24
def Ty_api_Access : Nat := 25
def Ty_map_int_int : Nat := 26
def Ty_api_Errno : Nat := 27
def Ty_api_Access_api_Errno : Nat := 28
def Ty_func_api_Access_int_int_api_Acce_44 : Nat := 29
def Ty_int_bool : Nat := 30
def Ty_struct_Identity_int_Preamble_int_49 : Nat := 31
def Ty_api_Attempt : Nat := 32
def Ty_S_int : Nat := 33
def Ty_api_Access_S_int_S_int_api_Errno : Nat := 34
def Ty_func_api_Access_int_api_Access_S_52 : Nat := 35
def Ty_func_bool : Nat := 36
def Ty_func_S_uint8_uint8_uint8_uint8_bool : Nat := 37
def Ty_uint16 : Nat := 38
def Ty_func_int_int_int_int : Nat := 39
def Ty_func_uint16_uint8_uint8_bool : Nat := 40
def Ty_func_uint8_uint8_uint8_bool : Nat := 41
def Ty_func_api_Access_int_int_bool : Nat := 42
def Ty_func_api_Access_int_int_int_int_bool : Nat := 43
def Ty_func_S_int_bool : Nat := 44
def Ty_P_radiolinkroll_Dice : Nat := 45
def Ty_func_S_int_P_radiolinkroll_Dice : Nat := 46
def Ty_func_int_int : Nat := 47
def Ty_func_int : Nat := 48
def Ty_api_Access_bool : Nat := 49
def Ty_func_api_Access_int_api_Access_bool : Nat := 50
def Ty_func_api_Access_api_Errno : Nat := 51
def Ty_func_api_Access_api_Access : Nat := 52
def Ty_func_int_bool : Nat := 53
def Ty_func_S_api_Attempt_int_int : Nat := 54
def Ty_func_api_Access_api_Attempt_api_Access : Nat := 55
def Ty_func_S_api_Attempt_S_api_Attempt : Nat := 56
def Ty_func_api_Access_api_Access_bool : Nat := 57
def Ty_func_S_int_S_int_bool : Nat := 58
def Ty_struct_l_S_int_at_int : Nat := 59
def Ty_radiolinkroll_Dice : Nat := 60
def Ty_func_int_int_int : Nat := 61
def Ty_func_S_api_Attempt_int_bool : Nat := 62
def Ty_func_S_api_Attempt_api_Attempt_S_44 : Nat := 63
def Ty_func_api_Attempt_api_Attempt_int : Nat := 64
def Ty_func_S_api_Attempt_func_api_Atte_44 : Nat := 65
def Ty_func_api_Attempt_bool : Nat := 66
def Ty_func_S_api_Attempt_api_Attempt_f_72 : Nat := 67
def Ty_func_S_api_Attempt_int_api_Attem_48 : Nat := 68
def Ty_func_api_Attempt_api_Attempt_bool : Nat := 69
def Ty_func_S_api_Attempt_int_int_S_api_Attempt : Nat := 70
def Ty_func_int_int_2 : Nat := 71
def Ty_uint : Nat := 72
def Ty_func_S_api_Attempt_S_api_Attempt_bool : Nat := 73
def Ty_func_S_api_Attempt_int : Nat := 74
def Ty_func_S_api_Attempt : Nat := 75
def Ty_func_string : Nat := 76
def Ty_struct__interface_P_abi_Type_con_89 : Nat := 77
def Ty_runtime_TypeAssertionError : Nat := 78
def Ty_0_P_runtime_PanicNilError : Nat := 79
def Ty_struct___0_P_runtime_PanicNilError : Nat := 80
def Ty_runtime_PanicNilError : Nat := 81
def Ty_uint32 : Nat := 82
def Ty_abi_TFlag : Nat := 83
def Ty_abi_Kind : Nat := 84
def Ty_func_unsafe_Pointer_unsafe_Pointer_bool : Nat := 85
def Ty_P_uint8 : Nat := 86
def Ty_abi_NameOff : Nat := 87
def Ty_abi_TypeOff : Nat := 88
def Ty_struct_Size__uintptr_PtrBytes_ui_210 : Nat := 89
def Ty_abi_Type : Nat := 90
def Ty_unsafe_Pointer : Nat := 91
def TTl : List (List Kind) := [
  [],
  [.p .val],
  [.p (.int .i64)],
  [.p (.int .i64)],
  [.p .bool],
  [.p (.int .u8)],
  [.p (.int .u8)],
  [.agg [.int .i64, .int .i64, .bool, .int .u8]],
  [.agg [.int .i64, .int .i64, .bool, .int .u8]],
  [.p .str],
  [.p .str],
  [.p .str],
  [.p (.int .u64)],
  [.agg [.str, .int .u64]],
  [.agg [.str, .int .u64]],
  [.p .ptr],
  [.p .ptr],
  [.p .ptr],
  [.agg [.ptr]],
  [.agg [.ptr]],
  [.p .val],
  [.p (.int .i32)],
  [.p .slice],
  [.p .slice],
  [.agg [.int .i64, .int .i64, .int .i64, .slice]],
  [.agg [.int .i64, .int .i64, .int .i64, .slice]],
  [.p .val],
  [.p (.int .i64)],
  [.agg [.int .i64, .int .i64, .int .i64, .slice], .p (.int .i64)],
  [.p .val],
  [.p (.int .i64), .p .bool],
  [.agg [.int .i64, .int .i64, .int .i64, .int .i64]],
  [.agg [.int .i64, .int .i64, .int .i64, .int .i64]],
  [.p .slice],
  [.agg [.int .i64, .int .i64, .int .i64, .slice], .p .slice, .p .slice, .p (.int .i64)],
  [.p .val],
  [.p .val],
  [.p .val],
  [.p (.int .u16)],
  [.p .val],
  [.p .val],
  [.p .val],
  [.p .val],
  [.p .val],
  [.p .val],
  [.p .ptr],
  [.p .val],
  [.p .val],
  [.p .val],
  [.agg [.int .i64, .int .i64, .int .i64, .slice], .p .bool],
  [.p .val],
  [.p .val],
  [.p .val],
  [.p .val],
  [.p .val],
  [.p .val],
  [.p .val],
  [.p .val],
  [.p .val],
  [.agg [.slice, .int .i64]],
  [.agg [.slice, .int .i64]],
  [.p .val],
  [.p .val],
  [.p .val],
  [.p .val],
  [.p .val],
  [.p .val],
  [.p .val],
  [.p .val],
  [.p .val],
  [.p .val],
  [.p .val],
  [.p (.int .u64)],
  [.p .val],
  [.p .val],
  [.p .val],
  [.p .val],
  [.agg [.ptr, .ptr, .ptr, .str]],
  [.agg [.ptr, .ptr, .ptr, .str]],
  [.agg []],
  [.agg []],
  [.agg []],
  [.p (.int .u32)],
  [.p (.int .u8)],
  [.p (.int .u8)],
  [.p .val],
  [.p .ptr],
  [.p (.int .i32)],
  [.p (.int .i32)],
  [.agg [.int .u64, .int .u64, .int .u32, .int .u8, .int .u8, .int .u8, .int .u8, .val, .ptr, .int .i32, .int .i32]],
  [.agg [.int .u64, .int .u64, .int .u32, .int .u8, .int .u8, .int .u8, .int .u8, .val, .ptr, .int .i32, .int .i32]],
  [.p .val]]
def TTk (t : TypeId) : List Kind := TTl.getD t []
abbrev TT : Cx := ⟨TTk, none⟩
theorem follows_ok : Try.prog.follows .mixedOrders = true := by kernel_rfl
end Go.Proofs.Ytgmniohbnophdaa
