import Derived.Test.YtdafapcckimefaaRows
import Derived.Test.YtdafapcckimefaaKc
namespace Go.Proofs.Ytdafapcckimefaa
open Go.Sx
def N_main_main : Nat := 0
def N_gosem_cut : Nat := 1
def N_gosem_cut_init : Nat := 2
def N_law19_StatusExact : Nat := 3
def N_law19_StatusMade : Nat := 4
def N_law19_StatusReturns : Nat := 5
def N_law19_StatusFits : Nat := 6
def N_law19_awake : Nat := 7
def N_status_Encode : Nat := 8
def N_ref19_Encode : Nat := 9
def N_status_Decode : Nat := 10
def N_ref19_Decode : Nat := 11
def N_status_Fit : Nat := 12
def N_ref19_Fit : Nat := 13
def N_status_Valid : Nat := 14
def N_ref19_Valid : Nat := 15
def N_ref01_Same : Nat := 16
def N_ref19_Same : Nat := 17
def N_made_Light : Nat := 18
def N_made_Roll : Nat := 19
def N_made_Dice_Bits : Nat := 20
def N_made_Dice_Status : Nat := 21
def N_made_Dice_Next : Nat := 22
def N_made_Dice_Spoil : Nat := 23
def N_made_Dice_One : Nat := 24
def N_made_Dice_OddRange : Nat := 25
def N_made_Mod : Nat := 26
def N_ref02_Distance : Nat := 27
def N_status_Whole : Nat := 28
def N_ref01_Put : Nat := 29
def N_ref19_size : Nat := 30
def N_counter_Bits : Nat := 31
def N_status_Decode_1 : Nat := 32
def N_status_reader_take : Nat := 33
def N_bytes_Equal : Nat := 34
def N_ref15_Bits : Nat := 35
def N_ref01_Get : Nat := 36
def N_slices_Clone_Sapi_Range_api_Range : Nat := 37
def N_status_size : Nat := 38
def N_serial_Distance : Nat := 39
def N_status_part : Nat := 40
def N_ref18_SameRanges : Nat := 41
def N_made_Dice_Ranges : Nat := 42
def N_ref02_valid : Nat := 43
def N_ref02_Low : Nat := 44
def N_serial_Low : Nat := 45
def N_serial_valid : Nat := 46
def N_runtime_boundsError_Error : Nat := 47
def N_runtime_boundsError_RuntimeError : Nat := 48
def N_runtime_errorString_Error : Nat := 49
def N_runtime_errorString_RuntimeError : Nat := 50
def N_runtime_plainError_Error : Nat := 51
def N_runtime_plainError_RuntimeError : Nat := 52
def N_runtime_errorAddressString_Error : Nat := 53
def N_runtime_errorAddressString_RuntimeError : Nat := 54
def N_runtime_TypeAssertionError_Error : Nat := 55
def N_runtime_TypeAssertionError_RuntimeError : Nat := 56
def N_runtime_PanicNilError_Error : Nat := 57
def N_runtime_PanicNilError_RuntimeError : Nat := 58
def N_internal_abi_Type_Align : Nat := 59
def N_internal_runtime_maps_unhashableTypeError_Error : Nat := 60
def N_internal_runtime_maps_unhashableTypeError_RuntimeError : Nat := 61
def N_internal_abi_Kind_String : Nat := 62
def Ty_unit : Nat := 0
def Ty_func : Nat := 1
def Ty_int64 : Nat := 2
def Ty_int : Nat := 3
def Ty_bool : Nat := 4
def Ty_uint8 : Nat := 5
def Ty_abi_BoundsErrorCode : Nat := 6
def Ty_struct_x_int64_y_int_signed_bool_57 : Nat := 7
def Ty_runtime_boundsError : Nat := 8
def Ty_string : Nat := 9
def Ty_runtime_errorString : Nat := 10
def Ty_runtime_plainError : Nat := 11
def Ty_uintptr : Nat := 12
def Ty_struct_msg_string_addr_uintptr : Nat := 13
def Ty_runtime_errorAddressString : Nat := 14
def Ty_P_runtime_TypeAssertionError : Nat := 15
def Ty_P_runtime_PanicNilError : Nat := 16
def Ty_P_abi_Type : Nat := 17
def Ty_struct_typ_P_abi_Type : Nat := 18
def Ty_maps_unhashableTypeError : Nat := 19
def Ty_interface : Nat := 20
def Ty_int32 : Nat := 21
def Ty_S_api_Range : Nat := 22
def Ty_struct_Upto_int_Missing_S_api_Range : Nat := 23
def Ty_api_Status : Nat := 24
def Ty_S_uint8 : Nat := 25
def Ty_2_int : Nat := 26
def Ty_func_bool : Nat := 27
def Ty_api_Errno : Nat := 28
def Ty_S_uint8_api_Errno : Nat := 29
def Ty_func_int_api_Status_S_uint8_api_Errno : Nat := 30
def Ty_api_Status_api_Errno : Nat := 31
def Ty_func_int_S_uint8_api_Status_api_Errno : Nat := 32
def Ty_func_int_api_Status_int_api_Stat_44 : Nat := 33
def Ty_func_int_api_Status_bool : Nat := 34
def Ty_func_S_uint8_S_uint8_bool : Nat := 35
def Ty_func_api_Status_api_Status_bool : Nat := 36
def Ty_func_api_Status_S_uint8_2_int_bool : Nat := 37
def Ty_S_int : Nat := 38
def Ty_func_S_int_bool : Nat := 39
def Ty_P_radiolinkmade_Dice : Nat := 40
def Ty_func_S_int_P_radiolinkmade_Dice : Nat := 41
def Ty_func_int : Nat := 42
def Ty_func_int_api_Status : Nat := 43
def Ty_func_int_int : Nat := 44
def Ty_func_S_uint8_S_uint8 : Nat := 45
def Ty_func_int_bool : Nat := 46
def Ty_func_S_api_Range_S_api_Range : Nat := 47
def Ty_uint : Nat := 48
def Ty_func_int_int_int : Nat := 49
def Ty_struct_Sn_int_From_int_To_int : Nat := 50
def Ty_api_Range : Nat := 51
def Ty_func_int_int_int_int : Nat := 52
def Ty_func_S_int_int_bool : Nat := 53
def Ty_func_api_Range_bool : Nat := 54
def Ty_func_S_uint8_int_int_S_uint8 : Nat := 55
def Ty_func_api_Range_int : Nat := 56
def Ty_P_status_reader : Nat := 57
def Ty_struct_rest_S_uint8 : Nat := 58
def Ty_status_reader : Nat := 59
def Ty_func_S_uint8_int_int_int : Nat := 60
def Ty_func_S_api_Range_S_api_Range_bool : Nat := 61
def Ty_struct_L_S_int_At_int : Nat := 62
def Ty_radiolinkmade_Dice : Nat := 63
def Ty_func_int_int_S_api_Range : Nat := 64
def Ty_struct : Nat := 65
def Ty_status_ended : Nat := 66
def Ty_func_string : Nat := 67
def Ty_struct__interface_P_abi_Type_con_89 : Nat := 68
def Ty_runtime_TypeAssertionError : Nat := 69
def Ty_0_P_runtime_PanicNilError : Nat := 70
def Ty_struct___0_P_runtime_PanicNilError : Nat := 71
def Ty_runtime_PanicNilError : Nat := 72
def Ty_uint32 : Nat := 73
def Ty_abi_TFlag : Nat := 74
def Ty_abi_Kind : Nat := 75
def Ty_func_unsafe_Pointer_unsafe_Pointer_bool : Nat := 76
def Ty_P_uint8 : Nat := 77
def Ty_abi_NameOff : Nat := 78
def Ty_abi_TypeOff : Nat := 79
def Ty_struct_Size__uintptr_PtrBytes_ui_210 : Nat := 80
def Ty_abi_Type : Nat := 81
def Ty_unsafe_Pointer : Nat := 82
def TTl : List (List Kind) := [
  [],
  [.p .val],
  [.p (.int .i64)],
  [.p (.int .i64)],
  [.p .bool],
  [.p (.int .u8)],
  [.p (.int .u8)],
  [.agg [.int .i64, .int .i64, .bool, .int .u8]],
  [.agg [.int .i64, .int .i64, .bool, .int .u8]],
  [.p .str],
  [.p .str],
  [.p .str],
  [.p (.int .u64)],
  [.agg [.str, .int .u64]],
  [.agg [.str, .int .u64]],
  [.p .ptr],
  [.p .ptr],
  [.p .ptr],
  [.agg [.ptr]],
  [.agg [.ptr]],
  [.p .val],
  [.p (.int .i32)],
  [.p .slice],
  [.agg [.int .i64, .slice]],
  [.agg [.int .i64, .slice]],
  [.p .slice],
  [.agg [.int .i64, .int .i64]],
  [.p .val],
  [.p (.int .i64)],
  [.p .slice, .p (.int .i64)],
  [.p .val],
  [.agg [.int .i64, .slice], .p (.int .i64)],
  [.p .val],
  [.p .val],
  [.p .val],
  [.p .val],
  [.p .val],
  [.p .val],
  [.p .slice],
  [.p .val],
  [.p .ptr],
  [.p .val],
  [.p .val],
  [.p .val],
  [.p .val],
  [.p .val],
  [.p .val],
  [.p .val],
  [.p (.int .u64)],
  [.p .val],
  [.agg [.int .i64, .int .i64, .int .i64]],
  [.agg [.int .i64, .int .i64, .int .i64]],
  [.p .val],
  [.p .val],
  [.p .val],
  [.p .val],
  [.p .val],
  [.p .ptr],
  [.agg [.slice]],
  [.agg [.slice]],
  [.p .val],
  [.p .val],
  [.agg [.slice, .int .i64]],
  [.agg [.slice, .int .i64]],
  [.p .val],
  [.agg []],
  [.agg []],
  [.p .val],
  [.agg [.ptr, .ptr, .ptr, .str]],
  [.agg [.ptr, .ptr, .ptr, .str]],
  [.agg []],
  [.agg []],
  [.agg []],
  [.p (.int .u32)],
  [.p (.int .u8)],
  [.p (.int .u8)],
  [.p .val],
  [.p .ptr],
  [.p (.int .i32)],
  [.p (.int .i32)],
  [.agg [.int .u64, .int .u64, .int .u32, .int .u8, .int .u8, .int .u8, .int .u8, .val, .ptr, .int .i32, .int .i32]],
  [.agg [.int .u64, .int .u64, .int .u32, .int .u8, .int .u8, .int .u8, .int .u8, .val, .ptr, .int .i32, .int .i32]],
  [.p .val]]
def TTk (t : TypeId) : List Kind := TTl.getD t []
abbrev TT : Cx := ⟨TTk, none⟩
theorem follows_ok : Try.prog.follows .mixedOrders = true := by kernel_rfl
end Go.Proofs.Ytdafapcckimefaa
