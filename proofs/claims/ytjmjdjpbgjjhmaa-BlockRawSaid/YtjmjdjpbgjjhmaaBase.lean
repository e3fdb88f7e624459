import Derived.Test.YtjmjdjpbgjjhmaaRows
import Derived.Test.YtjmjdjpbgjjhmaaKc
namespace Go.Proofs.Ytjmjdjpbgjjhmaa
open Go.Sx
def N_main_main : Nat := 0
def N_gosem_cut : Nat := 1
def N_gosem_cut_init : Nat := 2
def N_law24_BlockRaw : Nat := 3
def N_law24_BlockMade : Nat := 4
def N_law24_BlockBack : Nat := 5
def N_law24_BlockGrows : Nat := 6
def N_law24_BlockJoins : Nat := 7
def N_law24_light : Nat := 8
def N_law24_awake : Nat := 9
def N_block_Encode : Nat := 10
def N_ref24_Encode : Nat := 11
def N_block_Decode : Nat := 12
def N_ref24_Decode : Nat := 13
def N_ref24_SameBytes : Nat := 14
def N_ref24_Same : Nat := 15
def N_block_Check : Nat := 16
def N_ref24_Check : Nat := 17
def N_block_Used : Nat := 18
def N_ref24_Used : Nat := 19
def N_roll_Light : Nat := 20
def N_law24_sections : Nat := 21
def N_roll_Roll : Nat := 22
def N_roll_Mod : Nat := 23
def N_block_join : Nat := 24
def N_block_begin : Nat := 25
def N_ref24_head : Nat := 26
def N_slices_Clone_Sbyte_byte : Nat := 27
def N_bytes_Equal : Nat := 28
def N_block_size : Nat := 29
def N_ref24_section : Nat := 30
def N_roll_Dice_Next : Nat := 31
def N_roll_Dice_Bytes : Nat := 32
def N_runtime_boundsError_Error : Nat := 33
def N_runtime_boundsError_RuntimeError : Nat := 34
def N_runtime_errorString_Error : Nat := 35
def N_runtime_errorString_RuntimeError : Nat := 36
def N_runtime_plainError_Error : Nat := 37
def N_runtime_plainError_RuntimeError : Nat := 38
def N_runtime_errorAddressString_Error : Nat := 39
def N_runtime_errorAddressString_RuntimeError : Nat := 40
def N_runtime_TypeAssertionError_Error : Nat := 41
def N_runtime_TypeAssertionError_RuntimeError : Nat := 42
def N_runtime_PanicNilError_Error : Nat := 43
def N_runtime_PanicNilError_RuntimeError : Nat := 44
def N_internal_abi_Type_Align : Nat := 45
def N_internal_runtime_maps_unhashableTypeError_Error : Nat := 46
def N_internal_runtime_maps_unhashableTypeError_RuntimeError : Nat := 47
def N_roll_Dice_Rest : Nat := 48
def N_internal_abi_Kind_String : Nat := 49
def Ty_unit : Nat := 0
def Ty_func : Nat := 1
def Ty_int64 : Nat := 2
def Ty_int : Nat := 3
def Ty_bool : Nat := 4
def Ty_uint8 : Nat := 5
def Ty_abi_BoundsErrorCode : Nat := 6
def Ty_struct_x_int64_y_int_signed_bool_57 : Nat := 7
def Ty_runtime_boundsError : Nat := 8
def Ty_string : Nat := 9
def Ty_runtime_errorString : Nat := 10
def Ty_runtime_plainError : Nat := 11
def Ty_uintptr : Nat := 12
def Ty_struct_msg_string_addr_uintptr : Nat := 13
def Ty_runtime_errorAddressString : Nat := 14
def Ty_P_runtime_TypeAssertionError : Nat := 15
def Ty_P_runtime_PanicNilError : Nat := 16
def Ty_P_abi_Type : Nat := 17
def Ty_struct_typ_P_abi_Type : Nat := 18
def Ty_maps_unhashableTypeError : Nat := 19
def Ty_interface : Nat := 20
def Ty_int32 : Nat := 21
def Ty_S_api_Section : Nat := 22
def Ty_S_uint8 : Nat := 23
def Ty_func_S_api_Section_bool : Nat := 24
def Ty_func_bool : Nat := 25
def Ty_api_Errno : Nat := 26
def Ty_S_uint8_api_Errno : Nat := 27
def Ty_func_S_api_Section_int_S_uint8_api_Errno : Nat := 28
def Ty_S_api_Section_api_Errno : Nat := 29
def Ty_func_S_uint8_S_api_Section_api_Errno : Nat := 30
def Ty_func_S_uint8_S_uint8_bool : Nat := 31
def Ty_func_S_api_Section_S_api_Section_bool : Nat := 32
def Ty_func_S_api_Section_int_api_Errno : Nat := 33
def Ty_func_S_api_Section_int : Nat := 34
def Ty_func_S_api_Section_int_S_uint8_bool : Nat := 35
def Ty_S_int : Nat := 36
def Ty_func_S_int_bool : Nat := 37
def Ty_func_P_radiolinkroll_Dice_S_api_Section : Nat := 38
def Ty_P_radiolinkroll_Dice : Nat := 39
def Ty_func_S_int_P_radiolinkroll_Dice : Nat := 40
def Ty_func_int_int_int : Nat := 41
def Ty_func_S_int_int_int_uint8_uint8_bool : Nat := 42
def Ty_func_S_int_S_int_uint8_bool : Nat := 43
def Ty_func_S_int_uint8_bool : Nat := 44
def Ty_func_S_int_S_int_bool : Nat := 45
def Ty_struct_Channel_int_Data_S_uint8 : Nat := 46
def Ty_api_Section : Nat := 47
def Ty_func_S_uint8_S_uint8_S_uint8 : Nat := 48
def Ty_func_int_int_S_uint8 : Nat := 49
def Ty_uint : Nat := 50
def Ty_func_S_uint8_S_uint8 : Nat := 51
def Ty_int_bool : Nat := 52
def Ty_func_int_int_bool : Nat := 53
def Ty_func_api_Section_api_Errno : Nat := 54
def Ty_func_int_int : Nat := 55
def Ty_func_int_S_uint8 : Nat := 56
def Ty_struct_l_S_int_at_int : Nat := 57
def Ty_radiolinkroll_Dice : Nat := 58
def Ty_S_S_uint8 : Nat := 59
def Ty_func_string : Nat := 60
def Ty_struct__interface_P_abi_Type_con_89 : Nat := 61
def Ty_runtime_TypeAssertionError : Nat := 62
def Ty_0_P_runtime_PanicNilError : Nat := 63
def Ty_struct___0_P_runtime_PanicNilError : Nat := 64
def Ty_runtime_PanicNilError : Nat := 65
def Ty_func_int : Nat := 66
def Ty_uint32 : Nat := 67
def Ty_abi_TFlag : Nat := 68
def Ty_abi_Kind : Nat := 69
def Ty_func_unsafe_Pointer_unsafe_Pointer_bool : Nat := 70
def Ty_P_uint8 : Nat := 71
def Ty_abi_NameOff : Nat := 72
def Ty_abi_TypeOff : Nat := 73
def Ty_struct_Size__uintptr_PtrBytes_ui_210 : Nat := 74
def Ty_abi_Type : Nat := 75
def Ty_unsafe_Pointer : Nat := 76
def TTl : List (List Kind) := [
  [],
  [.p .val],
  [.p (.int .i64)],
  [.p (.int .i64)],
  [.p .bool],
  [.p (.int .u8)],
  [.p (.int .u8)],
  [.agg [.int .i64, .int .i64, .bool, .int .u8]],
  [.agg [.int .i64, .int .i64, .bool, .int .u8]],
  [.p .str],
  [.p .str],
  [.p .str],
  [.p (.int .u64)],
  [.agg [.str, .int .u64]],
  [.agg [.str, .int .u64]],
  [.p .ptr],
  [.p .ptr],
  [.p .ptr],
  [.agg [.ptr]],
  [.agg [.ptr]],
  [.p .val],
  [.p (.int .i32)],
  [.p .slice],
  [.p .slice],
  [.p .val],
  [.p .val],
  [.p (.int .i64)],
  [.p .slice, .p (.int .i64)],
  [.p .val],
  [.p .slice, .p (.int .i64)],
  [.p .val],
  [.p .val],
  [.p .val],
  [.p .val],
  [.p .val],
  [.p .val],
  [.p .slice],
  [.p .val],
  [.p .val],
  [.p .ptr],
  [.p .val],
  [.p .val],
  [.p .val],
  [.p .val],
  [.p .val],
  [.p .val],
  [.agg [.int .i64, .slice]],
  [.agg [.int .i64, .slice]],
  [.p .val],
  [.p .val],
  [.p (.int .u64)],
  [.p .val],
  [.p (.int .i64), .p .bool],
  [.p .val],
  [.p .val],
  [.p .val],
  [.p .val],
  [.agg [.slice, .int .i64]],
  [.agg [.slice, .int .i64]],
  [.p .slice],
  [.p .val],
  [.agg [.ptr, .ptr, .ptr, .str]],
  [.agg [.ptr, .ptr, .ptr, .str]],
  [.agg []],
  [.agg []],
  [.agg []],
  [.p .val],
  [.p (.int .u32)],
  [.p (.int .u8)],
  [.p (.int .u8)],
  [.p .val],
  [.p .ptr],
  [.p (.int .i32)],
  [.p (.int .i32)],
  [.agg [.int .u64, .int .u64, .int .u32, .int .u8, .int .u8, .int .u8, .int .u8, .val, .ptr, .int .i32, .int .i32]],
  [.agg [.int .u64, .int .u64, .int .u32, .int .u8, .int .u8, .int .u8, .int .u8, .val, .ptr, .int .i32, .int .i32]],
  [.p .val]]
def TT (t : TypeId) : List Kind := TTl.getD t []
theorem follows_ok : Try.prog.follows .mixedOrders = true := by kernel_rfl
end Go.Proofs.Ytjmjdjpbgjjhmaa
