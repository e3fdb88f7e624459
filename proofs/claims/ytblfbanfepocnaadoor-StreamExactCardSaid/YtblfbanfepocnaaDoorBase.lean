import Derived.Test.YtblfbanfepocnaaDoorRows
import Derived.Test.YtblfbanfepocnaaDoorSx
namespace Go.Proofs.YtblfbanfepocnaaDoor
open Go.Sx
def N_main_main : Nat := 0
def N_gosem_cut : Nat := 1
def N_gosem_cut_init : Nat := 2
def N_law13_StreamQuarter : Nat := 3
def N_law13_StreamExact : Nat := 4
def N_law13_StreamLimits : Nat := 5
def N_law13_StreamTwice : Nat := 6
def N_law13_StreamBlocks : Nat := 7
def N_stream_Quarter : Nat := 8
def N_made_Mod : Nat := 9
def N_law13_awake : Nat := 10
def N_made_Filled : Nat := 11
def N_stream_Block : Nat := 12
def N_ref13_Block : Nat := 13
def N_stream_Xor : Nat := 14
def N_ref13_Xor : Nat := 15
def N_ref01_Same : Nat := 16
def N_ref13_Quarter : Nat := 17
def N_stream_quarter : Nat := 18
def N_stream_sized : Nat := 19
def N_stream_block : Nat := 20
def N_ref13_word : Nat := 21
def N_ref13_quarter : Nat := 22
def N_math_bits_RotateLeft32 : Nat := 23
def N_stream_first : Nat := 24
def N_stream_load : Nat := 25
def N_stream_store : Nat := 26
def N_ref13_turn : Nat := 27
def N_runtime_boundsError_Error : Nat := 28
def N_runtime_boundsError_RuntimeError : Nat := 29
def N_runtime_errorString_Error : Nat := 30
def N_runtime_errorString_RuntimeError : Nat := 31
def N_runtime_plainError_Error : Nat := 32
def N_runtime_plainError_RuntimeError : Nat := 33
def N_runtime_errorAddressString_Error : Nat := 34
def N_runtime_errorAddressString_RuntimeError : Nat := 35
def N_runtime_TypeAssertionError_Error : Nat := 36
def N_runtime_TypeAssertionError_RuntimeError : Nat := 37
def N_runtime_PanicNilError_Error : Nat := 38
def N_runtime_PanicNilError_RuntimeError : Nat := 39
def N_internal_abi_Type_Align : Nat := 40
def N_internal_runtime_maps_unhashableTypeError_Error : Nat := 41
def N_internal_runtime_maps_unhashableTypeError_RuntimeError : Nat := 42
def N_internal_abi_Kind_String : Nat := 43
def N_var_s_door_gosem_cut_vars_holds_initialisers_alone_see_the_manifest_s_row_cutvarsword_look_11_test_files_too : Nat := 44
def N_var_s_door_stream_lanes_is_laid_by_its_own_initialiser_plain_data_look_11 : Nat := 45
def N_var_s_door_the_look_of_gosem_cut_vars_went_over_the_folder_that_the_caller_named_as_the_repository_s_root_look_11 : Nat := 46
def N_gosem_cut_vars : Nat := 47
def Ty_unit : Nat := 0
def Ty_func : Nat := 1
def Ty_int64 : Nat := 2
def Ty_int : Nat := 3
def Ty_bool : Nat := 4
def Ty_uint8 : Nat := 5
def Ty_abi_BoundsErrorCode : Nat := 6
def Ty_struct_x_int64_y_int_signed_bool_57 : Nat := 7
def Ty_runtime_boundsError : Nat := 8
def Ty_string : Nat := 9
def Ty_runtime_errorString : Nat := 10
def Ty_runtime_plainError : Nat := 11
def Ty_uintptr : Nat := 12
def Ty_struct_msg_string_addr_uintptr : Nat := 13
def Ty_runtime_errorAddressString : Nat := 14
def Ty_P_runtime_TypeAssertionError : Nat := 15
def Ty_P_runtime_PanicNilError : Nat := 16
def Ty_P_abi_Type : Nat := 17
def Ty_struct_typ_P_abi_Type : Nat := 18
def Ty_maps_unhashableTypeError : Nat := 19
def Ty_interface : Nat := 20
def Ty_int32 : Nat := 21
def Ty_4_int : Nat := 22
def Ty_func_4_int_4_int : Nat := 23
def Ty_func_int_int_int : Nat := 24
def Ty_func_bool : Nat := 25
def Ty_func_4_int_4_int_bool : Nat := 26
def Ty_S_uint8 : Nat := 27
def Ty_5_int : Nat := 28
def Ty_func_int_int_S_uint8 : Nat := 29
def Ty_2_S_uint8 : Nat := 30
def Ty_api_Errno : Nat := 31
def Ty_S_uint8_api_Errno : Nat := 32
def Ty_func_S_uint8_int_S_uint8_S_uint8_42 : Nat := 33
def Ty_func_S_uint8_S_uint8_S_uint8_S_u_46 : Nat := 34
def Ty_func_S_uint8_S_uint8_bool : Nat := 35
def Ty_func_S_uint8_S_uint8_5_int_bool : Nat := 36
def Ty_func_int_int_bool : Nat := 37
def Ty_3_int : Nat := 38
def Ty_func_S_uint8_3_int_bool : Nat := 39
def Ty_func_3_int_bool : Nat := 40
def Ty_uint32 : Nat := 41
def Ty_uint32_uint32_uint32_uint32 : Nat := 42
def Ty_func_uint32_uint32_uint32_uint32_60 : Nat := 43
def Ty_func_S_uint8_S_uint8_api_Errno : Nat := 44
def Ty_func_S_uint8_int_S_uint8_S_uint8 : Nat := 45
def Ty_16_uint32 : Nat := 46
def Ty_func_S_uint8_uint32 : Nat := 47
def Ty_8_4_int : Nat := 48
def Ty_uint : Nat := 49
def Ty_func_uint32_int_uint32 : Nat := 50
def Ty_4_uint32 : Nat := 51
def Ty_func_4_uint32 : Nat := 52
def Ty_S_uint32 : Nat := 53
def Ty_func_S_uint8_uint32_S_uint8 : Nat := 54
def Ty_func_uint32_uint_uint32 : Nat := 55
def Ty_func_string : Nat := 56
def Ty_struct__interface_P_abi_Type_con_89 : Nat := 57
def Ty_runtime_TypeAssertionError : Nat := 58
def Ty_0_P_runtime_PanicNilError : Nat := 59
def Ty_struct___0_P_runtime_PanicNilError : Nat := 60
def Ty_runtime_PanicNilError : Nat := 61
def Ty_func_int : Nat := 62
def Ty_abi_TFlag : Nat := 63
def Ty_abi_Kind : Nat := 64
def Ty_func_unsafe_Pointer_unsafe_Pointer_bool : Nat := 65
def Ty_P_uint8 : Nat := 66
def Ty_abi_NameOff : Nat := 67
def Ty_abi_TypeOff : Nat := 68
def Ty_struct_Size__uintptr_PtrBytes_ui_210 : Nat := 69
def Ty_abi_Type : Nat := 70
def Ty_unsafe_Pointer : Nat := 71
def TTl : List (List Kind) := [
  [],
  [.p .val],
  [.p (.int .i64)],
  [.p (.int .i64)],
  [.p .bool],
  [.p (.int .u8)],
  [.p (.int .u8)],
  [.agg [.int .i64, .int .i64, .bool, .int .u8]],
  [.agg [.int .i64, .int .i64, .bool, .int .u8]],
  [.p .str],
  [.p .str],
  [.p .str],
  [.p (.int .u64)],
  [.agg [.str, .int .u64]],
  [.agg [.str, .int .u64]],
  [.p .ptr],
  [.p .ptr],
  [.p .ptr],
  [.agg [.ptr]],
  [.agg [.ptr]],
  [.p .val],
  [.p (.int .i32)],
  [.agg [.int .i64, .int .i64, .int .i64, .int .i64]],
  [.p .val],
  [.p .val],
  [.p .val],
  [.p .val],
  [.p .slice],
  [.agg [.int .i64, .int .i64, .int .i64, .int .i64, .int .i64]],
  [.p .val],
  [.agg [.slice, .slice]],
  [.p (.int .i64)],
  [.p .slice, .p (.int .i64)],
  [.p .val],
  [.p .val],
  [.p .val],
  [.p .val],
  [.p .val],
  [.agg [.int .i64, .int .i64, .int .i64]],
  [.p .val],
  [.p .val],
  [.p (.int .u32)],
  [.p (.int .u32), .p (.int .u32), .p (.int .u32), .p (.int .u32)],
  [.p .val],
  [.p .val],
  [.p .val],
  [.raw 16],
  [.p .val],
  [.agg [.int .i64, .int .i64, .int .i64, .int .i64, .int .i64, .int .i64, .int .i64, .int .i64, .int .i64, .int .i64, .int .i64, .int .i64, .int .i64, .int .i64, .int .i64, .int .i64, .int .i64, .int .i64, .int .i64, .int .i64, .int .i64, .int .i64, .int .i64, .int .i64, .int .i64, .int .i64, .int .i64, .int .i64, .int .i64, .int .i64, .int .i64, .int .i64]],
  [.p (.int .u64)],
  [.p .val],
  [.agg [.int .u32, .int .u32, .int .u32, .int .u32]],
  [.p .val],
  [.p .slice],
  [.p .val],
  [.p .val],
  [.p .val],
  [.agg [.ptr, .ptr, .ptr, .str]],
  [.agg [.ptr, .ptr, .ptr, .str]],
  [.agg []],
  [.agg []],
  [.agg []],
  [.p .val],
  [.p (.int .u8)],
  [.p (.int .u8)],
  [.p .val],
  [.p .ptr],
  [.p (.int .i32)],
  [.p (.int .i32)],
  [.agg [.int .u64, .int .u64, .int .u32, .int .u8, .int .u8, .int .u8, .int .u8, .val, .ptr, .int .i32, .int .i32]],
  [.agg [.int .u64, .int .u64, .int .u32, .int .u8, .int .u8, .int .u8, .int .u8, .val, .ptr, .int .i32, .int .i32]],
  [.p .val]]
def TT (t : TypeId) : List Kind := TTl.getD t []
theorem follows_ok : Tryd.prog.follows .mixedOrders = true := by kernel_rfl
end Go.Proofs.YtblfbanfepocnaaDoor
