import Derived.Test.YtamkmafmhglfkaaRows
import Derived.Test.YtamkmafmhglfkaaKc
namespace Go.Proofs.Ytamkmafmhglfkaa
open Go.Sx
def N_main_main : Nat := 0
def N_gosem_cut : Nat := 1
def N_gosem_cut_init : Nat := 2
def N_law26_BufferLevels : Nat := 3
def N_law26_BufferOf : Nat := 4
def N_law26_BufferBack : Nat := 5
def N_law26_BufferRaw : Nat := 6
def N_buffer_Level : Nat := 7
def N_buffer_Bound : Nat := 8
def N_law26_awake : Nat := 9
def N_buffer_Of : Nat := 10
def N_ref25_SameInts : Nat := 11
def N_buffer_Encode : Nat := 12
def N_buffer_Decode : Nat := 13
def N_ref26_Of : Nat := 14
def N_ref26_Encode : Nat := 15
def N_ref26_Decode : Nat := 16
def N_law26_same : Nat := 17
def N_ref26_Level : Nat := 18
def N_ref26_Bound : Nat := 19
def N_buffer_bounds : Nat := 20
def N_slices_Min_Sint_int : Nat := 21
def N_slices_Max_Sint_int : Nat := 22
def N_ref24_SameBytes : Nat := 23
def N_runtime_boundsError_Error : Nat := 24
def N_runtime_boundsError_RuntimeError : Nat := 25
def N_runtime_errorString_Error : Nat := 26
def N_runtime_errorString_RuntimeError : Nat := 27
def N_runtime_plainError_Error : Nat := 28
def N_runtime_plainError_RuntimeError : Nat := 29
def N_runtime_errorAddressString_Error : Nat := 30
def N_runtime_errorAddressString_RuntimeError : Nat := 31
def N_runtime_TypeAssertionError_Error : Nat := 32
def N_runtime_TypeAssertionError_RuntimeError : Nat := 33
def N_runtime_PanicNilError_Error : Nat := 34
def N_runtime_PanicNilError_RuntimeError : Nat := 35
def N_internal_abi_Type_Align : Nat := 36
def N_internal_runtime_maps_unhashableTypeError_Error : Nat := 37
def N_internal_runtime_maps_unhashableTypeError_RuntimeError : Nat := 38
def N_internal_abi_Kind_String : Nat := 39
def Ty_unit : Nat := 0
def Ty_func : Nat := 1
def Ty_int64 : Nat := 2
def Ty_int : Nat := 3
def Ty_bool : Nat := 4
def Ty_uint8 : Nat := 5
def Ty_abi_BoundsErrorCode : Nat := 6
def Ty_struct_x_int64_y_int_signed_bool_57 : Nat := 7
def Ty_runtime_boundsError : Nat := 8
def Ty_string : Nat := 9
def Ty_runtime_errorString : Nat := 10
def Ty_runtime_plainError : Nat := 11
def Ty_uintptr : Nat := 12
def Ty_struct_msg_string_addr_uintptr : Nat := 13
def Ty_runtime_errorAddressString : Nat := 14
def Ty_P_runtime_TypeAssertionError : Nat := 15
def Ty_P_runtime_PanicNilError : Nat := 16
def Ty_P_abi_Type : Nat := 17
def Ty_struct_typ_P_abi_Type : Nat := 18
def Ty_maps_unhashableTypeError : Nat := 19
def Ty_interface : Nat := 20
def Ty_int32 : Nat := 21
def Ty_uint32 : Nat := 22
def Ty_func_int_int : Nat := 23
def Ty_func_bool : Nat := 24
def Ty_func_uint32_uint32_bool : Nat := 25
def Ty_S_uint16 : Nat := 26
def Ty_S_uint8 : Nat := 27
def Ty_S_int : Nat := 28
def Ty_4_int : Nat := 29
def Ty_uint16 : Nat := 30
def Ty_struct_Levels_4_int : Nat := 31
def Ty_api_Waiting : Nat := 32
def Ty_api_Errno : Nat := 33
def Ty_api_Waiting_api_Errno : Nat := 34
def Ty_func_S_int_S_int_api_Waiting_api_Errno : Nat := 35
def Ty_func_S_int_S_int_bool : Nat := 36
def Ty_func_S_uint16_S_uint8_bool : Nat := 37
def Ty_4_uint8 : Nat := 38
def Ty_struct_Channel_int_Data_S_uint8 : Nat := 39
def Ty_api_Section : Nat := 40
def Ty_api_Section_api_Errno : Nat := 41
def Ty_func_api_Waiting_int_api_Section_42 : Nat := 42
def Ty_func_api_Section_api_Waiting_api_Errno : Nat := 43
def Ty_func_4_uint8_bool : Nat := 44
def Ty_func_api_Section_api_Section_bool : Nat := 45
def Ty_func_int_S_int_S_int_api_Waiting_53 : Nat := 46
def Ty_16_int : Nat := 47
def Ty_func_16_int : Nat := 48
def Ty_func_S_int_int : Nat := 49
def Ty_uint : Nat := 50
def Ty_func_S_uint8_S_uint8_bool : Nat := 51
def Ty_func_string : Nat := 52
def Ty_struct__interface_P_abi_Type_con_89 : Nat := 53
def Ty_runtime_TypeAssertionError : Nat := 54
def Ty_0_P_runtime_PanicNilError : Nat := 55
def Ty_struct___0_P_runtime_PanicNilError : Nat := 56
def Ty_runtime_PanicNilError : Nat := 57
def Ty_func_int : Nat := 58
def Ty_abi_TFlag : Nat := 59
def Ty_abi_Kind : Nat := 60
def Ty_func_unsafe_Pointer_unsafe_Pointer_bool : Nat := 61
def Ty_P_uint8 : Nat := 62
def Ty_abi_NameOff : Nat := 63
def Ty_abi_TypeOff : Nat := 64
def Ty_struct_Size__uintptr_PtrBytes_ui_210 : Nat := 65
def Ty_abi_Type : Nat := 66
def Ty_unsafe_Pointer : Nat := 67
def TTl : List (List Kind) := [
  [],
  [.p .val],
  [.p (.int .i64)],
  [.p (.int .i64)],
  [.p .bool],
  [.p (.int .u8)],
  [.p (.int .u8)],
  [.agg [.int .i64, .int .i64, .bool, .int .u8]],
  [.agg [.int .i64, .int .i64, .bool, .int .u8]],
  [.p .str],
  [.p .str],
  [.p .str],
  [.p (.int .u64)],
  [.agg [.str, .int .u64]],
  [.agg [.str, .int .u64]],
  [.p .ptr],
  [.p .ptr],
  [.p .ptr],
  [.agg [.ptr]],
  [.agg [.ptr]],
  [.p .val],
  [.p (.int .i32)],
  [.p (.int .u32)],
  [.p .val],
  [.p .val],
  [.p .val],
  [.p .slice],
  [.p .slice],
  [.p .slice],
  [.agg [.int .i64, .int .i64, .int .i64, .int .i64]],
  [.p (.int .u16)],
  [.agg [.int .i64, .int .i64, .int .i64, .int .i64]],
  [.agg [.int .i64, .int .i64, .int .i64, .int .i64]],
  [.p (.int .i64)],
  [.agg [.int .i64, .int .i64, .int .i64, .int .i64], .p (.int .i64)],
  [.p .val],
  [.p .val],
  [.p .val],
  [.agg [.int .u8, .int .u8, .int .u8, .int .u8]],
  [.agg [.int .i64, .slice]],
  [.agg [.int .i64, .slice]],
  [.agg [.int .i64, .slice], .p (.int .i64)],
  [.p .val],
  [.p .val],
  [.p .val],
  [.p .val],
  [.p .val],
  [.raw 16],
  [.p .val],
  [.p .val],
  [.p (.int .u64)],
  [.p .val],
  [.p .val],
  [.agg [.ptr, .ptr, .ptr, .str]],
  [.agg [.ptr, .ptr, .ptr, .str]],
  [.agg []],
  [.agg []],
  [.agg []],
  [.p .val],
  [.p (.int .u8)],
  [.p (.int .u8)],
  [.p .val],
  [.p .ptr],
  [.p (.int .i32)],
  [.p (.int .i32)],
  [.agg [.int .u64, .int .u64, .int .u32, .int .u8, .int .u8, .int .u8, .int .u8, .val, .ptr, .int .i32, .int .i32]],
  [.agg [.int .u64, .int .u64, .int .u32, .int .u8, .int .u8, .int .u8, .int .u8, .val, .ptr, .int .i32, .int .i32]],
  [.p .val]]
def TTk (t : TypeId) : List Kind := TTl.getD t []
abbrev TT : Cx := ⟨TTk, none⟩
theorem follows_ok : Try.prog.follows .mixedOrders = true := by kernel_rfl
end Go.Proofs.Ytamkmafmhglfkaa
