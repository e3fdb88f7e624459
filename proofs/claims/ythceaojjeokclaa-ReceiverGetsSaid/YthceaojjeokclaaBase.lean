import Derived.Test.YthceaojjeokclaaRows
import Derived.Test.YthceaojjeokclaaKc
namespace Go.Proofs.Ythceaojjeokclaa
open Go.Sx
def N_main_main : Nat := 0
def N_gosem_cut : Nat := 1
def N_gosem_cut_init : Nat := 2
def N_law21_ReceiverGets : Nat := 3
def N_law21_ReceiverWaits : Nat := 4
def N_made_Light : Nat := 5
def N_law21_awake : Nat := 6
def N_made_Roll : Nat := 7
def N_made_Dice_Link : Nat := 8
def N_receiver_New : Nat := 9
def N_made_Dice_Next : Nat := 10
def N_made_Filled : Nat := 11
def N_made_Dice_One : Nat := 12
def N_ref02_Low : Nat := 13
def N_ref18_Encode : Nat := 14
def N_receiver_Receive : Nat := 15
def N_receiver_Valid : Nat := 16
def N_ref01_Same : Nat := 17
def N_receiver_Status : Nat := 18
def N_ref19_Valid : Nat := 19
def N_ref02_Distance : Nat := 20
def N_made_Mod : Nat := 21
def N_receiver_Tick : Nat := 22
def N_ref20_Place : Nat := 23
def N_made_Dice_Bits : Nat := 24
def N_sender_ValidLink : Nat := 25
def N_ref02_valid : Nat := 26
def N_ref18_Valid : Nat := 27
def N_ref01_Put : Nat := 28
def N_ref18_Head : Nat := 29
def N_receiver_begin : Nat := 30
def N_segment_Decode : Nat := 31
def N_segment_Ends : Nat := 32
def N_slices_BinarySearchFunc_Sapi_Partial_api_Partial_int : Nat := 33
def N_receiver_side_place : Nat := 34
def N_receiver_Receive_1 : Nat := 35
def N_receiver_side_refused : Nat := 36
def N_receiver_side_poll : Nat := 37
def N_slices_Insert_Sapi_Partial_api_Partial : Nat := 38
def N_receiver_side_behind : Nat := 39
def N_receiver_piece_put : Nat := 40
def N_receiver_complete : Nat := 41
def N_receiver_side_advance : Nat := 42
def N_receiver_side_start : Nat := 43
def N_receiver_side_number : Nat := 44
def N_receiver_side_partials : Nat := 45
def N_receiver_side_missing : Nat := 46
def N_ref15_Bits : Nat := 47
def N_sender_between : Nat := 48
def N_counter_Bits : Nat := 49
def N_slices_Clone_Sapi_Partial_api_Partial : Nat := 50
def N_slices_Clone_Sbyte_byte : Nat := 51
def N_slices_Clone_Sapi_Range_api_Range : Nat := 52
def N_segment_head : Nat := 53
def N_segment_Valid : Nat := 54
def N_serial_Distance : Nat := 55
def N_receiver_piece_contradicts : Nat := 56
def N_receiver_piece_known : Nat := 57
def N_slices_overlaps_api_Partial : Nat := 58
def N_slices_rotateRight_api_Partial : Nat := 59
def N_serial_Low : Nat := 60
def N_segment_Union : Nat := 61
def N_receiver_partial : Nat := 62
def N_slices_IndexFunc_Sapi_Partial_api_Partial : Nat := 63
def N_receiver_side_missing_1 : Nat := 64
def N_segment_Gaps : Nat := 65
def N_segment_begins : Nat := 66
def N_receiver_end : Nat := 67
def N_receiver_piece_known_1 : Nat := 68
def N_slices_ContainsFunc_Sapi_Range_api_Range : Nat := 69
def N_slices_rotateLeft_api_Partial : Nat := 70
def N_serial_valid : Nat := 71
def N_segment_Normal : Nat := 72
def N_slices_Concat_Sapi_Range_api_Range : Nat := 73
def N_receiver_partial_1 : Nat := 74
def N_slices_ContainsFunc_Sbyte_byte : Nat := 75
def N_receiver_partial_2 : Nat := 76
def N_slices_IndexFunc_Sapi_Range_api_Range : Nat := 77
def N_slices_Reverse_Sapi_Partial_api_Partial : Nat := 78
def N_slices_Grow_Sapi_Range_api_Range : Nat := 79
def N_slices_IndexFunc_Sbyte_byte : Nat := 80
def N_runtime_boundsError_Error : Nat := 81
def N_runtime_boundsError_RuntimeError : Nat := 82
def N_runtime_errorString_Error : Nat := 83
def N_runtime_errorString_RuntimeError : Nat := 84
def N_runtime_plainError_Error : Nat := 85
def N_runtime_plainError_RuntimeError : Nat := 86
def N_runtime_errorAddressString_Error : Nat := 87
def N_runtime_errorAddressString_RuntimeError : Nat := 88
def N_runtime_TypeAssertionError_Error : Nat := 89
def N_runtime_TypeAssertionError_RuntimeError : Nat := 90
def N_runtime_PanicNilError_Error : Nat := 91
def N_runtime_PanicNilError_RuntimeError : Nat := 92
def N_internal_abi_Type_Align : Nat := 93
def N_internal_runtime_maps_unhashableTypeError_Error : Nat := 94
def N_internal_runtime_maps_unhashableTypeError_RuntimeError : Nat := 95
def N_internal_abi_Kind_String : Nat := 96
def Ty_unit : Nat := 0
def Ty_func : Nat := 1
def Ty_int64 : Nat := 2
def Ty_int : Nat := 3
def Ty_bool : Nat := 4
def Ty_uint8 : Nat := 5
def Ty_abi_BoundsErrorCode : Nat := 6
def Ty_struct_x_int64_y_int_signed_bool_57 : Nat := 7
def Ty_runtime_boundsError : Nat := 8
def Ty_string : Nat := 9
def Ty_runtime_errorString : Nat := 10
def Ty_runtime_plainError : Nat := 11
def Ty_uintptr : Nat := 12
def Ty_struct_msg_string_addr_uintptr : Nat := 13
def Ty_runtime_errorAddressString : Nat := 14
def Ty_P_runtime_TypeAssertionError : Nat := 15
def Ty_P_runtime_PanicNilError : Nat := 16
def Ty_P_abi_Type : Nat := 17
def Ty_struct_typ_P_abi_Type : Nat := 18
def Ty_maps_unhashableTypeError : Nat := 19
def Ty_interface : Nat := 20
def Ty_int32 : Nat := 21
def Ty_S_int : Nat := 22
def Ty_func_S_int_bool : Nat := 23
def Ty_func_bool : Nat := 24
def Ty_P_radiolinkmade_Dice : Nat := 25
def Ty_func_S_int_P_radiolinkmade_Dice : Nat := 26
def Ty_struct_Bits_int_Every_int_Poll_i_63 : Nat := 27
def Ty_api_Link : Nat := 28
def Ty_func_api_Link : Nat := 29
def Ty_S_api_Partial : Nat := 30
def Ty_struct_Link_api_Link_First_int_N_108 : Nat := 31
def Ty_api_Receiver : Nat := 32
def Ty_api_Errno : Nat := 33
def Ty_api_Receiver_api_Errno : Nat := 34
def Ty_func_api_Link_api_Receiver_api_Errno : Nat := 35
def Ty_uint : Nat := 36
def Ty_S_bool : Nat := 37
def Ty_func_int_int : Nat := 38
def Ty_S_uint8 : Nat := 39
def Ty_func_int_int_S_uint8 : Nat := 40
def Ty_func_int_bool : Nat := 41
def Ty_func_int_int_int : Nat := 42
def Ty_struct_Sn_int_Part_int_Poll_int__55 : Nat := 43
def Ty_api_Piece : Nat := 44
def Ty_S_uint8_api_Errno : Nat := 45
def Ty_func_int_api_Piece_S_uint8_api_Errno : Nat := 46
def Ty_api_Receiver_S_uint8_api_Errno : Nat := 47
def Ty_func_api_Receiver_S_uint8_api_Re_56 : Nat := 48
def Ty_func_api_Receiver_bool : Nat := 49
def Ty_func_S_uint8_S_uint8_bool : Nat := 50
def Ty_S_api_Range : Nat := 51
def Ty_struct_Upto_int_Missing_S_api_Range : Nat := 52
def Ty_api_Status : Nat := 53
def Ty_api_Status_api_Errno : Nat := 54
def Ty_func_api_Receiver_api_Status_api_Errno : Nat := 55
def Ty_func_int_api_Status_bool : Nat := 56
def Ty_func_int_int_int_int : Nat := 57
def Ty_struct_Sn_int_From_int_To_int : Nat := 58
def Ty_api_Range : Nat := 59
def Ty_func_api_Receiver_api_Receiver_api_Errno : Nat := 60
def Ty_func_S_int_int_bool : Nat := 61
def Ty_struct_L_S_int_At_int : Nat := 62
def Ty_radiolinkmade_Dice : Nat := 63
def Ty_func_int : Nat := 64
def Ty_func_api_Link_bool : Nat := 65
def Ty_func_int_api_Piece_bool : Nat := 66
def Ty_func_S_uint8_int_int_S_uint8 : Nat := 67
def Ty_P_receiver_side : Nat := 68
def Ty_func_api_Receiver_P_receiver_side : Nat := 69
def Ty_api_Piece_api_Errno : Nat := 70
def Ty_func_int_S_uint8_api_Piece_api_Errno : Nat := 71
def Ty_struct_api_Receiver : Nat := 72
def Ty_receiver_side : Nat := 73
def Ty_struct_api_Piece_end_int_last_bool : Nat := 74
def Ty_receiver_piece : Nat := 75
def Ty_int_bool : Nat := 76
def Ty_func_S_api_Partial_int_func_api__56 : Nat := 77
def Ty_struct_Sn_int_Done_bool_Length_i_64 : Nat := 78
def Ty_api_Partial : Nat := 79
def Ty_func_api_Partial_int_int : Nat := 80
def Ty_func_receiver_piece_int_bool_api_Errno : Nat := 81
def Ty_func_api_Piece : Nat := 82
def Ty_func_S_api_Partial_int_api_Parti_48 : Nat := 83
def Ty_P_api_Partial : Nat := 84
def Ty_func_P_api_Partial : Nat := 85
def Ty_func_api_Partial_bool : Nat := 86
def Ty_func_int_S_api_Range : Nat := 87
def Ty_func_int_int_int_bool : Nat := 88
def Ty_func_S_api_Partial_S_api_Partial : Nat := 89
def Ty_func_S_uint8_S_uint8 : Nat := 90
def Ty_func_S_api_Range_S_api_Range : Nat := 91
def Ty_func_S_api_Partial_S_api_Partial_bool : Nat := 92
def Ty_func_S_api_Partial_int : Nat := 93
def Ty_S_api_Range_api_Errno : Nat := 94
def Ty_func_S_api_Range_api_Range_S_api_48 : Nat := 95
def Ty_func_S_api_Partial_func_api_Part_44 : Nat := 96
def Ty_func_S_api_Range_int_int_S_api_R_46 : Nat := 97
def Ty_func_S_api_Range_int : Nat := 98
def Ty_func_api_Range_bool : Nat := 99
def Ty_func_S_api_Range_func_api_Range__41 : Nat := 100
def Ty_func_S_api_Range_bool : Nat := 101
def Ty_func_S_api_Range_S_api_Range_2 : Nat := 102
def Ty_func_S_uint8_func_uint8_bool_bool : Nat := 103
def Ty_func_uint8_bool : Nat := 104
def Ty_func_S_api_Range_func_api_Range_bool_int : Nat := 105
def Ty_func_S_api_Partial : Nat := 106
def Ty_S_S_api_Range : Nat := 107
def Ty_func_S_api_Range_int_S_api_Range : Nat := 108
def Ty_func_S_uint8_func_uint8_bool_int : Nat := 109
def Ty_func_string : Nat := 110
def Ty_struct__interface_P_abi_Type_con_89 : Nat := 111
def Ty_runtime_TypeAssertionError : Nat := 112
def Ty_0_P_runtime_PanicNilError : Nat := 113
def Ty_struct___0_P_runtime_PanicNilError : Nat := 114
def Ty_runtime_PanicNilError : Nat := 115
def Ty_uint32 : Nat := 116
def Ty_abi_TFlag : Nat := 117
def Ty_abi_Kind : Nat := 118
def Ty_func_unsafe_Pointer_unsafe_Pointer_bool : Nat := 119
def Ty_P_uint8 : Nat := 120
def Ty_abi_NameOff : Nat := 121
def Ty_abi_TypeOff : Nat := 122
def Ty_struct_Size__uintptr_PtrBytes_ui_210 : Nat := 123
def Ty_abi_Type : Nat := 124
def Ty_unsafe_Pointer : Nat := 125
def TTl : List (List Kind) := [
  [],
  [.p .val],
  [.p (.int .i64)],
  [.p (.int .i64)],
  [.p .bool],
  [.p (.int .u8)],
  [.p (.int .u8)],
  [.agg [.int .i64, .int .i64, .bool, .int .u8]],
  [.agg [.int .i64, .int .i64, .bool, .int .u8]],
  [.p .str],
  [.p .str],
  [.p .str],
  [.p (.int .u64)],
  [.agg [.str, .int .u64]],
  [.agg [.str, .int .u64]],
  [.p .ptr],
  [.p .ptr],
  [.p .ptr],
  [.agg [.ptr]],
  [.agg [.ptr]],
  [.p .val],
  [.p (.int .i32)],
  [.p .slice],
  [.p .val],
  [.p .val],
  [.p .ptr],
  [.p .val],
  [.agg [.int .i64, .int .i64, .int .i64, .int .i64, .int .i64, .int .i64]],
  [.agg [.int .i64, .int .i64, .int .i64, .int .i64, .int .i64, .int .i64]],
  [.p .val],
  [.p .slice],
  [.agg [.int .i64, .int .i64, .int .i64, .int .i64, .int .i64, .int .i64, .int .i64, .int .i64, .int .i64, .int .i64, .int .i64, .int .i64, .bool, .slice]],
  [.agg [.int .i64, .int .i64, .int .i64, .int .i64, .int .i64, .int .i64, .int .i64, .int .i64, .int .i64, .int .i64, .int .i64, .int .i64, .bool, .slice]],
  [.p (.int .i64)],
  [.agg [.int .i64, .int .i64, .int .i64, .int .i64, .int .i64, .int .i64, .int .i64, .int .i64, .int .i64, .int .i64, .int .i64, .int .i64, .bool, .slice], .p (.int .i64)],
  [.p .val],
  [.p (.int .u64)],
  [.p .slice],
  [.p .val],
  [.p .slice],
  [.p .val],
  [.p .val],
  [.p .val],
  [.agg [.int .i64, .int .i64, .int .i64, .int .i64, .slice]],
  [.agg [.int .i64, .int .i64, .int .i64, .int .i64, .slice]],
  [.p .slice, .p (.int .i64)],
  [.p .val],
  [.agg [.int .i64, .int .i64, .int .i64, .int .i64, .int .i64, .int .i64, .int .i64, .int .i64, .int .i64, .int .i64, .int .i64, .int .i64, .bool, .slice], .p .slice, .p (.int .i64)],
  [.p .val],
  [.p .val],
  [.p .val],
  [.p .slice],
  [.agg [.int .i64, .slice]],
  [.agg [.int .i64, .slice]],
  [.agg [.int .i64, .slice], .p (.int .i64)],
  [.p .val],
  [.p .val],
  [.p .val],
  [.agg [.int .i64, .int .i64, .int .i64]],
  [.agg [.int .i64, .int .i64, .int .i64]],
  [.p .val],
  [.p .val],
  [.agg [.slice, .int .i64]],
  [.agg [.slice, .int .i64]],
  [.p .val],
  [.p .val],
  [.p .val],
  [.p .val],
  [.p .ptr],
  [.p .val],
  [.agg [.int .i64, .int .i64, .int .i64, .int .i64, .slice], .p (.int .i64)],
  [.p .val],
  [.agg [.int .i64, .int .i64, .int .i64, .int .i64, .int .i64, .int .i64, .int .i64, .int .i64, .int .i64, .int .i64, .int .i64, .int .i64, .bool, .slice]],
  [.agg [.int .i64, .int .i64, .int .i64, .int .i64, .int .i64, .int .i64, .int .i64, .int .i64, .int .i64, .int .i64, .int .i64, .int .i64, .bool, .slice]],
  [.agg [.int .i64, .int .i64, .int .i64, .int .i64, .slice, .int .i64, .bool]],
  [.agg [.int .i64, .int .i64, .int .i64, .int .i64, .slice, .int .i64, .bool]],
  [.p (.int .i64), .p .bool],
  [.p .val],
  [.agg [.int .i64, .bool, .int .i64, .slice, .slice]],
  [.agg [.int .i64, .bool, .int .i64, .slice, .slice]],
  [.p .val],
  [.p .val],
  [.p .val],
  [.p .val],
  [.p .ptr],
  [.p .val],
  [.p .val],
  [.p .val],
  [.p .val],
  [.p .val],
  [.p .val],
  [.p .val],
  [.p .val],
  [.p .val],
  [.p .slice, .p (.int .i64)],
  [.p .val],
  [.p .val],
  [.p .val],
  [.p .val],
  [.p .val],
  [.p .val],
  [.p .val],
  [.p .val],
  [.p .val],
  [.p .val],
  [.p .val],
  [.p .val],
  [.p .slice],
  [.p .val],
  [.p .val],
  [.p .val],
  [.agg [.ptr, .ptr, .ptr, .str]],
  [.agg [.ptr, .ptr, .ptr, .str]],
  [.agg []],
  [.agg []],
  [.agg []],
  [.p (.int .u32)],
  [.p (.int .u8)],
  [.p (.int .u8)],
  [.p .val],
  [.p .ptr],
  [.p (.int .i32)],
  [.p (.int .i32)],
  [.agg [.int .u64, .int .u64, .int .u32, .int .u8, .int .u8, .int .u8, .int .u8, .val, .ptr, .int .i32, .int .i32]],
  [.agg [.int .u64, .int .u64, .int .u32, .int .u8, .int .u8, .int .u8, .int .u8, .val, .ptr, .int .i32, .int .i32]],
  [.p .val]]
def TTk (t : TypeId) : List Kind := TTl.getD t []
abbrev TT : Cx := ⟨TTk, none⟩
theorem follows_ok : Try.prog.follows .mixedOrders = true := by kernel_rfl
end Go.Proofs.Ythceaojjeokclaa
