import Derived.Test.YtmhggobilcmdmaaRows
import Derived.Test.YtmhggobilcmdmaaKc
namespace Go.Proofs.Ytmhggobilcmdmaa
open Go.Sx
def N_main_main : Nat := 0
def N_gosem_cut : Nat := 1
def N_gosem_cut_init : Nat := 2
def N_law20_SenderOnce : Nat := 3
def N_law20_SenderRepeats : Nat := 4
def N_law20_SenderAcks : Nat := 5
def N_law20_SenderExact : Nat := 6
def N_law20_SenderMade : Nat := 7
def N_law20_SenderStays : Nat := 8
def N_made_Light : Nat := 9
def N_law20_awake : Nat := 10
def N_made_Roll : Nat := 11
def N_sender_New : Nat := 12
def N_made_Dice_Link : Nat := 13
def N_made_Dice_Next : Nat := 14
def N_made_Dice_Some : Nat := 15
def N_sender_Submit : Nat := 16
def N_sender_Build : Nat := 17
def N_ref01_Same : Nat := 18
def N_ref18_Decode : Nat := 19
def N_law20_random : Nat := 20
def N_law20_report : Nat := 21
def N_sender_Report : Nat := 22
def N_ref20_Report : Nat := 23
def N_law20_next : Nat := 24
def N_ref20_Left : Nat := 25
def N_ref19_Valid : Nat := 26
def N_ref20_Place : Nat := 27
def N_ref20_New : Nat := 28
def N_sender_ValidLink : Nat := 29
def N_ref20_ValidLink : Nat := 30
def N_ref20_Same : Nat := 31
def N_law20_agree : Nat := 32
def N_made_Dice_One : Nat := 33
def N_made_Dice_Status : Nat := 34
def N_made_Dice_OddLink : Nat := 35
def N_made_Dice_Bytes : Nat := 36
def N_made_Filled : Nat := 37
def N_law20_whole : Nat := 38
def N_sender_Tick : Nat := 39
def N_sender_Valid : Nat := 40
def N_law20_link : Nat := 41
def N_made_Dice_Bits : Nat := 42
def N_made_Mod : Nat := 43
def N_sender_begin : Nat := 44
def N_sender_between : Nat := 45
def N_sender_side_place : Nat := 46
def N_slices_Clone_Sbyte_byte : Nat := 47
def N_serial_Low : Nat := 48
def N_sender_side_left : Nat := 49
def N_sender_part : Nat := 50
def N_segment_Part : Nat := 51
def N_segment_Cut : Nat := 52
def N_sender_take : Nat := 53
def N_sender_side_ask : Nat := 54
def N_segment_Encode : Nat := 55
def N_ref15_Bits : Nat := 56
def N_ref01_Get : Nat := 57
def N_ref18_Head : Nat := 58
def N_ref18_Valid : Nat := 59
def N_ref20_Submit : Nat := 60
def N_ref20_Build : Nat := 61
def N_ref20_Tick : Nat := 62
def N_ref02_Low : Nat := 63
def N_made_Dice_Ranges : Nat := 64
def N_status_Valid : Nat := 65
def N_sender_missing : Nat := 66
def N_sender_side_again : Nat := 67
def N_sender_whole : Nat := 68
def N_ref20_Valid : Nat := 69
def N_ref20_Copy : Nat := 70
def N_ref20_missing : Nat := 71
def N_ref20_again : Nat := 72
def N_ref20_todo : Nat := 73
def N_ref02_Distance : Nat := 74
def N_counter_Bits : Nat := 75
def N_ref18_SameRanges : Nat := 76
def N_sender_side_number : Nat := 77
def N_sender_side_units : Nat := 78
def N_sender_side_asked : Nat := 79
def N_slices_Clone_Sapi_Unit_api_Unit : Nat := 80
def N_slices_Clone_Sapi_Range_api_Range : Nat := 81
def N_serial_Distance : Nat := 82
def N_serial_valid : Nat := 83
def N_slices_IndexFunc_Sapi_Unit_api_Unit : Nat := 84
def N_sender_side_left_1 : Nat := 85
def N_sender_side_left_2 : Nat := 86
def N_segment_head : Nat := 87
def N_segment_Valid : Nat := 88
def N_segment_begins : Nat := 89
def N_segment_Ends : Nat := 90
def N_ref18_Cut : Nat := 91
def N_ref18_Encode : Nat := 92
def N_ref02_valid : Nat := 93
def N_status_Whole : Nat := 94
def N_status_part : Nat := 95
def N_ref20_unit : Nat := 96
def N_sender_side_unit : Nat := 97
def N_slices_ContainsFunc_Sapi_Unit_api_Unit : Nat := 98
def N_sender_side_asked_1 : Nat := 99
def N_ref01_Put : Nat := 100
def N_ref18_Normal : Nat := 101
def N_segment_Normal : Nat := 102
def N_slices_ContainsFunc_Sapi_Range_api_Range : Nat := 103
def N_sender_side_unit_1 : Nat := 104
def N_slices_IndexFunc_Sapi_Range_api_Range : Nat := 105
def N_runtime_boundsError_Error : Nat := 106
def N_runtime_boundsError_RuntimeError : Nat := 107
def N_runtime_errorString_Error : Nat := 108
def N_runtime_errorString_RuntimeError : Nat := 109
def N_runtime_plainError_Error : Nat := 110
def N_runtime_plainError_RuntimeError : Nat := 111
def N_runtime_errorAddressString_Error : Nat := 112
def N_runtime_errorAddressString_RuntimeError : Nat := 113
def N_runtime_TypeAssertionError_Error : Nat := 114
def N_runtime_TypeAssertionError_RuntimeError : Nat := 115
def N_runtime_PanicNilError_Error : Nat := 116
def N_runtime_PanicNilError_RuntimeError : Nat := 117
def N_internal_abi_Type_Align : Nat := 118
def N_internal_runtime_maps_unhashableTypeError_Error : Nat := 119
def N_internal_runtime_maps_unhashableTypeError_RuntimeError : Nat := 120
def N_internal_abi_Kind_String : Nat := 121
def Ty_unit : Nat := 0
def Ty_func : Nat := 1
def Ty_int64 : Nat := 2
def Ty_int : Nat := 3
def Ty_bool : Nat := 4
def Ty_uint8 : Nat := 5
def Ty_abi_BoundsErrorCode : Nat := 6
def Ty_struct_x_int64_y_int_signed_bool_57 : Nat := 7
def Ty_runtime_boundsError : Nat := 8
def Ty_string : Nat := 9
def Ty_runtime_errorString : Nat := 10
def Ty_runtime_plainError : Nat := 11
def Ty_uintptr : Nat := 12
def Ty_struct_msg_string_addr_uintptr : Nat := 13
def Ty_runtime_errorAddressString : Nat := 14
def Ty_P_runtime_TypeAssertionError : Nat := 15
def Ty_P_runtime_PanicNilError : Nat := 16
def Ty_P_abi_Type : Nat := 17
def Ty_struct_typ_P_abi_Type : Nat := 18
def Ty_maps_unhashableTypeError : Nat := 19
def Ty_interface : Nat := 20
def Ty_int32 : Nat := 21
def Ty_S_int : Nat := 22
def Ty_func_S_int_bool : Nat := 23
def Ty_func_bool : Nat := 24
def Ty_P_radiolinkmade_Dice : Nat := 25
def Ty_func_S_int_P_radiolinkmade_Dice : Nat := 26
def Ty_struct_Bits_int_Every_int_Poll_i_63 : Nat := 27
def Ty_api_Link : Nat := 28
def Ty_S_api_Unit : Nat := 29
def Ty_struct_Link_api_Link_First_int_N_97 : Nat := 30
def Ty_api_Sender : Nat := 31
def Ty_api_Errno : Nat := 32
def Ty_api_Sender_api_Errno : Nat := 33
def Ty_func_api_Link_api_Sender_api_Errno : Nat := 34
def Ty_func_api_Link : Nat := 35
def Ty_S_uint8 : Nat := 36
def Ty_func_int_int : Nat := 37
def Ty_func_int_S_uint8 : Nat := 38
def Ty_func_api_Sender_S_uint8_api_Send_44 : Nat := 39
def Ty_api_Sender_S_uint8_api_Errno : Nat := 40
def Ty_func_api_Sender_int_api_Sender_S_48 : Nat := 41
def Ty_func_S_uint8_S_uint8_bool : Nat := 42
def Ty_struct_Sn_int_Part_int_Poll_int__55 : Nat := 43
def Ty_api_Piece : Nat := 44
def Ty_api_Piece_api_Errno : Nat := 45
def Ty_func_int_S_uint8_api_Piece_api_Errno : Nat := 46
def Ty_func_P_radiolinkmade_Dice_api_Sender : Nat := 47
def Ty_S_api_Range : Nat := 48
def Ty_struct_Upto_int_Missing_S_api_Range : Nat := 49
def Ty_api_Status : Nat := 50
def Ty_func_P_radiolinkmade_Dice_api_Se_47 : Nat := 51
def Ty_func_api_Sender_api_Status_api_S_47 : Nat := 52
def Ty_int_int_int_bool : Nat := 53
def Ty_func_api_Sender_int_int_int_bool : Nat := 54
def Ty_func_api_Sender_bool : Nat := 55
def Ty_func_int_api_Status_bool : Nat := 56
def Ty_func_int_int_int_int : Nat := 57
def Ty_struct_Sn_int_Data_S_uint8_Sent__63 : Nat := 58
def Ty_api_Unit : Nat := 59
def Ty_struct_Sn_int_From_int_To_int : Nat := 60
def Ty_api_Range : Nat := 61
def Ty_func_api_Link_bool : Nat := 62
def Ty_func_api_Sender_api_Sender_bool : Nat := 63
def Ty_func_api_Sender_S_uint8_int_api__43 : Nat := 64
def Ty_func_api_Sender_S_uint8_api_Status_bool : Nat := 65
def Ty_func_int_bool : Nat := 66
def Ty_func_int_api_Status : Nat := 67
def Ty_func_api_Link_api_Link : Nat := 68
def Ty_P_api_Unit : Nat := 69
def Ty_func_int_int_S_uint8 : Nat := 70
def Ty_func_api_Sender_api_Sender_api_Errno : Nat := 71
def Ty_struct_L_S_int_At_int : Nat := 72
def Ty_radiolinkmade_Dice : Nat := 73
def Ty_func_int : Nat := 74
def Ty_func_int_int_int : Nat := 75
def Ty_P_sender_side : Nat := 76
def Ty_P_sender_side_api_Errno : Nat := 77
def Ty_func_api_Sender_P_sender_side_api_Errno : Nat := 78
def Ty_func_int_int_int_bool : Nat := 79
def Ty_struct_api_Sender : Nat := 80
def Ty_sender_side : Nat := 81
def Ty_func_S_uint8_S_uint8 : Nat := 82
def Ty_func_api_Unit_api_Range : Nat := 83
def Ty_func_bool_bool_int : Nat := 84
def Ty_api_Piece_api_Piece_api_Errno : Nat := 85
def Ty_func_int_api_Piece_int_api_Piece_52 : Nat := 86
def Ty_func_P_api_Unit_int : Nat := 87
def Ty_func_P_api_Piece : Nat := 88
def Ty_P_api_Piece : Nat := 89
def Ty_S_uint8_api_Errno : Nat := 90
def Ty_func_int_api_Piece_S_uint8_api_Errno : Nat := 91
def Ty_func_S_uint8_int_int_int : Nat := 92
def Ty_uint : Nat := 93
def Ty_func_int_api_Piece_bool : Nat := 94
def Ty_func_int_int_S_api_Range : Nat := 95
def Ty_S_api_Range_bool : Nat := 96
def Ty_func_api_Unit_api_Status_S_api_R_41 : Nat := 97
def Ty_func_P_api_Unit : Nat := 98
def Ty_func_api_Unit_bool : Nat := 99
def Ty_func_api_Sender_api_Sender : Nat := 100
def Ty_func_P_api_Sender_P_api_Unit : Nat := 101
def Ty_P_api_Sender : Nat := 102
def Ty_func_S_api_Range_S_api_Range_bool : Nat := 103
def Ty_func_S_api_Unit_S_api_Unit : Nat := 104
def Ty_func_S_api_Range_S_api_Range : Nat := 105
def Ty_func_S_api_Unit_func_api_Unit_bool_int : Nat := 106
def Ty_func_api_Range_bool : Nat := 107
def Ty_func_api_Sender_api_Unit_bool : Nat := 108
def Ty_func_S_api_Unit_func_api_Unit_bool_bool : Nat := 109
def Ty_func_S_uint8_int_int_S_uint8 : Nat := 110
def Ty_func_S_api_Range_bool : Nat := 111
def Ty_func_S_api_Range_func_api_Range__41 : Nat := 112
def Ty_func_S_api_Range_func_api_Range_bool_int : Nat := 113
def Ty_func_string : Nat := 114
def Ty_struct__interface_P_abi_Type_con_89 : Nat := 115
def Ty_runtime_TypeAssertionError : Nat := 116
def Ty_0_P_runtime_PanicNilError : Nat := 117
def Ty_struct___0_P_runtime_PanicNilError : Nat := 118
def Ty_runtime_PanicNilError : Nat := 119
def Ty_uint32 : Nat := 120
def Ty_abi_TFlag : Nat := 121
def Ty_abi_Kind : Nat := 122
def Ty_func_unsafe_Pointer_unsafe_Pointer_bool : Nat := 123
def Ty_P_uint8 : Nat := 124
def Ty_abi_NameOff : Nat := 125
def Ty_abi_TypeOff : Nat := 126
def Ty_struct_Size__uintptr_PtrBytes_ui_210 : Nat := 127
def Ty_abi_Type : Nat := 128
def Ty_unsafe_Pointer : Nat := 129
def TTl : List (List Kind) := [
  [],
  [.p .val],
  [.p (.int .i64)],
  [.p (.int .i64)],
  [.p .bool],
  [.p (.int .u8)],
  [.p (.int .u8)],
  [.agg [.int .i64, .int .i64, .bool, .int .u8]],
  [.agg [.int .i64, .int .i64, .bool, .int .u8]],
  [.p .str],
  [.p .str],
  [.p .str],
  [.p (.int .u64)],
  [.agg [.str, .int .u64]],
  [.agg [.str, .int .u64]],
  [.p .ptr],
  [.p .ptr],
  [.p .ptr],
  [.agg [.ptr]],
  [.agg [.ptr]],
  [.p .val],
  [.p (.int .i32)],
  [.p .slice],
  [.p .val],
  [.p .val],
  [.p .ptr],
  [.p .val],
  [.agg [.int .i64, .int .i64, .int .i64, .int .i64, .int .i64, .int .i64]],
  [.agg [.int .i64, .int .i64, .int .i64, .int .i64, .int .i64, .int .i64]],
  [.p .slice],
  [.agg [.int .i64, .int .i64, .int .i64, .int .i64, .int .i64, .int .i64, .int .i64, .int .i64, .slice, .int .i64, .int .i64, .int .i64, .bool]],
  [.agg [.int .i64, .int .i64, .int .i64, .int .i64, .int .i64, .int .i64, .int .i64, .int .i64, .slice, .int .i64, .int .i64, .int .i64, .bool]],
  [.p (.int .i64)],
  [.agg [.int .i64, .int .i64, .int .i64, .int .i64, .int .i64, .int .i64, .int .i64, .int .i64, .slice, .int .i64, .int .i64, .int .i64, .bool], .p (.int .i64)],
  [.p .val],
  [.p .val],
  [.p .slice],
  [.p .val],
  [.p .val],
  [.p .val],
  [.agg [.int .i64, .int .i64, .int .i64, .int .i64, .int .i64, .int .i64, .int .i64, .int .i64, .slice, .int .i64, .int .i64, .int .i64, .bool], .p .slice, .p (.int .i64)],
  [.p .val],
  [.p .val],
  [.agg [.int .i64, .int .i64, .int .i64, .int .i64, .slice]],
  [.agg [.int .i64, .int .i64, .int .i64, .int .i64, .slice]],
  [.agg [.int .i64, .int .i64, .int .i64, .int .i64, .slice], .p (.int .i64)],
  [.p .val],
  [.p .val],
  [.p .slice],
  [.agg [.int .i64, .slice]],
  [.agg [.int .i64, .slice]],
  [.p .val],
  [.p .val],
  [.p (.int .i64), .p (.int .i64), .p (.int .i64), .p .bool],
  [.p .val],
  [.p .val],
  [.p .val],
  [.p .val],
  [.agg [.int .i64, .slice, .int .i64, .int .i64, .slice]],
  [.agg [.int .i64, .slice, .int .i64, .int .i64, .slice]],
  [.agg [.int .i64, .int .i64, .int .i64]],
  [.agg [.int .i64, .int .i64, .int .i64]],
  [.p .val],
  [.p .val],
  [.p .val],
  [.p .val],
  [.p .val],
  [.p .val],
  [.p .val],
  [.p .ptr],
  [.p .val],
  [.p .val],
  [.agg [.slice, .int .i64]],
  [.agg [.slice, .int .i64]],
  [.p .val],
  [.p .val],
  [.p .ptr],
  [.p .ptr, .p (.int .i64)],
  [.p .val],
  [.p .val],
  [.agg [.int .i64, .int .i64, .int .i64, .int .i64, .int .i64, .int .i64, .int .i64, .int .i64, .slice, .int .i64, .int .i64, .int .i64, .bool]],
  [.agg [.int .i64, .int .i64, .int .i64, .int .i64, .int .i64, .int .i64, .int .i64, .int .i64, .slice, .int .i64, .int .i64, .int .i64, .bool]],
  [.p .val],
  [.p .val],
  [.p .val],
  [.agg [.int .i64, .int .i64, .int .i64, .int .i64, .slice], .agg [.int .i64, .int .i64, .int .i64, .int .i64, .slice], .p (.int .i64)],
  [.p .val],
  [.p .val],
  [.p .val],
  [.p .ptr],
  [.p .slice, .p (.int .i64)],
  [.p .val],
  [.p .val],
  [.p (.int .u64)],
  [.p .val],
  [.p .val],
  [.p .slice, .p .bool],
  [.p .val],
  [.p .val],
  [.p .val],
  [.p .val],
  [.p .val],
  [.p .ptr],
  [.p .val],
  [.p .val],
  [.p .val],
  [.p .val],
  [.p .val],
  [.p .val],
  [.p .val],
  [.p .val],
  [.p .val],
  [.p .val],
  [.p .val],
  [.p .val],
  [.agg [.ptr, .ptr, .ptr, .str]],
  [.agg [.ptr, .ptr, .ptr, .str]],
  [.agg []],
  [.agg []],
  [.agg []],
  [.p (.int .u32)],
  [.p (.int .u8)],
  [.p (.int .u8)],
  [.p .val],
  [.p .ptr],
  [.p (.int .i32)],
  [.p (.int .i32)],
  [.agg [.int .u64, .int .u64, .int .u32, .int .u8, .int .u8, .int .u8, .int .u8, .val, .ptr, .int .i32, .int .i32]],
  [.agg [.int .u64, .int .u64, .int .u32, .int .u8, .int .u8, .int .u8, .int .u8, .val, .ptr, .int .i32, .int .i32]],
  [.p .val]]
def TTk (t : TypeId) : List Kind := TTl.getD t []
abbrev TT : Cx := ⟨TTk, none⟩
theorem follows_ok : Try.prog.follows .mixedOrders = true := by kernel_rfl
end Go.Proofs.Ytmhggobilcmdmaa
