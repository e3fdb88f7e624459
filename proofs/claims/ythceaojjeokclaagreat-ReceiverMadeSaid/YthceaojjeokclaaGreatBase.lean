import Derived.Test.YthceaojjeokclaaGreatRows
import Derived.Test.YthceaojjeokclaaGreatKc
namespace Go.Proofs.YthceaojjeokclaaGreat
open Go.Sx
def N_main_main : Nat := 0
def N_gosem_cut : Nat := 1
def N_gosem_cut_init : Nat := 2
def N_law21_ReceiverExact : Nat := 3
def N_law21_ReceiverMade : Nat := 4
def N_law21_ReceiverAsks : Nat := 5
def N_law21_awake : Nat := 6
def N_receiver_New : Nat := 7
def N_ref21_New : Nat := 8
def N_ref21_Same : Nat := 9
def N_law21_agree : Nat := 10
def N_made_Light : Nat := 11
def N_made_Roll : Nat := 12
def N_law21_random : Nat := 13
def N_ref18_Encode : Nat := 14
def N_law21_piece : Nat := 15
def N_made_Dice_One : Nat := 16
def N_made_Dice_Spoil : Nat := 17
def N_made_Dice_Next : Nat := 18
def N_made_Dice_OddLink : Nat := 19
def N_receiver_Receive : Nat := 20
def N_receiver_Report : Nat := 21
def N_ref19_Decode : Nat := 22
def N_ref21_Status : Nat := 23
def N_ref19_Same : Nat := 24
def N_receiver_Tick : Nat := 25
def N_receiver_Status : Nat := 26
def N_receiver_Valid : Nat := 27
def N_sender_ValidLink : Nat := 28
def N_ref20_ValidLink : Nat := 29
def N_ref01_Same : Nat := 30
def N_ref18_SameRanges : Nat := 31
def N_ref21_Receive : Nat := 32
def N_ref21_Tick : Nat := 33
def N_ref21_Report : Nat := 34
def N_ref21_Valid : Nat := 35
def N_made_Dice_Link : Nat := 36
def N_ref18_Valid : Nat := 37
def N_ref01_Put : Nat := 38
def N_ref18_Head : Nat := 39
def N_ref02_Low : Nat := 40
def N_made_Filled : Nat := 41
def N_made_Mod : Nat := 42
def N_receiver_begin : Nat := 43
def N_segment_Decode : Nat := 44
def N_segment_Ends : Nat := 45
def N_slices_BinarySearchFunc_Sapi_Partial_api_Partial_int : Nat := 46
def N_receiver_side_place : Nat := 47
def N_receiver_Receive_1 : Nat := 48
def N_receiver_side_refused : Nat := 49
def N_receiver_side_poll : Nat := 50
def N_slices_Insert_Sapi_Partial_api_Partial : Nat := 51
def N_receiver_side_behind : Nat := 52
def N_receiver_piece_put : Nat := 53
def N_receiver_complete : Nat := 54
def N_receiver_side_advance : Nat := 55
def N_receiver_side_start : Nat := 56
def N_status_Fit : Nat := 57
def N_status_Encode : Nat := 58
def N_ref15_Bits : Nat := 59
def N_ref01_Get : Nat := 60
def N_ref19_Encode : Nat := 61
def N_ref21_place : Nat := 62
def N_ref18_Gaps : Nat := 63
def N_receiver_side_missing : Nat := 64
def N_receiver_side_number : Nat := 65
def N_receiver_side_partials : Nat := 66
def N_sender_between : Nat := 67
def N_counter_Bits : Nat := 68
def N_ref21_Copy : Nat := 69
def N_ref18_Decode : Nat := 70
def N_ref21_put : Nat := 71
def N_ref21_start : Nat := 72
def N_ref19_Fit : Nat := 73
def N_ref21_partial : Nat := 74
def N_made_Dice_Bits : Nat := 75
def N_ref02_valid : Nat := 76
def N_slices_Clone_Sapi_Partial_api_Partial : Nat := 77
def N_slices_Clone_Sbyte_byte : Nat := 78
def N_slices_Clone_Sapi_Range_api_Range : Nat := 79
def N_segment_head : Nat := 80
def N_segment_Valid : Nat := 81
def N_serial_Distance : Nat := 82
def N_receiver_piece_contradicts : Nat := 83
def N_receiver_piece_known : Nat := 84
def N_slices_overlaps_api_Partial : Nat := 85
def N_slices_rotateRight_api_Partial : Nat := 86
def N_serial_Low : Nat := 87
def N_segment_Union : Nat := 88
def N_status_Valid : Nat := 89
def N_status_size : Nat := 90
def N_status_Whole : Nat := 91
def N_ref19_Valid : Nat := 92
def N_ref19_size : Nat := 93
def N_ref20_Place : Nat := 94
def N_ref18_Normal : Nat := 95
def N_slices_IndexFunc_Sapi_Partial_api_Partial : Nat := 96
def N_receiver_side_missing_1 : Nat := 97
def N_segment_Gaps : Nat := 98
def N_receiver_partial : Nat := 99
def N_ref21_contradicts : Nat := 100
def N_ref21_has : Nat := 101
def N_ref21_merge : Nat := 102
def N_ref21_whole : Nat := 103
def N_segment_begins : Nat := 104
def N_receiver_end : Nat := 105
def N_receiver_piece_known_1 : Nat := 106
def N_slices_ContainsFunc_Sapi_Range_api_Range : Nat := 107
def N_slices_rotateLeft_api_Partial : Nat := 108
def N_serial_valid : Nat := 109
def N_segment_Normal : Nat := 110
def N_slices_Concat_Sapi_Range_api_Range : Nat := 111
def N_status_part : Nat := 112
def N_ref02_Distance : Nat := 113
def N_receiver_partial_1 : Nat := 114
def N_slices_ContainsFunc_Sbyte_byte : Nat := 115
def N_receiver_partial_2 : Nat := 116
def N_ref21_ends : Nat := 117
def N_ref18_Union : Nat := 118
def N_slices_IndexFunc_Sapi_Range_api_Range : Nat := 119
def N_slices_Reverse_Sapi_Partial_api_Partial : Nat := 120
def N_slices_Grow_Sapi_Range_api_Range : Nat := 121
def N_slices_IndexFunc_Sbyte_byte : Nat := 122
def N_runtime_boundsError_Error : Nat := 123
def N_runtime_boundsError_RuntimeError : Nat := 124
def N_runtime_errorString_Error : Nat := 125
def N_runtime_errorString_RuntimeError : Nat := 126
def N_runtime_plainError_Error : Nat := 127
def N_runtime_plainError_RuntimeError : Nat := 128
def N_runtime_errorAddressString_Error : Nat := 129
def N_runtime_errorAddressString_RuntimeError : Nat := 130
def N_runtime_TypeAssertionError_Error : Nat := 131
def N_runtime_TypeAssertionError_RuntimeError : Nat := 132
def N_runtime_PanicNilError_Error : Nat := 133
def N_runtime_PanicNilError_RuntimeError : Nat := 134
def N_internal_abi_Type_Align : Nat := 135
def N_internal_runtime_maps_unhashableTypeError_Error : Nat := 136
def N_internal_runtime_maps_unhashableTypeError_RuntimeError : Nat := 137
def N_internal_abi_Kind_String : Nat := 138
def Ty_unit : Nat := 0
def Ty_func : Nat := 1
def Ty_int64 : Nat := 2
def Ty_int : Nat := 3
def Ty_bool : Nat := 4
def Ty_uint8 : Nat := 5
def Ty_abi_BoundsErrorCode : Nat := 6
def Ty_struct_x_int64_y_int_signed_bool_57 : Nat := 7
def Ty_runtime_boundsError : Nat := 8
def Ty_string : Nat := 9
def Ty_runtime_errorString : Nat := 10
def Ty_runtime_plainError : Nat := 11
def Ty_uintptr : Nat := 12
def Ty_struct_msg_string_addr_uintptr : Nat := 13
def Ty_runtime_errorAddressString : Nat := 14
def Ty_P_runtime_TypeAssertionError : Nat := 15
def Ty_P_runtime_PanicNilError : Nat := 16
def Ty_P_abi_Type : Nat := 17
def Ty_struct_typ_P_abi_Type : Nat := 18
def Ty_maps_unhashableTypeError : Nat := 19
def Ty_interface : Nat := 20
def Ty_int32 : Nat := 21
def Ty_struct_Bits_int_Every_int_Poll_i_63 : Nat := 22
def Ty_api_Link : Nat := 23
def Ty_S_api_Partial : Nat := 24
def Ty_struct_Link_api_Link_First_int_N_108 : Nat := 25
def Ty_api_Receiver : Nat := 26
def Ty_S_uint8 : Nat := 27
def Ty_func_bool : Nat := 28
def Ty_api_Errno : Nat := 29
def Ty_api_Receiver_api_Errno : Nat := 30
def Ty_func_api_Link_api_Receiver_api_Errno : Nat := 31
def Ty_func_api_Receiver_api_Receiver_bool : Nat := 32
def Ty_func_api_Receiver_S_uint8_int_bool : Nat := 33
def Ty_S_int : Nat := 34
def Ty_func_S_int_bool : Nat := 35
def Ty_P_radiolinkmade_Dice : Nat := 36
def Ty_func_S_int_P_radiolinkmade_Dice : Nat := 37
def Ty_func_P_radiolinkmade_Dice_api_Receiver : Nat := 38
def Ty_S_uint8_api_Errno : Nat := 39
def Ty_func_int_api_Piece_S_uint8_api_Errno : Nat := 40
def Ty_struct_Sn_int_Part_int_Poll_int__55 : Nat := 41
def Ty_api_Piece : Nat := 42
def Ty_func_P_radiolinkmade_Dice_api_Re_48 : Nat := 43
def Ty_func_int_bool : Nat := 44
def Ty_func_S_uint8_S_uint8 : Nat := 45
def Ty_func_int_int : Nat := 46
def Ty_func_api_Link_api_Link : Nat := 47
def Ty_P_api_Partial : Nat := 48
def Ty_S_api_Range : Nat := 49
def Ty_struct_Sn_int_Done_bool_Length_i_64 : Nat := 50
def Ty_api_Partial : Nat := 51
def Ty_api_Receiver_S_uint8_api_Errno : Nat := 52
def Ty_func_api_Receiver_S_uint8_api_Re_56 : Nat := 53
def Ty_func_api_Receiver_int_api_Receiv_52 : Nat := 54
def Ty_struct_Upto_int_Missing_S_api_Range : Nat := 55
def Ty_api_Status : Nat := 56
def Ty_api_Status_api_Errno : Nat := 57
def Ty_func_int_S_uint8_api_Status_api_Errno : Nat := 58
def Ty_func_api_Receiver_api_Status_api_Errno : Nat := 59
def Ty_func_api_Status_api_Status_bool : Nat := 60
def Ty_func_api_Receiver_api_Receiver_api_Errno : Nat := 61
def Ty_struct_Sn_int_From_int_To_int : Nat := 62
def Ty_api_Range : Nat := 63
def Ty_func_api_Receiver_bool : Nat := 64
def Ty_func_api_Link_bool : Nat := 65
def Ty_func_S_uint8_S_uint8_bool : Nat := 66
def Ty_func_S_api_Range_S_api_Range_bool : Nat := 67
def Ty_struct_L_S_int_At_int : Nat := 68
def Ty_radiolinkmade_Dice : Nat := 69
def Ty_func_api_Link : Nat := 70
def Ty_uint : Nat := 71
def Ty_func_int_api_Piece_bool : Nat := 72
def Ty_func_S_uint8_int_int_S_uint8 : Nat := 73
def Ty_func_int_int_int : Nat := 74
def Ty_func_int_int_S_uint8 : Nat := 75
def Ty_P_receiver_side : Nat := 76
def Ty_func_api_Receiver_P_receiver_side : Nat := 77
def Ty_api_Piece_api_Errno : Nat := 78
def Ty_func_int_S_uint8_api_Piece_api_Errno : Nat := 79
def Ty_struct_api_Receiver : Nat := 80
def Ty_receiver_side : Nat := 81
def Ty_struct_api_Piece_end_int_last_bool : Nat := 82
def Ty_receiver_piece : Nat := 83
def Ty_int_bool : Nat := 84
def Ty_func_S_api_Partial_int_func_api__56 : Nat := 85
def Ty_func_api_Partial_int_int : Nat := 86
def Ty_func_receiver_piece_int_bool_api_Errno : Nat := 87
def Ty_func_api_Piece : Nat := 88
def Ty_func_S_api_Partial_int_api_Parti_48 : Nat := 89
def Ty_func_P_api_Partial : Nat := 90
def Ty_func_api_Partial_bool : Nat := 91
def Ty_func_int_api_Status_int_api_Stat_44 : Nat := 92
def Ty_func_int_api_Status_S_uint8_api_Errno : Nat := 93
def Ty_func_S_uint8_int_int_int : Nat := 94
def Ty_func_api_Receiver_int_int : Nat := 95
def Ty_S_api_Range_api_Errno : Nat := 96
def Ty_func_S_api_Range_int_int_S_api_R_46 : Nat := 97
def Ty_func_int_S_api_Range : Nat := 98
def Ty_func_int_int_int_bool : Nat := 99
def Ty_func_api_Receiver_api_Receiver : Nat := 100
def Ty_func_api_Receiver_api_Piece_api__58 : Nat := 101
def Ty_func_int : Nat := 102
def Ty_func_S_api_Partial_S_api_Partial : Nat := 103
def Ty_func_S_api_Range_S_api_Range : Nat := 104
def Ty_func_int_int_int_int : Nat := 105
def Ty_func_S_api_Partial_S_api_Partial_bool : Nat := 106
def Ty_func_S_api_Partial_int : Nat := 107
def Ty_func_S_api_Range_api_Range_S_api_48 : Nat := 108
def Ty_func_int_api_Status_bool : Nat := 109
def Ty_func_api_Range_int : Nat := 110
def Ty_func_api_Range_bool : Nat := 111
def Ty_func_S_api_Range_bool : Nat := 112
def Ty_func_S_api_Partial_func_api_Part_44 : Nat := 113
def Ty_func_api_Partial_api_Piece_bool : Nat := 114
def Ty_func_api_Partial_api_Piece_api_Partial : Nat := 115
def Ty_func_S_api_Range_int : Nat := 116
def Ty_func_S_api_Range_func_api_Range__41 : Nat := 117
def Ty_func_S_api_Range_S_api_Range_2 : Nat := 118
def Ty_func_S_uint8_func_uint8_bool_bool : Nat := 119
def Ty_func_uint8_bool : Nat := 120
def Ty_func_api_Piece_bool : Nat := 121
def Ty_func_S_api_Range_func_api_Range_bool_int : Nat := 122
def Ty_func_S_api_Partial : Nat := 123
def Ty_S_S_api_Range : Nat := 124
def Ty_func_S_api_Range_int_S_api_Range : Nat := 125
def Ty_func_S_uint8_func_uint8_bool_int : Nat := 126
def Ty_func_string : Nat := 127
def Ty_struct__interface_P_abi_Type_con_89 : Nat := 128
def Ty_runtime_TypeAssertionError : Nat := 129
def Ty_0_P_runtime_PanicNilError : Nat := 130
def Ty_struct___0_P_runtime_PanicNilError : Nat := 131
def Ty_runtime_PanicNilError : Nat := 132
def Ty_uint32 : Nat := 133
def Ty_abi_TFlag : Nat := 134
def Ty_abi_Kind : Nat := 135
def Ty_func_unsafe_Pointer_unsafe_Pointer_bool : Nat := 136
def Ty_P_uint8 : Nat := 137
def Ty_abi_NameOff : Nat := 138
def Ty_abi_TypeOff : Nat := 139
def Ty_struct_Size__uintptr_PtrBytes_ui_210 : Nat := 140
def Ty_abi_Type : Nat := 141
def Ty_unsafe_Pointer : Nat := 142
def TTl : List (List Kind) := [
  [],
  [.p .fn],
  [.p (.int .i64)],
  [.p (.int .i64)],
  [.p .bool],
  [.p (.int .u8)],
  [.p (.int .u8)],
  [.agg [.int .i64, .int .i64, .bool, .int .u8]],
  [.agg [.int .i64, .int .i64, .bool, .int .u8]],
  [.p .str],
  [.p .str],
  [.p .str],
  [.p (.int .u64)],
  [.agg [.str, .int .u64]],
  [.agg [.str, .int .u64]],
  [.p .ptr],
  [.p .ptr],
  [.p .ptr],
  [.agg [.ptr]],
  [.agg [.ptr]],
  [.p .val],
  [.p (.int .i32)],
  [.agg [.int .i64, .int .i64, .int .i64, .int .i64, .int .i64, .int .i64]],
  [.agg [.int .i64, .int .i64, .int .i64, .int .i64, .int .i64, .int .i64]],
  [.p .slice],
  [.agg [.int .i64, .int .i64, .int .i64, .int .i64, .int .i64, .int .i64, .int .i64, .int .i64, .int .i64, .int .i64, .int .i64, .int .i64, .bool, .slice]],
  [.agg [.int .i64, .int .i64, .int .i64, .int .i64, .int .i64, .int .i64, .int .i64, .int .i64, .int .i64, .int .i64, .int .i64, .int .i64, .bool, .slice]],
  [.p .slice],
  [.p .fn],
  [.p (.int .i64)],
  [.agg [.int .i64, .int .i64, .int .i64, .int .i64, .int .i64, .int .i64, .int .i64, .int .i64, .int .i64, .int .i64, .int .i64, .int .i64, .bool, .slice], .p (.int .i64)],
  [.p .fn],
  [.p .fn],
  [.p .fn],
  [.p .slice],
  [.p .fn],
  [.p .ptr],
  [.p .fn],
  [.p .fn],
  [.p .slice, .p (.int .i64)],
  [.p .fn],
  [.agg [.int .i64, .int .i64, .int .i64, .int .i64, .slice]],
  [.agg [.int .i64, .int .i64, .int .i64, .int .i64, .slice]],
  [.p .fn],
  [.p .fn],
  [.p .fn],
  [.p .fn],
  [.p .fn],
  [.p .ptr],
  [.p .slice],
  [.agg [.int .i64, .bool, .int .i64, .slice, .slice]],
  [.agg [.int .i64, .bool, .int .i64, .slice, .slice]],
  [.agg [.int .i64, .int .i64, .int .i64, .int .i64, .int .i64, .int .i64, .int .i64, .int .i64, .int .i64, .int .i64, .int .i64, .int .i64, .bool, .slice], .p .slice, .p (.int .i64)],
  [.p .fn],
  [.p .fn],
  [.agg [.int .i64, .slice]],
  [.agg [.int .i64, .slice]],
  [.agg [.int .i64, .slice], .p (.int .i64)],
  [.p .fn],
  [.p .fn],
  [.p .fn],
  [.p .fn],
  [.agg [.int .i64, .int .i64, .int .i64]],
  [.agg [.int .i64, .int .i64, .int .i64]],
  [.p .fn],
  [.p .fn],
  [.p .fn],
  [.p .fn],
  [.agg [.slice, .int .i64]],
  [.agg [.slice, .int .i64]],
  [.p .fn],
  [.p (.int .u64)],
  [.p .fn],
  [.p .fn],
  [.p .fn],
  [.p .fn],
  [.p .ptr],
  [.p .fn],
  [.agg [.int .i64, .int .i64, .int .i64, .int .i64, .slice], .p (.int .i64)],
  [.p .fn],
  [.agg [.int .i64, .int .i64, .int .i64, .int .i64, .int .i64, .int .i64, .int .i64, .int .i64, .int .i64, .int .i64, .int .i64, .int .i64, .bool, .slice]],
  [.agg [.int .i64, .int .i64, .int .i64, .int .i64, .int .i64, .int .i64, .int .i64, .int .i64, .int .i64, .int .i64, .int .i64, .int .i64, .bool, .slice]],
  [.agg [.int .i64, .int .i64, .int .i64, .int .i64, .slice, .int .i64, .bool]],
  [.agg [.int .i64, .int .i64, .int .i64, .int .i64, .slice, .int .i64, .bool]],
  [.p (.int .i64), .p .bool],
  [.p .fn],
  [.p .fn],
  [.p .fn],
  [.p .fn],
  [.p .fn],
  [.p .fn],
  [.p .fn],
  [.p .fn],
  [.p .fn],
  [.p .fn],
  [.p .fn],
  [.p .slice, .p (.int .i64)],
  [.p .fn],
  [.p .fn],
  [.p .fn],
  [.p .fn],
  [.p .fn],
  [.p .fn],
  [.p .fn],
  [.p .fn],
  [.p .fn],
  [.p .fn],
  [.p .fn],
  [.p .fn],
  [.p .fn],
  [.p .fn],
  [.p .fn],
  [.p .fn],
  [.p .fn],
  [.p .fn],
  [.p .fn],
  [.p .fn],
  [.p .fn],
  [.p .fn],
  [.p .fn],
  [.p .fn],
  [.p .fn],
  [.p .fn],
  [.p .fn],
  [.p .slice],
  [.p .fn],
  [.p .fn],
  [.p .fn],
  [.agg [.ptr, .ptr, .ptr, .str]],
  [.agg [.ptr, .ptr, .ptr, .str]],
  [.agg []],
  [.agg []],
  [.agg []],
  [.p (.int .u32)],
  [.p (.int .u8)],
  [.p (.int .u8)],
  [.p .fn],
  [.p .ptr],
  [.p (.int .i32)],
  [.p (.int .i32)],
  [.agg [.int .u64, .int .u64, .int .u32, .int .u8, .int .u8, .int .u8, .int .u8, .fn, .ptr, .int .i32, .int .i32]],
  [.agg [.int .u64, .int .u64, .int .u32, .int .u8, .int .u8, .int .u8, .int .u8, .fn, .ptr, .int .i32, .int .i32]],
  [.p .val]]
def TTk (t : TypeId) : List Kind := TTl.getD t []
abbrev TT : Cx := ⟨TTk, none⟩
theorem follows_ok : Tryz.prog.follows .mixedOrders = true := by kernel_rfl
abbrev Iv (x : Int) : Value := .int .i64 x
abbrev OA := Option Addr
abbrev WP := World → Prop
abbrev CP := Calls Tryz.prog
abbrev EP := Ending → World → Prop
end Go.Proofs.YthceaojjeokclaaGreat
