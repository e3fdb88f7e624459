import Derived.Test.YtmbppohkadmjgaaGreatRows
import Derived.Test.YtmbppohkadmjgaaGreatKc
namespace Go.Proofs.YtmbppohkadmjgaaGreat
open Go.Sx
def N_main_main : Nat := 0
def N_gosem_cut : Nat := 1
def N_gosem_cut_init : Nat := 2
def N_law22_AmlinkAll : Nat := 3
def N_law22_AmlinkClean : Nat := 4
def N_law22_AmlinkRuns : Nat := 5
def N_law22_AmlinkMade : Nat := 6
def N_law22_AmlinkOnce : Nat := 7
def N_made_Light : Nat := 8
def N_law22_awake : Nat := 9
def N_made_Roll : Nat := 10
def N_law22_numbered : Nat := 11
def N_made_Dice_Link : Nat := 12
def N_amlink_Finish : Nat := 13
def N_made_Dice_LinkSteps : Nat := 14
def N_ref01_Get : Nat := 15
def N_ref01_Same : Nat := 16
def N_ref01_SameAll : Nat := 17
def N_amlink_Run : Nat := 18
def N_ref22_Run : Nat := 19
def N_ref22_Finish : Nat := 20
def N_ref20_Same : Nat := 21
def N_ref21_Same : Nat := 22
def N_made_Dice_One : Nat := 23
def N_made_Dice_OddLink : Nat := 24
def N_made_Dice_Units : Nat := 25
def N_ref20_Place : Nat := 26
def N_law22_link : Nat := 27
def N_made_Dice_Next : Nat := 28
def N_ref01_Put : Nat := 29
def N_made_Dice_Bytes : Nat := 30
def N_made_Dice_Bits : Nat := 31
def N_amlink_begin : Nat := 32
def N_amlink_run_deliver : Nat := 33
def N_amlink_run_answer : Nat := 34
def N_amlink_run_round : Nat := 35
def N_ref22_Begin : Nat := 36
def N_ref22_Link_deliver : Nat := 37
def N_ref22_Link_answer : Nat := 38
def N_ref22_Link_round : Nat := 39
def N_ref18_SameRanges : Nat := 40
def N_made_Dice_Some : Nat := 41
def N_ref02_Distance : Nat := 42
def N_made_Mod : Nat := 43
def N_sender_New : Nat := 44
def N_receiver_New : Nat := 45
def N_amlink_begin_1 : Nat := 46
def N_slices_ContainsFunc_SSbyte_Sbyte : Nat := 47
def N_slices_Clone_SSbyte_Sbyte : Nat := 48
def N_amlink_run_step : Nat := 49
def N_amlink_queue_first : Nat := 50
def N_receiver_Receive : Nat := 51
def N_status_Decode : Nat := 52
def N_sender_Report : Nat := 53
def N_amlink_run_send : Nat := 54
def N_amlink_run_build : Nat := 55
def N_amlink_run_report : Nat := 56
def N_amlink_run_tick : Nat := 57
def N_ref20_New : Nat := 58
def N_ref21_New : Nat := 59
def N_ref22_Link_step : Nat := 60
def N_ref21_Receive : Nat := 61
def N_ref19_Decode : Nat := 62
def N_ref20_Report : Nat := 63
def N_ref22_Link_send : Nat := 64
def N_ref22_Link_build : Nat := 65
def N_ref22_Link_report : Nat := 66
def N_ref22_Link_tick : Nat := 67
def N_ref02_valid : Nat := 68
def N_ref02_Low : Nat := 69
def N_sender_ValidLink : Nat := 70
def N_slices_IndexFunc_SSbyte_Sbyte : Nat := 71
def N_receiver_Valid : Nat := 72
def N_receiver_begin : Nat := 73
def N_segment_Decode : Nat := 74
def N_segment_Ends : Nat := 75
def N_slices_BinarySearchFunc_Sapi_Partial_api_Partial_int : Nat := 76
def N_receiver_side_place : Nat := 77
def N_receiver_Receive_1 : Nat := 78
def N_receiver_side_refused : Nat := 79
def N_receiver_side_poll : Nat := 80
def N_slices_Insert_Sapi_Partial_api_Partial : Nat := 81
def N_receiver_side_behind : Nat := 82
def N_receiver_piece_put : Nat := 83
def N_receiver_complete : Nat := 84
def N_receiver_side_advance : Nat := 85
def N_receiver_side_start : Nat := 86
def N_counter_Bits : Nat := 87
def N_status_Decode_1 : Nat := 88
def N_status_reader_take : Nat := 89
def N_status_Encode : Nat := 90
def N_bytes_Equal : Nat := 91
def N_sender_Valid : Nat := 92
def N_status_Valid : Nat := 93
def N_sender_begin : Nat := 94
def N_sender_side_place : Nat := 95
def N_sender_missing : Nat := 96
def N_sender_side_again : Nat := 97
def N_sender_whole : Nat := 98
def N_sender_Submit : Nat := 99
def N_sender_Build : Nat := 100
def N_amlink_queue_put : Nat := 101
def N_receiver_Report : Nat := 102
def N_sender_Tick : Nat := 103
def N_receiver_Tick : Nat := 104
def N_ref20_ValidLink : Nat := 105
def N_ref21_Valid : Nat := 106
def N_ref21_Copy : Nat := 107
def N_ref18_Decode : Nat := 108
def N_ref21_put : Nat := 109
def N_ref15_Bits : Nat := 110
def N_ref19_Encode : Nat := 111
def N_ref20_Valid : Nat := 112
def N_ref19_Valid : Nat := 113
def N_ref20_Copy : Nat := 114
def N_ref20_missing : Nat := 115
def N_ref20_again : Nat := 116
def N_ref20_Submit : Nat := 117
def N_ref20_Build : Nat := 118
def N_ref21_Report : Nat := 119
def N_ref20_Tick : Nat := 120
def N_ref21_Tick : Nat := 121
def N_sender_between : Nat := 122
def N_receiver_side_number : Nat := 123
def N_receiver_side_partials : Nat := 124
def N_slices_Clone_Sapi_Partial_api_Partial : Nat := 125
def N_slices_Clone_Sbyte_byte : Nat := 126
def N_slices_Clone_Sapi_Range_api_Range : Nat := 127
def N_segment_head : Nat := 128
def N_segment_Valid : Nat := 129
def N_serial_Distance : Nat := 130
def N_receiver_piece_contradicts : Nat := 131
def N_receiver_piece_known : Nat := 132
def N_slices_overlaps_api_Partial : Nat := 133
def N_slices_rotateRight_api_Partial : Nat := 134
def N_serial_Low : Nat := 135
def N_segment_Union : Nat := 136
def N_status_Whole : Nat := 137
def N_sender_side_number : Nat := 138
def N_sender_side_units : Nat := 139
def N_sender_side_asked : Nat := 140
def N_status_part : Nat := 141
def N_slices_Clone_Sapi_Unit_api_Unit : Nat := 142
def N_sender_side_left : Nat := 143
def N_sender_part : Nat := 144
def N_segment_Part : Nat := 145
def N_segment_Cut : Nat := 146
def N_sender_take : Nat := 147
def N_sender_side_ask : Nat := 148
def N_segment_Encode : Nat := 149
def N_receiver_Status : Nat := 150
def N_status_Fit : Nat := 151
def N_ref21_place : Nat := 152
def N_ref21_partial : Nat := 153
def N_ref18_Head : Nat := 154
def N_ref18_Valid : Nat := 155
def N_ref21_contradicts : Nat := 156
def N_ref21_has : Nat := 157
def N_ref21_merge : Nat := 158
def N_ref21_whole : Nat := 159
def N_ref21_start : Nat := 160
def N_ref19_size : Nat := 161
def N_ref20_unit : Nat := 162
def N_ref20_todo : Nat := 163
def N_ref18_Cut : Nat := 164
def N_ref20_Left : Nat := 165
def N_ref18_Encode : Nat := 166
def N_ref21_Status : Nat := 167
def N_ref19_Fit : Nat := 168
def N_receiver_partial : Nat := 169
def N_segment_begins : Nat := 170
def N_receiver_end : Nat := 171
def N_receiver_piece_known_1 : Nat := 172
def N_slices_ContainsFunc_Sapi_Range_api_Range : Nat := 173
def N_slices_rotateLeft_api_Partial : Nat := 174
def N_serial_valid : Nat := 175
def N_segment_Normal : Nat := 176
def N_slices_Concat_Sapi_Range_api_Range : Nat := 177
def N_sender_side_unit : Nat := 178
def N_slices_ContainsFunc_Sapi_Unit_api_Unit : Nat := 179
def N_sender_side_asked_1 : Nat := 180
def N_slices_IndexFunc_Sapi_Unit_api_Unit : Nat := 181
def N_sender_side_left_1 : Nat := 182
def N_sender_side_left_2 : Nat := 183
def N_receiver_side_missing : Nat := 184
def N_status_size : Nat := 185
def N_ref18_Normal : Nat := 186
def N_ref18_Gaps : Nat := 187
def N_ref21_ends : Nat := 188
def N_ref18_Union : Nat := 189
def N_receiver_partial_1 : Nat := 190
def N_segment_Gaps : Nat := 191
def N_slices_ContainsFunc_Sbyte_byte : Nat := 192
def N_receiver_partial_2 : Nat := 193
def N_slices_IndexFunc_Sapi_Range_api_Range : Nat := 194
def N_slices_Reverse_Sapi_Partial_api_Partial : Nat := 195
def N_slices_Grow_Sapi_Range_api_Range : Nat := 196
def N_sender_side_unit_1 : Nat := 197
def N_slices_IndexFunc_Sapi_Partial_api_Partial : Nat := 198
def N_receiver_side_missing_1 : Nat := 199
def N_slices_IndexFunc_Sbyte_byte : Nat := 200
def N_runtime_boundsError_Error : Nat := 201
def N_runtime_boundsError_RuntimeError : Nat := 202
def N_runtime_errorString_Error : Nat := 203
def N_runtime_errorString_RuntimeError : Nat := 204
def N_runtime_plainError_Error : Nat := 205
def N_runtime_plainError_RuntimeError : Nat := 206
def N_runtime_errorAddressString_Error : Nat := 207
def N_runtime_errorAddressString_RuntimeError : Nat := 208
def N_runtime_TypeAssertionError_Error : Nat := 209
def N_runtime_TypeAssertionError_RuntimeError : Nat := 210
def N_runtime_PanicNilError_Error : Nat := 211
def N_runtime_PanicNilError_RuntimeError : Nat := 212
def N_internal_abi_Type_Align : Nat := 213
def N_internal_runtime_maps_unhashableTypeError_Error : Nat := 214
def N_internal_runtime_maps_unhashableTypeError_RuntimeError : Nat := 215
def N_internal_abi_Kind_String : Nat := 216
def Ty_unit : Nat := 0
def Ty_func : Nat := 1
def Ty_int64 : Nat := 2
def Ty_int : Nat := 3
def Ty_bool : Nat := 4
def Ty_uint8 : Nat := 5
def Ty_abi_BoundsErrorCode : Nat := 6
def Ty_struct_x_int64_y_int_signed_bool_57 : Nat := 7
def Ty_runtime_boundsError : Nat := 8
def Ty_string : Nat := 9
def Ty_runtime_errorString : Nat := 10
def Ty_runtime_plainError : Nat := 11
def Ty_uintptr : Nat := 12
def Ty_struct_msg_string_addr_uintptr : Nat := 13
def Ty_runtime_errorAddressString : Nat := 14
def Ty_P_runtime_TypeAssertionError : Nat := 15
def Ty_P_runtime_PanicNilError : Nat := 16
def Ty_P_abi_Type : Nat := 17
def Ty_struct_typ_P_abi_Type : Nat := 18
def Ty_maps_unhashableTypeError : Nat := 19
def Ty_interface : Nat := 20
def Ty_int32 : Nat := 21
def Ty_S_int : Nat := 22
def Ty_func_S_int_bool : Nat := 23
def Ty_func_bool : Nat := 24
def Ty_P_radiolinkmade_Dice : Nat := 25
def Ty_func_S_int_P_radiolinkmade_Dice : Nat := 26
def Ty_S_S_uint8 : Nat := 27
def Ty_func_P_radiolinkmade_Dice_int_S_S_uint8 : Nat := 28
def Ty_struct_Bits_int_Every_int_Poll_i_63 : Nat := 29
def Ty_api_Link : Nat := 30
def Ty_func_api_Link : Nat := 31
def Ty_api_Errno : Nat := 32
def Ty_S_S_uint8_bool_api_Errno : Nat := 33
def Ty_func_api_Link_S_S_uint8_S_api_St_63 : Nat := 34
def Ty_S_api_Step : Nat := 35
def Ty_func_int_S_api_Step : Nat := 36
def Ty_S_bool : Nat := 37
def Ty_S_uint8 : Nat := 38
def Ty_func_S_uint8_int_int_int : Nat := 39
def Ty_func_S_uint8_S_uint8_bool : Nat := 40
def Ty_func_S_S_uint8_S_S_uint8_bool : Nat := 41
def Ty_S_api_Unit : Nat := 42
def Ty_struct_Link_api_Link_First_int_N_97 : Nat := 43
def Ty_api_Sender : Nat := 44
def Ty_S_api_Partial : Nat := 45
def Ty_struct_Link_api_Link_First_int_N_108 : Nat := 46
def Ty_api_Receiver : Nat := 47
def Ty_S_S_uint8_api_Sender_api_Receive_43 : Nat := 48
def Ty_func_api_Link_S_S_uint8_S_api_St_78 : Nat := 49
def Ty_func_api_Sender_api_Sender_bool : Nat := 50
def Ty_func_api_Receiver_api_Receiver_bool : Nat := 51
def Ty_func_api_Link_S_S_uint8_S_api_Step_bool : Nat := 52
def Ty_func_int_bool : Nat := 53
def Ty_func_api_Link_api_Link : Nat := 54
def Ty_func_int_int_S_S_uint8 : Nat := 55
def Ty_S_api_Range : Nat := 56
def Ty_struct_Sn_int_Data_S_uint8_Sent__63 : Nat := 57
def Ty_api_Unit : Nat := 58
def Ty_func_int_int_int_int : Nat := 59
def Ty_uint : Nat := 60
def Ty_struct_Kind_int_At_int : Nat := 61
def Ty_api_Step : Nat := 62
def Ty_struct_L_S_int_At_int : Nat := 63
def Ty_radiolinkmade_Dice : Nat := 64
def Ty_func_int_int : Nat := 65
def Ty_func_S_uint8_int_int_S_uint8 : Nat := 66
def Ty_func_int_S_uint8 : Nat := 67
def Ty_func_int : Nat := 68
def Ty_P_amlink_run : Nat := 69
def Ty_P_amlink_run_api_Errno : Nat := 70
def Ty_func_api_Link_S_S_uint8_S_api_St_57 : Nat := 71
def Ty_amlink_queue : Nat := 72
def Ty_struct_s_api_Sender_r_api_Receiv_99 : Nat := 73
def Ty_amlink_run : Nat := 74
def Ty_func_bool_2 : Nat := 75
def Ty_P_radiolinkref22_Link : Nat := 76
def Ty_P_radiolinkref22_Link_api_Errno : Nat := 77
def Ty_func_api_Link_S_S_uint8_S_api_St_66 : Nat := 78
def Ty_struct_S_api_Sender_R_api_Receiv_108 : Nat := 79
def Ty_radiolinkref22_Link : Nat := 80
def Ty_func_S_api_Range_S_api_Range_bool : Nat := 81
def Ty_struct_Sn_int_Done_bool_Length_i_64 : Nat := 82
def Ty_api_Partial : Nat := 83
def Ty_func_int_int_int : Nat := 84
def Ty_api_Sender_api_Errno : Nat := 85
def Ty_func_api_Link_api_Sender_api_Errno : Nat := 86
def Ty_api_Receiver_api_Errno : Nat := 87
def Ty_func_api_Link_api_Receiver_api_Errno : Nat := 88
def Ty_func_S_uint8_bool : Nat := 89
def Ty_func_S_S_uint8_func_S_uint8_bool_bool : Nat := 90
def Ty_func_S_S_uint8_S_S_uint8 : Nat := 91
def Ty_func_api_Step : Nat := 92
def Ty_S_uint8_bool : Nat := 93
def Ty_func_bool_S_uint8_bool : Nat := 94
def Ty_api_Receiver_S_uint8_api_Errno : Nat := 95
def Ty_func_api_Receiver_S_uint8_api_Re_56 : Nat := 96
def Ty_struct_Upto_int_Missing_S_api_Range : Nat := 97
def Ty_api_Status : Nat := 98
def Ty_api_Status_api_Errno : Nat := 99
def Ty_func_int_S_uint8_api_Status_api_Errno : Nat := 100
def Ty_func_api_Sender_api_Status_api_S_47 : Nat := 101
def Ty_func_int_2 : Nat := 102
def Ty_struct_Sn_int_From_int_To_int : Nat := 103
def Ty_api_Range : Nat := 104
def Ty_func_api_Link_bool : Nat := 105
def Ty_func_S_S_uint8_func_S_uint8_bool_int : Nat := 106
def Ty_P_amlink_queue : Nat := 107
def Ty_func_api_Receiver_bool : Nat := 108
def Ty_P_receiver_side : Nat := 109
def Ty_func_api_Receiver_P_receiver_side : Nat := 110
def Ty_struct_Sn_int_Part_int_Poll_int__55 : Nat := 111
def Ty_api_Piece : Nat := 112
def Ty_api_Piece_api_Errno : Nat := 113
def Ty_func_int_S_uint8_api_Piece_api_Errno : Nat := 114
def Ty_struct_api_Receiver : Nat := 115
def Ty_receiver_side : Nat := 116
def Ty_struct_api_Piece_end_int_last_bool : Nat := 117
def Ty_receiver_piece : Nat := 118
def Ty_int_bool : Nat := 119
def Ty_func_S_api_Partial_int_func_api__56 : Nat := 120
def Ty_func_api_Partial_int_int : Nat := 121
def Ty_func_receiver_piece_int_bool_api_Errno : Nat := 122
def Ty_func_api_Piece : Nat := 123
def Ty_func_S_api_Partial_int_api_Parti_48 : Nat := 124
def Ty_P_api_Partial : Nat := 125
def Ty_func_P_api_Partial : Nat := 126
def Ty_func_api_Partial_bool : Nat := 127
def Ty_P_status_reader : Nat := 128
def Ty_struct_rest_S_uint8 : Nat := 129
def Ty_status_reader : Nat := 130
def Ty_S_uint8_api_Errno : Nat := 131
def Ty_func_int_api_Status_S_uint8_api_Errno : Nat := 132
def Ty_func_api_Sender_bool : Nat := 133
def Ty_func_int_api_Status_bool : Nat := 134
def Ty_P_sender_side : Nat := 135
def Ty_P_sender_side_api_Errno : Nat := 136
def Ty_func_api_Sender_P_sender_side_api_Errno : Nat := 137
def Ty_struct_api_Sender : Nat := 138
def Ty_sender_side : Nat := 139
def Ty_S_api_Range_bool : Nat := 140
def Ty_func_api_Unit_api_Status_S_api_R_41 : Nat := 141
def Ty_func_P_api_Unit : Nat := 142
def Ty_P_api_Unit : Nat := 143
def Ty_func_api_Unit_bool : Nat := 144
def Ty_func_api_Sender_S_uint8_api_Send_44 : Nat := 145
def Ty_api_Sender_S_uint8_api_Errno : Nat := 146
def Ty_func_api_Sender_int_api_Sender_S_48 : Nat := 147
def Ty_func_S_uint8 : Nat := 148
def Ty_func_api_Receiver_int_api_Receiv_52 : Nat := 149
def Ty_func_api_Sender_api_Sender_api_Errno : Nat := 150
def Ty_func_api_Receiver_api_Receiver_api_Errno : Nat := 151
def Ty_func_api_Receiver_api_Receiver : Nat := 152
def Ty_func_api_Receiver_api_Piece_api__58 : Nat := 153
def Ty_func_api_Sender_api_Sender : Nat := 154
def Ty_func_P_api_Sender_P_api_Unit : Nat := 155
def Ty_P_api_Sender : Nat := 156
def Ty_func_int_int_int_bool : Nat := 157
def Ty_func_S_api_Partial_S_api_Partial : Nat := 158
def Ty_func_S_uint8_S_uint8 : Nat := 159
def Ty_func_S_api_Range_S_api_Range : Nat := 160
def Ty_func_int_api_Piece_bool : Nat := 161
def Ty_func_S_api_Partial_S_api_Partial_bool : Nat := 162
def Ty_func_S_api_Partial_int : Nat := 163
def Ty_S_api_Range_api_Errno : Nat := 164
def Ty_func_S_api_Range_api_Range_S_api_48 : Nat := 165
def Ty_struct : Nat := 166
def Ty_status_ended : Nat := 167
def Ty_func_api_Range_bool : Nat := 168
def Ty_func_S_api_Unit_S_api_Unit : Nat := 169
def Ty_func_api_Unit_api_Range : Nat := 170
def Ty_func_bool_bool_int : Nat := 171
def Ty_api_Piece_api_Piece_api_Errno : Nat := 172
def Ty_func_int_api_Piece_int_api_Piece_52 : Nat := 173
def Ty_func_P_api_Unit_int : Nat := 174
def Ty_func_P_api_Piece : Nat := 175
def Ty_P_api_Piece : Nat := 176
def Ty_func_int_api_Piece_S_uint8_api_Errno : Nat := 177
def Ty_func_api_Receiver_api_Status_api_Errno : Nat := 178
def Ty_func_int_api_Status_int_api_Stat_44 : Nat := 179
def Ty_func_api_Receiver_int_int : Nat := 180
def Ty_func_api_Partial_api_Piece_bool : Nat := 181
def Ty_func_api_Partial_api_Piece_api_Partial : Nat := 182
def Ty_func_api_Range_int : Nat := 183
def Ty_func_api_Sender_api_Unit_bool : Nat := 184
def Ty_int_int_int_bool : Nat := 185
def Ty_func_api_Sender_int_int_int_bool : Nat := 186
def Ty_func_S_api_Range_int : Nat := 187
def Ty_func_S_api_Range_func_api_Range__41 : Nat := 188
def Ty_func_S_api_Range_bool : Nat := 189
def Ty_func_S_api_Range_S_api_Range_2 : Nat := 190
def Ty_func_S_api_Unit_func_api_Unit_bool_bool : Nat := 191
def Ty_func_S_api_Unit_func_api_Unit_bool_int : Nat := 192
def Ty_func_int_S_api_Range : Nat := 193
def Ty_func_S_api_Range_int_int_S_api_R_46 : Nat := 194
def Ty_func_api_Piece_bool : Nat := 195
def Ty_func_S_uint8_func_uint8_bool_bool : Nat := 196
def Ty_func_uint8_bool : Nat := 197
def Ty_func_S_api_Range_func_api_Range_bool_int : Nat := 198
def Ty_func_S_api_Partial : Nat := 199
def Ty_S_S_api_Range : Nat := 200
def Ty_func_S_api_Range_int_S_api_Range : Nat := 201
def Ty_func_S_api_Partial_func_api_Part_44 : Nat := 202
def Ty_func_S_uint8_func_uint8_bool_int : Nat := 203
def Ty_func_string : Nat := 204
def Ty_struct__interface_P_abi_Type_con_89 : Nat := 205
def Ty_runtime_TypeAssertionError : Nat := 206
def Ty_0_P_runtime_PanicNilError : Nat := 207
def Ty_struct___0_P_runtime_PanicNilError : Nat := 208
def Ty_runtime_PanicNilError : Nat := 209
def Ty_uint32 : Nat := 210
def Ty_abi_TFlag : Nat := 211
def Ty_abi_Kind : Nat := 212
def Ty_func_unsafe_Pointer_unsafe_Pointer_bool : Nat := 213
def Ty_P_uint8 : Nat := 214
def Ty_abi_NameOff : Nat := 215
def Ty_abi_TypeOff : Nat := 216
def Ty_struct_Size__uintptr_PtrBytes_ui_210 : Nat := 217
def Ty_abi_Type : Nat := 218
def Ty_unsafe_Pointer : Nat := 219
def TTl : List (List Kind) := [
  [],
  [.p .fn],
  [.p (.int .i64)],
  [.p (.int .i64)],
  [.p .bool],
  [.p (.int .u8)],
  [.p (.int .u8)],
  [.agg [.int .i64, .int .i64, .bool, .int .u8]],
  [.agg [.int .i64, .int .i64, .bool, .int .u8]],
  [.p .str],
  [.p .str],
  [.p .str],
  [.p (.int .u64)],
  [.agg [.str, .int .u64]],
  [.agg [.str, .int .u64]],
  [.p .ptr],
  [.p .ptr],
  [.p .ptr],
  [.agg [.ptr]],
  [.agg [.ptr]],
  [.p .val],
  [.p (.int .i32)],
  [.p .slice],
  [.p .fn],
  [.p .fn],
  [.p .ptr],
  [.p .fn],
  [.p .slice],
  [.p .fn],
  [.agg [.int .i64, .int .i64, .int .i64, .int .i64, .int .i64, .int .i64]],
  [.agg [.int .i64, .int .i64, .int .i64, .int .i64, .int .i64, .int .i64]],
  [.p .fn],
  [.p (.int .i64)],
  [.p .slice, .p .bool, .p (.int .i64)],
  [.p .fn],
  [.p .slice],
  [.p .fn],
  [.p .slice],
  [.p .slice],
  [.p .fn],
  [.p .fn],
  [.p .fn],
  [.p .slice],
  [.agg [.int .i64, .int .i64, .int .i64, .int .i64, .int .i64, .int .i64, .int .i64, .int .i64, .slice, .int .i64, .int .i64, .int .i64, .bool]],
  [.agg [.int .i64, .int .i64, .int .i64, .int .i64, .int .i64, .int .i64, .int .i64, .int .i64, .slice, .int .i64, .int .i64, .int .i64, .bool]],
  [.p .slice],
  [.agg [.int .i64, .int .i64, .int .i64, .int .i64, .int .i64, .int .i64, .int .i64, .int .i64, .int .i64, .int .i64, .int .i64, .int .i64, .bool, .slice]],
  [.agg [.int .i64, .int .i64, .int .i64, .int .i64, .int .i64, .int .i64, .int .i64, .int .i64, .int .i64, .int .i64, .int .i64, .int .i64, .bool, .slice]],
  [.p .slice, .agg [.int .i64, .int .i64, .int .i64, .int .i64, .int .i64, .int .i64, .int .i64, .int .i64, .slice, .int .i64, .int .i64, .int .i64, .bool], .agg [.int .i64, .int .i64, .int .i64, .int .i64, .int .i64, .int .i64, .int .i64, .int .i64, .int .i64, .int .i64, .int .i64, .int .i64, .bool, .slice], .p (.int .i64)],
  [.p .fn],
  [.p .fn],
  [.p .fn],
  [.p .fn],
  [.p .fn],
  [.p .fn],
  [.p .fn],
  [.p .slice],
  [.agg [.int .i64, .slice, .int .i64, .int .i64, .slice]],
  [.agg [.int .i64, .slice, .int .i64, .int .i64, .slice]],
  [.p .fn],
  [.p (.int .u64)],
  [.agg [.int .i64, .int .i64]],
  [.agg [.int .i64, .int .i64]],
  [.agg [.slice, .int .i64]],
  [.agg [.slice, .int .i64]],
  [.p .fn],
  [.p .fn],
  [.p .fn],
  [.p .fn],
  [.p .ptr],
  [.p .ptr, .p (.int .i64)],
  [.p .fn],
  [.p .slice],
  [.agg [.int .i64, .int .i64, .int .i64, .int .i64, .int .i64, .int .i64, .int .i64, .int .i64, .slice, .int .i64, .int .i64, .int .i64, .bool, .int .i64, .int .i64, .int .i64, .int .i64, .int .i64, .int .i64, .int .i64, .int .i64, .int .i64, .int .i64, .int .i64, .int .i64, .bool, .slice, .slice, .slice, .slice, .slice]],
  [.agg [.int .i64, .int .i64, .int .i64, .int .i64, .int .i64, .int .i64, .int .i64, .int .i64, .slice, .int .i64, .int .i64, .int .i64, .bool, .int .i64, .int .i64, .int .i64, .int .i64, .int .i64, .int .i64, .int .i64, .int .i64, .int .i64, .int .i64, .int .i64, .int .i64, .bool, .slice, .slice, .slice, .slice, .slice]],
  [.p .fn],
  [.p .ptr],
  [.p .ptr, .p (.int .i64)],
  [.p .fn],
  [.agg [.int .i64, .int .i64, .int .i64, .int .i64, .int .i64, .int .i64, .int .i64, .int .i64, .slice, .int .i64, .int .i64, .int .i64, .bool, .int .i64, .int .i64, .int .i64, .int .i64, .int .i64, .int .i64, .int .i64, .int .i64, .int .i64, .int .i64, .int .i64, .int .i64, .bool, .slice, .slice, .int .i64, .slice, .slice, .slice]],
  [.agg [.int .i64, .int .i64, .int .i64, .int .i64, .int .i64, .int .i64, .int .i64, .int .i64, .slice, .int .i64, .int .i64, .int .i64, .bool, .int .i64, .int .i64, .int .i64, .int .i64, .int .i64, .int .i64, .int .i64, .int .i64, .int .i64, .int .i64, .int .i64, .int .i64, .bool, .slice, .slice, .int .i64, .slice, .slice, .slice]],
  [.p .fn],
  [.agg [.int .i64, .bool, .int .i64, .slice, .slice]],
  [.agg [.int .i64, .bool, .int .i64, .slice, .slice]],
  [.p .fn],
  [.agg [.int .i64, .int .i64, .int .i64, .int .i64, .int .i64, .int .i64, .int .i64, .int .i64, .slice, .int .i64, .int .i64, .int .i64, .bool], .p (.int .i64)],
  [.p .fn],
  [.agg [.int .i64, .int .i64, .int .i64, .int .i64, .int .i64, .int .i64, .int .i64, .int .i64, .int .i64, .int .i64, .int .i64, .int .i64, .bool, .slice], .p (.int .i64)],
  [.p .fn],
  [.p .fn],
  [.p .fn],
  [.p .fn],
  [.p .fn],
  [.p .slice, .p .bool],
  [.p .fn],
  [.agg [.int .i64, .int .i64, .int .i64, .int .i64, .int .i64, .int .i64, .int .i64, .int .i64, .int .i64, .int .i64, .int .i64, .int .i64, .bool, .slice], .p .slice, .p (.int .i64)],
  [.p .fn],
  [.agg [.int .i64, .slice]],
  [.agg [.int .i64, .slice]],
  [.agg [.int .i64, .slice], .p (.int .i64)],
  [.p .fn],
  [.p .fn],
  [.p .fn],
  [.agg [.int .i64, .int .i64, .int .i64]],
  [.agg [.int .i64, .int .i64, .int .i64]],
  [.p .fn],
  [.p .fn],
  [.p .ptr],
  [.p .fn],
  [.p .ptr],
  [.p .fn],
  [.agg [.int .i64, .int .i64, .int .i64, .int .i64, .slice]],
  [.agg [.int .i64, .int .i64, .int .i64, .int .i64, .slice]],
  [.agg [.int .i64, .int .i64, .int .i64, .int .i64, .slice], .p (.int .i64)],
  [.p .fn],
  [.agg [.int .i64, .int .i64, .int .i64, .int .i64, .int .i64, .int .i64, .int .i64, .int .i64, .int .i64, .int .i64, .int .i64, .int .i64, .bool, .slice]],
  [.agg [.int .i64, .int .i64, .int .i64, .int .i64, .int .i64, .int .i64, .int .i64, .int .i64, .int .i64, .int .i64, .int .i64, .int .i64, .bool, .slice]],
  [.agg [.int .i64, .int .i64, .int .i64, .int .i64, .slice, .int .i64, .bool]],
  [.agg [.int .i64, .int .i64, .int .i64, .int .i64, .slice, .int .i64, .bool]],
  [.p (.int .i64), .p .bool],
  [.p .fn],
  [.p .fn],
  [.p .fn],
  [.p .fn],
  [.p .fn],
  [.p .ptr],
  [.p .fn],
  [.p .fn],
  [.p .ptr],
  [.agg [.slice]],
  [.agg [.slice]],
  [.p .slice, .p (.int .i64)],
  [.p .fn],
  [.p .fn],
  [.p .fn],
  [.p .ptr],
  [.p .ptr, .p (.int .i64)],
  [.p .fn],
  [.agg [.int .i64, .int .i64, .int .i64, .int .i64, .int .i64, .int .i64, .int .i64, .int .i64, .slice, .int .i64, .int .i64, .int .i64, .bool]],
  [.agg [.int .i64, .int .i64, .int .i64, .int .i64, .int .i64, .int .i64, .int .i64, .int .i64, .slice, .int .i64, .int .i64, .int .i64, .bool]],
  [.p .slice, .p .bool],
  [.p .fn],
  [.p .fn],
  [.p .ptr],
  [.p .fn],
  [.p .fn],
  [.agg [.int .i64, .int .i64, .int .i64, .int .i64, .int .i64, .int .i64, .int .i64, .int .i64, .slice, .int .i64, .int .i64, .int .i64, .bool], .p .slice, .p (.int .i64)],
  [.p .fn],
  [.p .fn],
  [.p .fn],
  [.p .fn],
  [.p .fn],
  [.p .fn],
  [.p .fn],
  [.p .fn],
  [.p .fn],
  [.p .ptr],
  [.p .fn],
  [.p .fn],
  [.p .fn],
  [.p .fn],
  [.p .fn],
  [.p .fn],
  [.p .fn],
  [.p .slice, .p (.int .i64)],
  [.p .fn],
  [.agg []],
  [.agg []],
  [.p .fn],
  [.p .fn],
  [.p .fn],
  [.p .fn],
  [.agg [.int .i64, .int .i64, .int .i64, .int .i64, .slice], .agg [.int .i64, .int .i64, .int .i64, .int .i64, .slice], .p (.int .i64)],
  [.p .fn],
  [.p .fn],
  [.p .fn],
  [.p .ptr],
  [.p .fn],
  [.p .fn],
  [.p .fn],
  [.p .fn],
  [.p .fn],
  [.p .fn],
  [.p .fn],
  [.p .fn],
  [.p (.int .i64), .p (.int .i64), .p (.int .i64), .p .bool],
  [.p .fn],
  [.p .fn],
  [.p .fn],
  [.p .fn],
  [.p .fn],
  [.p .fn],
  [.p .fn],
  [.p .fn],
  [.p .fn],
  [.p .fn],
  [.p .fn],
  [.p .fn],
  [.p .fn],
  [.p .fn],
  [.p .slice],
  [.p .fn],
  [.p .fn],
  [.p .fn],
  [.p .fn],
  [.agg [.ptr, .ptr, .ptr, .str]],
  [.agg [.ptr, .ptr, .ptr, .str]],
  [.agg []],
  [.agg []],
  [.agg []],
  [.p (.int .u32)],
  [.p (.int .u8)],
  [.p (.int .u8)],
  [.p .fn],
  [.p .ptr],
  [.p (.int .i32)],
  [.p (.int .i32)],
  [.agg [.int .u64, .int .u64, .int .u32, .int .u8, .int .u8, .int .u8, .int .u8, .fn, .ptr, .int .i32, .int .i32]],
  [.agg [.int .u64, .int .u64, .int .u32, .int .u8, .int .u8, .int .u8, .int .u8, .fn, .ptr, .int .i32, .int .i32]],
  [.p .val]]
def TTk (t : TypeId) : List Kind := TTl.getD t []
abbrev TT : Cx := ⟨TTk, none⟩
theorem follows_ok : Tryz.prog.follows .mixedOrders = true := by kernel_rfl
abbrev Iv (x : Int) : Value := .int .i64 x
abbrev OA := Option Addr
abbrev WP := World → Prop
abbrev CP := Calls Tryz.prog
abbrev EP := Ending → World → Prop
end Go.Proofs.YtmbppohkadmjgaaGreat
