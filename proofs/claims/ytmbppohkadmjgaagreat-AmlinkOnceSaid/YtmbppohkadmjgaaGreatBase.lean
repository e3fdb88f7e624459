import Derived.Test.YtmbppohkadmjgaaGreatRows
import Derived.Test.YtmbppohkadmjgaaGreatKc
namespace Go.Proofs.YtmbppohkadmjgaaGreat
open Go.Sx
def rg (a n : Nat) : List Nat := List.range' a n
def so (i : Nat) : Nat -> Go.Sx.Can -> Go.Sx.Can
 | 0, x => x
 | n + 1, x => .one i .stable (so (i + 1) n x)
def po (i : Nat) : Nat -> Go.Sx.Can -> Go.Sx.Can
 | 0, x => x
 | n + 1, x => .one i .pre (po (i + 1) n x)
def ko (i : Nat) : Nat -> Go.Sx.Can -> Go.Sx.Can
 | 0, x => x
 | n + 1, x => .one i .keep (ko (i + 1) n x)
def lo (i : Nat) : Nat -> Go.Sx.Can -> Go.Sx.Can
 | 0, x => x
 | n + 1, x => .one i .last (lo (i + 1) n x)
def uo (i : Nat) : Nat -> Go.Sx.Can -> Go.Sx.Can
 | 0, x => x
 | n + 1, x => .one i .pur (uo (i + 1) n x)
abbrev sr (h : Go.Sx.H) : Go.Sx.H := .seq .reg h
abbrev sl : Go.Sx.H := sr .leaf
abbrev sc : Go.Sx.H := sr (.cond sl .leaf)
def N_law22_AmlinkOnce : Nat := 7
def N_made_Light : Nat := 8
def N_law22_awake : Nat := 9
def N_made_Roll : Nat := 10
def N_law22_numbered : Nat := 11
def N_made_Dice_Link : Nat := 12
def N_amlink_Finish : Nat := 13
def N_made_Dice_LinkSteps : Nat := 14
def N_ref01_Get : Nat := 15
def N_ref01_Same : Nat := 16
def N_amlink_Run : Nat := 18
def N_made_Dice_One : Nat := 23
def N_ref20_Place : Nat := 26
def N_law22_link : Nat := 27
def N_made_Dice_Next : Nat := 28
def N_ref01_Put : Nat := 29
def N_made_Dice_Bytes : Nat := 30
def N_made_Dice_Bits : Nat := 31
def N_amlink_begin : Nat := 32
def N_amlink_run_deliver : Nat := 33
def N_amlink_run_answer : Nat := 34
def N_amlink_run_round : Nat := 35
def N_ref02_Distance : Nat := 42
def N_made_Mod : Nat := 43
def N_sender_New : Nat := 44
def N_receiver_New : Nat := 45
def N_amlink_begin_1 : Nat := 46
def N_slices_ContainsFunc_SSbyte_Sbyte : Nat := 47
def N_slices_Clone_SSbyte_Sbyte : Nat := 48
def N_amlink_run_step : Nat := 49
def N_amlink_queue_first : Nat := 50
def N_receiver_Receive : Nat := 51
def N_status_Decode : Nat := 52
def N_sender_Report : Nat := 53
def N_amlink_run_send : Nat := 54
def N_amlink_run_build : Nat := 55
def N_amlink_run_report : Nat := 56
def N_amlink_run_tick : Nat := 57
def N_ref02_valid : Nat := 68
def N_ref02_Low : Nat := 69
def N_sender_ValidLink : Nat := 70
def N_slices_IndexFunc_SSbyte_Sbyte : Nat := 71
def N_receiver_Valid : Nat := 72
def N_receiver_begin : Nat := 73
def N_segment_Decode : Nat := 74
def N_segment_Ends : Nat := 75
def N_slices_BinarySearchFunc_Sapi_Partial_api_Partial_int : Nat := 76
def N_receiver_side_place : Nat := 77
def N_receiver_Receive_1 : Nat := 78
def N_receiver_side_refused : Nat := 79
def N_receiver_side_poll : Nat := 80
def N_slices_Insert_Sapi_Partial_api_Partial : Nat := 81
def N_receiver_side_behind : Nat := 82
def N_receiver_piece_put : Nat := 83
def N_receiver_complete : Nat := 84
def N_receiver_side_advance : Nat := 85
def N_receiver_side_start : Nat := 86
def N_counter_Bits : Nat := 87
def N_status_Decode_1 : Nat := 88
def N_status_reader_take : Nat := 89
def N_status_Encode : Nat := 90
def N_bytes_Equal : Nat := 91
def N_sender_Valid : Nat := 92
def N_status_Valid : Nat := 93
def N_sender_begin : Nat := 94
def N_sender_side_place : Nat := 95
def N_sender_missing : Nat := 96
def N_sender_side_again : Nat := 97
def N_sender_whole : Nat := 98
def N_sender_Submit : Nat := 99
def N_sender_Build : Nat := 100
def N_amlink_queue_put : Nat := 101
def N_receiver_Report : Nat := 102
def N_sender_Tick : Nat := 103
def N_receiver_Tick : Nat := 104
def N_sender_between : Nat := 122
def N_receiver_side_number : Nat := 123
def N_receiver_side_partials : Nat := 124
def N_slices_Clone_Sapi_Partial_api_Partial : Nat := 125
def N_slices_Clone_Sbyte_byte : Nat := 126
def N_slices_Clone_Sapi_Range_api_Range : Nat := 127
def N_segment_head : Nat := 128
def N_segment_Valid : Nat := 129
def N_serial_Distance : Nat := 130
def N_receiver_piece_contradicts : Nat := 131
def N_receiver_piece_known : Nat := 132
def N_slices_overlaps_api_Partial : Nat := 133
def N_slices_rotateRight_api_Partial : Nat := 134
def N_serial_Low : Nat := 135
def N_segment_Union : Nat := 136
def N_status_Whole : Nat := 137
def N_sender_side_number : Nat := 138
def N_sender_side_units : Nat := 139
def N_sender_side_asked : Nat := 140
def N_status_part : Nat := 141
def N_slices_Clone_Sapi_Unit_api_Unit : Nat := 142
def N_sender_side_left : Nat := 143
def N_sender_part : Nat := 144
def N_segment_Part : Nat := 145
def N_segment_Cut : Nat := 146
def N_sender_take : Nat := 147
def N_sender_side_ask : Nat := 148
def N_segment_Encode : Nat := 149
def N_receiver_Status : Nat := 150
def N_status_Fit : Nat := 151
def N_receiver_partial : Nat := 169
def N_segment_begins : Nat := 170
def N_receiver_end : Nat := 171
def N_receiver_piece_known_1 : Nat := 172
def N_slices_ContainsFunc_Sapi_Range_api_Range : Nat := 173
def N_serial_valid : Nat := 175
def N_segment_Normal : Nat := 176
def N_slices_Concat_Sapi_Range_api_Range : Nat := 177
def N_sender_side_unit : Nat := 178
def N_slices_ContainsFunc_Sapi_Unit_api_Unit : Nat := 179
def N_sender_side_asked_1 : Nat := 180
def N_slices_IndexFunc_Sapi_Unit_api_Unit : Nat := 181
def N_sender_side_left_1 : Nat := 182
def N_sender_side_left_2 : Nat := 183
def N_receiver_side_missing : Nat := 184
def N_status_size : Nat := 185
def N_receiver_partial_1 : Nat := 190
def N_segment_Gaps : Nat := 191
def N_slices_ContainsFunc_Sbyte_byte : Nat := 192
def N_receiver_partial_2 : Nat := 193
def N_slices_IndexFunc_Sapi_Range_api_Range : Nat := 194
def N_slices_Grow_Sapi_Range_api_Range : Nat := 196
def N_sender_side_unit_1 : Nat := 197
def N_slices_IndexFunc_Sapi_Partial_api_Partial : Nat := 198
def N_receiver_side_missing_1 : Nat := 199
def N_slices_IndexFunc_Sbyte_byte : Nat := 200
def Ty_int : Nat := 3
def Ty_bool : Nat := 4
def Ty_uint8 : Nat := 5
def Ty_string : Nat := 9
def Ty_S_S_uint8 : Nat := 27
def Ty_api_Link : Nat := 30
def Ty_api_Errno : Nat := 32
def Ty_S_api_Step : Nat := 35
def Ty_S_uint8 : Nat := 38
def Ty_S_api_Unit : Nat := 42
def Ty_api_Sender : Nat := 44
def Ty_S_api_Partial : Nat := 45
def Ty_api_Receiver : Nat := 47
def Ty_S_api_Range : Nat := 56
def Ty_api_Unit : Nat := 58
def Ty_api_Step : Nat := 62
def Ty_radiolinkmade_Dice : Nat := 64
def Ty_amlink_queue : Nat := 72
def Ty_amlink_run : Nat := 74
def Ty_api_Partial : Nat := 83
def Ty_api_Status : Nat := 98
def Ty_api_Range : Nat := 104
def Ty_P_receiver_side : Nat := 109
def Ty_api_Piece : Nat := 112
def Ty_receiver_side : Nat := 116
def Ty_receiver_piece : Nat := 118
def Ty_status_reader : Nat := 130
def Ty_P_sender_side : Nat := 135
def Ty_sender_side : Nat := 139
def Ty_status_ended : Nat := 167
def TTl : List (List Kind) := [
 [],
 [.p .fn],
 [.p (.int .i64)],
 [.p (.int .i64)],
 [.p .bool],
 [.p (.int .u8)],
 [.p (.int .u8)],
 [.agg [.int .i64, .int .i64, .bool, .int .u8]],
 [.agg [.int .i64, .int .i64, .bool, .int .u8]],
 [.p .str],
 [.p .str],
 [.p .str],
 [.p (.int .u64)],
 [.agg [.str, .int .u64]],
 [.agg [.str, .int .u64]],
 [.p .ptr],
 [.p .ptr],
 [.p .ptr],
 [.agg [.ptr]],
 [.agg [.ptr]],
 [.p .val],
 [.p (.int .i32)],
 [.p .slice],
 [.p .fn],
 [.p .fn],
 [.p .ptr],
 [.p .fn],
 [.p .slice],
 [.p .fn],
 [.agg [.int .i64, .int .i64, .int .i64, .int .i64, .int .i64, .int .i64]],
 [.agg [.int .i64, .int .i64, .int .i64, .int .i64, .int .i64, .int .i64]],
 [.p .fn],
 [.p (.int .i64)],
 [.p .slice, .p .bool, .p (.int .i64)],
 [.p .fn],
 [.p .slice],
 [.p .fn],
 [.p .slice],
 [.p .slice],
 [.p .fn],
 [.p .fn],
 [.p .fn],
 [.p .slice],
 [.agg [.int .i64, .int .i64, .int .i64, .int .i64, .int .i64, .int .i64, .int .i64, .int .i64, .slice, .int .i64, .int .i64, .int .i64, .bool]],
 [.agg [.int .i64, .int .i64, .int .i64, .int .i64, .int .i64, .int .i64, .int .i64, .int .i64, .slice, .int .i64, .int .i64, .int .i64, .bool]],
 [.p .slice],
 [.agg [.int .i64, .int .i64, .int .i64, .int .i64, .int .i64, .int .i64, .int .i64, .int .i64, .int .i64, .int .i64, .int .i64, .int .i64, .bool, .slice]],
 [.agg [.int .i64, .int .i64, .int .i64, .int .i64, .int .i64, .int .i64, .int .i64, .int .i64, .int .i64, .int .i64, .int .i64, .int .i64, .bool, .slice]],
 [.p .slice, .agg [.int .i64, .int .i64, .int .i64, .int .i64, .int .i64, .int .i64, .int .i64, .int .i64, .slice, .int .i64, .int .i64, .int .i64, .bool], .agg [.int .i64, .int .i64, .int .i64, .int .i64, .int .i64, .int .i64, .int .i64, .int .i64, .int .i64, .int .i64, .int .i64, .int .i64, .bool, .slice], .p (.int .i64)],
 [.p .fn],
 [.p .fn],
 [.p .fn],
 [.p .fn],
 [.p .fn],
 [.p .fn],
 [.p .fn],
 [.p .slice],
 [.agg [.int .i64, .slice, .int .i64, .int .i64, .slice]],
 [.agg [.int .i64, .slice, .int .i64, .int .i64, .slice]],
 [.p .fn],
 [.p (.int .u64)],
 [.agg [.int .i64, .int .i64]],
 [.agg [.int .i64, .int .i64]],
 [.agg [.slice, .int .i64]],
 [.agg [.slice, .int .i64]],
 [.p .fn],
 [.p .fn],
 [.p .fn],
 [.p .fn],
 [.p .ptr],
 [.p .ptr, .p (.int .i64)],
 [.p .fn],
 [.p .slice],
 [.agg [.int .i64, .int .i64, .int .i64, .int .i64, .int .i64, .int .i64, .int .i64, .int .i64, .slice, .int .i64, .int .i64, .int .i64, .bool, .int .i64, .int .i64, .int .i64, .int .i64, .int .i64, .int .i64, .int .i64, .int .i64, .int .i64, .int .i64, .int .i64, .int .i64, .bool, .slice, .slice, .slice, .slice, .slice]],
 [.agg [.int .i64, .int .i64, .int .i64, .int .i64, .int .i64, .int .i64, .int .i64, .int .i64, .slice, .int .i64, .int .i64, .int .i64, .bool, .int .i64, .int .i64, .int .i64, .int .i64, .int .i64, .int .i64, .int .i64, .int .i64, .int .i64, .int .i64, .int .i64, .int .i64, .bool, .slice, .slice, .slice, .slice, .slice]],
 [.p .fn],
 [.p .ptr],
 [.p .ptr, .p (.int .i64)],
 [.p .fn],
 [.agg [.int .i64, .int .i64, .int .i64, .int .i64, .int .i64, .int .i64, .int .i64, .int .i64, .slice, .int .i64, .int .i64, .int .i64, .bool, .int .i64, .int .i64, .int .i64, .int .i64, .int .i64, .int .i64, .int .i64, .int .i64, .int .i64, .int .i64, .int .i64, .int .i64, .bool, .slice, .slice, .int .i64, .slice, .slice, .slice]],
 [.agg [.int .i64, .int .i64, .int .i64, .int .i64, .int .i64, .int .i64, .int .i64, .int .i64, .slice, .int .i64, .int .i64, .int .i64, .bool, .int .i64, .int .i64, .int .i64, .int .i64, .int .i64, .int .i64, .int .i64, .int .i64, .int .i64, .int .i64, .int .i64, .int .i64, .bool, .slice, .slice, .int .i64, .slice, .slice, .slice]],
 [.p .fn],
 [.agg [.int .i64, .bool, .int .i64, .slice, .slice]],
 [.agg [.int .i64, .bool, .int .i64, .slice, .slice]],
 [.p .fn],
 [.agg [.int .i64, .int .i64, .int .i64, .int .i64, .int .i64, .int .i64, .int .i64, .int .i64, .slice, .int .i64, .int .i64, .int .i64, .bool], .p (.int .i64)],
 [.p .fn],
 [.agg [.int .i64, .int .i64, .int .i64, .int .i64, .int .i64, .int .i64, .int .i64, .int .i64, .int .i64, .int .i64, .int .i64, .int .i64, .bool, .slice], .p (.int .i64)],
 [.p .fn],
 [.p .fn],
 [.p .fn],
 [.p .fn],
 [.p .fn],
 [.p .slice, .p .bool],
 [.p .fn],
 [.agg [.int .i64, .int .i64, .int .i64, .int .i64, .int .i64, .int .i64, .int .i64, .int .i64, .int .i64, .int .i64, .int .i64, .int .i64, .bool, .slice], .p .slice, .p (.int .i64)],
 [.p .fn],
 [.agg [.int .i64, .slice]],
 [.agg [.int .i64, .slice]],
 [.agg [.int .i64, .slice], .p (.int .i64)],
 [.p .fn],
 [.p .fn],
 [.p .fn],
 [.agg [.int .i64, .int .i64, .int .i64]],
 [.agg [.int .i64, .int .i64, .int .i64]],
 [.p .fn],
 [.p .fn],
 [.p .ptr],
 [.p .fn],
 [.p .ptr],
 [.p .fn],
 [.agg [.int .i64, .int .i64, .int .i64, .int .i64, .slice]],
 [.agg [.int .i64, .int .i64, .int .i64, .int .i64, .slice]],
 [.agg [.int .i64, .int .i64, .int .i64, .int .i64, .slice], .p (.int .i64)],
 [.p .fn],
 [.agg [.int .i64, .int .i64, .int .i64, .int .i64, .int .i64, .int .i64, .int .i64, .int .i64, .int .i64, .int .i64, .int .i64, .int .i64, .bool, .slice]],
 [.agg [.int .i64, .int .i64, .int .i64, .int .i64, .int .i64, .int .i64, .int .i64, .int .i64, .int .i64, .int .i64, .int .i64, .int .i64, .bool, .slice]],
 [.agg [.int .i64, .int .i64, .int .i64, .int .i64, .slice, .int .i64, .bool]],
 [.agg [.int .i64, .int .i64, .int .i64, .int .i64, .slice, .int .i64, .bool]],
 [.p (.int .i64), .p .bool],
 [.p .fn],
 [.p .fn],
 [.p .fn],
 [.p .fn],
 [.p .fn],
 [.p .ptr],
 [.p .fn],
 [.p .fn],
 [.p .ptr],
 [.agg [.slice]],
 [.agg [.slice]],
 [.p .slice, .p (.int .i64)],
 [.p .fn],
 [.p .fn],
 [.p .fn],
 [.p .ptr],
 [.p .ptr, .p (.int .i64)],
 [.p .fn],
 [.agg [.int .i64, .int .i64, .int .i64, .int .i64, .int .i64, .int .i64, .int .i64, .int .i64, .slice, .int .i64, .int .i64, .int .i64, .bool]],
 [.agg [.int .i64, .int .i64, .int .i64, .int .i64, .int .i64, .int .i64, .int .i64, .int .i64, .slice, .int .i64, .int .i64, .int .i64, .bool]],
 [.p .slice, .p .bool],
 [.p .fn],
 [.p .fn],
 [.p .ptr],
 [.p .fn],
 [.p .fn],
 [.agg [.int .i64, .int .i64, .int .i64, .int .i64, .int .i64, .int .i64, .int .i64, .int .i64, .slice, .int .i64, .int .i64, .int .i64, .bool], .p .slice, .p (.int .i64)],
 [.p .fn],
 [.p .fn],
 [.p .fn],
 [.p .fn],
 [.p .fn],
 [.p .fn],
 [.p .fn],
 [.p .fn],
 [.p .fn],
 [.p .ptr],
 [.p .fn],
 [.p .fn],
 [.p .fn],
 [.p .fn],
 [.p .fn],
 [.p .fn],
 [.p .fn],
 [.p .slice, .p (.int .i64)],
 [.p .fn],
 [.agg []],
 [.agg []],
 [.p .fn],
 [.p .fn],
 [.p .fn],
 [.p .fn],
 [.agg [.int .i64, .int .i64, .int .i64, .int .i64, .slice], .agg [.int .i64, .int .i64, .int .i64, .int .i64, .slice], .p (.int .i64)],
 [.p .fn],
 [.p .fn],
 [.p .fn],
 [.p .ptr],
 [.p .fn],
 [.p .fn],
 [.p .fn],
 [.p .fn],
 [.p .fn],
 [.p .fn],
 [.p .fn],
 [.p .fn],
 [.p (.int .i64), .p (.int .i64), .p (.int .i64), .p .bool],
 [.p .fn],
 [.p .fn],
 [.p .fn],
 [.p .fn],
 [.p .fn],
 [.p .fn],
 [.p .fn],
 [.p .fn],
 [.p .fn],
 [.p .fn],
 [.p .fn],
 [.p .fn],
 [.p .fn],
 [.p .fn],
 [.p .slice],
 [.p .fn],
 [.p .fn],
 [.p .fn],
 [.p .fn],
 [.agg [.ptr, .ptr, .ptr, .str]],
 [.agg [.ptr, .ptr, .ptr, .str]],
 [.agg []],
 [.agg []],
 [.agg []],
 [.p (.int .u32)],
 [.p (.int .u8)],
 [.p (.int .u8)],
 [.p .fn],
 [.p .ptr],
 [.p (.int .i32)],
 [.p (.int .i32)],
 [.agg [.int .u64, .int .u64, .int .u32, .int .u8, .int .u8, .int .u8, .int .u8, .fn, .ptr, .int .i32, .int .i32]],
 [.agg [.int .u64, .int .u64, .int .u32, .int .u8, .int .u8, .int .u8, .int .u8, .fn, .ptr, .int .i32, .int .i32]],
 [.p .val]]
def TTk (t : TypeId) : List Kind := TTl.getD t []
abbrev TT : Cx := ⟨TTk, none⟩
theorem follows_ok : Tryz.prog.follows .mixedOrders = true := by kernel_rfl
abbrev Iv (x : Int) : Value := .int .i64 x
abbrev OA := Option Addr
abbrev WP := World -> Prop
abbrev CP := Calls Tryz.prog
abbrev EP := Ending -> World -> Prop
end Go.Proofs.YtmbppohkadmjgaaGreat
