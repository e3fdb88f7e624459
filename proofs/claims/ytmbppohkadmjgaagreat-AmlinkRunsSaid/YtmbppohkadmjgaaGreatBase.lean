import Derived.Test.YtmbppohkadmjgaaGreatRows
import Derived.Test.YtmbppohkadmjgaaGreatKc
namespace Go.Proofs.YtmbppohkadmjgaaGreat
open Go.Sx
def rg(a n:Nat):List Nat:=List.range' a n
def so(i:Nat):Nat->Go.Sx.Can->Go.Sx.Can
 |0,x=>x
 |n+1,x=>.one i .stable (so (i+1) n x)
def po(i:Nat):Nat->Go.Sx.Can->Go.Sx.Can
 |0,x=>x
 |n+1,x=>.one i .pre (po (i+1) n x)
def ko(i:Nat):Nat->Go.Sx.Can->Go.Sx.Can
 |0,x=>x
 |n+1,x=>.one i .keep (ko (i+1) n x)
def lo(i:Nat):Nat->Go.Sx.Can->Go.Sx.Can
 |0,x=>x
 |n+1,x=>.one i .last (lo (i+1) n x)
def uo(i:Nat):Nat->Go.Sx.Can->Go.Sx.Can
 |0,x=>x
 |n+1,x=>.one i .pur (uo (i+1) n x)
abbrev sr(h:Go.Sx.H):Go.Sx.H:=.seq .reg h
abbrev sl:Go.Sx.H:=sr .leaf
abbrev sc:Go.Sx.H:=sr (.cond sl .leaf)
def Sn:Nat:=5
def Hf:Nat:=9
def Mr:Nat:=13
def Gw:Nat:=15
def Im:Nat:=16
def Mq:Nat:=17
def Ya:Nat:=18
def Aay:Nat:=19
def Tm:Nat:=20
def Yn:Nat:=21
def Yh:Nat:=22
def Dk:Nat:=26
def Xy:Nat:=27
def Eo:Nat:=29
def Pg:Nat:=32
def Dz:Nat:=33
def En:Nat:=34
def Mx:Nat:=35
def Qm:Nat:=36
def Fg:Nat:=37
def Fu:Nat:=38
def Ni:Nat:=39
def Iy:Nat:=40
def Hy:Nat:=42
def Xr:Nat:=44
def Sq:Nat:=45
def Hw:Nat:=46
def Dy:Nat:=47
def Fv:Nat:=48
def Kb:Nat:=49
def De:Nat:=50
def Mw:Nat:=51
def Rl:Nat:=52
def Mn:Nat:=53
def Kf:Nat:=54
def Ja:Nat:=55
def Hp:Nat:=56
def Jy:Nat:=57
def Ab5:Nat:=58
def Abv:Nat:=59
def Ox:Nat:=60
def Je:Nat:=61
def Ny:Nat:=62
def Ow:Nat:=63
def Ke:Nat:=64
def Iu:Nat:=65
def Ho:Nat:=66
def Kc:Nat:=67
def Qh:Nat:=68
def Ij:Nat:=69
def Eu:Nat:=70
def Er:Nat:=71
def Hv:Nat:=72
def Hs:Nat:=73
def Pt:Nat:=74
def Km:Nat:=75
def Cp:Nat:=76
def Be:Nat:=77
def Hb:Nat:=78
def Ht:Nat:=79
def Fi:Nat:=80
def Dl:Nat:=81
def Dg:Nat:=82
def Kr:Nat:=83
def Hn:Nat:=84
def Fj:Nat:=85
def Dv:Nat:=86
def Gd:Nat:=87
def Ka:Nat:=88
def Df:Nat:=89
def Ms:Nat:=90
def Uz:Nat:=91
def Ou:Nat:=92
def Kz:Nat:=93
def Hr:Nat:=94
def Ch:Nat:=95
def Pv:Nat:=96
def Lr:Nat:=97
def Ks:Nat:=98
def Mp:Nat:=99
def Sm:Nat:=100
def Il:Nat:=101
def Oj:Nat:=102
def Vo:Nat:=103
def Rd:Nat:=104
def Fl:Nat:=105
def Jk:Nat:=106
def Pf:Nat:=107
def Sr:Nat:=108
def Acj:Nat:=109
def Iw:Nat:=110
def Ph:Nat:=111
def Jm:Nat:=112
def Mf:Nat:=113
def It:Nat:=114
def Rb:Nat:=115
def Vq:Nat:=116
def Ok:Nat:=117
def Qn:Nat:=118
def Tp:Nat:=119
def Xp:Nat:=120
def Xs:Nat:=121
def Cj:Nat:=122
def Dh:Nat:=123
def Hh:Nat:=124
def Dp:Nat:=125
def Cq:Nat:=126
def Ci:Nat:=127
def Om:Nat:=128
def Jh:Nat:=129
def Gt:Nat:=130
def Fm:Nat:=131
def Jb:Nat:=132
def Qp:Nat:=133
def Pj:Nat:=134
def Pi:Nat:=135
def Qy:Nat:=136
def Fh:Nat:=137
def Fc:Nat:=138
def Lq:Nat:=139
def Lw:Nat:=140
def Vf:Nat:=141
def Ee:Nat:=142
def Ge:Nat:=143
def Vn:Nat:=144
def Hu:Nat:=145
def Fy:Nat:=146
def Vg:Nat:=147
def Kd:Nat:=148
def Pu:Nat:=149
def Og:Nat:=150
def Ye:Nat:=151
def Bw:Nat:=152
def Mu:Nat:=153
def Oy:Nat:=154
def Mc:Nat:=155
def Ly:Nat:=156
def Acf:Nat:=157
def Vt:Nat:=158
def Qj:Nat:=159
def Jn:Nat:=160
def Sf:Nat:=161
def Xx:Nat:=162
def Sg:Nat:=163
def Abg:Nat:=164
def Sj:Nat:=165
def Ta:Nat:=166
def Su:Nat:=167
def Acm:Nat:=168
def Nb:Nat:=169
def Ga:Nat:=170
def Kn:Nat:=171
def Hj:Nat:=172
def Cf:Nat:=173
def Sp:Nat:=175
def Ew:Nat:=176
def Dt:Nat:=177
def Nk:Nat:=178
def Dm:Nat:=179
def Jp:Nat:=180
def Cn:Nat:=181
def Gu:Nat:=182
def Gz:Nat:=183
def Hq:Nat:=184
def Vj:Nat:=185
def Fe:Nat:=186
def Nw:Nat:=187
def Nx:Nat:=188
def Vk:Nat:=189
def Kk:Nat:=190
def Pe:Nat:=191
def Ej:Nat:=192
def Kp:Nat:=193
def Dn:Nat:=194
def Dx:Nat:=196
def Kt:Nat:=197
def Dd:Nat:=198
def Es:Nat:=199
def Fb:Nat:=200
def Of:Nat:=3
def Azq:Nat:=4
def Bb:Nat:=5
def Ac3:Nat:=9
def Da:Nat:=27
def Cw:Nat:=30
def Fw:Nat:=32
def As:Nat:=38
def Cm:Nat:=42
def Ab:Nat:=44
def Bh:Nat:=45
def Ag:Nat:=47
def Ar:Nat:=56
def Ad:Nat:=58
def Uy:Nat:=62
def Aah:Nat:=64
def Mv:Nat:=72
def Ad9:Nat:=74
def Pb:Nat:=80
def Ac:Nat:=83
def Ai:Nat:=98
def Af:Nat:=104
def Sz:Nat:=109
def Ao:Nat:=112
def Cb:Nat:=116
def Dc:Nat:=118
def Xk:Nat:=130
def Ai3:Nat:=135
def Bc:Nat:=139
def Gq:Nat:=167
def TTl:List (List Kind):=[
 [],
 [.p .fn],
 [.p (.int .i64)],
 [.p (.int .i64)],
 [.p .bool],
 [.p (.int .u8)],
 [.p (.int .u8)],
 [.agg [.int .i64,.int .i64,.bool,.int .u8]],
 [.agg [.int .i64,.int .i64,.bool,.int .u8]],
 [.p .str],
 [.p .str],
 [.p .str],
 [.p (.int .u64)],
 [.agg [.str,.int .u64]],
 [.agg [.str,.int .u64]],
 [.p .ptr],
 [.p .ptr],
 [.p .ptr],
 [.agg [.ptr]],
 [.agg [.ptr]],
 [.p .val],
 [.p (.int .i32)],
 [.p .slice],
 [.p .fn],
 [.p .fn],
 [.p .ptr],
 [.p .fn],
 [.p .slice],
 [.p .fn],
 [.agg [.int .i64,.int .i64,.int .i64,.int .i64,.int .i64,.int .i64]],
 [.agg [.int .i64,.int .i64,.int .i64,.int .i64,.int .i64,.int .i64]],
 [.p .fn],
 [.p (.int .i64)],
 [.p .slice,.p .bool,.p (.int .i64)],
 [.p .fn],
 [.p .slice],
 [.p .fn],
 [.p .slice],
 [.p .slice],
 [.p .fn],
 [.p .fn],
 [.p .fn],
 [.p .slice],
 [.agg [.int .i64,.int .i64,.int .i64,.int .i64,.int .i64,.int .i64,.int .i64,.int .i64,.slice,.int .i64,.int .i64,.int .i64,.bool]],
 [.agg [.int .i64,.int .i64,.int .i64,.int .i64,.int .i64,.int .i64,.int .i64,.int .i64,.slice,.int .i64,.int .i64,.int .i64,.bool]],
 [.p .slice],
 [.agg [.int .i64,.int .i64,.int .i64,.int .i64,.int .i64,.int .i64,.int .i64,.int .i64,.int .i64,.int .i64,.int .i64,.int .i64,.bool,.slice]],
 [.agg [.int .i64,.int .i64,.int .i64,.int .i64,.int .i64,.int .i64,.int .i64,.int .i64,.int .i64,.int .i64,.int .i64,.int .i64,.bool,.slice]],
 [.p .slice,.agg [.int .i64,.int .i64,.int .i64,.int .i64,.int .i64,.int .i64,.int .i64,.int .i64,.slice,.int .i64,.int .i64,.int .i64,.bool],.agg [.int .i64,.int .i64,.int .i64,.int .i64,.int .i64,.int .i64,.int .i64,.int .i64,.int .i64,.int .i64,.int .i64,.int .i64,.bool,.slice],.p (.int .i64)],
 [.p .fn],
 [.p .fn],
 [.p .fn],
 [.p .fn],
 [.p .fn],
 [.p .fn],
 [.p .fn],
 [.p .slice],
 [.agg [.int .i64,.slice,.int .i64,.int .i64,.slice]],
 [.agg [.int .i64,.slice,.int .i64,.int .i64,.slice]],
 [.p .fn],
 [.p (.int .u64)],
 [.agg [.int .i64,.int .i64]],
 [.agg [.int .i64,.int .i64]],
 [.agg [.slice,.int .i64]],
 [.agg [.slice,.int .i64]],
 [.p .fn],
 [.p .fn],
 [.p .fn],
 [.p .fn],
 [.p .ptr],
 [.p .ptr,.p (.int .i64)],
 [.p .fn],
 [.p .slice],
 [.agg [.int .i64,.int .i64,.int .i64,.int .i64,.int .i64,.int .i64,.int .i64,.int .i64,.slice,.int .i64,.int .i64,.int .i64,.bool,.int .i64,.int .i64,.int .i64,.int .i64,.int .i64,.int .i64,.int .i64,.int .i64,.int .i64,.int .i64,.int .i64,.int .i64,.bool,.slice,.slice,.slice,.slice,.slice]],
 [.agg [.int .i64,.int .i64,.int .i64,.int .i64,.int .i64,.int .i64,.int .i64,.int .i64,.slice,.int .i64,.int .i64,.int .i64,.bool,.int .i64,.int .i64,.int .i64,.int .i64,.int .i64,.int .i64,.int .i64,.int .i64,.int .i64,.int .i64,.int .i64,.int .i64,.bool,.slice,.slice,.slice,.slice,.slice]],
 [.p .fn],
 [.p .ptr],
 [.p .ptr,.p (.int .i64)],
 [.p .fn],
 [.agg [.int .i64,.int .i64,.int .i64,.int .i64,.int .i64,.int .i64,.int .i64,.int .i64,.slice,.int .i64,.int .i64,.int .i64,.bool,.int .i64,.int .i64,.int .i64,.int .i64,.int .i64,.int .i64,.int .i64,.int .i64,.int .i64,.int .i64,.int .i64,.int .i64,.bool,.slice,.slice,.int .i64,.slice,.slice,.slice]],
 [.agg [.int .i64,.int .i64,.int .i64,.int .i64,.int .i64,.int .i64,.int .i64,.int .i64,.slice,.int .i64,.int .i64,.int .i64,.bool,.int .i64,.int .i64,.int .i64,.int .i64,.int .i64,.int .i64,.int .i64,.int .i64,.int .i64,.int .i64,.int .i64,.int .i64,.bool,.slice,.slice,.int .i64,.slice,.slice,.slice]],
 [.p .fn],
 [.agg [.int .i64,.bool,.int .i64,.slice,.slice]],
 [.agg [.int .i64,.bool,.int .i64,.slice,.slice]],
 [.p .fn],
 [.agg [.int .i64,.int .i64,.int .i64,.int .i64,.int .i64,.int .i64,.int .i64,.int .i64,.slice,.int .i64,.int .i64,.int .i64,.bool],.p (.int .i64)],
 [.p .fn],
 [.agg [.int .i64,.int .i64,.int .i64,.int .i64,.int .i64,.int .i64,.int .i64,.int .i64,.int .i64,.int .i64,.int .i64,.int .i64,.bool,.slice],.p (.int .i64)],
 [.p .fn],
 [.p .fn],
 [.p .fn],
 [.p .fn],
 [.p .fn],
 [.p .slice,.p .bool],
 [.p .fn],
 [.agg [.int .i64,.int .i64,.int .i64,.int .i64,.int .i64,.int .i64,.int .i64,.int .i64,.int .i64,.int .i64,.int .i64,.int .i64,.bool,.slice],.p .slice,.p (.int .i64)],
 [.p .fn],
 [.agg [.int .i64,.slice]],
 [.agg [.int .i64,.slice]],
 [.agg [.int .i64,.slice],.p (.int .i64)],
 [.p .fn],
 [.p .fn],
 [.p .fn],
 [.agg [.int .i64,.int .i64,.int .i64]],
 [.agg [.int .i64,.int .i64,.int .i64]],
 [.p .fn],
 [.p .fn],
 [.p .ptr],
 [.p .fn],
 [.p .ptr],
 [.p .fn],
 [.agg [.int .i64,.int .i64,.int .i64,.int .i64,.slice]],
 [.agg [.int .i64,.int .i64,.int .i64,.int .i64,.slice]],
 [.agg [.int .i64,.int .i64,.int .i64,.int .i64,.slice],.p (.int .i64)],
 [.p .fn],
 [.agg [.int .i64,.int .i64,.int .i64,.int .i64,.int .i64,.int .i64,.int .i64,.int .i64,.int .i64,.int .i64,.int .i64,.int .i64,.bool,.slice]],
 [.agg [.int .i64,.int .i64,.int .i64,.int .i64,.int .i64,.int .i64,.int .i64,.int .i64,.int .i64,.int .i64,.int .i64,.int .i64,.bool,.slice]],
 [.agg [.int .i64,.int .i64,.int .i64,.int .i64,.slice,.int .i64,.bool]],
 [.agg [.int .i64,.int .i64,.int .i64,.int .i64,.slice,.int .i64,.bool]],
 [.p (.int .i64),.p .bool],
 [.p .fn],
 [.p .fn],
 [.p .fn],
 [.p .fn],
 [.p .fn],
 [.p .ptr],
 [.p .fn],
 [.p .fn],
 [.p .ptr],
 [.agg [.slice]],
 [.agg [.slice]],
 [.p .slice,.p (.int .i64)],
 [.p .fn],
 [.p .fn],
 [.p .fn],
 [.p .ptr],
 [.p .ptr,.p (.int .i64)],
 [.p .fn],
 [.agg [.int .i64,.int .i64,.int .i64,.int .i64,.int .i64,.int .i64,.int .i64,.int .i64,.slice,.int .i64,.int .i64,.int .i64,.bool]],
 [.agg [.int .i64,.int .i64,.int .i64,.int .i64,.int .i64,.int .i64,.int .i64,.int .i64,.slice,.int .i64,.int .i64,.int .i64,.bool]],
 [.p .slice,.p .bool],
 [.p .fn],
 [.p .fn],
 [.p .ptr],
 [.p .fn],
 [.p .fn],
 [.agg [.int .i64,.int .i64,.int .i64,.int .i64,.int .i64,.int .i64,.int .i64,.int .i64,.slice,.int .i64,.int .i64,.int .i64,.bool],.p .slice,.p (.int .i64)],
 [.p .fn],
 [.p .fn],
 [.p .fn],
 [.p .fn],
 [.p .fn],
 [.p .fn],
 [.p .fn],
 [.p .fn],
 [.p .fn],
 [.p .ptr],
 [.p .fn],
 [.p .fn],
 [.p .fn],
 [.p .fn],
 [.p .fn],
 [.p .fn],
 [.p .fn],
 [.p .slice,.p (.int .i64)],
 [.p .fn],
 [.agg []],
 [.agg []],
 [.p .fn],
 [.p .fn],
 [.p .fn],
 [.p .fn],
 [.agg [.int .i64,.int .i64,.int .i64,.int .i64,.slice],.agg [.int .i64,.int .i64,.int .i64,.int .i64,.slice],.p (.int .i64)],
 [.p .fn],
 [.p .fn],
 [.p .fn],
 [.p .ptr],
 [.p .fn],
 [.p .fn],
 [.p .fn],
 [.p .fn],
 [.p .fn],
 [.p .fn],
 [.p .fn],
 [.p .fn],
 [.p (.int .i64),.p (.int .i64),.p (.int .i64),.p .bool],
 [.p .fn],
 [.p .fn],
 [.p .fn],
 [.p .fn],
 [.p .fn],
 [.p .fn],
 [.p .fn],
 [.p .fn],
 [.p .fn],
 [.p .fn],
 [.p .fn],
 [.p .fn],
 [.p .fn],
 [.p .fn],
 [.p .slice],
 [.p .fn],
 [.p .fn],
 [.p .fn],
 [.p .fn],
 [.agg [.ptr,.ptr,.ptr,.str]],
 [.agg [.ptr,.ptr,.ptr,.str]],
 [.agg []],
 [.agg []],
 [.agg []],
 [.p (.int .u32)],
 [.p (.int .u8)],
 [.p (.int .u8)],
 [.p .fn],
 [.p .ptr],
 [.p (.int .i32)],
 [.p (.int .i32)],
 [.agg [.int .u64,.int .u64,.int .u32,.int .u8,.int .u8,.int .u8,.int .u8,.fn,.ptr,.int .i32,.int .i32]],
 [.agg [.int .u64,.int .u64,.int .u32,.int .u8,.int .u8,.int .u8,.int .u8,.fn,.ptr,.int .i32,.int .i32]],
 [.p .val]]
def TTk(t:TypeId):List Kind:=TTl.getD t []
abbrev TT:Cx:=⟨TTk,none⟩
theorem Ah:Tryz.prog.follows .mixedOrders=true:=by kernel_rfl
theorem zk{h:H}{f:FuncId}{n:Func}{a:Array Value}{w:World}{R:Ending->World->Prop}{Q:Prop}(x:Tryz.prog.funcs[f]?=some n)(e:Ay0 Tryz.prog ⟨TTk,none⟩ h n a w (fun v w'=>R (.returned v) w')=Q)(q:Q):Calls Tryz.prog f a w R:=Ak Ah x (e▸q)
abbrev Iv(x:Int):Value:=.int .i64 x
abbrev OA:=Option Addr
abbrev WP:=World->Prop
abbrev CP:=Calls Tryz.prog
abbrev EP:=Ending->World->Prop
abbrev r0q(e:Ending)(F:Int->Int->Int->Int->Int->Int->Prop):Prop:=∃a0 a1 a2 a3 a4 a5:Int,e=.returned (.agg #[Iv a0,Iv a1,Iv a2,Iv a3,Iv a4,Iv a5])/\F a0 a1 a2 a3 a4 a5
abbrev r1q(e:Ending)(F:OA->Nat->Nat->Bool->Int->Prop):Prop:=∃a0:OA,∃a1 a2:Nat,∃a3:Bool,∃a4:Int,e=.returned (.tuple #[.slice a0 a1 a2,.bool a3,Iv a4])/\F a0 a1 a2 a3 a4
abbrev r2q(e:Ending)(F:OA->Int->Prop):Prop:=∃a0:OA,∃a1:Int,e=.returned (.tuple #[.pointer a0,Iv a1])/\F a0 a1
abbrev r3q(e:Ending)(F:Bool->Prop):Prop:=∃a0:Bool,e=.returned (.bool a0)/\F a0
abbrev r4q(e:Ending)(F:Int->Prop):Prop:=∃a0:Int,e=.returned (Iv a0)/\F a0
abbrev r5q(e:Ending)(F:Int->Int->Int->Int->Int->Int->Int->Int->OA->Nat->Nat->Int->Int->Int->Bool->Int->Prop):Prop:=∃a0 a1 a2 a3 a4 a5 a6 a7:Int,∃a8:OA,∃a9 a10:Nat,∃a11 a12 a13:Int,∃a14:Bool,∃a15:Int,e=.returned (.tuple #[.agg #[Iv a0,Iv a1,Iv a2,Iv a3,Iv a4,Iv a5,Iv a6,Iv a7,.slice a8 a9 a10,Iv a11,Iv a12,Iv a13,.bool a14],Iv a15])/\F a0 a1 a2 a3 a4 a5 a6 a7 a8 a9 a10 a11 a12 a13 a14 a15
abbrev r6q(e:Ending)(F:Int->Int->Int->Int->Int->Int->Int->Int->Int->Int->Int->Int->Bool->OA->Nat->Nat->Int->Prop):Prop:=∃a0 a1 a2 a3 a4 a5 a6 a7 a8 a9 a10 a11:Int,∃a12:Bool,∃a13:OA,∃a14 a15:Nat,∃a16:Int,e=.returned (.tuple #[.agg #[Iv a0,Iv a1,Iv a2,Iv a3,Iv a4,Iv a5,Iv a6,Iv a7,Iv a8,Iv a9,Iv a10,Iv a11,.bool a12,.slice a13 a14 a15],Iv a16])/\F a0 a1 a2 a3 a4 a5 a6 a7 a8 a9 a10 a11 a12 a13 a14 a15 a16
abbrev r7q(e:Ending)(F:OA->Nat->Nat->Prop):Prop:=∃a0:OA,∃a1 a2:Nat,e=.returned (.slice a0 a1 a2)/\F a0 a1 a2
abbrev r8q(e:Ending)(F:OA->Nat->Nat->Bool->Prop):Prop:=∃a0:OA,∃a1 a2:Nat,∃a3:Bool,e=.returned (.tuple #[.slice a0 a1 a2,.bool a3])/\F a0 a1 a2 a3
abbrev r9q(e:Ending)(F:Int->Int->Int->Int->Int->Int->Int->Int->Int->Int->Int->Int->Bool->OA->Nat->Nat->OA->Nat->Nat->Int->Prop):Prop:=∃a0 a1 a2 a3 a4 a5 a6 a7 a8 a9 a10 a11:Int,∃a12:Bool,∃a13:OA,∃a14 a15:Nat,∃a16:OA,∃a17 a18:Nat,∃a19:Int,e=.returned (.tuple #[.agg #[Iv a0,Iv a1,Iv a2,Iv a3,Iv a4,Iv a5,Iv a6,Iv a7,Iv a8,Iv a9,Iv a10,Iv a11,.bool a12,.slice a13 a14 a15],.slice a16 a17 a18,Iv a19])/\F a0 a1 a2 a3 a4 a5 a6 a7 a8 a9 a10 a11 a12 a13 a14 a15 a16 a17 a18 a19
abbrev Aub(e:Ending)(F:Int->OA->Nat->Nat->Int->Prop):Prop:=∃a0:Int,∃a1:OA,∃a2 a3:Nat,∃a4:Int,e=.returned (.tuple #[.agg #[Iv a0,.slice a1 a2 a3],Iv a4])/\F a0 a1 a2 a3 a4
abbrev Bad(e:Ending)(F:OA->Prop):Prop:=∃a0:OA,e=.returned (.pointer a0)/\F a0
abbrev Ba6(e:Ending)(F:Int->Int->Int->Int->OA->Nat->Nat->Int->Prop):Prop:=∃a0 a1 a2 a3:Int,∃a4:OA,∃a5 a6:Nat,∃a7:Int,e=.returned (.tuple #[.agg #[Iv a0,Iv a1,Iv a2,Iv a3,.slice a4 a5 a6],Iv a7])/\F a0 a1 a2 a3 a4 a5 a6 a7
abbrev Bbq(e:Ending)(F:Int->Bool->Prop):Prop:=∃a0:Int,∃a1:Bool,e=.returned (.tuple #[Iv a0,.bool a1])/\F a0 a1
abbrev Ai8(e:Ending)(F:OA->Nat->Nat->Int->Prop):Prop:=∃a0:OA,∃a1 a2:Nat,∃a3:Int,e=.returned (.tuple #[.slice a0 a1 a2,Iv a3])/\F a0 a1 a2 a3
abbrev Ba4(e:Ending)(F:Int->Int->Int->Int->Int->Int->Int->Int->OA->Nat->Nat->Int->Int->Int->Bool->OA->Nat->Nat->Int->Prop):Prop:=∃a0 a1 a2 a3 a4 a5 a6 a7:Int,∃a8:OA,∃a9 a10:Nat,∃a11 a12 a13:Int,∃a14:Bool,∃a15:OA,∃a16 a17:Nat,∃a18:Int,e=.returned (.tuple #[.agg #[Iv a0,Iv a1,Iv a2,Iv a3,Iv a4,Iv a5,Iv a6,Iv a7,.slice a8 a9 a10,Iv a11,Iv a12,Iv a13,.bool a14],.slice a15 a16 a17,Iv a18])/\F a0 a1 a2 a3 a4 a5 a6 a7 a8 a9 a10 a11 a12 a13 a14 a15 a16 a17 a18
abbrev Aur(e:Ending)(F:Int->Int->Int->Int->Int->Int->Int->Int->Int->Int->Int->Int->Bool->OA->Nat->Nat->Prop):Prop:=∃a0 a1 a2 a3 a4 a5 a6 a7 a8 a9 a10 a11:Int,∃a12:Bool,∃a13:OA,∃a14 a15:Nat,e=.returned (.agg #[Iv a0,Iv a1,Iv a2,Iv a3,Iv a4,Iv a5,Iv a6,Iv a7,Iv a8,Iv a9,Iv a10,Iv a11,.bool a12,.slice a13 a14 a15])/\F a0 a1 a2 a3 a4 a5 a6 a7 a8 a9 a10 a11 a12 a13 a14 a15
abbrev Ayp(e:Ending)(F:Int->Int->Int->Int->Int->Int->Int->Int->OA->Nat->Nat->Int->Int->Int->Bool->Prop):Prop:=∃a0 a1 a2 a3 a4 a5 a6 a7:Int,∃a8:OA,∃a9 a10:Nat,∃a11 a12 a13:Int,∃a14:Bool,e=.returned (.agg #[Iv a0,Iv a1,Iv a2,Iv a3,Iv a4,Iv a5,Iv a6,Iv a7,.slice a8 a9 a10,Iv a11,Iv a12,Iv a13,.bool a14])/\F a0 a1 a2 a3 a4 a5 a6 a7 a8 a9 a10 a11 a12 a13 a14
abbrev Bbp(e:Ending)(F:Int->Int->Int->Prop):Prop:=∃a0 a1 a2:Int,e=.returned (.agg #[Iv a0,Iv a1,Iv a2])/\F a0 a1 a2
abbrev Awc(e:Ending)(F:Int->Int->Int->Int->OA->Nat->Nat->Int->Int->Int->Int->OA->Nat->Nat->Int->Prop):Prop:=∃a0 a1 a2 a3:Int,∃a4:OA,∃a5 a6:Nat,∃a7 a8 a9 a10:Int,∃a11:OA,∃a12 a13:Nat,∃a14:Int,e=.returned (.tuple #[.agg #[Iv a0,Iv a1,Iv a2,Iv a3,.slice a4 a5 a6],.agg #[Iv a7,Iv a8,Iv a9,Iv a10,.slice a11 a12 a13],Iv a14])/\F a0 a1 a2 a3 a4 a5 a6 a7 a8 a9 a10 a11 a12 a13 a14
abbrev Bbr(e:Ending)(F:Int->Bool->Int->OA->Nat->Nat->OA->Nat->Nat->Prop):Prop:=∃a0:Int,∃a1:Bool,∃a2:Int,∃a3:OA,∃a4 a5:Nat,∃a6:OA,∃a7 a8:Nat,e=.returned (.agg #[Iv a0,.bool a1,Iv a2,.slice a3 a4 a5,.slice a6 a7 a8])/\F a0 a1 a2 a3 a4 a5 a6 a7 a8
abbrev Ba7(e:Ending)(F:Int->Int->Int->Bool->Prop):Prop:=∃a0 a1 a2:Int,∃a3:Bool,e=.returned (.tuple #[Iv a0,Iv a1,Iv a2,.bool a3])/\F a0 a1 a2 a3
abbrev Ba2(e:Ending)(F:OA->Nat->Nat->Int->Int->Int->Int->Int->Int->Int->Int->OA->Nat->Nat->Int->Int->Int->Bool->Int->Int->Int->Int->Int->Int->Int->Int->Int->Int->Int->Int->Bool->OA->Nat->Nat->Int->Prop):Prop:=∃a0:OA,∃a1 a2:Nat,∃a3 a4 a5 a6 a7 a8 a9 a10:Int,∃a11:OA,∃a12 a13:Nat,∃a14 a15 a16:Int,∃a17:Bool,∃a18 a19 a20 a21 a22 a23 a24 a25 a26 a27 a28 a29:Int,∃a30:Bool,∃a31:OA,∃a32 a33:Nat,∃a34:Int,e=.returned (.tuple #[.slice a0 a1 a2,.agg #[Iv a3,Iv a4,Iv a5,Iv a6,Iv a7,Iv a8,Iv a9,Iv a10,.slice a11 a12 a13,Iv a14,Iv a15,Iv a16,.bool a17],.agg #[Iv a18,Iv a19,Iv a20,Iv a21,Iv a22,Iv a23,Iv a24,Iv a25,Iv a26,Iv a27,Iv a28,Iv a29,.bool a30,.slice a31 a32 a33],Iv a34])/\F a0 a1 a2 a3 a4 a5 a6 a7 a8 a9 a10 a11 a12 a13 a14 a15 a16 a17 a18 a19 a20 a21 a22 a23 a24 a25 a26 a27 a28 a29 a30 a31 a32 a33 a34
abbrev c0q(w:World)(p:Addr)(F:Int->Int->Int->Int->Int->Int->Prop):Prop:=∃a0 a1 a2 a3 a4 a5:Int,cellsAt w p 0 [Iv a0,Iv a1,Iv a2,Iv a3,Iv a4,Iv a5]/\F a0 a1 a2 a3 a4 a5
abbrev c1q(w:World)(p:Addr)(F:Int->Int->Int->Int->Int->Int->Int->Int->OA->Nat->Nat->Int->Int->Int->Bool->Prop):Prop:=∃a0 a1 a2 a3 a4 a5 a6 a7:Int,∃a8:OA,∃a9 a10:Nat,∃a11 a12 a13:Int,∃a14:Bool,cellsAt w p 0 [Iv a0,Iv a1,Iv a2,Iv a3,Iv a4,Iv a5,Iv a6,Iv a7,.slice a8 a9 a10,Iv a11,Iv a12,Iv a13,.bool a14]/\F a0 a1 a2 a3 a4 a5 a6 a7 a8 a9 a10 a11 a12 a13 a14
abbrev c2q(w:World)(p:Addr)(F:Int->Int->Int->Int->Int->Int->Int->Int->Int->Int->Int->Int->Bool->OA->Nat->Nat->Prop):Prop:=∃a0 a1 a2 a3 a4 a5 a6 a7 a8 a9 a10 a11:Int,∃a12:Bool,∃a13:OA,∃a14 a15:Nat,cellsAt w p 0 [Iv a0,Iv a1,Iv a2,Iv a3,Iv a4,Iv a5,Iv a6,Iv a7,Iv a8,Iv a9,Iv a10,Iv a11,.bool a12,.slice a13 a14 a15]/\F a0 a1 a2 a3 a4 a5 a6 a7 a8 a9 a10 a11 a12 a13 a14 a15
abbrev c3q(w:World)(p:Addr)(F:Int->OA->Nat->Nat->Int->Int->OA->Nat->Nat->Prop):Prop:=∃a0:Int,∃a1:OA,∃a2 a3:Nat,∃a4 a5:Int,∃a6:OA,∃a7 a8:Nat,cellsAt w p 0 [Iv a0,.slice a1 a2 a3,Iv a4,Iv a5,.slice a6 a7 a8]/\F a0 a1 a2 a3 a4 a5 a6 a7 a8
abbrev c4q(w:World)(p:Addr)(F:Int->Bool->Int->OA->Nat->Nat->OA->Nat->Nat->Prop):Prop:=∃a0:Int,∃a1:Bool,∃a2:Int,∃a3:OA,∃a4 a5:Nat,∃a6:OA,∃a7 a8:Nat,cellsAt w p 0 [Iv a0,.bool a1,Iv a2,.slice a3 a4 a5,.slice a6 a7 a8]/\F a0 a1 a2 a3 a4 a5 a6 a7 a8
abbrev c5q(w:World)(p:Addr)(F:Int->Int->Prop):Prop:=∃a0 a1:Int,cellsAt w p 0 [Iv a0,Iv a1]/\F a0 a1
abbrev c6q(w:World)(p:Addr)(F:Int->OA->Nat->Nat->Prop):Prop:=∃a0:Int,∃a1:OA,∃a2 a3:Nat,cellsAt w p 0 [Iv a0,.slice a1 a2 a3]/\F a0 a1 a2 a3
abbrev c7q(w:World)(p:Addr)(F:Int->Int->Int->Prop):Prop:=∃a0 a1 a2:Int,cellsAt w p 0 [Iv a0,Iv a1,Iv a2]/\F a0 a1 a2
abbrev c8q(w:World)(p:Addr)(F:Int->Int->Int->Int->OA->Nat->Nat->Int->Bool->Prop):Prop:=∃a0 a1 a2 a3:Int,∃a4:OA,∃a5 a6:Nat,∃a7:Int,∃a8:Bool,cellsAt w p 0 [Iv a0,Iv a1,Iv a2,Iv a3,.slice a4 a5 a6,Iv a7,.bool a8]/\F a0 a1 a2 a3 a4 a5 a6 a7 a8
abbrev c9q(w:World)(p:Addr)(F:Int->Int->Int->Int->OA->Nat->Nat->Prop):Prop:=∃a0 a1 a2 a3:Int,∃a4:OA,∃a5 a6:Nat,cellsAt w p 0 [Iv a0,Iv a1,Iv a2,Iv a3,.slice a4 a5 a6]/\F a0 a1 a2 a3 a4 a5 a6
abbrev m0q(a0 a1 a2 a3 a4 a5:Int):Value:=.agg #[Iv a0,Iv a1,Iv a2,Iv a3,Iv a4,Iv a5]
abbrev m1q(a0 a1 a2 a3 a4 a5:Int):Array Value:=#[Iv a0,Iv a1,Iv a2,Iv a3,Iv a4,Iv a5]
abbrev z2q:Array Value:=#[Iv 0,Iv 0,Iv 0,Iv 0,Iv 0,Iv 0,Iv 0,Iv 0,.slice none 0 0,Iv 0,Iv 0,Iv 0,.bool false]
abbrev z3q:Array Value:=#[Iv 0,Iv 0,Iv 0,Iv 0,Iv 0,Iv 0,Iv 0,Iv 0,Iv 0,Iv 0,Iv 0,Iv 0,.bool false,.slice none 0 0]
abbrev z4q:List Value:=[Iv 0,Iv 0,Iv 0,Iv 0,Iv 0,Iv 0,Iv 0,Iv 0,.slice none 0 0,Iv 0,Iv 0,Iv 0,.bool false]
abbrev z5q:List Value:=[Iv 0,Iv 0,Iv 0,Iv 0,Iv 0,Iv 0,Iv 0,Iv 0,Iv 0,Iv 0,Iv 0,Iv 0,.bool false,.slice none 0 0]
abbrev m6q(a0 a1 a2 a3 a4 a5 a6 a7:Int)(a8:OA)(a9 a10:Nat)(a11 a12 a13:Int)(a14:Bool):Value:=.agg #[Iv a0,Iv a1,Iv a2,Iv a3,Iv a4,Iv a5,Iv a6,Iv a7,.slice a8 a9 a10,Iv a11,Iv a12,Iv a13,.bool a14]
abbrev m7q(a0 a1 a2 a3 a4 a5 a6 a7 a8 a9 a10 a11:Int)(a12:Bool)(a13:OA)(a14 a15:Nat):Value:=.agg #[Iv a0,Iv a1,Iv a2,Iv a3,Iv a4,Iv a5,Iv a6,Iv a7,Iv a8,Iv a9,Iv a10,Iv a11,.bool a12,.slice a13 a14 a15]
abbrev m8q(a0 a1 a2 a3 a4 a5 a6 a7:Int)(a8:OA)(a9 a10:Nat)(a11 a12 a13:Int)(a14:Bool):List Value:=[Iv a0,Iv a1,Iv a2,Iv a3,Iv a4,Iv a5,Iv a6,Iv a7,.slice a8 a9 a10,Iv a11,Iv a12,Iv a13,.bool a14]
abbrev m9q(a0 a1 a2 a3 a4 a5 a6 a7 a8 a9 a10 a11:Int)(a12:Bool)(a13:OA)(a14 a15:Nat):List Value:=[Iv a0,Iv a1,Iv a2,Iv a3,Iv a4,Iv a5,Iv a6,Iv a7,Iv a8,Iv a9,Iv a10,Iv a11,.bool a12,.slice a13 a14 a15]
abbrev Zb(a0 a1 a2 a3 a4 a5 a6 a7:Int)(a8:OA)(a9 a10:Nat)(a11 a12 a13:Int)(a14:Bool):Array Value:=#[Iv a0,Iv a1,Iv a2,Iv a3,Iv a4,Iv a5,Iv a6,Iv a7,.slice a8 a9 a10,Iv a11,Iv a12,Iv a13,.bool a14]
abbrev Anj:Array Value:=#[Iv 0,.slice none 0 0,Iv 0,Iv 0,.slice none 0 0]
abbrev Anm(a0:Int)(a1:OA)(a2 a3:Nat)(a4 a5:Int)(a6:OA)(a7 a8:Nat):List Value:=[Iv a0,.slice a1 a2 a3,Iv a4,Iv a5,.slice a6 a7 a8]
abbrev Wu(a0 a1 a2 a3 a4 a5 a6 a7 a8 a9 a10 a11:Int)(a12:Bool)(a13:OA)(a14 a15:Nat):Array Value:=#[Iv a0,Iv a1,Iv a2,Iv a3,Iv a4,Iv a5,Iv a6,Iv a7,Iv a8,Iv a9,Iv a10,Iv a11,.bool a12,.slice a13 a14 a15]
abbrev Aj7:Array Value:=#[Iv 0,.bool false,Iv 0,.slice none 0 0,.slice none 0 0]
abbrev Aap(a0:Int)(a1:Bool)(a2:Int)(a3:OA)(a4 a5:Nat)(a6:OA)(a7 a8:Nat):List Value:=[Iv a0,.bool a1,Iv a2,.slice a3 a4 a5,.slice a6 a7 a8]
abbrev Bbm:Array Value:=#[Iv 0,Iv 0,Iv 0,Iv 0,Iv 0,Iv 0]
abbrev Bbu(a0 a1 a2 a3 a4 a5 a6 a7:Int)(a8:OA)(a9 a10:Nat)(a11 a12 a13:Int)(a14:Bool)(a15 a16 a17 a18 a19 a20 a21 a22 a23 a24 a25 a26:Int)(a27:Bool)(a28:OA)(a29 a30:Nat)(a31:OA)(a32 a33:Nat)(a34:OA)(a35 a36:Nat)(a37:OA)(a38 a39:Nat)(a40:OA)(a41 a42:Nat):Array Value:=#[Iv a0,Iv a1,Iv a2,Iv a3,Iv a4,Iv a5,Iv a6,Iv a7,.slice a8 a9 a10,Iv a11,Iv a12,Iv a13,.bool a14,Iv a15,Iv a16,Iv a17,Iv a18,Iv a19,Iv a20,Iv a21,Iv a22,Iv a23,Iv a24,Iv a25,Iv a26,.bool a27,.slice a28 a29 a30,.slice a31 a32 a33,.slice a34 a35 a36,.slice a37 a38 a39,.slice a40 a41 a42]
abbrev Bbo(a0 a1 a2 a3 a4 a5 a6 a7:Int)(a8:OA)(a9 a10:Nat)(a11 a12 a13:Int)(a14:Bool)(a15 a16 a17 a18 a19 a20 a21 a22 a23 a24 a25 a26:Int)(a27:Bool)(a28:OA)(a29 a30:Nat)(a31:OA)(a32 a33:Nat)(a34:Int)(a35:OA)(a36 a37:Nat)(a38:OA)(a39 a40:Nat)(a41:OA)(a42 a43:Nat):Array Value:=#[Iv a0,Iv a1,Iv a2,Iv a3,Iv a4,Iv a5,Iv a6,Iv a7,.slice a8 a9 a10,Iv a11,Iv a12,Iv a13,.bool a14,Iv a15,Iv a16,Iv a17,Iv a18,Iv a19,Iv a20,Iv a21,Iv a22,Iv a23,Iv a24,Iv a25,Iv a26,.bool a27,.slice a28 a29 a30,.slice a31 a32 a33,Iv a34,.slice a35 a36 a37,.slice a38 a39 a40,.slice a41 a42 a43]
abbrev Nt:Array Value:=#[Iv 0,Iv 0,Iv 0,Iv 0,.slice none 0 0]
abbrev Lf(a0 a1 a2 a3:Int)(a4:OA)(a5 a6:Nat):List Value:=[Iv a0,Iv a1,Iv a2,Iv a3,.slice a4 a5 a6]
abbrev Azk(a0 a1 a2 a3:Int)(a4:OA)(a5 a6:Nat)(a7:Int)(a8:Bool):Value:=.agg #[Iv a0,Iv a1,Iv a2,Iv a3,.slice a4 a5 a6,Iv a7,.bool a8]
abbrev Fo(a0 a1 a2 a3:Int)(a4:OA)(a5 a6:Nat):Value:=.agg #[Iv a0,Iv a1,Iv a2,Iv a3,.slice a4 a5 a6]
abbrev Abc(a0:Int)(a1:Bool)(a2:Int)(a3:OA)(a4 a5:Nat)(a6:OA)(a7 a8:Nat):Value:=.agg #[Iv a0,.bool a1,Iv a2,.slice a3 a4 a5,.slice a6 a7 a8]
abbrev Baa:Array Value:=#[Iv 0,Iv 0,Iv 0,Iv 0,.slice none 0 0,Iv 0,.bool false]
abbrev Bas(a0 a1 a2 a3:Int)(a4:OA)(a5 a6:Nat)(a7:Int)(a8:Bool):List Value:=[Iv a0,Iv a1,Iv a2,Iv a3,.slice a4 a5 a6,Iv a7,.bool a8]
abbrev Arh(a0:Int)(a1:OA)(a2 a3:Nat)(a4 a5:Int)(a6:OA)(a7 a8:Nat):Value:=.agg #[Iv a0,.slice a1 a2 a3,Iv a4,Iv a5,.slice a6 a7 a8]
abbrev Agr(a0:Int)(a1:OA)(a2 a3:Nat)(a4 a5:Int)(a6:OA)(a7 a8:Nat):Array Value:=#[Iv a0,.slice a1 a2 a3,Iv a4,Iv a5,.slice a6 a7 a8]
abbrev Xe:List Value:=[Iv 0,Iv 0,Iv 0,Iv 0,.slice none 0 0]
abbrev Ah6(a0:Int)(a1:Bool)(a2:Int)(a3:OA)(a4 a5:Nat)(a6:OA)(a7 a8:Nat):Array Value:=#[Iv a0,.bool a1,Iv a2,.slice a3 a4 a5,.slice a6 a7 a8]
abbrev Ay5(a0 a1 a2 a3:Int)(a4:OA)(a5 a6:Nat)(a7:Int)(a8:Bool):Array Value:=#[Iv a0,Iv a1,Iv a2,Iv a3,.slice a4 a5 a6,Iv a7,.bool a8]
abbrev Akc(a0 a1 a2 a3:Int)(a4:OA)(a5 a6:Nat):Array Value:=#[Iv a0,Iv a1,Iv a2,Iv a3,.slice a4 a5 a6]
abbrev Bbw(a0 a1 a2:Int)(a3:Bool):Array Value:=#[Iv a0,Iv a1,Iv a2,.bool a3]
abbrev Bbv:Array Value:=#[Iv 0,Iv 0,Iv 0,.bool false]
end Go.Proofs.YtmbppohkadmjgaaGreat
