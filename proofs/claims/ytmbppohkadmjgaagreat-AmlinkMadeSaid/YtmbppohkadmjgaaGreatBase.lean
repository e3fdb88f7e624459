import Derived.Test.YtmbppohkadmjgaaGreatRows
import Derived.Test.YtmbppohkadmjgaaGreatKc
namespace Go.Proofs.YtmbppohkadmjgaaGreat
open Go.Sx
def rg(a n:Nat):List Nat:=List.range' a n
def so(i:Nat):Nat->Go.Sx.Can->Go.Sx.Can
 |0,x=>x
 |n+1,x=>.one i .stable (so (i+1) n x)
def po(i:Nat):Nat->Go.Sx.Can->Go.Sx.Can
 |0,x=>x
 |n+1,x=>.one i .pre (po (i+1) n x)
def ko(i:Nat):Nat->Go.Sx.Can->Go.Sx.Can
 |0,x=>x
 |n+1,x=>.one i .keep (ko (i+1) n x)
def lo(i:Nat):Nat->Go.Sx.Can->Go.Sx.Can
 |0,x=>x
 |n+1,x=>.one i .last (lo (i+1) n x)
def uo(i:Nat):Nat->Go.Sx.Can->Go.Sx.Can
 |0,x=>x
 |n+1,x=>.one i .pur (uo (i+1) n x)
abbrev sr(h:Go.Sx.H):Go.Sx.H:=.seq .reg h
abbrev sl:Go.Sx.H:=sr .leaf
abbrev sc:Go.Sx.H:=sr (.cond sl .leaf)
def Jf:Nat:=5
def Tm:Nat:=6
def Zu:Nat:=8
def Ga:Nat:=9
def Abf:Nat:=10
def Qx:Nat:=12
def Mz:Nat:=13
def Gr:Nat:=14
def Gz:Nat:=15
def Jd:Nat:=16
def Ni:Nat:=17
def Zw:Nat:=18
def Acn:Nat:=19
def Te:Nat:=20
def Zj:Nat:=21
def Zq:Nat:=22
def Jm:Nat:=23
def Ml:Nat:=24
def Kk:Nat:=25
def Dl:Nat:=26
def Zb:Nat:=27
def Bu:Nat:=28
def Ep:Nat:=29
def Ov:Nat:=30
def Qj:Nat:=31
def Pg:Nat:=32
def Ed:Nat:=33
def Eo:Nat:=34
def Nx:Nat:=35
def Rb:Nat:=36
def Fh:Nat:=37
def Fx:Nat:=38
def Np:Nat:=39
def Jg:Nat:=40
def Qi:Nat:=41
def Hy:Nat:=42
def Af9:Nat:=43
def Zh:Nat:=44
def Ug:Nat:=45
def Ik:Nat:=46
def Dz:Nat:=47
def Fz:Nat:=48
def Ki:Nat:=49
def Df:Nat:=50
def Nn:Nat:=51
def Sf:Nat:=52
def Nf:Nat:=53
def Kq:Nat:=54
def Jl:Nat:=55
def Hw:Nat:=56
def Ko:Nat:=57
def Acj:Nat:=58
def Adb:Nat:=59
def Px:Nat:=60
def Jn:Nat:=61
def Pm:Nat:=62
def Ow:Nat:=63
def Kp:Nat:=64
def Jj:Nat:=65
def Hv:Nat:=66
def Kn:Nat:=67
def Rd:Nat:=68
def Iw:Nat:=69
def Ev:Nat:=70
def Er:Nat:=71
def Ii:Nat:=72
def Ie:Nat:=73
def Qr:Nat:=74
def Lb:Nat:=75
def Cr:Nat:=76
def Be:Nat:=77
def Hj:Nat:=78
def Ij:Nat:=79
def Fi:Nat:=80
def Dm:Nat:=81
def Di:Nat:=82
def Ll:Nat:=83
def Hu:Nat:=84
def Fo:Nat:=85
def Dw:Nat:=86
def Gk:Nat:=87
def Km:Nat:=88
def Dg:Nat:=89
def Nb:Nat:=90
def We:Nat:=91
def Py:Nat:=92
def Kx:Nat:=93
def Hx:Nat:=94
def Cj:Nat:=95
def Qt:Nat:=96
def Me:Nat:=97
def Lh:Nat:=98
def Ng:Nat:=99
def Ud:Nat:=100
def Jk:Nat:=101
def Po:Nat:=102
def Wd:Nat:=103
def Rw:Nat:=104
def Fp:Nat:=105
def Ju:Nat:=106
def Pp:Nat:=107
def Ua:Nat:=108
def Acf:Nat:=109
def Ja:Nat:=110
def Om:Nat:=111
def Jv:Nat:=112
def Mo:Nat:=113
def Je:Nat:=114
def Ry:Nat:=115
def Wp:Nat:=116
def Pu:Nat:=117
def Qy:Nat:=118
def Tq:Nat:=119
def Yw:Nat:=120
def Ze:Nat:=121
def Cl:Nat:=122
def Dh:Nat:=123
def Hm:Nat:=124
def Dq:Nat:=125
def Cs:Nat:=126
def Ck:Nat:=127
def Ok:Nat:=128
def Jr:Nat:=129
def Hi:Nat:=130
def Fq:Nat:=131
def Iy:Nat:=132
def Rn:Nat:=133
def Pv:Nat:=134
def Pj:Nat:=135
def Rs:Nat:=136
def Fk:Nat:=137
def Fg:Nat:=138
def Ma:Nat:=139
def Mj:Nat:=140
def Vs:Nat:=141
def Eg:Nat:=142
def Gi:Nat:=143
def Vq:Nat:=144
def Ih:Nat:=145
def Gb:Nat:=146
def Wk:Nat:=147
def Kl:Nat:=148
def Qg:Nat:=149
def Ph:Nat:=150
def Zv:Nat:=151
def Bx:Nat:=152
def Nd:Nat:=153
def Pw:Nat:=154
def Mr:Nat:=155
def Mh:Nat:=156
def Adc:Nat:=157
def Vu:Nat:=158
def Rf:Nat:=159
def Jt:Nat:=160
def Su:Nat:=161
def Zx:Nat:=162
def Sr:Nat:=163
def Ab2:Nat:=164
def Ta:Nat:=165
def Tp:Nat:=166
def Tj:Nat:=167
def Acl:Nat:=168
def Ns:Nat:=169
def Gg:Nat:=170
def Lg:Nat:=171
def Hp:Nat:=172
def Ci:Nat:=173
def Uj:Nat:=175
def Ew:Nat:=176
def Du:Nat:=177
def Nm:Nat:=178
def Dn:Nat:=179
def Ke:Nat:=180
def Cp:Nat:=181
def Hg:Nat:=182
def Ha:Nat:=183
def Ia:Nat:=184
def Vw:Nat:=185
def Ff:Nat:=186
def Oo:Nat:=187
def Oz:Nat:=188
def Wh:Nat:=189
def Kz:Nat:=190
def Oi:Nat:=191
def El:Nat:=192
def La:Nat:=193
def Dp:Nat:=194
def Dy:Nat:=196
def Lc:Nat:=197
def De:Nat:=198
def Et:Nat:=199
def Fl:Nat:=200
def Ib:Nat:=3
def Ba0:Nat:=4
def Az:Nat:=5
def Adt:Nat:=9
def Ct:Nat:=27
def Bz:Nat:=30
def Fy:Nat:=32
def Qz:Nat:=35
def As:Nat:=38
def Co:Nat:=42
def Ab:Nat:=44
def Bg:Nat:=45
def Ag:Nat:=47
def Ar:Nat:=56
def Ae:Nat:=58
def Gd:Nat:=62
def Qd:Nat:=64
def Nh:Nat:=72
def Afa:Nat:=74
def Ot:Nat:=80
def Ac:Nat:=83
def Ai:Nat:=98
def Af:Nat:=104
def Ub:Nat:=109
def Ap:Nat:=112
def Cd:Nat:=116
def Dd:Nat:=118
def Xk:Nat:=130
def Akm:Nat:=135
def Bb:Nat:=139
def Gw:Nat:=167
def TTl:List (List Kind):=[
 [],
 [.p .fn],
 [.p (.int .i64)],
 [.p (.int .i64)],
 [.p .bool],
 [.p (.int .u8)],
 [.p (.int .u8)],
 [.agg [.int .i64,.int .i64,.bool,.int .u8]],
 [.agg [.int .i64,.int .i64,.bool,.int .u8]],
 [.p .str],
 [.p .str],
 [.p .str],
 [.p (.int .u64)],
 [.agg [.str,.int .u64]],
 [.agg [.str,.int .u64]],
 [.p .ptr],
 [.p .ptr],
 [.p .ptr],
 [.agg [.ptr]],
 [.agg [.ptr]],
 [.p .val],
 [.p (.int .i32)],
 [.p .slice],
 [.p .fn],
 [.p .fn],
 [.p .ptr],
 [.p .fn],
 [.p .slice],
 [.p .fn],
 [.agg [.int .i64,.int .i64,.int .i64,.int .i64,.int .i64,.int .i64]],
 [.agg [.int .i64,.int .i64,.int .i64,.int .i64,.int .i64,.int .i64]],
 [.p .fn],
 [.p (.int .i64)],
 [.p .slice,.p .bool,.p (.int .i64)],
 [.p .fn],
 [.p .slice],
 [.p .fn],
 [.p .slice],
 [.p .slice],
 [.p .fn],
 [.p .fn],
 [.p .fn],
 [.p .slice],
 [.agg [.int .i64,.int .i64,.int .i64,.int .i64,.int .i64,.int .i64,.int .i64,.int .i64,.slice,.int .i64,.int .i64,.int .i64,.bool]],
 [.agg [.int .i64,.int .i64,.int .i64,.int .i64,.int .i64,.int .i64,.int .i64,.int .i64,.slice,.int .i64,.int .i64,.int .i64,.bool]],
 [.p .slice],
 [.agg [.int .i64,.int .i64,.int .i64,.int .i64,.int .i64,.int .i64,.int .i64,.int .i64,.int .i64,.int .i64,.int .i64,.int .i64,.bool,.slice]],
 [.agg [.int .i64,.int .i64,.int .i64,.int .i64,.int .i64,.int .i64,.int .i64,.int .i64,.int .i64,.int .i64,.int .i64,.int .i64,.bool,.slice]],
 [.p .slice,.agg [.int .i64,.int .i64,.int .i64,.int .i64,.int .i64,.int .i64,.int .i64,.int .i64,.slice,.int .i64,.int .i64,.int .i64,.bool],.agg [.int .i64,.int .i64,.int .i64,.int .i64,.int .i64,.int .i64,.int .i64,.int .i64,.int .i64,.int .i64,.int .i64,.int .i64,.bool,.slice],.p (.int .i64)],
 [.p .fn],
 [.p .fn],
 [.p .fn],
 [.p .fn],
 [.p .fn],
 [.p .fn],
 [.p .fn],
 [.p .slice],
 [.agg [.int .i64,.slice,.int .i64,.int .i64,.slice]],
 [.agg [.int .i64,.slice,.int .i64,.int .i64,.slice]],
 [.p .fn],
 [.p (.int .u64)],
 [.agg [.int .i64,.int .i64]],
 [.agg [.int .i64,.int .i64]],
 [.agg [.slice,.int .i64]],
 [.agg [.slice,.int .i64]],
 [.p .fn],
 [.p .fn],
 [.p .fn],
 [.p .fn],
 [.p .ptr],
 [.p .ptr,.p (.int .i64)],
 [.p .fn],
 [.p .slice],
 [.agg [.int .i64,.int .i64,.int .i64,.int .i64,.int .i64,.int .i64,.int .i64,.int .i64,.slice,.int .i64,.int .i64,.int .i64,.bool,.int .i64,.int .i64,.int .i64,.int .i64,.int .i64,.int .i64,.int .i64,.int .i64,.int .i64,.int .i64,.int .i64,.int .i64,.bool,.slice,.slice,.slice,.slice,.slice]],
 [.agg [.int .i64,.int .i64,.int .i64,.int .i64,.int .i64,.int .i64,.int .i64,.int .i64,.slice,.int .i64,.int .i64,.int .i64,.bool,.int .i64,.int .i64,.int .i64,.int .i64,.int .i64,.int .i64,.int .i64,.int .i64,.int .i64,.int .i64,.int .i64,.int .i64,.bool,.slice,.slice,.slice,.slice,.slice]],
 [.p .fn],
 [.p .ptr],
 [.p .ptr,.p (.int .i64)],
 [.p .fn],
 [.agg [.int .i64,.int .i64,.int .i64,.int .i64,.int .i64,.int .i64,.int .i64,.int .i64,.slice,.int .i64,.int .i64,.int .i64,.bool,.int .i64,.int .i64,.int .i64,.int .i64,.int .i64,.int .i64,.int .i64,.int .i64,.int .i64,.int .i64,.int .i64,.int .i64,.bool,.slice,.slice,.int .i64,.slice,.slice,.slice]],
 [.agg [.int .i64,.int .i64,.int .i64,.int .i64,.int .i64,.int .i64,.int .i64,.int .i64,.slice,.int .i64,.int .i64,.int .i64,.bool,.int .i64,.int .i64,.int .i64,.int .i64,.int .i64,.int .i64,.int .i64,.int .i64,.int .i64,.int .i64,.int .i64,.int .i64,.bool,.slice,.slice,.int .i64,.slice,.slice,.slice]],
 [.p .fn],
 [.agg [.int .i64,.bool,.int .i64,.slice,.slice]],
 [.agg [.int .i64,.bool,.int .i64,.slice,.slice]],
 [.p .fn],
 [.agg [.int .i64,.int .i64,.int .i64,.int .i64,.int .i64,.int .i64,.int .i64,.int .i64,.slice,.int .i64,.int .i64,.int .i64,.bool],.p (.int .i64)],
 [.p .fn],
 [.agg [.int .i64,.int .i64,.int .i64,.int .i64,.int .i64,.int .i64,.int .i64,.int .i64,.int .i64,.int .i64,.int .i64,.int .i64,.bool,.slice],.p (.int .i64)],
 [.p .fn],
 [.p .fn],
 [.p .fn],
 [.p .fn],
 [.p .fn],
 [.p .slice,.p .bool],
 [.p .fn],
 [.agg [.int .i64,.int .i64,.int .i64,.int .i64,.int .i64,.int .i64,.int .i64,.int .i64,.int .i64,.int .i64,.int .i64,.int .i64,.bool,.slice],.p .slice,.p (.int .i64)],
 [.p .fn],
 [.agg [.int .i64,.slice]],
 [.agg [.int .i64,.slice]],
 [.agg [.int .i64,.slice],.p (.int .i64)],
 [.p .fn],
 [.p .fn],
 [.p .fn],
 [.agg [.int .i64,.int .i64,.int .i64]],
 [.agg [.int .i64,.int .i64,.int .i64]],
 [.p .fn],
 [.p .fn],
 [.p .ptr],
 [.p .fn],
 [.p .ptr],
 [.p .fn],
 [.agg [.int .i64,.int .i64,.int .i64,.int .i64,.slice]],
 [.agg [.int .i64,.int .i64,.int .i64,.int .i64,.slice]],
 [.agg [.int .i64,.int .i64,.int .i64,.int .i64,.slice],.p (.int .i64)],
 [.p .fn],
 [.agg [.int .i64,.int .i64,.int .i64,.int .i64,.int .i64,.int .i64,.int .i64,.int .i64,.int .i64,.int .i64,.int .i64,.int .i64,.bool,.slice]],
 [.agg [.int .i64,.int .i64,.int .i64,.int .i64,.int .i64,.int .i64,.int .i64,.int .i64,.int .i64,.int .i64,.int .i64,.int .i64,.bool,.slice]],
 [.agg [.int .i64,.int .i64,.int .i64,.int .i64,.slice,.int .i64,.bool]],
 [.agg [.int .i64,.int .i64,.int .i64,.int .i64,.slice,.int .i64,.bool]],
 [.p (.int .i64),.p .bool],
 [.p .fn],
 [.p .fn],
 [.p .fn],
 [.p .fn],
 [.p .fn],
 [.p .ptr],
 [.p .fn],
 [.p .fn],
 [.p .ptr],
 [.agg [.slice]],
 [.agg [.slice]],
 [.p .slice,.p (.int .i64)],
 [.p .fn],
 [.p .fn],
 [.p .fn],
 [.p .ptr],
 [.p .ptr,.p (.int .i64)],
 [.p .fn],
 [.agg [.int .i64,.int .i64,.int .i64,.int .i64,.int .i64,.int .i64,.int .i64,.int .i64,.slice,.int .i64,.int .i64,.int .i64,.bool]],
 [.agg [.int .i64,.int .i64,.int .i64,.int .i64,.int .i64,.int .i64,.int .i64,.int .i64,.slice,.int .i64,.int .i64,.int .i64,.bool]],
 [.p .slice,.p .bool],
 [.p .fn],
 [.p .fn],
 [.p .ptr],
 [.p .fn],
 [.p .fn],
 [.agg [.int .i64,.int .i64,.int .i64,.int .i64,.int .i64,.int .i64,.int .i64,.int .i64,.slice,.int .i64,.int .i64,.int .i64,.bool],.p .slice,.p (.int .i64)],
 [.p .fn],
 [.p .fn],
 [.p .fn],
 [.p .fn],
 [.p .fn],
 [.p .fn],
 [.p .fn],
 [.p .fn],
 [.p .fn],
 [.p .ptr],
 [.p .fn],
 [.p .fn],
 [.p .fn],
 [.p .fn],
 [.p .fn],
 [.p .fn],
 [.p .fn],
 [.p .slice,.p (.int .i64)],
 [.p .fn],
 [.agg []],
 [.agg []],
 [.p .fn],
 [.p .fn],
 [.p .fn],
 [.p .fn],
 [.agg [.int .i64,.int .i64,.int .i64,.int .i64,.slice],.agg [.int .i64,.int .i64,.int .i64,.int .i64,.slice],.p (.int .i64)],
 [.p .fn],
 [.p .fn],
 [.p .fn],
 [.p .ptr],
 [.p .fn],
 [.p .fn],
 [.p .fn],
 [.p .fn],
 [.p .fn],
 [.p .fn],
 [.p .fn],
 [.p .fn],
 [.p (.int .i64),.p (.int .i64),.p (.int .i64),.p .bool],
 [.p .fn],
 [.p .fn],
 [.p .fn],
 [.p .fn],
 [.p .fn],
 [.p .fn],
 [.p .fn],
 [.p .fn],
 [.p .fn],
 [.p .fn],
 [.p .fn],
 [.p .fn],
 [.p .fn],
 [.p .fn],
 [.p .slice],
 [.p .fn],
 [.p .fn],
 [.p .fn],
 [.p .fn],
 [.agg [.ptr,.ptr,.ptr,.str]],
 [.agg [.ptr,.ptr,.ptr,.str]],
 [.agg []],
 [.agg []],
 [.agg []],
 [.p (.int .u32)],
 [.p (.int .u8)],
 [.p (.int .u8)],
 [.p .fn],
 [.p .ptr],
 [.p (.int .i32)],
 [.p (.int .i32)],
 [.agg [.int .u64,.int .u64,.int .u32,.int .u8,.int .u8,.int .u8,.int .u8,.fn,.ptr,.int .i32,.int .i32]],
 [.agg [.int .u64,.int .u64,.int .u32,.int .u8,.int .u8,.int .u8,.int .u8,.fn,.ptr,.int .i32,.int .i32]],
 [.p .val]]
def TTk(t:TypeId):List Kind:=TTl.getD t []
abbrev TT:Cx:=⟨TTk,none⟩
theorem Ah:Tryz.prog.follows .mixedOrders=true:=by kernel_rfl
theorem zk{h:H}{f:FuncId}{n:Func}{a:Array Value}{w:World}{R:Ending->World->Prop}{Q:Prop}(x:Tryz.prog.funcs[f]?=some n)(e:Ba5 Tryz.prog ⟨TTk,none⟩ h n a w (fun v w'=>R (.returned v) w')=Q)(q:Q):Calls Tryz.prog f a w R:=Ak Ah x (e▸q)
abbrev Iv(x:Int):Value:=.int .i64 x
abbrev OA:=Option Addr
abbrev WP:=World->Prop
abbrev CP:=Calls Tryz.prog
abbrev EP:=Ending->World->Prop
abbrev r0q(e:Ending)(F:Int->Int->Int->Int->Int->Int->Prop):Prop:=∃a0 a1 a2 a3 a4 a5:Int,e=.returned (.agg #[Iv a0,Iv a1,Iv a2,Iv a3,Iv a4,Iv a5])/\F a0 a1 a2 a3 a4 a5
abbrev r1q(e:Ending)(F:OA->Nat->Nat->Bool->Int->Prop):Prop:=∃a0:OA,∃a1 a2:Nat,∃a3:Bool,∃a4:Int,e=.returned (.tuple #[.slice a0 a1 a2,.bool a3,Iv a4])/\F a0 a1 a2 a3 a4
abbrev r2q(e:Ending)(F:Int->Prop):Prop:=∃a0:Int,e=.returned (Iv a0)/\F a0
abbrev r3q(e:Ending)(F:OA->Int->Prop):Prop:=∃a0:OA,∃a1:Int,e=.returned (.tuple #[.pointer a0,Iv a1])/\F a0 a1
abbrev r4q(e:Ending)(F:Bool->Prop):Prop:=∃a0:Bool,e=.returned (.bool a0)/\F a0
abbrev r5q(e:Ending)(F:OA->Nat->Nat->Prop):Prop:=∃a0:OA,∃a1 a2:Nat,e=.returned (.slice a0 a1 a2)/\F a0 a1 a2
abbrev r6q(e:Ending)(F:Int->Int->Int->Int->Int->Int->Int->Int->OA->Nat->Nat->Int->Int->Int->Bool->Int->Prop):Prop:=∃a0 a1 a2 a3 a4 a5 a6 a7:Int,∃a8:OA,∃a9 a10:Nat,∃a11 a12 a13:Int,∃a14:Bool,∃a15:Int,e=.returned (.tuple #[.agg #[Iv a0,Iv a1,Iv a2,Iv a3,Iv a4,Iv a5,Iv a6,Iv a7,.slice a8 a9 a10,Iv a11,Iv a12,Iv a13,.bool a14],Iv a15])/\F a0 a1 a2 a3 a4 a5 a6 a7 a8 a9 a10 a11 a12 a13 a14 a15
abbrev r7q(e:Ending)(F:Int->Int->Int->Int->Int->Int->Int->Int->Int->Int->Int->Int->Bool->OA->Nat->Nat->Int->Prop):Prop:=∃a0 a1 a2 a3 a4 a5 a6 a7 a8 a9 a10 a11:Int,∃a12:Bool,∃a13:OA,∃a14 a15:Nat,∃a16:Int,e=.returned (.tuple #[.agg #[Iv a0,Iv a1,Iv a2,Iv a3,Iv a4,Iv a5,Iv a6,Iv a7,Iv a8,Iv a9,Iv a10,Iv a11,.bool a12,.slice a13 a14 a15],Iv a16])/\F a0 a1 a2 a3 a4 a5 a6 a7 a8 a9 a10 a11 a12 a13 a14 a15 a16
abbrev r8q(e:Ending)(F:OA->Nat->Nat->Bool->Prop):Prop:=∃a0:OA,∃a1 a2:Nat,∃a3:Bool,e=.returned (.tuple #[.slice a0 a1 a2,.bool a3])/\F a0 a1 a2 a3
abbrev r9q(e:Ending)(F:Int->Int->Int->Int->Int->Int->Int->Int->Int->Int->Int->Int->Bool->OA->Nat->Nat->OA->Nat->Nat->Int->Prop):Prop:=∃a0 a1 a2 a3 a4 a5 a6 a7 a8 a9 a10 a11:Int,∃a12:Bool,∃a13:OA,∃a14 a15:Nat,∃a16:OA,∃a17 a18:Nat,∃a19:Int,e=.returned (.tuple #[.agg #[Iv a0,Iv a1,Iv a2,Iv a3,Iv a4,Iv a5,Iv a6,Iv a7,Iv a8,Iv a9,Iv a10,Iv a11,.bool a12,.slice a13 a14 a15],.slice a16 a17 a18,Iv a19])/\F a0 a1 a2 a3 a4 a5 a6 a7 a8 a9 a10 a11 a12 a13 a14 a15 a16 a17 a18 a19
abbrev Awe(e:Ending)(F:Int->OA->Nat->Nat->Int->Prop):Prop:=∃a0:Int,∃a1:OA,∃a2 a3:Nat,∃a4:Int,e=.returned (.tuple #[.agg #[Iv a0,.slice a1 a2 a3],Iv a4])/\F a0 a1 a2 a3 a4
abbrev Bap(e:Ending)(F:OA->Prop):Prop:=∃a0:OA,e=.returned (.pointer a0)/\F a0
abbrev Bcu(e:Ending)(F:Int->Int->Int->Int->OA->Nat->Nat->Int->Prop):Prop:=∃a0 a1 a2 a3:Int,∃a4:OA,∃a5 a6:Nat,∃a7:Int,e=.returned (.tuple #[.agg #[Iv a0,Iv a1,Iv a2,Iv a3,.slice a4 a5 a6],Iv a7])/\F a0 a1 a2 a3 a4 a5 a6 a7
abbrev Bc9(e:Ending)(F:Int->Bool->Prop):Prop:=∃a0:Int,∃a1:Bool,e=.returned (.tuple #[Iv a0,.bool a1])/\F a0 a1
abbrev Ajy(e:Ending)(F:OA->Nat->Nat->Int->Prop):Prop:=∃a0:OA,∃a1 a2:Nat,∃a3:Int,e=.returned (.tuple #[.slice a0 a1 a2,Iv a3])/\F a0 a1 a2 a3
abbrev Bc3(e:Ending)(F:Int->Int->Int->Int->Int->Int->Int->Int->OA->Nat->Nat->Int->Int->Int->Bool->OA->Nat->Nat->Int->Prop):Prop:=∃a0 a1 a2 a3 a4 a5 a6 a7:Int,∃a8:OA,∃a9 a10:Nat,∃a11 a12 a13:Int,∃a14:Bool,∃a15:OA,∃a16 a17:Nat,∃a18:Int,e=.returned (.tuple #[.agg #[Iv a0,Iv a1,Iv a2,Iv a3,Iv a4,Iv a5,Iv a6,Iv a7,.slice a8 a9 a10,Iv a11,Iv a12,Iv a13,.bool a14],.slice a15 a16 a17,Iv a18])/\F a0 a1 a2 a3 a4 a5 a6 a7 a8 a9 a10 a11 a12 a13 a14 a15 a16 a17 a18
abbrev Awh(e:Ending)(F:Int->Int->Int->Int->Int->Int->Int->Int->Int->Int->Int->Int->Bool->OA->Nat->Nat->Prop):Prop:=∃a0 a1 a2 a3 a4 a5 a6 a7 a8 a9 a10 a11:Int,∃a12:Bool,∃a13:OA,∃a14 a15:Nat,e=.returned (.agg #[Iv a0,Iv a1,Iv a2,Iv a3,Iv a4,Iv a5,Iv a6,Iv a7,Iv a8,Iv a9,Iv a10,Iv a11,.bool a12,.slice a13 a14 a15])/\F a0 a1 a2 a3 a4 a5 a6 a7 a8 a9 a10 a11 a12 a13 a14 a15
abbrev Azr(e:Ending)(F:Int->Int->Int->Int->Int->Int->Int->Int->OA->Nat->Nat->Int->Int->Int->Bool->Prop):Prop:=∃a0 a1 a2 a3 a4 a5 a6 a7:Int,∃a8:OA,∃a9 a10:Nat,∃a11 a12 a13:Int,∃a14:Bool,e=.returned (.agg #[Iv a0,Iv a1,Iv a2,Iv a3,Iv a4,Iv a5,Iv a6,Iv a7,.slice a8 a9 a10,Iv a11,Iv a12,Iv a13,.bool a14])/\F a0 a1 a2 a3 a4 a5 a6 a7 a8 a9 a10 a11 a12 a13 a14
abbrev Bdd(e:Ending)(F:Int->Int->Int->Prop):Prop:=∃a0 a1 a2:Int,e=.returned (.agg #[Iv a0,Iv a1,Iv a2])/\F a0 a1 a2
abbrev Axx(e:Ending)(F:Int->Int->Int->Int->OA->Nat->Nat->Int->Int->Int->Int->OA->Nat->Nat->Int->Prop):Prop:=∃a0 a1 a2 a3:Int,∃a4:OA,∃a5 a6:Nat,∃a7 a8 a9 a10:Int,∃a11:OA,∃a12 a13:Nat,∃a14:Int,e=.returned (.tuple #[.agg #[Iv a0,Iv a1,Iv a2,Iv a3,.slice a4 a5 a6],.agg #[Iv a7,Iv a8,Iv a9,Iv a10,.slice a11 a12 a13],Iv a14])/\F a0 a1 a2 a3 a4 a5 a6 a7 a8 a9 a10 a11 a12 a13 a14
abbrev Bdf(e:Ending)(F:Int->Bool->Int->OA->Nat->Nat->OA->Nat->Nat->Prop):Prop:=∃a0:Int,∃a1:Bool,∃a2:Int,∃a3:OA,∃a4 a5:Nat,∃a6:OA,∃a7 a8:Nat,e=.returned (.agg #[Iv a0,.bool a1,Iv a2,.slice a3 a4 a5,.slice a6 a7 a8])/\F a0 a1 a2 a3 a4 a5 a6 a7 a8
abbrev Bc0(e:Ending)(F:Int->Int->Int->Bool->Prop):Prop:=∃a0 a1 a2:Int,∃a3:Bool,e=.returned (.tuple #[Iv a0,Iv a1,Iv a2,.bool a3])/\F a0 a1 a2 a3
abbrev Bcn(e:Ending)(F:OA->Nat->Nat->Int->Int->Int->Int->Int->Int->Int->Int->OA->Nat->Nat->Int->Int->Int->Bool->Int->Int->Int->Int->Int->Int->Int->Int->Int->Int->Int->Int->Bool->OA->Nat->Nat->Int->Prop):Prop:=∃a0:OA,∃a1 a2:Nat,∃a3 a4 a5 a6 a7 a8 a9 a10:Int,∃a11:OA,∃a12 a13:Nat,∃a14 a15 a16:Int,∃a17:Bool,∃a18 a19 a20 a21 a22 a23 a24 a25 a26 a27 a28 a29:Int,∃a30:Bool,∃a31:OA,∃a32 a33:Nat,∃a34:Int,e=.returned (.tuple #[.slice a0 a1 a2,.agg #[Iv a3,Iv a4,Iv a5,Iv a6,Iv a7,Iv a8,Iv a9,Iv a10,.slice a11 a12 a13,Iv a14,Iv a15,Iv a16,.bool a17],.agg #[Iv a18,Iv a19,Iv a20,Iv a21,Iv a22,Iv a23,Iv a24,Iv a25,Iv a26,Iv a27,Iv a28,Iv a29,.bool a30,.slice a31 a32 a33],Iv a34])/\F a0 a1 a2 a3 a4 a5 a6 a7 a8 a9 a10 a11 a12 a13 a14 a15 a16 a17 a18 a19 a20 a21 a22 a23 a24 a25 a26 a27 a28 a29 a30 a31 a32 a33 a34
abbrev c0q(w:World)(p:Addr)(F:Int->Int->Int->Int->Int->Int->Prop):Prop:=∃a0 a1 a2 a3 a4 a5:Int,cellsAt w p 0 [Iv a0,Iv a1,Iv a2,Iv a3,Iv a4,Iv a5]/\F a0 a1 a2 a3 a4 a5
abbrev c1q(w:World)(p:Addr)(F:Int->Int->Int->Int->Int->Int->Int->Int->OA->Nat->Nat->Int->Int->Int->Bool->Prop):Prop:=∃a0 a1 a2 a3 a4 a5 a6 a7:Int,∃a8:OA,∃a9 a10:Nat,∃a11 a12 a13:Int,∃a14:Bool,cellsAt w p 0 [Iv a0,Iv a1,Iv a2,Iv a3,Iv a4,Iv a5,Iv a6,Iv a7,.slice a8 a9 a10,Iv a11,Iv a12,Iv a13,.bool a14]/\F a0 a1 a2 a3 a4 a5 a6 a7 a8 a9 a10 a11 a12 a13 a14
abbrev c2q(w:World)(p:Addr)(F:Int->Int->Int->Int->Int->Int->Int->Int->Int->Int->Int->Int->Bool->OA->Nat->Nat->Prop):Prop:=∃a0 a1 a2 a3 a4 a5 a6 a7 a8 a9 a10 a11:Int,∃a12:Bool,∃a13:OA,∃a14 a15:Nat,cellsAt w p 0 [Iv a0,Iv a1,Iv a2,Iv a3,Iv a4,Iv a5,Iv a6,Iv a7,Iv a8,Iv a9,Iv a10,Iv a11,.bool a12,.slice a13 a14 a15]/\F a0 a1 a2 a3 a4 a5 a6 a7 a8 a9 a10 a11 a12 a13 a14 a15
abbrev c3q(w:World)(p:Addr)(F:Int->OA->Nat->Nat->Int->Int->OA->Nat->Nat->Prop):Prop:=∃a0:Int,∃a1:OA,∃a2 a3:Nat,∃a4 a5:Int,∃a6:OA,∃a7 a8:Nat,cellsAt w p 0 [Iv a0,.slice a1 a2 a3,Iv a4,Iv a5,.slice a6 a7 a8]/\F a0 a1 a2 a3 a4 a5 a6 a7 a8
abbrev c4q(w:World)(p:Addr)(F:Int->Bool->Int->OA->Nat->Nat->OA->Nat->Nat->Prop):Prop:=∃a0:Int,∃a1:Bool,∃a2:Int,∃a3:OA,∃a4 a5:Nat,∃a6:OA,∃a7 a8:Nat,cellsAt w p 0 [Iv a0,.bool a1,Iv a2,.slice a3 a4 a5,.slice a6 a7 a8]/\F a0 a1 a2 a3 a4 a5 a6 a7 a8
abbrev c5q(w:World)(p:Addr)(F:Int->Int->Prop):Prop:=∃a0 a1:Int,cellsAt w p 0 [Iv a0,Iv a1]/\F a0 a1
abbrev c6q(w:World)(p:Addr)(F:Int->OA->Nat->Nat->Prop):Prop:=∃a0:Int,∃a1:OA,∃a2 a3:Nat,cellsAt w p 0 [Iv a0,.slice a1 a2 a3]/\F a0 a1 a2 a3
abbrev c7q(w:World)(p:Addr)(F:Int->Int->Int->Prop):Prop:=∃a0 a1 a2:Int,cellsAt w p 0 [Iv a0,Iv a1,Iv a2]/\F a0 a1 a2
abbrev c8q(w:World)(p:Addr)(F:Int->Int->Int->Int->OA->Nat->Nat->Int->Bool->Prop):Prop:=∃a0 a1 a2 a3:Int,∃a4:OA,∃a5 a6:Nat,∃a7:Int,∃a8:Bool,cellsAt w p 0 [Iv a0,Iv a1,Iv a2,Iv a3,.slice a4 a5 a6,Iv a7,.bool a8]/\F a0 a1 a2 a3 a4 a5 a6 a7 a8
abbrev c9q(w:World)(p:Addr)(F:Int->Int->Int->Int->OA->Nat->Nat->Prop):Prop:=∃a0 a1 a2 a3:Int,∃a4:OA,∃a5 a6:Nat,cellsAt w p 0 [Iv a0,Iv a1,Iv a2,Iv a3,.slice a4 a5 a6]/\F a0 a1 a2 a3 a4 a5 a6
abbrev m0q(a0 a1 a2 a3 a4 a5:Int):Value:=.agg #[Iv a0,Iv a1,Iv a2,Iv a3,Iv a4,Iv a5]
abbrev z1q:Array Value:=#[Iv 0,Iv 0,Iv 0,Iv 0,Iv 0,Iv 0]
abbrev m2q(a0 a1 a2 a3 a4 a5:Int):List Value:=[Iv a0,Iv a1,Iv a2,Iv a3,Iv a4,Iv a5]
abbrev m3q(a0 a1 a2 a3 a4 a5:Int):Array Value:=#[Iv a0,Iv a1,Iv a2,Iv a3,Iv a4,Iv a5]
abbrev z4q:Array Value:=#[Iv 0,Iv 0,Iv 0,Iv 0,Iv 0,Iv 0,Iv 0,Iv 0,.slice none 0 0,Iv 0,Iv 0,Iv 0,.bool false]
abbrev z5q:Array Value:=#[Iv 0,Iv 0,Iv 0,Iv 0,Iv 0,Iv 0,Iv 0,Iv 0,Iv 0,Iv 0,Iv 0,Iv 0,.bool false,.slice none 0 0]
abbrev z6q:List Value:=[Iv 0,Iv 0,Iv 0,Iv 0,Iv 0,Iv 0,Iv 0,Iv 0,.slice none 0 0,Iv 0,Iv 0,Iv 0,.bool false]
abbrev z7q:List Value:=[Iv 0,Iv 0,Iv 0,Iv 0,Iv 0,Iv 0,Iv 0,Iv 0,Iv 0,Iv 0,Iv 0,Iv 0,.bool false,.slice none 0 0]
abbrev m8q(a0 a1 a2 a3 a4 a5 a6 a7:Int)(a8:OA)(a9 a10:Nat)(a11 a12 a13:Int)(a14:Bool):Value:=.agg #[Iv a0,Iv a1,Iv a2,Iv a3,Iv a4,Iv a5,Iv a6,Iv a7,.slice a8 a9 a10,Iv a11,Iv a12,Iv a13,.bool a14]
abbrev m9q(a0 a1 a2 a3 a4 a5 a6 a7 a8 a9 a10 a11:Int)(a12:Bool)(a13:OA)(a14 a15:Nat):Value:=.agg #[Iv a0,Iv a1,Iv a2,Iv a3,Iv a4,Iv a5,Iv a6,Iv a7,Iv a8,Iv a9,Iv a10,Iv a11,.bool a12,.slice a13 a14 a15]
abbrev Fj(a0 a1 a2 a3 a4 a5 a6 a7:Int)(a8:OA)(a9 a10:Nat)(a11 a12 a13:Int)(a14:Bool):List Value:=[Iv a0,Iv a1,Iv a2,Iv a3,Iv a4,Iv a5,Iv a6,Iv a7,.slice a8 a9 a10,Iv a11,Iv a12,Iv a13,.bool a14]
abbrev Gf(a0 a1 a2 a3 a4 a5 a6 a7 a8 a9 a10 a11:Int)(a12:Bool)(a13:OA)(a14 a15:Nat):List Value:=[Iv a0,Iv a1,Iv a2,Iv a3,Iv a4,Iv a5,Iv a6,Iv a7,Iv a8,Iv a9,Iv a10,Iv a11,.bool a12,.slice a13 a14 a15]
abbrev Zo(a0 a1 a2 a3 a4 a5 a6 a7:Int)(a8:OA)(a9 a10:Nat)(a11 a12 a13:Int)(a14:Bool):Array Value:=#[Iv a0,Iv a1,Iv a2,Iv a3,Iv a4,Iv a5,Iv a6,Iv a7,.slice a8 a9 a10,Iv a11,Iv a12,Iv a13,.bool a14]
abbrev An3:Array Value:=#[Iv 0,.slice none 0 0,Iv 0,Iv 0,.slice none 0 0]
abbrev Ang(a0:Int)(a1:OA)(a2 a3:Nat)(a4 a5:Int)(a6:OA)(a7 a8:Nat):List Value:=[Iv a0,.slice a1 a2 a3,Iv a4,Iv a5,.slice a6 a7 a8]
abbrev Ye(a0 a1 a2 a3 a4 a5 a6 a7 a8 a9 a10 a11:Int)(a12:Bool)(a13:OA)(a14 a15:Nat):Array Value:=#[Iv a0,Iv a1,Iv a2,Iv a3,Iv a4,Iv a5,Iv a6,Iv a7,Iv a8,Iv a9,Iv a10,Iv a11,.bool a12,.slice a13 a14 a15]
abbrev Al2:Array Value:=#[Iv 0,.bool false,Iv 0,.slice none 0 0,.slice none 0 0]
abbrev Aau(a0:Int)(a1:Bool)(a2:Int)(a3:OA)(a4 a5:Nat)(a6:OA)(a7 a8:Nat):List Value:=[Iv a0,.bool a1,Iv a2,.slice a3 a4 a5,.slice a6 a7 a8]
abbrev Bde(a0 a1 a2 a3 a4 a5 a6 a7:Int)(a8:OA)(a9 a10:Nat)(a11 a12 a13:Int)(a14:Bool)(a15 a16 a17 a18 a19 a20 a21 a22 a23 a24 a25 a26:Int)(a27:Bool)(a28:OA)(a29 a30:Nat)(a31:OA)(a32 a33:Nat)(a34:OA)(a35 a36:Nat)(a37:OA)(a38 a39:Nat)(a40:OA)(a41 a42:Nat):Array Value:=#[Iv a0,Iv a1,Iv a2,Iv a3,Iv a4,Iv a5,Iv a6,Iv a7,.slice a8 a9 a10,Iv a11,Iv a12,Iv a13,.bool a14,Iv a15,Iv a16,Iv a17,Iv a18,Iv a19,Iv a20,Iv a21,Iv a22,Iv a23,Iv a24,Iv a25,Iv a26,.bool a27,.slice a28 a29 a30,.slice a31 a32 a33,.slice a34 a35 a36,.slice a37 a38 a39,.slice a40 a41 a42]
abbrev Bc7(a0 a1 a2 a3 a4 a5 a6 a7:Int)(a8:OA)(a9 a10:Nat)(a11 a12 a13:Int)(a14:Bool)(a15 a16 a17 a18 a19 a20 a21 a22 a23 a24 a25 a26:Int)(a27:Bool)(a28:OA)(a29 a30:Nat)(a31:OA)(a32 a33:Nat)(a34:Int)(a35:OA)(a36 a37:Nat)(a38:OA)(a39 a40:Nat)(a41:OA)(a42 a43:Nat):Array Value:=#[Iv a0,Iv a1,Iv a2,Iv a3,Iv a4,Iv a5,Iv a6,Iv a7,.slice a8 a9 a10,Iv a11,Iv a12,Iv a13,.bool a14,Iv a15,Iv a16,Iv a17,Iv a18,Iv a19,Iv a20,Iv a21,Iv a22,Iv a23,Iv a24,Iv a25,Iv a26,.bool a27,.slice a28 a29 a30,.slice a31 a32 a33,Iv a34,.slice a35 a36 a37,.slice a38 a39 a40,.slice a41 a42 a43]
abbrev Og:Array Value:=#[Iv 0,Iv 0,Iv 0,Iv 0,.slice none 0 0]
abbrev Lr(a0 a1 a2 a3:Int)(a4:OA)(a5 a6:Nat):List Value:=[Iv a0,Iv a1,Iv a2,Iv a3,.slice a4 a5 a6]
abbrev Baq(a0 a1 a2 a3:Int)(a4:OA)(a5 a6:Nat)(a7:Int)(a8:Bool):Value:=.agg #[Iv a0,Iv a1,Iv a2,Iv a3,.slice a4 a5 a6,Iv a7,.bool a8]
abbrev Ft(a0 a1 a2 a3:Int)(a4:OA)(a5 a6:Nat):Value:=.agg #[Iv a0,Iv a1,Iv a2,Iv a3,.slice a4 a5 a6]
abbrev Abr(a0:Int)(a1:Bool)(a2:Int)(a3:OA)(a4 a5:Nat)(a6:OA)(a7 a8:Nat):Value:=.agg #[Iv a0,.bool a1,Iv a2,.slice a3 a4 a5,.slice a6 a7 a8]
abbrev Bbu:Array Value:=#[Iv 0,Iv 0,Iv 0,Iv 0,.slice none 0 0,Iv 0,.bool false]
abbrev Bcc(a0 a1 a2 a3:Int)(a4:OA)(a5 a6:Nat)(a7:Int)(a8:Bool):List Value:=[Iv a0,Iv a1,Iv a2,Iv a3,.slice a4 a5 a6,Iv a7,.bool a8]
abbrev Ar8(a0:Int)(a1:OA)(a2 a3:Nat)(a4 a5:Int)(a6:OA)(a7 a8:Nat):Value:=.agg #[Iv a0,.slice a1 a2 a3,Iv a4,Iv a5,.slice a6 a7 a8]
abbrev Agz(a0:Int)(a1:OA)(a2 a3:Nat)(a4 a5:Int)(a6:OA)(a7 a8:Nat):Array Value:=#[Iv a0,.slice a1 a2 a3,Iv a4,Iv a5,.slice a6 a7 a8]
abbrev Xf:List Value:=[Iv 0,Iv 0,Iv 0,Iv 0,.slice none 0 0]
abbrev Aj0(a0:Int)(a1:Bool)(a2:Int)(a3:OA)(a4 a5:Nat)(a6:OA)(a7 a8:Nat):Array Value:=#[Iv a0,.bool a1,Iv a2,.slice a3 a4 a5,.slice a6 a7 a8]
abbrev Ba3(a0 a1 a2 a3:Int)(a4:OA)(a5 a6:Nat)(a7:Int)(a8:Bool):Array Value:=#[Iv a0,Iv a1,Iv a2,Iv a3,.slice a4 a5 a6,Iv a7,.bool a8]
abbrev Al8(a0 a1 a2 a3:Int)(a4:OA)(a5 a6:Nat):Array Value:=#[Iv a0,Iv a1,Iv a2,Iv a3,.slice a4 a5 a6]
abbrev Bc8(a0 a1 a2:Int)(a3:Bool):Array Value:=#[Iv a0,Iv a1,Iv a2,.bool a3]
abbrev Bda:Array Value:=#[Iv 0,Iv 0,Iv 0,.bool false]
end Go.Proofs.YtmbppohkadmjgaaGreat
