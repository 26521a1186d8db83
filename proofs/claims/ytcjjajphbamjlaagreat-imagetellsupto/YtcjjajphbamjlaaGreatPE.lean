/- Part of a proof that a law returns true for every input of the second form's bound (no other condition). -/
import Derived.Test.YtcjjajphbamjlaaGreatPD
set_option linter.all false
/- The abstract machine's text of the functions, its regions as numbers. Written by a tool. -/
namespace Go.Ab.T
open Go Go.Ab
set_option maxRecDepth 100000
abbrev aUK:Nat:=9
abbrev kW:Nat:=12
abbrev aG7:Nat:=14
abbrev aG8:Nat:=15
abbrev aG9:Nat:=17
abbrev aHa:Nat:=21
abbrev YY:Nat:=29
abbrev aHb:Nat:=35
abbrev aHc:Nat:=36
abbrev aHd:Nat:=37
abbrev Yk:Nat:=38
abbrev Yl:Nat:=39
abbrev Ym:Nat:=40
abbrev LR:Nat:=41
abbrev Yn:Nat:=42
abbrev Yo:Nat:=43
abbrev SZ:Nat:=44
abbrev Yp:Nat:=45
abbrev Yq:Nat:=46
abbrev NI:Nat:=47
abbrev S0:Nat:=48
abbrev S1:Nat:=49
abbrev Yr:Nat:=50
abbrev Ys:Nat:=51
abbrev Yt:Nat:=54
abbrev Yu:Nat:=55
abbrev Yv:Nat:=56
abbrev Yw:Nat:=57
abbrev Yx:Nat:=58
abbrev Yy:Nat:=59
abbrev Yz:Nat:=60
abbrev YA:Nat:=61
abbrev YB:Nat:=80
abbrev NJ:Nat:=81
abbrev YC:Nat:=82
abbrev YD:Nat:=83
abbrev YE:Nat:=84
abbrev YF:Nat:=85
abbrev YG:Nat:=86
abbrev YH:Nat:=87
abbrev S3:Nat:=88
abbrev YI:Nat:=89
abbrev S4:Nat:=90
abbrev YJ:Nat:=91
abbrev YK:Nat:=92
abbrev YL:Nat:=93
abbrev YM:Nat:=94
abbrev Kk:Nat:=95
abbrev YN:Nat:=96
abbrev YO:Nat:=97
abbrev YP:Nat:=98
abbrev YQ:Nat:=107
abbrev YR:Nat:=108
abbrev YS:Nat:=109
abbrev YT:Nat:=110
abbrev YU:Nat:=111
abbrev Kl:Nat:=112
abbrev YV:Nat:=113
abbrev YW:Nat:=129
abbrev YX:Nat:=130
abbrev Jh:Nat:=131
abbrev S5:Nat:=132
abbrev S6:Nat:=133
abbrev S7:Nat:=134
abbrev YZ:Nat:=135
abbrev Y0:Nat:=136
abbrev Y1:Nat:=137
abbrev Y2:Nat:=138
abbrev Y3:Nat:=139
abbrev Y4:Nat:=140
abbrev NK:Nat:=141
abbrev Y5:Nat:=142
abbrev Y6:Nat:=143
abbrev Y7:Nat:=144
abbrev Ji:Nat:=145
abbrev S8:Nat:=146
abbrev S9:Nat:=147
abbrev Ta:Nat:=148
abbrev Y8:Nat:=149
abbrev Tb:Nat:=150
abbrev Y9:Nat:=151
abbrev Tc:Nat:=152
abbrev Za:Nat:=153
abbrev Zb:Nat:=154
abbrev Zc:Nat:=155
abbrev Zd:Nat:=156
abbrev Ze:Nat:=157
abbrev Zf:Nat:=165
abbrev Zg:Nat:=166
abbrev Td:Nat:=167
abbrev NL:Nat:=168
abbrev NM:Nat:=169
abbrev Zh:Nat:=170
abbrev Zi:Nat:=178
abbrev Zj:Nat:=184
abbrev Zk:Nat:=185
abbrev Zl:Nat:=186
abbrev Te:Nat:=187
abbrev Zm:Nat:=188
abbrev Zn:Nat:=189
abbrev Rm:Nat:=190
abbrev Rn:Nat:=191
abbrev Ro:Nat:=192
abbrev Rp:Nat:=193
abbrev Rq:Nat:=194
abbrev Rr:Nat:=195
abbrev Rt:Nat:=196
abbrev IE:Nat:=197
abbrev Ru:Nat:=198
abbrev MO:Nat:=199
abbrev Rv:Nat:=200
abbrev Kj:Nat:=201
abbrev Rx:Nat:=203
abbrev Ry:Nat:=204
abbrev Rz:Nat:=205
abbrev RA:Nat:=206
abbrev RC:Nat:=209
abbrev RD:Nat:=211
abbrev RE:Nat:=212
abbrev RF:Nat:=213
abbrev IG:Nat:=214
abbrev RG:Nat:=215
abbrev RH:Nat:=216
abbrev RI:Nat:=217
abbrev RJ:Nat:=218
def wrs:List Nat:=[NI,YY,S0,S1,kW,Kj,Tc,Kk,Tb,Ta,Ji,S9,MO,S8,S4,S7,Jh,Te,S5,S6]
def tR {α:Type} (z:α):List α→Nat→α
 | [],_=>z
 | x::_,0=>x
 | _::l,n+1=>tR z l n
def Dt:Nat→Int:=tR 0 [0,1,2,3,4,5,6,7,8,9,10,11,12,13,14,15,16,17,18,19,20,21,22,23,24,25,26,27,28,29,30,31]
def aXe:List ((Nat→Nat)→O):=[fun p=>.mv (.t (p 0)),
fun p=>.fad (p 0) (.t (p 1)),
fun p=>.load 1 false (.t (p 0)),
fun p=>.mv (.c (.i .i64 (Dt (p 0)))),
fun p=>.len (.t (p 0)),
fun p=>.bin .add (.t (p 0)) (.c (.i .i64 (Dt (p 1)))),
fun p=>.bin .eql (.t (p 0)) (.c (.i .i64 (Dt (p 1)))),
fun p=>.bin .lss (.t (p 0)) (.t (p 1)),
fun p=>.nck (.t (p 0)),
fun p=>.pick (.t (p 0)) (.c (.b true)) (.t (p 1)),
fun p=>.store 1 (.t (p 0)) (.t (p 1)),
fun p=>.pick (.t (p 0)) (.t (p 1)) (.c (.b false)),
fun p=>.mv (.c (.b false)),
fun p=>.mv (.c .ns),
fun p=>.load 3 true (.t (p 0)),
fun p=>.bin .lss (.t (p 0)) (.c (.i .i64 (Dt (p 1)))),
fun p=>.bin .sub (.t (p 0)) (.c (.i .i64 (Dt (p 1)))),
fun p=>.box (.t (p 0)),
fun p=>.iad 1 (.t (p 0)) (.t (p 1)),
fun p=>.bin .gtr (.t (p 0)) (.c (.i .i64 (Dt (p 1)))),
fun p=>.un .not (.t (p 0)),
fun p=>.ext (.t (p 0)) 0,
fun p=>.ext (.t (p 0)) 1,
fun p=>.store 3 (.t (p 0)) (.t (p 1))]
def aXf:List ((Nat→Nat)→O):=[fun p=>.bin .add (.t (p 0)) (.t (p 1)),
fun p=>.iad 2 (.t (p 0)) (.t (p 1)),
fun p=>.iad 3 (.t (p 0)) (.t (p 1)),
fun p=>.app 1 (.t (p 0)) (.t (p 1)),
fun p=>.call (.fn NI) [(.t (p 0)),(.c (.i .i64 (Dt (p 1))))],
fun p=>.load 2 true (.t (p 0)),
fun p=>.call (.fn NJ) [(.t (p 0)),(.t (p 1))],
fun p=>.alloc [.ns,.ns,.ns],
fun p=>.store 2 (.t (p 0)) (.t (p 1)),
fun p=>.bin .neq (.t (p 0)) (.t (p 1)),
fun p=>.bin .neq (.t (p 0)) (.c (.i .i64 (Dt (p 1)))),
fun p=>.alloc [(.i .i64 0),(.i .i64 0)],
fun p=>.bin .geq (.t (p 0)) (.c (.i .i64 (Dt (p 1)))),
fun p=>.iad 6 (.t (p 0)) (.t (p 1)),
fun p=>.chk 1 false (.t (p 0)) (.t (p 1)),
fun p=>.iad 11 (.t (p 0)) (.t (p 1)),
fun p=>.bin .add (.c (.i .i64 (Dt (p 0)))) (.t (p 1)),
fun p=>.load 11 true (.t (p 0)),
fun p=>.load 6 true (.t (p 0)),
fun p=>.bin .eql (.t (p 0)) (.t (p 1)),
fun p=>.bin .geq (.t (p 0)) (.t (p 1)),
fun p=>.call (.fn Jh) [(.t (p 0)),(.c (.i .i64 (Dt (p 1)))),(.c (.i .i64 (Dt (p 2))))],
fun p=>.fload 1 false (.t (p 0)),
fun p=>.bsl 2 [(.i .i64 0),(.i .i64 0)] 1 [(0,(.t (p 0)))]]
def aXg:List ((Nat→Nat)→O):=[fun p=>.app 2 (.t (p 0)) (.t (p 1)),
fun p=>.conv .u8 (.t (p 0)),
fun p=>.bin .sub (.t (p 0)) (.t (p 1)),
fun p=>.mv (.c (.i .i64 (-1))),
fun p=>.e0,
fun p=>.alloc [(.s ⟨#[]⟩),(.i .i64 0),(.i .i64 0),(.b false),(.b false),.ns,(.i .i64 0),(.i .i64 0),(.i .i64 0),(.i .i64 0),(.i .i64 0)],
fun p=>.store 11 (.t (p 0)) (.t (p 1)),
fun p=>.store 6 (.t (p 0)) (.t (p 1)),
fun p=>.mv (.c (.b true)),
fun p=>.b2s (.t (p 0)),
fun p=>.call (.fn NK) [(.t (p 0)),(.t (p 1))],
fun p=>.call (.fn Ji) [(.t (p 0)),(.c (.i .i64 (Dt (p 1))))],
fun p=>.slice 1 (.t (p 0)) none (some (.t (p 1))) none,
fun p=>.bin .and (.t (p 0)) (.c (.i .i64 (Dt (p 1)))),
fun p=>.bin .gtr (.t (p 0)) (.t (p 1)),
fun p=>.app 6 (.t (p 0)) (.t (p 1)),
fun p=>.alloc [(.i .i64 0),(.i .i64 0),(.b false),(.i .i64 0),(.i .u32 0),(.i .i64 0)],
fun p=>.bsl 3 [(.i .i64 0),(.i .i64 0),(.i .i64 0)] 1 [(0,(.t (p 0)))],
fun p=>.iad 1 (.t (p 0)) (.c (.i .i64 (Dt (p 1)))),
fun p=>.build [.ns,.ns,.ns] [],
fun p=>.slen (.t (p 0)),
fun p=>.bsl 1 [(.i .i64 0)] 1 [(0,(.t (p 0)))],
fun p=>.mv (.c (.s ⟨#[]⟩)),
fun p=>.build [(.i .i64 0),(.i .i64 0)] [(0,1,(.t (p 0))),(1,1,(.t (p 1)))]]
def aXh:List ((Nat→Nat)→O):=[fun p=>.bin .rem (.t (p 0)) (.t (p 1)),
fun p=>.bsl 6 [(.i .i64 0),(.i .i64 0),(.b false),(.i .i64 0),(.i .u32 0),(.i .i64 0)] 1 [(0,(.t (p 0)))],
fun p=>.app 3 (.t (p 0)) (.t (p 1)),
fun p=>.mx [(.t (p 0)),(.t (p 1))],
fun p=>.call (.fn Yl) [(.t (p 0))],
fun p=>.bsl 1 [.ns] 1 [(0,(.t (p 0)))],
fun p=>.load 5 true (.t (p 0)),
fun p=>.conv .i64 (.t (p 0)),
fun p=>.store 1 (.t (p 0)) (.c (.b true)),
fun p=>.sidx (.t (p 0)) (.t (p 1)),
fun p=>.call (.fn Yk) [(.t (p 0))],
fun p=>.call (.fn Yo) [(.t (p 0))],
fun p=>.mn [(.t (p 0)),(.t (p 1))],
fun p=>.store 1 (.t (p 0)) (.c (.i .i64 (Dt (p 1)))),
fun p=>.conv .u64 (.t (p 0)),
fun p=>.call (.fn S7) [(.t (p 0))],
fun p=>.slice 1 (.t (p 0)) (some (.t (p 1))) none none,
fun p=>.call (.fn Ta) [(.t (p 0))],
fun p=>.bin .leq (.t (p 0)) (.c (.i .i64 4096)),
fun p=>.mn [(.c (.i .i64 4097)),(.t (p 0))],
fun p=>.bin .xor (.t (p 0)) (.t (p 1)),
fun p=>.call (.fn aHb) [(.t (p 0))],
fun p=>.bsl 1 [(.i .u8 0)] 4 [(0,(.c (.i .u8 72))),(1,(.c (.i .u8 79))),(2,(.c (.i .u8 82))),(3,(.c (.i .u8 65)))],
fun p=>.mark (.t (p 0))]
def aXi:List ((Nat→Nat)→O):=[fun p=>.iada 1 5 (.t (p 0)) (.t (p 1)),
fun p=>.bsl 11 [(.s ⟨#[]⟩),(.i .i64 0),(.i .i64 0),(.b false),(.b false),.ns,(.i .i64 0),(.i .i64 0),(.i .i64 0),(.i .i64 0),(.i .i64 0)] 1 [(0,(.t (p 0)))],
fun p=>.app 11 (.t (p 0)) (.t (p 1)),
fun p=>.call (.fn NI) [(.t (p 0)),(.t (p 1))],
fun p=>.build [(.i .i64 0),(.i .i64 0),(.i .i64 0)] [(0,1,(.c (.i .i64 (Dt (p 0))))),(2,1,(.t (p 1)))],
fun p=>.call (.fn Yq) [(.t (p 0))],
fun p=>.idx 1 5 false (.t (p 0)) (.t (p 1)),
fun p=>.alloc [(.i .i64 0),(.i .i64 0),(.i .i64 0)],
fun p=>.bin .shr (.t (p 0)) (.c (.i .u64 8)),
fun p=>.bin .leq (.t (p 0)) (.t (p 1)),
fun p=>.un .neg (.t (p 0)),
fun p=>.bsl 1 [(.i .u8 0)] 1 [(0,(.t (p 0)))],
fun p=>.mv (.c (.i .u32 0)),
fun p=>.bsl 1 [(.i .i64 0)] 2 [(0,(.t (p 0))),(1,(.t (p 1)))],
fun p=>.conv .u32 (.t (p 0)),
fun p=>.mn [(.t (p 0)),(.c (.i .i64 4097))],
fun p=>.bin .leq (.t (p 0)) (.c (.i .i64 (Dt (p 1)))),
fun p=>.call (.fn aHd) [(.t (p 0))],
fun p=>.chkb 1 [(.i .u32 0)] 3 [(0,(.c (.i .u32 4294967295))),(1,(.c (.i .u32 200))),(2,(.c (.i .u32 3)))] (.t (p 0)),
fun p=>.chka [(.i .i64 0),(.i .i64 0),(.b false),(.i .i64 0),(.i .u32 0),(.i .i64 0)] (.t (p 0)),
fun p=>.call (.fn YB) [(.t (p 0))],
fun p=>.iad 2 (.t (p 0)) (.c (.i .i64 (Dt (p 1)))),
fun p=>.store 1 (.t (p 0)) (.c .ns),
fun p=>.build [(.i .i64 0),(.i .i64 0)] []]
def aXj:List ((Nat→Nat)→O):=[fun p=>.call (.fn YD) [(.t (p 0)),(.t (p 1))],
fun p=>.call (.fn SZ) [(.t (p 0))],
fun p=>.build [(.i .i64 0),(.i .i64 0),(.i .i64 0)] [(0,1,(.c (.i .i64 (Dt (p 0))))),(2,1,(.c (.i .i64 (Dt (p 1)))))],
fun p=>.mn [(.t (p 0)),(.c (.i .i64 (Dt (p 1))))],
fun p=>.call (.fn YK) [(.t (p 0)),(.t (p 1))],
fun p=>.call (.fn aG7) [(.t (p 0))],
fun p=>.mx [(.t (p 0)),(.c (.i .i64 (Dt (p 1))))],
fun p=>.call (.fn YR) [(.t (p 0))],
fun p=>.call (.fn YT) [(.t (p 0))],
fun p=>.slice 1 (.t (p 0)) (some (.t (p 1))) (some (.t (p 2))) none,
fun p=>.call (.fn Y6) [(.t (p 0)),(.t (p 1))],
fun p=>.call (.fn S9) [(.t (p 0))],
fun p=>.mv (.c .np),
fun p=>.call (.fn Za) [(.t (p 0)),(.t (p 1))],
fun p=>.call (.fn Zc) [(.t (p 0)),(.t (p 1))],
fun p=>.mx [(.c (.i .i64 (Dt (p 0)))),(.t (p 1))],
fun p=>.call (.fn Zh) [(.t (p 0)),(.t (p 1))],
fun p=>.mv (.c (.i .u64 0)),
fun p=>.call (.fn aHc) [(.t (p 0)),(.t (p 1)),(.t (p 2))],
fun p=>.bin .gtr (.t (p 0)) (.c (.i .i64 96)),
fun p=>.call (.fn Yy) [(.t (p 0)),(.t (p 1))],
fun p=>.call (.fn Yz) [(.t (p 0)),(.t (p 1)),(.t (p 2))],
fun p=>.call (.fn YA) [(.t (p 0)),(.t (p 1)),(.t (p 2))],
fun p=>.build [(.i .i64 0),(.i .i64 0),(.i .i64 0)] [(0,1,(.c (.i .i64 (Dt (p 0))))),(1,1,(.t (p 1))),(2,1,(.t (p 2)))]]
def aXk:List ((Nat→Nat)→O):=[fun p=>.call (.fn YY) [(.t (p 0)),(.t (p 1)),(.t (p 2))],
fun p=>.call (.fn LR) [(.t (p 0)),(.c (.i .i64 (Dt (p 1)))),(.c (.i .i64 (Dt (p 2))))],
fun p=>.call (.fn Yp) [(.t (p 0)),(.t (p 1))],
fun p=>.bin .shr (.t (p 0)) (.c (.i .u64 24)),
fun p=>.bin .shr (.t (p 0)) (.c (.i .u64 16)),
fun p=>.bsl 1 [(.i .u8 0)] 4 [(0,(.t (p 0))),(1,(.t (p 1))),(2,(.t (p 2))),(3,(.t (p 3)))],
fun p=>.slice 11 (.t (p 0)) none (some (.t (p 1))) none,
fun p=>.slice 6 (.t (p 0)) none (some (.t (p 1))) none,
fun p=>.slice 1 (.t (p 0)) (some (.c (.i .i64 (Dt (p 1))))) none none,
fun p=>.call (.fn aG8) [(.t (p 0))],
fun p=>.call (.fn Yt) [(.t (p 0))],
fun p=>.bin .gtr (.t (p 0)) (.c (.i .i64 128)),
fun p=>.eq false .sl (.t (p 0)) (.c .ns),
fun p=>.bin .sub (.c (.i .i64 9223372036854775807)) (.t (p 0)),
fun p=>.mv (.c (.i .i64 9223372036854775807)),
fun p=>.call (.fn YV) [(.t (p 0))],
fun p=>.bin .gtr (.t (p 0)) (.c (.i .u64 0)),
fun p=>.call (.fn NJ) [(.t (p 0)),(.c (.i .i64 (Dt (p 1))))],
fun p=>.build [.ns,(.b false)] [(0,1,(.t (p 0)))],
fun p=>.mv (.c (.i .u32 4294967295)),
fun p=>.un .xor (.t (p 0)),
fun p=>.call (.fn Y4) [(.t (p 0))],
fun p=>.call (.fn Y3) [(.t (p 0))],
fun p=>.call (.fn Y2) [(.t (p 0))]]
def aXl:List ((Nat→Nat)→O):=[fun p=>.bsl 1 [(.i .i64 0)] 3 [(0,(.t (p 0))),(1,(.t (p 1))),(2,(.t (p 2)))],
fun p=>.call (.fn Zd) [(.t (p 0))],
fun p=>.call (.fn Zf) [(.t (p 0))],
fun p=>.bin .gtr (.t (p 0)) (.c (.i .i64 4096)),
fun p=>.call (.fn Kl) [(.t (p 0)),(.t (p 1)),(.t (p 2))],
fun p=>.call (.fn Zm) [(.t (p 0))],
fun p=>.bin .shl (.t (p 0)) (.c (.i .u64 24)),
fun p=>.bin .shr (.t (p 0)) (.c (.i .u64 31)),
fun p=>.bin .shl (.t (p 0)) (.c (.i .u64 1)),
fun p=>.nck (.c .np),
fun p=>.call (.fn IE) [(.t (p 0)),(.t (p 1))],
fun p=>.call (.fn IE) [(.t (p 0)),(.c (.i .i64 (Dt (p 1))))],
fun p=>.call (.fn Rv) [(.t (p 0))],
fun p=>.eq true .b (.t (p 0)) (.t (p 1)),
fun p=>.bsl 6 [(.i .i64 0),(.i .i64 0),(.i .i64 0),(.i .i64 0),(.i .i64 0),(.i .i64 0)] 1 [(0,(.t (p 0)))],
fun p=>.call (.fn Rx) [(.t (p 0))],
fun p=>.iad 6 (.t (p 0)) (.c (.i .i64 (Dt (p 1)))),
fun p=>.bin .mul (.t (p 0)) (.t (p 1)),
fun p=>.call (.fn Td) [(.t (p 0)),(.t (p 1))],
fun p=>.bin .shl (.t (p 0)) (.c (.i .u64 8)),
fun p=>.bin .or (.t (p 0)) (.t (p 1)),
fun p=>.bin .geq (.t (p 0)) (.c (.i .u8 128)),
fun p=>.call (.fn IG) [(.t (p 0)),(.t (p 1))],
fun p=>.cap (.t (p 0))]
def aXm:List ((Nat→Nat)→O):=[fun p=>.bin .leq (.t (p 0)) (.c (.i .i64 128)),
fun p=>.call (.t (p 0)) [(.t (p 1))],
fun p=>.build [.ns,(.i .i64 0)] [(0,1,(.t (p 0)))],
fun p=>.call (.fn kW) [(.t (p 0))],
fun p=>.call (.fn LR) [(.t (p 0)),(.c (.i .i64 (Dt (p 1)))),(.t (p 2))],
fun p=>.call (.fn Yn) [(.t (p 0))],
fun p=>.call (.fn Ym) [],
fun p=>.bin .add (.c (.i .i64 97)) (.t (p 0)),
fun p=>.conv .i32 (.t (p 0)),
fun p=>.i2s (.t (p 0)),
fun p=>.bin .add (.c (.s ⟨#[112]⟩)) (.t (p 0)),
fun p=>.build [(.s ⟨#[]⟩),(.i .i64 0),(.i .i64 0),(.b false),(.b false),.ns,(.i .i64 0),(.i .i64 0),(.i .i64 0),(.i .i64 0),(.i .i64 0)] [(0,1,(.t (p 0))),(3,1,(.t (p 1))),(4,1,(.t (p 2)))],
fun p=>.bin .mul (.c (.i .i64 (Dt (p 0)))) (.t (p 1)),
fun p=>.bsl 1 [(.i .i64 0)] 5 [(0,(.c (.i .i64 (Dt (p 0))))),(1,(.c (.i .i64 (Dt (p 1))))),(2,(.c (.i .i64 (Dt (p 2))))),(3,(.c (.i .i64 (Dt (p 3))))),(4,(.c (.i .i64 (Dt (p 4)))))],
fun p=>.bslc 1 [(.i .u32 0)] 3 [(0,(.c (.i .u32 4294967295))),(1,(.c (.i .u32 200))),(2,(.c (.i .u32 3)))],
fun p=>.alc [(.i .i64 0),(.i .i64 0),(.b false),(.i .i64 0),(.i .u32 0),(.i .i64 0)],
fun p=>.build [(.i .i64 0),(.i .i64 0),(.b false),(.i .i64 0),(.i .u32 0),(.i .i64 0)] [(0,1,(.t (p 0))),(1,1,(.t (p 1))),(2,1,(.t (p 2))),(4,1,(.t (p 3)))],
fun p=>.call (.fn S0) [(.t (p 0)),(.t (p 1))],
fun p=>.call (.fn S1) [(.t (p 0)),(.t (p 1))],
fun p=>.call (.fn Yv) [(.t (p 0))],
fun p=>.call (.fn Yx) [(.t (p 0))],
fun p=>.call (.fn Yw) [(.t (p 0))],
fun p=>.eq true (.agg [.i,.i,.i]) (.t (p 0)) (.t (p 1)),
fun p=>.bsl 1 [(.s ⟨#[]⟩)] 7 [(0,(.c (.s ⟨#[]⟩))),(1,(.c (.s ⟨#[49,97]⟩))),(2,(.c (.s ⟨#[112,97]⟩))),(3,(.c (.s ⟨#[111,107,95,49]⟩))),(4,(.c (.s ⟨#[116,104,105,114,116,101,101,110,108,111,110,103,95]⟩))),(5,(.c (.s ⟨#[65]⟩))),(6,(.c (.s ⟨#[116,119,101,108,118,101,95,108,111,110,103,95]⟩)))]]
def aXn:List ((Nat→Nat)→O):=[fun p=>.bin .sub (.c (.i .i64 (Dt (p 0)))) (.t (p 1)),
fun p=>.build [(.i .i64 0),(.i .i64 0),(.b false),(.i .i64 0),(.i .u32 0),(.i .i64 0)] [(0,1,(.t (p 0))),(1,1,(.c (.i .i64 (Dt (p 1))))),(2,1,(.t (p 2))),(3,1,(.t (p 3)))],
fun p=>.build [(.i .i64 0),(.i .i64 0),(.b false),(.i .i64 0),(.i .u32 0),(.i .i64 0)] [(0,1,(.c (.i .i64 (Dt (p 0))))),(1,1,(.t (p 1))),(2,1,(.t (p 2))),(3,1,(.t (p 3)))],
fun p=>.build [(.i .i64 0),(.i .i64 0),(.b false),(.i .i64 0),(.i .u32 0),(.i .i64 0)] [(0,1,(.t (p 0))),(1,1,(.c (.i .i64 (Dt (p 1))))),(5,1,(.t (p 2)))],
fun p=>.bin .and (.t (p 0)) (.c (.i .i64 63)),
fun p=>.build [(.i .i64 0),(.i .i64 0),(.b false),(.i .i64 0),(.i .u32 0),(.i .i64 0)] [(0,1,(.c (.i .i64 (Dt (p 0))))),(1,1,(.t (p 1)))],
fun p=>.call (.fn YC) [(.t (p 0)),(.t (p 1))],
fun p=>.call (.fn YE) [(.t (p 0))],
fun p=>.call (.fn YF) [(.t (p 0))],
fun p=>.build [(.s ⟨#[]⟩),(.i .i64 0),(.i .i64 0),(.b false),(.b false),.ns,(.i .i64 0),(.i .i64 0),(.i .i64 0),(.i .i64 0),(.i .i64 0)] [(0,1,(.c (.s ⟨#[97]⟩))),(5,1,(.t (p 0)))],
fun p=>.build [.ns,.ns,.ns] [(0,1,(.t (p 0))),(2,1,(.t (p 1)))],
fun p=>.call (.fn SZ) [(.c .ns)],
fun p=>.call (.fn YG) [(.t (p 0))],
fun p=>.call (.fn S3) [(.t (p 0))],
fun p=>.call (.fn YH) [(.t (p 0))],
fun p=>.call (.fn YI) [(.t (p 0))],
fun p=>.call (.fn YJ) [(.t (p 0))],
fun p=>.call (.fn S4) [(.t (p 0))],
fun p=>.call (.fn YL) [(.t (p 0)),(.t (p 1))],
fun p=>.call (.fn aHa) [(.t (p 0)),(.t (p 1))],
fun p=>.call (.fn LR) [(.t (p 0)),(.c (.i .i64 (Dt (p 1)))),(.c (.i .i64 1073741824))],
fun p=>.call (.fn YY) [(.t (p 0)),(.t (p 1)),(.c (.i .i64 (Dt (p 2))))],
fun p=>.bin .gtr (.t (p 0)) (.c (.i .i64 90)),
fun p=>.build [(.i .i64 0),(.i .i64 0),(.i .i64 0)] [(0,1,(.c (.i .i64 (Dt (p 0))))),(1,1,(.t (p 1))),(2,1,(.c (.i .i64 (Dt (p 2)))))]]
def aVc:List ((Nat→Nat)→O):=[fun p=>.bsl 3 [(.i .i64 0),(.i .i64 0),(.i .i64 0)] 3 [(0,(.t (p 0))),(1,(.t (p 1))),(2,(.t (p 2)))],
fun p=>.mn [(.t (p 0)),(.c (.i .i64 4096))],
fun p=>.bin .quo (.t (p 0)) (.t (p 1)),
fun p=>.mv (.c (.i .i64 4096)),
fun p=>.call (.fn YM) [(.t (p 0))],
fun p=>.call (.fn Kk) [(.t (p 0))],
fun p=>.call (.fn YN) [(.t (p 0))],
fun p=>.call (.fn YO) [(.t (p 0)),(.t (p 1)),(.t (p 2))],
fun p=>.bin .eql (.t (p 0)) (.c (.i .i64 (-1))),
fun p=>.call (.fn YP) [(.t (p 0)),(.t (p 1)),(.t (p 2))],
fun p=>.call (.fn YQ) [(.t (p 0))],
fun p=>.call (.fn YS) [(.t (p 0))],
fun p=>.call (.fn YU) [(.t (p 0))],
fun p=>.call (.fn Kl) [(.t (p 0)),(.c (.i .i64 (Dt (p 1)))),(.c .ns)],
fun p=>.call (.fn YW) [(.t (p 0))],
fun p=>.mv (.c (.i .u8 0)),
fun p=>.mv (.c (.i .u8 128)),
fun p=>.call (.fn YX) [(.t (p 0))],
fun p=>.slice 1 (.t (p 0)) none (some (.c (.i .i64 (Dt (p 1))))) none,
fun p=>.bin .neq (.t (p 0)) (.c (.s ⟨#[72,79,82,65]⟩)),
fun p=>.call (.fn S5) [(.t (p 0))],
fun p=>.call (.fn S6) [(.t (p 0))],
fun p=>.call (.fn Jh) [(.t (p 0)),(.c (.i .i64 (Dt (p 1)))),(.c (.i .i64 128))],
fun p=>.build [(.i .i64 0),(.i .i64 0),(.i .i64 0)] [(0,1,(.t (p 0)))]]
def aVd:List ((Nat→Nat)→O):=[fun p=>.call (.fn YZ) [(.t (p 0))],
fun p=>.call (.fn Y0) [(.t (p 0)),(.t (p 1))],
fun p=>.call (.fn Y1) [(.t (p 0))],
fun p=>.bsl 1 [.ns] 2 [(0,(.t (p 0))),(1,(.t (p 1)))],
fun p=>.call (.fn Y5) [(.t (p 0)),(.t (p 1))],
fun p=>.call (.fn Y7) [(.t (p 0))],
fun p=>.call (.fn S8) [(.t (p 0))],
fun p=>.build [(.i .i64 0),(.i .i64 0),(.b false),(.i .i64 0),(.i .u32 0),(.i .i64 0)] [(0,1,(.t (p 0))),(1,1,(.t (p 1))),(2,1,(.t (p 2))),(3,1,(.t (p 3)))],
fun p=>.call (.fn Ji) [(.t (p 0)),(.c (.i .i64 4294967295))],
fun p=>.call (.fn Ji) [(.t (p 0)),(.c (.i .i64 128))],
fun p=>.build [(.i .i64 0),(.i .i64 0),(.i .i64 0)] [(0,1,(.t (p 0))),(1,1,(.t (p 1))),(2,1,(.t (p 2)))],
fun p=>.call (.fn Y8) [(.t (p 0)),(.t (p 1))],
fun p=>.eq true (.agg [.i,.i,.b,.i,.i,.i]) (.t (p 0)) (.t (p 1)),
fun p=>.call (.fn Yu) [(.t (p 0))],
fun p=>.build [.ns,.ns,(.i .i64 0),(.i .i64 0),(.i .i64 0)] [(0,1,(.t (p 0)))],
fun p=>.call (.fn Tb) [(.t (p 0))],
fun p=>.call (.fn Y9) [(.t (p 0))],
fun p=>.call (.fn Tc) [(.t (p 0))],
fun p=>.call (.fn Zb) [(.t (p 0))],
fun p=>.call (.fn Ze) [(.t (p 0)),(.t (p 1)),(.t (p 2))],
fun p=>.call (.fn Zg) [(.t (p 0)),(.c (.i .i64 (Dt (p 1))))],
fun p=>.call (.fn Td) [(.t (p 0)),(.c (.i .i64 (Dt (p 1))))],
fun p=>.call (.fn NL) [(.t (p 0)),(.c (.i .i64 (Dt (p 1))))],
fun p=>.call (.fn NM) [(.t (p 0)),(.c (.i .i64 (Dt (p 1))))]]
def aVe:List ((Nat→Nat)→O):=[fun p=>.build [(.i .i64 0),(.i .i64 0)] [(0,1,(.c (.i .i64 (-1)))),(1,1,(.t (p 0)))],
fun p=>.bin .lss (.t (p 0)) (.c (.i .i64 8192)),
fun p=>.call (.fn Zj) [(.t (p 0))],
fun p=>.call (.fn Zk) [(.t (p 0))],
fun p=>.call (.fn Zl) [(.t (p 0)),(.t (p 1))],
fun p=>.call (.fn aG9) [(.t (p 0)),(.t (p 1))],
fun p=>.call (.fn Te) [(.t (p 0)),(.c (.i .i64 (Dt (p 1))))],
fun p=>.build [(.s ⟨#[]⟩),(.i .i64 0),(.i .i64 0),(.b false),(.b false),.ns,(.i .i64 0),(.i .i64 0),(.i .i64 0),(.i .i64 0),(.i .i64 0)] [(0,1,(.t (p 0)))],
fun p=>.call (.fn Jh) [(.t (p 0)),(.c (.i .i64 (Dt (p 1)))),(.c (.i .i64 512))],
fun p=>.call (.fn Jh) [(.t (p 0)),(.c (.i .i64 (Dt (p 1)))),(.c (.i .i64 255))],
fun p=>.build [(.i .i64 0),(.i .i64 0),(.b false),(.i .i64 0),(.i .u32 0),(.i .i64 0)] [(0,1,(.t (p 0)))],
fun p=>.call (.fn Jh) [(.t (p 0)),(.c (.i .i64 (Dt (p 1)))),(.c (.i .i64 4294967295))],
fun p=>.bin .eql (.t (p 0)) (.c (.i .u32 1)),
fun p=>.bin .xor (.t (p 0)) (.c (.i .u32 79764919)),
fun p=>.call (.fn Zn) [(.t (p 0))],
fun p=>.mkfn (.func Rn) [] [(.t (p 0))],
fun p=>.call (.fn Rm) [(.t (p 0)),(.t (p 1))],
fun p=>.call (.fn Ro) [(.t (p 0))],
fun p=>.call (.fn Rp) [(.t (p 0)),(.t (p 1))],
fun p=>.call (.fn Rq) [(.t (p 0)),(.t (p 1))],
fun p=>.mkif 9 (.c (.s ⟨#[108,101,110,32,111,117,116,32,111,102,32,114,97,110,103,101]⟩)),
fun p=>.call (.fn Rr) [(.c .ns),(.t (p 0))],
fun p=>.call (.fn Rt) [(.t (p 0)),(.t (p 1))],
fun p=>.call (.fn Ru) [(.t (p 0))]]
def aVf:List ((Nat→Nat)→O):=[fun p=>.call (.fn MO) [(.t (p 0)),(.c (.i .i64 (Dt (p 1))))],
fun p=>.build [(.s ⟨#[]⟩),(.i .i64 0),(.i .i64 0),(.b false),(.b false),.ns,(.i .i64 0),(.i .i64 0),(.i .i64 0),(.i .i64 0),(.i .i64 0)] [(0,1,(.t (p 0))),(1,1,(.t (p 1))),(2,1,(.t (p 2))),(3,1,(.t (p 3))),(4,1,(.t (p 4)))],
fun p=>.call (.fn Ji) [(.t (p 0)),(.c (.i .i64 512))],
fun p=>.call (.fn Ji) [(.t (p 0)),(.c (.i .i64 255))],
fun p=>.eq true (.agg [.i,.i,.i,.i,.i]) (.t (p 0)) (.t (p 1)),
fun p=>.eq true (.agg [.i,.i]) (.t (p 0)) (.t (p 1)),
fun p=>.call (.fn Kj) [(.t (p 0)),(.c (.i .i64 (Dt (p 1))))],
fun p=>.call (.fn Kj) [(.t (p 0)),(.t (p 1))],
fun p=>.slice 2 (.t (p 0)) none (some (.t (p 1))) none,
fun p=>.slice 2 (.t (p 0)) none (some (.t (p 1))) (some (.t (p 2))),
fun p=>.build [(.i .i64 0),(.i .i64 0),(.i .i64 0),(.i .i64 0),(.i .i64 0),(.i .i64 0)] [(3,1,(.c (.i .i64 (Dt (p 0)))))],
fun p=>.build [(.i .i64 0),(.i .i64 0),(.i .i64 0),(.i .i64 0),(.i .i64 0),(.i .i64 0)] [(0,3,(.t (p 0))),(3,1,(.t (p 1)))],
fun p=>.alloc [(.i .i64 0),(.i .i64 0),(.i .i64 0),(.i .i64 0),(.i .i64 0),(.i .i64 0)],
fun p=>.call (.fn Ry) [(.t (p 0)),(.t (p 1))],
fun p=>.call (.fn Rz) [(.t (p 0)),(.t (p 1))],
fun p=>.call (.fn RA) [(.t (p 0))],
fun p=>.call (.fn NL) [(.t (p 0)),(.t (p 1))],
fun p=>.call (.fn NM) [(.t (p 0)),(.t (p 1))],
fun p=>.call (.fn RC) [(.t (p 0)),(.t (p 1))],
fun p=>.bin .geq (.t (p 0)) (.c (.i .u8 48)),
fun p=>.bin .leq (.t (p 0)) (.c (.i .u8 57)),
fun p=>.bin .eql (.t (p 0)) (.c (.i .u8 95)),
fun p=>.bin .lss (.t (p 0)) (.c (.i .u8 97)),
fun p=>.bin .gtr (.t (p 0)) (.c (.i .u8 122))]
def aVg:List ((Nat→Nat)→O):=[fun p=>.bin .geq (.t (p 0)) (.c (.i .i64 512)),
fun p=>.bin .gtr (.t (p 0)) (.c (.i .i64 255)),
fun p=>.call (.fn RD) [(.t (p 0)),(.t (p 1))],
fun p=>.bin .and (.t (p 0)) (.c (.i .u8 127)),
fun p=>.call (.fn NJ) [(.c .ns),(.t (p 0))],
fun p=>.bin .geq (.t (p 0)) (.c (.i .u8 97)),
fun p=>.bin .leq (.t (p 0)) (.c (.i .u8 122)),
fun p=>.bin .lss (.t (p 0)) (.c (.i .u8 48)),
fun p=>.bin .gtr (.t (p 0)) (.c (.i .u8 57)),
fun p=>.bin .neq (.t (p 0)) (.c (.i .u8 95)),
fun p=>.call (.fn RE) [(.t (p 0)),(.t (p 1))],
fun p=>.call (.fn RF) [(.t (p 0))],
fun p=>.call (.fn IG) [(.t (p 0)),(.c (.i .i64 4096))],
fun p=>.call (.fn Yr) [(.t (p 0))],
fun p=>.mkfn (.func RG) [] [(.t (p 0))],
fun p=>.call (.fn Zi) [(.t (p 0)),(.t (p 1))],
fun p=>.call (.fn Ys) [(.t (p 0)),(.t (p 1))],
fun p=>.mkif 9 (.c (.s ⟨#[99,97,110,110,111,116,32,98,101,32,110,101,103,97,116,105,118,101]⟩)),
fun p=>.appz [(.i .u8 0)] (.t (p 0)) (.t (p 1)),
fun p=>.bin .mul (.c (.i .u32 79764919)) (.t (p 0)),
fun p=>.call (.fn RH) [(.t (p 0))],
fun p=>.call (.fn RI) [(.t (p 0))],
fun p=>.bin .add (.t (p 0)) (.c (.i .u8 128)),
fun p=>.bsl 1 [.ns] 3 [(0,(.t (p 0))),(1,(.t (p 1))),(2,(.t (p 2)))]]
def aVh:List ((Nat→Nat)→O):=[fun p=>.slice 1 (.t (p 0)) none (some (.t (p 1))) (some (.t (p 2))),
fun p=>.call (.fn RJ) [(.t (p 0)),(.t (p 1))],
fun p=>.bin .andNot (.t (p 0)) (.c (.i .u8 128)),
fun p=>.slice 1 (.t (p 0)) (some (.c (.i .i64 (Dt (p 1))))) (some (.t (p 2))) none,
fun p=>.call (.fn IE) [(.c .ns),(.t (p 0))],
fun p=>.call (.fn IG) [(.t (p 0)),(.c (.i .i64 511))],
fun p=>.call (.fn IG) [(.t (p 0)),(.c (.i .i64 255))]]
def aXo:Nat→List ((Nat→Nat)→O)
 | 0=>aXe
 | 1=>aXf
 | 2=>aXg
 | 3=>aXh
 | 4=>aXi
 | 5=>aXj
 | 6=>aXk
 | 7=>aXl
 | 8=>aXm
 | 9=>aXn
 | 10=>aVc
 | 11=>aVd
 | 12=>aVe
 | 13=>aVf
 | 14=>aVg
 | _=>aVh
def shp (s:Nat) (p:Nat→Nat):O:=tR (fun _=>.e0) (aXo (s / 24)) (s % 24) p
def nps:List Nat:=[1,2,1,1,1,2,2,2,1,2,2,2,0,0,1,2,2,1,2,2,1,1,1,2,2,2,2,2,2,1,2,0,2,2,2,0,2,2,2,2,2,1,1,2,2,3,1,1,2,1,2,0,0,0,2,2,0,1,2,2,2,2,2,2,0,1,2,0,1,1,0,2,2,1,2,2,1,1,1,1,1,2,1,1,2,2,1,1,2,1,1,1,2,1,0,1,2,1,2,2,2,1,2,0,1,2,1,1,0,2,1,1,2,1,1,1,1,2,1,0,2,1,2,2,2,1,2,1,1,3,2,1,0,2,2,2,2,0,3,1,2,3,3,3,3,3,2,1,1,4,2,2,2,1,1,1,1,1,0,1,1,2,1,0,1,1,1,1,3,1,1,1,3,1,1,1,1,0,2,2,1,2,1,1,2,2,2,1,2,1,2,1,1,2,1,1,3,1,0,1,1,1,1,3,2,5,0,0,4,2,2,1,1,1,2,0,2,4,4,3,1,2,2,1,1,1,2,0,1,1,1,1,1,1,2,2,2,3,1,3,3,1,2,0,1,1,1,3,1,3,1,1,1,2,1,0,0,1,2,1,1,1,2,1,1,2,1,2,2,1,1,4,1,1,3,2,2,1,1,1,1,1,1,3,2,2,2,2,1,1,1,1,2,2,2,1,2,2,1,2,1,1,1,1,2,1,2,2,0,1,2,1,2,5,1,1,2,2,2,2,2,3,1,2,0,2,2,1,2,2,2,1,1,1,1,1,1,1,2,1,1,1,1,1,1,1,2,1,1,1,1,2,2,0,2,1,1,1,1,3,3,2,1,3,1,1,1]
abbrev Rs:=List TO×List (Bool×List TO)
abbrev Rc:=Nat→Nat→Nat→Bool→Rs
def aIg (s:Nat) (d:Option Nat) (g:Option (Nat×Bool)) (l:List Nat) (r:Rs):Rs:=(⟨d,shp s (fun i=>tR 0 l i),g⟩::r.1,r.2)
def rO (R:Nat) (rc:Nat→List Nat→Rs):Nat→Nat→List Nat→Rs
 | 0,n,l=>rc n l
 | f+1,n,l=>rO R rc f (n / R) (n % R::l)
def rN (R s:Nat) (rc:Rc) (g:Option (Nat×Bool)) (gn:Nat) (gb:Bool) (p:Nat):Nat→Nat→Rs
 | 0,n=>rO R (fun n l=>aIg s (some (p+1)) g l (rc n (p+1) gn gb)) (tR 0 nps s) n []
 | 1,n=>rO R (fun m l=>aIg s (some (n % R)) g l (rc m (n % R) gn gb)) (tR 0 nps s) (n / R) []
 | _+2,n=>rO R (fun n l=>aIg s none g l (rc n p gn gb)) (tR 0 nps s) n []
def aXc (R s:Nat) (rc:Rc) (p gn:Nat) (gb:Bool):Nat→Nat→Rs
 | 0,n=>rN R s rc none gn gb p (n % 3) (n / 3)
 | 1,n=>rN R s rc (some (n % R,true)) (n % R) true p (n / R % 3) (n / R / 3)
 | 2,n=>rN R s rc (some (n % R,false)) (n % R) false p (n / R % 3) (n / R / 3)
 | _+3,n=>rN R s rc (some (gn,gb)) gn gb p (n % 3) (n / 3)
def aVb (b:Bool) (r:Rs):Rs:=([],(b,r.1)::r.2)
def aXp (R:Nat) (rc:Rc) (p gn:Nat) (gb:Bool):Nat→Nat→Rs
 | 0,_=>([],[])
 | 1,n=>aVb true (rc n p gn gb)
 | 2,n=>aVb false (rc n p gn gb)
 | s+3,n=>aXc R s rc p gn gb (n % 4) (n / 4)
def aIf (R:Nat):Nat→Rc
 | 0=>fun _ _ _ _=>([],[])
 | f+1=>fun n p gn gb=>aXp R (aIf R f) p gn gb (n % 370) (n / 370)
def aVa (n:Nat):Nat:=tR 0 [32,64,128,512] (n % 4)
@[go_sem ↓] def k (n:Nat) {l:List TO} (h:(aIf (aVa n) 400 (n / 4) 511 0 true).1=l:=by conv=>lhs;cbv):List TO:=l
@[go_sem ↓] def kd (n:Nat) {l:List (Bool×List TO)} (h:(aIf (aVa n) 400 (n / 4) 511 0 true).2=l:=by conv=>lhs;cbv):List (Bool×List TO):=l
/-! horarium/horariumlaw14.ImageTells -/
@[go_sem] def aVj:=k 0x10d89235130
@[go_sem] def aVk:=k 0x32de066420db0c66207381b9877ec
@[go_sem] def aVl:=k 0x77c8127af35e21a4
@[go_sem] def aVm:=k 0x7470fd3a1f90ef996d81197213263786473e9cfc
@[go_sem] def aVn:=k 0x6d9505747ab5264c2e18afdee57ab9cce53759b78a7e93728281b5c08ff1c0155cd
@[go_sem] def aVo:=k 0x2108194905d94ea1e9a9b0a070932a84a64fc19b1a281aa88fb9b53773a71be5ee7dca884a33e2d9c53130863c391a5f9b7c55e4ac1d48ba5956e32ad32c2231d1462690c774a0519420d3293615486516ba38e45d28446144afd19054d317674625eaf27096579935a5a670ed277b236063de2c8cfb843984944b3e0c2b871713dc6b993c926
def bV:TF:=⟨89,[.t 14],(.seq (.reg aVj) (.seq (.reg aVk) (.seq (.reg aVl) (.seq (.reg aVm) (.seq (.reg aVn) (.seq (.reg aVo) .ret))))))⟩
/-! (*horarium/horariumkeep.Tape).Config -/
@[go_sem] def aVp:=k 0xa268
@[go_sem] def aVq:=k 0xe7c8
@[go_sem] def aVr:=k 0x29cb5766882c3b677ae1d0c
@[go_sem] def aVs:=k 0x17218
@[go_sem] def aVt:=k 0x543961ba6000492c
@[go_sem] def aVu:=k 0x142279adee30d7b17f61714ef3308d24882171513864bac6e5a2df6d2fd16f53e41bb308800d
@[go_sem] def aVv:=k 0x2b73b32745b5193088d
@[go_sem] def aVw:=k 0x29203d59cfb4d
@[go_sem] def aVx:=kd 0x2dc8e525509cea394ef0144bcf3aee70363ec4e899070bd2489b4ad010940efc1dbfa3f306b2e691bc4ff65f26564b1ca5
@[go_sem] def aVy:=k 0x308bf9757437a75860d
def VH:TC:=(.seq (.seq (.reg aVw) (.cond (.t 36) .skip (.exit 2))) (.seq (.block 3 (.dreg aVx)) (.reg aVy)))
@[go_sem] def aJp:=k 0xda3f9
@[go_sem] def aJq:=k 0xd930a189
@[go_sem] def aJr:=k 0x3d4110e235ead
@[go_sem] def aJs:=k 0x1f7813ed4fd001b14a9b5fbacaf4b4c9b771c50340fd8f4288209340d
@[go_sem] def aJt:=k 0x12266e1ed6df721
def VI:TC:=(.seq (.reg aJq) (.seq (.cond (.t 51) .skip (.exit 4)) (.seq (.block 5 (.seq (.reg aJr) (.reg aJs))) (.reg aJt))))
@[go_sem] def aJu:=k 0x3b5ecab2753e7e57ad132cf74455e9202e51c78f472
@[go_sem] def aJv:=k 0xcd7dce79c2340994c
def VJ:TC:=(.seq (.seq (.reg aVt) (.cond (.t 18) .skip (.exit 0))) (.seq (.block 1 (.seq (.reg aVu) (.seq (.seq (.reg aVv) (.block 2 (.loop VH))) (.seq (.seq (.reg aJp) (.block 4 (.loop VI))) (.reg aJu))))) (.reg aJv)))
@[go_sem] def aJw:=k 0xaff5072c00c9d2ba84ae
@[go_sem] def aJx:=k 0x75bed3fa52f3a2a6ba870a3644dd643edb3f6e
@[go_sem] def aJy:=k 0x6e90cd146a659f8272d1d3a6e
@[go_sem] def aJz:=kd 0x7badbd6ca5132114e231fc3bd8bca804b372a4a305f4949b60d4e595d7a7e6550ba0eaa178dde7ae98aa1406986b76f3f8448b875ffdc4bc2542232aa10c6dd3c995493ee2742a88f552b1b10eb60343d2dbc427e96ba3dc2fe5e
@[go_sem] def aJA:=k 0x3ac0740048c0b2
@[go_sem] def aJB:=k 0x13cbd8f3a6b6815c8658c9ec4f4483bb6e
@[go_sem] def aJC:=k 0x625c782efe82452ee7a1f9ca95166bc7faeaddce0f2
@[go_sem] def aJD:=k 0xc4562056b07b9914dfae
def VK:TC:=(.seq (.seq (.reg aJx) (.cond (.t 75) .skip (.exit 6))) (.seq (.block 7 (.seq (.reg aJy) (.seq (.dreg aJz) (.seq (.seq (.reg aJA) (.cond (.t 101) (.reg aJB) .skip)) (.reg aJC))))) (.reg aJD)))
@[go_sem] def aJE:=k 0x1201a5a69b4a9b646712e
@[go_sem] def aJF:=k 0x42f9eee6273bee
@[go_sem] def aJG:=kd 0x283040acb6b9a6bdfbd45f01f50421b077731cb3a4317661c65f2b54547e2f345d7f2053e6
@[go_sem] def aJH:=k 0x12a4ae6ff0d189987c6ae
def VL:TC:=(.seq (.seq (.reg aJF) (.cond (.t 115) .skip (.exit 8))) (.seq (.block 9 (.dreg aJG)) (.reg aJH)))
@[go_sem] def aJI:=k 0x31bbbf82bc4dae5672119a23c6f
def bW:TF:=⟨129,[.cell 2 3 true],(.seq (.reg aVp) (.seq (.reg aVq) (.seq (.reg aVr) (.seq (.seq (.reg aVs) (.block 0 (.loop VJ))) (.seq (.seq (.reg aJw) (.block 6 (.loop VK))) (.seq (.seq (.reg aJE) (.block 8 (.loop VL))) (.seq (.reg aJI) .ret)))))))⟩
/-! horarium/horariumref3.Of -/
@[go_sem] def aVz:=k 0x34aa20
@[go_sem] def aVA:=k 0x245a925afed2b76c
@[go_sem] def aVB:=k 0x12cd0c40722c
@[go_sem] def aVC:=k 0x1979d2fbd117cec
@[go_sem] def aVD:=k 0x916e7b8af6e3d2dd924c
@[go_sem] def aVE:=k 0x264afae7f3dbe6c
@[go_sem] def aVF:=k 0x1c36a0a20
@[go_sem] def aVG:=k 0x1eb54a6048e8c
def bX:TF:=⟨18,[.t 2,.t 3],(.seq (.reg aVz) (.seq (.seq (.reg aVA) (.seq (.reg aVB) (.cond (.t 9) (.seq (.reg aVC) .ret) .skip))) (.seq (.reg aVD) (.seq (.seq (.reg aVE) (.cond (.t 16) (.seq (.reg aVF) .ret) .skip)) (.seq (.reg aVG) .ret)))))⟩
/-! horarium/horariumref3.Total -/
@[go_sem] def aVH:=k 0xa1f8
@[go_sem] def aVI:=k 0xe758
@[go_sem] def aVJ:=k 0xe8a7ff0376c
@[go_sem] def aVK:=k 0x8eb3ba8
@[go_sem] def aVL:=k 0x768379c073cc3d9c92d50
@[go_sem] def aVM:=k 0x5a6bf304e6e57430544f1675bac
@[go_sem] def aVN:=k 0x4c6cede491940
def aLS:TC:=(.seq (.reg aVK) (.seq (.cond (.t 9) .skip (.exit 0)) (.seq (.block 1 (.seq (.reg aVL) (.reg aVM))) (.reg aVN))))
@[go_sem] def aVO:=k 0x281f45f3368c
def bZ:TF:=⟨18,[.t 2],(.seq (.reg aVH) (.seq (.reg aVI) (.seq (.seq (.reg aVJ) (.block 0 (.loop aLS))) (.seq (.reg aVO) .ret))))⟩
/-! horarium/horariumref7.Holds -/
@[go_sem] def aVP:=k 0x517e5da230
@[go_sem] def aVQ:=k 0x40a41e2323b99a4f0
@[go_sem] def aVR:=k 0xe837288
@[go_sem] def aVS:=k 0x900f47503f17680d16460
@[go_sem] def aVT:=k 0x9c5decee233d432831e771aaf6b15da1bb5e8c
@[go_sem] def aVU:=k 0x4bb18099e3e23410fccf43f5c417c0980f3f2851841fe4a996acb280fef12fc52753fd9c62d1
@[go_sem] def aVV:=k 0xa5f0b8
@[go_sem] def aVW:=k 0xaa2eb358f930c1
def aNf:TC:=(.seq (.reg aVR) (.seq (.cond (.t 14) .skip (.exit 0)) (.seq (.block 1 (.seq (.reg aVS) (.seq (.reg aVT) (.seq (.reg aVU) (.cond (.t 35) (.seq (.reg aVV) .ret) .skip))))) (.reg aVW))))
@[go_sem] def aVX:=k 0x86606170c15facce11
@[go_sem] def aM8:=k 0xb01f9ba9
@[go_sem] def aM9:=k 0xfbbc76c363de831093ee2197e9f5d38ed
@[go_sem] def aNa:=kd 0x32622cb982abfa343f2fd83619c7a3ffcf64113c5662b6fc7f45806b514ee291cea2d7ea84925
@[go_sem] def aNb:=k 0xae9cb8
@[go_sem] def aNc:=k 0x1139135da112701
def sC:TC:=(.seq (.reg aM8) (.seq (.cond (.t 41) .skip (.exit 2)) (.seq (.block 3 (.seq (.reg aM9) (.seq (.dreg aNa) (.cond (.t 57) (.seq (.reg aNb) .ret) .skip)))) (.reg aNc))))
@[go_sem] def aNe:=k 0x12cb8
def cA:TF:=⟨59,[.t 4],(.seq (.reg aVP) (.seq (.seq (.reg aVQ) (.block 0 (.loop aNf))) (.seq (.seq (.reg aVX) (.block 2 (.loop sC))) (.seq (.reg aNe) .ret))))⟩
/-! horarium/horariumref3.Nodes -/
@[go_sem] def aVY:=k 0x12cdc
@[go_sem] def aVZ:=k 0xae5d201d40b849d27670376c
@[go_sem] def aV0:=k 0x12cdc
@[go_sem] def aV1:=k 0xee88065924c
@[go_sem] def aV2:=k 0xe837288
@[go_sem] def aV3:=k 0x23a473f563cc
@[go_sem] def aV4:=kd 0xeb94fcdc189982a9d1227ee374290bf68be2ba4646c99c
@[go_sem] def aV5:=k 0x12cdc
@[go_sem] def aV6:=k 0x7775f023709a0
def aOo:TC:=(.seq (.reg aV2) (.seq (.cond (.t 14) .skip (.exit 0)) (.seq (.block 1 (.seq (.reg aV3) (.seq (.dreg aV4) (.cond (.t 24) (.seq (.reg aV5) .ret) .skip)))) (.reg aV6))))
@[go_sem] def aOn:=k 0x12d8c
def cB:TF:=⟨26,[.t 4],(.seq (.reg aVY) (.seq (.seq (.reg aVZ) (.cond (.t 10) (.seq (.reg aV0) .ret) .skip)) (.seq (.seq (.reg aV1) (.block 0 (.loop aOo))) (.seq (.reg aOn) .ret))))⟩
/-! (*horarium/horariumkeep.Tape).Table -/
@[go_sem] def aV7:=k 0x1b7a0
@[go_sem] def aV8:=k 0x7c9c718532559924c
@[go_sem] def aV9:=k 0x193267a02c3934e50bc18ed0f82fbf50c
@[go_sem] def aWa:=k 0x2ca6a783714c
@[go_sem] def aWb:=k 0x28e11866fef1d756357ec60cf5bb0480c
@[go_sem] def aWc:=k 0x44650332557188c283edfdedddbe8308b012306501ce389922ed
@[go_sem] def aWd:=k 0x27fccd6a8b5ed
@[go_sem] def aWe:=k 0x1e551b84f69410b87ab6196f0e815f65f8571070170ec2b58039dceb2f03d3123d8ad
@[go_sem] def aWf:=k 0x43d53d11f0da211de30b6d3cd
@[go_sem] def aWg:=k 0x11ffc7d158a29e847d5263ed
@[go_sem] def aPy:=k 0x2ccf8
@[go_sem] def aPz:=k 0x11253146b2d23de40d
@[go_sem] def aPA:=k 0xf447cb7309a518252a65281c175b12b781310b448954ffeee
@[go_sem] def aPB:=k 0x48ce903bc4036fcb42d
def sH:TC:=(.seq (.seq (.reg aPz) (.cond (.t 55) .skip (.exit 0))) (.seq (.block 1 (.reg aPA)) (.reg aPB)))
@[go_sem] def aPC:=k 0x2637a06f91e48e
def Ss:TF:=⟨66,[.t 6],(.seq (.reg aV7) (.seq (.reg aV8) (.seq (.seq (.reg aV9) (.cond (.t 18) (.seq (.seq (.reg aWa) (.cond (.t 20) (.seq (.reg aWb) .ret) .skip)) (.seq (.reg aWc) .ret)) .skip)) (.seq (.seq (.reg aWd) (.cond (.t 35) (.seq (.reg aWe) .ret) .skip)) (.seq (.reg aWf) (.seq (.reg aWg) (.seq (.seq (.reg aPy) (.block 0 (.loop sH))) (.seq (.reg aPC) .ret))))))))⟩
/-! horarium/horariumlaw14.same -/
@[go_sem] def aWh:=k 0x1042dcd0
@[go_sem] def aWi:=k 0x119649a8ae419d96c0075882d39b58ffa904
@[go_sem] def aWj:=k 0x3dfcb45a64563e84
@[go_sem] def aWk:=k 0x44768573addacd0c
@[go_sem] def aWl:=k 0xa21c
@[go_sem] def aWm:=k 0x2599f04b492c
@[go_sem] def aWn:=k 0x33cf53a919c2f6f0817f0b97a911bb7d25a437d703d7bec
@[go_sem] def aWo:=kd 0x1036b5c1e0c8ebf977ae51eea011c6dbd9fea49a4735e03a969937392fc9b1be19ddae2f15076d5b85424c8eebe94091d
def Su:TF:=⟨43,[.t 2],(.seq (.reg aWh) (.seq (.reg aWi) (.seq (.reg aWj) (.seq (.seq (.reg aWk) (.cond (.t 15) (.seq (.reg aWl) .ret) .skip)) (.seq (.seq (.reg aWm) (.cond (.t 17) (.seq (.reg aWn) .ret) .skip)) (.seq (.dreg aWo) .ret))))))⟩
/-! horarium/horariumlaw14.odd -/
@[go_sem] def aWp:=k 0x77367fe790
@[go_sem] def aWq:=k 0xaddc470e86357d215fdafa449da985c
@[go_sem] def aWr:=k 0xf0c80a811ee9c21831dcefa12bff33c
@[go_sem] def aWs:=k 0x133b3cdf3b79e070eb25a8065ba54e1c
@[go_sem] def aWt:=k 0x1ccfff2055d45f1cbeb71bb7476d465961219909c30
@[go_sem] def aWu:=k 0x58acbfdd9fcc4ee1c0fc44f15ed77a6ee331523b61e9ac2be5cd
@[go_sem] def aWv:=k 0xd18d19d982128744462d
@[go_sem] def aWw:=k 0x5d5cf744ee71404d4997b1fcc210b3639d0b21a253c22286906e7cede2afeb999a76476e0cea0af95358d296153c78176fa49aa98aab479194f4e1b95313e194e059da7c69e134df4aa5a727b3b523522bd192b120071121f934d489b195728164648ee
@[go_sem] def aWx:=k 0x3de28ab6c3526
@[go_sem] def aWy:=k 0x129ea4e
@[go_sem] def aRK:=k 0x1bd3c49818e19086
@[go_sem] def aRL:=k 0x743eae2e5f9b7c4051268fc61f9350bd9a701ff931cdc83717f7cbca5ce
@[go_sem] def aRM:=k 0x1f15723679073ba6
@[go_sem] def aRN:=k 0x523227cea6e5fe3c2683a63197a0ee
@[go_sem] def aRO:=k 0x20dc2e01392b8be6
@[go_sem] def aRP:=k 0x56b88c842a544920ec67183199412e
@[go_sem] def aRQ:=k 0x22a2e9cbf94fdc26
@[go_sem] def aRR:=k 0x3b8c1e41d89d6ae3d69126b42cd29c750695ac5ad19ae16e
@[go_sem] def aRS:=k 0x254d037c1974fc86
@[go_sem] def aRT:=k 0x3f81893fc61705a0330fc0989298161fd25a87d8a19ad10c6dc1cf
@[go_sem] def aRU:=k 0x27bbebfe1a4f5a6ce7
@[go_sem] def aRV:=k 0x43cdb10d0bd60843775ee8cd5af317665c91608dde8ec51070322f
@[go_sem] def aRW:=k 0x2a620e76224fe79d47
@[go_sem] def aRX:=k 0x65f573e51f8f1b82b91472a28f
@[go_sem] def aRY:=k 0x2bdacc470a5073b827
@[go_sem] def aRZ:=k 0x9f6d4ee03e6678b9a5e053746b2a0877b4ba43b3971a7cb98798873fd6f
@[go_sem] def aR0:=k 0x198b2dc17b56baed63a44f78b2f5a7aef979c39fbac0967fb59e1dff173580766dcf
def Wl:TC:=(.seq (.seq (.reg aRZ) (.cond (.t 158) .skip (.exit 3))) (.block 4 (.reg aR0)))
@[go_sem] def aR1:=k 0x32091cb47251042907
@[go_sem] def aR2:=k 0x11b860d6faed66917ab1314a4ba14f904d50b890ba2c9f2348e25ff42dd69136273bc3dee9545d02c24982504b7370174eae53
@[go_sem] def aR3:=k 0x367356272a5192f9a7
@[go_sem] def aR4:=k 0x29c6989e00cf4502973a4ab43fc62fa53683b362f94ddf6f6f96e54c6009f27a055d1448378259ddf08a63f0cc81afc86281752bef3
@[go_sem] def aR5:=k 0x3b28e8c3aa52220fa7
@[go_sem] def aR6:=k 0x8bc3d2a31d0782180a44b75af0bc42bb5e7e5e4617496a3da8e40e1d5d8142b1bdc81d5622a8175714f3
@[go_sem] def aR7:=k 0x3efc6fe2d252b05587
@[go_sem] def aR8:=kd 0x19fe2d7b33fafe734a15538aabc55476f2b76b0839ad6194da6e5a63eda7eeee2965465461e5761c1f82fcf2d6cebb84ebedad3f3c0a7
@[go_sem] def aR9:=k 0x4366a9558a533f2627
@[go_sem] def aSa:=k 0x2456e0f6de2fe676df4b0120fd7f535e241dd5d5fe15db285ca95e121be6d07f5e4892cdeab73
@[go_sem] def aSb:=k 0x46eed74aea53cd26a7
@[go_sem] def aSc:=k 0x23a576952ce1ebf3
@[go_sem] def aSd:=k 0x47d0e2c8425458b6c7
@[go_sem] def aSe:=k 0x3667435c12ef615b41182224706d524a6860627412ce2bc13
@[go_sem] def aSf:=kd 0x27c8e75463cb3468e9b452822cd0c739c233fb720b35739af859d7f73e11ddefbb31a2e271b067
def Wm:TC:=(.seq (.seq (.reg aSe) (.cond (.t 251) .skip (.exit 5))) (.block 6 (.dreg aSf)))
@[go_sem] def aSg:=k 0x4524126c36fb9c5571e7f106c5ddb916b38edd4bfb2
@[go_sem] def aSh:=k 0xe11e024211b227239ea7fa2aca07e97cbf72a37eee23ec70dbf6b106e5acdd6a552
def Wn:TC:=(.seq (.seq (.reg aSg) (.cond (.t 82) .skip (.exit 1))) (.block 2 (.reg aSh)))
@[go_sem] def aSi:=k 0xf4d2393ce71247
def cC:TF:=⟨262,[.cell 6 3 true],(.seq (.reg aWp) (.seq (.reg aWq) (.seq (.reg aWr) (.seq (.reg aWs) (.seq (.reg aWt) (.seq (.reg aWu) (.seq (.reg aWv) (.seq (.seq (.reg aWw) (.cond (.t 73) (.seq (.reg aWx) .ret) .skip)) (.seq (.seq (.reg aWy) (.block 0 (.seq (.reg aRK) (.cond (.t 93) (.reg aRL) (.seq (.reg aRM) (.cond (.t 104) (.reg aRN) (.seq (.reg aRO) (.cond (.t 110) (.reg aRP) (.seq (.reg aRQ) (.cond (.t 116) (.reg aRR) (.seq (.reg aRS) (.cond (.t 125) (.reg aRT) (.seq (.reg aRU) (.cond (.t 134) (.reg aRV) (.seq (.reg aRW) (.cond (.t 143) (.reg aRX) (.seq (.reg aRY) (.cond (.t 148) (.block 3 (.loop Wl)) (.seq (.reg aR1) (.cond (.t 169) (.reg aR2) (.seq (.reg aR3) (.cond (.t 184) (.reg aR4) (.seq (.reg aR5) (.cond (.t 200) (.reg aR6) (.seq (.reg aR7) (.cond (.t 213) (.dreg aR8) (.seq (.reg aR9) (.cond (.t 228) (.reg aSa) (.seq (.reg aSb) (.cond (.t 240) (.reg aSc) (.seq (.reg aSd) (.cond (.t 243) (.block 5 (.loop Wm)) (.block 1 (.loop Wn)))))))))))))))))))))))))))))))))) (.seq (.reg aSi) .ret))))))))))⟩
/-! horarium/horariumref12.Bytes -/
@[go_sem] def aWz:=k 0x11585cd0
@[go_sem] def aWA:=k 0x128e817802899459b59c8abd71dafb846a4
@[go_sem] def aWB:=k 0x4476549d7907eb970
@[go_sem] def aWC:=k 0x1bf0c308
@[go_sem] def aWD:=k 0x8240b4544d8f9118eb4e8
@[go_sem] def aWE:=kd 0x216235c023d041a12d2d12511e0fa4cd24cff70cf2c8a856f332944160680d75d
@[go_sem] def aWF:=kd 0xba97d5e633fc5bfd9b8202b50cbd7241138cfe89f9b67ba62608a70bde55aa26b86dd
@[go_sem] def aWG:=k 0x8a841b80e109925bf1
@[go_sem] def aWH:=k 0xe9629989
@[go_sem] def aWI:=k 0x2b8cae64480984e8cc83731
@[go_sem] def aTv:=kd 0xadb7dfefd6fabccb4a864bc36bc5f4fdd0cf84b71db85c5d
@[go_sem] def aTw:=k 0x12ec39999b6c1f42
def Wq:TC:=(.seq (.reg aWH) (.seq (.cond (.t 54) .skip (.exit 2)) (.seq (.block 3 (.seq (.reg aWI) (.dreg aTv))) (.reg aTw))))
@[go_sem] def aTx:=k 0x1e9684df4cf2492
@[go_sem] def aTy:=k 0x48ac7f4ea
@[go_sem] def aTz:=k 0x144a61b105d6dba6
@[go_sem] def aTA:=k 0x6371d857d64ccc3a394c31f6e
@[go_sem] def aTB:=k 0x1599434e4e3e8fa2
def I9:TC:=(.seq (.reg aTy) (.seq (.cond (.t 68) .skip (.exit 4)) (.seq (.block 5 (.seq (.reg aTz) (.reg aTA))) (.reg aTB))))
@[go_sem] def aTC:=k 0x15cbc9f035ced502
def Ws:TC:=(.seq (.reg aWC) (.seq (.cond (.t 26) .skip (.exit 0)) (.seq (.block 1 (.seq (.reg aWD) (.seq (.dreg aWE) (.seq (.dreg aWF) (.seq (.seq (.reg aWG) (.block 2 (.loop Wq))) (.seq (.reg aTx) (.block 4 (.loop I9)))))))) (.reg aTC))))
@[go_sem] def aTD:=k 0x100697a9ed1dd4323f781ebd1ab64341c7a4e
@[go_sem] def aTE:=k 0x10e583572ad56d907532
@[go_sem] def aTF:=k 0x5aabb3aca
@[go_sem] def aTG:=k 0x101f570308ad33179642e30a2
@[go_sem] def aTH:=kd 0x150fadde0cb606bf25c54205fb9c42515e448187d63acfd69a99257ffb155c0adbfade
@[go_sem] def aTI:=kd 0xcb8ff820266b21870d541dfd4c23b880a52c83b703d8227533d650acaa5acd8680cec6aa5e
@[go_sem] def aTJ:=k 0x1feab67163c80bc2
def Wt:TC:=(.seq (.reg aTF) (.seq (.cond (.t 84) .skip (.exit 6)) (.seq (.block 7 (.seq (.reg aTG) (.seq (.dreg aTH) (.dreg aTI)))) (.reg aTJ))))
@[go_sem] def aTK:=k 0x16ebaee40cc4626ca27d18c2c04cb5425b10e
@[go_sem] def aTL:=k 0x1192bcc0e787bef1abf2
@[go_sem] def aTM:=k 0x7fd0fd18a
@[go_sem] def aTN:=k 0x131f468b558d31682c716
@[go_sem] def aTO:=k 0x5ccf89ad6c44c660b4cfa68dd0f18e
@[go_sem] def aTP:=k 0x4194bf08ce70e
@[go_sem] def aTQ:=k 0x89eeed474b
@[go_sem] def aTR:=k 0x1510020832c7c4b3432ac4784cf7
@[go_sem] def aTS:=kd 0x1eb51922b2d9cc5fd1591501a543c873c4cc1198c9baef5107b651fca65603cf0a23c3dd10d2bdf
@[go_sem] def aTT:=k 0x297e1a29daab310d23
def Wu:TC:=(.seq (.reg aTQ) (.seq (.cond (.t 128) .skip (.exit 10)) (.seq (.block 11 (.seq (.reg aTR) (.dreg aTS))) (.reg aTT))))
@[go_sem] def aTU:=k 0x29c7d5b7ffd4315283
def Ww:TC:=(.seq (.reg aTM) (.seq (.cond (.t 118) .skip (.exit 8)) (.seq (.block 9 (.seq (.reg aTN) (.seq (.reg aTO) (.seq (.reg aTP) (.block 10 (.loop Wu)))))) (.reg aTU))))
@[go_sem] def aTV:=k 0x2ddad7b7aa3e1004717cf
def cD:TF:=⟨145,[.t 2],(.seq (.reg aWz) (.seq (.reg aWA) (.seq (.seq (.reg aWB) (.block 0 (.loop Ws))) (.seq (.reg aTD) (.seq (.seq (.reg aTE) (.block 6 (.loop Wt))) (.seq (.reg aTK) (.seq (.seq (.reg aTL) (.block 8 (.loop Ww))) (.seq (.reg aTV) .ret))))))))⟩
/-! horarium/horariumlaw14.reads -/
@[go_sem] def aIs:=k 0xa21c
@[go_sem] def aIt:=k 0x29f0ca07172c7318ec2b0b5db00044aa1b0c422c
@[go_sem] def aIu:=k 0x3d00da3f7500ec03b9752c40137379f386129d0c
@[go_sem] def aIv:=k 0x31be56485a7185e132413e452504c8bdf11dc05c7bfe28c
def OK:TF:=⟨25,[.t 2],(.seq (.reg aIs) (.seq (.reg aIt) (.seq (.reg aIu) (.seq (.reg aIv) .ret))))⟩
/-! horarium/horariumref1.Seal -/
@[go_sem] def aIw:=k 0xa220
@[go_sem] def aIx:=k 0x1a0143702721acac
@[go_sem] def aIy:=k 0x5301e1140fa39cb88c984b28145d5aa44fd3ef5e1ebe2aee40b10eb6b16bdfb3ee24d94054b73bc3c
def OL:TF:=⟨22,[.t 2],(.seq (.reg aIw) (.seq (.reg aIx) (.seq (.reg aIy) .ret)))⟩
/-! horarium/horariumlaw14.known -/
@[go_sem] def aIz:=k 0x175c
@[go_sem] def aIA:=k 0xe77bc3d7da7da959bcd1a465c7573c1959b519687a7188
@[go_sem] def aIB:=k 0x2a35118d93b236f6c60b855f0267b57b7444
@[go_sem] def aIC:=k 0x6e90f98465c144421fbe2e5732d237b0db2a7aec
@[go_sem] def aID:=k 0x3a08c3d6f742d00dd3090069d0f16631cc959
@[go_sem] def aIE:=k 0x42d3ca75aae1f61f2dd7c7cfd67f81c3fe459
@[go_sem] def aIF:=k 0x193309b3deff53f398c87970feab4c54064872abf5635d89fa5
@[go_sem] def aIG:=k 0x5b296cd76647bf5a7fc1b00e2adfcb52f0e86e6ed6ded03168cf359bfed830a4f143404b990006192828470d0110887950a6173172b14a1d9ed52c8885c8677f041b9f5cee33744dbc78ed56328014694d86a1beb42e216be2368556d0247abdffadbf58fdfb85c8c9e6e
def OM:TF:=⟨81,[.t 0],(.seq (.reg aIz) (.seq (.reg aIA) (.seq (.reg aIB) (.seq (.reg aIC) (.seq (.reg aID) (.seq (.reg aIE) (.seq (.reg aIF) (.seq (.reg aIG) .ret))))))))⟩
/-! horarium/horariumbook.Within -/
@[go_sem] def aIH:=k 0x1b778
@[go_sem] def aII:=k 0x4f59663951e17e1415cb9c6650bc2342b6ba67ccc
@[go_sem] def aIJ:=k 0x23b74068a7cc
@[go_sem] def aIK:=k 0x49e59c712249c0b82bda94b22f8e43e8ced2c
@[go_sem] def aIL:=k 0x33b386890d6c
@[go_sem] def aIM:=k 0x6608bda9f03e57d9c87b441e451768a8f182c
@[go_sem] def aIN:=k 0xb145f31d3336825b91b906d
def ON:TF:=⟨33,[.t 6],(.seq (.reg aIH) (.seq (.seq (.reg aII) (.cond (.t 14) (.seq (.reg aIJ) .ret) .skip)) (.seq (.reg aIK) (.seq (.seq (.reg aIL) (.cond (.t 23) (.reg aIM) .skip)) (.seq (.reg aIN) .ret)))))⟩
/-! horarium/horariumlaw14.few -/
@[go_sem] def aIO:=k 0x24db5cd0
@[go_sem] def aIP:=k 0x2a937cca9646f0e889e5f4cfdf782d13873c882542f99350
@[go_sem] def aIQ:=k 0x4cabd1146c3b8416ebf6ec7dcbe543a9a91de42228113e50
@[go_sem] def aIR:=k 0x6ec4255e4230173bf9b026c3168d27b79aff401f0d28e950
@[go_sem] def aIS:=k 0x6bb79e31484
def OO:TF:=⟨28,[.cell 2 3 true],(.seq (.reg aIO) (.seq (.reg aIP) (.seq (.reg aIQ) (.seq (.reg aIR) (.seq (.reg aIS) .ret)))))⟩
/-! horarium/image.Bytes -/
@[go_sem] def aIT:=k 0x70deb05cd0
@[go_sem] def aIU:=k 0x1f424bfec4649e44
@[go_sem] def aIV:=k 0x10736fc02ccc
@[go_sem] def aIW:=k 0x16edafd7111378c
@[go_sem] def aIX:=k 0x8ce120cfa43c630ef7924
def OP:TF:=⟨13,[.t 2,.t 3],(.seq (.reg aIT) (.seq (.seq (.reg aIU) (.seq (.reg aIV) (.cond (.t 8) (.seq (.reg aIW) .ret) .skip))) (.seq (.reg aIX) .ret)))⟩
/-! horarium/image.Read -/
@[go_sem] def aIY:=k 0x34aa68
@[go_sem] def aIZ:=k 0x16dce23d09cfb5e856e710fb26c7c411ccec
@[go_sem] def aI0:=k 0x1074d95be6c
@[go_sem] def aI1:=k 0x42c37cac3864a638
@[go_sem] def aI2:=k 0x5c582580d3e1e28c
@[go_sem] def aI3:=k 0x3dab366512023bb8
@[go_sem] def aI4:=k 0x2bf06ef150d6b81bf1500be23cf80c
@[go_sem] def aI5:=k 0x33000fefcdd3cf8fa76b98d237b0b21c2b24
@[go_sem] def aI6:=k 0xf84ab7f31a78e4e825ef401f9331afe7c6165900f86d
@[go_sem] def aI7:=k 0x3d6740dee70145479
@[go_sem] def zN:=k 0x10fd5b3e7367eb905
def OQ:TF:=⟨40,[.cell 2 3 true,.t 3],(.seq (.reg aIY) (.seq (.reg aIZ) (.seq (.seq (.reg aI0) (.cond (.t 15) (.seq (.reg aI1) .ret) .skip)) (.seq (.seq (.reg aI2) (.cond (.t 19) (.seq (.reg aI3) .ret) .skip)) (.seq (.reg aI4) (.seq (.seq (.reg aI5) (.seq (.reg aI6) (.cond (.t 37) (.seq (.reg aI7) .ret) .skip))) (.seq (.reg zN) .ret)))))))⟩
/-! horarium/horariumref12.Same -/
@[go_sem] def aI8:=k 0x23530e12a230
@[go_sem] def aI9:=k 0x3c176a6d8f64560bacb8362c0db0392d97d82bde62faeea7b9550a9976fac8fa4
@[go_sem] def aJa:=k 0x12cdc
@[go_sem] def aJb:=k 0x4381c6fee3d319550
@[go_sem] def aJc:=k 0x18956ee8
@[go_sem] def aJd:=k 0x38caf4c5e02c
@[go_sem] def aJe:=kd 0x8528ca742e81c609347b1de3d271e4e60f24cf7fcb0ca4da7c02d51ebe6ba69a25
@[go_sem] def aJf:=k 0x12cdc
@[go_sem] def aJg:=k 0xaf8b2083ff7621
def rT:TC:=(.seq (.reg aJc) (.seq (.cond (.t 23) .skip (.exit 0)) (.seq (.block 1 (.seq (.reg aJd) (.seq (.dreg aJe) (.cond (.t 36) (.seq (.reg aJf) .ret) .skip)))) (.reg aJg))))
@[go_sem] def zO:=k 0x12d8c
def OS:TF:=⟨38,[.t 4],(.seq (.reg aI8) (.seq (.seq (.reg aI9) (.cond (.t 18) (.seq (.reg aJa) .ret) .skip)) (.seq (.seq (.reg aJb) (.block 0 (.loop rT))) (.seq (.reg zO) .ret))))⟩
/-! horarium/image.Size -/
@[go_sem] def aJh:=k 0x6815cd0
@[go_sem] def aJi:=k 0xfd416ceb97ded7d3e544b05628cc01b63a4
@[go_sem] def aJj:=k 0x386a2766ba1b50ec
def OT:TF:=⟨12,[.t 2],(.seq (.reg aJh) (.seq (.reg aJi) (.seq (.reg aJj) .ret)))⟩
/-! (*horarium/horariumkeep.Tape).Next -/
@[go_sem] def aJk:=k 0x12cb8
@[go_sem] def aJl:=kd 0x115af718a90d501bc824694f2aea8c793586f9f0b7b5ae8c5e3b7aed60ca6444b98fd55c
@[go_sem] def aJm:=k 0x12cb8
@[go_sem] def aJn:=k 0xc444588a8bd77efc2f7c58a0b6ec5ad7322ddbd4c
@[go_sem] def aJo:=kd 0x2f527d7c16d08b4f233f2ea7e672acf6a092b5b96d6203250fdd6f3a3d61411d67b910d8cc6f8d4791d
def OU:TF:=⟨40,[.t 4],(.seq (.reg aJk) (.seq (.seq (.dreg aJl) (.cond (.t 18) (.seq (.reg aJm) .ret) .skip)) (.seq (.reg aJn) (.seq (.dreg aJo) .ret))))⟩
/-! (*horarium/horariumkeep.Tape).frame -/
@[go_sem] def aJJ:=k 0x12ce0
@[go_sem] def aJK:=k 0x1c12e67362070f43826c22c
@[go_sem] def aJL:=k 0x1a6147fdeddd26257dda4bf608e4831eb3ac
@[go_sem] def aJM:=k 0x3eac6095ec7e2fd40c58a38d88e83cdf99eacdcad0567a3120f66205ca12c
@[go_sem] def aJN:=k 0x103c4da162816d5d3b0412a79a040a8c7ef80d782464dac5f95
@[go_sem] def aJO:=k 0x2934918d24b4d
def OV:TF:=⟨36,[.t 4],(.seq (.reg aJJ) (.seq (.reg aJK) (.seq (.seq (.reg aJL) (.seq (.reg aJM) (.cond (.t 27) (.seq (.reg aJN) .ret) .skip))) (.seq (.reg aJO) .ret))))⟩
/-! (*horarium/horariumkeep.Tape).asks -/
@[go_sem] def aJP:=k 0x24e49390
@[go_sem] def aJQ:=k 0x17240
@[go_sem] def aJR:=k 0x4476549d792bb1170
@[go_sem] def aJS:=k 0x1bf0c308
@[go_sem] def aJT:=k 0x11fa53d069f8beb494
@[go_sem] def aJU:=k 0xe82338ec203c7ec2ce7f64f6ba5dbbe261a06d
@[go_sem] def aJV:=k 0x378008b271d1c8fa6c3409e205ed
@[go_sem] def aJW:=k 0xb476c03d01bb81
def VM:TC:=(.seq (.reg aJS) (.seq (.cond (.t 26) .skip (.exit 0)) (.seq (.block 1 (.seq (.reg aJT) (.seq (.reg aJU) (.reg aJV)))) (.reg aJW))))
@[go_sem] def aJX:=k 0x87036a5f8b2c14b0d1
@[go_sem] def zP:=k 0xb8eed669
@[go_sem] def zQ:=k 0x33e4054b673ad
@[go_sem] def zR:=k 0x31258
@[go_sem] def zS:=k 0x7e05870d010d
@[go_sem] def zT:=k 0xcef4e949
@[go_sem] def zU:=k 0x3ff35e05c28d5da86d5
@[go_sem] def zV:=kd 0x4da8741fe27ea13d0e1bd27e66977a0fcf2b3f90cc82d4aa0010939992fd5d49c4f99027540da09594596e1a0fde
@[go_sem] def zW:=k 0x6d9206a7101216a0462da880b1fde05a27548e
@[go_sem] def zX:=k 0x31318
@[go_sem] def zY:=k 0x64e963a51636e0fb73d18e4ce
@[go_sem] def zZ:=k 0x15d8b6ce735ed502
def QA:TC:=(.seq (.reg zT) (.seq (.cond (.t 48) .skip (.exit 4)) (.seq (.block 5 (.seq (.reg zU) (.seq (.dreg zV) (.seq (.reg zW) (.cond (.t 70) (.reg zX) (.reg zY)))))) (.reg zZ))))
@[go_sem] def aAa:=k 0x22209bd59021e324d511faf2e8ee549f53ce7df21fa4e
@[go_sem] def aAb:=kd 0x20e94bedfa773ad81754a7bace2ab46c4a6523cd537d0f7e0828b7392ef1acf1ecef7dc8b5fd6a8e6
@[go_sem] def aAc:=k 0x1b1f66ea7cabb5c2
def QB:TC:=(.seq (.reg zP) (.seq (.cond (.t 43) .skip (.exit 2)) (.seq (.block 3 (.seq (.reg zQ) (.seq (.reg zR) (.seq (.seq (.reg zS) (.block 4 (.loop QA))) (.seq (.reg aAa) (.cond (.t 81) (.dreg aAb) .skip)))))) (.reg aAc))))
@[go_sem] def aAd:=k 0x47ed9133a36bdbd840a24b4d7ebb0e
@[go_sem] def aAe:=k 0x446e7daa03b202c4ccba482608e
@[go_sem] def aAf:=k 0x3ac176ce1630ae
@[go_sem] def aAg:=k 0x925a0e9a090ee674e7a2c962e
@[go_sem] def aAh:=k 0x980a3513909852015ba2dabae
@[go_sem] def aAi:=k 0x106b55c0d7974da0ebb6e
def QC:TC:=(.seq (.seq (.reg aAf) (.cond (.t 101) .skip (.exit 6))) (.seq (.block 7 (.seq (.reg aAg) (.cond (.t 107) (.seq (.reg aAh) (.exit 6)) .skip))) (.reg aAi)))
@[go_sem] def aAj:=k 0x118373ec47d23c863bd2
@[go_sem] def aAk:=k 0x7c89ef16a
@[go_sem] def aAl:=k 0x443b18ba99e6ae
@[go_sem] def aAm:=k 0x4fbb8
@[go_sem] def aAn:=k 0x40fe57d753c0e
@[go_sem] def aAo:=k 0x82005bc4a
@[go_sem] def aAp:=k 0x1373058ec08217978b1d6
@[go_sem] def aAq:=k 0x1c2524835e5e46dcd8f92f8d3937cc8d64b20361d1a62ec4f
@[go_sem] def aAr:=k 0x25f6829b91ff2dcca3
def QD:TC:=(.seq (.reg aAo) (.seq (.cond (.t 120) .skip (.exit 10)) (.seq (.block 11 (.seq (.reg aAp) (.reg aAq))) (.reg aAr))))
@[go_sem] def aAs:=k 0x3a26208e8c5857ef206813d0b87602703f27b4f47a7e2e4d1ef
@[go_sem] def aAt:=kd 0x3afb499d18772ae1b8eb8eeaca708bdcc57a2d6da5820c4d1fc23ae65423f3cc18593fda47825f17c425d228761fec9bbdf7f091a005b247890f4d9a7305a0fc649e36cfaa7ddfa952ccd88f66ce27
@[go_sem] def aAu:=k 0x2d029c1aa493b44da3
def QE:TC:=(.seq (.reg aAk) (.seq (.cond (.t 115) .skip (.exit 8)) (.seq (.block 9 (.seq (.reg aAl) (.seq (.reg aAm) (.seq (.seq (.reg aAn) (.block 10 (.loop QD))) (.seq (.reg aAs) (.cond (.t 136) (.dreg aAt) .skip)))))) (.reg aAu))))
@[go_sem] def aAv:=k 0x315b293fb09aa284a1327
@[go_sem] def aAw:=k 0x404848f8d54a7f01cae313
@[go_sem] def aAx:=k 0xadc658f8ab
@[go_sem] def aAy:=k 0x17cce1a69763fdef
@[go_sem] def aAz:=kd 0x85d4d9b0cb812702ebd179922ec18adab3baa92e8bd4fd919265f783941e978ddb0de476060fe6e3f23b86abbdf09995c9a7
@[go_sem] def aAA:=k 0x32e964fcc670b9b923
def QF:TC:=(.seq (.reg aAx) (.seq (.cond (.t 161) .skip (.exit 12)) (.seq (.block 13 (.seq (.reg aAy) (.dreg aAz))) (.reg aAA))))
@[go_sem] def aAB:=k 0xa33b07c0cf7ea7
def OW:TF:=⟨175,[.cell 4 3 true],(.seq (.reg aJP) (.seq (.reg aJQ) (.seq (.seq (.reg aJR) (.block 0 (.loop VM))) (.seq (.seq (.reg aJX) (.block 2 (.loop QB))) (.seq (.reg aAd) (.seq (.seq (.reg aAe) (.block 6 (.loop QC))) (.seq (.seq (.reg aAj) (.block 8 (.loop QE))) (.seq (.seq (.reg aAv) (.cond (.t 156) (.seq (.reg aAw) (.block 12 (.loop QF))) .skip)) (.seq (.reg aAB) .ret)))))))))⟩
/-! horarium/runs.Of -/
@[go_sem] def aJY:=k 0x34aa20
@[go_sem] def aJZ:=k 0x33a3656fa7b6078c
@[go_sem] def aJ0:=k 0x19d9e1c1424c
@[go_sem] def aJ1:=k 0x211e3c6a1124d0c
@[go_sem] def aJ2:=k 0x17240
@[go_sem] def aJ3:=k 0x4d6e49a221ba626c
@[go_sem] def aJ4:=k 0x4c40e7ed74fe8a4f372b002141693e2e01b0ba8c
@[go_sem] def aJ5:=k 0x18ae7eda80c
@[go_sem] def aJ6:=k 0x4e52e6df52895cdc03ee1daecc
def rU:TC:=(.block 1 (.seq (.reg aJ4) (.seq (.seq (.reg aJ5) (.cond (.t 22) (.exit 0) .skip)) (.reg aJ6))))
@[go_sem] def aAC:=k 0x8f811a1fbfa8444c
@[go_sem] def aAD:=k 0x4c811baf49dcf0c
@[go_sem] def aAE:=k 0x1c36a0a20
@[go_sem] def aAF:=k 0x1e8da205b17b2d
def OX:TF:=⟨33,[.t 2,.t 3],(.seq (.reg aJY) (.seq (.seq (.reg aJZ) (.seq (.reg aJ0) (.cond (.t 12) (.seq (.reg aJ1) .ret) .skip))) (.seq (.reg aJ2) (.seq (.reg aJ3) (.seq (.block 0 (.loop rU)) (.seq (.seq (.reg aAC) (.seq (.reg aAD) (.cond (.t 31) (.seq (.reg aAE) .ret) .skip))) (.seq (.reg aAF) .ret)))))))⟩
/-! horarium/bound.Holds -/
@[go_sem] def aJ7:=k 0x517e5da230
@[go_sem] def aJ8:=k 0x40a41e2323b99a4f0
@[go_sem] def aJ9:=k 0xe837288
@[go_sem] def aKa:=k 0x900f47503f17680d16460
@[go_sem] def aKb:=k 0x9c5decee2364ec4f7a717086f6b15da1bb5e8c
@[go_sem] def aKc:=k 0x12ec6027c9dc044597670348e82917fb385aa401903a77a22e8460cb9f12fc52753fd9c62d1
@[go_sem] def aKd:=k 0xa5f0b8
@[go_sem] def aKe:=k 0xaa2eb358f930c1
def rV:TC:=(.seq (.reg aJ9) (.seq (.cond (.t 14) .skip (.exit 0)) (.seq (.block 1 (.seq (.reg aKa) (.seq (.reg aKb) (.seq (.reg aKc) (.cond (.t 35) (.seq (.reg aKd) .ret) .skip))))) (.reg aKe))))
@[go_sem] def aKf:=k 0x86606170c15facce11
@[go_sem] def aAG:=k 0xb01f9ba9
@[go_sem] def aAH:=k 0xfbbc76c363de831093ee2197e9f5d38ed
@[go_sem] def aAI:=kd 0x32622cb982abfa343f2fd83619c7b66ca267486387037d194da5806b514ee291cea2d7ea84925
@[go_sem] def aAJ:=k 0xae9cb8
@[go_sem] def aAK:=k 0x1139135da112701
def VN:TC:=(.seq (.reg aAG) (.seq (.cond (.t 41) .skip (.exit 2)) (.seq (.block 3 (.seq (.reg aAH) (.seq (.dreg aAI) (.cond (.t 57) (.seq (.reg aAJ) .ret) .skip)))) (.reg aAK))))
@[go_sem] def aAL:=k 0x12cb8
def OY:TF:=⟨59,[.t 4],(.seq (.reg aJ7) (.seq (.seq (.reg aJ8) (.block 0 (.loop rV))) (.seq (.seq (.reg aKf) (.block 2 (.loop VN))) (.seq (.reg aAL) .ret))))⟩
/-! horarium/node.Right -/
@[go_sem] def aKg:=k 0xa1f8
@[go_sem] def aKh:=k 0xfd416ceb97ded7d3e544b05628d7519376c
@[go_sem] def aKi:=k 0x93284c99a4697c65924c
@[go_sem] def aKj:=k 0x1aa5f8
@[go_sem] def aKk:=k 0xc0b842ccfd4cddcb27cc
@[go_sem] def aKl:=k 0x68b1f8
@[go_sem] def aKm:=k 0x1dc90722b7d80c7b463d4c
@[go_sem] def aKn:=k 0x7a09f8
@[go_sem] def aKo:=k 0x7dd4e604a31382cc
@[go_sem] def aKp:=k 0x9cb9f8
@[go_sem] def aAM:=k 0xa1f8
def OZ:TF:=⟨25,[.t 2],(.seq (.reg aKg) (.seq (.reg aKh) (.seq (.block 0 (.seq (.reg aKi) (.cond (.t 10) (.seq (.reg aKj) .ret) (.seq (.reg aKk) (.cond (.t 14) (.seq (.reg aKl) .ret) (.seq (.reg aKm) (.cond (.t 18) (.seq (.reg aKn) .ret) (.seq (.reg aKo) (.cond (.t 22) (.seq (.reg aKp) .ret) .skip))))))))) (.seq (.reg aAM) .ret))))⟩
/-! slices.Clone[[]horarium/api.Node,horarium/api.Node] -/
@[go_sem] def aKq:=k 0xa220
@[go_sem] def aKr:=k 0x391307674c
@[go_sem] def aKs:=k 0xa220
@[go_sem] def aKt:=k 0x4e1fa12221dd0aef76dc
def O0:TF:=⟨8,[.t 2],(.seq (.reg aKq) (.seq (.seq (.reg aKr) (.cond (.t 4) (.seq (.reg aKs) .ret) .skip)) (.seq (.reg aKt) .ret)))⟩
/-! horarium/horariumref3.Right -/
@[go_sem] def aKu:=k 0xa1f8
@[go_sem] def aKv:=k 0xf600da670bf20c
@[go_sem] def aKw:=k 0x1aa5f8
@[go_sem] def aKx:=k 0x2dda8e52f5a2c22c
@[go_sem] def aKy:=k 0x68b1f8
@[go_sem] def aKz:=k 0x3fafa3198ecf924c
@[go_sem] def aKA:=k 0x7a09f8
@[go_sem] def aKB:=k 0x1fa7e078545f1e62cd9fc46e5c10d74aa7cc
@[go_sem] def aKC:=k 0x1654e026d4c
@[go_sem] def aKD:=k 0x9cb9f8
@[go_sem] def aAN:=k 0xa1f8
def O1:TF:=⟨21,[.t 2],(.seq (.reg aKu) (.seq (.seq (.reg aKv) (.cond (.t 7) (.seq (.reg aKw) .ret) .skip)) (.seq (.seq (.reg aKx) (.cond (.t 10) (.seq (.reg aKy) .ret) .skip)) (.seq (.seq (.reg aKz) (.cond (.t 13) (.seq (.reg aKA) .ret) .skip)) (.seq (.seq (.reg aKB) (.seq (.reg aKC) (.cond (.t 20) (.seq (.reg aKD) .ret) .skip))) (.seq (.reg aAN) .ret))))))⟩
/-! horarium/horariumref3.Tidy -/
@[go_sem] def aKE:=k 0xa220
@[go_sem] def aKF:=k 0xe780
@[go_sem] def aKG:=k 0xe9d4cd47ccc
@[go_sem] def aKH:=k 0xa09ad08
@[go_sem] def aKI:=k 0x773433c68979d77679eb0
@[go_sem] def aKJ:=k 0x48560344d0c8210c
@[go_sem] def aKK:=k 0xa35aa462a7a3503d0
@[go_sem] def aKL:=kd 0x2b1a6a51537e8c5cecb6b87caf00dfe637f32abc71dd1f434cf38358e1f6419c03e31c
@[go_sem] def aKM:=kd 0x4e328f1a9480c273fda4aa1aaae88a1b24c2da79ca52b2d8e6f2d0ccf4c9805630144a3ebc92d242211d60dd
@[go_sem] def aKN:=k 0x47ea93e29c87d8084fd254d0510d
@[go_sem] def aAO:=k 0xe6fd64b7a4b6a1
def VO:TC:=(.seq (.reg aKH) (.seq (.cond (.t 10) .skip (.exit 0)) (.seq (.block 1 (.seq (.reg aKI) (.seq (.reg aKJ) (.seq (.seq (.reg aKK) (.cond (.t 17) (.exit 1) .skip)) (.seq (.dreg aKL) (.cond (.t 30) (.dreg aKM) (.reg aKN))))))) (.reg aAO))))
@[go_sem] def aAP:=k 0x3acb40d93abed
def O2:TF:=⟨51,[.t 2],(.seq (.reg aKE) (.seq (.reg aKF) (.seq (.seq (.reg aKG) (.block 0 (.loop VO))) (.seq (.reg aAP) .ret))))⟩
/-! horarium/horariumref3.Leaves -/
@[go_sem] def aKO:=k 0xa220
@[go_sem] def aKP:=k 0x298075c141b00e74c
def O3:TF:=⟨5,[.t 2],(.seq (.reg aKO) (.seq (.reg aKP) .ret))⟩
/-! horarium/horariumref3.Sum -/
@[go_sem] def aKQ:=k 0x12cb8
@[go_sem] def aKR:=k 0x67d6933090a32af346a04d4ca56f20c
@[go_sem] def aKS:=k 0x6735ef5079a11827078c
@[go_sem] def aKT:=k 0x12f24
@[go_sem] def aKU:=k 0x14e5abf0673b11f9a81d0c
def O4:TF:=⟨16,[.t 4],(.seq (.reg aKQ) (.seq (.reg aKR) (.seq (.seq (.reg aKS) (.cond (.t 12) (.seq (.reg aKT) .ret) .skip)) (.seq (.reg aKU) .ret))))⟩
/-! horarium/horariumref7.Late -/
@[go_sem] def aKV:=k 0x1b778
@[go_sem] def aKW:=k 0x57c7988cab5f6d2c
@[go_sem] def aKX:=k 0x11a11a0c238
@[go_sem] def aKY:=k 0xf6c1ae02bec
@[go_sem] def aKZ:=k 0x16588c28
@[go_sem] def aK0:=k 0xee4a1362964a67db4
@[go_sem] def aK1:=k 0x6c3e385cc1a0a092c3e349cd62ce889033183ad66a88dfdc081950558cbbffe4e1efbf24b02d
@[go_sem] def aK2:=k 0xaab24db35330c1
def rX:TC:=(.seq (.reg aKZ) (.seq (.cond (.t 21) .skip (.exit 0)) (.seq (.block 1 (.seq (.reg aK0) (.reg aK1))) (.reg aK2))))
@[go_sem] def aK3:=k 0xaded8418e0d
@[go_sem] def aAQ:=k 0x1b778
@[go_sem] def aAR:=k 0xb753f50c0cd
@[go_sem] def aAS:=k 0x1b838
@[go_sem] def aAT:=k 0x7cd8b8ee9b8d
@[go_sem] def aAU:=k 0xbd5673c9
@[go_sem] def aAV:=k 0x4657ccae74bd603794df8b34110d
@[go_sem] def aAW:=k 0xf873ede9fb191e92d
@[go_sem] def aAX:=k 0xcd3d8
@[go_sem] def aAY:=k 0x9187b3bc61c3234320ba98c289c8cf1eaf8a271c400ad0c913f7d9514d
@[go_sem] def aAZ:=k 0x508c73108058f550c6d
def VP:TC:=(.seq (.seq (.reg aAY) (.cond (.t 61) .skip (.exit 4))) (.block 5 (.reg aAZ)))
@[go_sem] def aA0:=k 0x5b36ee9560b08365f0aeeef2e
@[go_sem] def aA1:=k 0x13c7f441adfcef62
def VQ:TC:=(.seq (.reg aAU) (.seq (.cond (.t 44) .skip (.exit 2)) (.seq (.block 3 (.seq (.reg aAV) (.seq (.seq (.reg aAW) (.cond (.t 50) (.exit 3) .skip)) (.seq (.reg aAX) (.seq (.block 4 (.loop VP)) (.reg aA0)))))) (.reg aA1))))
@[go_sem] def aA2:=k 0x27fad5cf7004ae
def O5:TF:=⟨69,[.t 6],(.seq (.reg aKV) (.seq (.reg aKW) (.seq (.reg aKX) (.seq (.seq (.reg aKY) (.block 0 (.loop rX))) (.seq (.seq (.reg aK3) (.cond (.t 38) (.seq (.reg aAQ) .ret) .skip)) (.seq (.seq (.reg aAR) (.cond (.t 40) (.seq (.reg aAS) .ret) .skip)) (.seq (.seq (.reg aAT) (.block 2 (.loop VQ))) (.seq (.reg aA2) .ret))))))))⟩
/-! horarium/horariumref7.Budget -/
@[go_sem] def aK4:=k 0x1b778
@[go_sem] def aK5:=k 0x487ec577c4b29d0c
@[go_sem] def aK6:=k 0x46a589423ce9778272c25f3574eb54fec4e829f93158c4ef3b3f852745a9b955bbfc7fcc
@[go_sem] def aK7:=k 0x1b838
@[go_sem] def aK8:=k 0x13457dadd8c0294b0c
@[go_sem] def aK9:=k 0x28798
@[go_sem] def aLa:=k 0x2b8350a76bca24b29695cd
@[go_sem] def aLb:=k 0x2ccf8
@[go_sem] def aLc:=k 0xbbba8f22a36f146de921d452d698f78e995cb6d
@[go_sem] def aLd:=k 0xc625ae89
@[go_sem] def aA3:=k 0x3d6222985f7050b4c15
@[go_sem] def aA4:=k 0xfda0a10caf96f7e8d
@[go_sem] def aA5:=k 0x43b649ed90ca6fb9ead
@[go_sem] def aA6:=k 0x101225263be1181
def VS:TC:=(.seq (.reg aLd) (.seq (.cond (.t 46) .skip (.exit 2)) (.seq (.block 3 (.seq (.reg aA3) (.seq (.reg aA4) (.cond (.t 51) (.reg aA5) .skip)))) (.reg aA6))))
@[go_sem] def aA7:=k 0x13b8376e0e777d3e8d3bbecd
@[go_sem] def aA8:=k 0xcd2549ecb7ce79000c7ab4d
def VT:TC:=(.seq (.seq (.reg aLa) (.cond (.t 34) .skip (.exit 0))) (.seq (.block 1 (.seq (.reg aLb) (.seq (.seq (.reg aLc) (.block 2 (.loop VS))) (.reg aA7)))) (.reg aA8)))
@[go_sem] def aA9:=k 0x44447fc2c8eed
def O6:TF:=⟨59,[.t 6],(.seq (.reg aK4) (.seq (.reg aK5) (.seq (.seq (.reg aK6) (.cond (.t 28) (.seq (.reg aK7) .ret) .skip)) (.seq (.reg aK8) (.seq (.seq (.reg aK9) (.block 0 (.loop VT))) (.seq (.reg aA9) .ret))))))⟩
/-! horarium/horariumref12.Right -/
@[go_sem] def aLe:=k 0x6815cd0
@[go_sem] def aLf:=k 0xfd416ceb97ded7d3e544b05628d7977e3a4
@[go_sem] def aLg:=k 0x17abfe7150ec
def O7:TF:=⟨11,[.t 2],(.seq (.reg aLe) (.seq (.reg aLf) (.seq (.reg aLg) .ret)))⟩
/-! horarium/horariumref1.Put -/
@[go_sem] def aLh:=k 0x12ce0
@[go_sem] def aLi:=k 0xa47d8ea3a55d246e2c
@[go_sem] def aLj:=k 0x1780308e78ec
@[go_sem] def aLk:=k 0xa534f88646a68633ac
@[go_sem] def aLl:=k 0x1fd00
@[go_sem] def aLm:=k 0x107e557be6c
@[go_sem] def aLn:=k 0x9040824bbe274bb54d46c8039653ec
@[go_sem] def aLo:=k 0x57761427d7ec492c
def VU:TC:=(.seq (.seq (.reg aLm) (.cond (.t 15) .skip (.exit 0))) (.seq (.block 1 (.reg aLn)) (.reg aLo)))
@[go_sem] def aLp:=k 0x6131d4a9ce52b327933e54853fd42f38811c4556d35802527347aa6cad58f1a5b9d
def O8:TF:=⟨35,[.t 4],(.seq (.reg aLh) (.seq (.reg aLi) (.seq (.seq (.reg aLj) (.cond (.t 11) (.reg aLk) .skip)) (.seq (.reg aLl) (.seq (.block 0 (.loop VU)) (.seq (.reg aLp) .ret))))))⟩
/-! horarium/horariumref1.Text -/
@[go_sem] def aLq:=k 0x12ce0
@[go_sem] def aLr:=k 0x11d2edd26ce48c63fa979c90f9707fa5f20c
def O9:TF:=⟨11,[.t 4],(.seq (.reg aLq) (.seq (.reg aLr) .ret))⟩
/-! horarium/horariumref1.Flag -/
@[go_sem] def aLs:=k 0x12ce0
@[go_sem] def aLt:=k 0xa1e0c
@[go_sem] def aLu:=k 0x48b524b5659abb76c
@[go_sem] def aLv:=k 0x5d163e256c5c8422c
def Pa:TF:=⟨10,[.t 4],(.seq (.reg aLs) (.seq (.seq (.reg aLt) (.cond (.t 5) (.seq (.reg aLu) .ret) .skip)) (.seq (.reg aLv) .ret)))⟩
/-! horarium/horariumref12.Read -/
@[go_sem] def aLw:=k 0x34aa68
@[go_sem] def aLx:=k 0x1fa7e07ed1a22667df66546e5c10dcb627cc
@[go_sem] def aLy:=k 0x1654e0b194c
@[go_sem] def aLz:=k 0x42c37caf2869a118
@[go_sem] def aLA:=k 0x1ac417c7450b34e399213584b31a9c09a81cde54573d6c
@[go_sem] def aLB:=k 0x3dab366b887396d8
@[go_sem] def aLC:=k 0x1b7e8
@[go_sem] def aLD:=k 0x348dbb35a4c2a1d5ee20eea0232d
@[go_sem] def aLE:=k 0xbd2c00a0b288060340ad
@[go_sem] def aLF:=k 0x2ca6a37f9236d
@[go_sem] def aBa:=kd 0xe5889e1eafba8cbdb6280b3dbe8de2c9eb959550a2abb0d08f0dd3b99fbeae5
@[go_sem] def aBb:=k 0x346346766422687ae2d
def QG:TC:=(.seq (.seq (.reg aLF) (.cond (.t 39) .skip (.exit 0))) (.seq (.block 1 (.dreg aBa)) (.reg aBb)))
@[go_sem] def aBc:=k 0xff7bf3b273036d26c68d
@[go_sem] def aBd:=k 0x3bed1cc0e014d
@[go_sem] def aBe:=kd 0x123b4a3186b3fd42daff5523e4a0c5d071710b80ce201c72f6d272f5cb5f68a5
@[go_sem] def aBf:=k 0x44f7433ad41ba9c8c0d
def QH:TC:=(.seq (.seq (.reg aBd) (.cond (.t 52) .skip (.exit 2))) (.seq (.block 3 (.dreg aBe)) (.reg aBf)))
@[go_sem] def aBg:=k 0x141cbe6c431706b5a4c6d
@[go_sem] def aBh:=k 0x2599c97efc4f2e
@[go_sem] def aBi:=k 0x31280
@[go_sem] def aBj:=k 0xb0044ffed8a6751d54ae
@[go_sem] def aBk:=k 0x2920343f434f6e
@[go_sem] def aBl:=k 0x51692c84b31604a470afc567a86f4ee
@[go_sem] def aBm:=k 0x1b7b02f414059784369601707c50e
@[go_sem] def aBn:=k 0x7218b0ad6bcd22e1a0df8952e
@[go_sem] def aBo:=k 0x406be42c8cdf038993526821ac254e
@[go_sem] def aBp:=k 0xba34dc94335f197bda2e
def QI:TC:=(.seq (.seq (.reg aBk) (.cond (.t 71) .skip (.exit 6))) (.seq (.block 7 (.seq (.reg aBl) (.seq (.reg aBm) (.seq (.reg aBn) (.reg aBo))))) (.reg aBp)))
@[go_sem] def aBq:=k 0x518633169a6babb3b1d10c8c41914a7e0675f97cad2
@[go_sem] def aBr:=k 0xaae1d92799f45934d9ee
def Mo:TC:=(.seq (.seq (.reg aBh) (.cond (.t 65) .skip (.exit 4))) (.seq (.block 5 (.seq (.reg aBi) (.seq (.seq (.reg aBj) (.block 6 (.loop QI))) (.reg aBq)))) (.reg aBr)))
@[go_sem] def aBs:=kd 0x216d95f161e1821a54688fbedbd56c4140d9b34cd23843d257d3eb6738ecc13c06774d25127564e27f17170f175e
@[go_sem] def aBt:=k 0x3d454625b018d9021a
@[go_sem] def aBu:=k 0x10fd59d9392cde06a6
def Pb:TF:=⟨111,[.cell 2 3 true,.t 3],(.seq (.reg aLw) (.seq (.reg aLx) (.seq (.seq (.reg aLy) (.cond (.t 20) (.seq (.reg aLz) .ret) .skip)) (.seq (.seq (.reg aLA) (.cond (.t 30) (.seq (.reg aLB) .ret) .skip)) (.seq (.reg aLC) (.seq (.reg aLD) (.seq (.seq (.reg aLE) (.block 0 (.loop QG))) (.seq (.seq (.reg aBc) (.block 2 (.loop QH))) (.seq (.seq (.reg aBg) (.block 4 (.loop Mo))) (.seq (.seq (.dreg aBs) (.cond (.t 108) (.seq (.reg aBt) .ret) .skip)) (.seq (.reg aBu) .ret)))))))))))⟩
/-! horarium/horariumref1.Sum -/
@[go_sem] def aLG:=k 0xa39c
@[go_sem] def aLH:=k 0xe9d8
@[go_sem] def aLI:=k 0x12cb8
@[go_sem] def aLJ:=k 0x39a4e0e3625c12e4a20c
@[go_sem] def aLK:=k 0x1c52089496cefc75daf6be0cd5d188dd964c
@[go_sem] def aLL:=k 0x6746cadf28635378c
def rY:TC:=(.seq (.seq (.reg aLJ) (.cond (.t 8) .skip (.exit 0))) (.seq (.block 1 (.reg aLK)) (.reg aLL)))
@[go_sem] def aLM:=k 0x5c1413ed81c9368c
def Pc:TF:=⟨19,[.t 2],(.seq (.reg aLG) (.seq (.reg aLH) (.seq (.seq (.reg aLI) (.block 0 (.loop rY))) (.seq (.reg aLM) .ret))))⟩
/-! horarium/config.Right -/
@[go_sem] def aLN:=k 0x6815cd0
@[go_sem] def aLO:=k 0xfd416ceb97ded7d3e544b05628d8679e3a4
@[go_sem] def aLP:=k 0x17abfe7150ec
def Pd:TF:=⟨11,[.t 2],(.seq (.reg aLN) (.seq (.reg aLO) (.seq (.reg aLP) .ret)))⟩
/-! horarium/sum.Seal -/
@[go_sem] def aLQ:=k 0xa220
@[go_sem] def aLR:=k 0x719334a8f162830aec8a678ef16741674c
def Pe:TF:=⟨9,[.t 2],(.seq (.reg aLQ) (.seq (.reg aLR) .ret))⟩
/-! horarium/image.body -/
@[go_sem] def aLT:=k 0x11585cd0
@[go_sem] def aLU:=k 0x2a22f3ed8feb347997698a3c26a571dafb846a4
@[go_sem] def aLV:=k 0x44c7d927aacfefed0
@[go_sem] def aLW:=k 0x1d0f3468
@[go_sem] def aLX:=k 0x82f16e5a633d2af2d2648
@[go_sem] def aLY:=kd 0x2242cd635c001a41ae36f293a39e62b3b9bc18819f99a20ebae022fc606e51c1d
@[go_sem] def aLZ:=kd 0x34a0b2e6e5c67472af08ad3bb7d122514e49346d4fb4f9e4383e9bd7aac715a10aa2cfcb9d
@[go_sem] def aL0:=k 0x8b27246faad192e6b1
@[go_sem] def aL1:=k 0xf231d449
@[go_sem] def aL2:=k 0x2bb8dce5cd6dde85d9771f1
@[go_sem] def aBv:=k 0xf7ea0dd26c273c11ab81dd2d05b5c959215324409e998244e
@[go_sem] def aBw:=k 0x1383cd87fe1caa02
def QJ:TC:=(.seq (.reg aL1) (.seq (.cond (.t 56) .skip (.exit 2)) (.seq (.block 3 (.seq (.reg aL2) (.reg aBv))) (.reg aBw))))
@[go_sem] def aBx:=k 0x1ea951c34cfaf52
@[go_sem] def aBy:=k 0x4ad787faa
@[go_sem] def aBz:=k 0x14e0c8d128ccc666
@[go_sem] def aBA:=k 0x3824a8f2bdd18ef86e98ff74c3aa2e
@[go_sem] def aBB:=k 0x167c0accb0ef5fc2
def Gn:TC:=(.seq (.reg aBy) (.seq (.cond (.t 70) .skip (.exit 4)) (.seq (.block 5 (.seq (.reg aBz) (.reg aBA))) (.reg aBB))))
@[go_sem] def aBC:=k 0x16adfb076727a522
def QK:TC:=(.seq (.reg aLW) (.seq (.cond (.t 27) .skip (.exit 0)) (.seq (.block 1 (.seq (.reg aLX) (.seq (.dreg aLY) (.seq (.dreg aLZ) (.seq (.seq (.reg aL0) (.block 2 (.loop QJ))) (.seq (.reg aBx) (.block 4 (.loop Gn)))))))) (.reg aBC))))
@[go_sem] def aBD:=k 0x9201f3600079f384d0aab042043ca87e4341d4a6e
@[go_sem] def aBE:=k 0x10f9e472aa71ed918ab2
@[go_sem] def aBF:=k 0x5f0a7104a
@[go_sem] def aBG:=k 0x102a62a36a05d8b162a1a0622
@[go_sem] def aBH:=kd 0x15f045831439d84f3fbe2fe8d2922d8cba8f13e275e92db27618907404815c0c6d0dde
@[go_sem] def aBI:=k 0x10b25639ab1d5d41fc2e2bf498c4cac2614e77e8d5f6f805216e39441af282a3860e
@[go_sem] def aBJ:=k 0x20ceaabe2928dbe2
def QL:TC:=(.seq (.reg aBF) (.seq (.cond (.t 88) .skip (.exit 6)) (.seq (.block 7 (.seq (.reg aBG) (.seq (.dreg aBH) (.reg aBI)))) (.reg aBJ))))
@[go_sem] def aBK:=k 0xcdcc98cc0af24ce72359d8757e424e14b5426812e
@[go_sem] def aBL:=k 0x11a71ddc67243ef2c172
@[go_sem] def aBM:=k 0x842fba70a
@[go_sem] def aBN:=k 0x13c24f54ab26fdc6e9c96
@[go_sem] def aBO:=k 0x34529986affcf7bfd5ce6987e3c3f62d642370f
@[go_sem] def aBP:=k 0xeb26c365af11ef
@[go_sem] def aBQ:=k 0x8f5d24622b
@[go_sem] def aBR:=k 0x151375aa51336d6f441832af67d7
@[go_sem] def aBS:=k 0xa147dae8f7702e78ebcb7dd0d361761a62fe50462029ff25d55a28459586a05b3c5322f
@[go_sem] def aBT:=k 0x2aaba46ac816b222a3
def QM:TC:=(.seq (.reg aBQ) (.seq (.cond (.t 133) .skip (.exit 10)) (.seq (.block 11 (.seq (.reg aBR) (.reg aBS))) (.reg aBT))))
@[go_sem] def aBU:=k 0x2af53a5f242a326803
def QN:TC:=(.seq (.reg aBM) (.seq (.cond (.t 122) .skip (.exit 8)) (.seq (.block 9 (.seq (.reg aBN) (.seq (.reg aBO) (.seq (.reg aBP) (.block 10 (.loop QM)))))) (.reg aBU))))
@[go_sem] def aBV:=k 0x159779b956482d4f
def Pg:TF:=⟨148,[.t 2],(.seq (.reg aLT) (.seq (.reg aLU) (.seq (.seq (.reg aLV) (.block 0 (.loop QK))) (.seq (.reg aBD) (.seq (.seq (.reg aBE) (.block 6 (.loop QL))) (.seq (.reg aBK) (.seq (.seq (.reg aBL) (.block 8 (.loop QN))) (.seq (.reg aBV) .ret))))))))⟩
/-! horarium/sum.Open -/
@[go_sem] def aL3:=k 0x82b620
@[go_sem] def aL4:=k 0x9da0b69cd2696d58bf20c
@[go_sem] def aL5:=kd 0xbdf76129c6b872fee134927ba771e2f01c6838e01d638eceac5cc84812e8b8350bc039c
@[go_sem] def aL6:=k 0x82b620
@[go_sem] def aL7:=k 0x165e555ebbf36f96d02e8e568d6c
def Ph:TF:=⟨26,[.t 2,.t 3],(.seq (.reg aL3) (.seq (.reg aL4) (.seq (.seq (.dreg aL5) (.cond (.t 21) (.seq (.reg aL6) .ret) .skip)) (.seq (.reg aL7) .ret))))⟩
/-! horarium/image.read -/
@[go_sem] def aL8:=k 0xa268
@[go_sem] def aL9:=k 0xe7c8
@[go_sem] def aMa:=k 0x1d1c01b8eb76c
@[go_sem] def aMb:=k 0x8eb3ba8
@[go_sem] def aMc:=kd 0x136977996dc92ca426ef9157806d2b87f0fc1eac20bb2bb66dd50805fae4
@[go_sem] def aMd:=k 0x512026e495ea0
def VV:TC:=(.seq (.reg aMb) (.seq (.cond (.t 9) .skip (.exit 0)) (.seq (.block 1 (.dreg aMc)) (.reg aMd))))
@[go_sem] def aMe:=k 0x1ee190b59f7ec
@[go_sem] def aMf:=k 0x16588c28
@[go_sem] def aMg:=k 0xc0a3a609056170479e35d6f5b127b1c6011c2bc335699625f33930d6c
@[go_sem] def aBW:=k 0x4d9b714493071a236ef25ae87082391326fbc75a48ada7dcd
@[go_sem] def aBX:=k 0x4cca8e5e803e02bf403c762c0e01a5d448146b71
@[go_sem] def aBY:=k 0xd04c15b3555bc1
def QO:TC:=(.seq (.reg aMf) (.seq (.cond (.t 21) .skip (.exit 2)) (.seq (.block 3 (.seq (.reg aMg) (.seq (.reg aBW) (.reg aBX)))) (.reg aBY))))
@[go_sem] def aBZ:=k 0x1f823cbb90490d
@[go_sem] def aB0:=k 0xcef4e949
@[go_sem] def aB1:=k 0x17240
@[go_sem] def aB2:=k 0x7f36e3555e8d
@[go_sem] def aB3:=k 0xe0935ec9
@[go_sem] def aB4:=k 0x96bd6d5191881d8411c10507300ac097dae1357796c04820d7df8c5672c0d
@[go_sem] def aB5:=k 0x12be020d5c481e1
def QP:TC:=(.seq (.reg aB3) (.seq (.cond (.t 52) .skip (.exit 6)) (.seq (.block 7 (.reg aB4)) (.reg aB5))))
@[go_sem] def aB6:=k 0x3d2481213e0b1f81c472b0bb7851f26a4237f297f32
@[go_sem] def aB7:=k 0x14abe88e735dbf82
def Mq:TC:=(.seq (.reg aB0) (.seq (.cond (.t 48) .skip (.exit 4)) (.seq (.block 5 (.seq (.reg aB1) (.seq (.seq (.reg aB2) (.block 6 (.loop QP))) (.reg aB6)))) (.reg aB7))))
@[go_sem] def aB8:=k 0x18105c0ab6506
def Pi:TF:=⟨72,[.cell 2 3 true],(.seq (.reg aL8) (.seq (.reg aL9) (.seq (.seq (.reg aMa) (.block 0 (.loop VV))) (.seq (.seq (.reg aMe) (.block 2 (.loop QO))) (.seq (.seq (.reg aBZ) (.block 4 (.loop Mq))) (.seq (.reg aB8) .ret))))))⟩
/-! horarium/code.Read -/
@[go_sem] def aMh:=k 0xa3fc
@[go_sem] def aMi:=k 0x3808602f33d30388674c
def Pj:TF:=⟨6,[.t 2],(.seq (.reg aMh) (.seq (.reg aMi) .ret))⟩
/-! slices.Equal[[]byte,byte] -/
@[go_sem] def aMj:=k 0x12cdc
@[go_sem] def aMk:=k 0xae5d201d40b849d27670376c
@[go_sem] def aMl:=k 0x12cdc
@[go_sem] def aMm:=k 0xee88065924c
@[go_sem] def aMn:=k 0xe837288
@[go_sem] def aMo:=k 0x23a473f563cc
@[go_sem] def aMp:=kd 0xeb91177e4fd96edf0c9572463c861f560f5e18be46c99c
@[go_sem] def aMq:=k 0x12cdc
@[go_sem] def aMr:=k 0x7775f023709a0
def rZ:TC:=(.seq (.reg aMn) (.seq (.cond (.t 14) .skip (.exit 0)) (.seq (.block 1 (.seq (.reg aMo) (.seq (.dreg aMp) (.cond (.t 24) (.seq (.reg aMq) .ret) .skip)))) (.reg aMr))))
@[go_sem] def aB9:=k 0x12d8c
def Pk:TF:=⟨26,[.t 4],(.seq (.reg aMj) (.seq (.seq (.reg aMk) (.cond (.t 10) (.seq (.reg aMl) .ret) .skip)) (.seq (.seq (.reg aMm) (.block 0 (.loop rZ))) (.seq (.reg aB9) .ret))))⟩
/-! horarium/horariumref12.But -/
@[go_sem] def aMs:=k 0x23530e12a230
@[go_sem] def aMt:=k 0xd50951eec1b6db0f23096df6475404a19727c59cfc848562269eccdb7719affb2fd57f68e50354d0
@[go_sem] def aMu:=k 0x12cdc
@[go_sem] def aMv:=k 0x44c7d927aad07aad0
@[go_sem] def aMw:=k 0x1d0f3468
@[go_sem] def aMx:=k 0x423166e9a5ac
@[go_sem] def aMy:=kd 0x946014174f9c6fb31b5ab7598116c2d144928864d1ab2420c16ca1ab38049fad25
@[go_sem] def aMz:=k 0x12cdc
@[go_sem] def aMA:=k 0xc2a33825588ba1
def sA:TC:=(.seq (.reg aMw) (.seq (.cond (.t 27) .skip (.exit 0)) (.seq (.block 1 (.seq (.reg aMx) (.seq (.dreg aMy) (.cond (.t 40) (.seq (.reg aMz) .ret) .skip)))) (.reg aMA))))
@[go_sem] def aCa:=k 0x87f7f7c5b9d80428f1
@[go_sem] def aCb:=k 0xc625ae89
@[go_sem] def aCc:=k 0x3757a32ab4bcd
@[go_sem] def aCd:=kd 0x2e670d2aa8e3075965c18f3155a8f9a17205f7294da7ebbe2edd6b685cc765
@[go_sem] def aCe:=k 0x12cdc
@[go_sem] def aCf:=k 0x118a26f63bf6c61
def VW:TC:=(.seq (.reg aCb) (.seq (.cond (.t 46) .skip (.exit 2)) (.seq (.block 3 (.seq (.reg aCc) (.seq (.dreg aCd) (.cond (.t 58) (.seq (.reg aCe) .ret) .skip)))) (.reg aCf))))
@[go_sem] def aCg:=k 0x12d8c
def Pl:TF:=⟨60,[.t 4],(.seq (.reg aMs) (.seq (.seq (.reg aMt) (.cond (.t 22) (.seq (.reg aMu) .ret) .skip)) (.seq (.seq (.reg aMv) (.block 0 (.loop sA))) (.seq (.seq (.reg aCa) (.block 2 (.loop VW))) (.seq (.reg aCg) .ret)))))⟩
/-! horarium/cursor.New -/
@[go_sem] def aMB:=k 0xa3fc
@[go_sem] def aMC:=k 0x1979b6aefc40acac
@[go_sem] def aMD:=k 0xa3fc
@[go_sem] def aME:=k 0xf1f4c364f5e0f695f241fccc
@[go_sem] def aMF:=k 0xcfff98164c
@[go_sem] def aMG:=k 0x1eb8d3f2210c
def Pm:TF:=⟨14,[.t 2],(.seq (.reg aMB) (.seq (.seq (.reg aMC) (.cond (.t 6) (.seq (.reg aMD) .ret) .skip)) (.seq (.reg aME) (.seq (.reg aMF) (.seq (.reg aMG) .ret)))))⟩
/-! (*horarium/cursor.Cursor).Next -/
@[go_sem] def aMH:=k 0x82b678
@[go_sem] def aMI:=kd 0xd9b8ba0d43a877aa70eb606d0c5e3b7af4bddffa7fb98fd55c
@[go_sem] def aMJ:=k 0x880016a2cb4da8
@[go_sem] def aMK:=kd 0x6debff0eab329eda4fd90143d1f2bb51cf98111ca4e8ade7a9c6b4228d3223aba4918cb80a350463f14302cc67b1e63c23b7f4a54a7af33e357e294113a3ddd4f536d14b6c7fc449f0164e37a9c99d
@[go_sem] def aML:=kd 0xf70347fb0d9cd7b9b3d3b2c43231f90e07d37ca80115bf023f9ee214e9d
@[go_sem] def aMM:=k 0xf967c46740d
@[go_sem] def aMN:=k 0x110ced36796665f41
def Lb:TF:=⟨56,[.cell 2 2 true,.t 3],(.seq (.reg aMH) (.seq (.seq (.dreg aMI) (.cond (.t 14) (.seq (.reg aMJ) .ret) .skip)) (.seq (.dreg aMK) (.seq (.dreg aML) (.seq (.reg aMM) (.seq (.reg aMN) .ret))))))⟩
/-! horarium/runs.Tidy -/
@[go_sem] def aMO:=k 0xa220
@[go_sem] def aMP:=k 0xe780
@[go_sem] def aMQ:=k 0xe9d4cd47ccc
@[go_sem] def aMR:=k 0xa09ad08
@[go_sem] def aMS:=k 0x773433c68979d77679eb0
@[go_sem] def aMT:=k 0x48560344d0c8210c
@[go_sem] def aMU:=k 0x3e6b0da3f2391da88b65eb0
@[go_sem] def aMV:=kd 0xa28a7c8aca1fd639a9396051c0a58234744b758a21d49b124be2947a8bca93c3c3e2195053e770f9d
@[go_sem] def aMW:=kd 0x58dda207b472f4bafe79108ff2ebbb4dd48c87640174d41b4c6564baeded4855118ab5c1a4ab28622376fd5d
@[go_sem] def aMX:=k 0x3630cd67c1a9b8b02bf4422bcc
@[go_sem] def aCh:=k 0xf063d6b7a54161
def VX:TC:=(.seq (.reg aMR) (.seq (.cond (.t 10) .skip (.exit 0)) (.seq (.block 1 (.seq (.reg aMS) (.seq (.reg aMT) (.block 2 (.seq (.reg aMU) (.cond (.t 19) .skip (.seq (.dreg aMV) (.cond (.t 23) (.dreg aMW) (.reg aMX))))))))) (.reg aCh))))
@[go_sem] def aCi:=k 0x10e361eed4d94036ad
def Pn:TF:=⟨54,[.t 2],(.seq (.reg aMO) (.seq (.reg aMP) (.seq (.seq (.reg aMQ) (.block 0 (.loop VX))) (.seq (.reg aCi) .ret))))⟩
/-! horarium/bound.Late -/
@[go_sem] def aMY:=k 0x1b778
@[go_sem] def aMZ:=k 0x4c40f8d5cc70322f3054b03889000f0ad0a8a7cc
@[go_sem] def aM0:=k 0x220e863519a2eea3f1416c
@[go_sem] def aM1:=k 0x1b778
@[go_sem] def aM2:=k 0x27c084fbac5e5fd78b02ec
@[go_sem] def aM3:=k 0x1b838
@[go_sem] def aM4:=k 0x9a54afa135cdf30c
@[go_sem] def aM5:=k 0x2ccf8
@[go_sem] def aM6:=k 0x79e8b54be5cd
@[go_sem] def aM7:=k 0x914a4e09
@[go_sem] def aCj:=k 0x456fee61e8bd74464afebb1
@[go_sem] def aCk:=k 0x2ed280a8279c874ca7aac3a9931aee1a6605a3e11
@[go_sem] def aCl:=k 0xc1be1129
@[go_sem] def aCm:=k 0x3c26419165a1ca3aeb5
@[go_sem] def aCn:=k 0x1c7ef632daa7eb46ae9e00a9e33d01ed2964314ccc9963c892d
@[go_sem] def aCo:=k 0x10a75f77b689c41
def Mr:TC:=(.seq (.reg aCl) (.seq (.cond (.t 45) .skip (.exit 3)) (.seq (.block 4 (.seq (.reg aCm) (.reg aCn))) (.reg aCo))))
@[go_sem] def aCp:=k 0x10e5a627fb6e1a1
def VY:TC:=(.seq (.reg aM7) (.seq (.cond (.t 34) .skip (.exit 1)) (.seq (.block 2 (.seq (.reg aCj) (.seq (.reg aCk) (.block 3 (.loop Mr))))) (.reg aCp))))
@[go_sem] def aCq:=k 0x44447fc4f3eed
def Po:TF:=⟨59,[.t 6],(.seq (.reg aMY) (.seq (.reg aMZ) (.seq (.block 0 (.seq (.reg aM0) (.cond (.t 21) (.seq (.reg aM1) .ret) (.seq (.reg aM2) (.cond (.t 25) (.seq (.reg aM3) .ret) .skip))))) (.seq (.reg aM4) (.seq (.reg aM5) (.seq (.seq (.reg aM6) (.block 1 (.loop VY))) (.seq (.reg aCq) .ret)))))))⟩
/-! horarium/bound.Budget -/
@[go_sem] def aNg:=k 0x1b778
@[go_sem] def aNh:=k 0x4d970bd41c6de26c
@[go_sem] def aNi:=k 0xf02a669246bfb0a9496d3b7f7eafc09a1c3f8997a967fc465f11f78d87cc52c
@[go_sem] def aNj:=k 0x1b838
@[go_sem] def aNk:=k 0x29c7a777430ed42cac2dac
@[go_sem] def aNl:=k 0x49896f2a55cc
@[go_sem] def aNm:=k 0x2ccf8
@[go_sem] def aNn:=k 0xa5a9594edbea8332d
@[go_sem] def aNo:=k 0x31258
@[go_sem] def aNp:=k 0x7bf71e4f236d
@[go_sem] def aCr:=k 0xb01f9ba9
@[go_sem] def aCs:=k 0x4b90615d0022f76bf853951
@[go_sem] def aCt:=k 0x2feb4159cf3fd81c1566e258750707ee7861eae89f10cbe3c18a1b03d0766ae54714486357739472cbad
@[go_sem] def aCu:=k 0x1139135da112701
def VZ:TC:=(.seq (.reg aCr) (.seq (.cond (.t 41) .skip (.exit 2)) (.seq (.block 3 (.seq (.reg aCs) (.reg aCt))) (.reg aCu))))
@[go_sem] def aCv:=k 0x151b0cef90dc663340de2c4d
@[go_sem] def aCw:=k 0xcd3b612d7a7f79000d9034d
def V0:TC:=(.seq (.seq (.reg aNn) (.cond (.t 34) .skip (.exit 0))) (.seq (.block 1 (.seq (.reg aNo) (.seq (.seq (.reg aNp) (.block 2 (.loop VZ))) (.reg aCv)))) (.reg aCw)))
@[go_sem] def aCx:=k 0x48f7b8c3efc6d
def Pp:TF:=⟨63,[.t 6],(.seq (.reg aNg) (.seq (.reg aNh) (.seq (.seq (.reg aNi) (.cond (.t 27) (.seq (.reg aNj) .ret) .skip)) (.seq (.reg aNk) (.seq (.reg aNl) (.seq (.seq (.reg aNm) (.block 0 (.loop V0))) (.seq (.reg aCx) .ret)))))))⟩
/-! horarium/node.Length -/
@[go_sem] def aNq:=k 0x104321f8
@[go_sem] def aNr:=k 0x11d85de7dc4b76c
@[go_sem] def aNs:=k 0x104321f8
@[go_sem] def aNt:=k 0x16dce23d09cfb5e856e710fb26c781f24cec
@[go_sem] def aNu:=k 0x1079976be6c
@[go_sem] def aNv:=k 0x117aa7d984492c
@[go_sem] def aNw:=k 0x104321f8
def Pq:TF:=⟨17,[.t 2,.t 3],(.seq (.reg aNq) (.seq (.seq (.reg aNr) (.cond (.t 8) (.seq (.reg aNs) .ret) .skip)) (.seq (.seq (.reg aNt) (.seq (.reg aNu) (.cond (.t 15) (.seq (.reg aNv) .ret) .skip))) (.seq (.reg aNw) .ret))))⟩
/-! horarium/node.whole -/
@[go_sem] def aNx:=k 0xa21c
@[go_sem] def aNy:=k 0xea81da0dcd823f2028c5d4c1c7a33fca6e2c35e0dddbb321e143674c
def Pr:TF:=⟨13,[.t 2],(.seq (.reg aNx) (.seq (.reg aNy) .ret))⟩
/-! horarium/node.Depth -/
@[go_sem] def aNz:=k 0xa1f8
@[go_sem] def aNA:=k 0xf4c39964e0720c
@[go_sem] def aNB:=k 0xa1f8
@[go_sem] def aNC:=k 0x151aaf5c97c8fdc9c36d737db5b8e90e078c
@[go_sem] def aNE:=k 0x1eb8d3f2210c
def Pt:TF:=⟨14,[.t 2],(.seq (.reg aNz) (.seq (.seq (.reg aNA) (.cond (.t 7) (.seq (.reg aNB) .ret) .skip)) (.seq (.reg aNC) (.seq (.reg aNE) .ret))))⟩
/-! horarium/horariumref3.Depth -/
@[go_sem] def aNF:=k 0xa1f8
@[go_sem] def aNG:=k 0x1c6b52218126e1cfd274b02119e467ddbc5ea18b494eec3674c
@[go_sem] def aNH:=k 0xa1f8
@[go_sem] def aNI:=k 0x8f65f4f745bc91d0c
def Pu:TF:=⟨15,[.t 2],(.seq (.reg aNF) (.seq (.seq (.reg aNG) (.cond (.t 12) (.seq (.reg aNH) .ret) .skip)) (.seq (.reg aNI) .ret)))⟩
/-! horarium/horariumref3.Length -/
@[go_sem] def aNJ:=k 0x104321f8
@[go_sem] def aNK:=k 0x1e91bb3e0ef5f20c
@[go_sem] def aNL:=k 0x104321f8
@[go_sem] def aNM:=k 0x5d163e2574e5d422c
@[go_sem] def aNN:=k 0xbcbdaa7cec
@[go_sem] def aNO:=k 0x104321f8
@[go_sem] def aNP:=k 0x117141677a87ac
def Pv:TF:=⟨13,[.t 2,.t 3],(.seq (.reg aNJ) (.seq (.seq (.reg aNK) (.cond (.t 7) (.seq (.reg aNL) .ret) .skip)) (.seq (.reg aNM) (.seq (.seq (.reg aNN) (.cond (.t 11) (.seq (.reg aNO) .ret) .skip)) (.seq (.reg aNP) .ret)))))⟩
/-! horarium/horariumref3.leaves -/
@[go_sem] def aNQ:=k 0x1b7a0
@[go_sem] def aNR:=k 0x26ea7310078840a601cea74cec
@[go_sem] def aNS:=k 0x4d7422c4a1944
@[go_sem] def aNT:=kd 0x131a36d2373acfbcda61d05b7f9578c656bca71f3f3c441b67751363f2a6d4e634a881664a3e143e5c
@[go_sem] def aNU:=k 0x98b437655f7345
@[go_sem] def aNV:=k 0x1703b4fe4b692c1216daa45742555e93740ba5f6355bf1192db88d
@[go_sem] def aNW:=k 0xcd367831851e65
@[go_sem] def aNX:=k 0x1fcd8
@[go_sem] def aNY:=k 0x13ae531c4b1b77084cb08f04f4672b119876bad
@[go_sem] def aNZ:=k 0x1722083a558ec0ee042a4fd17254c0a0740d
@[go_sem] def aCy:=k 0x4260ef87277c2c7514d
def V1:TC:=(.seq (.seq (.reg aNY) (.cond (.t 50) .skip (.exit 1))) (.seq (.block 2 (.reg aNZ)) (.reg aCy)))
@[go_sem] def aCz:=k 0x44447fbc47eed
@[go_sem] def aCA:=k 0x266675ae4845ce18ca2144d
@[go_sem] def aCB:=k 0x44d200f4a
@[go_sem] def aCC:=k 0xa8509dbbf90ea69304d6
@[go_sem] def aCD:=k 0x1a32a8c94d10ff6ebf5df96ed45a3f4e
@[go_sem] def aCE:=k 0x1500829188de04e2
def V2:TC:=(.seq (.reg aCB) (.seq (.cond (.t 64) .skip (.exit 3)) (.seq (.block 4 (.seq (.reg aCC) (.reg aCD))) (.reg aCE))))
@[go_sem] def aCF:=k 0x2a54724ea0fa2e
def Il:TF:=⟨73,[.t 6],(.seq (.reg aNQ) (.seq (.seq (.reg aNR) (.block 0 (.seq (.reg aNS) (.cond (.t 15) (.seq (.dreg aNT) .ret) (.seq (.reg aNU) (.cond (.t 31) (.seq (.reg aNV) .ret) (.seq (.reg aNW) (.cond (.t 42) (.seq (.seq (.reg aNX) (.block 1 (.loop V1))) (.seq (.reg aCz) .ret)) .skip)))))))) (.seq (.seq (.reg aCA) (.block 3 (.loop V2))) (.seq (.reg aCF) .ret))))⟩
/-! horarium/horariumref7.words -/
@[go_sem] def aN0:=k 0xa220
@[go_sem] def aN1:=k 0xe780
@[go_sem] def aN2:=k 0xe9d4cd47ccc
@[go_sem] def aN3:=k 0xa09ad08
@[go_sem] def aN4:=k 0x773433c68979d77679eb0
@[go_sem] def aN5:=k 0x1b778
@[go_sem] def aN6:=k 0x1235bf94f318e83428dd33499eb4a212b72e1e7181a50c
@[go_sem] def aN7:=k 0x16cc0d8fe4465f0910a4480d54ea9c2c
@[go_sem] def aN8:=k 0xec60f908278ca156c
def sD:TC:=(.seq (.seq (.reg aN6) (.cond (.t 21) .skip (.exit 2))) (.seq (.block 3 (.reg aN7)) (.reg aN8)))
@[go_sem] def aCG:=k 0x89ac6cbe21f20
def V3:TC:=(.seq (.reg aN3) (.seq (.cond (.t 10) .skip (.exit 0)) (.seq (.block 1 (.seq (.reg aN4) (.seq (.reg aN5) (.block 2 (.loop sD))))) (.reg aCG))))
@[go_sem] def aCH:=k 0x46ac3876bc6c
def Pw:TF:=⟨31,[.t 2],(.seq (.reg aN0) (.seq (.reg aN1) (.seq (.seq (.reg aN2) (.block 0 (.loop V3))) (.seq (.reg aCH) .ret))))⟩
/-! horarium/horariumref12.Where -/
@[go_sem] def aN9:=k 0xe19b1815cd0
@[go_sem] def aOa:=k 0x5c6da37594948d657bc45b4e6622be86215eedc47af6fbe7fc1cdeb14bef0ca828f2201191df2211ed1042b46614d3bf06aea4e4d7e6a84686e281c2c21cc7a16b4ed6c36afe26a47d7aab95c531
@[go_sem] def aOb:=k 0x69ba5f8
@[go_sem] def aOc:=k 0x889b00b4839b9d5bb1
@[go_sem] def aOd:=k 0xcef4e949
@[go_sem] def aOe:=k 0x96bf143cb54722ae153551f4f44c8868d
@[go_sem] def aOf:=k 0x4a906030258f58bbe4e6b1
@[go_sem] def aOg:=k 0x11d505359beea8a42d
@[go_sem] def aOh:=k 0x1b778
@[go_sem] def aOi:=k 0x12705b1e2f83b9998d
@[go_sem] def aCI:=kd 0xc9b569c67ae14f70e9b85730ca7cd920f2fa09f3e613b402c28c89e6
@[go_sem] def aCJ:=k 0x169bc68cff929ee14ce
@[go_sem] def aCK:=k 0x4dd27570d13c6b869ad
def V4:TC:=(.seq (.seq (.reg aOi) (.cond (.t 59) .skip (.exit 2))) (.seq (.block 3 (.seq (.dreg aCI) (.cond (.t 70) (.seq (.reg aCJ) .ret) .skip))) (.reg aCK)))
@[go_sem] def aCL:=k 0x2e7e5eddccdd10ad2
@[go_sem] def aCM:=k 0x17e1d828c6049ef2a4e
@[go_sem] def aCN:=k 0x166f1dee735f5fc2
def V5:TC:=(.seq (.reg aOd) (.seq (.cond (.t 48) .skip (.exit 0)) (.seq (.block 1 (.seq (.reg aOe) (.seq (.seq (.reg aOf) (.cond (.t 55) (.seq (.reg aOg) .ret) .skip)) (.seq (.seq (.reg aOh) (.block 2 (.loop V4))) (.seq (.reg aCL) (.cond (.t 74) (.seq (.reg aCM) .ret) .skip)))))) (.reg aCN))))
@[go_sem] def aCO:=k 0x10d63a828b200d8fa512
@[go_sem] def aCP:=k 0x5764a5aaa
@[go_sem] def aCQ:=k 0x1c1a8f91a2ace3c38abbb954563ef4ad4fee
@[go_sem] def aCR:=k 0x2419528f3dd272cc407aa63f3fd14cca0b6
@[go_sem] def aCS:=k 0x1cfa1e7bac76a5b904e
@[go_sem] def aCT:=k 0x1b35ba3bcfbbb5c2
def V6:TC:=(.seq (.reg aCP) (.seq (.cond (.t 81) .skip (.exit 4)) (.seq (.block 5 (.seq (.reg aCQ) (.seq (.reg aCR) (.cond (.t 90) (.seq (.reg aCS) .ret) .skip)))) (.reg aCT))))
@[go_sem] def aCU:=k 0x1127bef089921eebfb12
@[go_sem] def aCV:=k 0x68df9b0aa
@[go_sem] def aCW:=k 0x4ad50e48e64916ed3458fc9154a5ee
@[go_sem] def aCX:=k 0xb8a6e9342a4ace61c657ef98dc98ec7c83af69b6e
@[go_sem] def aCY:=k 0x3e46b5c37510ee
@[go_sem] def aCZ:=k 0x12cfd6f08997ad1fd6059bae
@[go_sem] def aC0:=k 0x407abda83766e
@[go_sem] def aC1:=k 0x7a5a906aa
@[go_sem] def aC2:=k 0x1493c3c9cd1feffe9431bfc52
@[go_sem] def aC3:=k 0x17eaa9aafd6af2ae7733a0b973ea5de0526b2
@[go_sem] def aC4:=k 0x26d926a0ae04aa956ee
@[go_sem] def aC5:=k 0x2463c591fac41c62
def V7:TC:=(.seq (.reg aC1) (.seq (.cond (.t 113) .skip (.exit 8)) (.seq (.block 9 (.seq (.reg aC2) (.seq (.reg aC3) (.cond (.t 121) (.seq (.reg aC4) .ret) .skip)))) (.reg aC5))))
@[go_sem] def aC6:=k 0xae2175db6411071f1110c61e6
@[go_sem] def aC7:=k 0x12a74a6023c3c1cf
@[go_sem] def aC8:=k 0x59be9839d626224c4f4cc44c8f
@[go_sem] def aC9:=k 0x268988ea8110ae5763
def V8:TC:=(.seq (.reg aCV) (.seq (.cond (.t 97) .skip (.exit 6)) (.seq (.block 7 (.seq (.reg aCW) (.seq (.reg aCX) (.seq (.seq (.reg aCY) (.cond (.t 107) (.seq (.reg aCZ) .ret) .skip)) (.seq (.seq (.reg aC0) (.block 8 (.loop V7))) (.seq (.reg aC6) (.seq (.reg aC7) (.cond (.t 128) (.seq (.reg aC8) .ret) .skip)))))))) (.reg aC9))))
@[go_sem] def aDa:=k 0x3a89a1f8
def Px:TF:=⟨132,[.t 2,.t 3],(.seq (.reg aN9) (.seq (.seq (.reg aOa) (.cond (.t 43) (.seq (.reg aOb) .ret) .skip)) (.seq (.seq (.reg aOc) (.block 0 (.loop V5))) (.seq (.seq (.reg aCO) (.block 4 (.loop V6))) (.seq (.seq (.reg aCU) (.block 6 (.loop V8))) (.seq (.reg aDa) .ret))))))⟩
/-! horarium/horariumref1.Open -/
@[go_sem] def aOj:=k 0x82b620
@[go_sem] def aOk:=kd 0x123ec70a173ebd3acdca6edd3dc61deb3139a813c4f2baf6bd831d4b67db229ede155157909c
@[go_sem] def aOl:=k 0x82b620
@[go_sem] def aOm:=k 0x1c7da9c4420b712984e5e6a2038c22c0b51acb421c
def Py:TF:=⟨26,[.t 2,.t 3],(.seq (.reg aOj) (.seq (.seq (.dreg aOk) (.cond (.t 18) (.seq (.reg aOl) .ret) .skip)) (.seq (.reg aOm) .ret)))⟩
/-! (*horarium/horariumref1.Reader).Int -/
@[go_sem] def aOp:=k 0x1b778
@[go_sem] def aOq:=k 0x2f0565a9f631422c
@[go_sem] def aOr:=k 0x66f06ee8d9579a95a4eb847e81f93a02b316400ec
@[go_sem] def aOs:=k 0xe47a81291a4e09f977ec
@[go_sem] def aOt:=k 0x1b778
@[go_sem] def aOu:=k 0x31d0eba6fc0c
def Pz:TF:=⟨22,[.t 6],(.seq (.reg aOp) (.seq (.reg aOq) (.seq (.seq (.reg aOr) (.cond (.t 17) (.seq (.reg aOs) (.seq (.reg aOt) .ret)) .skip)) (.seq (.reg aOu) .ret))))⟩
/-! horarium/horariumref12.readPart -/
@[go_sem] def aOv:=k 0xa2c0
@[go_sem] def aOw:=k 0x9e29d43081b4e0727c4237ccc
@[go_sem] def aOx:=k 0x111255d8ce96f33879ccec
@[go_sem] def aOy:=k 0x1557d4e38c16f51f269d0c
@[go_sem] def aOz:=k 0x1d4f26e056f8801f869c7e00f06d2c
@[go_sem] def aOA:=k 0x237b987c05961d502c614c40f182ac
@[go_sem] def aOB:=k 0x2003e135e341aba982c
@[go_sem] def aOC:=k 0x3d19fd02d2ec
@[go_sem] def aOD:=k 0x13d93da6744b24b86c
@[go_sem] def aOE:=kd 0xe0c04d828f14f85620f551c92042d2793656843b31ae2fd44cb8c57c11b4ae0a0ab5059ab65
@[go_sem] def aDb:=k 0x128e13c9292fa6ddac
def QQ:TC:=(.seq (.seq (.reg aOC) (.cond (.t 27) .skip (.exit 0))) (.seq (.block 1 (.seq (.reg aOD) (.dreg aOE))) (.reg aDb)))
@[go_sem] def aDc:=k 0xb3399
@[go_sem] def aDd:=k 0xb2283129
@[go_sem] def aDe:=k 0x32a46a264d64d
@[go_sem] def aDf:=k 0x4f0dff1244d0db1a188f4336d578f8d7613ad
@[go_sem] def aDg:=k 0xe95701c264b6a1
def Hh:TC:=(.seq (.reg aDd) (.seq (.cond (.t 42) .skip (.exit 2)) (.seq (.block 3 (.seq (.reg aDe) (.reg aDf))) (.reg aDg))))
@[go_sem] def aDh:=k 0x347cf3e7ac91
def PA:TF:=⟨51,[.cell 2 11 true],(.seq (.reg aOv) (.seq (.reg aOw) (.seq (.reg aOx) (.seq (.reg aOy) (.seq (.reg aOz) (.seq (.reg aOA) (.seq (.seq (.reg aOB) (.block 0 (.loop QQ))) (.seq (.seq (.reg aDc) (.block 2 (.loop Hh))) (.seq (.reg aDh) .ret)))))))))⟩
/-! horarium/horariumref12.readChan -/
@[go_sem] def aOF:=k 0xa2ec
@[go_sem] def aOG:=k 0x1335900cd3f1f28613941612cac
@[go_sem] def aOH:=k 0x33335b4ca574ea31f161fccc
@[go_sem] def aOI:=k 0x140c7c7993f42cacadf548a0eeccec
@[go_sem] def aOJ:=k 0x5b115254c31744c07b2be26c
@[go_sem] def aOK:=k 0x7b690d2d9bf02f3b9223be1b28c
@[go_sem] def aOL:=k 0x20bbd257382e680648c80c
@[go_sem] def aOM:=k 0x68335f79cd4
def PB:TF:=⟨25,[.cell 2 6 true],(.seq (.reg aOF) (.seq (.reg aOG) (.seq (.reg aOH) (.seq (.reg aOI) (.seq (.reg aOJ) (.seq (.reg aOK) (.seq (.reg aOL) (.seq (.reg aOM) .ret))))))))⟩
/-! (*horarium/horariumref1.Reader).Num -/
@[go_sem] def aON:=k 0xa1f8
@[go_sem] def aOO:=k 0x1ae16e26b06928c499cebe9433d8fb04cabdc88b275f46376c
@[go_sem] def aOP:=k 0x862783a61ed42aad7877eab52f3dc3cd48d841d0c
@[go_sem] def aOQ:=k 0x1059d62c76a9d54a6480c
@[go_sem] def aOR:=k 0xa1f8
@[go_sem] def aOS:=k 0x12300772a9069669342ef27bdbe362597b98539fcf96f93908982d
@[go_sem] def aOT:=k 0x26d18e98f108d
def PC:TF:=⟨34,[.t 2],(.seq (.reg aON) (.seq (.reg aOO) (.seq (.seq (.reg aOP) (.cond (.t 20) (.seq (.reg aOQ) (.seq (.reg aOR) .ret)) .skip)) (.seq (.reg aOS) (.seq (.reg aOT) .ret)))))⟩
/-! (*horarium/horariumref1.Reader).Done -/
@[go_sem] def aOU:=k 0xa21c
@[go_sem] def aOV:=k 0xba752a18f0594a5aa2a9c8d4693925e29516dc294eb04ec672fb8026d71219499674c
def PD:TF:=⟨16,[.t 2],(.seq (.reg aOU) (.seq (.reg aOV) .ret))⟩
/-! horarium/horariumref1.Next -/
@[go_sem] def aOW:=k 0x12e5c
@[go_sem] def aOX:=k 0x4773390a402752e44ea468c4a67ccc
@[go_sem] def aOY:=k 0x17218
@[go_sem] def aOZ:=k 0x1cc9d0d1b3ac
@[go_sem] def aO0:=k 0x579ed65a70b76d2c
@[go_sem] def aO1:=k 0x60dad5e5439577ec
@[go_sem] def aO2:=k 0x1794a7c0aac
@[go_sem] def aO3:=k 0x753bef56fea60d6c
@[go_sem] def aO4:=k 0x9a8b0edec14bf3e6c
def sE:TC:=(.seq (.seq (.reg aOZ) (.cond (.t 13) .skip (.exit 0))) (.seq (.block 1 (.seq (.reg aO0) (.seq (.reg aO1) (.seq (.reg aO2) (.cond (.t 21) (.reg aO3) .skip))))) (.reg aO4)))
@[go_sem] def aDi:=k 0x38b82723182c
def PE:TF:=⟨25,[.t 4],(.seq (.reg aOW) (.seq (.reg aOX) (.seq (.seq (.reg aOY) (.block 0 (.loop sE))) (.seq (.reg aDi) .ret))))⟩
/-! horarium/config.Where -/
@[go_sem] def aO5:=k 0xe19b1815cd0
@[go_sem] def aO6:=k 0x50494d5bc97c9ec3984fc9a35f5cdb1cd2d083520bfce4d72295ea085fc7a45a5f6ad03773d8cc4533d6eaf2c22dc7d188b67a64e285dca084f7db2e92e65cb5494568c95b98213a288237946a51
@[go_sem] def aO7:=k 0x69ba5f8
@[go_sem] def aO8:=k 0x87036a5f8b279c00d1
@[go_sem] def aO9:=k 0xb8eed669
@[go_sem] def aPa:=k 0x94b7eed278aa156aa83bec8decea073ad
@[go_sem] def aPb:=k 0x2224af9fc58af2b47f5e8170e16bde26001ff53f58ca0276b54cfc510c47e38bd1
@[go_sem] def aPc:=k 0x12c9926363eea9744d
@[go_sem] def aPd:=k 0x4db3f1eea99f1251
@[go_sem] def aPe:=k 0x140fa40890d2aa89cd
@[go_sem] def aDj:=k 0x12e5c32a7ca41f42
def V9:TC:=(.seq (.reg aO9) (.seq (.cond (.t 43) .skip (.exit 0)) (.seq (.block 1 (.seq (.reg aPa) (.seq (.seq (.reg aPb) (.cond (.t 58) (.seq (.reg aPc) .ret) .skip)) (.seq (.reg aPd) (.cond (.t 62) (.seq (.reg aPe) .ret) .skip))))) (.reg aDj))))
@[go_sem] def aDk:=k 0x109917300c4a8d8c6492
@[go_sem] def aDl:=k 0x4a486da2a
@[go_sem] def aDm:=k 0x188e0ee043944491583f389fc94fc809cf6e
@[go_sem] def aDn:=k 0xcf1dc001acc6ab4506e8fc6
@[go_sem] def aDo:=k 0x1884e0fb5c76a35150e
@[go_sem] def aDp:=k 0x1711db857f97ea82
def Wa:TC:=(.seq (.reg aDl) (.seq (.cond (.t 69) .skip (.exit 2)) (.seq (.block 3 (.seq (.reg aDm) (.seq (.reg aDn) (.cond (.t 76) (.seq (.reg aDo) .ret) .skip)))) (.reg aDp))))
@[go_sem] def aDq:=k 0x10e06b104aee5ee82fd2
@[go_sem] def aDr:=k 0x59940456a
@[go_sem] def aDs:=k 0x405b16051fcec065f209e587eb3aae
@[go_sem] def aDt:=k 0x7afde184d1601b87c34825b06
@[go_sem] def aDu:=k 0x34e043c32b5aee
@[go_sem] def aDv:=k 0x100cee86af1313f3077be5ae
@[go_sem] def aDw:=k 0x1bcd4e2a326c4082
def Wc:TC:=(.seq (.reg aDr) (.seq (.cond (.t 83) .skip (.exit 4)) (.seq (.block 5 (.seq (.reg aDs) (.seq (.reg aDt) (.seq (.reg aDu) (.cond (.t 91) (.seq (.reg aDv) .ret) .skip))))) (.reg aDw))))
@[go_sem] def aDx:=k 0x3a89a1f8
def PF:TF:=⟨95,[.t 2,.t 3],(.seq (.reg aO5) (.seq (.seq (.reg aO6) (.cond (.t 38) (.seq (.reg aO7) .ret) .skip)) (.seq (.seq (.reg aO8) (.block 0 (.loop V9))) (.seq (.seq (.reg aDk) (.block 2 (.loop Wa))) (.seq (.seq (.reg aDq) (.block 4 (.loop Wc))) (.seq (.reg aDx) .ret))))))⟩
/-! slices.Concat[[]byte,byte] -/
@[go_sem] def aPf:=k 0xa220
@[go_sem] def aPg:=k 0xe758
@[go_sem] def aPh:=k 0xec2e69d078c
@[go_sem] def aPi:=k 0xc468fc8
@[go_sem] def aPj:=k 0x905a822505a148154
@[go_sem] def aPk:=k 0x3630cd67c12f71b43a8b52abcc
@[go_sem] def aPl:=k 0x2ca6b122414c
@[go_sem] def aPm:=k 0x6a637cdc
@[go_sem] def aPn:=k 0x69111170b3980
def sF:TC:=(.seq (.reg aPi) (.seq (.cond (.t 12) .skip (.exit 0)) (.seq (.block 1 (.seq (.reg aPj) (.seq (.reg aPk) (.seq (.reg aPl) (.cond (.t 20) (.reg aPm) .skip))))) (.reg aPn))))
@[go_sem] def aDy:=k 0x7b48c2e11c5056cc
@[go_sem] def aDz:=k 0xfefb4e15d8c
@[go_sem] def aDA:=k 0x1e2da5c8
@[go_sem] def aDB:=k 0x13457dadc6b3fb9754
@[go_sem] def aDC:=k 0xb6cbc3530c2191061f28dcd
@[go_sem] def aDD:=k 0xa1cf760daca601
def QR:TC:=(.seq (.reg aDA) (.seq (.cond (.t 28) .skip (.exit 2)) (.seq (.block 3 (.seq (.reg aDB) (.reg aDC))) (.reg aDD))))
@[go_sem] def aDE:=k 0x292b2b1c3a34d
def PG:TF:=⟨36,[.t 2],(.seq (.reg aPf) (.seq (.reg aPg) (.seq (.seq (.reg aPh) (.block 0 (.loop sF))) (.seq (.reg aDy) (.seq (.seq (.reg aDz) (.block 2 (.loop QR))) (.seq (.reg aDE) .ret))))))⟩
/-! horarium/sum.tail -/
@[go_sem] def aPo:=k 0xa220
@[go_sem] def aPp:=k 0x14132ec82fd1c824d15bdf54d5ec7983fb5138a8115acd9a95b11928345e74c
def PH:TF:=⟨15,[.t 2],(.seq (.reg aPo) (.seq (.reg aPp) .ret))⟩
/-! horarium/sum.Of -/
@[go_sem] def aPq:=k 0xa39c
@[go_sem] def aPr:=k 0xe9d8
@[go_sem] def aPs:=k 0xe8a7ff0376c
@[go_sem] def aPt:=k 0x8eb3ba8
@[go_sem] def aPu:=k 0x71c8dbfb381392d34
@[go_sem] def aPv:=k 0x13792c3e9c6a7e3851dbac
@[go_sem] def aPw:=k 0x47b9b4e48d3e0
def sG:TC:=(.seq (.reg aPt) (.seq (.cond (.t 9) .skip (.exit 0)) (.seq (.block 1 (.seq (.reg aPu) (.reg aPv))) (.reg aPw))))
@[go_sem] def aPx:=k 0x56fbcd9134e4f12c
def PI:TF:=⟨18,[.t 2],(.seq (.reg aPq) (.seq (.reg aPr) (.seq (.seq (.reg aPs) (.block 0 (.loop sG))) (.seq (.reg aPx) .ret))))⟩
/-! horarium/image.nums -/
@[go_sem] def aPD:=k 0x12ce0
@[go_sem] def aPE:=k 0xe9d4cdd28cc
@[go_sem] def aPF:=k 0xa09ad08
@[go_sem] def aPG:=k 0x7c4aed1869ed79e94
@[go_sem] def aPH:=k 0x14b97d6ee343581f1c1d0c
@[go_sem] def aPI:=k 0x4c9287bde9940
def sI:TC:=(.seq (.reg aPF) (.seq (.cond (.t 10) .skip (.exit 0)) (.seq (.block 1 (.seq (.reg aPG) (.reg aPH))) (.reg aPI))))
@[go_sem] def aPJ:=k 0x2844dfa1328c
def PJ:TF:=⟨18,[.t 4],(.seq (.reg aPD) (.seq (.seq (.reg aPE) (.block 0 (.loop sI))) (.seq (.reg aPJ) .ret)))⟩
/-! horarium/code.Text -/
@[go_sem] def aPK:=k 0x12ce0
@[go_sem] def aPL:=k 0x2a744c2cb1fe61f1a5c766c88e999bee7fa5f20c
def PK:TF:=⟨12,[.t 4],(.seq (.reg aPK) (.seq (.reg aPL) .ret))⟩
/-! horarium/code.Flag -/
@[go_sem] def aPM:=k 0x12ce0
@[go_sem] def aPN:=k 0xa1e0c
@[go_sem] def aPO:=k 0x48b524b566d2eb76c
@[go_sem] def aPP:=k 0x5d163e256d94b422c
def PL:TF:=⟨10,[.t 4],(.seq (.reg aPM) (.seq (.seq (.reg aPN) (.cond (.t 5) (.seq (.reg aPO) .ret) .skip)) (.seq (.reg aPP) .ret)))⟩
/-! slices.Clone[[]byte,byte] -/
@[go_sem] def aPQ:=k 0xa220
@[go_sem] def aPR:=k 0x391307674c
@[go_sem] def aPS:=k 0xa220
@[go_sem] def aPT:=k 0x4e1fa1221e696d1376dc
def PM:TF:=⟨8,[.t 2],(.seq (.reg aPQ) (.seq (.seq (.reg aPR) (.cond (.t 4) (.seq (.reg aPS) .ret) .skip)) (.seq (.reg aPT) .ret)))⟩
/-! (*horarium/code.Reader).Count -/
@[go_sem] def aPU:=k 0x12cb8
@[go_sem] def aPV:=k 0x2483548cc693b76c
@[go_sem] def aPW:=k 0x2499c581dbcf052f3803ca1e3ce4d27b09e2c
@[go_sem] def aPX:=k 0xc3579f8ac9febf4ca7cc
@[go_sem] def aPY:=k 0x12cb8
@[go_sem] def aPZ:=k 0x2a9e7c4cd3ec
def PN:TF:=⟨19,[.t 4],(.seq (.reg aPU) (.seq (.reg aPV) (.seq (.seq (.reg aPW) (.cond (.t 14) (.seq (.reg aPX) (.seq (.reg aPY) .ret)) .skip)) (.seq (.reg aPZ) .ret))))⟩
/-! horarium/image.part -/
@[go_sem] def aP0:=k 0xa2c0
@[go_sem] def aP1:=k 0x13e9eafe344217a8352ac629e2bf84d5f0d8d06e3e01259d89a13d6fdaea5f20c
@[go_sem] def aP2:=k 0x1e907d1e56d2c
@[go_sem] def aP3:=k 0x141ba968
@[go_sem] def aP4:=kd 0x19604a01724818cbfab0b666c600ac2002fc0708de96aff22ff7c729552ef6e9d18d55c6fa06cb4faa64
@[go_sem] def aP5:=k 0x8fb20e623e480
def Wd:TC:=(.seq (.reg aP3) (.seq (.cond (.t 19) .skip (.exit 0)) (.seq (.block 1 (.dreg aP4)) (.reg aP5))))
@[go_sem] def aP6:=k 0x87dd8
@[go_sem] def aP7:=k 0x86c97b69
@[go_sem] def aP8:=k 0x26daf5294b08d
@[go_sem] def aDF:=k 0xfa4fcb42d2cd15284ba3428398c0550aded
@[go_sem] def aDG:=k 0xb99ac6af0600e1
def Hi:TC:=(.seq (.reg aP7) (.seq (.cond (.t 32) .skip (.exit 2)) (.seq (.block 3 (.seq (.reg aP8) (.reg aDF))) (.reg aDG))))
@[go_sem] def aDH:=k 0x318cf044f6d1
def PP:TF:=⟨41,[.cell 2 11 true],(.seq (.reg aP0) (.seq (.reg aP1) (.seq (.seq (.reg aP2) (.block 0 (.loop Wd))) (.seq (.seq (.reg aP6) (.block 2 (.loop Hi))) (.seq (.reg aDH) .ret)))))⟩
/-! (*horarium/code.Reader).Flag -/
@[go_sem] def aP9:=k 0xa21c
@[go_sem] def aQa:=k 0xe02180c12d58f97599e74c
def PQ:TF:=⟨6,[.t 2],(.seq (.reg aP9) (.seq (.reg aQa) .ret))⟩
/-! (*horarium/code.Reader).Num -/
@[go_sem] def aQb:=k 0xa1f8
@[go_sem] def aQc:=k 0x1ae16e26b06928c499cebe9433d904aef712f5fb275f46376c
@[go_sem] def aQd:=k 0x862783a61ed42aad7877eab52f3dc3cd48d841d0c
@[go_sem] def aQe:=k 0x1059d62c76a9d54a6480c
@[go_sem] def aQf:=k 0xa1f8
@[go_sem] def aQg:=k 0x12300772a9069669342ef27bdbe362597b98539fcf96f93908982d
@[go_sem] def aQh:=k 0x26d18e98f108d
def PS:TF:=⟨34,[.t 2],(.seq (.reg aQb) (.seq (.reg aQc) (.seq (.seq (.reg aQd) (.cond (.t 20) (.seq (.reg aQe) (.seq (.reg aQf) .ret)) .skip)) (.seq (.reg aQg) (.seq (.reg aQh) .ret)))))⟩
/-! horarium/horariumref12.sameParts -/
@[go_sem] def aQi:=k 0x23530e12a230
@[go_sem] def aQj:=k 0x260f0eb3cec97af3f6ece0adbd78875cf824dad771c7df0339a07fa529a0fa6bf313780d54f616971db46b73ff6a018c1be03fedcd22ad4bca457c3f939660d31d49deecfc1ec0152a82b742439a165deef9900f6c2b2b9849356b9d0ad63813ed4cc7c1ea10317395615065a4c3831c8f5bfac5222dcfde36a3b640d5375303ca262feb7ec3a46771
@[go_sem] def aQk:=k 0x12cdc
@[go_sem] def aQl:=k 0x8c1bb1d5d97d5faed1
@[go_sem] def aQm:=k 0xff68ac69
@[go_sem] def aQn:=k 0x46996940049ad
@[go_sem] def aQo:=kd 0x398174356a56de428d40e658bda9462accb6693e4d148e0acd1a6318740a3aa526
@[go_sem] def aQp:=k 0x12cdc
@[go_sem] def aQq:=k 0x1548c61d92264a42
def sJ:TC:=(.seq (.reg aQm) (.seq (.cond (.t 59) .skip (.exit 0)) (.seq (.block 1 (.seq (.reg aQn) (.seq (.dreg aQo) (.cond (.t 71) (.seq (.reg aQp) .ret) .skip)))) (.reg aQq))))
@[go_sem] def aDI:=k 0x12d8c
def PT:TF:=⟨73,[.t 4],(.seq (.reg aQi) (.seq (.seq (.reg aQj) (.cond (.t 54) (.seq (.reg aQk) .ret) .skip)) (.seq (.seq (.reg aQl) (.block 0 (.loop sJ))) (.seq (.reg aDI) .ret))))⟩
/-! (*horarium/cursor.Cursor).Reset -/
@[go_sem] def aQr:=k 0xd301ce4f64bbd1f91b62232e08f5353efc1f6f81a18dc569fbd58c121ec
@[go_sem] def aQs:=k 0x19db1578924c
def PU:TF:=⟨13,[],(.seq (.reg aQr) (.reg aQs))⟩
/-! horarium/cursor.part -/
@[go_sem] def aQt:=k 0x6815cd0
@[go_sem] def aQu:=k 0x296565d3092f99350
@[go_sem] def aQv:=k 0xa2b8
@[go_sem] def aQw:=k 0x48121beb0898fe370
def PV:TF:=⟨8,[.t 2],(.seq (.reg aQt) (.seq (.seq (.reg aQu) (.cond (.t 5) (.seq (.reg aQv) .ret) .skip)) (.seq (.reg aQw) .ret)))⟩
/-! (*horarium/cursor.Cursor).step -/
@[go_sem] def aQx:=k 0x68c68837e2c49279c7662302d7dacac
@[go_sem] def aQy:=k 0xf3791b755866329f3078c
@[go_sem] def aQz:=k 0x67d473c19d6416d4f0e20f749fd7ac
@[go_sem] def aQA:=kd 0x357430bb6b16a6b9b5a504a94dac7f6e7a73194688caf930a55f8a6a8f531c
@[go_sem] def aQB:=k 0x10ee39cd8f794c3cb0f4a5fc9a38d5a5b7577d73dfb0d
@[go_sem] def aQC:=k 0x3a5e6840e05f095f6286e02fe0ad
@[go_sem] def aQD:=kd 0xc23da31b6717cf7146605f3302529791f7179343011fc34cd595f9be7c1a94805d
@[go_sem] def aQE:=k 0x5c8820ec8b243f80e915063da5acc47c0d
@[go_sem] def aQF:=k 0x12c33c7d795c31ceed
@[go_sem] def aQG:=kd 0x4145be14ecb0b3cab7c296bbbf5bc7e5a20097aeb0336979884ef08a9d06872d36a1e502a560b94660b95df5e
def We:TC:=(.seq (.seq (.reg aQz) (.cond (.t 17) .skip (.exit 0))) (.block 1 (.seq (.dreg aQA) (.seq (.seq (.reg aQB) (.seq (.reg aQC) (.cond (.t 40) (.seq (.seq (.dreg aQD) (.cond (.t 52) (.reg aQE) .skip)) (.seq (.reg aQF) .ret)) .skip))) (.dreg aQG)))))
@[go_sem] def aDJ:=k 0x2aafa24f063a063af39ec8f5770d6834a2a96c64c12941c6a4e
def PX:TF:=⟨83,[],(.seq (.reg aQx) (.seq (.reg aQy) (.seq (.block 0 (.loop We)) (.reg aDJ))))⟩
/-! horarium/runs.Add -/
@[go_sem] def aQH:=k 0x12cb8
@[go_sem] def aQI:=k 0x67d69330900d5d9fd3507a2c60c720c
@[go_sem] def aQJ:=k 0x6735ef5079a11827078c
@[go_sem] def aQK:=k 0x12f24
@[go_sem] def aQL:=k 0x14e5abf0673b11f9a81d0c
def PY:TF:=⟨16,[.t 4],(.seq (.reg aQH) (.seq (.reg aQI) (.seq (.seq (.reg aQJ) (.cond (.t 12) (.seq (.reg aQK) .ret) .skip)) (.seq (.reg aQL) .ret))))⟩
/-! slices.Clip[[]horarium/api.Run,horarium/api.Run] -/
@[go_sem] def aQM:=k 0xa220
@[go_sem] def aQN:=k 0xe32667bf88749f2bfac96f0df98fac1674c
def PZ:TF:=⟨9,[.t 2],(.seq (.reg aQM) (.seq (.reg aQN) .ret))⟩
/-! horarium/bound.spans -/
@[go_sem] def aQO:=k 0x12ce0
@[go_sem] def aQP:=k 0x17240
@[go_sem] def aQQ:=k 0x1b778
@[go_sem] def aQR:=k 0xed5b3814cec
@[go_sem] def aQS:=k 0xd650128
@[go_sem] def aQT:=k 0xbb8c25156ab06d042f2d0
@[go_sem] def aQU:=k 0x737d828b75ea6b84053582e752c
@[go_sem] def aQV:=k 0x33562435216d2c9e44cba6543740d0f5389688517bae2b0
@[go_sem] def aQW:=k 0xefc0abc4280cec5af421288cf4a7ff4ec0ab0d
@[go_sem] def aQX:=k 0x293df8037ab4d
@[go_sem] def aDK:=k 0xaa1be670a330c1
def Wh:TC:=(.seq (.reg aQS) (.seq (.cond (.t 13) .skip (.exit 0)) (.seq (.block 1 (.seq (.reg aQT) (.seq (.reg aQU) (.seq (.seq (.reg aQV) (.cond (.t 28) (.reg aQW) .skip)) (.reg aQX))))) (.reg aDK))))
@[go_sem] def aDL:=k 0x2b8e2e0d2d60d
def P6:TF:=⟨38,[.t 4],(.seq (.reg aQO) (.seq (.reg aQP) (.seq (.reg aQQ) (.seq (.seq (.reg aQR) (.block 0 (.loop Wh))) (.seq (.reg aDL) .ret)))))⟩
/-! horarium/runs.Length -/
@[go_sem] def aQY:=k 0xa1f8
@[go_sem] def aQZ:=k 0xe758
@[go_sem] def aQ0:=k 0xe8a7ff0376c
@[go_sem] def aQ1:=k 0x8eb3ba8
@[go_sem] def aQ2:=k 0x768379c073cc3d9c92d50
@[go_sem] def aQ3:=k 0x5a6bf304e69e20584f4f1675bac
@[go_sem] def aQ4:=k 0x4c6cede491940
def sK:TC:=(.seq (.reg aQ1) (.seq (.cond (.t 9) .skip (.exit 0)) (.seq (.block 1 (.seq (.reg aQ2) (.reg aQ3))) (.reg aQ4))))
@[go_sem] def aQ5:=k 0x281f45f3368c
def P7:TF:=⟨18,[.t 2],(.seq (.reg aQY) (.seq (.reg aQZ) (.seq (.seq (.reg aQ0) (.block 0 (.loop sK))) (.seq (.reg aQ5) .ret))))⟩
/-! horarium/bound.next -/
@[go_sem] def aQ6:=k 0x1b778
@[go_sem] def aQ7:=k 0xec2e69d078c
@[go_sem] def aQ8:=k 0xc468fc8
@[go_sem] def aQ9:=k 0xbadb6b0f5502d32a48170
@[go_sem] def aRa:=k 0x6326ff49fba885a199d411cd3cc
@[go_sem] def aRb:=k 0x2741c7973ee4691a3e8a0ac2d4f9e2eac
@[go_sem] def aRc:=k 0x772abc70c09a0
def sL:TC:=(.seq (.reg aQ8) (.seq (.cond (.t 12) .skip (.exit 0)) (.seq (.block 1 (.seq (.reg aQ9) (.seq (.reg aRa) (.cond (.t 19) (.seq (.reg aRb) .ret) .skip)))) (.reg aRc))))
@[go_sem] def aRd:=k 0x6dba5888ccd08345a7ec5f0335681df58faec
def P8:TF:=⟨32,[.t 6],(.seq (.reg aQ6) (.seq (.seq (.reg aQ7) (.block 0 (.loop sL))) (.seq (.reg aRd) .ret)))⟩
/-! horarium/node.measure -/
@[go_sem] def aRe:=k 0x681a1f8
@[go_sem] def aRf:=k 0x38bbabcc12fcfdf4
@[go_sem] def aRh:=k 0xefb4d49d7ac
@[go_sem] def aRi:=k 0xfa1e3e8
@[go_sem] def aRj:=k 0x90bebb4579b27432fd594
@[go_sem] def aRk:=kd 0x115d07761f89e6275cab3aae7d94dfe2a0b7393f5c3b31c
@[go_sem] def aRl:=k 0x25983fa3b9a8b5f3840d8c
@[go_sem] def aRm:=k 0x33ea1bcc9dad23b2fdbe2a6846f63f0dad
@[go_sem] def aRn:=k 0x1359c36345836cd5fc257286636db3b117de04640aded
@[go_sem] def aRo:=k 0x1ff65de0e0931ac5049b1a0e5534b8de5d9fcd63f9ab9340ec5d6f07209b5e2958ba938d
@[go_sem] def aDM:=kd 0x12ac98d6829196258f152f5cc34d1e283ea41056f88c7cef42e2f6fd713694abc790230d4a90433617e1e
@[go_sem] def aDN:=k 0xdffda8b235ec0a7b4bde337097eb4da4748e
@[go_sem] def aDO:=k 0x31b9d848f6b64bb485571288f72
@[go_sem] def aDP:=k 0x99b021bb8acf7d81c030c51d2422c6f9f655a070911f129a4f2
@[go_sem] def aDQ:=k 0x29c7c29f3f3169c4cd80d5a16ea6475e75e05c6082563a8e
@[go_sem] def aDR:=kd 0x21ef337c91968d98f1bd60b866a6d7857223d7e7e089835658f7128580815b125acb5de7f9e
@[go_sem] def aDS:=kd 0x89fff9de908e026bffe9cf68b9738a9faedd8de1c0d3a16472734a5826beba2d73de
def QS:TC:=(.seq (.seq (.reg aRo) (.cond (.t 53) .skip (.exit 2))) (.block 3 (.seq (.dreg aDM) (.seq (.reg aDN) (.seq (.seq (.reg aDO) (.cond (.t 73) (.reg aDP) .skip)) (.seq (.reg aDQ) (.seq (.dreg aDR) (.dreg aDS))))))))
@[go_sem] def aDT:=k 0x200d603117105122
def Wi:TC:=(.seq (.reg aRi) (.seq (.cond (.t 15) .skip (.exit 0)) (.seq (.block 1 (.seq (.reg aRj) (.seq (.dreg aRk) (.seq (.seq (.reg aRl) (.seq (.reg aRm) (.cond (.t 33) (.reg aRn) .skip))) (.block 2 (.loop QS)))))) (.reg aDT))))
@[go_sem] def aDU:=kd 0xbd632cf3373ed49c7472081704a9e07ff34ebecec404c4283731401d0881e
def P9:TF:=⟨118,[.t 2,.t 3],(.seq (.reg aRe) (.seq (.reg aRf) (.seq (.seq (.reg aRh) (.block 0 (.loop Wi))) (.seq (.dreg aDU) .ret))))⟩
/-! horarium/node.Size -/
@[go_sem] def aRp:=k 0x12cb8
@[go_sem] def aRq:=k 0x4f965f592cf6e57da464c6bb659878e4d278dee2c
@[go_sem] def aRr:=k 0x12cb8
@[go_sem] def aRs:=k 0xa1e18
@[go_sem] def aRt:=k 0x2610dcf1992c
@[go_sem] def aRu:=k 0xc254c38123e7a2f93a8c
@[go_sem] def aRv:=k 0xb0b2d1f4ce5e80abf06a992b1ed2cc
@[go_sem] def aRw:=k 0x41cd31c761ac
@[go_sem] def aRx:=k 0x12cb8
@[go_sem] def aRy:=k 0xc60dee004cc7f7950a93dc250f06d
@[go_sem] def aDV:=k 0x27f366f6605ed
@[go_sem] def aDW:=k 0xe9e14aff5766b8382615e66b1e8ad
@[go_sem] def aDX:=k 0xe2306c4f8dc49d00c
def Wj:TC:=(.seq (.seq (.reg aRu) (.cond (.t 20) .skip (.exit 0))) (.seq (.block 1 (.seq (.reg aRv) (.seq (.seq (.reg aRw) (.cond (.t 29) (.seq (.reg aRx) .ret) .skip)) (.seq (.reg aRy) (.seq (.reg aDV) (.cond (.t 35) (.seq (.reg aDW) .ret) .skip)))))) (.reg aDX)))
@[go_sem] def aDY:=k 0x12cb8
def Qa:TF:=⟨40,[.t 4],(.seq (.reg aRp) (.seq (.seq (.reg aRq) (.cond (.t 15) (.seq (.reg aRr) .ret) .skip)) (.seq (.reg aRs) (.seq (.seq (.reg aRt) (.block 0 (.loop Wj))) (.seq (.reg aDY) .ret)))))⟩
/-! horarium/horariumref3.Size -/
@[go_sem] def aRz:=k 0x12cb8
@[go_sem] def aRA:=k 0x47b95a1bbc5cb22837a8c961139a4282a0b0da8cc
@[go_sem] def aRB:=k 0x12cb8
@[go_sem] def aRC:=k 0xa1e18
@[go_sem] def aRD:=k 0x23b7407153cc
@[go_sem] def aRE:=k 0xb6f0c5f3fe7156f8f52c
@[go_sem] def aRF:=k 0x5460da74b6f66a169899d5f1e8d6c
@[go_sem] def aRH:=k 0x12cb8
@[go_sem] def aRI:=k 0x12932c0f72afaf89ac
@[go_sem] def aRJ:=k 0x373c351cb68acc5be90bc8a582b66a386d
@[go_sem] def aDZ:=k 0x140e38228790cbe13f31854f11a8bb7c6e88cf96290ad
@[go_sem] def aD0:=k 0x4c59cc4d43d486e235d64075a9966dbe4d
@[go_sem] def aD1:=k 0x3fca9bd37adfaa4168d
@[go_sem] def aD2:=k 0x3bed1936aa14d
@[go_sem] def aD3:=k 0x14fa6ab587ca2e4544ad0eb508840d
@[go_sem] def aD4:=k 0xd7ffdf96f3fc98aac
def Wk:TC:=(.seq (.seq (.reg aRE) (.cond (.t 19) .skip (.exit 0))) (.seq (.block 1 (.seq (.seq (.reg aRF) (.cond (.t 27) (.seq (.reg aRH) .ret) .skip)) (.seq (.reg aRI) (.seq (.seq (.reg aRJ) (.cond (.t 35) (.reg aDZ) .skip)) (.seq (.seq (.reg aD0) (.cond (.t 48) (.reg aD1) .skip)) (.seq (.reg aD2) (.cond (.t 52) (.seq (.reg aD3) .ret) .skip))))))) (.reg aD4)))
@[go_sem] def aD5:=k 0x12cb8
def Qb:TF:=⟨57,[.t 4],(.seq (.reg aRz) (.seq (.seq (.reg aRA) (.cond (.t 14) (.seq (.reg aRB) .ret) .skip)) (.seq (.reg aRC) (.seq (.seq (.reg aRD) (.block 0 (.loop Wk))) (.seq (.reg aD5) .ret)))))⟩
/-! horarium/horariumref3.depth -/
@[go_sem] def aSj:=k 0x12cb8
@[go_sem] def aSk:=k 0x17218
@[go_sem] def aSl:=k 0x8b7312c3fa21b75a6c22c
@[go_sem] def aSm:=k 0xd650128
@[go_sem] def aSn:=k 0x9b2e17a6cf7b2f2b4
@[go_sem] def aSo:=k 0x105bc4f53dba4bcb68bd39bd6cf0492c
@[go_sem] def aSp:=k 0x6483724a07420
def sM:TC:=(.seq (.reg aSm) (.seq (.cond (.t 13) .skip (.exit 0)) (.seq (.block 1 (.seq (.reg aSn) (.reg aSo))) (.reg aSp))))
@[go_sem] def aSq:=k 0xebbdf03ef78c1696c
def Qc:TF:=⟨24,[.t 4],(.seq (.reg aSj) (.seq (.reg aSk) (.seq (.seq (.reg aSl) (.block 0 (.loop sM))) (.seq (.reg aSq) .ret))))⟩
/-! horarium/horariumref3.length -/
@[go_sem] def aSr:=k 0x12cb8
@[go_sem] def aSs:=k 0x17218
@[go_sem] def aSt:=k 0x8b7312c3fa21b75a6c22c
@[go_sem] def aSu:=k 0xd650128
@[go_sem] def aSv:=k 0x9b2e17a6cf7b2f2b4
@[go_sem] def aSw:=k 0x253926203dcce21cf0f36b415006ecf0492c
@[go_sem] def aSx:=k 0x6936ab4a0b980
def sN:TC:=(.seq (.reg aSu) (.seq (.cond (.t 13) .skip (.exit 0)) (.seq (.block 1 (.seq (.reg aSv) (.reg aSw))) (.reg aSx))))
@[go_sem] def aSy:=k 0x4dd4094290996f92cb2aaad2cc
@[go_sem] def aSz:=k 0x8c76d7cf67724
@[go_sem] def aD6:=k 0x46d1d250146c
@[go_sem] def aD7:=k 0x98b4379de02345
@[go_sem] def aD8:=k 0x16ff3a2c5a2d73d10f1f0220e45aeb0fd1a7a5f6355bf11961c08d
@[go_sem] def aD9:=k 0x14b16b3262a319aed40e11fb4d2ee07349d78ed
def Qd:TF:=⟨48,[.t 4],(.seq (.reg aSr) (.seq (.reg aSs) (.seq (.seq (.reg aSt) (.block 0 (.loop sN))) (.seq (.seq (.reg aSy) (.block 2 (.seq (.reg aSz) (.cond (.t 28) (.seq (.reg aD6) .ret) (.seq (.reg aD7) (.cond (.t 31) (.seq (.reg aD8) .ret) .skip)))))) (.seq (.reg aD9) .ret)))))⟩
/-! horarium/horariumref3.Kids -/
@[go_sem] def aSA:=k 0x12ce0
@[go_sem] def aSB:=k 0xe097339ad95dc06a6c22c
@[go_sem] def aSC:=k 0x1b7a0
@[go_sem] def aSD:=k 0x7c9c717e23f1bbe4c
@[go_sem] def aSE:=k 0x2868c75c7b92525457a1e4d10c
@[go_sem] def aSF:=k 0x4e6ad91405293ccbafc1b6dacc
@[go_sem] def aSG:=k 0x120810437b3423cc1095d3806d022bec
def sO:TC:=(.seq (.seq (.reg aSE) (.cond (.t 17) .skip (.exit 0))) (.seq (.block 1 (.reg aSF)) (.reg aSG)))
@[go_sem] def aSH:=k 0x3fc4fcd7f04c
def Qe:TF:=⟨28,[.t 4],(.seq (.reg aSA) (.seq (.reg aSB) (.seq (.reg aSC) (.seq (.seq (.reg aSD) (.block 0 (.loop sO))) (.seq (.reg aSH) .ret)))))⟩
/-! slices.ContainsFunc[[]horarium/api.Run,horarium/api.Run] -/
@[go_sem] def aSI:=k 0x12cdc
@[go_sem] def aSJ:=k 0x30b3fabcd76136b1190aaa5f20c
def Qf:TF:=⟨9,[.t 4],(.seq (.reg aSI) (.seq (.reg aSJ) .ret))⟩
/-! horarium/horariumref12.Name -/
@[go_sem] def aSK:=k 0xa21c
@[go_sem] def aSL:=k 0xe758
@[go_sem] def aSM:=k 0x39a4e0e3f8c332dbf60c
@[go_sem] def aSN:=k 0x337971dced6089ceb8955fb8ff606637f44a040f3aa9df0815e2fd5d73a14696680c66eeb1043d3ef924c
@[go_sem] def aSO:=k 0x2836aa249df16bd88a4b0875ca135bdc72a9a87b279ee6931265665b97e1ec046d7a912b582b1921b79b52e8a26f7b9684d
@[go_sem] def aSP:=k 0xa21c
@[go_sem] def aSQ:=k 0x66f5467a9062c8b8c
def sP:TC:=(.seq (.seq (.reg aSM) (.cond (.t 8) .skip (.exit 0))) (.seq (.block 1 (.seq (.reg aSN) (.seq (.reg aSO) (.cond (.t 44) (.seq (.reg aSP) .ret) .skip)))) (.reg aSQ)))
@[go_sem] def aSR:=k 0x1ae1b045641d5b707ff12188bcb140cfb222bda71526036490d
def Qg:TF:=⟨53,[.t 2],(.seq (.reg aSK) (.seq (.seq (.reg aSL) (.block 0 (.loop sP))) (.seq (.reg aSR) .ret)))⟩
/-! horarium/horariumref12.partRight -/
@[go_sem] def aSS:=k 0x1042dcd0
@[go_sem] def aST:=k 0x66c1aecf0bbaedb48d523e5d3ce5812d81b6d24d5f08ea6628d0
@[go_sem] def aSU:=k 0xa21c
@[go_sem] def aSV:=k 0x42debdea80768de90
@[go_sem] def aSW:=k 0x16588c28
@[go_sem] def aSX:=k 0x68b4f0f5428adbd367dd0
@[go_sem] def aSY:=k 0x2829da63253594b17daa1219c73f2ed782d6c5199b4cee35e60b51c899b3d75e18a9a00ca816c777ce3d5c668f933ccbcbf831
@[go_sem] def aSZ:=k 0xa21c
@[go_sem] def aS0:=k 0xc6e5a3b354d101
def sQ:TC:=(.seq (.reg aSW) (.seq (.cond (.t 21) .skip (.exit 0)) (.seq (.block 1 (.seq (.reg aSX) (.seq (.reg aSY) (.cond (.t 41) (.seq (.reg aSZ) .ret) .skip)))) (.reg aS0))))
@[go_sem] def aEa:=k 0x1f5c1833a11651
@[go_sem] def aEb:=k 0xc38146a9
@[go_sem] def aEc:=k 0xdd5e8ca6614d65
@[go_sem] def aEd:=k 0x149bcf12eaf3ce5884ef7c768b2e0e81292d
@[go_sem] def aEe:=k 0xa21c
@[go_sem] def aEf:=k 0x101225263be1181
def Wp:TC:=(.seq (.reg aEb) (.seq (.cond (.t 46) .skip (.exit 2)) (.seq (.block 3 (.seq (.reg aEc) (.seq (.reg aEd) (.cond (.t 53) (.seq (.reg aEe) .ret) .skip)))) (.reg aEf))))
@[go_sem] def aEg:=k 0x1c185bf57b0b4e1c96d8380d462c6ec65c2f270b6bf656d1
@[go_sem] def aEh:=k 0xa2cc
@[go_sem] def aEi:=k 0xdf07c2828de0b8aa94fa5d49dfd2259b605a694d82c5080ec997509f13f4b5f74eb1b0f319a723c629d14efea627e559ba77a8c5db80c44953027fc4d8bd9d2
def Qh:TF:=⟨83,[.t 2],(.seq (.reg aSS) (.seq (.seq (.reg aST) (.cond (.t 16) (.seq (.reg aSU) .ret) .skip)) (.seq (.seq (.reg aSV) (.block 0 (.loop sQ))) (.seq (.seq (.reg aEa) (.block 2 (.loop Wp))) (.seq (.seq (.reg aEg) (.cond (.t 62) (.seq (.reg aEh) .ret) .skip)) (.seq (.reg aEi) .ret))))))⟩
/-! horarium/horariumref12.chanRight -/
@[go_sem] def aS1:=k 0x51881f2230
@[go_sem] def aS2:=k 0x2e794fad5c1748967d49862573e000924dce0c0de45922a6be53c30e824e1b90717bdd3872a88e03d9792f9acbc170131e7215f05e0934634a836a9e9d6a1381545aa6cbf3093b6c203b4cbf636e24440f56d61206197732391f62f7189aa74110d245c07dfa42211
@[go_sem] def aS3:=k 0x12cdc
@[go_sem] def aS4:=k 0x19307823849c1c74bd5bac429f5592bb8ca8e967c427f34a53e86e5728f87110e9e154673d63ff02006c65bd7d3dbfca911452b16d0e2a63464795d1b5d8d5dc5a28f1
def Qi:TF:=⟨64,[.t 4],(.seq (.reg aS1) (.seq (.seq (.reg aS2) (.cond (.t 41) (.seq (.reg aS3) .ret) .skip)) (.seq (.reg aS4) .ret)))⟩
/-! (*horarium/horariumref1.Reader).Str -/
@[go_sem] def aS5:=k 0x12dc4
@[go_sem] def aS6:=k 0x91b0664736bf17123bdc2a79a5b4cde9ce2cf3e6b36f0b1910ec22c
@[go_sem] def aS7:=k 0x9dbe935bcd5750a5a4a3388aa4a930d23d830ed2c
@[go_sem] def aS8:=k 0x126c04465baec9f53182c
@[go_sem] def aS9:=k 0x12dc4
@[go_sem] def aTa:=k 0x13e4cfaa71bfa5a4378bbf74279fc4d5cc51e1ba53d0705909684d
@[go_sem] def aTb:=k 0x2a615fcd290ad
def Qj:TF:=⟨37,[.t 4],(.seq (.reg aS5) (.seq (.reg aS6) (.seq (.seq (.reg aS7) (.cond (.t 23) (.seq (.reg aS8) (.seq (.reg aS9) .ret)) .skip)) (.seq (.reg aTa) (.seq (.reg aTb) .ret)))))⟩
/-! horarium/horariumref1.Get -/
@[go_sem] def aTc:=k 0x681a1f8
@[go_sem] def aTd:=k 0x2dda8e526f38c22c
@[go_sem] def aTe:=k 0x681a1f8
@[go_sem] def aTf:=k 0x6237ee2be67c41144b41edd44e924c
@[go_sem] def aTg:=k 0x26ae1265a1432b3727429553f64a5d6580faffc77201d2c
@[go_sem] def aTh:=k 0x681a1f8
@[go_sem] def aTi:=k 0x17430
@[go_sem] def aTj:=k 0xa6378
@[go_sem] def aTk:=k 0x83839462750b658c
@[go_sem] def aTl:=k 0x13282d27e79caebb0c3b71b536683485dfc74881ef12f06d
@[go_sem] def aEj:=k 0x12984455bc23cbb5ac
def QT:TC:=(.seq (.seq (.reg aTk) (.cond (.t 27) .skip (.exit 0))) (.seq (.block 1 (.reg aTl)) (.reg aEj)))
@[go_sem] def aEk:=k 0xc7482c240774d1b6d
@[go_sem] def aEl:=k 0x3a0c5fe03bac79cb38ee2d
@[go_sem] def aEm:=k 0xe5d9d1f9421e36bad
@[go_sem] def aEn:=kd 0x2474f9c32b1bc0da83c4c9e06c8093824c9b7f183f7d32281d
@[go_sem] def aEo:=k 0x681a1f8
@[go_sem] def aEp:=k 0x554f3102cdace65dec665bca66cd
def Qk:TF:=⟨58,[.t 2,.t 3],(.seq (.reg aTc) (.seq (.seq (.reg aTd) (.cond (.t 10) (.seq (.reg aTe) .ret) .skip)) (.seq (.reg aTf) (.seq (.seq (.reg aTg) (.cond (.t 24) (.seq (.reg aTh) .ret) .skip)) (.seq (.reg aTi) (.seq (.seq (.reg aTj) (.block 0 (.loop QT))) (.seq (.reg aEk) (.seq (.seq (.reg aEl) (.cond (.t 43) (.reg aEm) .skip)) (.seq (.seq (.dreg aEn) (.cond (.t 54) (.seq (.reg aEo) .ret) .skip)) (.seq (.reg aEp) .ret))))))))))⟩
/-! horarium/config.Name -/
@[go_sem] def aTm:=k 0xa21c
@[go_sem] def aTn:=k 0xe8ac550376c
@[go_sem] def aTo:=k 0x8eb3ba8
@[go_sem] def aTp:=k 0x17becb80acec
@[go_sem] def aTq:=k 0x1222c3cd8f9033d3ef924c
@[go_sem] def aTr:=k 0x21b4c1f52bc9818f7db3cbc232df7302926c
@[go_sem] def aTs:=k 0x1815b3d8596fe17b42af8f12959bf99d08fbd68f218cb11e9902861f478fb78698175f92b755774429eac3729db540f7563aad
@[go_sem] def aTt:=k 0xa21c
@[go_sem] def aTu:=k 0xb33724cf4bbb81
def sR:TC:=(.seq (.reg aTo) (.seq (.cond (.t 9) .skip (.exit 0)) (.seq (.block 1 (.seq (.reg aTp) (.seq (.reg aTq) (.seq (.reg aTr) (.seq (.reg aTs) (.cond (.t 37) (.seq (.reg aTt) .ret) .skip)))))) (.reg aTu))))
@[go_sem] def aEq:=k 0x17c8343d2939327fb1ffcf3e0762defb1828afdb3ff2ad4a8cd
def Ql:TF:=⟨47,[.t 2],(.seq (.reg aTm) (.seq (.seq (.reg aTn) (.block 0 (.loop sR))) (.seq (.reg aEq) .ret)))⟩
/-! slices.ContainsFunc[[]horarium/api.Part,horarium/api.Part] -/
@[go_sem] def tZ:=k 0x12cdc
@[go_sem] def uA:=k 0x30b3fabcd76136b372a72a5f20c
def KK:TF:=⟨9,[.t 4],(.seq (.reg tZ) (.seq (.reg uA) .ret))⟩
/-! horarium/config.Where$1 -/
@[go_sem] def uB:=k 0x10432230
@[go_sem] def uC:=k 0xd25cb82330bc32ef3b059a7edf8284b0
def KL:TF:=⟨9,[.t 3],(.seq (.reg uB) (.seq (.reg uC) .ret))⟩
/-! horarium/config.part -/
@[go_sem] def uD:=k 0x1042dcd0
@[go_sem] def uE:=k 0x1d15a0b3b6370
@[go_sem] def uF:=k 0x8d9e3c8
@[go_sem] def uG:=k 0x2fa330b6eae84
@[go_sem] def uH:=k 0x15d9d104108c79e22a158f0b67d28c24c
@[go_sem] def uI:=k 0xa21c
@[go_sem] def uJ:=k 0x512026e495ea0
def Vz:TC:=(.seq (.reg uF) (.seq (.cond (.t 9) .skip (.exit 0)) (.seq (.block 1 (.seq (.reg uG) (.seq (.reg uH) (.cond (.t 16) (.seq (.reg uI) .ret) .skip)))) (.reg uJ))))
@[go_sem] def uK:=k 0xd003ada5bbe86c287c563a60b6ddca78d854e6fadbf9323f0
@[go_sem] def uL:=k 0x89763d7d773b3119a359edf365eb74e9ba03387b3fa800ba0849a10c95c47b4720da34d938ebf8bedae334426eb8381c2a17267589dd8b26d3099bdfbb654a47a40fbb23f1a3c880fdaae0b5eb9abecaa9467af1
def KM:TF:=⟨54,[.t 2],(.seq (.reg uD) (.seq (.seq (.reg uE) (.block 0 (.loop Vz))) (.seq (.reg uK) (.seq (.reg uL) .ret))))⟩
/-! horarium/config.channel -/
@[go_sem] def uM:=k 0x23530e12a230
@[go_sem] def uN:=k 0x6827218
@[go_sem] def uO:=k 0x12cd93b74630
@[go_sem] def uP:=k 0x966dab1e18
@[go_sem] def uQ:=k 0x4f326a47fb6b2a032223a8424f0
@[go_sem] def uR:=k 0xc5e91a2423d0defd5cb99d4b6fcc0b1e20f444b90b16fe13f57fd4bb706b52f720a399fcb29e9ea83a1b9c256f64863dea32fa3bdc479de37dbb485ae88c2d5b4b9e7a89c0bfcbf7827486f1fd83c0f2baee3e43cfda4b7a9653dd0870ce3b7ea71
def KN:TF:=⟨48,[.t 4],(.seq (.reg uM) (.seq (.reg uN) (.seq (.seq (.reg uO) (.cond (.t 9) (.reg uP) .skip)) (.seq (.reg uQ) (.seq (.reg uR) .ret)))))⟩
/-! horarium/config.table -/
@[go_sem] def uS:=k 0x517e5da230
@[go_sem] def uT:=k 0x13587c8f9d8b5dba6547860044ab123aee2c
@[go_sem] def uU:=k 0x1c337e52dfac
@[go_sem] def uV:=k 0x21380a546a6c
@[go_sem] def uW:=k 0x4efb8184c19d03cc
@[go_sem] def uX:=k 0x8becb8
@[go_sem] def uY:=k 0x1bccf04786b898ad4ad024
def KO:TF:=⟨21,[.t 4],(.seq (.reg uS) (.seq (.reg uT) (.seq (.seq (.reg uU) (.cond (.t 13) (.seq (.reg uV) .ret) .skip)) (.seq (.seq (.reg uW) (.cond (.t 17) (.seq (.reg uX) .ret) .skip)) (.seq (.reg uY) .ret)))))⟩
/-! slices.Grow[[]byte,byte] -/
@[go_sem] def uZ:=k 0x12ce0
@[go_sem] def vA:=k 0xbc0220d1e0c
@[go_sem] def vB:=k 0x6a5fb250
@[go_sem] def vC:=k 0x3588d34e9b54afe7d0af0882efaa7e09c84b6e2c
@[go_sem] def vD:=k 0x23404365d3cc
@[go_sem] def vE:=k 0x3805668e14883168f4fa7ac021822a8ccd6bd818947445328c
@[go_sem] def vF:=k 0x3d6b6023a2ec
def KP:TF:=⟨27,[.t 4],(.seq (.reg uZ) (.seq (.seq (.reg vA) (.cond (.t 6) (.reg vB) .skip)) (.seq (.seq (.reg vC) (.seq (.reg vD) (.cond (.t 16) (.reg vE) .skip))) (.seq (.reg vF) .ret))))⟩
/-! horarium/sum.Next -/
@[go_sem] def vG:=k 0x12e5c
@[go_sem] def vH:=k 0x40f5f5e9894edb53ee6b7278a6376c
@[go_sem] def vI:=k 0x31258
@[go_sem] def vJ:=k 0xc3537e8
@[go_sem] def vK:=k 0x482d41133e0a9d0c
@[go_sem] def vL:=k 0x7b5d5227e91fc60a96447014e8a7cc
@[go_sem] def vM:=k 0x5faa9f70aaec0
def VA:TC:=(.seq (.reg vJ) (.seq (.cond (.t 12) .skip (.exit 0)) (.seq (.block 1 (.seq (.reg vK) (.reg vL))) (.reg vM))))
@[go_sem] def vN:=k 0x31ab51a2480c
def KQ:TF:=⟨22,[.t 4],(.seq (.reg vG) (.seq (.reg vH) (.seq (.seq (.reg vI) (.block 0 (.loop VA))) (.seq (.reg vN) .ret))))⟩
/-! horarium/code.Put -/
@[go_sem] def vO:=k 0x12ce0
@[go_sem] def vP:=k 0x17240
@[go_sem] def vQ:=k 0x2edca378cdd16e2c
@[go_sem] def vR:=k 0xbcb1cf54ec
@[go_sem] def vS:=k 0x75e3a1687e0f69cf5dc66c0ec7be6c
@[go_sem] def vT:=k 0x433dbce8f063dfac
def Qz:TC:=(.seq (.seq (.reg vR) (.cond (.t 11) .skip (.exit 0))) (.seq (.block 1 (.reg vS)) (.reg vT)))
@[go_sem] def vU:=k 0x166bb58994c
@[go_sem] def vV:=k 0x100937af496b5a87ba40c
@[go_sem] def vW:=k 0x3866bf92442c
@[go_sem] def eE:=k 0x8aba5828843d56ec
@[go_sem] def eF:=k 0xe89bc08ab0739b25151796cd6fbeb54df9adad
def KR:TF:=⟨34,[.t 4],(.seq (.reg vO) (.seq (.reg vP) (.seq (.seq (.reg vQ) (.block 0 (.loop Qz))) (.seq (.reg vU) (.seq (.reg vV) (.seq (.seq (.reg vW) (.cond (.t 25) (.reg eE) .skip)) (.seq (.reg eF) .ret)))))))⟩
/-! slices.Clip[[]byte,byte] -/
@[go_sem] def vX:=k 0xa220
@[go_sem] def vY:=k 0xe32667bf88aefd8c6f33eaf5f98fac1674c
def KT:TF:=⟨9,[.t 2],(.seq (.reg vX) (.seq (.reg vY) .ret))⟩
/-! (*horarium/code.Reader).Text -/
@[go_sem] def vZ:=k 0x12dc4
@[go_sem] def wA:=k 0x91b0664736bf17123bdc2a79a5b4d23753a51fda806f0b1910ec22c
@[go_sem] def wB:=k 0x9dbe935bcd5750a5a4a3388aa4a930d23d830ed2c
@[go_sem] def wC:=k 0x126c04465baec9f53182c
@[go_sem] def wD:=k 0x12dc4
@[go_sem] def wE:=k 0x13e4cfaa71bfa5a4378bbf74279fc4d5cc51e1ba53d0705909684d
@[go_sem] def wF:=k 0x2a615fcd290ad
def KU:TF:=⟨37,[.t 4],(.seq (.reg vZ) (.seq (.reg wA) (.seq (.seq (.reg wB) (.cond (.t 23) (.seq (.reg wC) (.seq (.reg wD) .ret)) .skip)) (.seq (.reg wE) (.seq (.reg wF) .ret)))))⟩
/-! horarium/code.Get -/
@[go_sem] def wG:=k 0x681a1f8
@[go_sem] def wH:=k 0x32f2d4aebc1d078c
@[go_sem] def wI:=k 0x681a1f8
@[go_sem] def wJ:=k 0x68b5314bddcdd4fa6c7660f0ced7ac
@[go_sem] def wK:=k 0x965b8e822262b37e7700f12e09d07561f93a0628c
@[go_sem] def wL:=k 0x681a1f8
@[go_sem] def wM:=k 0x17430
@[go_sem] def wN:=k 0x5250c0233deb3a8d6cddb8575d8c
@[go_sem] def wO:=k 0x2188f9e8
@[go_sem] def wP:=k 0x2a2da193afd66f91375
@[go_sem] def eG:=k 0xf72268c3d3f314f7e70e5f3f5d5405ed
@[go_sem] def eH:=k 0xb987f9c6b000e1
def Mn:TC:=(.seq (.reg wO) (.seq (.cond (.t 31) .skip (.exit 0)) (.seq (.block 1 (.seq (.reg wP) (.reg eG))) (.reg eH))))
@[go_sem] def eI:=k 0xd18d19d993e6da62d
@[go_sem] def eJ:=k 0x3ccf489b9abb43933978ed
@[go_sem] def eK:=k 0xf01ebfaece9154e6d
@[go_sem] def eL:=kd 0x94cb0800e3f0930b5d669eea3f05d05d34b8a826be19d
@[go_sem] def eM:=k 0x681a1f8
@[go_sem] def eN:=k 0x56ce54a65b4c8d06b9c687dc042d
def KV:TF:=⟨59,[.t 2,.t 3],(.seq (.reg wG) (.seq (.seq (.reg wH) (.cond (.t 11) (.seq (.reg wI) .ret) .skip)) (.seq (.reg wJ) (.seq (.seq (.reg wK) (.cond (.t 24) (.seq (.reg wL) .ret) .skip)) (.seq (.reg wM) (.seq (.seq (.reg wN) (.block 0 (.loop Mn))) (.seq (.reg eI) (.seq (.seq (.reg eJ) (.cond (.t 45) (.reg eK) .skip)) (.seq (.seq (.dreg eL) (.cond (.t 55) (.seq (.reg eM) .ret) .skip)) (.seq (.reg eN) .ret))))))))))⟩
/-! (*horarium/cursor.Cursor).down -/
@[go_sem] def wQ:=k 0x44ac580d979dc21258bf25ea034a2a7e1179f9453bd269b537190a5b5ed61df2912a2935a485c5d85437188e859d2d7dacac
@[go_sem] def wR:=kd 0xe95b10f2b1e5a367739a8dc0302f3c2572eba3423287ce0c561bd4be2787f8d1e78d11da7a1d219b92379149643f04cc5104554346e6bef9d
@[go_sem] def wS:=k 0x3811d145080a25d164d
def VC:TC:=(.seq (.seq (.reg wQ) (.cond (.t 23) .skip (.exit 0))) (.block 1 (.seq (.dreg wR) (.reg wS))))
@[go_sem] def wT:=k 0x48ee01ab1e644a1d37f3ec9e490d
def KW:TF:=⟨49,[],(.seq (.block 0 (.loop VC)) (.reg wT))⟩
/-! horarium/node.kids -/
@[go_sem] def wU:=k 0x6815cd0
@[go_sem] def wV:=k 0x31cdbc10da4d7f8bd5d34cb5e73e896d2e689719a3930ecdb346c7d8e9ce591575940c1a4d8b0
@[go_sem] def wW:=k 0xa2b8
@[go_sem] def wX:=k 0x2f39f98f0cfe46149f2e37e449a90344ca9326047596a808b55e5e25921eca66b5f73e7da3f0
@[go_sem] def wY:=k 0x2defb0c787a269d060799d5d1
@[go_sem] def wZ:=k 0xa1f8
@[go_sem] def xA:=k 0x57e55a35ce551d889d9e56d91507c8f139c14373e4d1979aeb51
@[go_sem] def xB:=k 0x3816e98b4d2c0491651
@[go_sem] def xC:=k 0x4340205685a19ba37639de671
@[go_sem] def xD:=k 0x94df8
@[go_sem] def eO:=k 0xa2b8
def KX:TF:=⟨49,[.t 2],(.seq (.reg wU) (.seq (.block 0 (.seq (.reg wV) (.cond (.t 3) (.seq (.reg wW) .ret) (.seq (.seq (.reg wX) (.cond (.t 17) .skip (.reg wY))) (.cond (.t 17) (.seq (.reg wZ) .ret) (.seq (.reg xA) (.cond (.t 34) (.seq (.reg xB) .ret) (.seq (.reg xC) (.cond (.t 45) (.seq (.reg xD) .ret) .skip))))))))) (.seq (.reg eO) .ret)))⟩
/-! horarium/node.times -/
@[go_sem] def xE:=k 0x12cb8
@[go_sem] def xF:=k 0x3b485b6c2b1b1ae0a5a5f387da720c
def KY:TF:=⟨10,[.t 4],(.seq (.reg xE) (.seq (.reg xF) .ret))⟩
/-! horarium/node.add -/
@[go_sem] def xG:=k 0x12cb8
@[go_sem] def xH:=k 0x3b485b6c2b100c0cccb9c48f25f20c
def KZ:TF:=⟨10,[.t 4],(.seq (.reg xG) (.seq (.reg xH) .ret))⟩
/-! horarium/horariumref3.fine -/
@[go_sem] def xI:=k 0x1042dcd0
@[go_sem] def xJ:=k 0x70d82f99350
@[go_sem] def xK:=k 0x1cfbe64706384
@[go_sem] def xL:=k 0x1d7e0d57bec80cd1e57f465971d2a9218fa55b1e83489d380871b6225ca0edecd0cee61028d0
@[go_sem] def xM:=k 0x65b03fffd2024
@[go_sem] def xN:=k 0x6a637900ebd84
@[go_sem] def xO:=k 0xf8911a3359680530966cfb56eda6a920c8a21b95dce147ed0
@[go_sem] def xP:=k 0x98b4373a14cb45
@[go_sem] def xQ:=k 0x22d1e0849973f6f268094641183c861a4771ae7565b667e204b3edd9e7991b472e72c456fd3f06091
@[go_sem] def xR:=k 0xa21c
def K0:TF:=⟨46,[.t 2],(.seq (.reg xI) (.seq (.seq (.reg xJ) (.block 0 (.seq (.reg xK) (.cond (.t 5) (.seq (.reg xL) .ret) (.seq (.seq (.reg xM) (.cond (.t 20) .skip (.reg xN))) (.cond (.t 20) (.seq (.reg xO) .ret) (.seq (.reg xP) (.cond (.t 31) (.seq (.reg xQ) .ret) .skip)))))))) (.seq (.reg xR) .ret)))⟩
/-! slices.IndexFunc[[]horarium/api.Run,horarium/api.Run] -/
@[go_sem] def xS:=k 0x12cb8
@[go_sem] def xU:=k 0xe8a7ff0376c
@[go_sem] def xV:=k 0x8eb3ba8
@[go_sem] def xW:=k 0x17e46548acec
@[go_sem] def xX:=k 0x4a6ee4c170dfbc60ea340654cc3e4c
@[go_sem] def xY:=k 0x2844dfcc8e8c
@[go_sem] def xZ:=k 0x55d35fe49a400
def VD:TC:=(.seq (.reg xV) (.seq (.cond (.t 9) .skip (.exit 0)) (.seq (.block 1 (.seq (.reg xW) (.seq (.reg xX) (.cond (.t 16) (.seq (.reg xY) .ret) .skip)))) (.reg xZ))))
@[go_sem] def yA:=k 0x12d78
def K1:TF:=⟨19,[.t 4],(.seq (.reg xS) (.seq (.seq (.reg xU) (.block 0 (.loop VD))) (.seq (.reg yA) .ret)))⟩
/-! horarium/horariumref1.Cut -/
@[go_sem] def yB:=k 0x3535c4
@[go_sem] def yC:=k 0x151aaf700f9215d8f8c1237db5b8ec4e878c
@[go_sem] def yD:=k 0x736c41d1cd7e0175b4c7caa681e17fb9a852468c8f6affa8e995ecdb4bb5f2c83ddcbe399d0f41819f88ddcfcac81d10c
@[go_sem] def yE:=k 0x3535c4
@[go_sem] def yF:=k 0x6be967d896716f28db4345a52e66f1ecf4485958fb34c09c5e2f1cbdc1fac32d
def K3:TF:=⟨42,[.t 4,.t 5],(.seq (.reg yB) (.seq (.reg yC) (.seq (.seq (.reg yD) (.cond (.t 31) (.seq (.reg yE) .ret) .skip)) (.seq (.reg yF) .ret))))⟩
/-! slices.IndexFunc[[]horarium/api.Part,horarium/api.Part] -/
@[go_sem] def yG:=k 0x12cb8
@[go_sem] def yH:=k 0xe8a7ff0376c
@[go_sem] def yI:=k 0x8eb3ba8
@[go_sem] def yJ:=k 0x17e46548acec
@[go_sem] def yK:=k 0x4a6ee4c181712d3a42cc0b54cc3e4c
@[go_sem] def yL:=k 0x2844dfcc8e8c
@[go_sem] def yM:=k 0x55d35fe49a400
def VE:TC:=(.seq (.reg yI) (.seq (.cond (.t 9) .skip (.exit 0)) (.seq (.block 1 (.seq (.reg yJ) (.seq (.reg yK) (.cond (.t 16) (.seq (.reg yL) .ret) .skip)))) (.reg yM))))
@[go_sem] def yN:=k 0x12d78
def K4:TF:=⟨19,[.t 4],(.seq (.reg yG) (.seq (.seq (.reg yH) (.block 0 (.loop VE))) (.seq (.reg yN) .ret)))⟩
/-! horarium/config.procs -/
@[go_sem] def yO:=k 0xa21c
@[go_sem] def yP:=k 0xe77b30bf20c
@[go_sem] def yQ:=k 0x7ccca48
@[go_sem] def yR:=k 0x5fbb7ea628ba0bc2abbf0
@[go_sem] def yS:=k 0x22edc3a9781d564b78bef6202bf6d2e03282e9413b6715c250
@[go_sem] def yT:=k 0xa21c
@[go_sem] def yU:=k 0x63c7710b4f420
def VF:TC:=(.seq (.reg yQ) (.seq (.cond (.t 8) .skip (.exit 0)) (.seq (.block 1 (.seq (.reg yR) (.seq (.reg yS) (.cond (.t 20) (.seq (.reg yT) .ret) .skip)))) (.reg yU))))
@[go_sem] def yV:=k 0x3c13492c17089ac6ca790edf8e6f0ec5030e7a146b48d6c
def K5:TF:=⟨30,[.t 2],(.seq (.reg yO) (.seq (.seq (.reg yP) (.block 0 (.loop VF))) (.seq (.reg yV) .ret)))⟩
/-! horarium/config.within -/
@[go_sem] def yW:=k 0x12cdc
@[go_sem] def yX:=k 0xa9d1301790f31f9b3cbaad1b0434af8483e8c7f20c
def K6:TF:=⟨12,[.t 4],(.seq (.reg yW) (.seq (.reg yX) .ret))⟩
/-! horarium/config.table$1 -/
@[go_sem] def yY:=k 0x10432230
@[go_sem] def yZ:=k 0x2005544845443f7d4745b85179a7edf8284b0
def K7:TF:=⟨10,[.t 3],(.seq (.reg yY) (.seq (.reg yZ) .ret))⟩
/-! horarium/code.great -/
@[go_sem] def zA:=k 0xa410
@[go_sem] def zB:=k 0x70ce903e74c
@[go_sem] def zC:=k 0x4e1fa1443a844b6ef20c
@[go_sem] def zD:=k 0x2e399aae791bc22c
def K8:TF:=⟨10,[.t 2],(.seq (.reg zA) (.seq (.seq (.reg zB) (.cond (.t 4) (.seq (.reg zC) .ret) .skip)) (.seq (.reg zD) .ret)))⟩
/-! slices.Reverse[[]byte,byte] -/
@[go_sem] def zE:=k 0x11f62c2b966daad433a4a7acac
@[go_sem] def zF:=k 0x24f0154d66ffd4cc
@[go_sem] def zG:=kd 0x1b8da76220f272f3dc04ede777a6100d1df6cd534575b5fbc79b245697f584c5f96685c9f1292728ee6401c
@[go_sem] def zH:=k 0xa8bb4fcf4e76a6f136cd31a22a424ec
def VG:TC:=(.seq (.seq (.reg zF) (.cond (.t 9) .skip (.exit 0))) (.seq (.block 1 (.dreg zG)) (.reg zH)))
def K9:TF:=⟨28,[],(.seq (.reg zE) (.block 0 (.loop VG)))⟩
/-! horarium/code.Cut -/
@[go_sem] def zI:=k 0x3535c4
@[go_sem] def zJ:=k 0x151aaf700f9215d8f8c1237db5b8f3e5078c
@[go_sem] def zK:=k 0x240e0c9d71c8c7b741430536bdcc8497799b1a42a7f284f74fb08e5199d0f41819f88ddcfcac81d10c
@[go_sem] def zL:=k 0x3535c4
@[go_sem] def zM:=k 0x6404113afa515a68fea2ad70336aaad821592eb849a7873c57769cbdc1f9f30d
def La:TF:=⟨39,[.t 4,.t 5],(.seq (.reg zI) (.seq (.reg zJ) (.seq (.seq (.reg zK) (.cond (.t 28) (.seq (.reg zL) .ret) .skip)) (.seq (.reg zM) .ret))))⟩
def aH9:Nat→Option TF
 | 9=>some bV
 | 12=>some bW
 | 14=>some bX
 | 15=>some bZ
 | 17=>some cA
 | 21=>some cB
 | 29=>some Ss
 | 35=>some Su
 | 36=>some cC
 | 37=>some cD
 | 38=>some OK
 | 39=>some OL
 | 40=>some OM
 | 41=>some ON
 | 42=>some OO
 | 43=>some OP
 | 44=>some OQ
 | 45=>some OS
 | 46=>some OT
 | 47=>some OU
 | 48=>some OV
 | 49=>some OW
 | 50=>some OX
 | 51=>some OY
 | 54=>some OZ
 | 55=>some O0
 | 56=>some O1
 | 57=>some O2
 | 58=>some O3
 | 59=>some O4
 | 60=>some O5
 | 61=>some O6
 | 80=>some O7
 | 81=>some O8
 | 82=>some O9
 | 83=>some Pa
 | 84=>some Pb
 | 85=>some Pc
 | 86=>some Pd
 | 87=>some Pe
 | 88=>some Pg
 | 89=>some Ph
 | 90=>some Pi
 | 91=>some Pj
 | 92=>some Pk
 | 93=>some Pl
 | 94=>some Pm
 | 95=>some Lb
 | 96=>some Pn
 | 97=>some Po
 | 98=>some Pp
 | 107=>some Pq
 | 108=>some Pr
 | 109=>some Pt
 | 110=>some Pu
 | 111=>some Pv
 | 112=>some Il
 | 113=>some Pw
 | 129=>some Px
 | 130=>some Py
 | 131=>some Pz
 | 132=>some PA
 | 133=>some PB
 | 134=>some PC
 | 135=>some PD
 | 136=>some PE
 | 137=>some PF
 | 138=>some PG
 | 139=>some PH
 | 140=>some PI
 | 141=>some PJ
 | 142=>some PK
 | 143=>some PL
 | 144=>some PM
 | 145=>some PN
 | 146=>some PP
 | 147=>some PQ
 | 148=>some PS
 | 149=>some PT
 | 150=>some PU
 | 151=>some PV
 | 152=>some PX
 | 153=>some PY
 | 154=>some PZ
 | 155=>some P6
 | 156=>some P7
 | 157=>some P8
 | 165=>some P9
 | 166=>some Qa
 | 167=>some Qb
 | 168=>some Qc
 | 169=>some Qd
 | 170=>some Qe
 | 178=>some Qf
 | 184=>some Qg
 | 185=>some Qh
 | 186=>some Qi
 | 187=>some Qj
 | 188=>some Qk
 | 189=>some Ql
 | 190=>some KK
 | 191=>some KL
 | 192=>some KM
 | 193=>some KN
 | 194=>some KO
 | 195=>some KP
 | 196=>some KQ
 | 197=>some KR
 | 198=>some KT
 | 199=>some KU
 | 200=>some KV
 | 201=>some KW
 | 203=>some KX
 | 204=>some KY
 | 205=>some KZ
 | 206=>some K0
 | 209=>some K1
 | 211=>some K3
 | 212=>some K4
 | 213=>some K5
 | 214=>some K6
 | 215=>some K7
 | 216=>some K8
 | 217=>some K9
 | 218=>some La
 | _=>none
def aIa:Nat→String→Option eD:=fun _ _=>none
def tp:TP:=⟨aH9,aIa⟩
theorem aUB:tp.fn aUK=some bV:=rfl
theorem aUC:tp.fn kW=some bW:=rfl
theorem aUD:tp.fn aG7=some bX:=rfl
theorem aUE:tp.fn aG8=some bZ:=rfl
theorem aUF:tp.fn aG9=some cA:=rfl
theorem aUG:tp.fn aHa=some cB:=rfl
theorem tA:tp.fn YY=some Ss:=rfl
theorem tB:tp.fn aHb=some Su:=rfl
theorem aUH:tp.fn aHc=some cC:=rfl
theorem aUI:tp.fn aHd=some cD:=rfl
theorem aFD:tp.fn Yk=some OK:=rfl
theorem aFE:tp.fn Yl=some OL:=rfl
theorem aFF:tp.fn Ym=some OM:=rfl
theorem aFG:tp.fn LR=some ON:=rfl
theorem aFH:tp.fn Yn=some OO:=rfl
theorem aFI:tp.fn Yo=some OP:=rfl
theorem aFJ:tp.fn SZ=some OQ:=rfl
theorem aFK:tp.fn Yp=some OS:=rfl
theorem aFL:tp.fn Yq=some OT:=rfl
theorem aFM:tp.fn NI=some OU:=rfl
theorem aFN:tp.fn S0=some OV:=rfl
theorem aFO:tp.fn S1=some OW:=rfl
theorem aFP:tp.fn Yr=some OX:=rfl
theorem aFQ:tp.fn Ys=some OY:=rfl
theorem aFR:tp.fn Yt=some OZ:=rfl
theorem aFS:tp.fn Yu=some O0:=rfl
theorem aFT:tp.fn Yv=some O1:=rfl
theorem aFU:tp.fn Yw=some O2:=rfl
theorem aFV:tp.fn Yx=some O3:=rfl
theorem aFW:tp.fn Yy=some O4:=rfl
theorem aFX:tp.fn Yz=some O5:=rfl
theorem aFY:tp.fn YA=some O6:=rfl
theorem aFZ:tp.fn YB=some O7:=rfl
theorem aF0:tp.fn NJ=some O8:=rfl
theorem aF1:tp.fn YC=some O9:=rfl
theorem aF2:tp.fn YD=some Pa:=rfl
theorem aF3:tp.fn YE=some Pb:=rfl
theorem aF4:tp.fn YF=some Pc:=rfl
theorem aF5:tp.fn YG=some Pd:=rfl
theorem aF6:tp.fn YH=some Pe:=rfl
theorem aF7:tp.fn S3=some Pg:=rfl
theorem aF8:tp.fn YI=some Ph:=rfl
theorem aF9:tp.fn S4=some Pi:=rfl
theorem aGa:tp.fn YJ=some Pj:=rfl
theorem aGb:tp.fn YK=some Pk:=rfl
theorem aGc:tp.fn YL=some Pl:=rfl
theorem aGd:tp.fn YM=some Pm:=rfl
theorem X7:tp.fn Kk=some Lb:=rfl
theorem aGe:tp.fn YN=some Pn:=rfl
theorem aGf:tp.fn YO=some Po:=rfl
theorem aGg:tp.fn YP=some Pp:=rfl
theorem aGh:tp.fn YQ=some Pq:=rfl
theorem aGi:tp.fn YR=some Pr:=rfl
theorem aGj:tp.fn YS=some Pt:=rfl
theorem aGk:tp.fn YT=some Pu:=rfl
theorem aGl:tp.fn YU=some Pv:=rfl
theorem Rj:tp.fn Kl=some Il:=rfl
theorem aGm:tp.fn YV=some Pw:=rfl
theorem aGn:tp.fn YW=some Px:=rfl
theorem aGo:tp.fn YX=some Py:=rfl
theorem aGp:tp.fn Jh=some Pz:=rfl
theorem aGq:tp.fn S5=some PA:=rfl
theorem aGr:tp.fn S6=some PB:=rfl
theorem aGs:tp.fn S7=some PC:=rfl
theorem aGt:tp.fn YZ=some PD:=rfl
theorem aGu:tp.fn Y0=some PE:=rfl
theorem aGv:tp.fn Y1=some PF:=rfl
theorem aGw:tp.fn Y2=some PG:=rfl
theorem aGx:tp.fn Y3=some PH:=rfl
theorem aGy:tp.fn Y4=some PI:=rfl
theorem aGz:tp.fn NK=some PJ:=rfl
theorem aGA:tp.fn Y5=some PK:=rfl
theorem aGB:tp.fn Y6=some PL:=rfl
theorem aGC:tp.fn Y7=some PM:=rfl
theorem aGD:tp.fn Ji=some PN:=rfl
theorem aGE:tp.fn S8=some PP:=rfl
theorem aGF:tp.fn S9=some PQ:=rfl
theorem aGG:tp.fn Ta=some PS:=rfl
theorem aGH:tp.fn Y8=some PT:=rfl
theorem aGI:tp.fn Tb=some PU:=rfl
theorem aGJ:tp.fn Y9=some PV:=rfl
theorem aGK:tp.fn Tc=some PX:=rfl
theorem aGL:tp.fn Za=some PY:=rfl
theorem aGM:tp.fn Zb=some PZ:=rfl
theorem aGN:tp.fn Zc=some P6:=rfl
theorem aGO:tp.fn Zd=some P7:=rfl
theorem aGP:tp.fn Ze=some P8:=rfl
theorem aGQ:tp.fn Zf=some P9:=rfl
theorem aGR:tp.fn Zg=some Qa:=rfl
theorem aGS:tp.fn Td=some Qb:=rfl
theorem aGT:tp.fn NL=some Qc:=rfl
theorem aGU:tp.fn NM=some Qd:=rfl
theorem aGV:tp.fn Zh=some Qe:=rfl
theorem aGW:tp.fn Zi=some Qf:=rfl
theorem aGX:tp.fn Zj=some Qg:=rfl
theorem aGY:tp.fn Zk=some Qh:=rfl
theorem aGZ:tp.fn Zl=some Qi:=rfl
theorem aG0:tp.fn Te=some Qj:=rfl
theorem aG1:tp.fn Zm=some Qk:=rfl
theorem aG2:tp.fn Zn=some Ql:=rfl
theorem jW:tp.fn Rm=some KK:=rfl
theorem jX:tp.fn Rn=some KL:=rfl
theorem jY:tp.fn Ro=some KM:=rfl
theorem jZ:tp.fn Rp=some KN:=rfl
theorem kA:tp.fn Rq=some KO:=rfl
theorem kB:tp.fn Rr=some KP:=rfl
theorem kC:tp.fn Rt=some KQ:=rfl
theorem kD:tp.fn IE=some KR:=rfl
theorem kE:tp.fn Ru=some KT:=rfl
theorem kF:tp.fn MO=some KU:=rfl
theorem kG:tp.fn Rv=some KV:=rfl
theorem kH:tp.fn Kj=some KW:=rfl
theorem kI:tp.fn Rx=some KX:=rfl
theorem kJ:tp.fn Ry=some KY:=rfl
theorem kK:tp.fn Rz=some KZ:=rfl
theorem kL:tp.fn RA=some K0:=rfl
theorem kM:tp.fn RC=some K1:=rfl
theorem kN:tp.fn RD=some K3:=rfl
theorem kO:tp.fn RE=some K4:=rfl
theorem kP:tp.fn RF=some K5:=rfl
theorem kQ:tp.fn IG=some K6:=rfl
theorem kR:tp.fn RG=some K7:=rfl
theorem kS:tp.fn RH=some K8:=rfl
theorem kT:tp.fn RI=some K9:=rfl
theorem kU:tp.fn RJ=some La:=rfl
end Go.Ab.T
