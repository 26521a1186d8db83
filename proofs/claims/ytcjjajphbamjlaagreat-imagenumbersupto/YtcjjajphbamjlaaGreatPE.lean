/- Part of a proof that a law returns true for every input of the second form's bound (no other condition). -/
import Derived.Test.YtcjjajphbamjlaaGreatPD
set_option linter.all false
/- The abstract machine's text of the functions, its regions as numbers. Written by a tool. -/
namespace Go.Ab.T
open Go Go.Ab
set_option maxRecDepth 100000
abbrev aUh:Nat:=8
abbrev jA:Nat:=12
abbrev aGO:Nat:=14
abbrev aGP:Nat:=15
abbrev aGQ:Nat:=17
abbrev aGR:Nat:=21
abbrev Yf:Nat:=29
abbrev aGS:Nat:=34
abbrev aGT:Nat:=35
abbrev aGU:Nat:=36
abbrev XB:Nat:=37
abbrev XC:Nat:=38
abbrev XD:Nat:=39
abbrev XE:Nat:=40
abbrev Nh:Nat:=41
abbrev XF:Nat:=43
abbrev Ss:Nat:=44
abbrev XG:Nat:=45
abbrev XH:Nat:=46
abbrev Ni:Nat:=47
abbrev Su:Nat:=48
abbrev Sv:Nat:=49
abbrev XI:Nat:=50
abbrev XJ:Nat:=51
abbrev XK:Nat:=54
abbrev XL:Nat:=55
abbrev XM:Nat:=56
abbrev XN:Nat:=57
abbrev XO:Nat:=58
abbrev XP:Nat:=59
abbrev XQ:Nat:=60
abbrev XR:Nat:=61
abbrev XS:Nat:=80
abbrev Nj:Nat:=81
abbrev XT:Nat:=82
abbrev XU:Nat:=83
abbrev XV:Nat:=84
abbrev XW:Nat:=85
abbrev XX:Nat:=86
abbrev XY:Nat:=87
abbrev Sw:Nat:=88
abbrev XZ:Nat:=89
abbrev Sx:Nat:=90
abbrev X0:Nat:=91
abbrev X1:Nat:=92
abbrev X2:Nat:=93
abbrev X3:Nat:=94
abbrev J0:Nat:=95
abbrev X4:Nat:=96
abbrev X5:Nat:=97
abbrev X6:Nat:=98
abbrev X7:Nat:=107
abbrev X8:Nat:=108
abbrev X9:Nat:=109
abbrev Ya:Nat:=110
abbrev Yb:Nat:=111
abbrev J1:Nat:=112
abbrev Yc:Nat:=113
abbrev Yd:Nat:=129
abbrev Ye:Nat:=130
abbrev IW:Nat:=131
abbrev Sy:Nat:=132
abbrev Sz:Nat:=133
abbrev SA:Nat:=134
abbrev Yg:Nat:=135
abbrev Yh:Nat:=136
abbrev Yi:Nat:=137
abbrev Yj:Nat:=138
abbrev Yk:Nat:=139
abbrev Yl:Nat:=140
abbrev Nk:Nat:=141
abbrev Ym:Nat:=142
abbrev Yn:Nat:=143
abbrev Yo:Nat:=144
abbrev IX:Nat:=145
abbrev SB:Nat:=146
abbrev SC:Nat:=147
abbrev SD:Nat:=148
abbrev Yp:Nat:=149
abbrev SE:Nat:=150
abbrev Yq:Nat:=151
abbrev SF:Nat:=152
abbrev Yr:Nat:=153
abbrev Ys:Nat:=154
abbrev Yt:Nat:=155
abbrev Yu:Nat:=156
abbrev Yv:Nat:=157
abbrev Yw:Nat:=165
abbrev Yx:Nat:=166
abbrev SG:Nat:=167
abbrev Nl:Nat:=168
abbrev Nm:Nat:=169
abbrev Yy:Nat:=170
abbrev Yz:Nat:=178
abbrev YA:Nat:=184
abbrev YB:Nat:=185
abbrev YC:Nat:=186
abbrev SH:Nat:=187
abbrev YD:Nat:=188
abbrev YE:Nat:=189
abbrev QU:Nat:=190
abbrev QV:Nat:=191
abbrev QW:Nat:=192
abbrev QX:Nat:=193
abbrev QY:Nat:=194
abbrev QZ:Nat:=195
abbrev Q0:Nat:=196
abbrev Im:Nat:=197
abbrev Q1:Nat:=198
abbrev Mq:Nat:=199
abbrev Q2:Nat:=200
abbrev JZ:Nat:=201
abbrev Q3:Nat:=203
abbrev Q4:Nat:=204
abbrev Q5:Nat:=205
abbrev Q6:Nat:=206
abbrev Q7:Nat:=209
abbrev Q8:Nat:=211
abbrev Q9:Nat:=212
abbrev Ra:Nat:=213
abbrev Io:Nat:=214
abbrev Rb:Nat:=215
abbrev Re:Nat:=216
abbrev Rf:Nat:=217
abbrev Rg:Nat:=218
def wrs:List Nat:=[Ni,Yf,Su,Sv,jA,JZ,SF,J0,SE,SD,IX,SC,Mq,SB,Sx,SA,IW,SH,Sy,Sz]
def rV {α:Type} (z:α):List α→Nat→α
 | [],_=>z
 | x::_,0=>x
 | _::l,n+1=>rV z l n
def Dm:Nat→Int:=rV 0 [0,1,2,3,4,5,6,7,8,9,10,11,12,13,14,15,16,17,18,19,20,21,22,23,24,25,26,27,28,29,30,31]
def aWL:List ((Nat→Nat)→O):=[fun p=>.mv (.t (p 0)),
fun p=>.fad (p 0) (.t (p 1)),
fun p=>.load 1 false (.t (p 0)),
fun p=>.mv (.c (.i .i64 (Dm (p 0)))),
fun p=>.len (.t (p 0)),
fun p=>.bin .add (.t (p 0)) (.c (.i .i64 (Dm (p 1)))),
fun p=>.bin .eql (.t (p 0)) (.c (.i .i64 (Dm (p 1)))),
fun p=>.bin .lss (.t (p 0)) (.t (p 1)),
fun p=>.nck (.t (p 0)),
fun p=>.pick (.t (p 0)) (.c (.b true)) (.t (p 1)),
fun p=>.store 1 (.t (p 0)) (.t (p 1)),
fun p=>.mv (.c (.b false)),
fun p=>.pick (.t (p 0)) (.t (p 1)) (.c (.b false)),
fun p=>.mv (.c .ns),
fun p=>.bin .lss (.t (p 0)) (.c (.i .i64 (Dm (p 1)))),
fun p=>.load 3 true (.t (p 0)),
fun p=>.bin .sub (.t (p 0)) (.c (.i .i64 (Dm (p 1)))),
fun p=>.un .not (.t (p 0)),
fun p=>.iad 1 (.t (p 0)) (.t (p 1)),
fun p=>.bin .gtr (.t (p 0)) (.c (.i .i64 (Dm (p 1)))),
fun p=>.box (.t (p 0)),
fun p=>.bin .add (.t (p 0)) (.t (p 1)),
fun p=>.ext (.t (p 0)) 0,
fun p=>.ext (.t (p 0)) 1]
def aWM:List ((Nat→Nat)→O):=[fun p=>.store 3 (.t (p 0)) (.t (p 1)),
fun p=>.app 1 (.t (p 0)) (.t (p 1)),
fun p=>.iad 2 (.t (p 0)) (.t (p 1)),
fun p=>.iad 3 (.t (p 0)) (.t (p 1)),
fun p=>.call (.fn Ni) [(.t (p 0)),(.c (.i .i64 (Dm (p 1))))],
fun p=>.load 2 true (.t (p 0)),
fun p=>.call (.fn Nj) [(.t (p 0)),(.t (p 1))],
fun p=>.store 2 (.t (p 0)) (.t (p 1)),
fun p=>.bin .neq (.t (p 0)) (.t (p 1)),
fun p=>.alloc [.ns,.ns,.ns],
fun p=>.bin .neq (.t (p 0)) (.c (.i .i64 (Dm (p 1)))),
fun p=>.alloc [(.i .i64 0),(.i .i64 0)],
fun p=>.bin .geq (.t (p 0)) (.c (.i .i64 (Dm (p 1)))),
fun p=>.iad 6 (.t (p 0)) (.t (p 1)),
fun p=>.chk 1 false (.t (p 0)) (.t (p 1)),
fun p=>.iad 11 (.t (p 0)) (.t (p 1)),
fun p=>.bin .add (.c (.i .i64 (Dm (p 0)))) (.t (p 1)),
fun p=>.load 11 true (.t (p 0)),
fun p=>.load 6 true (.t (p 0)),
fun p=>.bin .eql (.t (p 0)) (.t (p 1)),
fun p=>.bin .geq (.t (p 0)) (.t (p 1)),
fun p=>.call (.fn IW) [(.t (p 0)),(.c (.i .i64 (Dm (p 1)))),(.c (.i .i64 (Dm (p 2))))],
fun p=>.e0,
fun p=>.fload 1 false (.t (p 0))]
def aWN:List ((Nat→Nat)→O):=[fun p=>.bsl 2 [(.i .i64 0),(.i .i64 0)] 1 [(0,(.t (p 0)))],
fun p=>.app 2 (.t (p 0)) (.t (p 1)),
fun p=>.conv .u8 (.t (p 0)),
fun p=>.bin .sub (.t (p 0)) (.t (p 1)),
fun p=>.mv (.c (.i .i64 (-1))),
fun p=>.slice 1 (.t (p 0)) none (some (.t (p 1))) none,
fun p=>.alloc [(.s ⟨#[]⟩),(.i .i64 0),(.i .i64 0),(.b false),(.b false),.ns,(.i .i64 0),(.i .i64 0),(.i .i64 0),(.i .i64 0),(.i .i64 0)],
fun p=>.store 11 (.t (p 0)) (.t (p 1)),
fun p=>.store 6 (.t (p 0)) (.t (p 1)),
fun p=>.mv (.c (.b true)),
fun p=>.b2s (.t (p 0)),
fun p=>.call (.fn Nk) [(.t (p 0)),(.t (p 1))],
fun p=>.call (.fn IX) [(.t (p 0)),(.c (.i .i64 (Dm (p 1))))],
fun p=>.bin .gtr (.t (p 0)) (.t (p 1)),
fun p=>.app 6 (.t (p 0)) (.t (p 1)),
fun p=>.alloc [(.i .i64 0),(.i .i64 0),(.b false),(.i .i64 0),(.i .u32 0),(.i .i64 0)],
fun p=>.bsl 3 [(.i .i64 0),(.i .i64 0),(.i .i64 0)] 1 [(0,(.t (p 0)))],
fun p=>.bsl 1 [(.i .i64 0)] 1 [(0,(.t (p 0)))],
fun p=>.bin .and (.t (p 0)) (.c (.i .i64 (Dm (p 1)))),
fun p=>.iad 1 (.t (p 0)) (.c (.i .i64 (Dm (p 1)))),
fun p=>.build [.ns,.ns,.ns] [],
fun p=>.slen (.t (p 0)),
fun p=>.mv (.c (.s ⟨#[]⟩)),
fun p=>.build [(.i .i64 0),(.i .i64 0)] [(0,1,(.t (p 0))),(1,1,(.t (p 1)))]]
def aWO:List ((Nat→Nat)→O):=[fun p=>.bin .rem (.t (p 0)) (.t (p 1)),
fun p=>.bsl 6 [(.i .i64 0),(.i .i64 0),(.b false),(.i .i64 0),(.i .u32 0),(.i .i64 0)] 1 [(0,(.t (p 0)))],
fun p=>.app 3 (.t (p 0)) (.t (p 1)),
fun p=>.mx [(.t (p 0)),(.t (p 1))],
fun p=>.conv .u64 (.t (p 0)),
fun p=>.call (.fn XD) [(.t (p 0))],
fun p=>.bsl 1 [.ns] 1 [(0,(.t (p 0)))],
fun p=>.load 5 true (.t (p 0)),
fun p=>.conv .i64 (.t (p 0)),
fun p=>.store 1 (.t (p 0)) (.c (.b true)),
fun p=>.sidx (.t (p 0)) (.t (p 1)),
fun p=>.call (.fn XC) [(.t (p 0))],
fun p=>.call (.fn XF) [(.t (p 0))],
fun p=>.mn [(.t (p 0)),(.t (p 1))],
fun p=>.store 1 (.t (p 0)) (.c (.i .i64 (Dm (p 1)))),
fun p=>.call (.fn SA) [(.t (p 0))],
fun p=>.slice 1 (.t (p 0)) (some (.t (p 1))) none none,
fun p=>.call (.fn SD) [(.t (p 0))],
fun p=>.bin .leq (.t (p 0)) (.c (.i .i64 4096)),
fun p=>.mn [(.c (.i .i64 4097)),(.t (p 0))],
fun p=>.bin .xor (.t (p 0)) (.t (p 1)),
fun p=>.iada 1 5 (.t (p 0)) (.t (p 1)),
fun p=>.bsl 11 [(.s ⟨#[]⟩),(.i .i64 0),(.i .i64 0),(.b false),(.b false),.ns,(.i .i64 0),(.i .i64 0),(.i .i64 0),(.i .i64 0),(.i .i64 0)] 1 [(0,(.t (p 0)))],
fun p=>.app 11 (.t (p 0)) (.t (p 1))]
def aWP:List ((Nat→Nat)→O):=[fun p=>.call (.fn Ni) [(.t (p 0)),(.t (p 1))],
fun p=>.build [(.i .i64 0),(.i .i64 0),(.i .i64 0)] [(0,1,(.c (.i .i64 (Dm (p 0))))),(2,1,(.t (p 1)))],
fun p=>.bin .mul (.t (p 0)) (.t (p 1)),
fun p=>.call (.fn XH) [(.t (p 0))],
fun p=>.idx 1 5 false (.t (p 0)) (.t (p 1)),
fun p=>.alloc [(.i .i64 0),(.i .i64 0),(.i .i64 0)],
fun p=>.bin .shr (.t (p 0)) (.c (.i .u64 8)),
fun p=>.bin .leq (.t (p 0)) (.t (p 1)),
fun p=>.un .neg (.t (p 0)),
fun p=>.bsl 1 [(.i .u8 0)] 1 [(0,(.t (p 0)))],
fun p=>.mv (.c (.i .u32 0)),
fun p=>.bsl 1 [(.i .i64 0)] 2 [(0,(.t (p 0))),(1,(.t (p 1)))],
fun p=>.conv .u32 (.t (p 0)),
fun p=>.mn [(.t (p 0)),(.c (.i .i64 4097))],
fun p=>.bin .leq (.t (p 0)) (.c (.i .i64 (Dm (p 1)))),
fun p=>.call (.fn XB) [(.t (p 0))],
fun p=>.chkb 1 [(.i .u32 0)] 3 [(0,(.c (.i .u32 4294967295))),(1,(.c (.i .u32 200))),(2,(.c (.i .u32 3)))] (.t (p 0)),
fun p=>.chka [(.i .i64 0),(.i .i64 0),(.b false),(.i .i64 0),(.i .u32 0),(.i .i64 0)] (.t (p 0)),
fun p=>.call (.fn XS) [(.t (p 0))],
fun p=>.iad 2 (.t (p 0)) (.c (.i .i64 (Dm (p 1)))),
fun p=>.store 1 (.t (p 0)) (.c .ns),
fun p=>.build [(.i .i64 0),(.i .i64 0)] [],
fun p=>.bsl 1 [(.i .u8 0)] 4 [(0,(.c (.i .u8 72))),(1,(.c (.i .u8 79))),(2,(.c (.i .u8 82))),(3,(.c (.i .u8 65)))],
fun p=>.mark (.t (p 0))]
def aWQ:List ((Nat→Nat)→O):=[fun p=>.call (.fn XU) [(.t (p 0)),(.t (p 1))],
fun p=>.call (.fn Ss) [(.t (p 0))],
fun p=>.build [(.i .i64 0),(.i .i64 0),(.i .i64 0)] [(0,1,(.c (.i .i64 (Dm (p 0))))),(2,1,(.c (.i .i64 (Dm (p 1)))))],
fun p=>.call (.fn X1) [(.t (p 0)),(.t (p 1))],
fun p=>.call (.fn aGO) [(.t (p 0))],
fun p=>.mx [(.t (p 0)),(.c (.i .i64 (Dm (p 1))))],
fun p=>.call (.fn X8) [(.t (p 0))],
fun p=>.call (.fn Ya) [(.t (p 0))],
fun p=>.slice 1 (.t (p 0)) (some (.t (p 1))) (some (.t (p 2))) none,
fun p=>.call (.fn Yn) [(.t (p 0)),(.t (p 1))],
fun p=>.call (.fn SC) [(.t (p 0))],
fun p=>.mv (.c .np),
fun p=>.call (.fn Yr) [(.t (p 0)),(.t (p 1))],
fun p=>.call (.fn Yt) [(.t (p 0)),(.t (p 1))],
fun p=>.mx [(.c (.i .i64 (Dm (p 0)))),(.t (p 1))],
fun p=>.call (.fn Yy) [(.t (p 0)),(.t (p 1))],
fun p=>.mv (.c (.i .u64 0)),
fun p=>.bin .mul (.t (p 0)) (.c (.i .i64 (Dm (p 1)))),
fun p=>.call (.fn aGT) [(.t (p 0))],
fun p=>.bin .gtr (.t (p 0)) (.c (.i .i64 96)),
fun p=>.call (.fn XP) [(.t (p 0)),(.t (p 1))],
fun p=>.call (.fn XQ) [(.t (p 0)),(.t (p 1)),(.t (p 2))],
fun p=>.call (.fn XR) [(.t (p 0)),(.t (p 1)),(.t (p 2))],
fun p=>.build [(.i .i64 0),(.i .i64 0),(.i .i64 0)] [(0,1,(.c (.i .i64 (Dm (p 0))))),(1,1,(.t (p 1))),(2,1,(.t (p 2)))]]
def aWR:List ((Nat→Nat)→O):=[fun p=>.call (.fn Yf) [(.t (p 0)),(.t (p 1)),(.t (p 2))],
fun p=>.call (.fn Nh) [(.t (p 0)),(.c (.i .i64 (Dm (p 1)))),(.c (.i .i64 (Dm (p 2))))],
fun p=>.call (.fn XG) [(.t (p 0)),(.t (p 1))],
fun p=>.bin .shr (.t (p 0)) (.c (.i .u64 24)),
fun p=>.bin .shr (.t (p 0)) (.c (.i .u64 16)),
fun p=>.bsl 1 [(.i .u8 0)] 4 [(0,(.t (p 0))),(1,(.t (p 1))),(2,(.t (p 2))),(3,(.t (p 3)))],
fun p=>.slice 1 (.t (p 0)) (some (.c (.i .i64 (Dm (p 1))))) none none,
fun p=>.call (.fn aGP) [(.t (p 0))],
fun p=>.call (.fn XK) [(.t (p 0))],
fun p=>.bin .gtr (.t (p 0)) (.c (.i .i64 128)),
fun p=>.eq false .sl (.t (p 0)) (.c .ns),
fun p=>.bin .sub (.c (.i .i64 9223372036854775807)) (.t (p 0)),
fun p=>.mv (.c (.i .i64 9223372036854775807)),
fun p=>.call (.fn Yc) [(.t (p 0))],
fun p=>.bin .gtr (.t (p 0)) (.c (.i .u64 0)),
fun p=>.call (.fn Nj) [(.t (p 0)),(.c (.i .i64 (Dm (p 1))))],
fun p=>.build [.ns,(.b false)] [(0,1,(.t (p 0)))],
fun p=>.mv (.c (.i .u32 4294967295)),
fun p=>.un .xor (.t (p 0)),
fun p=>.call (.fn Yl) [(.t (p 0))],
fun p=>.call (.fn Yk) [(.t (p 0))],
fun p=>.call (.fn Yj) [(.t (p 0))],
fun p=>.bsl 1 [(.i .i64 0)] 3 [(0,(.t (p 0))),(1,(.t (p 1))),(2,(.t (p 2)))],
fun p=>.call (.fn Yu) [(.t (p 0))]]
def aWS:List ((Nat→Nat)→O):=[fun p=>.call (.fn Yw) [(.t (p 0))],
fun p=>.bin .gtr (.t (p 0)) (.c (.i .i64 4096)),
fun p=>.call (.fn J1) [(.t (p 0)),(.t (p 1)),(.t (p 2))],
fun p=>.call (.fn YD) [(.t (p 0))],
fun p=>.bin .shl (.t (p 0)) (.c (.i .u64 24)),
fun p=>.bin .shr (.t (p 0)) (.c (.i .u64 31)),
fun p=>.bin .shl (.t (p 0)) (.c (.i .u64 1)),
fun p=>.nck (.c .np),
fun p=>.call (.fn Im) [(.t (p 0)),(.t (p 1))],
fun p=>.call (.fn Im) [(.t (p 0)),(.c (.i .i64 (Dm (p 1))))],
fun p=>.call (.fn Q2) [(.t (p 0))],
fun p=>.eq true .b (.t (p 0)) (.t (p 1)),
fun p=>.bsl 6 [(.i .i64 0),(.i .i64 0),(.i .i64 0),(.i .i64 0),(.i .i64 0),(.i .i64 0)] 1 [(0,(.t (p 0)))],
fun p=>.call (.fn Q3) [(.t (p 0))],
fun p=>.iad 6 (.t (p 0)) (.c (.i .i64 (Dm (p 1)))),
fun p=>.call (.fn SG) [(.t (p 0)),(.t (p 1))],
fun p=>.bin .shl (.t (p 0)) (.c (.i .u64 8)),
fun p=>.bin .or (.t (p 0)) (.t (p 1)),
fun p=>.bin .geq (.t (p 0)) (.c (.i .u8 128)),
fun p=>.call (.fn Io) [(.t (p 0)),(.t (p 1))],
fun p=>.cap (.t (p 0)),
fun p=>.bin .leq (.t (p 0)) (.c (.i .i64 128)),
fun p=>.call (.t (p 0)) [(.t (p 1))],
fun p=>.call (.fn aGS) [(.t (p 0))]]
def aWT:List ((Nat→Nat)→O):=[fun p=>.build [.ns,(.i .i64 0)] [(0,1,(.t (p 0)))],
fun p=>.call (.fn jA) [(.t (p 0))],
fun p=>.call (.fn aGU) [(.t (p 0)),(.t (p 1)),(.t (p 2))],
fun p=>.bin .rem (.t (p 0)) (.c (.i .i64 (Dm (p 1)))),
fun p=>.bin .shl (.c (.i .u8 1)) (.t (p 0)),
fun p=>.bsl 1 [(.i .u8 0)] 1 [(0,(.c (.i .u8 0)))],
fun p=>.call (.fn XE) [],
fun p=>.bin .add (.c (.i .i64 97)) (.t (p 0)),
fun p=>.conv .i32 (.t (p 0)),
fun p=>.i2s (.t (p 0)),
fun p=>.bin .add (.c (.s ⟨#[112]⟩)) (.t (p 0)),
fun p=>.build [(.s ⟨#[]⟩),(.i .i64 0),(.i .i64 0),(.b false),(.b false),.ns,(.i .i64 0),(.i .i64 0),(.i .i64 0),(.i .i64 0),(.i .i64 0)] [(0,1,(.t (p 0))),(3,1,(.t (p 1))),(4,1,(.t (p 2)))],
fun p=>.bin .mul (.c (.i .i64 (Dm (p 0)))) (.t (p 1)),
fun p=>.bsl 1 [(.i .i64 0)] 5 [(0,(.c (.i .i64 (Dm (p 0))))),(1,(.c (.i .i64 (Dm (p 1))))),(2,(.c (.i .i64 (Dm (p 2))))),(3,(.c (.i .i64 (Dm (p 3))))),(4,(.c (.i .i64 (Dm (p 4)))))],
fun p=>.bslc 1 [(.i .u32 0)] 3 [(0,(.c (.i .u32 4294967295))),(1,(.c (.i .u32 200))),(2,(.c (.i .u32 3)))],
fun p=>.alc [(.i .i64 0),(.i .i64 0),(.b false),(.i .i64 0),(.i .u32 0),(.i .i64 0)],
fun p=>.build [(.i .i64 0),(.i .i64 0),(.b false),(.i .i64 0),(.i .u32 0),(.i .i64 0)] [(0,1,(.t (p 0))),(1,1,(.t (p 1))),(2,1,(.t (p 2))),(4,1,(.t (p 3)))],
fun p=>.call (.fn Su) [(.t (p 0)),(.t (p 1))],
fun p=>.call (.fn Sv) [(.t (p 0)),(.t (p 1))],
fun p=>.call (.fn XM) [(.t (p 0))],
fun p=>.call (.fn XO) [(.t (p 0))],
fun p=>.call (.fn XN) [(.t (p 0))],
fun p=>.eq true (.agg [.i,.i,.i]) (.t (p 0)) (.t (p 1)),
fun p=>.bin .lss (.t (p 0)) (.c (.i .i64 400))]
def aWU:List ((Nat→Nat)→O):=[fun p=>.bin .mul (.t (p 0)) (.c (.i .i64 71)),
fun p=>.bin .rem (.t (p 0)) (.c (.i .i64 211)),
fun p=>.bsl 1 [(.s ⟨#[]⟩)] 7 [(0,(.c (.s ⟨#[]⟩))),(1,(.c (.s ⟨#[49,97]⟩))),(2,(.c (.s ⟨#[112,97]⟩))),(3,(.c (.s ⟨#[111,107,95,49]⟩))),(4,(.c (.s ⟨#[116,104,105,114,116,101,101,110,108,111,110,103,95]⟩))),(5,(.c (.s ⟨#[65]⟩))),(6,(.c (.s ⟨#[116,119,101,108,118,101,95,108,111,110,103,95]⟩)))],
fun p=>.bin .sub (.c (.i .i64 (Dm (p 0)))) (.t (p 1)),
fun p=>.build [(.i .i64 0),(.i .i64 0),(.b false),(.i .i64 0),(.i .u32 0),(.i .i64 0)] [(0,1,(.t (p 0))),(1,1,(.c (.i .i64 (Dm (p 1))))),(2,1,(.t (p 2))),(3,1,(.t (p 3)))],
fun p=>.build [(.i .i64 0),(.i .i64 0),(.b false),(.i .i64 0),(.i .u32 0),(.i .i64 0)] [(0,1,(.c (.i .i64 (Dm (p 0))))),(1,1,(.t (p 1))),(2,1,(.t (p 2))),(3,1,(.t (p 3)))],
fun p=>.build [(.i .i64 0),(.i .i64 0),(.b false),(.i .i64 0),(.i .u32 0),(.i .i64 0)] [(0,1,(.t (p 0))),(1,1,(.c (.i .i64 (Dm (p 1))))),(5,1,(.t (p 2)))],
fun p=>.bin .and (.t (p 0)) (.c (.i .i64 63)),
fun p=>.build [(.i .i64 0),(.i .i64 0),(.b false),(.i .i64 0),(.i .u32 0),(.i .i64 0)] [(0,1,(.c (.i .i64 (Dm (p 0))))),(1,1,(.t (p 1)))],
fun p=>.call (.fn XT) [(.t (p 0)),(.t (p 1))],
fun p=>.call (.fn XV) [(.t (p 0))],
fun p=>.call (.fn XW) [(.t (p 0))],
fun p=>.build [(.s ⟨#[]⟩),(.i .i64 0),(.i .i64 0),(.b false),(.b false),.ns,(.i .i64 0),(.i .i64 0),(.i .i64 0),(.i .i64 0),(.i .i64 0)] [(0,1,(.c (.s ⟨#[97]⟩))),(5,1,(.t (p 0)))],
fun p=>.build [.ns,.ns,.ns] [(0,1,(.t (p 0))),(2,1,(.t (p 1)))],
fun p=>.call (.fn Ss) [(.c .ns)],
fun p=>.call (.fn XX) [(.t (p 0))],
fun p=>.call (.fn Sw) [(.t (p 0))],
fun p=>.call (.fn XY) [(.t (p 0))],
fun p=>.call (.fn XZ) [(.t (p 0))],
fun p=>.call (.fn X0) [(.t (p 0))],
fun p=>.call (.fn Sx) [(.t (p 0))],
fun p=>.call (.fn X2) [(.t (p 0)),(.t (p 1))],
fun p=>.call (.fn aGR) [(.t (p 0)),(.t (p 1))],
fun p=>.call (.fn Nh) [(.t (p 0)),(.c (.i .i64 (Dm (p 1)))),(.c (.i .i64 1073741824))]]
def aUH:List ((Nat→Nat)→O):=[fun p=>.call (.fn Yf) [(.t (p 0)),(.t (p 1)),(.c (.i .i64 (Dm (p 2))))],
fun p=>.bin .gtr (.t (p 0)) (.c (.i .i64 90)),
fun p=>.build [(.i .i64 0),(.i .i64 0),(.i .i64 0)] [(0,1,(.c (.i .i64 (Dm (p 0))))),(1,1,(.t (p 1))),(2,1,(.c (.i .i64 (Dm (p 2)))))],
fun p=>.bsl 3 [(.i .i64 0),(.i .i64 0),(.i .i64 0)] 3 [(0,(.t (p 0))),(1,(.t (p 1))),(2,(.t (p 2)))],
fun p=>.mn [(.t (p 0)),(.c (.i .i64 4096))],
fun p=>.bin .quo (.t (p 0)) (.t (p 1)),
fun p=>.mv (.c (.i .i64 4096)),
fun p=>.call (.fn X3) [(.t (p 0))],
fun p=>.call (.fn J0) [(.t (p 0))],
fun p=>.call (.fn X4) [(.t (p 0))],
fun p=>.call (.fn X5) [(.t (p 0)),(.t (p 1)),(.t (p 2))],
fun p=>.bin .eql (.t (p 0)) (.c (.i .i64 (-1))),
fun p=>.call (.fn X6) [(.t (p 0)),(.t (p 1)),(.t (p 2))],
fun p=>.call (.fn X7) [(.t (p 0))],
fun p=>.call (.fn X9) [(.t (p 0))],
fun p=>.call (.fn Yb) [(.t (p 0))],
fun p=>.call (.fn J1) [(.t (p 0)),(.c (.i .i64 (Dm (p 1)))),(.c .ns)],
fun p=>.call (.fn Yd) [(.t (p 0))],
fun p=>.mv (.c (.i .u8 0)),
fun p=>.mv (.c (.i .u8 128)),
fun p=>.call (.fn Ye) [(.t (p 0))],
fun p=>.slice 1 (.t (p 0)) none (some (.c (.i .i64 (Dm (p 1))))) none,
fun p=>.bin .neq (.t (p 0)) (.c (.s ⟨#[72,79,82,65]⟩)),
fun p=>.call (.fn Sy) [(.t (p 0))]]
def aUI:List ((Nat→Nat)→O):=[fun p=>.call (.fn Sz) [(.t (p 0))],
fun p=>.call (.fn IW) [(.t (p 0)),(.c (.i .i64 (Dm (p 1)))),(.c (.i .i64 128))],
fun p=>.build [(.i .i64 0),(.i .i64 0),(.i .i64 0)] [(0,1,(.t (p 0)))],
fun p=>.call (.fn Yg) [(.t (p 0))],
fun p=>.call (.fn Yh) [(.t (p 0)),(.t (p 1))],
fun p=>.call (.fn Yi) [(.t (p 0))],
fun p=>.bsl 1 [.ns] 2 [(0,(.t (p 0))),(1,(.t (p 1)))],
fun p=>.call (.fn Ym) [(.t (p 0)),(.t (p 1))],
fun p=>.call (.fn Yo) [(.t (p 0))],
fun p=>.call (.fn SB) [(.t (p 0))],
fun p=>.build [(.i .i64 0),(.i .i64 0),(.b false),(.i .i64 0),(.i .u32 0),(.i .i64 0)] [(0,1,(.t (p 0))),(1,1,(.t (p 1))),(2,1,(.t (p 2))),(3,1,(.t (p 3)))],
fun p=>.call (.fn IX) [(.t (p 0)),(.c (.i .i64 4294967295))],
fun p=>.call (.fn IX) [(.t (p 0)),(.c (.i .i64 128))],
fun p=>.build [(.i .i64 0),(.i .i64 0),(.i .i64 0)] [(0,1,(.t (p 0))),(1,1,(.t (p 1))),(2,1,(.t (p 2)))],
fun p=>.call (.fn Yp) [(.t (p 0)),(.t (p 1))],
fun p=>.eq true (.agg [.i,.i,.b,.i,.i,.i]) (.t (p 0)) (.t (p 1)),
fun p=>.call (.fn XL) [(.t (p 0))],
fun p=>.build [.ns,.ns,(.i .i64 0),(.i .i64 0),(.i .i64 0)] [(0,1,(.t (p 0)))],
fun p=>.call (.fn SE) [(.t (p 0))],
fun p=>.call (.fn Yq) [(.t (p 0))],
fun p=>.call (.fn SF) [(.t (p 0))],
fun p=>.call (.fn Ys) [(.t (p 0))],
fun p=>.call (.fn Yv) [(.t (p 0)),(.t (p 1)),(.t (p 2))],
fun p=>.call (.fn Yx) [(.t (p 0)),(.c (.i .i64 (Dm (p 1))))]]
def aUJ:List ((Nat→Nat)→O):=[fun p=>.call (.fn SG) [(.t (p 0)),(.c (.i .i64 (Dm (p 1))))],
fun p=>.call (.fn Nl) [(.t (p 0)),(.c (.i .i64 (Dm (p 1))))],
fun p=>.call (.fn Nm) [(.t (p 0)),(.c (.i .i64 (Dm (p 1))))],
fun p=>.build [(.i .i64 0),(.i .i64 0)] [(0,1,(.c (.i .i64 (-1)))),(1,1,(.t (p 0)))],
fun p=>.bin .lss (.t (p 0)) (.c (.i .i64 8192)),
fun p=>.call (.fn YA) [(.t (p 0))],
fun p=>.call (.fn YB) [(.t (p 0))],
fun p=>.call (.fn YC) [(.t (p 0)),(.t (p 1))],
fun p=>.call (.fn aGQ) [(.t (p 0)),(.t (p 1))],
fun p=>.call (.fn SH) [(.t (p 0)),(.c (.i .i64 (Dm (p 1))))],
fun p=>.build [(.s ⟨#[]⟩),(.i .i64 0),(.i .i64 0),(.b false),(.b false),.ns,(.i .i64 0),(.i .i64 0),(.i .i64 0),(.i .i64 0),(.i .i64 0)] [(0,1,(.t (p 0)))],
fun p=>.call (.fn IW) [(.t (p 0)),(.c (.i .i64 (Dm (p 1)))),(.c (.i .i64 512))],
fun p=>.call (.fn IW) [(.t (p 0)),(.c (.i .i64 (Dm (p 1)))),(.c (.i .i64 255))],
fun p=>.build [(.i .i64 0),(.i .i64 0),(.b false),(.i .i64 0),(.i .u32 0),(.i .i64 0)] [(0,1,(.t (p 0)))],
fun p=>.call (.fn IW) [(.t (p 0)),(.c (.i .i64 (Dm (p 1)))),(.c (.i .i64 4294967295))],
fun p=>.bin .eql (.t (p 0)) (.c (.i .u32 1)),
fun p=>.bin .xor (.t (p 0)) (.c (.i .u32 79764919)),
fun p=>.call (.fn YE) [(.t (p 0))],
fun p=>.slice 11 (.t (p 0)) none (some (.t (p 1))) none,
fun p=>.mkfn (.func QV) [] [(.t (p 0))],
fun p=>.call (.fn QU) [(.t (p 0)),(.t (p 1))],
fun p=>.call (.fn QW) [(.t (p 0))],
fun p=>.call (.fn QX) [(.t (p 0)),(.t (p 1))],
fun p=>.call (.fn QY) [(.t (p 0)),(.t (p 1))]]
def aUK:List ((Nat→Nat)→O):=[fun p=>.mkif 9 (.c (.s ⟨#[108,101,110,32,111,117,116,32,111,102,32,114,97,110,103,101]⟩)),
fun p=>.call (.fn QZ) [(.c .ns),(.t (p 0))],
fun p=>.call (.fn Q0) [(.t (p 0)),(.t (p 1))],
fun p=>.call (.fn Q1) [(.t (p 0))],
fun p=>.call (.fn Mq) [(.t (p 0)),(.c (.i .i64 (Dm (p 1))))],
fun p=>.build [(.s ⟨#[]⟩),(.i .i64 0),(.i .i64 0),(.b false),(.b false),.ns,(.i .i64 0),(.i .i64 0),(.i .i64 0),(.i .i64 0),(.i .i64 0)] [(0,1,(.t (p 0))),(1,1,(.t (p 1))),(2,1,(.t (p 2))),(3,1,(.t (p 3))),(4,1,(.t (p 4)))],
fun p=>.call (.fn IX) [(.t (p 0)),(.c (.i .i64 512))],
fun p=>.call (.fn IX) [(.t (p 0)),(.c (.i .i64 255))],
fun p=>.eq true (.agg [.i,.i,.i,.i,.i]) (.t (p 0)) (.t (p 1)),
fun p=>.eq true (.agg [.i,.i]) (.t (p 0)) (.t (p 1)),
fun p=>.call (.fn JZ) [(.t (p 0)),(.c (.i .i64 (Dm (p 1))))],
fun p=>.call (.fn JZ) [(.t (p 0)),(.t (p 1))],
fun p=>.slice 2 (.t (p 0)) none (some (.t (p 1))) none,
fun p=>.slice 2 (.t (p 0)) none (some (.t (p 1))) (some (.t (p 2))),
fun p=>.build [(.i .i64 0),(.i .i64 0),(.i .i64 0),(.i .i64 0),(.i .i64 0),(.i .i64 0)] [(3,1,(.c (.i .i64 (Dm (p 0)))))],
fun p=>.build [(.i .i64 0),(.i .i64 0),(.i .i64 0),(.i .i64 0),(.i .i64 0),(.i .i64 0)] [(0,3,(.t (p 0))),(3,1,(.t (p 1)))],
fun p=>.alloc [(.i .i64 0),(.i .i64 0),(.i .i64 0),(.i .i64 0),(.i .i64 0),(.i .i64 0)],
fun p=>.slice 6 (.t (p 0)) none (some (.t (p 1))) none,
fun p=>.call (.fn Q4) [(.t (p 0)),(.t (p 1))],
fun p=>.call (.fn Q5) [(.t (p 0)),(.t (p 1))],
fun p=>.call (.fn Q6) [(.t (p 0))],
fun p=>.call (.fn Nl) [(.t (p 0)),(.t (p 1))],
fun p=>.call (.fn Nm) [(.t (p 0)),(.t (p 1))],
fun p=>.call (.fn Q7) [(.t (p 0)),(.t (p 1))]]
def aUL:List ((Nat→Nat)→O):=[fun p=>.bin .geq (.t (p 0)) (.c (.i .u8 48)),
fun p=>.bin .leq (.t (p 0)) (.c (.i .u8 57)),
fun p=>.bin .eql (.t (p 0)) (.c (.i .u8 95)),
fun p=>.bin .lss (.t (p 0)) (.c (.i .u8 97)),
fun p=>.bin .gtr (.t (p 0)) (.c (.i .u8 122)),
fun p=>.bin .geq (.t (p 0)) (.c (.i .i64 512)),
fun p=>.bin .gtr (.t (p 0)) (.c (.i .i64 255)),
fun p=>.call (.fn Q8) [(.t (p 0)),(.t (p 1))],
fun p=>.bin .and (.t (p 0)) (.c (.i .u8 127)),
fun p=>.call (.fn Nj) [(.c .ns),(.t (p 0))],
fun p=>.bin .geq (.t (p 0)) (.c (.i .u8 97)),
fun p=>.bin .leq (.t (p 0)) (.c (.i .u8 122)),
fun p=>.bin .lss (.t (p 0)) (.c (.i .u8 48)),
fun p=>.bin .gtr (.t (p 0)) (.c (.i .u8 57)),
fun p=>.bin .neq (.t (p 0)) (.c (.i .u8 95)),
fun p=>.call (.fn Q9) [(.t (p 0)),(.t (p 1))],
fun p=>.call (.fn Ra) [(.t (p 0))],
fun p=>.call (.fn Io) [(.t (p 0)),(.c (.i .i64 4096))],
fun p=>.call (.fn XI) [(.t (p 0))],
fun p=>.mkfn (.func Rb) [] [(.t (p 0))],
fun p=>.call (.fn Yz) [(.t (p 0)),(.t (p 1))],
fun p=>.call (.fn XJ) [(.t (p 0)),(.t (p 1))],
fun p=>.mkif 9 (.c (.s ⟨#[99,97,110,110,111,116,32,98,101,32,110,101,103,97,116,105,118,101]⟩)),
fun p=>.appz [(.i .u8 0)] (.t (p 0)) (.t (p 1))]
def aUM:List ((Nat→Nat)→O):=[fun p=>.bin .mul (.c (.i .u32 79764919)) (.t (p 0)),
fun p=>.call (.fn Re) [(.t (p 0))],
fun p=>.call (.fn Rf) [(.t (p 0))],
fun p=>.bin .add (.t (p 0)) (.c (.i .u8 128)),
fun p=>.bsl 1 [.ns] 3 [(0,(.t (p 0))),(1,(.t (p 1))),(2,(.t (p 2)))],
fun p=>.slice 1 (.t (p 0)) none (some (.t (p 1))) (some (.t (p 2))),
fun p=>.call (.fn Rg) [(.t (p 0)),(.t (p 1))],
fun p=>.bin .andNot (.t (p 0)) (.c (.i .u8 128)),
fun p=>.slice 1 (.t (p 0)) (some (.c (.i .i64 (Dm (p 1))))) (some (.t (p 2))) none,
fun p=>.call (.fn Im) [(.c .ns),(.t (p 0))],
fun p=>.call (.fn Io) [(.t (p 0)),(.c (.i .i64 511))],
fun p=>.call (.fn Io) [(.t (p 0)),(.c (.i .i64 255))]]
def aWV:Nat→List ((Nat→Nat)→O)
 | 0=>aWL
 | 1=>aWM
 | 2=>aWN
 | 3=>aWO
 | 4=>aWP
 | 5=>aWQ
 | 6=>aWR
 | 7=>aWS
 | 8=>aWT
 | 9=>aWU
 | 10=>aUH
 | 11=>aUI
 | 12=>aUJ
 | 13=>aUK
 | 14=>aUL
 | _=>aUM
def shp (s:Nat) (p:Nat→Nat):O:=rV (fun _=>.e0) (aWV (s / 24)) (s % 24) p
def nps:List Nat:=[1,2,1,1,1,2,2,2,1,2,2,0,2,0,2,1,2,1,2,2,1,2,1,1,2,2,2,2,2,1,2,2,2,0,2,0,2,2,2,2,2,1,1,2,2,3,0,1,1,2,1,2,0,2,0,2,2,0,1,2,2,2,2,0,1,1,2,2,0,1,0,2,2,1,2,2,1,1,1,1,1,1,2,1,1,2,2,1,2,1,1,1,2,2,1,2,2,2,2,1,2,0,1,2,1,1,0,2,1,1,2,1,1,1,1,2,1,0,0,1,2,1,2,2,1,2,1,1,3,2,1,0,2,2,2,2,0,2,1,1,2,3,3,3,3,3,2,1,1,4,2,1,1,1,1,1,0,1,1,2,1,0,1,1,1,1,3,1,1,1,3,1,1,1,1,0,2,2,1,2,1,1,2,2,1,2,1,2,1,1,2,1,1,1,3,2,1,0,0,1,1,1,1,3,2,5,0,0,4,2,2,1,1,1,2,1,1,1,0,2,4,4,3,1,2,2,1,1,1,2,0,1,1,1,1,1,1,2,2,2,3,1,3,3,1,2,0,1,1,1,3,1,3,1,1,1,2,1,0,0,1,2,1,1,1,2,1,1,2,1,2,2,1,1,4,1,1,3,2,2,1,1,1,1,1,1,3,2,2,2,2,1,1,1,1,2,2,2,1,2,2,1,2,1,1,1,2,1,2,1,2,2,0,1,2,1,2,5,1,1,2,2,2,2,2,3,1,2,0,2,2,2,1,2,2,2,1,1,1,1,1,1,1,2,1,1,1,1,1,1,1,2,1,1,1,1,2,2,0,2,1,1,1,1,3,3,2,1,3,1,1,1]
abbrev Rs:=List TO×List (Bool×List TO)
abbrev Rc:=Nat→Nat→Nat→Bool→Rs
def aHY (s:Nat) (d:Option Nat) (g:Option (Nat×Bool)) (l:List Nat) (r:Rs):Rs:=(⟨d,shp s (fun i=>rV 0 l i),g⟩::r.1,r.2)
def pS (R:Nat) (rc:Nat→List Nat→Rs):Nat→Nat→List Nat→Rs
 | 0,n,l=>rc n l
 | f+1,n,l=>pS R rc f (n / R) (n % R::l)
def pR (R s:Nat) (rc:Rc) (g:Option (Nat×Bool)) (gn:Nat) (gb:Bool) (p:Nat):Nat→Nat→Rs
 | 0,n=>pS R (fun n l=>aHY s (some (p+1)) g l (rc n (p+1) gn gb)) (rV 0 nps s) n []
 | 1,n=>pS R (fun m l=>aHY s (some (n % R)) g l (rc m (n % R) gn gb)) (rV 0 nps s) (n / R) []
 | _+2,n=>pS R (fun n l=>aHY s none g l (rc n p gn gb)) (rV 0 nps s) n []
def aWJ (R s:Nat) (rc:Rc) (p gn:Nat) (gb:Bool):Nat→Nat→Rs
 | 0,n=>pR R s rc none gn gb p (n % 3) (n / 3)
 | 1,n=>pR R s rc (some (n % R,true)) (n % R) true p (n / R % 3) (n / R / 3)
 | 2,n=>pR R s rc (some (n % R,false)) (n % R) false p (n / R % 3) (n / R / 3)
 | _+3,n=>pR R s rc (some (gn,gb)) gn gb p (n % 3) (n / 3)
def aUG (b:Bool) (r:Rs):Rs:=([],(b,r.1)::r.2)
def aWW (R:Nat) (rc:Rc) (p gn:Nat) (gb:Bool):Nat→Nat→Rs
 | 0,_=>([],[])
 | 1,n=>aUG true (rc n p gn gb)
 | 2,n=>aUG false (rc n p gn gb)
 | s+3,n=>aWJ R s rc p gn gb (n % 4) (n / 4)
def aHX (R:Nat):Nat→Rc
 | 0=>fun _ _ _ _=>([],[])
 | f+1=>fun n p gn gb=>aWW R (aHX R f) p gn gb (n % 375) (n / 375)
def aUF (n:Nat):Nat:=rV 0 [32,64,128,512] (n % 4)
@[go_sem ↓] def k (n:Nat) {l:List TO} (h:(aHX (aUF n) 400 (n / 4) 511 0 true).1=l:=by conv=>lhs;cbv):List TO:=l
@[go_sem ↓] def kd (n:Nat) {l:List (Bool×List TO)} (h:(aHX (aUF n) 400 (n / 4) 511 0 true).2=l:=by conv=>lhs;cbv):List (Bool×List TO):=l
/-! horarium/horariumlaw14.ImageNumbers -/
@[go_sem] def aUO:=k 0x17a8
@[go_sem] def aUP:=k 0x5dd8
@[go_sem] def aUQ:=k 0x1593472653fc
@[go_sem] def aUR:=k 0x137b0ee86225412e421b062de093aad3c
@[go_sem] def aUS:=k 0xea78
@[go_sem] def aUT:=k 0x2a3ebd7c60cc
@[go_sem] def aUU:=k 0x6435762908f3762407266d4e8a0163d6d380c6ce90bd3a40331327e95e1619ca840449
@[go_sem] def aUV:=k 0x17a8
@[go_sem] def aUW:=k 0xd545b08828822ad6c
def sF:TC:=(.seq (.seq (.reg aUT) (.cond (.t 18) .skip (.exit 2))) (.seq (.block 3 (.seq (.reg aUU) (.cond (.t 33) (.seq (.reg aUV) .ret) .skip))) (.reg aUW)))
@[go_sem] def aH8:=k 0xba0158bd0376e9659
@[go_sem] def aH9:=k 0x467b707b3b68f1da46fd65ed45be0f4abd
@[go_sem] def aIa:=k 0x1bd68
@[go_sem] def aIb:=k 0x3cb5869fdc2bc64197d24d
@[go_sem] def aIc:=k 0x478d45c61413291b258ce5
@[go_sem] def aId:=k 0xd26e6b8949da5d2456dc920fee4ccfcfeccd30946d36f59a4856e6efbe8873730fdf1d
@[go_sem] def aIe:=k 0x36f719d8eb5d20b5b86c06f117d7dae4521294a4e5da7c70d268ddd0dff1cd4bcc397e18e0473bd9551720ad02694e06782736de
@[go_sem] def aIf:=k 0x17a8
@[go_sem] def aIg:=k 0x3d2115441938765eb8d
def U3:TC:=(.seq (.seq (.reg aIb) (.cond (.t 44) .skip (.exit 4))) (.seq (.block 5 (.seq (.reg aIc) (.seq (.reg aId) (.seq (.reg aIe) (.cond (.t 80) (.seq (.reg aIf) .ret) .skip))))) (.reg aIg)))
@[go_sem] def aIh:=k 0x2e29f6eeeb303329d7d5c9bb4016436dc00a76f86
@[go_sem] def aIi:=k 0x17a8
@[go_sem] def aIj:=k 0x75225232b13eea09c
def pY:TC:=(.seq (.seq (.reg aUQ) (.cond (.t 9) .skip (.exit 0))) (.seq (.block 1 (.seq (.reg aUR) (.seq (.seq (.reg aUS) (.block 2 (.loop sF))) (.seq (.reg aH8) (.seq (.reg aH9) (.seq (.seq (.reg aIa) (.block 4 (.loop U3))) (.seq (.reg aIh) (.cond (.t 88) (.seq (.reg aIi) .ret) .skip)))))))) (.reg aIj)))
@[go_sem] def aIk:=k 0x6b6cf5906466
def Z8:TF:=⟨90,[.t 0],(.seq (.reg aUO) (.seq (.seq (.reg aUP) (.block 0 (.loop pY))) (.seq (.reg aIk) .ret)))⟩
/-! (*horarium/horariumkeep.Tape).Config -/
@[go_sem] def aUX:=k 0xa4a0
@[go_sem] def aUY:=k 0xeaf0
@[go_sem] def aUZ:=k 0x2c19835b2141f584e16698c
@[go_sem] def aU0:=k 0x17718
@[go_sem] def aU1:=k 0x57af5b2548a02e7c
@[go_sem] def aU2:=k 0x184c1c63e4542134da1e1e7420a6bfaa2c8d83cd25999d0f59fd275c2e97405e49f8b643c00d
@[go_sem] def aU3:=k 0x2d3cc836772c00c27cd
@[go_sem] def aU4:=k 0x2a3eb56e7c06d
@[go_sem] def aU5:=kd 0x3d8377ce6fbef25aa2fc9dbf6c9c72a64b2c3fed5daa63a172480e670b5f0fc29f1416e2e0637630b0045b8e9b709114d5
@[go_sem] def aU6:=k 0x328aa685164b0684d0d
def Vb:TC:=(.seq (.seq (.reg aU4) (.cond (.t 36) .skip (.exit 2))) (.seq (.block 3 (.dreg aU5)) (.reg aU6)))
@[go_sem] def aJn:=k 0xdd329
@[go_sem] def aJo:=k 0xdc1ffda5
@[go_sem] def aJp:=k 0x3eebbdf9847bd
@[go_sem] def aJq:=k 0x2382897d5ead0de4b661c5ed31a604b3ac35b1fe6c7c02480840f460d
@[go_sem] def aJr:=k 0x12a4db9bc9c6ca1
def Vc:TC:=(.seq (.reg aJo) (.seq (.cond (.t 51) .skip (.exit 4)) (.seq (.block 5 (.seq (.reg aJp) (.reg aJq))) (.reg aJr))))
@[go_sem] def aJs:=k 0x413821c986965ae8b25bfb47b5bc685f2f0627a96e2
@[go_sem] def aJt:=k 0xd5ef6c5162834416c
def Vd:TC:=(.seq (.seq (.reg aU1) (.cond (.t 18) .skip (.exit 0))) (.seq (.block 1 (.seq (.reg aU2) (.seq (.seq (.reg aU3) (.block 2 (.loop Vb))) (.seq (.seq (.reg aJn) (.block 4 (.loop Vc))) (.reg aJs))))) (.reg aJt)))
@[go_sem] def aJu:=k 0xb72ff7735aef373ec4be
@[go_sem] def aJv:=k 0x7f9ee9a238a46b1bf6c0011c4a05883407b95e
@[go_sem] def aJw:=k 0x74aa157d9ce20cac9e31183de
@[go_sem] def aJx:=kd 0xc5d8c29f2c54913f6157b362b84d4aaddb15fd9bd6061402038d30ef4020f6eff7b5da7ddf038c3ff80202555a7721d36b11fde7a5020b45addc8ffbd0724edd50d251947be82680e647445357ddf7a124634f56b16e0ce7914da
@[go_sem] def aJy:=k 0x3c59b236c646c2
@[go_sem] def aJz:=k 0x152ba66f9d5eaae4ec484bd2a0c9b81b5e
@[go_sem] def aJA:=k 0x6c0d2cd98c481f30008c1d1aac9e4dba92ed41aaca2
@[go_sem] def aJB:=k 0xcc67709f6b45acdd5f3e
def Ve:TC:=(.seq (.seq (.reg aJv) (.cond (.t 75) .skip (.exit 6))) (.seq (.block 7 (.seq (.reg aJw) (.seq (.dreg aJx) (.seq (.seq (.reg aJy) (.cond (.t 101) (.reg aJz) .skip)) (.reg aJA))))) (.reg aJB)))
@[go_sem] def aJC:=k 0x12bf0fb80a3bf9c2ada7e
@[go_sem] def aJD:=k 0x44cc77bf51471e
@[go_sem] def aJE:=kd 0x31d10eb801d0e76ef6727016db44c981ec0960acb96f0c4bd5523bbe66505ddcb985b2d4a6
@[go_sem] def aJF:=k 0x1368cb816ac84ed51d3be
def Vf:TC:=(.seq (.seq (.reg aJD) (.cond (.t 115) .skip (.exit 8))) (.seq (.block 9 (.dreg aJE)) (.reg aJF)))
@[go_sem] def aJG:=k 0x347a074c9c825fac83551a2b2df
def Z9:TF:=⟨129,[.cell 2 3 true],(.seq (.reg aUX) (.seq (.reg aUY) (.seq (.reg aUZ) (.seq (.seq (.reg aU0) (.block 0 (.loop Vd))) (.seq (.seq (.reg aJu) (.block 6 (.loop Ve))) (.seq (.seq (.reg aJC) (.block 8 (.loop Vf))) (.seq (.reg aJG) .ret)))))))⟩
/-! horarium/horariumref3.Of -/
@[go_sem] def aU7:=k 0x356050
@[go_sem] def aU8:=k 0x25d8fc7c15133d5c
@[go_sem] def aU9:=k 0x135001cbb1fc
@[go_sem] def aVa:=k 0x1a85ce223befe9c
@[go_sem] def aVb:=k 0x99741a1bca4e5b8adcec
@[go_sem] def aVc:=k 0x27dd80a4afea1dc
@[go_sem] def aVd:=k 0x1cfb1b850
@[go_sem] def aVe:=k 0x1f8b3184174cc
def aA:TF:=⟨18,[.t 2,.t 3],(.seq (.reg aU7) (.seq (.seq (.reg aU8) (.seq (.reg aU9) (.cond (.t 9) (.seq (.reg aVa) .ret) .skip))) (.seq (.reg aVb) (.seq (.seq (.reg aVc) (.cond (.t 16) (.seq (.reg aVd) .ret) .skip)) (.seq (.reg aVe) .ret)))))⟩
/-! horarium/horariumref3.Total -/
@[go_sem] def aVf:=k 0xa428
@[go_sem] def aVg:=k 0xea78
@[go_sem] def aVh:=k 0xeefc9887d5c
@[go_sem] def aVi:=k 0x90a1668
@[go_sem] def aVj:=k 0x7d0cede531fac1320a704
@[go_sem] def aVk:=k 0x60b2d89d1d8aba87b9d12dfc13c
@[go_sem] def aVl:=k 0x4e81489af4690
def aLQ:TC:=(.seq (.reg aVi) (.seq (.cond (.t 9) .skip (.exit 0)) (.seq (.block 1 (.seq (.reg aVj) (.reg aVk))) (.reg aVl))))
@[go_sem] def aVm:=k 0x2936c02fe0cc
def aB:TF:=⟨18,[.t 2],(.seq (.reg aVf) (.seq (.reg aVg) (.seq (.seq (.reg aVh) (.block 0 (.loop aLQ))) (.seq (.reg aVm) .ret))))⟩
/-! horarium/horariumref7.Holds -/
@[go_sem] def aVn:=k 0x53b5ef246c
@[go_sem] def aVo:=k 0x434c179682c35aaa0
@[go_sem] def aVp:=k 0xeb5a7f8
@[go_sem] def aVq:=k 0x980189148024a897438c0
@[go_sem] def aVr:=k 0xabc58e2e43f56b91376ea92e67f6f977888ccc
@[go_sem] def aVs:=k 0x5a1fd2b0eefeae404f13aee6b7b1a32c710138eca7f6bea3222d7be4c653d6e7515b93a8e0b1
@[go_sem] def aVt:=k 0xa82ec8
@[go_sem] def aVu:=k 0xaed0227cfc8ed1
def aNc:TC:=(.seq (.reg aVp) (.seq (.cond (.t 14) .skip (.exit 0)) (.seq (.block 1 (.seq (.reg aVq) (.seq (.reg aVr) (.seq (.reg aVs) (.cond (.t 35) (.seq (.reg aVt) .ret) .skip))))) (.reg aVu))))
@[go_sem] def aVv:=k 0x8be5eb71199b6d6911
@[go_sem] def aM6:=k 0xb280e669
@[go_sem] def aM7:=k 0x110d96ff1225a529925e71afded8fcc09d
@[go_sem] def aM8:=kd 0x3cccbda119111816fe0eccecd480c80323e9f84aa6c18840143dc3f97d3143947ecc30cae73f5
@[go_sem] def aM9:=k 0xb0f8c8
@[go_sem] def aNa:=k 0x11b10b856a999b1
def qG:TC:=(.seq (.reg aM6) (.seq (.cond (.t 41) .skip (.exit 2)) (.seq (.block 3 (.seq (.reg aM7) (.seq (.dreg aM8) (.cond (.t 57) (.seq (.reg aM9) .ret) .skip)))) (.reg aNa))))
@[go_sem] def aNb:=k 0x130c8
def aC:TF:=⟨59,[.t 4],(.seq (.reg aVn) (.seq (.seq (.reg aVo) (.block 0 (.loop aNc))) (.seq (.seq (.reg aVv) (.block 2 (.loop qG))) (.seq (.reg aNb) .ret))))⟩
/-! horarium/horariumref3.Nodes -/
@[go_sem] def aVw:=k 0x130e8
@[go_sem] def aVx:=k 0xba77b3e5860a39c2d6a87d5c
@[go_sem] def aVy:=k 0x130e8
@[go_sem] def aVz:=k 0xf5058c6dcec
@[go_sem] def aVA:=k 0xeb5a7f8
@[go_sem] def aVB:=k 0x249cb9d2382c
@[go_sem] def aVC:=kd 0x10d6cab02bd6ff796c8ba5c51fb928460b6050c46a399a8
@[go_sem] def aVD:=k 0x130e8
@[go_sem] def aVE:=k 0x7ab60facfff60
def aOm:TC:=(.seq (.reg aVA) (.seq (.cond (.t 14) .skip (.exit 0)) (.seq (.block 1 (.seq (.reg aVB) (.seq (.dreg aVC) (.cond (.t 24) (.seq (.reg aVD) .ret) .skip)))) (.reg aVE))))
@[go_sem] def aOl:=k 0x131a0
def aD:TF:=⟨26,[.t 4],(.seq (.reg aVw) (.seq (.seq (.reg aVx) (.cond (.t 10) (.seq (.reg aVy) .ret) .skip)) (.seq (.seq (.reg aVz) (.block 0 (.loop aOm))) (.seq (.reg aOl) .ret))))⟩
/-! (*horarium/horariumkeep.Tape).Table -/
@[go_sem] def aVF:=k 0x1bd90
@[go_sem] def aVG:=k 0x81bb424fde760dcec
@[go_sem] def aVH:=k 0x1b4f669927acef17db101577eaf3b7d8c
@[go_sem] def aVI:=k 0x2dddad86156c
@[go_sem] def aVJ:=k 0x2c4ecdef848aa977afafe4c36a7189c0c
@[go_sem] def aVK:=k 0x4d2d4c346f4ae6c25cbc63909f5a77bc37f6a7698252739a3b9d
@[go_sem] def aVL:=k 0x2913578d97a1d
@[go_sem] def aVM:=k 0x23a24021c26f0411cedd13c42df94564218bd90041bf616e4e8b6f1e444708a70fabd
@[go_sem] def aVN:=k 0x479319558b3355beb1cd8002d
@[go_sem] def aVO:=k 0x12fdf1af11d837816496731d
@[go_sem] def aPw:=k 0x2d6a8
@[go_sem] def aPx:=k 0x11d98c50edfb0d6e0d
@[go_sem] def aPy:=k 0x10ff8f85ced809fefa67cb09a9001c10822b7242002e086d9e
@[go_sem] def aPz:=k 0x4bcc70157e89b4b40fd
def qL:TC:=(.seq (.seq (.reg aPx) (.cond (.t 55) .skip (.exit 0))) (.seq (.block 1 (.reg aPy)) (.reg aPz)))
@[go_sem] def aPA:=k 0x2741d5ee9a59ce
def RR:TF:=⟨66,[.t 6],(.seq (.reg aVF) (.seq (.reg aVG) (.seq (.seq (.reg aVH) (.cond (.t 18) (.seq (.seq (.reg aVI) (.cond (.t 20) (.seq (.reg aVJ) .ret) .skip)) (.seq (.reg aVK) .ret)) .skip)) (.seq (.seq (.reg aVL) (.cond (.t 35) (.seq (.reg aVM) .ret) .skip)) (.seq (.reg aVN) (.seq (.reg aVO) (.seq (.seq (.reg aPw) (.block 0 (.loop qL))) (.seq (.reg aPA) .ret))))))))⟩
/-! horarium/horariumlaw14.tape -/
@[go_sem] def aVP:=k 0xa450
@[go_sem] def aVQ:=k 0xeaa0
@[go_sem] def aVR:=k 0x130c8
@[go_sem] def aVS:=k 0x617ee21f0c
@[go_sem] def aVT:=k 0xd0249afa444c6524ca8e1a1f6d7fa9c54a1675b1ce26be94e71ec91e55a97bb07f7f21a3e2cae4c
@[go_sem] def aVU:=k 0x564db5b1c92a82bac
def aQr:TC:=(.seq (.seq (.reg aVS) (.cond (.t 6) .skip (.exit 0))) (.seq (.block 1 (.reg aVT)) (.reg aVU)))
@[go_sem] def aVV:=k 0x3a1c9e11ccfc
def aE:TF:=⟨25,[.t 2],(.seq (.reg aVP) (.seq (.reg aVQ) (.seq (.seq (.reg aVR) (.block 0 (.loop aQr))) (.seq (.reg aVV) .ret))))⟩
/-! horarium/horariumlaw14.same -/
@[go_sem] def aVW:=k 0xf61de1c
@[go_sem] def aVX:=k 0x1351d5c2848da4c8c8b31c5a0107466e8de8
@[go_sem] def aVY:=k 0x4088c33f98492728
@[go_sem] def aVZ:=k 0x4746afddc30f918c
@[go_sem] def aV0:=k 0xa448
@[go_sem] def aV1:=k 0x269fdad6ae7c
@[go_sem] def aV2:=k 0x3a766f4da70af90b8aaeeba9e123a7020ce6ddde932271c
@[go_sem] def aV3:=kd 0x14ec883cb8bbd85bce976589a8a18f5ca30ce579b17390fac49314af8c605c54722a987c2c6ab44b4e1f4464ee956b589
def RU:TF:=⟨43,[.t 2],(.seq (.reg aVW) (.seq (.reg aVX) (.seq (.reg aVY) (.seq (.seq (.reg aVZ) (.cond (.t 15) (.seq (.reg aV0) .ret) .skip)) (.seq (.seq (.reg aV1) (.cond (.t 17) (.seq (.reg aV2) .ret) .skip)) (.seq (.dreg aV3) .ret))))))⟩
/-! horarium/horariumlaw14.odd -/
@[go_sem] def aV4:=k 0x7a7696eabc
@[go_sem] def aV5:=k 0xbc71309429bb20cad586deb28421104
@[go_sem] def aV6:=k 0x104f9cc0b643389f0cf46e4b709c7094
@[go_sem] def aV7:=k 0x14d8267829eabf315758f58478f6d024
@[go_sem] def aV8:=k 0x20142742c29d1896a221e0040868fa1a80b3ae90d00
@[go_sem] def aV9:=k 0x6569d96ff00695881ae7c091940754ee9bead8c91b38a6b4a72d
@[go_sem] def aWa:=k 0xda296c795d73415ca7fd
@[go_sem] def aWb:=k 0x8f74eb46522f15254788ce709a3cb7f5fab93d7e30a9b534d7f19df5bd68d7bfd7023d014a00d47377bb3ad59931561d6983503089107651652a52cccf3dcef63e8160f6f79e980090c78f2845ad012f2d798b029148be462b3d1b62f98c2895bfdb89e
@[go_sem] def aWc:=k 0x3f919d519e2da
@[go_sem] def aWd:=k 0x12df0ee
@[go_sem] def aSV:=k 0x1c959a65c475e8f6
@[go_sem] def aSW:=k 0x84f1b1f5991e681cbdb3f0d376941fade39e4ad5ecbfca4373a1504472e
@[go_sem] def aSX:=k 0x1fedf7245c9c1666
@[go_sem] def aSY:=k 0x57e6df2329a7a79a4a6d3d08ef4c9e
@[go_sem] def aSZ:=k 0x21c112750cc0e446
@[go_sem] def aS0:=k 0x5cbdadd4e411e21aa7e232c8f0f27e
@[go_sem] def aS1:=k 0x23942dc5bce5b226
@[go_sem] def aS2:=k 0x424c385941341877b017638b1bb7fe718a6c2400f8f2985e
@[go_sem] def aS3:=k 0x2650d6bec50b52f6
@[go_sem] def aS4:=k 0x46b485638c54f1d129b76dd26ea508dd2e6151ea479770c0bb592f
@[go_sem] def aS5:=k 0x28d0b239fbe8a44bc7
@[go_sem] def aS6:=k 0x4b7d6468cbff271be13236039e7a0c0fb466d48530916761bdd1ff
@[go_sem] def aS7:=k 0x2b89485b3de9336497
@[go_sem] def aS8:=k 0x6b950c8db7d8598b5e02c04acf
@[go_sem] def aS9:=k 0x2d0c466db7e9c16427
@[go_sem] def aTa:=k 0xb3e60910d41054f787245739b0fe2a1a0ed239d57d33d45a4753fc1aa5f
@[go_sem] def aTb:=k 0x1d9ba217d9e9fd186bdee768c4a4a65b7f748d9834ce82498d4501ebf4d83ec4232f
def VN:TC:=(.seq (.seq (.reg aTa) (.cond (.t 158) .skip (.exit 3))) (.block 4 (.reg aTb)))
@[go_sem] def aTc:=k 0x3365a4bb51ea53c8b7
@[go_sem] def aTd:=k 0x15623a576fa551ac3198dbd0faaa3ff671fdcbebfb74161b92215901ff709fadc1cd6084e8e30173bbd5c169fe82e39b14eef3
@[go_sem] def aTe:=k 0x37ee9ef2bfeae48767
@[go_sem] def aTf:=k 0x3317fe7659c963360cdf5962b4497f6ae43bb6a3c76cbbca43e230c72b123d427bb2bdc9f75c677e28d70fa80ab2beb12519b190da3
@[go_sem] def aTg:=k 0x3cc4ff2ddfeb758c67
@[go_sem] def aTh:=k 0xa43139844c6baccf9c03abdc2ccb128098fd980661593886976179006cc9c0df5fbb2e550d719b1d72a3
@[go_sem] def aTi:=k 0x40b32d5de9ec05be77
@[go_sem] def aTj:=kd 0x218b482c711ce74f0a18d4ff4d87e06d09d82db042e70987bc777bc8ba91876d0db24e89ee4ae19707f0b0ea60cdc34645887ba1dddd7
@[go_sem] def aTk:=k 0x453c279557ec967d27
@[go_sem] def aTl:=k 0x2a1f11646d4bec62fbd90cab1a12c47cc0876e00fa997e4bf5fbd9bd2449d5ca550eab4652363
@[go_sem] def aTm:=k 0x48dcefc1afed2668e7
@[go_sem] def aTn:=k 0x249dbb8bb4686f23
@[go_sem] def aTo:=k 0x49c521ccc5edb3dbd7
@[go_sem] def aTp:=k 0x3bc3560c65bc2e3539363f4ba8b9173fa88807c58b4694213
@[go_sem] def aTq:=kd 0x30028721274d1ee805b0e99a26ff3a03ae7ca2a62e10a12538865dc873a1126a3b22224900bfc7
def VO:TC:=(.seq (.seq (.reg aTp) (.cond (.t 251) .skip (.exit 5))) (.block 6 (.dreg aTq)))
@[go_sem] def aTr:=k 0x4bf3d4b8bf9aa921623f2db467ea9a1c51b64126f42
@[go_sem] def aTs:=k 0x104ef91d7b11e5c6b7a69bb755bd1f788260013b81b602d1fc45cf95f246dc145b72
def VP:TC:=(.seq (.seq (.reg aTr) (.cond (.t 82) .skip (.exit 1))) (.block 2 (.reg aTs)))
@[go_sem] def aTt:=k 0xfb7b91ceada74b
def aF:TF:=⟨262,[.cell 6 3 true],(.seq (.reg aV4) (.seq (.reg aV5) (.seq (.reg aV6) (.seq (.reg aV7) (.seq (.reg aV8) (.seq (.reg aV9) (.seq (.reg aWa) (.seq (.seq (.reg aWb) (.cond (.t 73) (.seq (.reg aWc) .ret) .skip)) (.seq (.seq (.reg aWd) (.block 0 (.seq (.reg aSV) (.cond (.t 93) (.reg aSW) (.seq (.reg aSX) (.cond (.t 104) (.reg aSY) (.seq (.reg aSZ) (.cond (.t 110) (.reg aS0) (.seq (.reg aS1) (.cond (.t 116) (.reg aS2) (.seq (.reg aS3) (.cond (.t 125) (.reg aS4) (.seq (.reg aS5) (.cond (.t 134) (.reg aS6) (.seq (.reg aS7) (.cond (.t 143) (.reg aS8) (.seq (.reg aS9) (.cond (.t 148) (.block 3 (.loop VN)) (.seq (.reg aTc) (.cond (.t 169) (.reg aTd) (.seq (.reg aTe) (.cond (.t 184) (.reg aTf) (.seq (.reg aTg) (.cond (.t 200) (.reg aTh) (.seq (.reg aTi) (.cond (.t 213) (.dreg aTj) (.seq (.reg aTk) (.cond (.t 228) (.reg aTl) (.seq (.reg aTm) (.cond (.t 240) (.reg aTn) (.seq (.reg aTo) (.cond (.t 243) (.block 5 (.loop VO)) (.block 1 (.loop VP)))))))))))))))))))))))))))))))))) (.seq (.reg aTt) .ret))))))))))⟩
/-! horarium/horariumref12.Bytes -/
@[go_sem] def aIl:=k 0x11945e1c
@[go_sem] def aIm:=k 0x146282f257b0a5104f0371f28940df94254
@[go_sem] def aIn:=k 0x4746801d5b096ec60
@[go_sem] def aIo:=k 0x1c516bb8
@[go_sem] def aIp:=k 0x896ffefb409e3e567fc88
@[go_sem] def aIq:=kd 0x2737deaa9607c7df0c9900e14fa9918f58cd51319fd53e508e0f7a1e22244b319
@[go_sem] def aIr:=kd 0xde2ac44d90db5c7a4af0cc5fcae444c9a8d75a39aed5f41f70ad0d71d1cd4c34aaaf9
@[go_sem] def aIs:=k 0x9035310820b69eb721
@[go_sem] def aIt:=k 0xec89fc79
@[go_sem] def aIu:=k 0x2df3a183fa478832ad1d715
@[go_sem] def uN:=kd 0xc406637e69d1776efeaa899f35802e0314267365e4809c59
@[go_sem] def uO:=k 0x137008dd01d8d392
def P6:TC:=(.seq (.reg aIt) (.seq (.cond (.t 54) .skip (.exit 2)) (.seq (.block 3 (.seq (.reg aIu) (.dreg uN))) (.reg uO))))
@[go_sem] def uP:=k 0x1f6b959e639b9d2
@[go_sem] def uQ:=k 0x49a7e8cf6
@[go_sem] def uR:=k 0x14d7b8078f6e849e
@[go_sem] def uS:=k 0x68ee174222075e9064748c95e
@[go_sem] def uT:=k 0x162fb650e7f34c62
def Ge:TC:=(.seq (.reg uQ) (.seq (.cond (.t 68) .skip (.exit 4)) (.seq (.block 5 (.seq (.reg uR) (.reg uS))) (.reg uT))))
@[go_sem] def uU:=k 0x16639ce535ab92b2
def P7:TC:=(.seq (.reg aIo) (.seq (.cond (.t 26) .skip (.exit 0)) (.seq (.block 1 (.seq (.reg aIp) (.seq (.dreg aIq) (.seq (.dreg aIr) (.seq (.seq (.reg aIs) (.block 2 (.loop P6))) (.seq (.reg uP) (.block 4 (.loop Ge)))))))) (.reg uU))))
@[go_sem] def uV:=k 0x115ead7311a20997f4b8fc142ba680c5e28ee
@[go_sem] def uW:=k 0x1197407fce5683cd3882
@[go_sem] def uX:=k 0x5be55f9da
@[go_sem] def uY:=k 0x110300ad894d93751855168a2
@[go_sem] def uZ:=kd 0x18be01e3d70cee41ae3671ad55746b14307cd004fb64d30ebee924a21e592d7621e7fa
@[go_sem] def vA:=kd 0xf25f1bf234b9b896eb84399a9285c429d3da351d126db08c289162e8bd685b45326227dfda
@[go_sem] def vB:=k 0x20c908ea813ce952
def P8:TC:=(.seq (.reg uX) (.seq (.cond (.t 84) .skip (.exit 6)) (.seq (.block 7 (.seq (.reg uY) (.seq (.dreg uZ) (.dreg vA)))) (.reg vB))))
@[go_sem] def vC:=k 0x18d7ce85195bfdb9d0bda0c896286d4677f8e
@[go_sem] def vD:=k 0x124b981a20cd256a8f22
@[go_sem] def vE:=k 0x818b2a07a
@[go_sem] def vF:=k 0x13e86d3657ccedfae0ef6
@[go_sem] def vG:=k 0x6340e40872f60f041f7e12cd96cb4e
@[go_sem] def vH:=k 0x435d8fc47748e
@[go_sem] def vI:=k 0x8bcc19ff9b
@[go_sem] def vJ:=k 0x16396de7087ad8d860c89a26e63b
@[go_sem] def vK:=kd 0x24130499431974be8a1015a603935d563b9d560d7a21981ae684e4f7bac5f544e2887e9a2d21c3b
@[go_sem] def vL:=k 0x2a9f203457077371a3
def P9:TC:=(.seq (.reg vI) (.seq (.cond (.t 128) .skip (.exit 10)) (.seq (.block 11 (.seq (.reg vJ) (.dreg vK))) (.reg vL))))
@[go_sem] def vM:=k 0x2aeadd5b580af3b7f3
def Qa:TC:=(.seq (.reg vE) (.seq (.cond (.t 118) .skip (.exit 8)) (.seq (.block 9 (.seq (.reg vF) (.seq (.reg vG) (.seq (.reg vH) (.block 10 (.loop P9)))))) (.reg vM))))
@[go_sem] def vN:=k 0x2fbd33a31a9d01ccd3e2f
def Oe:TF:=⟨145,[.t 2],(.seq (.reg aIl) (.seq (.reg aIm) (.seq (.seq (.reg aIn) (.block 0 (.loop P7))) (.seq (.reg uV) (.seq (.seq (.reg uW) (.block 6 (.loop P8))) (.seq (.reg vC) (.seq (.seq (.reg vD) (.block 8 (.loop Qa))) (.seq (.reg vN) .ret))))))))⟩
/-! horarium/horariumlaw14.reads -/
@[go_sem] def aIv:=k 0xa448
@[go_sem] def aIw:=k 0x2eb1ebf4210cd41b15bb4dacf1bfeededd6549fc
@[go_sem] def aIx:=k 0x43eb32b0f2ee4245645972d878ad9414787ee98c
@[go_sem] def aIy:=k 0x382184d48edda534b4ed0591a950f3d7f868b355749aacc
def Og:TF:=⟨25,[.t 2],(.seq (.reg aIv) (.seq (.reg aIw) (.seq (.reg aIx) (.seq (.reg aIy) .ret))))⟩
/-! horarium/horariumref1.Seal -/
@[go_sem] def aIz:=k 0xa450
@[go_sem] def aIA:=k 0x1b12d0cf9874b0bc
@[go_sem] def aIB:=k 0x6848c4d5414f0cc3a45b7be600e3bc8bd2c40d9f030c1f209b7e1386c07d3798c34a230b1c4041c14
def Oh:TF:=⟨22,[.t 2],(.seq (.reg aIz) (.seq (.reg aIA) (.seq (.reg aIB) .ret)))⟩
/-! horarium/horariumlaw14.known -/
@[go_sem] def aIC:=k 0x17a8
@[go_sem] def aID:=k 0x108bcfa7a5d30330430241484d442514cf5d2dd16e80310
@[go_sem] def aIE:=k 0x2e5d8bef55c9bcddfc26e74d02cf4f506648
@[go_sem] def aIF:=k 0x7b19ab6e7c69442e00a445ad998aa8049fbdcf9c
@[go_sem] def aIG:=k 0x3fc067ba8e0d83ed352673e610b5b770f6ac5
@[go_sem] def aIH:=k 0x496931dd8da4e045bf5c2479c3a648e69b17d
@[go_sem] def aII:=k 0x1cd1c45d340074bc1169eb91cdd9f1ffb124f53e662c19a1dd5
@[go_sem] def aIJ:=k 0x93ccfbdd7cb8ab1a448da857f4f4dc9c8793dbc16468c1604bd8ad61d3a8acbe2448898b510aff3e35850091670feb413ad43e347ff009e677292300b6d47768dad45229a1ca40aa61c99e3403dbccf382534057308406b1a28dd08e25cdae52e8bd200839e248eaa31de
def Oi:TF:=⟨81,[.t 0],(.seq (.reg aIC) (.seq (.reg aID) (.seq (.reg aIE) (.seq (.reg aIF) (.seq (.reg aIG) (.seq (.reg aIH) (.seq (.reg aII) (.seq (.reg aIJ) .ret))))))))⟩
/-! horarium/horariumbook.Within -/
@[go_sem] def aIK:=k 0x1bd68
@[go_sem] def aIL:=k 0x58582d3c48c35005f38ab96292325f6959206c3ac
@[go_sem] def aIM:=k 0x24b00938f62c
@[go_sem] def aIN:=k 0x512d5174d0682aeb4116e6cb448ad42e23c7c
@[go_sem] def aIO:=k 0x351ba773625c
@[go_sem] def aIP:=k 0x7016143f55746dd7d8cb9b5bd23e158846efc
@[go_sem] def aIQ:=k 0xbb0d33aacd72b5e7148e8dd
def Oj:TF:=⟨33,[.t 6],(.seq (.reg aIK) (.seq (.seq (.reg aIL) (.cond (.t 14) (.seq (.reg aIM) .ret) .skip)) (.seq (.reg aIN) (.seq (.seq (.reg aIO) (.cond (.t 23) (.reg aIP) .skip)) (.seq (.reg aIQ) .ret)))))⟩
/-! horarium/image.Bytes -/
@[go_sem] def aIR:=k 0x73f0aa5e1c
@[go_sem] def aIS:=k 0x208b1e1f0b3bc148
@[go_sem] def aIT:=k 0x10e606ab6bac
@[go_sem] def aIU:=k 0x17dedefd53eb84c
@[go_sem] def aIV:=k 0x94a677c91c593b1b360d8
def Ok:TF:=⟨13,[.t 2,.t 3],(.seq (.reg aIR) (.seq (.seq (.reg aIS) (.seq (.reg aIT) (.cond (.t 8) (.seq (.reg aIU) .ret) .skip))) (.seq (.reg aIV) .ret)))⟩
/-! horarium/image.Read -/
@[go_sem] def aIW:=k 0x3560a0
@[go_sem] def aIX:=k 0x191d7cd4a9897373055794dbca8e363d169c
@[go_sem] def aIY:=k 0x10e7406e1dc
@[go_sem] def aIZ:=k 0x4581ca3e7d4f7b8c
@[go_sem] def aI0:=k 0x6023874bdc61aacc
@[go_sem] def aI1:=k 0x4033ebf7174bb4cc
@[go_sem] def aI2:=k 0x2f9fd973076aceb338b8a45944440c
@[go_sem] def aI3:=k 0x38064d250566b6edbc3fecfaa804773ab7d8
@[go_sem] def aI4:=k 0x114704e8c20499011123417b526e0df710181d12df4dd
@[go_sem] def aI5:=k 0x3fed2ba971a4ee46d
@[go_sem] def yV:=k 0x11b00cf13d0ef45e9
def Ol:TF:=⟨40,[.cell 2 3 true,.t 3],(.seq (.reg aIW) (.seq (.reg aIX) (.seq (.seq (.reg aIY) (.cond (.t 15) (.seq (.reg aIZ) .ret) .skip)) (.seq (.seq (.reg aI0) (.cond (.t 19) (.seq (.reg aI1) .ret) .skip)) (.seq (.reg aI2) (.seq (.seq (.reg aI3) (.seq (.reg aI4) (.cond (.t 37) (.seq (.reg aI5) .ret) .skip))) (.seq (.reg yV) .ret)))))))⟩
/-! horarium/horariumref12.Same -/
@[go_sem] def aI6:=k 0x21df24de646c
@[go_sem] def aI7:=k 0x478c4286508bd8882be7a34fe186a45b2ca77855a262783fb5b217db876e4d198
@[go_sem] def aI8:=k 0x130e8
@[go_sem] def aI9:=k 0x4647e5fba51716370
@[go_sem] def aJa:=k 0x18ea7ac8
@[go_sem] def aJb:=k 0x3a568e43cafc
@[go_sem] def aJc:=kd 0x9e8af5a70aba18cba46f699dc499a494dfec445451ff7eee8bd688c7031456f035
@[go_sem] def aJd:=k 0x130e8
@[go_sem] def aJe:=k 0xb451e78589d521
def pZ:TC:=(.seq (.reg aJa) (.seq (.cond (.t 23) .skip (.exit 0)) (.seq (.block 1 (.seq (.reg aJb) (.seq (.dreg aJc) (.cond (.t 36) (.seq (.reg aJd) .ret) .skip)))) (.reg aJe))))
@[go_sem] def yW:=k 0x131a0
def Om:TF:=⟨38,[.t 4],(.seq (.reg aI6) (.seq (.seq (.reg aI7) (.cond (.t 18) (.seq (.reg aI8) .ret) .skip)) (.seq (.seq (.reg aI9) (.block 0 (.loop pZ))) (.seq (.reg yW) .ret))))⟩
/-! horarium/image.Size -/
@[go_sem] def aJf:=k 0x697de1c
@[go_sem] def aJg:=k 0x116348bed06c3cdba3fcfa44132fd8154798
@[go_sem] def aJh:=k 0x3abb980b1427f49c
def Oo:TF:=⟨12,[.t 2],(.seq (.reg aJf) (.seq (.reg aJg) (.seq (.reg aJh) .ret)))⟩
/-! (*horarium/horariumkeep.Tape).Next -/
@[go_sem] def aJi:=k 0x130c8
@[go_sem] def aJj:=kd 0x1539f4794c35236956095c09ddbc54c8e1a4d27ef1ecab493140448227c4389a98dca298
@[go_sem] def aJk:=k 0x130c8
@[go_sem] def aJl:=k 0xda84230dc4919ce9f1731efe658f54498d7b60f6c
@[go_sem] def aJm:=kd 0x3aa8d0b685b7ec404f78fd3e841617d0cd4984fb4a458cb2cf9df885e89c7d3acdbf27d4f4484a15189
def Oq:TF:=⟨40,[.t 4],(.seq (.reg aJi) (.seq (.seq (.dreg aJj) (.cond (.t 18) (.seq (.reg aJk) .ret) .skip)) (.seq (.reg aJl) (.seq (.dreg aJm) .ret))))⟩
/-! (*horarium/horariumkeep.Tape).frame -/
@[go_sem] def aJH:=k 0x130f0
@[go_sem] def aJI:=k 0x1d9f53ad23f869e3c8709fc
@[go_sem] def aJJ:=k 0x1cfa96ea22fb7112ebc7fd87a63c9a42153c
@[go_sem] def aJK:=k 0x49a08660dec823c7de266978bfe33045dbcfaba45097acde7780ed6e8427c
@[go_sem] def aJL:=k 0x1213783707188e0e136cef5d80de6229aafef5c0c431919f225
@[go_sem] def aJM:=k 0x2a53975ec986d
def Ot:TF:=⟨36,[.t 4],(.seq (.reg aJH) (.seq (.reg aJI) (.seq (.seq (.reg aJJ) (.seq (.reg aJK) (.cond (.t 27) (.seq (.reg aJL) .ret) .skip))) (.seq (.reg aJM) .ret))))⟩
/-! (*horarium/horariumkeep.Tape).asks -/
@[go_sem] def aJN:=k 0x2796b4bc
@[go_sem] def aJO:=k 0x17740
@[go_sem] def aJP:=k 0x4746801d5b2db0060
@[go_sem] def aJQ:=k 0x1c516bb8
@[go_sem] def aJR:=k 0x12b770deb7124ffc34
@[go_sem] def aJS:=k 0xff01cbf6e1ac02e5c7b4507a2cd5b4c75660dd
@[go_sem] def aJT:=k 0x3b5a55d005ff6690926f8db0521d
@[go_sem] def aJU:=k 0xb95fcd5db91b71
def Vg:TC:=(.seq (.reg aJQ) (.seq (.cond (.t 26) .skip (.exit 0)) (.seq (.block 1 (.seq (.reg aJR) (.seq (.reg aJS) (.reg aJT)))) (.reg aJU))))
@[go_sem] def aJV:=k 0x8c8fa760f351e489b1
@[go_sem] def yX:=k 0xbb6e9b09
@[go_sem] def yY:=k 0x354d795d1753d
@[go_sem] def yZ:=k 0x31cf8
@[go_sem] def zA:=k 0x817359bb578d
@[go_sem] def zB:=k 0xd1c0de99
@[go_sem] def zC:=k 0x429414a6b899048b915
@[go_sem] def zD:=kd 0x60434e97de91e4567adb0727d3dbda136bb3d085ec280e6b31f53def5727d97ddfdac990d5cf57059f2af321f53a
@[go_sem] def zE:=k 0x76c2960efc69ef33df04c10a3287fdf4d221ce
@[go_sem] def zF:=k 0x31dbc
@[go_sem] def zG:=k 0x6a7a5991f7e0c1dbc04324fae
@[go_sem] def zH:=k 0x1670e3cbe86392b2
def Qb:TC:=(.seq (.reg zB) (.seq (.cond (.t 48) .skip (.exit 4)) (.seq (.block 5 (.seq (.reg zC) (.seq (.dreg zD) (.seq (.reg zE) (.cond (.t 70) (.reg zF) (.reg zG)))))) (.reg zH))))
@[go_sem] def zI:=k 0x257d505bb81e4c14ba34f3ba0f7995aa15b121c4f68ee
@[go_sem] def zJ:=kd 0x28cbc8cb2065a5f8999b35877eeb8c9de17d9559810a5c0c5fbb1a121002762236c2e03c4d76af1e6
@[go_sem] def zK:=k 0x1bdc5459a8848452
def Qc:TC:=(.seq (.reg yX) (.seq (.cond (.t 43) .skip (.exit 2)) (.seq (.block 3 (.seq (.reg yY) (.seq (.reg yZ) (.seq (.seq (.reg zA) (.block 4 (.loop Qb))) (.seq (.reg zI) (.cond (.t 81) (.dreg zJ) .skip)))))) (.reg zK))))
@[go_sem] def zL:=k 0x4cebcf802bb9cff5cae76777416a8e
@[go_sem] def zM:=k 0x4834cdfe9621aa24516e1b6bbce
@[go_sem] def zN:=k 0x3c5abca2960ebe
@[go_sem] def zO:=k 0x9a6cabe75c147d38147e7fffe
@[go_sem] def zP:=k 0xa06d24803d85e24bcefe9193e
@[go_sem] def zQ:=k 0x11180db82b0d5fdda9b5e
def Qd:TC:=(.seq (.seq (.reg zN) (.cond (.t 101) .skip (.exit 6))) (.seq (.block 7 (.seq (.reg zO) (.cond (.t 107) (.seq (.reg zP) (.exit 6)) .skip))) (.reg zQ)))
@[go_sem] def zR:=k 0x123bae7d73e0aa880c32
@[go_sem] def zS:=k 0x7e38c558a
@[go_sem] def zT:=k 0x46165eba43c3be
@[go_sem] def zU:=k 0x50cf4
@[go_sem] def zV:=k 0x42c310eac020e
@[go_sem] def zW:=k 0x83c217d1a
@[go_sem] def zX:=k 0x143f9d2c4867c931ceb96
@[go_sem] def zY:=k 0x1eeaf8db02867adbf8a959b96f324516d4bfc04be49c51fef
@[go_sem] def zZ:=k 0x26fef286be3d7025e3
def Qe:TC:=(.seq (.reg zW) (.seq (.cond (.t 120) .skip (.exit 10)) (.seq (.block 11 (.seq (.reg zX) (.reg zY))) (.reg zZ))))
@[go_sem] def aAa:=k 0x3fe0aa293b07115bc24ba56ed8cb18b0f8e6b60b47c35870c1f
@[go_sem] def aAb:=kd 0x54beb96907745bd4eec8cd651682ae4e538e3a0620d0f9d0a89d9bf3ad945be0e4133b6204ed50d1713729029680d8e9d7f9fa2e46593109f04f1f9692fecda13f5fe57f151d9b47784d6ba13c1d37
@[go_sem] def aAc:=k 0x2e3c22c83ebf36bd63
def Qf:TC:=(.seq (.reg zS) (.seq (.cond (.t 115) .skip (.exit 8)) (.seq (.block 9 (.seq (.reg zT) (.seq (.reg zU) (.seq (.seq (.reg zV) (.block 10 (.loop Qe))) (.seq (.reg aAa) (.cond (.t 136) (.dreg aAb) .skip)))))) (.reg aAc))))
@[go_sem] def aAd:=k 0x336259c51a343161043db
@[go_sem] def aAe:=k 0x42ec7cdbba172681d11693
@[go_sem] def aAf:=k 0xb01f83afeb
@[go_sem] def aAg:=k 0x1872aaa463d0961f
@[go_sem] def aAh:=kd 0xa822c95f2022f9f26c902d9e56be31995e965732722b31151d6d91d4ba89aa630ddcf14a70695072a1e37e6c5bdc2bb20817
@[go_sem] def aAi:=k 0x344c074a6d48bc3ba3
def Qg:TC:=(.seq (.reg aAf) (.seq (.cond (.t 161) .skip (.exit 12)) (.seq (.block 13 (.seq (.reg aAg) (.dreg aAh))) (.reg aAi))))
@[go_sem] def aAj:=k 0xa7ac0b0f95c21b
def Ou:TF:=⟨175,[.cell 4 3 true],(.seq (.reg aJN) (.seq (.reg aJO) (.seq (.seq (.reg aJP) (.block 0 (.loop Vg))) (.seq (.seq (.reg aJV) (.block 2 (.loop Qc))) (.seq (.reg zL) (.seq (.seq (.reg zM) (.block 6 (.loop Qd))) (.seq (.seq (.reg zR) (.block 8 (.loop Qf))) (.seq (.seq (.reg aAd) (.cond (.t 156) (.seq (.reg aAe) (.block 12 (.loop Qg))) .skip)) (.seq (.reg aAj) .ret)))))))))⟩
/-! horarium/runs.Of -/
@[go_sem] def aJW:=k 0x356050
@[go_sem] def aJX:=k 0x35c2979333cd504c
@[go_sem] def aJY:=k 0x1a8df32c84ec
@[go_sem] def aJZ:=k 0x227a9b90f3fd18c
@[go_sem] def aJ0:=k 0x17740
@[go_sem] def aJ1:=k 0x509ccd49d86a6fdc
@[go_sem] def aJ2:=k 0x54e5d2743f7463bfb42432c200254b724a443ecc
@[go_sem] def aJ3:=k 0x195a3122c0c
@[go_sem] def aJ4:=k 0x53c2ce6ce4af992eb435a95aac
def qA:TC:=(.block 1 (.seq (.reg aJ2) (.seq (.seq (.reg aJ3) (.cond (.t 22) (.exit 0) .skip)) (.reg aJ4))))
@[go_sem] def aAk:=k 0x9566a9122a5173ec
@[go_sem] def aAl:=k 0x4fa595e9239c08c
@[go_sem] def aAm:=k 0x1cfb1b850
@[go_sem] def aAn:=k 0x1f6274ec23c57d
def Ov:TF:=⟨33,[.t 2,.t 3],(.seq (.reg aJW) (.seq (.seq (.reg aJX) (.seq (.reg aJY) (.cond (.t 12) (.seq (.reg aJZ) .ret) .skip))) (.seq (.reg aJ0) (.seq (.reg aJ1) (.seq (.block 0 (.loop qA)) (.seq (.seq (.reg aAk) (.seq (.reg aAl) (.cond (.t 31) (.seq (.reg aAm) .ret) .skip))) (.seq (.reg aAn) .ret)))))))⟩
/-! horarium/bound.Holds -/
@[go_sem] def aJ5:=k 0x53b5ef246c
@[go_sem] def aJ6:=k 0x434c179682c35aaa0
@[go_sem] def aJ7:=k 0xeb5a7f8
@[go_sem] def aJ8:=k 0x980189148024a897438c0
@[go_sem] def aJ9:=k 0xabc58e2e442108d6ce38627d77f6f977888ccc
@[go_sem] def aKa:=k 0x1687f4adc7844c31ecd2c90941ee57a07aeb0c5f64a47ac95fb284c956fd6e7515b93a8e0b1
@[go_sem] def aKb:=k 0xa82ec8
@[go_sem] def aKc:=k 0xaed0227cfc8ed1
def qB:TC:=(.seq (.reg aJ7) (.seq (.cond (.t 14) .skip (.exit 0)) (.seq (.block 1 (.seq (.reg aJ8) (.seq (.reg aJ9) (.seq (.reg aKa) (.cond (.t 35) (.seq (.reg aKb) .ret) .skip))))) (.reg aKc))))
@[go_sem] def aKd:=k 0x8be5eb71199b6d6911
@[go_sem] def aAo:=k 0xb280e669
@[go_sem] def aAp:=k 0x110d96ff1225a529925e71afded8fcc09d
@[go_sem] def aAq:=kd 0x3cccbda119111816fe0eccecd480dd62de451564f9e8ba0417abe3f97d3143947ecc30cae73f5
@[go_sem] def aAr:=k 0xb0f8c8
@[go_sem] def aAs:=k 0x11b10b856a999b1
def Vh:TC:=(.seq (.reg aAo) (.seq (.cond (.t 41) .skip (.exit 2)) (.seq (.block 3 (.seq (.reg aAp) (.seq (.dreg aAq) (.cond (.t 57) (.seq (.reg aAr) .ret) .skip)))) (.reg aAs))))
@[go_sem] def aAt:=k 0x130c8
def Ow:TF:=⟨59,[.t 4],(.seq (.reg aJ5) (.seq (.seq (.reg aJ6) (.block 0 (.loop qB))) (.seq (.seq (.reg aKd) (.block 2 (.loop Vh))) (.seq (.reg aAt) .ret))))⟩
/-! horarium/node.Right -/
@[go_sem] def aKe:=k 0xa428
@[go_sem] def aKf:=k 0x116348bed06c3cdba3fcfa44133091b7bd5c
@[go_sem] def aKg:=k 0x9b464a0048e3db86dcec
@[go_sem] def aKh:=k 0x1b0228
@[go_sem] def aKi:=k 0xcb59a17b20be71f4762c
@[go_sem] def aKj:=k 0x6a1c28
@[go_sem] def aKk:=k 0x1f6d9f21890b8ac4398f6c
@[go_sem] def aKl:=k 0x7bb028
@[go_sem] def aKm:=k 0x83008db3e28190ac
@[go_sem] def aKn:=k 0x9ed828
@[go_sem] def aAu:=k 0xa428
def Ox:TF:=⟨25,[.t 2],(.seq (.reg aKe) (.seq (.reg aKf) (.seq (.block 0 (.seq (.reg aKg) (.cond (.t 10) (.seq (.reg aKh) .ret) (.seq (.reg aKi) (.cond (.t 14) (.seq (.reg aKj) .ret) (.seq (.reg aKk) (.cond (.t 18) (.seq (.reg aKl) .ret) (.seq (.reg aKm) (.cond (.t 22) (.seq (.reg aKn) .ret) .skip))))))))) (.seq (.reg aAu) .ret))))⟩
/-! slices.Clone[[]horarium/api.Node,horarium/api.Node] -/
@[go_sem] def aKo:=k 0xa450
@[go_sem] def aKp:=k 0x3a9c082a6c
@[go_sem] def aKq:=k 0xa450
@[go_sem] def aKr:=k 0x526ecd135864ab98d5c4
def Oy:TF:=⟨8,[.t 2],(.seq (.reg aKo) (.seq (.seq (.reg aKp) (.cond (.t 4) (.seq (.reg aKq) .ret) .skip)) (.seq (.reg aKr) .ret)))⟩
/-! horarium/horariumref3.Right -/
@[go_sem] def aKs:=k 0xa428
@[go_sem] def aKt:=k 0x10012a3756f370c
@[go_sem] def aKu:=k 0x1b0228
@[go_sem] def aKv:=k 0x2fbce6ed31bcc9fc
@[go_sem] def aKw:=k 0x6a1c28
@[go_sem] def aKx:=k 0x424d908b39e89cec
@[go_sem] def aKy:=k 0x7bb028
@[go_sem] def aKz:=k 0x22c63de02598e431ee642d096fc3750db62c
@[go_sem] def aKA:=k 0x16f033c776c
@[go_sem] def aKB:=k 0x9ed828
@[go_sem] def aAv:=k 0xa428
def Oz:TF:=⟨21,[.t 2],(.seq (.reg aKs) (.seq (.seq (.reg aKt) (.cond (.t 7) (.seq (.reg aKu) .ret) .skip)) (.seq (.seq (.reg aKv) (.cond (.t 10) (.seq (.reg aKw) .ret) .skip)) (.seq (.seq (.reg aKx) (.cond (.t 13) (.seq (.reg aKy) .ret) .skip)) (.seq (.seq (.reg aKz) (.seq (.reg aKA) (.cond (.t 20) (.seq (.reg aKB) .ret) .skip))) (.seq (.reg aAv) .ret))))))⟩
/-! horarium/horariumref3.Tidy -/
@[go_sem] def aKC:=k 0xa450
@[go_sem] def aKD:=k 0xeaa0
@[go_sem] def aKE:=k 0xf031961c3ac
@[go_sem] def aKF:=k 0xa2c66b8
@[go_sem] def aKG:=k 0x7dc767740519e0f62f754
@[go_sem] def aKH:=k 0x4b4eeeebadb3c78c
@[go_sem] def aKI:=k 0xaa10fb755dbf16830
@[go_sem] def aKJ:=kd 0x3403abbe6f6b0f862befcae9bfd5a283002ce5159495b582896ac53be274d7b6183c08
@[go_sem] def aKK:=kd 0x623dd467551297c763c91c51b69dc6637e38c6a6de5c7568e4047db84655f52376d65a7c13195c7d479bb179
@[go_sem] def aKL:=k 0x4ce89d0b16243ac1c09bdcd52f8d
@[go_sem] def aAw:=k 0xed4664476c20e1
def Vi:TC:=(.seq (.reg aKF) (.seq (.cond (.t 10) .skip (.exit 0)) (.seq (.block 1 (.seq (.reg aKG) (.seq (.reg aKH) (.seq (.seq (.reg aKI) (.cond (.t 17) (.exit 1) .skip)) (.seq (.dreg aKJ) (.cond (.t 30) (.dreg aKK) (.reg aKL))))))) (.reg aAw))))
@[go_sem] def aAx:=k 0x3c64cae058f1d
def OA:TF:=⟨51,[.t 2],(.seq (.reg aKC) (.seq (.reg aKD) (.seq (.seq (.reg aKE) (.block 0 (.loop Vi))) (.seq (.reg aAx) .ret))))⟩
/-! horarium/horariumref3.Leaves -/
@[go_sem] def aKM:=k 0xa450
@[go_sem] def aKN:=k 0x2b3506fe6c9ecaa6c
def OB:TF:=⟨5,[.t 2],(.seq (.reg aKM) (.seq (.reg aKN) .ret))⟩
/-! horarium/horariumref3.Sum -/
@[go_sem] def aKO:=k 0x130c8
@[go_sem] def aKP:=k 0x708c06830f8d9ae20dae61a7041770c
@[go_sem] def aKQ:=k 0x6ce75209998621e7504c
@[go_sem] def aKR:=k 0x1332c
@[go_sem] def aKS:=k 0x160cc1ed36dda8b928698c
def OC:TF:=⟨16,[.t 4],(.seq (.reg aKO) (.seq (.reg aKP) (.seq (.seq (.reg aKQ) (.cond (.t 12) (.seq (.reg aKR) .ret) .skip)) (.seq (.reg aKS) .ret))))⟩
/-! horarium/horariumref7.Late -/
@[go_sem] def aKT:=k 0x1bd68
@[go_sem] def aKU:=k 0x5b62f8f603bc7c7c
@[go_sem] def aKV:=k 0x10e6d41ca08
@[go_sem] def aKW:=k 0xfd787f54f1c
@[go_sem] def aKX:=k 0x16a5da28
@[go_sem] def aKY:=k 0xf814b3bf435046aa4
@[go_sem] def aKZ:=k 0x829f0380177e6b5e99207545688b359d9afa369f6152e4b7cb35dfed5607d0dd04e66433e2fd
@[go_sem] def aK0:=k 0xaf57518abf8ed1
def qC:TC:=(.seq (.reg aKX) (.seq (.cond (.t 21) .skip (.exit 0)) (.seq (.block 1 (.seq (.reg aKY) (.reg aKZ))) (.reg aK0))))
@[go_sem] def aK1:=k 0xb2a8212090d
@[go_sem] def aAy:=k 0x1bd68
@[go_sem] def aAz:=k 0xbc500c901ad
@[go_sem] def aAA:=k 0x1be2c
@[go_sem] def aAB:=k 0x803e5c4d664d
@[go_sem] def aAC:=k 0xbfe57559
@[go_sem] def aAD:=k 0x4b39dedbd9d7107c4a8906154f8d
@[go_sem] def aAE:=k 0x102a9764b02c965e7d
@[go_sem] def aAF:=k 0xd0038
@[go_sem] def aAG:=k 0xa8af7c578d9cf38d524be1cd2f2e2d8412be3c3702d7bbcdbc9ccc256d
@[go_sem] def aAH:=k 0x53dbc2e2e58b1a4cadd
def Vj:TC:=(.seq (.seq (.reg aAG) (.cond (.t 61) .skip (.exit 4))) (.block 5 (.reg aAH)))
@[go_sem] def aAI:=k 0x603ef60d65b0b9237a156eb7e
@[go_sem] def aAJ:=k 0x1451be148211a682
def Vk:TC:=(.seq (.reg aAC) (.seq (.cond (.t 44) .skip (.exit 2)) (.seq (.block 3 (.seq (.reg aAD) (.seq (.seq (.reg aAE) (.cond (.t 50) (.exit 3) .skip)) (.seq (.reg aAF) (.seq (.block 4 (.loop Vj)) (.reg aAI)))))) (.reg aAJ))))
@[go_sem] def aAK:=k 0x291152467804be
def OE:TF:=⟨69,[.t 6],(.seq (.reg aKT) (.seq (.reg aKU) (.seq (.reg aKV) (.seq (.seq (.reg aKW) (.block 0 (.loop qC))) (.seq (.seq (.reg aK1) (.cond (.t 38) (.seq (.reg aAy) .ret) .skip)) (.seq (.seq (.reg aAz) (.cond (.t 40) (.seq (.reg aAA) .ret) .skip)) (.seq (.seq (.reg aAB) (.block 2 (.loop Vk))) (.seq (.reg aAK) .ret))))))))⟩
/-! horarium/horariumref7.Budget -/
@[go_sem] def aK2:=k 0x1bd68
@[go_sem] def aK3:=k 0x4b795ddea430a98c
@[go_sem] def aK4:=k 0x554088abec09ac4e0b28c211c74b55ee8a284af53e6d020fc47bc76d70d5f896457c0a2c
@[go_sem] def aK5:=k 0x1be2c
@[go_sem] def aK6:=k 0x141036545b675ca28c
@[go_sem] def aK7:=k 0x29058
@[go_sem] def aK8:=k 0x2de9c16d7c29003891cf2d
@[go_sem] def aK9:=k 0x2d6a8
@[go_sem] def aLa:=k 0xce3924eb62cda9711fe6313c68a5a2be738935d
@[go_sem] def aLb:=k 0xc8d329f9
@[go_sem] def aAL:=k 0x3fe7d7a11ccd55b0475
@[go_sem] def aAM:=k 0x1080c9954df3737ccd
@[go_sem] def aAN:=k 0x467e91c6da9374a27bd
@[go_sem] def aAO:=k 0x108216ea9a18071
def Vl:TC:=(.seq (.reg aLb) (.seq (.cond (.t 46) .skip (.exit 2)) (.seq (.block 3 (.seq (.reg aAL) (.seq (.reg aAM) (.cond (.t 51) (.reg aAN) .skip)))) (.reg aAO))))
@[go_sem] def aAP:=k 0x14ceaca2a01c24fb7fb2d2ad
@[go_sem] def aAQ:=k 0xd8761fac42d0be6349ee86d
def Vm:TC:=(.seq (.seq (.reg aK8) (.cond (.t 34) .skip (.exit 0))) (.seq (.block 1 (.seq (.reg aK9) (.seq (.seq (.reg aLa) (.block 2 (.loop Vl))) (.reg aAP)))) (.reg aAQ)))
@[go_sem] def aAR:=k 0x4620073efa59d
def OF:TF:=⟨59,[.t 6],(.seq (.reg aK2) (.seq (.reg aK3) (.seq (.seq (.reg aK4) (.cond (.t 28) (.seq (.reg aK5) .ret) .skip)) (.seq (.reg aK6) (.seq (.seq (.reg aK7) (.block 0 (.loop Vm))) (.seq (.reg aAR) .ret))))))⟩
/-! horarium/horariumref12.Right -/
@[go_sem] def aLc:=k 0x697de1c
@[go_sem] def aLd:=k 0x116348bed06c3cdba3fcfa44133096258798
@[go_sem] def aLe:=k 0x1850e24df49c
def OG:TF:=⟨11,[.t 2],(.seq (.reg aLc) (.seq (.reg aLd) (.seq (.reg aLe) .ret)))⟩
/-! horarium/horariumref1.Put -/
@[go_sem] def aLf:=k 0x130f0
@[go_sem] def aLg:=k 0xad3d13504a0efdd3fc
@[go_sem] def aLh:=k 0x1823e1f8e09c
@[go_sem] def aLi:=k 0xadfc0692f8ad49153c
@[go_sem] def aLj:=k 0x203e0
@[go_sem] def aLk:=k 0x10f0eef21dc
@[go_sem] def aLl:=k 0x9c59b5601f940d713db950ccad3b1c
@[go_sem] def aLm:=k 0x5b0e1b112a7bae7c
def Vn:TC:=(.seq (.seq (.reg aLk) (.cond (.t 15) .skip (.exit 0))) (.seq (.block 1 (.reg aLl)) (.reg aLm)))
@[go_sem] def aLn:=k 0x73b98c5bcd9d1abf680ced57dae37a87b0ee3aceb1eceef86b550436ee146ab2565
def OH:TF:=⟨35,[.t 4],(.seq (.reg aLf) (.seq (.reg aLg) (.seq (.seq (.reg aLh) (.cond (.t 11) (.reg aLi) .skip)) (.seq (.reg aLj) (.seq (.block 0 (.loop Vn)) (.seq (.reg aLn) .ret))))))⟩
/-! horarium/horariumref1.Text -/
@[go_sem] def aLo:=k 0x130f0
@[go_sem] def aLp:=k 0x139474871f33a39d36f98048e6215b26370c
def OI:TF:=⟨11,[.t 4],(.seq (.reg aLo) (.seq (.reg aLp) .ret))⟩
/-! horarium/horariumref1.Flag -/
@[go_sem] def aLq:=k 0x130f0
@[go_sem] def aLr:=k 0xa410c
@[go_sem] def aLs:=k 0x4bb1f8f7940953d5c
@[go_sem] def aLt:=k 0x60e9726ade6fcc9fc
def OJ:TF:=⟨10,[.t 4],(.seq (.reg aLq) (.seq (.seq (.reg aLr) (.cond (.t 5) (.seq (.reg aLs) .ret) .skip)) (.seq (.reg aLt) .ret)))⟩
/-! horarium/horariumref12.Read -/
@[go_sem] def aLu:=k 0x3560a0
@[go_sem] def aLv:=k 0x22c63de72e307b14bce63f496fc37a8bf62c
@[go_sem] def aLw:=k 0x16f0345416c
@[go_sem] def aLx:=k 0x4581ca4181cac31c
@[go_sem] def aLy:=k 0x1e33f38d4ad95867fc85e9a7b2df03f33f4c8b7ba00a5c
@[go_sem] def aLz:=k 0x4033ebfdbac1523c
@[go_sem] def aLA:=k 0x1bde0
@[go_sem] def aLB:=k 0x3833ab7f53968c6b21fa7e3c317d
@[go_sem] def aLC:=k 0xc4f1f33ecae14fcd06bd
@[go_sem] def aLD:=k 0x2ddda9745275d
@[go_sem] def aAS:=kd 0x118baff62d8fab0fb780ed24e4dad14f9bfdf10116460a844b6073fcdf071265
@[go_sem] def aAT:=k 0x368a5b1e5b13b7ab3fd
def Qh:TC:=(.seq (.seq (.reg aLD) (.cond (.t 39) .skip (.exit 0))) (.seq (.block 1 (.dreg aAS)) (.reg aAT)))
@[go_sem] def aAU:=k 0x109fb74b6463d0e9898cd
@[go_sem] def aAV:=k 0x3d8e89c5a4d6d
@[go_sem] def aAW:=kd 0x164c509accf424ea0826db7d30f0464af8405549a73ea43022542dcca73507d5
@[go_sem] def aAX:=k 0x47ccbb7c39c408fda0d
def Qi:TC:=(.seq (.seq (.reg aAV) (.cond (.t 52) .skip (.exit 2))) (.seq (.block 3 (.dreg aAW)) (.reg aAX)))
@[go_sem] def aAY:=k 0x14f04f62dbf7c11a82add
@[go_sem] def aAZ:=k 0x269fb384293b7e
@[go_sem] def aA0:=k 0x31d20
@[go_sem] def aA1:=k 0xb73fe10e339b87f8dcbe
@[go_sem] def aA2:=k 0x2a3eac3471315e
@[go_sem] def aA3:=k 0x570ff0a9523dd35c69259bf430a829e
@[go_sem] def aA4:=k 0x1cff0f6e1b7417b0ea8553e2b558e
@[go_sem] def aA5:=k 0x7863d4c46664e99afac14287e
@[go_sem] def aA6:=k 0x44e4bc141b9438cf793420f6519b6e
@[go_sem] def aA7:=k 0xc1db9da43eba8d45bdfe
def Qj:TC:=(.seq (.seq (.reg aA2) (.cond (.t 71) .skip (.exit 6))) (.seq (.block 7 (.seq (.reg aA3) (.seq (.reg aA4) (.seq (.reg aA5) (.reg aA6))))) (.reg aA7)))
@[go_sem] def aA8:=k 0x598e452a38cc7ae0bd881daa98718aff35e0e12ecb2
@[go_sem] def aA9:=k 0xb1e767069c21dcfdc81e
def L1:TC:=(.seq (.seq (.reg aAZ) (.cond (.t 65) .skip (.exit 4))) (.seq (.block 5 (.seq (.reg aA0) (.seq (.seq (.reg aA1) (.block 6 (.loop Qj))) (.reg aA8)))) (.reg aA9)))
@[go_sem] def aBa:=kd 0x29ff1d62b6e7f4fd1b7823f66eb584a0ef612741adf534ab8d12def7cfaf5b4244be23cb0ebb460ce7f56762431a
@[go_sem] def aBb:=k 0x3fc9cb8cc22adca09e
@[go_sem] def aBc:=k 0x11b00b824a5dcd3e1a
def OK:TF:=⟨111,[.cell 2 3 true,.t 3],(.seq (.reg aLu) (.seq (.reg aLv) (.seq (.seq (.reg aLw) (.cond (.t 20) (.seq (.reg aLx) .ret) .skip)) (.seq (.seq (.reg aLy) (.cond (.t 30) (.seq (.reg aLz) .ret) .skip)) (.seq (.reg aLA) (.seq (.reg aLB) (.seq (.seq (.reg aLC) (.block 0 (.loop Qh))) (.seq (.seq (.reg aAU) (.block 2 (.loop Qi))) (.seq (.seq (.reg aAY) (.block 4 (.loop L1))) (.seq (.seq (.dreg aBa) (.cond (.t 108) (.seq (.reg aBb) .ret) .skip)) (.seq (.reg aBc) .ret)))))))))))⟩
/-! horarium/horariumref1.Sum -/
@[go_sem] def aLE:=k 0xa5c4
@[go_sem] def aLF:=k 0xecf0
@[go_sem] def aLG:=k 0x130c8
@[go_sem] def aLH:=k 0x3cd2dc1f298398505f0c
@[go_sem] def aLI:=k 0x1f1c490c3f9cb26b6d7fa91961c47ec93aec
@[go_sem] def aLJ:=k 0x6b852f26488e8b84c
def qD:TC:=(.seq (.seq (.reg aLH) (.cond (.t 8) .skip (.exit 0))) (.seq (.block 1 (.reg aLI)) (.reg aLJ)))
@[go_sem] def aLK:=k 0x5fdcac97a0ae60cc
def OL:TF:=⟨19,[.t 2],(.seq (.reg aLE) (.seq (.reg aLF) (.seq (.seq (.reg aLG) (.block 0 (.loop qD))) (.seq (.reg aLK) .ret))))⟩
/-! horarium/config.Right -/
@[go_sem] def aLL:=k 0x697de1c
@[go_sem] def aLM:=k 0x116348bed06c3cdba3fcfa441330a3548798
@[go_sem] def aLN:=k 0x1850e24df49c
def OM:TF:=⟨11,[.t 2],(.seq (.reg aLL) (.seq (.reg aLM) (.seq (.reg aLN) .ret)))⟩
/-! horarium/sum.Seal -/
@[go_sem] def aLO:=k 0xa450
@[go_sem] def aLP:=k 0x7cc39bb7958adb5538186c19de040caa6c
def ON:TF:=⟨9,[.t 2],(.seq (.reg aLO) (.seq (.reg aLP) .ret))⟩
/-! horarium/image.body -/
@[go_sem] def aLR:=k 0x11945e1c
@[go_sem] def aLS:=k 0x2ee9c82ec7761ea8be6abdc506ca4940df94254
@[go_sem] def aLT:=k 0x479b5e2897bb732b0
@[go_sem] def aLU:=k 0x1d73bc08
@[go_sem] def aLV:=k 0x8a2a788a13bd5e1aa4cd8
@[go_sem] def aLW:=kd 0x283fb713ccacc0630677ad9434561ad63322b73ffbc6dc65516be115d22abb249
@[go_sem] def aLX:=kd 0x3f820a77f613b1a013d07409a7563294810acf3627ef6189bb832af62f71793a8fc3b1aa29
@[go_sem] def aLY:=k 0x90deecf7fa689f43c1
@[go_sem] def aLZ:=k 0xf577b119
@[go_sem] def aL0:=k 0x2e223fe7af08122e5bf8bb5
@[go_sem] def aBd:=k 0x11404af7504bfc0085e62b284e4afdb41eb672122735b9c3ee
@[go_sem] def aBe:=k 0x140bbca2b5016032
def Qk:TC:=(.seq (.reg aLZ) (.seq (.cond (.t 56) .skip (.exit 2)) (.seq (.block 3 (.seq (.reg aL0) (.reg aBd))) (.reg aBe))))
@[go_sem] def aBf:=k 0x1f7ee57763a4672
@[go_sem] def aBg:=k 0x4bda71996
@[go_sem] def aBh:=k 0x157236cfb2dd613e
@[go_sem] def aBi:=k 0x3c0a63ab8e1cee6b0ea582df4955fe
@[go_sem] def aBj:=k 0x1718a97a9b1c1f52
def Gf:TC:=(.seq (.reg aBg) (.seq (.cond (.t 70) .skip (.exit 4)) (.seq (.block 5 (.seq (.reg aBh) (.reg aBi))) (.reg aBj))))
@[go_sem] def aBk:=k 0x174bf5900f4065a2
def Ql:TC:=(.seq (.reg aLU) (.seq (.cond (.t 27) .skip (.exit 0)) (.seq (.block 1 (.seq (.reg aLV) (.seq (.dreg aLW) (.seq (.dreg aLX) (.seq (.seq (.reg aLY) (.block 2 (.loop Qk))) (.seq (.reg aBf) (.block 4 (.loop Gf)))))))) (.reg aBk))))
@[go_sem] def aBl:=k 0xa064510132c9b4874fcbf8571b807f7d80c5efbde
@[go_sem] def aBm:=k 0x11ac77fb5f91a3ce51c2
@[go_sem] def aBn:=k 0x60533b31a
@[go_sem] def aBo:=k 0x110ea846767d4214cec2f21e2
@[go_sem] def aBp:=kd 0x19c5da4f26be302eac862c1a0be127df9867051774cb81ee9764e25ee71fed77bde4ba
@[go_sem] def aBq:=k 0x135a6e26f710c2ffd8f02515b43855b7342bf56fb3f7df3c7a99ad14829784054d0e
@[go_sem] def aBr:=k 0x21b33111e78dbc42
def Qm:TC:=(.seq (.reg aBn) (.seq (.cond (.t 88) .skip (.exit 6)) (.seq (.block 7 (.seq (.reg aBo) (.seq (.dreg aBp) (.reg aBq)))) (.reg aBr))))
@[go_sem] def aBs:=k 0xe212eda9aab21038e78cc7fbbc34e9ff6d468527e
@[go_sem] def aBt:=k 0x1260cf95b208456ba862
@[go_sem] def aBu:=k 0x85f9059ba
@[go_sem] def aBv:=k 0x149228ffb86ca468bc836
@[go_sem] def aBw:=k 0x38b601cab1e31f36950751bba02831f52884c8f
@[go_sem] def aBx:=k 0xf18cbfea07ec1f
@[go_sem] def aBy:=k 0x914d1a7f2b
@[go_sem] def aBz:=k 0x163d1246d299b4197f481b2765cb
@[go_sem] def aBA:=k 0xb8731b16d7860d667ab4e3f349f79f126eb371243443f1094e0ebed55be65b21dcb51ff
@[go_sem] def aBB:=k 0x2bd4dee2d685b48ae3
def Qn:TC:=(.seq (.reg aBy) (.seq (.cond (.t 133) .skip (.exit 10)) (.seq (.block 11 (.seq (.reg aBz) (.reg aBA))) (.reg aBB))))
@[go_sem] def aBC:=k 0x2c20756a246ff4d133
def Qo:TC:=(.seq (.reg aBu) (.seq (.cond (.t 122) .skip (.exit 8)) (.seq (.block 9 (.seq (.reg aBv) (.seq (.reg aBw) (.seq (.reg aBx) (.block 10 (.loop Qn)))))) (.reg aBC))))
@[go_sem] def aBD:=k 0x162de048f28e576f
def OO:TF:=⟨148,[.t 2],(.seq (.reg aLR) (.seq (.reg aLS) (.seq (.seq (.reg aLT) (.block 0 (.loop Ql))) (.seq (.reg aBl) (.seq (.seq (.reg aBm) (.block 6 (.loop Qm))) (.seq (.reg aBs) (.seq (.seq (.reg aBt) (.block 8 (.loop Qo))) (.seq (.reg aBD) .ret))))))))⟩
/-! horarium/sum.Open -/
@[go_sem] def aL1:=k 0x7bb050
@[go_sem] def aL2:=k 0xa6528d93de068544f370c
@[go_sem] def aL3:=kd 0xe8567515a454c3eb994735780aff36a9ba9dd6d71f283aa8d6274283d1bcd6815a2b828
@[go_sem] def aL4:=k 0x7bb050
@[go_sem] def aL5:=k 0x185247efd153c4604ea71f35e25c
def OP:TF:=⟨26,[.t 2,.t 3],(.seq (.reg aL1) (.seq (.reg aL2) (.seq (.seq (.dreg aL3) (.cond (.t 21) (.seq (.reg aL4) .ret) .skip)) (.seq (.reg aL5) .ret))))⟩
/-! horarium/image.read -/
@[go_sem] def aL6:=k 0xa4a0
@[go_sem] def aL7:=k 0xeaf0
@[go_sem] def aL8:=k 0x1de6c5f0e7d5c
@[go_sem] def aL9:=k 0x90a1668
@[go_sem] def aMa:=kd 0x17bde43fb48ea9df775e359515a776cbda3c2542e3138c90a06a21381664
@[go_sem] def aMb:=k 0x53553edaf8ce0
def Vo:TC:=(.seq (.reg aL9) (.seq (.cond (.t 9) .skip (.exit 0)) (.seq (.block 1 (.dreg aMa)) (.reg aMb))))
@[go_sem] def aMc:=k 0x1fb8ac443c91c
@[go_sem] def aMd:=k 0x16a5da28
@[go_sem] def aMe:=k 0xdf4a525b28cf410fed66241ce189f006720634d69619fb7c3e512e25c
@[go_sem] def aBE:=k 0x579291290fb086e9c306e571f4144b4321982cd2409d29b2d
@[go_sem] def aBF:=k 0x545b424ba57b7a52fb5c5165a2e2419cf8e44361
@[go_sem] def aBG:=k 0xd5f7038ac1c151
def Qp:TC:=(.seq (.reg aMd) (.seq (.cond (.t 21) .skip (.exit 2)) (.seq (.block 3 (.seq (.reg aMe) (.seq (.reg aBE) (.reg aBF)))) (.reg aBG))))
@[go_sem] def aBH:=k 0x205db77813738d
@[go_sem] def aBI:=k 0xd1c0de99
@[go_sem] def aBJ:=k 0x17740
@[go_sem] def aBK:=k 0x82ad02448ccd
@[go_sem] def aBL:=k 0xe39c47d9
@[go_sem] def aBM:=k 0xaeb96ca3c121261caf686b19969e16d0fe532a84db7ef069e0dce44958a0d
@[go_sem] def aBN:=k 0x13408f61a01f941
def Qq:TC:=(.seq (.reg aBL) (.seq (.cond (.t 52) .skip (.exit 6)) (.seq (.block 7 (.reg aBM)) (.reg aBN))))
@[go_sem] def aBO:=k 0x432a8b04dd8d833a845197f601c2f97771a15a32382
@[go_sem] def aBP:=k 0x153be63be8627972
def L2:TC:=(.seq (.reg aBI) (.seq (.cond (.t 48) .skip (.exit 4)) (.seq (.block 5 (.seq (.reg aBJ) (.seq (.seq (.reg aBK) (.block 6 (.loop Qq))) (.reg aBO)))) (.reg aBP))))
@[go_sem] def aBQ:=k 0x18b7fbc690fea
def OQ:TF:=⟨72,[.cell 2 3 true],(.seq (.reg aL6) (.seq (.reg aL7) (.seq (.seq (.reg aL8) (.block 0 (.loop Vo))) (.seq (.seq (.reg aMc) (.block 2 (.loop Qp))) (.seq (.seq (.reg aBH) (.block 4 (.loop L2))) (.seq (.reg aBQ) .ret))))))⟩
/-! horarium/code.Read -/
@[go_sem] def aMf:=k 0xa628
@[go_sem] def aMg:=k 0x3b1f9b06c7861c7faa6c
def OS:TF:=⟨6,[.t 2],(.seq (.reg aMf) (.seq (.reg aMg) .ret))⟩
/-! slices.Equal[[]byte,byte] -/
@[go_sem] def aMh:=k 0x130e8
@[go_sem] def aMi:=k 0xba77b3e5860a39c2d6a87d5c
@[go_sem] def aMj:=k 0x130e8
@[go_sem] def aMk:=k 0xf5058c6dcec
@[go_sem] def aMl:=k 0xeb5a7f8
@[go_sem] def aMm:=k 0x249cb9d2382c
@[go_sem] def aMn:=kd 0x10d683f5b790175a9d870cf74916dd98bd53e588bc399a8
@[go_sem] def aMo:=k 0x130e8
@[go_sem] def aMp:=k 0x7ab60facfff60
def qE:TC:=(.seq (.reg aMl) (.seq (.cond (.t 14) .skip (.exit 0)) (.seq (.block 1 (.seq (.reg aMm) (.seq (.dreg aMn) (.cond (.t 24) (.seq (.reg aMo) .ret) .skip)))) (.reg aMp))))
@[go_sem] def aBR:=k 0x131a0
def OT:TF:=⟨26,[.t 4],(.seq (.reg aMh) (.seq (.seq (.reg aMi) (.cond (.t 10) (.seq (.reg aMj) .ret) .skip)) (.seq (.seq (.reg aMk) (.block 0 (.loop qE))) (.seq (.reg aBR) .ret))))⟩
/-! horarium/horariumref12.But -/
@[go_sem] def aMq:=k 0x21df24de646c
@[go_sem] def aMr:=k 0x10813136fa0582b331970a23842e5684abc9331fb297c267c743cb7f67dd6f207ba377370c9bb97b0
@[go_sem] def aMs:=k 0x130e8
@[go_sem] def aMt:=k 0x479b5e2897bbffcb0
@[go_sem] def aMu:=k 0x1d73bc08
@[go_sem] def aMv:=k 0x43fe7ae80c3c
@[go_sem] def aMw:=kd 0xb0a8e2112088c9d704699ad5a91fc60ea1b1b4f716d8fc0898ab437091b20cecf5
@[go_sem] def aMx:=k 0x130e8
@[go_sem] def aMy:=k 0xc7eefffb1eee61
def qF:TC:=(.seq (.reg aMu) (.seq (.cond (.t 27) .skip (.exit 0)) (.seq (.block 1 (.seq (.reg aMv) (.seq (.dreg aMw) (.cond (.t 40) (.seq (.reg aMx) .ret) .skip)))) (.reg aMy))))
@[go_sem] def aBS:=k 0x8d8e4148b9dcd3c8a1
@[go_sem] def aBT:=k 0xc8d329f9
@[go_sem] def aBU:=k 0x38d922377042d
@[go_sem] def aBV:=kd 0x368334d6f04681b6a3a8f4f2d5a2b000760bc4592363bde2c39765b6a4dd85
@[go_sem] def aBW:=k 0x130e8
@[go_sem] def aBX:=k 0x120453de9a2e001
def Vp:TC:=(.seq (.reg aBT) (.seq (.cond (.t 46) .skip (.exit 2)) (.seq (.block 3 (.seq (.reg aBU) (.seq (.dreg aBV) (.cond (.t 58) (.seq (.reg aBW) .ret) .skip)))) (.reg aBX))))
@[go_sem] def aBY:=k 0x131a0
def OU:TF:=⟨60,[.t 4],(.seq (.reg aMq) (.seq (.seq (.reg aMr) (.cond (.t 22) (.seq (.reg aMs) .ret) .skip)) (.seq (.seq (.reg aMt) (.block 0 (.loop qF))) (.seq (.seq (.reg aBS) (.block 2 (.loop Vp))) (.seq (.reg aBY) .ret)))))⟩
/-! horarium/cursor.New -/
@[go_sem] def aMz:=k 0xa628
@[go_sem] def aMA:=k 0x1a85b110454ef0bc
@[go_sem] def aMB:=k 0xa628
@[go_sem] def aMC:=k 0x102c0999a8c1bb305615ac3ac
@[go_sem] def aMD:=k 0xd5a78cbaec
@[go_sem] def aME:=k 0x1f8ed3aec78c
def OV:TF:=⟨14,[.t 2],(.seq (.reg aMz) (.seq (.seq (.reg aMA) (.cond (.t 6) (.seq (.reg aMB) .ret) .skip)) (.seq (.reg aMC) (.seq (.reg aMD) (.seq (.reg aME) .ret)))))⟩
/-! (*horarium/cursor.Cursor).Next -/
@[go_sem] def aMF:=k 0x7bb0a8
@[go_sem] def aMG:=kd 0xfc5d030df0de1307525b707d52e1404489ecd4d6ba48dca298
@[go_sem] def aMH:=k 0x8d93ce2c0df400
@[go_sem] def aMI:=kd 0xa8e655aedd3e5bf0e4d43957d7dc14bc55191e938348ee8a4dc8763491a59d101809923d6dc54242e0b99f7cf00cc311c594c738b092de74bf5f01d39e685f8f63dd76665cddf8e3071266b5c359a9
@[go_sem] def aMJ:=kd 0x1222f3279d48581b863c787dc659298e91f00ce473b9816dd18c929742e9
@[go_sem] def aMK:=k 0x10030cfda60d
@[go_sem] def aML:=k 0x11c0589d965d38321
def KP:TF:=⟨56,[.cell 2 2 true,.t 3],(.seq (.reg aMF) (.seq (.seq (.dreg aMG) (.cond (.t 14) (.seq (.reg aMH) .ret) .skip)) (.seq (.dreg aMI) (.seq (.dreg aMJ) (.seq (.reg aMK) (.seq (.reg aML) .ret))))))⟩
/-! horarium/runs.Tidy -/
@[go_sem] def aMM:=k 0xa450
@[go_sem] def aMN:=k 0xeaa0
@[go_sem] def aMO:=k 0xf031961c3ac
@[go_sem] def aMP:=k 0xa2c66b8
@[go_sem] def aMQ:=k 0x7dc767740519e0f62f754
@[go_sem] def aMR:=k 0x4b4eeeebadb3c78c
@[go_sem] def aMS:=k 0x41dc73b5dafc549c392c7c0
@[go_sem] def aMT:=kd 0xc6cb94d771d81ce1b4cba0ccb45557032f87f6f424e09e1b20225c97bb73d84c96d7373dd6b2b1b29
@[go_sem] def aMU:=kd 0x6fa4f2b3c4b02dafe51d973998518229f7896125d7e99a3d54fb21b99252f73e615c224c7954a85f4a05ac99
@[go_sem] def aMV:=k 0x39f3d5048abe6c46d921e3942c
@[go_sem] def aBZ:=k 0xf6ee50c76cad81
def Vq:TC:=(.seq (.reg aMP) (.seq (.cond (.t 10) .skip (.exit 0)) (.seq (.block 1 (.seq (.reg aMQ) (.seq (.reg aMR) (.block 2 (.seq (.reg aMS) (.cond (.t 19) .skip (.seq (.dreg aMT) (.cond (.t 23) (.dreg aMU) (.reg aMV))))))))) (.reg aBZ))))
@[go_sem] def aB0:=k 0x119508b526c1331bbd
def OW:TF:=⟨54,[.t 2],(.seq (.reg aMM) (.seq (.reg aMN) (.seq (.seq (.reg aMO) (.block 0 (.loop Vq))) (.seq (.reg aB0) .ret))))⟩
/-! horarium/bound.Late -/
@[go_sem] def aMW:=k 0x1bd68
@[go_sem] def aMX:=k 0x54e5e5070284864be0866c2c8b281486d428f62c
@[go_sem] def aMY:=k 0x23ef6f5284f9b268ba685c
@[go_sem] def aMZ:=k 0x1bd68
@[go_sem] def aM0:=k 0x29f1da4208f546e8284b9c
@[go_sem] def aM1:=k 0x1be2c
@[go_sem] def aM2:=k 0xa0ac219549c18e8c
@[go_sem] def aM3:=k 0x2d6a8
@[go_sem] def aM4:=k 0x7d39e262a72d
@[go_sem] def aM5:=k 0x9340ee39
@[go_sem] def aB1:=k 0x4944700a66ed956dd88c8d5
@[go_sem] def aB2:=k 0x336f6078d51ca7e9ab825d0202ec4c904dc1d3111
@[go_sem] def aB3:=k 0xc45c4fa9
@[go_sem] def aB4:=k 0x3e9efbca076f7e42a25
@[go_sem] def aB5:=k 0x2027b029a95e97f242f35b7b9392f6b71320ee59716ec0c0e7d
@[go_sem] def aB6:=k 0x111b60b4c3d0d11
def L3:TC:=(.seq (.reg aB3) (.seq (.cond (.t 45) .skip (.exit 3)) (.seq (.block 4 (.seq (.reg aB4) (.reg aB5))) (.reg aB6))))
@[go_sem] def aB7:=k 0x115b59308e65361
def Vr:TC:=(.seq (.reg aM5) (.seq (.cond (.t 34) .skip (.exit 1)) (.seq (.block 2 (.seq (.reg aB1) (.seq (.reg aB2) (.block 3 (.loop L3))))) (.reg aB7))))
@[go_sem] def aB8:=k 0x462007412cd9d
def OX:TF:=⟨59,[.t 6],(.seq (.reg aMW) (.seq (.reg aMX) (.seq (.block 0 (.seq (.reg aMY) (.cond (.t 21) (.seq (.reg aMZ) .ret) (.seq (.reg aM0) (.cond (.t 25) (.seq (.reg aM1) .ret) .skip))))) (.seq (.reg aM2) (.seq (.reg aM3) (.seq (.seq (.reg aM4) (.block 1 (.loop Vr))) (.seq (.reg aB8) .ret)))))))⟩
/-! horarium/bound.Budget -/
@[go_sem] def aNe:=k 0x1bd68
@[go_sem] def aNf:=k 0x50c73c3bcf066fdc
@[go_sem] def aNg:=k 0x11a23f4713d1d2a0d6ca51d7511a7e3c092cb4f36c4b442a93c22922109c507c
@[go_sem] def aNh:=k 0x1be2c
@[go_sem] def aNi:=k 0x2c159f5fb24fac60ac883c
@[go_sem] def aNj:=k 0x4b89aad9ef2c
@[go_sem] def aNk:=k 0x2d6a8
@[go_sem] def aNl:=k 0xac77fc0bc37a3a97d
@[go_sem] def aNm:=k 0x31cf8
@[go_sem] def aNn:=k 0x7f569e32275d
@[go_sem] def aB9:=k 0xb280e669
@[go_sem] def aCa:=k 0x4fbb66e34531c22ebc8c105
@[go_sem] def aCb:=k 0x3a9b6e14a82f77005be9ec6c93b6065da15fa8049b5fbc2146f401f977c33df24bc85c9f0a646375893d
@[go_sem] def aCc:=k 0x11b10b856a999b1
def Vs:TC:=(.seq (.reg aB9) (.seq (.cond (.t 41) .skip (.exit 2)) (.seq (.block 3 (.seq (.reg aCa) (.reg aCb))) (.reg aCc))))
@[go_sem] def aCd:=k 0x164514b4bc7887068f297fed
@[go_sem] def aCe:=k 0xd88d6ede1d2fce634b07c6d
def Vt:TC:=(.seq (.seq (.reg aNl) (.cond (.t 34) .skip (.exit 0))) (.seq (.block 1 (.seq (.reg aNm) (.seq (.seq (.reg aNn) (.block 2 (.loop Vs))) (.reg aCd)))) (.reg aCe)))
@[go_sem] def aCf:=k 0x4af3fd80252dd
def OY:TF:=⟨63,[.t 6],(.seq (.reg aNe) (.seq (.reg aNf) (.seq (.seq (.reg aNg) (.cond (.t 27) (.seq (.reg aNh) .ret) .skip)) (.seq (.reg aNi) (.seq (.reg aNj) (.seq (.seq (.reg aNk) (.block 0 (.loop Vt))) (.seq (.reg aCf) .ret)))))))⟩
/-! horarium/node.Length -/
@[go_sem] def aNo:=k 0xf622428
@[go_sem] def aNp:=k 0x129395c30d0fd5c
@[go_sem] def aNq:=k 0xf622428
@[go_sem] def aNr:=k 0x191d7cd4a9897373055794dbca8dedba969c
@[go_sem] def aNs:=k 0x10ec43a21dc
@[go_sem] def aNt:=k 0x1241a835212e7c
@[go_sem] def aNu:=k 0xf622428
def OZ:TF:=⟨17,[.t 2,.t 3],(.seq (.reg aNo) (.seq (.seq (.reg aNp) (.cond (.t 8) (.seq (.reg aNq) .ret) .skip)) (.seq (.seq (.reg aNr) (.seq (.reg aNs) (.cond (.t 15) (.seq (.reg aNt) .ret) .skip))) (.seq (.reg aNu) .ret))))⟩
/-! horarium/node.whole -/
@[go_sem] def aNv:=k 0xa448
@[go_sem] def aNw:=k 0x10fd1e38173e5ee39285bca483d58a8283abf84e5a12379d2cbfcaa6c
def O0:TF:=⟨13,[.t 2],(.seq (.reg aNv) (.seq (.reg aNw) .ret))⟩
/-! horarium/node.Depth -/
@[go_sem] def aNx:=k 0xa428
@[go_sem] def aNy:=k 0xfeca569277b70c
@[go_sem] def aNz:=k 0xa428
@[go_sem] def aNA:=k 0x172eefc9ecd074a3121f6085dcb67f61504c
@[go_sem] def aNB:=k 0x1f8ed3aec78c
def O1:TF:=⟨14,[.t 2],(.seq (.reg aNx) (.seq (.seq (.reg aNy) (.cond (.t 7) (.seq (.reg aNz) .ret) .skip)) (.seq (.reg aNA) (.seq (.reg aNB) .ret))))⟩
/-! horarium/horariumref3.Depth -/
@[go_sem] def aNC:=k 0xa428
@[go_sem] def aNE:=k 0x208076982ef927645e6ddf80bb06c7d29a9d08761710b5caa6c
@[go_sem] def aNF:=k 0xa428
@[go_sem] def aNG:=k 0x954a6644ebd70a98c
def O2:TF:=⟨15,[.t 2],(.seq (.reg aNC) (.seq (.seq (.reg aNE) (.cond (.t 12) (.seq (.reg aNF) .ret) .skip)) (.seq (.reg aNG) .ret)))⟩
/-! horarium/horariumref3.Length -/
@[go_sem] def aNH:=k 0xf622428
@[go_sem] def aNI:=k 0x1fd34bd5d230f70c
@[go_sem] def aNJ:=k 0xf622428
@[go_sem] def aNK:=k 0x60e9726ae76e889fc
@[go_sem] def aNL:=k 0xc1db96fe9c
@[go_sem] def aNM:=k 0xf622428
@[go_sem] def aNN:=k 0x12380048974b3c
def O3:TF:=⟨13,[.t 2,.t 3],(.seq (.reg aNH) (.seq (.seq (.reg aNI) (.cond (.t 7) (.seq (.reg aNJ) .ret) .skip)) (.seq (.reg aNK) (.seq (.seq (.reg aNL) (.cond (.t 11) (.seq (.reg aNM) .ret) .skip)) (.seq (.reg aNN) .ret)))))⟩
/-! horarium/horariumref3.leaves -/
@[go_sem] def aNO:=k 0x1bd90
@[go_sem] def aNP:=k 0x299e041c33172a3b124067969c
@[go_sem] def aNQ:=k 0x4f8fa6e26c694
@[go_sem] def aNR:=kd 0x1852b980cc5154b86e68a0193901f90eacdebb6ee5f21c7556a1edbab2fdb21756f45a577a65cf64d8
@[go_sem] def aNS:=k 0x9cdbe6c3720995
@[go_sem] def aNT:=k 0x1a52161eee2f9f0d37dc2afd379f9a8a00a33ecafa3db40c5b4fcd
@[go_sem] def aNU:=k 0xd2cbe9d6983705
@[go_sem] def aNV:=k 0x203b8
@[go_sem] def aNW:=k 0x159eaf7dff4cb5c782662c42f1b1e200cb6393d
@[go_sem] def aNX:=k 0x1912b6c457085116f342e828e33c88a1a60d
@[go_sem] def aCg:=k 0x451b30985425e15256d
def Vu:TC:=(.seq (.seq (.reg aNW) (.cond (.t 50) .skip (.exit 1))) (.seq (.block 2 (.reg aNX)) (.reg aCg)))
@[go_sem] def aCh:=k 0x4620073862d9d
@[go_sem] def aCi:=k 0x2884b42ec821f9a76a34bed
@[go_sem] def aCj:=k 0x45c015b9a
@[go_sem] def aCk:=k 0xaf3b2a02ceccf2fcca16
@[go_sem] def aCl:=k 0x1c0439d8de27388f0f903250b6de7e6e
@[go_sem] def aCm:=k 0x1592cd8d81a2bfc2
def Vv:TC:=(.seq (.reg aCj) (.seq (.cond (.t 64) .skip (.exit 3)) (.seq (.block 4 (.seq (.reg aCk) (.reg aCl))) (.reg aCm))))
@[go_sem] def aCn:=k 0x2b7b4d65a62dfe
def H5:TF:=⟨73,[.t 6],(.seq (.reg aNO) (.seq (.seq (.reg aNP) (.block 0 (.seq (.reg aNQ) (.cond (.t 15) (.seq (.dreg aNR) .ret) (.seq (.reg aNS) (.cond (.t 31) (.seq (.reg aNT) .ret) (.seq (.reg aNU) (.cond (.t 42) (.seq (.seq (.reg aNV) (.block 1 (.loop Vu))) (.seq (.reg aCh) .ret)) .skip)))))))) (.seq (.seq (.reg aCi) (.block 3 (.loop Vv))) (.seq (.reg aCn) .ret))))⟩
/-! horarium/horariumref7.words -/
@[go_sem] def aNY:=k 0xa450
@[go_sem] def aNZ:=k 0xeaa0
@[go_sem] def aN0:=k 0xf031961c3ac
@[go_sem] def aN1:=k 0xa2c66b8
@[go_sem] def aN2:=k 0x7dc767740519e0f62f754
@[go_sem] def aN3:=k 0x1bd68
@[go_sem] def aN4:=k 0x148c5a4574b1f82ede7750ce26274066aeef4ce2fa658c
@[go_sem] def aN5:=k 0x18b5860c3a0a52828e7fb70ad7c30cfc
@[go_sem] def aN6:=k 0xf6178064be99dde5c
def qH:TC:=(.seq (.seq (.reg aN4) (.cond (.t 21) .skip (.exit 2))) (.seq (.block 3 (.reg aN5)) (.reg aN6)))
@[go_sem] def aCo:=k 0x8d6b699ec18a0
def Vw:TC:=(.seq (.reg aN1) (.seq (.cond (.t 10) .skip (.exit 0)) (.seq (.block 1 (.seq (.reg aN2) (.seq (.reg aN3) (.block 2 (.loop qH))))) (.reg aCo))))
@[go_sem] def aCp:=k 0x489880d372dc
def O4:TF:=⟨31,[.t 2],(.seq (.reg aNY) (.seq (.reg aNZ) (.seq (.seq (.reg aN0) (.block 0 (.loop Vw))) (.seq (.reg aCp) .ret))))⟩
/-! horarium/horariumref12.Where -/
@[go_sem] def aN7:=k 0xe7be957de1c
@[go_sem] def aN8:=k 0x869891ac85cbe5e0cdbf63dacb24206d57aacbe2aace696c9218db4470103ec71458c7318a1f9d8837ec9753f2552d469735213e63c350bb25040fdbd70556fda3683aea544ffb3d3b6bce561081
@[go_sem] def aN9:=k 0x6b28228
@[go_sem] def aOa:=k 0x8e37fd38938a5dc141
@[go_sem] def aOb:=k 0xd1c0de99
@[go_sem] def aOc:=k 0xa363b986a13ab8ec82e57b5758435b8cd
@[go_sem] def aOd:=k 0x4ead022e013c7892a643c1
@[go_sem] def aOe:=k 0x129099a09cd047c8fd
@[go_sem] def aOf:=k 0x1bd68
@[go_sem] def aOg:=k 0x133251c076cd38374d
@[go_sem] def aCq:=kd 0xe6af70902c9f09503a049432f1ba237f8b3bdecda25d4f43da93d226
@[go_sem] def aCr:=k 0x1789997471b1c6837ae
@[go_sem] def aCs:=k 0x510516eafb3ff060a3d
def Vx:TC:=(.seq (.seq (.reg aOg) (.cond (.t 59) .skip (.exit 2))) (.seq (.block 3 (.seq (.dreg aCq) (.cond (.t 70) (.seq (.reg aCr) .ret) .skip))) (.reg aCs)))
@[go_sem] def aCt:=k 0x306752efbf5f7a6a2
@[go_sem] def aCu:=k 0x18dd11108d9e46950ee
@[go_sem] def aCv:=k 0x170b6293e8641f52
def Vy:TC:=(.seq (.reg aOb) (.seq (.cond (.t 48) .skip (.exit 0)) (.seq (.block 1 (.seq (.reg aOc) (.seq (.seq (.reg aOd) (.cond (.t 55) (.seq (.reg aOe) .ret) .skip)) (.seq (.seq (.reg aOf) (.block 2 (.loop Vx))) (.seq (.reg aCt) (.cond (.t 74) (.seq (.reg aCu) .ret) .skip)))))) (.reg aCv))))
@[go_sem] def aCw:=k 0x118756e3216a2bcc6592
@[go_sem] def aCx:=k 0x5892faeea
@[go_sem] def aCy:=k 0x1e75f85b5e2b5113f4c55a39b636f7331d1e
@[go_sem] def aCz:=k 0x27204f8b4014c1c8276b76e42094510b0b6
@[go_sem] def aCA:=k 0x1e2aef64058acd72dee
@[go_sem] def aCB:=k 0x1bf3432df47c8452
def Vz:TC:=(.seq (.reg aCx) (.seq (.cond (.t 81) .skip (.exit 4)) (.seq (.block 5 (.seq (.reg aCy) (.seq (.reg aCz) (.cond (.t 90) (.seq (.reg aCA) .ret) .skip)))) (.reg aCB))))
@[go_sem] def aCC:=k 0x11dc34d16656bd64ca92
@[go_sem] def aCD:=k 0x6a4a693ea
@[go_sem] def aCE:=k 0x5006e8a4eef1d1ff2f2ed2046e021e
@[go_sem] def aCF:=k 0xcad7e57c1e07c7a5822b7dd0afcd3aa6c1947ab5e
@[go_sem] def aCG:=k 0x3ff8815c27149e
@[go_sem] def aCH:=k 0x13d97aa5b4ec0e1c988fa13e
@[go_sem] def aCI:=k 0x423be208d05de
@[go_sem] def aCJ:=k 0x7c01d78ea
@[go_sem] def aCK:=k 0x15b654f75b2319dbded18e786
@[go_sem] def aCL:=k 0x19ec2be372c334b1b01b814fd48fe940c23c2
@[go_sem] def aCM:=k 0x2871ce09609e526019e
@[go_sem] def aCN:=k 0x2561402527050802
def VA:TC:=(.seq (.reg aCJ) (.seq (.cond (.t 113) .skip (.exit 8)) (.seq (.block 9 (.seq (.reg aCK) (.seq (.reg aCL) (.cond (.t 121) (.seq (.reg aCM) .ret) .skip)))) (.reg aCN))))
@[go_sem] def aCO:=k 0xb7bc565ff511d4c2fd2314e7a
@[go_sem] def aCP:=k 0x13293976aea0592f
@[go_sem] def aCQ:=k 0x5eb1dd069b1fb45daff520e5cf
@[go_sem] def aCR:=k 0x2795f8f5a6f8b0b283
def VC:TC:=(.seq (.reg aCD) (.seq (.cond (.t 97) .skip (.exit 6)) (.seq (.block 7 (.seq (.reg aCE) (.seq (.reg aCF) (.seq (.seq (.reg aCG) (.cond (.t 107) (.seq (.reg aCH) .ret) .skip)) (.seq (.seq (.reg aCI) (.block 8 (.loop VA))) (.seq (.reg aCO) (.seq (.reg aCP) (.cond (.t 128) (.seq (.reg aCQ) .ret) .skip)))))))) (.reg aCR))))
@[go_sem] def aCS:=k 0x3c6d6428
def O5:TF:=⟨132,[.t 2,.t 3],(.seq (.reg aN7) (.seq (.seq (.reg aN8) (.cond (.t 43) (.seq (.reg aN9) .ret) .skip)) (.seq (.seq (.reg aOa) (.block 0 (.loop Vy))) (.seq (.seq (.reg aCw) (.block 4 (.loop Vz))) (.seq (.seq (.reg aCC) (.block 6 (.loop VC))) (.seq (.reg aCS) .ret))))))⟩
/-! horarium/horariumref1.Open -/
@[go_sem] def aOh:=k 0x7bb050
@[go_sem] def aOi:=kd 0x169dc6d2877c8bd88e2aaae1e0a2483f65076653da3599451b79f7d19e5c36e878f42103a368
@[go_sem] def aOj:=k 0x7bb050
@[go_sem] def aOk:=k 0x2040516bb25b5ec6a927708bab880a34605f2aae24
def O6:TF:=⟨26,[.t 2,.t 3],(.seq (.reg aOh) (.seq (.seq (.dreg aOi) (.cond (.t 18) (.seq (.reg aOj) .ret) .skip)) (.seq (.reg aOk) .ret)))⟩
/-! (*horarium/horariumref1.Reader).Int -/
@[go_sem] def aOn:=k 0x1bd68
@[go_sem] def aOo:=k 0x30f4060cb80ac9fc
@[go_sem] def aOp:=k 0x729bcacd0cde2b5d78ddf17d277a3ee90a2251c9c
@[go_sem] def aOq:=k 0xf114bd3802a1395cc91c
@[go_sem] def aOr:=k 0x1bd68
@[go_sem] def aOs:=k 0x332bec38220c
def O7:TF:=⟨22,[.t 6],(.seq (.reg aOn) (.seq (.reg aOo) (.seq (.seq (.reg aOp) (.cond (.t 17) (.seq (.reg aOq) (.seq (.reg aOr) .ret)) .skip)) (.seq (.reg aOs) .ret))))⟩
/-! horarium/horariumref12.readPart -/
@[go_sem] def aOt:=k 0xa4f4
@[go_sem] def aOu:=k 0xa924986b53b7b89fff9a503ac
@[go_sem] def aOv:=k 0x120366aaece404295d569c
@[go_sem] def aOw:=k 0x168536d3f4241fe8e9298c
@[go_sem] def aOx:=k 0x1f58026684537169bd1fd444997c7c
@[go_sem] def aOy:=k 0x25f22a50acae328766f1d1d49a95bc
@[go_sem] def aOz:=k 0x2154a7c1dd7044daefc
@[go_sem] def aOA:=k 0x3ec39995e39c
@[go_sem] def aOB:=k 0x14aa08850fe591d4dc
@[go_sem] def aOC:=kd 0x11a5c55a042908b61545856d684da469c6493e67867f332b7bc223a2fe43b8db2ec20780b685
@[go_sem] def aCT:=k 0x1351430f903863b03c
def Qr:TC:=(.seq (.seq (.reg aOA) (.cond (.t 27) .skip (.exit 0))) (.seq (.block 1 (.seq (.reg aOB) (.dreg aOC))) (.reg aCT)))
@[go_sem] def aCU:=k 0xb5a59
@[go_sem] def aCV:=k 0xb49084d5
@[go_sem] def aCW:=k 0x34052bf2f9aed
@[go_sem] def aCX:=k 0x55af5c34c45ce707758f5f2f2745da5a4a53d
@[go_sem] def aCY:=k 0xefb05ff40c20e1
def G5:TC:=(.seq (.reg aCV) (.seq (.cond (.t 42) .skip (.exit 2)) (.seq (.block 3 (.seq (.reg aCW) (.reg aCX))) (.reg aCY))))
@[go_sem] def aCZ:=k 0x35ea92448fc1
def O8:TF:=⟨51,[.cell 2 11 true],(.seq (.reg aOt) (.seq (.reg aOu) (.seq (.reg aOv) (.seq (.reg aOw) (.seq (.reg aOx) (.seq (.reg aOy) (.seq (.seq (.reg aOz) (.block 0 (.loop Qr))) (.seq (.seq (.reg aCU) (.block 2 (.loop G5))) (.seq (.reg aCZ) .ret)))))))))⟩
/-! horarium/horariumref12.readChan -/
@[go_sem] def aOD:=k 0xa518
@[go_sem] def aOE:=k 0x148aef6e3d8c03ad8eba3d330bc
@[go_sem] def aOF:=k 0x36065a1cce08c7cfcfd403ac
@[go_sem] def aOG:=k 0x1570c68a31b18b092064d7ec97d69c
@[go_sem] def aOH:=k 0x6017463f548c13322b87efdc
@[go_sem] def aOI:=k 0x83fa3195b50de9fe037f83a02cc
@[go_sem] def aOJ:=k 0x228a0c9876c3d7d7b35c0c
@[go_sem] def aOK:=k 0x6b09370cda4
def O9:TF:=⟨25,[.cell 2 6 true],(.seq (.reg aOD) (.seq (.reg aOE) (.seq (.reg aOF) (.seq (.reg aOG) (.seq (.reg aOH) (.seq (.reg aOI) (.seq (.reg aOJ) (.seq (.reg aOK) .ret))))))))⟩
/-! (*horarium/horariumref1.Reader).Num -/
@[go_sem] def aOL:=k 0xa428
@[go_sem] def aOM:=k 0x1ebdfb9d216e33edcfdd05ddaf859d50e5e179bf1dfd2d7d5c
@[go_sem] def aON:=k 0x955cc1d6cd2b34438c7a1683629f04447219e698c
@[go_sem] def aOO:=k 0x1140b887ede4a14689c0c
@[go_sem] def aOP:=k 0xa428
@[go_sem] def aOQ:=k 0x14cce55335ea737ccbacfacde447756ef590c1920ebe17b435aefd
@[go_sem] def aOR:=k 0x27dff4500e3cd
def Pa:TF:=⟨34,[.t 2],(.seq (.reg aOL) (.seq (.reg aOM) (.seq (.seq (.reg aON) (.cond (.t 20) (.seq (.reg aOO) (.seq (.reg aOP) .ret)) .skip)) (.seq (.reg aOQ) (.seq (.reg aOR) .ret)))))⟩
/-! (*horarium/horariumref1.Reader).Done -/
@[go_sem] def aOS:=k 0xa448
@[go_sem] def aOT:=k 0xe10181392101df03cde4259abc83299596e72e72a535feb6ca9f8d27acbbef221aa6c
def Pb:TF:=⟨16,[.t 2],(.seq (.reg aOS) (.seq (.reg aOT) .ret))⟩
/-! horarium/horariumref1.Next -/
@[go_sem] def aOU:=k 0x13264
@[go_sem] def aOV:=k 0x4d714f65abc69c6859b7251a06c3ac
@[go_sem] def aOW:=k 0x17718
@[go_sem] def aOX:=k 0x1d925724953c
@[go_sem] def aOY:=k 0x5b388a03c6d07c7c
@[go_sem] def aOZ:=k 0x64d5ad10309c491c
@[go_sem] def aO0:=k 0x1838d5cd1bc
@[go_sem] def aO1:=k 0x7a0d26853ed3e25c
@[go_sem] def aO2:=k 0xa0e4bcae24092e1dc
def qI:TC:=(.seq (.seq (.reg aOX) (.cond (.t 13) .skip (.exit 0))) (.seq (.block 1 (.seq (.reg aOY) (.seq (.reg aOZ) (.seq (.reg aO0) (.cond (.t 21) (.reg aO1) .skip))))) (.reg aO2)))
@[go_sem] def aC0:=k 0x3a433da96efc
def Pc:TF:=⟨25,[.t 4],(.seq (.reg aOU) (.seq (.reg aOV) (.seq (.seq (.reg aOW) (.block 0 (.loop qI))) (.seq (.reg aC0) .ret))))⟩
/-! horarium/config.Where -/
@[go_sem] def aO3:=k 0xe7be957de1c
@[go_sem] def aO4:=k 0x74ea25256323364d2dfc36bda7a3ddee26cff4be8482fc15f3d75d4a183999cce187f5587315a82ad407e88acecfff9d601f7d9ff97091a5bfd5e3fe58642947ba3fa3ed042a693a23cb9154b0f1
@[go_sem] def aO5:=k 0x6b28228
@[go_sem] def aO6:=k 0x8c8fa760f34d5c61b1
@[go_sem] def aO7:=k 0xbb6e9b09
@[go_sem] def aO8:=k 0xa13109a76f92967a02bc1dc5309e8753d
@[go_sem] def aO9:=k 0x281c55d2cf92bc8f839e8863e196950d9f4eacb39d2745c8f379b65f6355a4e431
@[go_sem] def aPa:=k 0x138f334e73d0489bed
@[go_sem] def aPb:=k 0x50e51242cef076e1
@[go_sem] def aPc:=k 0x14e2aaf437a949b52d
@[go_sem] def aC1:=k 0x13696569a87cd392
def VD:TC:=(.seq (.reg aO7) (.seq (.cond (.t 43) .skip (.exit 0)) (.seq (.block 1 (.seq (.reg aO8) (.seq (.seq (.reg aO9) (.cond (.t 58) (.seq (.reg aPa) .ret) .skip)) (.seq (.reg aPb) (.cond (.t 62) (.seq (.reg aPc) .ret) .skip))))) (.reg aC1))))
@[go_sem] def aC2:=k 0x1147b0706db8cbc919d2
@[go_sem] def aC3:=k 0x4b496832a
@[go_sem] def aC4:=k 0x1a9d456b3e2013bbae7379c8d409b2c9f15e
@[go_sem] def aC5:=k 0xda89dc6e8b9fc74ce2b4c8a
@[go_sem] def aC6:=k 0x1986cce36f8acb02d8e
@[go_sem] def aC7:=k 0x17b28dc3c188abf2
def VE:TC:=(.seq (.reg aC3) (.seq (.cond (.t 69) .skip (.exit 2)) (.seq (.block 3 (.seq (.reg aC4) (.seq (.reg aC5) (.cond (.t 76) (.seq (.reg aC6) .ret) .skip)))) (.reg aC7))))
@[go_sem] def aC8:=k 0x1191f2a0ea07cd60f232
@[go_sem] def aC9:=k 0x5ac9e8b8a
@[go_sem] def aDa:=k 0x44d2c2b429b00e1560819d349df9be
@[go_sem] def aDb:=k 0x81c6a18b7427ccacd6f0724ea
@[go_sem] def aDc:=k 0x365094dbdc5f9e
@[go_sem] def aDd:=k 0x10ef94158b256fe79ab4ec3e
@[go_sem] def aDe:=k 0x1c8ef6f3a7a510f2
def VF:TC:=(.seq (.reg aC9) (.seq (.cond (.t 83) .skip (.exit 4)) (.seq (.block 5 (.seq (.reg aDa) (.seq (.reg aDb) (.seq (.reg aDc) (.cond (.t 91) (.seq (.reg aDd) .ret) .skip))))) (.reg aDe))))
@[go_sem] def aDf:=k 0x3c6d6428
def Pd:TF:=⟨95,[.t 2,.t 3],(.seq (.reg aO3) (.seq (.seq (.reg aO4) (.cond (.t 38) (.seq (.reg aO5) .ret) .skip)) (.seq (.seq (.reg aO6) (.block 0 (.loop VD))) (.seq (.seq (.reg aC2) (.block 2 (.loop VE))) (.seq (.seq (.reg aC8) (.block 4 (.loop VF))) (.seq (.reg aDf) .ret))))))⟩
/-! slices.Concat[[]byte,byte] -/
@[go_sem] def aPd:=k 0xa450
@[go_sem] def aPe:=k 0xea78
@[go_sem] def aPf:=k 0xf29b914504c
@[go_sem] def aPg:=k 0xc710758
@[go_sem] def aPh:=k 0x9648fff2ba6af97d4
@[go_sem] def aPi:=k 0x39f3d5048a29e78c8f1887542c
@[go_sem] def aPj:=k 0x2dddb62ced6c
@[go_sem] def aPk:=k 0x6d2184ec
@[go_sem] def aPl:=k 0x6beced65cac70
def qJ:TC:=(.seq (.reg aPg) (.seq (.cond (.t 12) .skip (.exit 0)) (.seq (.block 1 (.seq (.reg aPh) (.seq (.reg aPi) (.seq (.reg aPj) (.cond (.t 20) (.reg aPk) .skip))))) (.reg aPl))))
@[go_sem] def aDg:=k 0x80599e903faac6ac
@[go_sem] def aDh:=k 0x105eb6a8b54c
@[go_sem] def aDi:=k 0x1e960c58
@[go_sem] def aDj:=k 0x1410365448dad49cd4
@[go_sem] def aDk:=k 0xc0e10026c85173744c1132d
@[go_sem] def aDl:=k 0xa6369418820231
def Qs:TC:=(.seq (.reg aDi) (.seq (.cond (.t 28) .skip (.exit 2)) (.seq (.block 3 (.seq (.reg aDj) (.reg aDk))) (.reg aDl))))
@[go_sem] def aDm:=k 0x2a49ef7362c6d
def Pe:TF:=⟨36,[.t 2],(.seq (.reg aPd) (.seq (.reg aPe) (.seq (.seq (.reg aPf) (.block 0 (.loop qJ))) (.seq (.reg aDg) (.seq (.seq (.reg aDh) (.block 2 (.loop Qs))) (.seq (.reg aDm) .ret))))))⟩
/-! horarium/sum.tail -/
@[go_sem] def aPm:=k 0xa450
@[go_sem] def aPn:=k 0x17e6f794f0db3602e703c5998b4298e72d8e26dfececa35843f43ca3bf76a6c
def Pg:TF:=⟨15,[.t 2],(.seq (.reg aPm) (.seq (.reg aPn) .ret))⟩
/-! horarium/sum.Of -/
@[go_sem] def aPo:=k 0xa5c4
@[go_sem] def aPp:=k 0xecf0
@[go_sem] def aPq:=k 0xeefc9887d5c
@[go_sem] def aPr:=k 0x90a1668
@[go_sem] def aPs:=k 0x7675c9c3fb1e8a6e4
@[go_sem] def aPt:=k 0x148c27312e337e45c6813c
@[go_sem] def aPu:=k 0x49ad525af0040
def qK:TC:=(.seq (.reg aPr) (.seq (.cond (.t 9) .skip (.exit 0)) (.seq (.block 1 (.seq (.reg aPs) (.reg aPt))) (.reg aPu))))
@[go_sem] def aPv:=k 0x5a8ece3a80d51a7c
def Ph:TF:=⟨18,[.t 2],(.seq (.reg aPo) (.seq (.reg aPp) (.seq (.seq (.reg aPq) (.block 0 (.loop qK))) (.seq (.reg aPv) .ret))))⟩
/-! horarium/image.nums -/
@[go_sem] def aPB:=k 0x130f0
@[go_sem] def aPC:=k 0xf03196a8dac
@[go_sem] def aPD:=k 0xa2c66b8
@[go_sem] def aPE:=k 0x81666462d7e2af734
@[go_sem] def aPF:=k 0x15de238983961454c5698c
@[go_sem] def aPG:=k 0x4ea7e85e88690
def qM:TC:=(.seq (.reg aPD) (.seq (.cond (.t 10) .skip (.exit 0)) (.seq (.block 1 (.seq (.reg aPE) (.reg aPF))) (.reg aPG))))
@[go_sem] def aPH:=k 0x295d5fc782cc
def Pi:TF:=⟨18,[.t 4],(.seq (.reg aPB) (.seq (.seq (.reg aPC) (.block 0 (.loop qM))) (.seq (.reg aPH) .ret)))⟩
/-! horarium/code.Text -/
@[go_sem] def aPI:=k 0x130f0
@[go_sem] def aPJ:=k 0x2f445910a4423088c8a85f4afeb1ac39fb26370c
def Pj:TF:=⟨12,[.t 4],(.seq (.reg aPI) (.seq (.reg aPJ) .ret))⟩
/-! horarium/code.Flag -/
@[go_sem] def aPK:=k 0x130f0
@[go_sem] def aPL:=k 0xa410c
@[go_sem] def aPM:=k 0x4bb1f8f79545bbd5c
@[go_sem] def aPN:=k 0x60e9726adfac349fc
def Pk:TF:=⟨10,[.t 4],(.seq (.reg aPK) (.seq (.seq (.reg aPL) (.cond (.t 5) (.seq (.reg aPM) .ret) .skip)) (.seq (.reg aPN) .ret)))⟩
/-! slices.Clone[[]byte,byte] -/
@[go_sem] def aPO:=k 0xa450
@[go_sem] def aPP:=k 0x3a9c082a6c
@[go_sem] def aPQ:=k 0xa450
@[go_sem] def aPR:=k 0x526ecd1354b2630fd5c4
def Pl:TF:=⟨8,[.t 2],(.seq (.reg aPO) (.seq (.seq (.reg aPP) (.cond (.t 4) (.seq (.reg aPQ) .ret) .skip)) (.seq (.reg aPR) .ret)))⟩
/-! (*horarium/code.Reader).Count -/
@[go_sem] def aPS:=k 0x130c8
@[go_sem] def aPT:=k 0x26036b6ddd8abd5c
@[go_sem] def aPU:=k 0x2834da4aa24fc52b6b518a7c482b067db7bfc
@[go_sem] def aPV:=k 0xce1df1f126f85e50f62c
@[go_sem] def aPW:=k 0x130c8
@[go_sem] def aPX:=k 0x2bc75b13bb1c
def Pm:TF:=⟨19,[.t 4],(.seq (.reg aPS) (.seq (.reg aPT) (.seq (.seq (.reg aPU) (.cond (.t 14) (.seq (.reg aPV) (.seq (.reg aPW) .ret)) .skip)) (.seq (.reg aPX) .ret))))⟩
/-! horarium/image.part -/
@[go_sem] def aPY:=k 0xa4f4
@[go_sem] def aPZ:=k 0x17b5d68bfe0e9c582fa878a74568ffd88b4fd0c0fef7cc8f2be9365493044370c
@[go_sem] def aP0:=k 0x1f6563ec63c7c
@[go_sem] def aP1:=k 0x14613988
@[go_sem] def aP2:=kd 0x21a3a33550cb9b6dad417a32f8958ec9a264ba90a84d00e6f6979105353958cf7a2c49101208c7edce44
@[go_sem] def aP3:=k 0x939afdbef9ef0
def VG:TC:=(.seq (.reg aP1) (.seq (.cond (.t 19) .skip (.exit 0)) (.seq (.block 1 (.dreg aP2)) (.reg aP3))))
@[go_sem] def aP4:=k 0x89b38
@[go_sem] def aP5:=k 0x889bc5b5
@[go_sem] def aP6:=k 0x27e99c5b513cd
@[go_sem] def aDn:=k 0x10f4e2cfd9c78e6fa89d3541e1425c7ebe1d
@[go_sem] def aDo:=k 0xbea7a2ce1761c1
def G6:TC:=(.seq (.reg aP5) (.seq (.cond (.t 32) .skip (.exit 2)) (.seq (.block 3 (.seq (.reg aP6) (.reg aDn))) (.reg aDo))))
@[go_sem] def aDp:=k 0x32e61859d0a1
def Pn:TF:=⟨41,[.cell 2 11 true],(.seq (.reg aPY) (.seq (.reg aPZ) (.seq (.seq (.reg aP0) (.block 0 (.loop VG))) (.seq (.seq (.reg aP4) (.block 2 (.loop G6))) (.seq (.reg aDp) .ret)))))⟩
/-! (*horarium/code.Reader).Flag -/
@[go_sem] def aP7:=k 0xa448
@[go_sem] def aP8:=k 0xec7e6c1f8fb47dda70aa6c
def Po:TF:=⟨6,[.t 2],(.seq (.reg aP7) (.seq (.reg aP8) .ret))⟩
/-! (*horarium/code.Reader).Num -/
@[go_sem] def aP9:=k 0xa428
@[go_sem] def aQa:=k 0x1ebdfb9d216e33edcfdd05ddaf85a7838bb103561dfd2d7d5c
@[go_sem] def aQb:=k 0x955cc1d6cd2b34438c7a1683629f04447219e698c
@[go_sem] def aQc:=k 0x1140b887ede4a14689c0c
@[go_sem] def aQd:=k 0xa428
@[go_sem] def aQe:=k 0x14cce55335ea737ccbacfacde447756ef590c1920ebe17b435aefd
@[go_sem] def aQf:=k 0x27dff4500e3cd
def Pp:TF:=⟨34,[.t 2],(.seq (.reg aP9) (.seq (.reg aQa) (.seq (.seq (.reg aQb) (.cond (.t 20) (.seq (.reg aQc) (.seq (.reg aQd) .ret)) .skip)) (.seq (.reg aQe) (.seq (.reg aQf) .ret)))))⟩
/-! horarium/horariumref12.sameParts -/
@[go_sem] def aQg:=k 0x21df24de646c
@[go_sem] def aQh:=k 0x4978031b5ad9f276fc64a3f9a670498c7e74520f57e333dac91afdf408a486cf064cd86b9887f33dc479f99b582d98359f2ed4b2204104a446ce1b8a8b9a6445180f7472c72cd0003921a2ff665cfc9c9b2681cd9a72e715a26ee47b46ef89dc217362597e50579a952fb8445b494c71813613fa5e92ab60c8a12ee7354af18989007081949464e561
@[go_sem] def aQi:=k 0x130e8
@[go_sem] def aQj:=k 0x91dd86dfc0f36b5ab1
@[go_sem] def aQk:=k 0x102dc4009
@[go_sem] def aQl:=k 0x48852e9fb1a3d
@[go_sem] def aQm:=kd 0x438e639902053c8d576a8e0ff9621a48da297a86392aa3e85b4a1e085dd4a86af6
@[go_sem] def aQn:=k 0x130e8
@[go_sem] def aQo:=k 0x15dd087741bf0612
def qN:TC:=(.seq (.reg aQk) (.seq (.cond (.t 59) .skip (.exit 0)) (.seq (.block 1 (.seq (.reg aQl) (.seq (.dreg aQm) (.cond (.t 71) (.seq (.reg aQn) .ret) .skip)))) (.reg aQo))))
@[go_sem] def aDq:=k 0x131a0
def Pq:TF:=⟨73,[.t 4],(.seq (.reg aQg) (.seq (.seq (.reg aQh) (.cond (.t 54) (.seq (.reg aQi) .ret) .skip)) (.seq (.seq (.reg aQj) (.block 0 (.loop qN))) (.seq (.reg aDq) .ret))))⟩
/-! (*horarium/cursor.Cursor).Reset -/
@[go_sem] def aQp:=k 0xf7e2bc01c2ff1e8cdd09b909e663a8cb57fd4e8da07a40b86a264ac641c
@[go_sem] def aQq:=k 0x1a8f2f715cec
def Pr:TF:=⟨13,[],(.seq (.reg aQp) (.reg aQq))⟩
/-! horarium/cursor.part -/
@[go_sem] def aQs:=k 0x697de1c
@[go_sem] def aQt:=k 0x2b18d9ff4c531b470
@[go_sem] def aQu:=k 0xa4ec
@[go_sem] def aQv:=k 0x4b083d2d24fabc760
def Pt:TF:=⟨8,[.t 2],(.seq (.reg aQs) (.seq (.seq (.reg aQt) (.cond (.t 5) (.seq (.reg aQu) .ret) .skip)) (.seq (.reg aQv) .ret)))⟩
/-! (*horarium/cursor.Cursor).step -/
@[go_sem] def aQw:=k 0x71902426738501533435896607af0bc
@[go_sem] def aQx:=k 0x100e726a9a6a844839504c
@[go_sem] def aQy:=k 0x7089c15aac42f2a39e95b98345233c
@[go_sem] def aQz:=kd 0x3fa5144804d67d8473c4234731c2ef50c2d316afe30a3b37d28b7106ea9808
@[go_sem] def aQA:=k 0x12d98fcc6e3c98a60a904bff8d5f29169f1065ae7ca8d
@[go_sem] def aQB:=k 0x3e6bafef296ddf5b8f2442a5b6bd
@[go_sem] def aQC:=kd 0xe745d29b672e2da22b4eba6cd72f70b977c27e9a281c59f7ca91f7aa913aee4559
@[go_sem] def aQD:=k 0x644adb14ca07046b9d999721622c4e620d
@[go_sem] def aQE:=k 0x13889af29b9e07059d
@[go_sem] def aQF:=kd 0x5200e0f7be9ab448c3988f0248cd63ef617242f32738b75ccf8234fec679e05f0c32f3fbfdaaad1834011351a
def VH:TC:=(.seq (.seq (.reg aQy) (.cond (.t 17) .skip (.exit 0))) (.block 1 (.seq (.dreg aQz) (.seq (.seq (.reg aQA) (.seq (.reg aQB) (.cond (.t 40) (.seq (.seq (.dreg aQC) (.cond (.t 52) (.reg aQD) .skip)) (.seq (.reg aQE) .ret)) .skip))) (.dreg aQF)))))
@[go_sem] def aDr:=k 0x302ad276679f18b6ed73d271dc30eed3fcdad4625c64cd0b0ee
def Pu:TF:=⟨83,[],(.seq (.reg aQw) (.seq (.reg aQx) (.seq (.block 0 (.loop VH)) (.reg aDr))))⟩
/-! horarium/runs.Add -/
@[go_sem] def aQG:=k 0x130c8
@[go_sem] def aQH:=k 0x708c06830eef8a37767a32b21c1b70c
@[go_sem] def aQI:=k 0x6ce75209998621e7504c
@[go_sem] def aQJ:=k 0x1332c
@[go_sem] def aQK:=k 0x160cc1ed36dda8b928698c
def Pv:TF:=⟨16,[.t 4],(.seq (.reg aQG) (.seq (.reg aQH) (.seq (.seq (.reg aQI) (.cond (.t 12) (.seq (.reg aQJ) .ret) .skip)) (.seq (.reg aQK) .ret))))⟩
/-! slices.Clip[[]horarium/api.Run,horarium/api.Run] -/
@[go_sem] def aQL:=k 0xa450
@[go_sem] def aQM:=k 0xf98735bb2d77b7dca268fe254048b2caa6c
def Pw:TF:=⟨9,[.t 2],(.seq (.reg aQL) (.seq (.reg aQM) .ret))⟩
/-! horarium/bound.spans -/
@[go_sem] def aQN:=k 0x130f0
@[go_sem] def aQO:=k 0x17740
@[go_sem] def aQP:=k 0x1bd68
@[go_sem] def aQQ:=k 0xf3d08ed969c
@[go_sem] def aQR:=k 0xd9357a8
@[go_sem] def aQS:=k 0xc5e46aae355517429e844
@[go_sem] def aQT:=k 0x7b81e794aac06cd2d4e4286387c
@[go_sem] def aQU:=k 0x39edb11d169dde7fab7724187d36c087357d96c4a93e5c0
@[go_sem] def aQV:=k 0x1075f51dc8b0a086634941d1042e40328e6f28d
@[go_sem] def aQW:=k 0x2a5d3f4fae86d
@[go_sem] def aDs:=k 0xaebcd29f978ed1
def VI:TC:=(.seq (.reg aQR) (.seq (.cond (.t 13) .skip (.exit 0)) (.seq (.block 1 (.seq (.reg aQS) (.seq (.reg aQT) (.seq (.seq (.reg aQU) (.cond (.t 28) (.reg aQV) .skip)) (.reg aQW))))) (.reg aDs))))
@[go_sem] def aDt:=k 0x2cbd927ed250d
def Px:TF:=⟨38,[.t 4],(.seq (.reg aQN) (.seq (.reg aQO) (.seq (.reg aQP) (.seq (.seq (.reg aQQ) (.block 0 (.loop VI))) (.seq (.reg aDt) .ret)))))⟩
/-! horarium/runs.Length -/
@[go_sem] def aQX:=k 0xa428
@[go_sem] def aQY:=k 0xea78
@[go_sem] def aQZ:=k 0xeefc9887d5c
@[go_sem] def aQ0:=k 0x90a1668
@[go_sem] def aQ1:=k 0x7d0cede531fac1320a704
@[go_sem] def aQ2:=k 0x60b2d89d1d35dca31cd12dfc13c
@[go_sem] def aQ3:=k 0x4e81489af4690
def qO:TC:=(.seq (.reg aQ0) (.seq (.cond (.t 9) .skip (.exit 0)) (.seq (.block 1 (.seq (.reg aQ1) (.reg aQ2))) (.reg aQ3))))
@[go_sem] def aQ4:=k 0x2936c02fe0cc
def Py:TF:=⟨18,[.t 2],(.seq (.reg aQX) (.seq (.reg aQY) (.seq (.seq (.reg aQZ) (.block 0 (.loop qO))) (.seq (.reg aQ4) .ret))))⟩
/-! horarium/bound.next -/
@[go_sem] def aQ5:=k 0x1bd68
@[go_sem] def aQ6:=k 0xf29b914504c
@[go_sem] def aQ7:=k 0xc710758
@[go_sem] def aQ8:=k 0xc529f11f6235f77e797f4
@[go_sem] def aQ9:=k 0x6a090bfaa4d22b91a0f1f90002c
@[go_sem] def aRa:=k 0x2a8ca7fb19791b5d8b28011e707315fbc
@[go_sem] def aRb:=k 0x7a68d025d7f60
def qP:TC:=(.seq (.reg aQ7) (.seq (.cond (.t 12) .skip (.exit 0)) (.seq (.block 1 (.seq (.reg aQ8) (.seq (.reg aQ9) (.cond (.t 19) (.seq (.reg aRa) .ret) .skip)))) (.reg aRb))))
@[go_sem] def aRc:=k 0x7889b947742d52b760ba171ff066ab4248f9c
def Pz:TF:=⟨32,[.t 6],(.seq (.reg aQ5) (.seq (.seq (.reg aQ6) (.block 0 (.loop qP))) (.seq (.reg aRc) .ret)))⟩
/-! horarium/node.measure -/
@[go_sem] def aRd:=k 0x6982428
@[go_sem] def aRe:=k 0x3b1075f0727265b4
@[go_sem] def aRf:=k 0xf63a8a0233c
@[go_sem] def aRh:=k 0xfd7f848
@[go_sem] def aRi:=k 0x98baaf2c78461a87e88e8
@[go_sem] def aRj:=kd 0x14204814543dc58c2841a41b33620ae8c99a4e3e29f7008
@[go_sem] def aRk:=k 0x27ab1e5e92556fe5ebdd4c
@[go_sem] def aRl:=k 0x3844c0829be78bb79350982e59d539183d
@[go_sem] def aRm:=k 0x158b54c1fe2064e9b8c27a195e075aa0d0e44e53abe1d
@[go_sem] def aRn:=k 0x260e559db203b072d4d77376dd7e46163448b9dbb271e040bb25f70e56b21f506018aa4d
@[go_sem] def aDu:=kd 0x1775fc6c77467722a4388fce9ae055c3b7a13a0c640444cb2f082f45bd8ba7474f56f430d8e3a42fe9aca
@[go_sem] def aDv:=k 0xf2c6e9ce326842c36cc7e696330ae39a91ce
@[go_sem] def aDw:=k 0x347804c2848f6d910cdd92c9162
@[go_sem] def aDx:=k 0xab1c41ab36c4ed6f23b421929a200d0a96bbc059990f92daaa2
@[go_sem] def aDy:=k 0x2e844071d615c58595376aaf962678fa284cf8795d3ebece
@[go_sem] def aDz:=kd 0x28f330d18006eba2428954be152f842ebb0abb9d28cf649857b46eae0ce9f05e50f17da772a
@[go_sem] def aDA:=kd 0xa44f3ff63379f28af2a49b45d0a4074307ae30996d11f5a2c82817eb6f083c476e3a
def Qt:TC:=(.seq (.seq (.reg aRn) (.cond (.t 53) .skip (.exit 2))) (.block 3 (.seq (.dreg aDu) (.seq (.reg aDv) (.seq (.seq (.reg aDw) (.cond (.t 73) (.reg aDx) .skip)) (.seq (.reg aDy) (.seq (.dreg aDz) (.dreg aDA))))))))
@[go_sem] def aDB:=k 0x20eca41ddc592fa2
def VJ:TC:=(.seq (.reg aRh) (.seq (.cond (.t 15) .skip (.exit 0)) (.seq (.block 1 (.seq (.reg aRi) (.seq (.dreg aRj) (.seq (.seq (.reg aRk) (.seq (.reg aRl) (.cond (.t 33) (.reg aRm) .skip))) (.block 2 (.loop Qt)))))) (.reg aDB))))
@[go_sem] def aDC:=kd 0xdb855ed5ad651d308e147d103e507e3c8d36bbe6341d99748de7b24ce6d4a
def PA:TF:=⟨118,[.t 2,.t 3],(.seq (.reg aRd) (.seq (.reg aRe) (.seq (.seq (.reg aRf) (.block 0 (.loop VJ))) (.seq (.dreg aDC) .ret))))⟩
/-! horarium/node.Size -/
@[go_sem] def aRo:=k 0x130c8
@[go_sem] def aRp:=k 0x589c0c14957225bc92d123e42b0523eb067b853fc
@[go_sem] def aRq:=k 0x130c8
@[go_sem] def aRr:=k 0xa4118
@[go_sem] def aRs:=k 0x271a0462067c
@[go_sem] def aRt:=k 0xcd0ce293891246653ecc
@[go_sem] def aRu:=k 0xbf84abdc71d7fd9468b2945c2828ac
@[go_sem] def aRv:=k 0x43978a728e3c
@[go_sem] def aRw:=k 0x130c8
@[go_sem] def aRx:=k 0xd3cd95a342994160ce59f584b38dd
@[go_sem] def aDD:=k 0x2909af9ee521d
@[go_sem] def aDE:=k 0xfa1d9c52d172612046587a6ff72bd
@[go_sem] def aDF:=k 0xeb7bc3aa7ee7d980c
def VK:TC:=(.seq (.seq (.reg aRt) (.cond (.t 20) .skip (.exit 0))) (.seq (.block 1 (.seq (.reg aRu) (.seq (.seq (.reg aRv) (.cond (.t 29) (.seq (.reg aRw) .ret) .skip)) (.seq (.reg aRx) (.seq (.reg aDD) (.cond (.t 35) (.seq (.reg aDE) .ret) .skip)))))) (.reg aDF)))
@[go_sem] def aDG:=k 0x130c8
def PB:TF:=⟨40,[.t 4],(.seq (.reg aRo) (.seq (.seq (.reg aRp) (.cond (.t 15) (.seq (.reg aRq) .ret) .skip)) (.seq (.reg aRr) (.seq (.seq (.reg aRs) (.block 0 (.loop VK))) (.seq (.reg aDG) .ret)))))⟩
/-! horarium/horariumref3.Size -/
@[go_sem] def aRy:=k 0x130c8
@[go_sem] def aRz:=k 0x4fdad3b1e5b3e3d5deb02f99070754e249c980dac
@[go_sem] def aRA:=k 0x130c8
@[go_sem] def aRB:=k 0xa4118
@[go_sem] def aRC:=k 0x24b00941c02c
@[go_sem] def aRD:=k 0xc1080cb4811bb7e4f87c
@[go_sem] def aRE:=k 0x5b73db21b1c97913688d03da7e25c
@[go_sem] def aRF:=k 0x130c8
@[go_sem] def aRH:=k 0x135690edda086c7a3c
@[go_sem] def aRI:=k 0x3bde2618056e541f98c651474d038f54dd
@[go_sem] def aDH:=k 0x16543e7880c456dfdf621984e978904302ddc5090debd
@[go_sem] def aDI:=k 0x52c11b6ecbfd987e9b2c8032b5e792e6ed
@[go_sem] def aDJ:=k 0x4269a5b46e8abf170cd
@[go_sem] def aDK:=k 0x3d8e862f2fd6d
@[go_sem] def aDL:=k 0x166f3932e4522010a08b8a8b0b1e0d
@[go_sem] def aDM:=k 0xe0e006f03f35d51bc
def VL:TC:=(.seq (.seq (.reg aRD) (.cond (.t 19) .skip (.exit 0))) (.seq (.block 1 (.seq (.seq (.reg aRE) (.cond (.t 27) (.seq (.reg aRF) .ret) .skip)) (.seq (.reg aRH) (.seq (.seq (.reg aRI) (.cond (.t 35) (.reg aDH) .skip)) (.seq (.seq (.reg aDI) (.cond (.t 48) (.reg aDJ) .skip)) (.seq (.reg aDK) (.cond (.t 52) (.seq (.reg aDL) .ret) .skip))))))) (.reg aDM)))
@[go_sem] def aDN:=k 0x130c8
def PC:TF:=⟨57,[.t 4],(.seq (.reg aRy) (.seq (.seq (.reg aRz) (.cond (.t 14) (.seq (.reg aRA) .ret) .skip)) (.seq (.reg aRB) (.seq (.seq (.reg aRC) (.block 0 (.loop VL))) (.seq (.reg aDN) .ret)))))⟩
/-! horarium/horariumref3.depth -/
@[go_sem] def aRJ:=k 0x130c8
@[go_sem] def aRK:=k 0x17718
@[go_sem] def aRL:=k 0x932437b3827edf4e709fc
@[go_sem] def aRM:=k 0xd9357a8
@[go_sem] def aRN:=k 0xa18e7876342f1e824
@[go_sem] def aRO:=k 0x11baff8a1caa512148200d839a5c2e7c
@[go_sem] def aRP:=k 0x673f96e95a620
def qQ:TC:=(.seq (.reg aRM) (.seq (.cond (.t 13) .skip (.exit 0)) (.seq (.block 1 (.seq (.reg aRN) (.reg aRO))) (.reg aRP))))
@[go_sem] def aRQ:=k 0xf56dc49b84995145c
def PD:TF:=⟨24,[.t 4],(.seq (.reg aRJ) (.seq (.reg aRK) (.seq (.seq (.reg aRL) (.block 0 (.loop qQ))) (.seq (.reg aRQ) .ret))))⟩
/-! horarium/horariumref3.length -/
@[go_sem] def aRR:=k 0x130c8
@[go_sem] def aRS:=k 0x17718
@[go_sem] def aRT:=k 0x932437b3827edf4e709fc
@[go_sem] def aRU:=k 0xd9357a8
@[go_sem] def aRV:=k 0xa18e7876342f1e824
@[go_sem] def aRW:=k 0x28e3eeb7ba762dc36e6bf47d15cd6a5c2e7c
@[go_sem] def aRX:=k 0x6c138d295ec70
def qR:TC:=(.seq (.reg aRU) (.seq (.cond (.t 13) .skip (.exit 0)) (.seq (.block 1 (.seq (.reg aRV) (.reg aRW))) (.reg aRX))))
@[go_sem] def aRY:=k 0x533b1f2c18a8da1107cceb28ac
@[go_sem] def aRZ:=k 0x9049451242ca4
@[go_sem] def aDO:=k 0x48bf209706dc
@[go_sem] def aDP:=k 0x9cdbe6fcb63195
@[go_sem] def aDQ:=k 0x1a4cf68d89627dd2327ce095e82fdfd03304decafa3db40c900bcd
@[go_sem] def aDR:=k 0x16bb4e0973c2ca5659d5a6d36616404369ea09d
def PE:TF:=⟨48,[.t 4],(.seq (.reg aRR) (.seq (.reg aRS) (.seq (.seq (.reg aRT) (.block 0 (.loop qR))) (.seq (.seq (.reg aRY) (.block 2 (.seq (.reg aRZ) (.cond (.t 28) (.seq (.reg aDO) .ret) (.seq (.reg aDP) (.cond (.t 31) (.seq (.reg aDQ) .ret) .skip)))))) (.seq (.reg aDR) .ret)))))⟩
/-! horarium/horariumref3.Kids -/
@[go_sem] def aR0:=k 0x130f0
@[go_sem] def aR1:=k 0xecfa9d68e5d150ae709fc
@[go_sem] def aR2:=k 0x1bd90
@[go_sem] def aR3:=k 0x81bb42489ef0ee6ec
@[go_sem] def aR4:=k 0x2b36e5cad5aad1fab00d45ef8c
@[go_sem] def aR5:=k 0x53dc6a2e69593cd4d242f5e4ac
@[go_sem] def aR6:=k 0x138b36a59cfcdfbcd95dd24c3a6e4f1c
def qS:TC:=(.seq (.seq (.reg aR4) (.cond (.t 17) .skip (.exit 0))) (.seq (.block 1 (.reg aR5)) (.reg aR6)))
@[go_sem] def aR7:=k 0x41812f3efdec
def PF:TF:=⟨28,[.t 4],(.seq (.reg aR0) (.seq (.reg aR1) (.seq (.reg aR2) (.seq (.seq (.reg aR3) (.block 0 (.loop qS))) (.seq (.reg aR7) .ret)))))⟩
/-! slices.ContainsFunc[[]horarium/api.Run,horarium/api.Run] -/
@[go_sem] def aR8:=k 0x130e8
@[go_sem] def aR9:=k 0x34157cf85d471943ff5ca66370c
def PG:TF:=⟨9,[.t 4],(.seq (.reg aR8) (.seq (.reg aR9) .ret))⟩
/-! horarium/horariumref12.Name -/
@[go_sem] def aSa:=k 0xa448
@[go_sem] def aSb:=k 0xea78
@[go_sem] def aSc:=k 0x3cd2dc1fc66c5b67950c
@[go_sem] def aSd:=k 0x40ab2989146f6a5dbd04ca581215c187f653ee90a7038475fbab64e69b8c2a3344eca287edaa7f279dcec
@[go_sem] def aSe:=k 0x33343aa18778e8033b615aadc09d3777eb7453a92bd83d0b8314ae903b4076b07e02478f8ad18d26638e560177e886281ed
@[go_sem] def aSf:=k 0xa448
@[go_sem] def aSg:=k 0x6b305141ab8dfee4c
def qT:TC:=(.seq (.seq (.reg aSc) (.cond (.t 8) .skip (.exit 0))) (.seq (.block 1 (.seq (.reg aSd) (.seq (.reg aSe) (.cond (.t 44) (.seq (.reg aSf) .ret) .skip)))) (.reg aSg)))
@[go_sem] def aSh:=k 0x1e555901df09ab637cc84f003e3f336f7c82bdebf47e408738d
def PH:TF:=⟨53,[.t 2],(.seq (.reg aSa) (.seq (.seq (.reg aSb) (.block 0 (.loop qT))) (.seq (.reg aSh) .ret)))⟩
/-! horarium/horariumref12.partRight -/
@[go_sem] def aSi:=k 0xf61de1c
@[go_sem] def aSj:=k 0x7584a68e683cdc41e6e5af61042b1a5c0da39c2f8552cf310db0
@[go_sem] def aSk:=k 0xa448
@[go_sem] def aSl:=k 0x459e29e52be73ccd0
@[go_sem] def aSm:=k 0x16a5da28
@[go_sem] def aSn:=k 0x6e7b6e67da7ba163c6ac4
@[go_sem] def aSo:=k 0x3323ea3502266b0d84a88aa273cdfd9d354f1d071d3f260d3891b17f683f276406a020c482c81a92842b752904a81c168cff01
@[go_sem] def aSp:=k 0xa448
@[go_sem] def aSq:=k 0xcc4f170ac134b1
def qU:TC:=(.seq (.reg aSm) (.seq (.cond (.t 21) .skip (.exit 0)) (.seq (.block 1 (.seq (.reg aSn) (.seq (.reg aSo) (.cond (.t 41) (.seq (.reg aSp) .ret) .skip)))) (.reg aSq))))
@[go_sem] def aDS:=k 0x20368923fb7af1
@[go_sem] def aDT:=k 0xc6259e15
@[go_sem] def aDU:=k 0xe36488d94005bd
@[go_sem] def aDV:=k 0x16564ab1e7163168ce31b823d628bb2bbe7d
@[go_sem] def aDW:=k 0xa448
@[go_sem] def aDX:=k 0x108216ea9a18071
def VM:TC:=(.seq (.reg aDT) (.seq (.cond (.t 46) .skip (.exit 2)) (.seq (.block 3 (.seq (.reg aDU) (.seq (.reg aDV) (.cond (.t 53) (.seq (.reg aDW) .ret) .skip)))) (.reg aDX))))
@[go_sem] def aDY:=k 0x1f47b2f0a98958ae6cf3c38fdd7429caac67dfd561c5c6b1
@[go_sem] def aDZ:=k 0xa500
@[go_sem] def aD0:=k 0x127a78506c85898c05031ed0bc7220e3010d98972e48c3f62a15ffb064b6d2d2119cb7552874f4bf039e0f471c97a107a5b467bd11100082156ef76b3bc88d32
def PI:TF:=⟨83,[.t 2],(.seq (.reg aSi) (.seq (.seq (.reg aSj) (.cond (.t 16) (.seq (.reg aSk) .ret) .skip)) (.seq (.seq (.reg aSl) (.block 0 (.loop qU))) (.seq (.seq (.reg aDS) (.block 2 (.loop VM))) (.seq (.seq (.reg aDY) (.cond (.t 62) (.seq (.reg aDZ) .ret) .skip)) (.seq (.reg aD0) .ret))))))⟩
/-! horarium/horariumref12.chanRight -/
@[go_sem] def aSr:=k 0x53beb9246c
@[go_sem] def aSs:=k 0x4c5dc856c7b5f57c8c8f1dfd7f8b099d21d50fa2f9c3eaaa9c2ec4e4cf4a66fb7e88043773cd155aad1f1e8b29108390a0d1fd67b952632b225d8c620a44702dd00a56e699daabe59dbdb8a82e95b9a592cc1a8b1cef324a929f796068172a8b3758c8f6efb649f11
@[go_sem] def aSt:=k 0x130e8
@[go_sem] def aSu:=k 0x224cd76df52af0793763d6fe859808c7a36de3396508f638744d7f4aa782cb20ee46287836b6a1a5e262188bd574d56fea7f13ecf556998b6e89e53cb3cd20e138c8a1
def PJ:TF:=⟨64,[.t 4],(.seq (.reg aSr) (.seq (.seq (.reg aSs) (.cond (.t 41) (.seq (.reg aSt) .ret) .skip)) (.seq (.reg aSu) .ret)))⟩
/-! (*horarium/horariumref1.Reader).Str -/
@[go_sem] def aSv:=k 0x131d4
@[go_sem] def aSw:=k 0xa8dea1e99eed838c906bee504f86b823a8fd01c0f17e13939e009fc
@[go_sem] def aSx:=k 0xafa06afbf6935900bf03472d0a51a1beffcaa3c7c
@[go_sem] def aSy:=k 0x1370253c5b9f2ef746efc
@[go_sem] def aSz:=k 0x131d4
@[go_sem] def aSA:=k 0x16c06c9edd523a674fa6ded40ae168df27ce5341abec1b103681ed
@[go_sem] def aSB:=k 0x2b8894eecdebd
def PK:TF:=⟨37,[.t 4],(.seq (.reg aSv) (.seq (.reg aSw) (.seq (.seq (.reg aSx) (.cond (.t 23) (.seq (.reg aSy) (.seq (.reg aSz) .ret)) .skip)) (.seq (.reg aSA) (.seq (.reg aSB) .ret)))))⟩
/-! horarium/horariumref1.Get -/
@[go_sem] def aSC:=k 0x6982428
@[go_sem] def aSD:=k 0x2fbce6ecaa9b09fc
@[go_sem] def aSE:=k 0x6982428
@[go_sem] def aSF:=k 0x6a74c15fca255ea2dc6ec6cb4a9cec
@[go_sem] def aSG:=k 0x2ba591d281d483b42c43f00b56e73cffe13d2a9451b247c
@[go_sem] def aSH:=k 0x6982428
@[go_sem] def aSI:=k 0x1792c
@[go_sem] def aSJ:=k 0xa8768
@[go_sem] def aSK:=k 0x88eafa00872b714c
@[go_sem] def aSL:=k 0x159de892c51468f166e89d5f83dda6e88dd9186f2edf38dd
@[go_sem] def aD1:=k 0x135bdecc23cc5f843c
def Qu:TC:=(.seq (.seq (.reg aSK) (.cond (.t 27) .skip (.exit 0))) (.seq (.block 1 (.reg aSL)) (.reg aD1)))
@[go_sem] def aD2:=k 0xcf787863008f96b5d
@[go_sem] def aD3:=k 0x3d3f9a695049af5ba913fd
@[go_sem] def aD4:=k 0xef4bae3adeeee393d
@[go_sem] def aD5:=kd 0x29b1b689369a9ad611b64ae81b8ec3f5fbbfaf2aa2dc7ed549
@[go_sem] def aD6:=k 0x6982428
@[go_sem] def aD7:=k 0x5b3b3b636cc86f99285e47493ead
def PL:TF:=⟨58,[.t 2,.t 3],(.seq (.reg aSC) (.seq (.seq (.reg aSD) (.cond (.t 10) (.seq (.reg aSE) .ret) .skip)) (.seq (.reg aSF) (.seq (.seq (.reg aSG) (.cond (.t 24) (.seq (.reg aSH) .ret) .skip)) (.seq (.reg aSI) (.seq (.seq (.reg aSJ) (.block 0 (.loop Qu))) (.seq (.reg aD2) (.seq (.seq (.reg aD3) (.cond (.t 43) (.reg aD4) .skip)) (.seq (.seq (.dreg aD5) (.cond (.t 54) (.seq (.reg aD6) .ret) .skip)) (.seq (.reg aD7) .ret))))))))))⟩
/-! horarium/config.Name -/
@[go_sem] def aSM:=k 0xa448
@[go_sem] def aSN:=k 0xef010f1bd5c
@[go_sem] def aSO:=k 0x90a1668
@[go_sem] def aSP:=k 0x18643252e69c
@[go_sem] def aSQ:=k 0x1322dba6faf497f279dcec
@[go_sem] def aSR:=k 0x2506d65a1dc275cd08aaf345ae89885157dc
@[go_sem] def aSS:=k 0x1eaacf151107cf438ce384af7e33b16af0956bc7477e82068d3a4c58d39836c9ecde067f503eb009a86f0fdcf7a0165b1179bd
@[go_sem] def aST:=k 0xa448
@[go_sem] def aSU:=k 0xb8177faa041b71
def qV:TC:=(.seq (.reg aSO) (.seq (.cond (.t 9) .skip (.exit 0)) (.seq (.block 1 (.seq (.reg aSP) (.seq (.reg aSQ) (.seq (.reg aSR) (.seq (.reg aSS) (.cond (.t 37) (.seq (.reg aST) .ret) .skip)))))) (.reg aSU))))
@[go_sem] def aD8:=k 0x1ad5f95620e127721affca3fae180c98b11849dbbca67aecdad
def PM:TF:=⟨47,[.t 2],(.seq (.reg aSM) (.seq (.seq (.reg aSN) (.block 0 (.loop qV))) (.seq (.reg aD8) .ret)))⟩
/-! slices.ContainsFunc[[]horarium/api.Part,horarium/api.Part] -/
@[go_sem] def sG:=k 0x130e8
@[go_sem] def sH:=k 0x34157cf85d4719466957c66370c
def Kq:TF:=⟨9,[.t 4],(.seq (.reg sG) (.seq (.reg sH) .ret))⟩
/-! horarium/config.Where$1 -/
@[go_sem] def sI:=k 0xf62246c
@[go_sem] def sJ:=k 0xe4015a862114504b4d93c72ffc5ac4c0
def Kr:TF:=⟨9,[.t 3],(.seq (.reg sI) (.seq (.reg sJ) .ret))⟩
/-! horarium/config.part -/
@[go_sem] def sK:=k 0xf61de1c
@[go_sem] def sL:=k 0x1de0384320760
@[go_sem] def sM:=k 0x8f88284
@[go_sem] def sN:=k 0x30ef04451e82c
@[go_sem] def sO:=k 0x17aef8628ce7fc873b1ec4353c93384ec
@[go_sem] def sP:=k 0xa448
@[go_sem] def sQ:=k 0x53553edaf8ce0
def U4:TC:=(.seq (.reg sM) (.seq (.cond (.t 9) .skip (.exit 0)) (.seq (.block 1 (.seq (.reg sN) (.seq (.reg sO) (.cond (.t 16) (.seq (.reg sP) .ret) .skip)))) (.reg sQ))))
@[go_sem] def sR:=k 0xeab99520bcc7bb5d26e9b59cf8fe152318d67fbbcdd2f1320
@[go_sem] def sS:=k 0xcae1416374c3761790632f0b8f36ea964030d2a43e856af92f80bdb97a0e7e1f30f53f0331b7b71edc48c181ccfa4740be8333fc8e05c8ef78cf92bf442efb979be529e0b0866e18839c98e0ff2e52eb5e51cfa1
def Ks:TF:=⟨54,[.t 2],(.seq (.reg sK) (.seq (.seq (.reg sL) (.block 0 (.loop U4))) (.seq (.reg sR) (.seq (.reg sS) .ret))))⟩
/-! horarium/config.channel -/
@[go_sem] def sT:=k 0x21df24de646c
@[go_sem] def sU:=k 0x698f718
@[go_sem] def sV:=k 0x13508b172800
@[go_sem] def sW:=k 0x9a8569c118
@[go_sem] def sX:=k 0x54b1d5dd3509b968ce22b1c6aa0
@[go_sem] def sY:=k 0x13c981ee2a7b035ea0ce66eb8dae9f44a81430973e4d39417ed42b7a20bb6907980981dfaec83cf4299d2b4d41c14aeb5c7be5de3b7409603ac2aef94332b9f8d71e22137352b902e2f145a85a42e45fbcbfcc01581ab0972cffed22bc111c78abe1
def Kt:TF:=⟨48,[.t 4],(.seq (.reg sT) (.seq (.reg sU) (.seq (.seq (.reg sV) (.cond (.t 9) (.reg sW) .skip)) (.seq (.reg sX) (.seq (.reg sY) .ret)))))⟩
/-! horarium/config.table -/
@[go_sem] def sZ:=k 0x53b5ef246c
@[go_sem] def tA:=k 0x154062d449de3a7b8a6d62efeedfdd6953fc
@[go_sem] def tB:=k 0x1cf7ee5e5f3c
@[go_sem] def tC:=k 0x221f6e9b6bdc
@[go_sem] def tD:=k 0x523a583f6b11a82c
@[go_sem] def tE:=k 0x8dd0c8
@[go_sem] def tF:=k 0x1d55819cd1403c2b1f5d58
def Ku:TF:=⟨21,[.t 4],(.seq (.reg sZ) (.seq (.reg tA) (.seq (.seq (.reg tB) (.cond (.t 13) (.seq (.reg tC) .ret) .skip)) (.seq (.seq (.reg tD) (.cond (.t 17) (.seq (.reg tE) .ret) .skip)) (.seq (.reg tF) .ret)))))⟩
/-! slices.Grow[[]byte,byte] -/
@[go_sem] def tG:=k 0x130f0
@[go_sem] def tH:=k 0xc11fa57810c
@[go_sem] def tI:=k 0x6d1dad44
@[go_sem] def tJ:=k 0x3b9a6e0f3fafd31e94e71b111714b00c92b6d3fc
@[go_sem] def tK:=k 0x2435cf18802c
@[go_sem] def tL:=k 0x4011a12865640ef58a94b72d9ff5c24b3a74485d82253082cc
@[go_sem] def tM:=k 0x3f1733e9fb9c
def Kv:TF:=⟨27,[.t 4],(.seq (.reg tG) (.seq (.seq (.reg tH) (.cond (.t 6) (.reg tI) .skip)) (.seq (.seq (.reg tJ) (.seq (.reg tK) (.cond (.t 16) (.reg tL) .skip))) (.seq (.reg tM) .ret))))⟩
/-! horarium/sum.Next -/
@[go_sem] def tN:=k 0x13264
@[go_sem] def tO:=k 0x4668b7b460582bc6f008168b867d5c
@[go_sem] def tP:=k 0x31cf8
@[go_sem] def tQ:=k 0xc5f7374
@[go_sem] def tR:=k 0x4b247ffa18c4a98c
@[go_sem] def tS:=k 0x85b60d09a2fbaa7ff2f9be1a10762c
@[go_sem] def tT:=k 0x624500e5c1fd0
def U5:TC:=(.seq (.reg tQ) (.seq (.cond (.t 12) .skip (.exit 0)) (.seq (.block 1 (.seq (.reg tR) (.reg tS))) (.reg tT))))
@[go_sem] def tU:=k 0x33054c489c0c
def Kw:TF:=⟨22,[.t 4],(.seq (.reg tN) (.seq (.reg tO) (.seq (.seq (.reg tP) (.block 0 (.loop U5))) (.seq (.reg tU) .ret))))⟩
/-! horarium/code.Put -/
@[go_sem] def tV:=k 0x130f0
@[go_sem] def tW:=k 0x17740
@[go_sem] def tX:=k 0x30c9971b969a13fc
@[go_sem] def tY:=k 0xc1cf92d29c
@[go_sem] def tZ:=k 0x7fc6ccee4c2f16bba256ff39b1a1dc
@[go_sem] def uA:=k 0x4601108ef99f5f3c
def P0:TC:=(.seq (.seq (.reg tY) (.cond (.t 11) .skip (.exit 0))) (.seq (.block 1 (.reg tZ)) (.reg uA)))
@[go_sem] def uB:=k 0x1707e4c816c
@[go_sem] def uC:=k 0x10eba8e954553414f8e0c
@[go_sem] def uD:=k 0x39ef9dbcb8fc
@[go_sem] def cG:=k 0x906da89a24c8419c
@[go_sem] def cH:=k 0xff8638a198b4f5f01d42b7b6dc030e78f2c83d
def Kx:TF:=⟨34,[.t 4],(.seq (.reg tV) (.seq (.reg tW) (.seq (.seq (.reg tX) (.block 0 (.loop P0))) (.seq (.reg uB) (.seq (.reg uC) (.seq (.seq (.reg uD) (.cond (.t 25) (.reg cG) .skip)) (.seq (.reg cH) .ret)))))))⟩
/-! slices.Clip[[]byte,byte] -/
@[go_sem] def uE:=k 0xa450
@[go_sem] def uF:=k 0xf98735bb2db7bd406f4f56f74048b2caa6c
def Ky:TF:=⟨9,[.t 2],(.seq (.reg uE) (.seq (.reg uF) .ret))⟩
/-! (*horarium/code.Reader).Text -/
@[go_sem] def uG:=k 0x131d4
@[go_sem] def uH:=k 0xa8dea1e99eed838c906bee504f86bcbda5c2ef1c209613939e009fc
@[go_sem] def uI:=k 0xafa06afbf6935900bf03472d0a51a1beffcaa3c7c
@[go_sem] def uJ:=k 0x1370253c5b9f2ef746efc
@[go_sem] def uK:=k 0x131d4
@[go_sem] def uL:=k 0x16c06c9edd523a674fa6ded40ae168df27ce5341abec1b103681ed
@[go_sem] def uM:=k 0x2b8894eecdebd
def Kz:TF:=⟨37,[.t 4],(.seq (.reg uG) (.seq (.reg uH) (.seq (.seq (.reg uI) (.cond (.t 23) (.seq (.reg uJ) (.seq (.reg uK) .ret)) .skip)) (.seq (.reg uL) (.seq (.reg uM) .ret)))))⟩
/-! horarium/code.Get -/
@[go_sem] def vO:=k 0x6982428
@[go_sem] def vP:=k 0x350ac549ca74504c
@[go_sem] def vQ:=k 0x6982428
@[go_sem] def vR:=k 0x717d591048c11cbc26e738966ae33c
@[go_sem] def vS:=k 0xa767078cc32276d8e7fa0076048088735103b6acc
@[go_sem] def vT:=k 0x6982428
@[go_sem] def vU:=k 0x1792c
@[go_sem] def vV:=k 0x580796947c4b31193e663a16b54c
@[go_sem] def vW:=k 0x21fcfd48
@[go_sem] def vX:=k 0x2be950a2c4ddb6439c5
@[go_sem] def cI:=k 0x10bdc92b88e9f2060a1a78d395870521d
@[go_sem] def cJ:=k 0xbe9452f0b261c1
def L0:TC:=(.seq (.reg vW) (.seq (.cond (.t 31) .skip (.exit 0)) (.seq (.block 1 (.seq (.reg vX) (.reg cI))) (.reg cJ))))
@[go_sem] def cK:=k 0xda296c796fbc1f7fd
@[go_sem] def cL:=k 0x4029814e581b890da9a09d
@[go_sem] def cM:=k 0xf9fca2514e1c859dd
@[go_sem] def cN:=kd 0xa7e59c63efdf834e478b9862da46d9abc961a52cc9fa9
@[go_sem] def cO:=k 0x6982428
@[go_sem] def cP:=k 0x5cd4f7d8fc0cecee1697525b18fd
def KA:TF:=⟨59,[.t 2,.t 3],(.seq (.reg vO) (.seq (.seq (.reg vP) (.cond (.t 11) (.seq (.reg vQ) .ret) .skip)) (.seq (.reg vR) (.seq (.seq (.reg vS) (.cond (.t 24) (.seq (.reg vT) .ret) .skip)) (.seq (.reg vU) (.seq (.seq (.reg vV) (.block 0 (.loop L0))) (.seq (.reg cK) (.seq (.seq (.reg cL) (.cond (.t 45) (.reg cM) .skip)) (.seq (.seq (.dreg cN) (.cond (.t 55) (.seq (.reg cO) .ret) .skip)) (.seq (.reg cP) .ret))))))))))⟩
/-! (*horarium/cursor.Cursor).down -/
@[go_sem] def vY:=k 0x59d231d405338cad81a0ff6b04b67d04234833703cfa372e94945c1091b978081da25b1401e43f01be47b27b6702c07af0bc
@[go_sem] def vZ:=kd 0x1420d9909debde3856e4697778986fedc83f330a024e8d07dfe13cbc903abff689141c9b65ed25e81008f64539b07a3b7b94ac7bb8faa35329
@[go_sem] def wA:=k 0x3a5fa0c551595a97aed
def U6:TC:=(.seq (.seq (.reg vY) (.cond (.t 23) .skip (.exit 0))) (.block 1 (.seq (.dreg vZ) (.reg wA))))
@[go_sem] def wB:=k 0x4dfe0d2148ee9f596aea039f738d
def KB:TF:=⟨49,[],(.seq (.block 0 (.loop U6)) (.reg wB))⟩
/-! horarium/node.kids -/
@[go_sem] def wC:=k 0x697de1c
@[go_sem] def wD:=k 0x3c199c6c8d3a6348a82db445112d431f9ea8222cde864f0da9b3c95ec76f98dafd30a12847ac0
@[go_sem] def wE:=k 0xa4ec
@[go_sem] def wF:=k 0x38fd73ea5c1b52d7527a67db4881349e42004356f59c0d98775248bdcf7968b5da06ac15d320
@[go_sem] def wG:=k 0x307859d37eebaeb93055a2f31
@[go_sem] def wH:=k 0xa428
@[go_sem] def wI:=k 0x632eb0c6b3e85d0aaad45ad203bbea41722af4d3fa6f695b4871
@[go_sem] def wJ:=k 0x3a64eea396aba277af1
@[go_sem] def wK:=k 0x46f5c3011f418233abc5e4de1
@[go_sem] def wL:=k 0x96e28
@[go_sem] def cQ:=k 0xa4ec
def KC:TF:=⟨49,[.t 2],(.seq (.reg wC) (.seq (.block 0 (.seq (.reg wD) (.cond (.t 3) (.seq (.reg wE) .ret) (.seq (.seq (.reg wF) (.cond (.t 17) .skip (.reg wG))) (.cond (.t 17) (.seq (.reg wH) .ret) (.seq (.reg wI) (.cond (.t 34) (.seq (.reg wJ) .ret) (.seq (.reg wK) (.cond (.t 45) (.seq (.reg wL) .ret) .skip))))))))) (.seq (.reg cQ) .ret)))⟩
/-! horarium/node.times -/
@[go_sem] def wM:=k 0x130c8
@[go_sem] def wN:=k 0x4041333ce27bb8c784c7460663f70c
def KD:TF:=⟨10,[.t 4],(.seq (.reg wM) (.seq (.reg wN) .ret))⟩
/-! horarium/node.add -/
@[go_sem] def wO:=k 0x130c8
@[go_sem] def wP:=k 0x4041333ce2700f9700c1a49fe6370c
def KE:TF:=⟨10,[.t 4],(.seq (.reg wO) (.seq (.reg wP) .ret))⟩
/-! horarium/horariumref3.fine -/
@[go_sem] def wQ:=k 0xf61de1c
@[go_sem] def wR:=k 0x73ea131b470
@[go_sem] def wS:=k 0x1dc5cabe78774
@[go_sem] def wT:=k 0x2396f29c43d9984a36476c3d93c9f098104a519a78f3c8326bccc3b569bf64176e1ecacc0db0
@[go_sem] def wU:=k 0x687493ed47024
@[go_sem] def wV:=k 0x6d488a2e64a74
@[go_sem] def wW:=k 0x1187c0eac7fb5b4451fc291504a38e9db4a4622af0c4d072b0
@[go_sem] def wX:=k 0x9cdbe697919d95
@[go_sem] def wY:=k 0x2a04bac0f8e9529563b2c229d95a43083516fc23f4039caaf33a29b0627a77966b0cf5778bbbfbbd1
@[go_sem] def wZ:=k 0xa448
def KF:TF:=⟨46,[.t 2],(.seq (.reg wQ) (.seq (.seq (.reg wR) (.block 0 (.seq (.reg wS) (.cond (.t 5) (.seq (.reg wT) .ret) (.seq (.seq (.reg wU) (.cond (.t 20) .skip (.reg wV))) (.cond (.t 20) (.seq (.reg wW) .ret) (.seq (.reg wX) (.cond (.t 31) (.seq (.reg wY) .ret) .skip)))))))) (.seq (.reg wZ) .ret)))⟩
/-! slices.IndexFunc[[]horarium/api.Run,horarium/api.Run] -/
@[go_sem] def xA:=k 0x130c8
@[go_sem] def xB:=k 0xeefc9887d5c
@[go_sem] def xC:=k 0x90a1668
@[go_sem] def xD:=k 0x188ad204e69c
@[go_sem] def xE:=k 0x50acf5bec9a12335002e054d37a6ec
@[go_sem] def xF:=k 0x295d5ff374cc
@[go_sem] def xG:=k 0x5829351afd330
def U7:TC:=(.seq (.reg xC) (.seq (.cond (.t 9) .skip (.exit 0)) (.seq (.block 1 (.seq (.reg xD) (.seq (.reg xE) (.cond (.t 16) (.seq (.reg xF) .ret) .skip)))) (.reg xG))))
@[go_sem] def xH:=k 0x1318c
def KG:TF:=⟨19,[.t 4],(.seq (.reg xA) (.seq (.seq (.reg xB) (.block 0 (.loop U7))) (.seq (.reg xH) .ret)))⟩
/-! horarium/horariumref1.Cut -/
@[go_sem] def xI:=k 0x35edd4
@[go_sem] def xJ:=k 0x172eefdf0697394b7da59745dcb682ad104c
@[go_sem] def xK:=k 0x94f450c61b13f71696e6a9f50a9d76625faee741ef77439516bf38d5fdeaaf3a928d6ea0042137ba05746666b56c46f8c
@[go_sem] def xL:=k 0x35edd4
@[go_sem] def xM:=k 0x7ec59d51a87aa0b0e5e47633cbf5c884f94ef028175cdd87619dd17c7ff3e17d
def KH:TF:=⟨42,[.t 4,.t 5],(.seq (.reg xI) (.seq (.reg xJ) (.seq (.seq (.reg xK) (.cond (.t 31) (.seq (.reg xL) .ret) .skip)) (.seq (.reg xM) .ret))))⟩
/-! slices.IndexFunc[[]horarium/api.Part,horarium/api.Part] -/
@[go_sem] def xN:=k 0x130c8
@[go_sem] def xO:=k 0xeefc9887d5c
@[go_sem] def xP:=k 0x90a1668
@[go_sem] def xQ:=k 0x188ad204e69c
@[go_sem] def xR:=k 0x50acf5bedb1c88ddbbc3c4dd37a6ec
@[go_sem] def xS:=k 0x295d5ff374cc
@[go_sem] def xU:=k 0x5829351afd330
def U8:TC:=(.seq (.reg xP) (.seq (.cond (.t 9) .skip (.exit 0)) (.seq (.block 1 (.seq (.reg xQ) (.seq (.reg xR) (.cond (.t 16) (.seq (.reg xS) .ret) .skip)))) (.reg xU))))
@[go_sem] def xV:=k 0x1318c
def KI:TF:=⟨19,[.t 4],(.seq (.reg xN) (.seq (.seq (.reg xO) (.block 0 (.loop U8))) (.seq (.reg xV) .ret)))⟩
/-! horarium/config.procs -/
@[go_sem] def xW:=k 0xa448
@[go_sem] def xX:=k 0xedc79af370c
@[go_sem] def xY:=k 0x7e7c618
@[go_sem] def xZ:=k 0x6503422721e7046de56b4
@[go_sem] def yA:=k 0x27f24d5c013bd30ff849527e0e19be638d3baba0d0ee4e44f0
@[go_sem] def yB:=k 0xa448
@[go_sem] def yC:=k 0x667e781776620
def U9:TC:=(.seq (.reg xY) (.seq (.cond (.t 8) .skip (.exit 0)) (.seq (.block 1 (.seq (.reg xZ) (.seq (.reg yA) (.cond (.t 20) (.seq (.reg yB) .ret) .skip)))) (.reg yC))))
@[go_sem] def yD:=k 0x43ca193207c024ce219b18ddb60887f4cb22dd024bce25c
def KJ:TF:=⟨30,[.t 2],(.seq (.reg xW) (.seq (.seq (.reg xX) (.block 0 (.loop U9))) (.seq (.reg yD) .ret)))⟩
/-! horarium/config.within -/
@[go_sem] def yE:=k 0x130e8
@[go_sem] def yF:=k 0xbd1163981063489c3fceaf120870fc38171e7a370c
def KK:TF:=⟨12,[.t 4],(.seq (.reg yE) (.seq (.reg yF) .ret))⟩
/-! horarium/config.table$1 -/
@[go_sem] def yG:=k 0xf62246c
@[go_sem] def yH:=k 0x232ce7dc2e61b5f68df7a07bce72ffc5ac4c0
def KL:TF:=⟨10,[.t 3],(.seq (.reg yG) (.seq (.reg yH) .ret))⟩
/-! horarium/code.great -/
@[go_sem] def yI:=k 0xa63c
@[go_sem] def yJ:=k 0x73e040e2a6c
@[go_sem] def yK:=k 0x526ecd36cf676369370c
@[go_sem] def yL:=k 0x301fdb51237509fc
def KM:TF:=⟨10,[.t 2],(.seq (.reg yI) (.seq (.seq (.reg yJ) (.cond (.t 4) (.seq (.reg yK) .ret) .skip)) (.seq (.reg yL) .ret)))⟩
/-! slices.Reverse[[]byte,byte] -/
@[go_sem] def yM:=k 0x13355d1a3fa1b97ad248f5f0bc
@[go_sem] def yN:=k 0x2674a3f4e62a57ac
@[go_sem] def yO:=kd 0x2409d2072e126cb922697bdc36e993192920d744950b45377a9c35bbf7a3910784292862e4d1261ab189b48
@[go_sem] def yP:=k 0xb6e212d10d007957e51e5a8c3f76a9c
def Va:TC:=(.seq (.seq (.reg yN) (.cond (.t 9) .skip (.exit 0))) (.seq (.block 1 (.dreg yO)) (.reg yP)))
def KN:TF:=⟨28,[],(.seq (.reg yM) (.block 0 (.loop Va)))⟩
/-! horarium/code.Cut -/
@[go_sem] def yQ:=k 0x35edd4
@[go_sem] def yR:=k 0x172eefdf0697394b7da59745dcb68a5dd04c
@[go_sem] def yS:=k 0x2cb155b1f7ce088af8b3cece71226730ae7ba5266c89f783d5f67fc22dc2137ba05746666b56c46f8c
@[go_sem] def yT:=k 0x35edd4
@[go_sem] def yU:=k 0x757eff71a0d99e679269a32d39991ce855138a398c234319978dd57c7ff30e8d
def KO:TF:=⟨39,[.t 4,.t 5],(.seq (.reg yQ) (.seq (.reg yR) (.seq (.seq (.reg yS) (.cond (.t 28) (.seq (.reg yT) .ret) .skip)) (.seq (.reg yU) .ret))))⟩
def aHR:Nat→Option TF
 | 8=>some Z8
 | 12=>some Z9
 | 14=>some aA
 | 15=>some aB
 | 17=>some aC
 | 21=>some aD
 | 29=>some RR
 | 34=>some aE
 | 35=>some RU
 | 36=>some aF
 | 37=>some Oe
 | 38=>some Og
 | 39=>some Oh
 | 40=>some Oi
 | 41=>some Oj
 | 43=>some Ok
 | 44=>some Ol
 | 45=>some Om
 | 46=>some Oo
 | 47=>some Oq
 | 48=>some Ot
 | 49=>some Ou
 | 50=>some Ov
 | 51=>some Ow
 | 54=>some Ox
 | 55=>some Oy
 | 56=>some Oz
 | 57=>some OA
 | 58=>some OB
 | 59=>some OC
 | 60=>some OE
 | 61=>some OF
 | 80=>some OG
 | 81=>some OH
 | 82=>some OI
 | 83=>some OJ
 | 84=>some OK
 | 85=>some OL
 | 86=>some OM
 | 87=>some ON
 | 88=>some OO
 | 89=>some OP
 | 90=>some OQ
 | 91=>some OS
 | 92=>some OT
 | 93=>some OU
 | 94=>some OV
 | 95=>some KP
 | 96=>some OW
 | 97=>some OX
 | 98=>some OY
 | 107=>some OZ
 | 108=>some O0
 | 109=>some O1
 | 110=>some O2
 | 111=>some O3
 | 112=>some H5
 | 113=>some O4
 | 129=>some O5
 | 130=>some O6
 | 131=>some O7
 | 132=>some O8
 | 133=>some O9
 | 134=>some Pa
 | 135=>some Pb
 | 136=>some Pc
 | 137=>some Pd
 | 138=>some Pe
 | 139=>some Pg
 | 140=>some Ph
 | 141=>some Pi
 | 142=>some Pj
 | 143=>some Pk
 | 144=>some Pl
 | 145=>some Pm
 | 146=>some Pn
 | 147=>some Po
 | 148=>some Pp
 | 149=>some Pq
 | 150=>some Pr
 | 151=>some Pt
 | 152=>some Pu
 | 153=>some Pv
 | 154=>some Pw
 | 155=>some Px
 | 156=>some Py
 | 157=>some Pz
 | 165=>some PA
 | 166=>some PB
 | 167=>some PC
 | 168=>some PD
 | 169=>some PE
 | 170=>some PF
 | 178=>some PG
 | 184=>some PH
 | 185=>some PI
 | 186=>some PJ
 | 187=>some PK
 | 188=>some PL
 | 189=>some PM
 | 190=>some Kq
 | 191=>some Kr
 | 192=>some Ks
 | 193=>some Kt
 | 194=>some Ku
 | 195=>some Kv
 | 196=>some Kw
 | 197=>some Kx
 | 198=>some Ky
 | 199=>some Kz
 | 200=>some KA
 | 201=>some KB
 | 203=>some KC
 | 204=>some KD
 | 205=>some KE
 | 206=>some KF
 | 209=>some KG
 | 211=>some KH
 | 212=>some KI
 | 213=>some KJ
 | 214=>some KK
 | 215=>some KL
 | 216=>some KM
 | 217=>some KN
 | 218=>some KO
 | _=>none
def aHS:Nat→String→Option cF:=fun _ _=>none
def tp:TP:=⟨aHR,aHS⟩
theorem aT8:tp.fn aUh=some Z8:=rfl
theorem aT9:tp.fn jA=some Z9:=rfl
theorem aUa:tp.fn aGO=some aA:=rfl
theorem aUb:tp.fn aGP=some aB:=rfl
theorem aUc:tp.fn aGQ=some aC:=rfl
theorem aUd:tp.fn aGR=some aD:=rfl
theorem rF:tp.fn Yf=some RR:=rfl
theorem aUe:tp.fn aGS=some aE:=rfl
theorem rG:tp.fn aGT=some RU:=rfl
theorem aUf:tp.fn aGU=some aF:=rfl
theorem aFk:tp.fn XB=some Oe:=rfl
theorem aFl:tp.fn XC=some Og:=rfl
theorem aFm:tp.fn XD=some Oh:=rfl
theorem aFn:tp.fn XE=some Oi:=rfl
theorem aFo:tp.fn Nh=some Oj:=rfl
theorem aFp:tp.fn XF=some Ok:=rfl
theorem aFq:tp.fn Ss=some Ol:=rfl
theorem aFr:tp.fn XG=some Om:=rfl
theorem aFs:tp.fn XH=some Oo:=rfl
theorem aFt:tp.fn Ni=some Oq:=rfl
theorem aFu:tp.fn Su=some Ot:=rfl
theorem aFv:tp.fn Sv=some Ou:=rfl
theorem aFw:tp.fn XI=some Ov:=rfl
theorem aFx:tp.fn XJ=some Ow:=rfl
theorem aFy:tp.fn XK=some Ox:=rfl
theorem aFz:tp.fn XL=some Oy:=rfl
theorem aFA:tp.fn XM=some Oz:=rfl
theorem aFB:tp.fn XN=some OA:=rfl
theorem aFC:tp.fn XO=some OB:=rfl
theorem aFD:tp.fn XP=some OC:=rfl
theorem aFE:tp.fn XQ=some OE:=rfl
theorem aFF:tp.fn XR=some OF:=rfl
theorem aFG:tp.fn XS=some OG:=rfl
theorem aFH:tp.fn Nj=some OH:=rfl
theorem aFI:tp.fn XT=some OI:=rfl
theorem aFJ:tp.fn XU=some OJ:=rfl
theorem aFK:tp.fn XV=some OK:=rfl
theorem aFL:tp.fn XW=some OL:=rfl
theorem aFM:tp.fn XX=some OM:=rfl
theorem aFN:tp.fn XY=some ON:=rfl
theorem aFO:tp.fn Sw=some OO:=rfl
theorem aFP:tp.fn XZ=some OP:=rfl
theorem aFQ:tp.fn Sx=some OQ:=rfl
theorem aFR:tp.fn X0=some OS:=rfl
theorem aFS:tp.fn X1=some OT:=rfl
theorem aFT:tp.fn X2=some OU:=rfl
theorem aFU:tp.fn X3=some OV:=rfl
theorem Xp:tp.fn J0=some KP:=rfl
theorem aFV:tp.fn X4=some OW:=rfl
theorem aFW:tp.fn X5=some OX:=rfl
theorem aFX:tp.fn X6=some OY:=rfl
theorem aFY:tp.fn X7=some OZ:=rfl
theorem aFZ:tp.fn X8=some O0:=rfl
theorem aF0:tp.fn X9=some O1:=rfl
theorem aF1:tp.fn Ya=some O2:=rfl
theorem aF2:tp.fn Yb=some O3:=rfl
theorem QR:tp.fn J1=some H5:=rfl
theorem aF3:tp.fn Yc=some O4:=rfl
theorem aF4:tp.fn Yd=some O5:=rfl
theorem aF5:tp.fn Ye=some O6:=rfl
theorem aF6:tp.fn IW=some O7:=rfl
theorem aF7:tp.fn Sy=some O8:=rfl
theorem aF8:tp.fn Sz=some O9:=rfl
theorem aF9:tp.fn SA=some Pa:=rfl
theorem aGa:tp.fn Yg=some Pb:=rfl
theorem aGb:tp.fn Yh=some Pc:=rfl
theorem aGc:tp.fn Yi=some Pd:=rfl
theorem aGd:tp.fn Yj=some Pe:=rfl
theorem aGe:tp.fn Yk=some Pg:=rfl
theorem aGf:tp.fn Yl=some Ph:=rfl
theorem aGg:tp.fn Nk=some Pi:=rfl
theorem aGh:tp.fn Ym=some Pj:=rfl
theorem aGi:tp.fn Yn=some Pk:=rfl
theorem aGj:tp.fn Yo=some Pl:=rfl
theorem aGk:tp.fn IX=some Pm:=rfl
theorem aGl:tp.fn SB=some Pn:=rfl
theorem aGm:tp.fn SC=some Po:=rfl
theorem aGn:tp.fn SD=some Pp:=rfl
theorem aGo:tp.fn Yp=some Pq:=rfl
theorem aGp:tp.fn SE=some Pr:=rfl
theorem aGq:tp.fn Yq=some Pt:=rfl
theorem aGr:tp.fn SF=some Pu:=rfl
theorem aGs:tp.fn Yr=some Pv:=rfl
theorem aGt:tp.fn Ys=some Pw:=rfl
theorem aGu:tp.fn Yt=some Px:=rfl
theorem aGv:tp.fn Yu=some Py:=rfl
theorem aGw:tp.fn Yv=some Pz:=rfl
theorem aGx:tp.fn Yw=some PA:=rfl
theorem aGy:tp.fn Yx=some PB:=rfl
theorem aGz:tp.fn SG=some PC:=rfl
theorem aGA:tp.fn Nl=some PD:=rfl
theorem aGB:tp.fn Nm=some PE:=rfl
theorem aGC:tp.fn Yy=some PF:=rfl
theorem aGD:tp.fn Yz=some PG:=rfl
theorem aGE:tp.fn YA=some PH:=rfl
theorem aGF:tp.fn YB=some PI:=rfl
theorem aGG:tp.fn YC=some PJ:=rfl
theorem aGH:tp.fn SH=some PK:=rfl
theorem aGI:tp.fn YD=some PL:=rfl
theorem aGJ:tp.fn YE=some PM:=rfl
theorem hU:tp.fn QU=some Kq:=rfl
theorem hZ:tp.fn QV=some Kr:=rfl
theorem iA:tp.fn QW=some Ks:=rfl
theorem iB:tp.fn QX=some Kt:=rfl
theorem iC:tp.fn QY=some Ku:=rfl
theorem iD:tp.fn QZ=some Kv:=rfl
theorem iE:tp.fn Q0=some Kw:=rfl
theorem iG:tp.fn Im=some Kx:=rfl
theorem iH:tp.fn Q1=some Ky:=rfl
theorem iI:tp.fn Mq=some Kz:=rfl
theorem iJ:tp.fn Q2=some KA:=rfl
theorem iK:tp.fn JZ=some KB:=rfl
theorem iL:tp.fn Q3=some KC:=rfl
theorem iM:tp.fn Q4=some KD:=rfl
theorem iO:tp.fn Q5=some KE:=rfl
theorem iP:tp.fn Q6=some KF:=rfl
theorem iQ:tp.fn Q7=some KG:=rfl
theorem iR:tp.fn Q8=some KH:=rfl
theorem iS:tp.fn Q9=some KI:=rfl
theorem iT:tp.fn Ra=some KJ:=rfl
theorem iU:tp.fn Io=some KK:=rfl
theorem iV:tp.fn Rb=some KL:=rfl
theorem iW:tp.fn Re=some KM:=rfl
theorem iX:tp.fn Rf=some KN:=rfl
theorem iY:tp.fn Rg=some KO:=rfl
end Go.Ab.T
