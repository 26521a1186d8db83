/- Part of a proof that a law returns true for every input of the second form's bound (no other condition). -/
import Derived.Test.YtlcknhidblndnaaGreatPD
set_option linter.all false
/- The abstract machine's text of the functions, its regions as numbers. Written by a tool. -/
namespace Go.Ab.T
open Go Go.Ab
set_option maxRecDepth 100000
abbrev aQs:Nat:=5
abbrev gD:Nat:=10
abbrev gE:Nat:=11
abbrev WB:Nat:=12
abbrev Qh:Nat:=13
abbrev SW:Nat:=14
abbrev gF:Nat:=15
abbrev W4:Nat:=16
abbrev aEV:Nat:=17
abbrev aEW:Nat:=18
abbrev Wl:Nat:=22
abbrev KU:Nat:=23
abbrev Rd:Nat:=24
abbrev Re:Nat:=25
abbrev Rf:Nat:=26
abbrev Wm:Nat:=27
abbrev Wn:Nat:=28
abbrev Wp:Nat:=29
abbrev Wq:Nat:=30
abbrev Ws:Nat:=31
abbrev Wt:Nat:=32
abbrev Rg:Nat:=33
abbrev Wu:Nat:=34
abbrev Ww:Nat:=35
abbrev Wx:Nat:=36
abbrev Rh:Nat:=37
abbrev Ri:Nat:=38
abbrev Wy:Nat:=39
abbrev Wz:Nat:=40
abbrev WA:Nat:=41
abbrev WD:Nat:=42
abbrev Rj:Nat:=43
abbrev MO:Nat:=51
abbrev WE:Nat:=52
abbrev WF:Nat:=53
abbrev WG:Nat:=54
abbrev WH:Nat:=55
abbrev WI:Nat:=56
abbrev WJ:Nat:=57
abbrev Rk:Nat:=58
abbrev Rl:Nat:=59
abbrev WK:Nat:=60
abbrev WL:Nat:=61
abbrev Rm:Nat:=62
abbrev Rn:Nat:=63
abbrev Ro:Nat:=64
abbrev Rp:Nat:=65
abbrev MP:Nat:=66
abbrev Rq:Nat:=67
abbrev WM:Nat:=68
abbrev WN:Nat:=69
abbrev Rr:Nat:=70
abbrev Rt:Nat:=71
abbrev WO:Nat:=72
abbrev Ru:Nat:=73
abbrev Rv:Nat:=74
abbrev Rx:Nat:=75
abbrev Ry:Nat:=76
abbrev WP:Nat:=77
abbrev WR:Nat:=78
abbrev WT:Nat:=86
abbrev WU:Nat:=87
abbrev WV:Nat:=88
abbrev WW:Nat:=89
abbrev WX:Nat:=90
abbrev WY:Nat:=91
abbrev WZ:Nat:=92
abbrev W0:Nat:=93
abbrev W2:Nat:=94
abbrev W3:Nat:=95
abbrev W5:Nat:=96
abbrev W6:Nat:=97
abbrev Rz:Nat:=98
abbrev RA:Nat:=99
abbrev W7:Nat:=100
abbrev W8:Nat:=101
abbrev W9:Nat:=102
abbrev Xa:Nat:=103
abbrev Xb:Nat:=107
abbrev Xc:Nat:=108
abbrev Jf:Nat:=109
abbrev Xd:Nat:=110
abbrev Xe:Nat:=111
abbrev Xf:Nat:=112
abbrev Xg:Nat:=113
abbrev Xh:Nat:=114
abbrev Xi:Nat:=115
abbrev KW:Nat:=116
abbrev Xj:Nat:=117
abbrev Xk:Nat:=118
abbrev Xl:Nat:=119
abbrev Xm:Nat:=120
abbrev RC:Nat:=123
abbrev MQ:Nat:=124
abbrev MR:Nat:=125
abbrev Xn:Nat:=126
abbrev Xo:Nat:=127
abbrev Xp:Nat:=128
abbrev Jg:Nat:=129
abbrev Xq:Nat:=130
abbrev PM:Nat:=131
abbrev PP:Nat:=132
abbrev PQ:Nat:=133
abbrev PT:Nat:=134
abbrev PU:Nat:=135
abbrev PV:Nat:=136
abbrev PX:Nat:=137
abbrev LI:Nat:=138
abbrev PY:Nat:=139
abbrev LJ:Nat:=140
abbrev PZ:Nat:=141
abbrev P1:Nat:=142
abbrev P2:Nat:=143
abbrev P3:Nat:=144
abbrev P4:Nat:=145
abbrev P5:Nat:=146
abbrev P6:Nat:=147
abbrev Jb:Nat:=148
abbrev P7:Nat:=149
abbrev P8:Nat:=150
abbrev P9:Nat:=151
abbrev Qa:Nat:=169
abbrev Qb:Nat:=170
abbrev Qc:Nat:=171
abbrev Qd:Nat:=172
abbrev LK:Nat:=177
abbrev Jc:Nat:=178
abbrev Jd:Nat:=179
abbrev Je:Nat:=180
abbrev Qe:Nat:=181
abbrev Qf:Nat:=182
abbrev Qg:Nat:=183
def wrs:List Nat:=[KU,MO,Rd,Re,gD,Rf,gE,Jb,LJ,Jg,LI,Rg,SW,Ri,Rh,Rr,Rt,Rx,Ru,Rv,Ro,Ry,Rp,Rq,Rz,RA,Je,Jd,Jc]
def pD {α:Type} (z:α):List α→Nat→α
 | [],_=>z
 | x::_,0=>x
 | _::l,n+1=>pD z l n
def B7:Nat→Int:=pD 0 [0,1,2,3,4,5,6,7,8,9,10,11,12,13,14,15,16,17,18,19,20,21,22,23,24,25,26,27,28,29,30,31]
def aSA:List ((Nat→Nat)→O):=[fun p=>.mv (.t (p 0)),
fun p=>.fad (p 0) (.t (p 1)),
fun p=>.load 1 false (.t (p 0)),
fun p=>.mv (.c (.i .i64 (B7 (p 0)))),
fun p=>.nck (.t (p 0)),
fun p=>.len (.t (p 0)),
fun p=>.bin .eql (.t (p 0)) (.c (.i .i64 (B7 (p 1)))),
fun p=>.bin .add (.t (p 0)) (.c (.i .i64 (B7 (p 1)))),
fun p=>.pick (.t (p 0)) (.t (p 1)) (.c (.b false)),
fun p=>.mv (.c (.b false)),
fun p=>.bin .lss (.t (p 0)) (.t (p 1)),
fun p=>.pick (.t (p 0)) (.c (.b true)) (.t (p 1)),
fun p=>.store 1 (.t (p 0)) (.t (p 1)),
fun p=>.mv (.c .ns),
fun p=>.bin .lss (.t (p 0)) (.c (.i .i64 (B7 (p 1)))),
fun p=>.box (.t (p 0)),
fun p=>.bin .sub (.t (p 0)) (.c (.i .i64 (B7 (p 1)))),
fun p=>.iad 1 (.t (p 0)) (.t (p 1)),
fun p=>.call (.fn KU) [(.t (p 0)),(.c (.i .i64 (B7 (p 1))))],
fun p=>.bin .gtr (.t (p 0)) (.c (.i .i64 (B7 (p 1)))),
fun p=>.un .not (.t (p 0)),
fun p=>.iad 3 (.t (p 0)) (.t (p 1)),
fun p=>.load 3 true (.t (p 0)),
fun p=>.bin .add (.t (p 0)) (.t (p 1))]
def aSB:List ((Nat→Nat)→O):=[fun p=>.ext (.t (p 0)) 0,
fun p=>.ext (.t (p 0)) 1,
fun p=>.iad 2 (.t (p 0)) (.t (p 1)),
fun p=>.store 2 (.t (p 0)) (.t (p 1)),
fun p=>.load 2 true (.t (p 0)),
fun p=>.bin .geq (.t (p 0)) (.c (.i .i64 (B7 (p 1)))),
fun p=>.iada 1 8 (.t (p 0)) (.t (p 1)),
fun p=>.mv (.c (.b true)),
fun p=>.alloc [(.i .i64 0),(.i .i64 0)],
fun p=>.bin .eql (.t (p 0)) (.t (p 1)),
fun p=>.store 6 (.t (p 0)) (.t (p 1)),
fun p=>.bin .geq (.t (p 0)) (.t (p 1)),
fun p=>.bin .neq (.t (p 0)) (.c (.i .i64 (B7 (p 1)))),
fun p=>.mv (.c (.i .i64 (-1))),
fun p=>.mv (.c (.i .u32 0)),
fun p=>.load 6 true (.t (p 0)),
fun p=>.iad 11 (.t (p 0)) (.t (p 1)),
fun p=>.iad 6 (.t (p 0)) (.t (p 1)),
fun p=>.app 1 (.t (p 0)) (.t (p 1)),
fun p=>.bin .neq (.t (p 0)) (.t (p 1)),
fun p=>.load 11 true (.t (p 0)),
fun p=>.chk 1 false (.t (p 0)) (.t (p 1)),
fun p=>.bsl 2 [(.i .i64 0),(.i .i64 0)] 1 [(0,(.t (p 0)))],
fun p=>.app 2 (.t (p 0)) (.t (p 1))]
def aSC:List ((Nat→Nat)→O):=[fun p=>.bin .sub (.t (p 0)) (.t (p 1)),
fun p=>.iad 9 (.t (p 0)) (.t (p 1)),
fun p=>.bin .add (.c (.i .i64 (B7 (p 0)))) (.t (p 1)),
fun p=>.store 1 (.t (p 0)) (.c (.i .i64 (B7 (p 1)))),
fun p=>.load 4 true (.t (p 0)),
fun p=>.bin .gtr (.t (p 0)) (.t (p 1)),
fun p=>.alloc [.ns,.ns,.ns],
fun p=>.store 3 (.t (p 0)) (.t (p 1)),
fun p=>.call (.fn SW) [(.t (p 0)),(.c .ni)],
fun p=>.fload 1 false (.t (p 0)),
fun p=>.bin .rem (.t (p 0)) (.t (p 1)),
fun p=>.mv (.c .np),
fun p=>.alloc [(.i .i64 0),(.i .i64 0),(.i .i64 0),(.i .i64 0),(.i .i64 0),(.i .u32 0)],
fun p=>.mx [(.t (p 0)),(.t (p 1))],
fun p=>.conv .i64 (.t (p 0)),
fun p=>.alloc [(.s ⟨#[]⟩),(.i .i64 0),(.i .i64 0),(.b false),(.b false),.ns,(.i .i64 0),(.i .i64 0),(.i .i64 0),(.i .i64 0),(.i .i64 0)],
fun p=>.store 11 (.t (p 0)) (.t (p 1)),
fun p=>.bsl 1 [.ns] 1 [(0,(.t (p 0)))],
fun p=>.bsl 3 [(.i .i64 0),(.i .i64 0),(.i .i64 0)] 1 [(0,(.t (p 0)))],
fun p=>.eq false .sl (.t (p 0)) (.c .ns),
fun p=>.e0,
fun p=>.app 3 (.t (p 0)) (.t (p 1)),
fun p=>.iada 1 8 (.t (p 0)) (.c (.i .i64 (B7 (p 1)))),
fun p=>.slen (.t (p 0))]
def aSD:List ((Nat→Nat)→O):=[fun p=>.sidx (.t (p 0)) (.t (p 1)),
fun p=>.build [(.i .i64 0),(.i .i64 0)] [(0,1,(.t (p 0))),(1,1,(.t (p 1)))],
fun p=>.call (.fn KU) [(.t (p 0)),(.t (p 1))],
fun p=>.bin .leq (.t (p 0)) (.c (.i .i64 (B7 (p 1)))),
fun p=>.alloc [(.i .i64 0),(.i .i64 0),(.b false),(.i .i64 0),(.i .u32 0),(.i .i64 0)],
fun p=>.bin .leq (.t (p 0)) (.c (.i .i64 4096)),
fun p=>.mn [(.c (.i .i64 4097)),(.t (p 0))],
fun p=>.call (.fn W4) [(.t (p 0)),(.t (p 1))],
fun p=>.conv .u32 (.t (p 0)),
fun p=>.bin .leq (.t (p 0)) (.t (p 1)),
fun p=>.load 5 true (.t (p 0)),
fun p=>.call (.fn gF) [(.t (p 0))],
fun p=>.mn [(.t (p 0)),(.t (p 1))],
fun p=>.conv .u8 (.t (p 0)),
fun p=>.call (.fn W7) [(.t (p 0)),(.t (p 1))],
fun p=>.mn [(.t (p 0)),(.c (.i .i64 4097))],
fun p=>.alloc [.ns,.ns],
fun p=>.eq false .ptr (.t (p 0)) (.c .np),
fun p=>.call (.fn aEW) [(.t (p 0))],
fun p=>.bin .mul (.c (.i .i64 (B7 (p 0)))) (.t (p 1)),
fun p=>.bsl 11 [(.s ⟨#[]⟩),(.i .i64 0),(.i .i64 0),(.b false),(.b false),.ns,(.i .i64 0),(.i .i64 0),(.i .i64 0),(.i .i64 0),(.i .i64 0)] 1 [(0,(.t (p 0)))],
fun p=>.chkb 1 [(.i .u32 0)] 3 [(0,(.c (.i .u32 4294967295))),(1,(.c (.i .u32 200))),(2,(.c (.i .u32 3)))] (.t (p 0)),
fun p=>.chka [(.i .i64 0),(.i .i64 0),(.b false),(.i .i64 0),(.i .u32 0),(.i .i64 0)] (.t (p 0)),
fun p=>.app 6 (.t (p 0)) (.t (p 1))]
def aSE:List ((Nat→Nat)→O):=[fun p=>.store 4 (.t (p 0)) (.t (p 1)),
fun p=>.eq true .ptr (.t (p 0)) (.c .np),
fun p=>.call (.fn Rj) [(.t (p 0))],
fun p=>.build [(.i .i64 0),(.i .i64 0),(.i .i64 0)] [(0,1,(.c (.i .i64 (B7 (p 0))))),(2,1,(.c (.i .i64 (B7 (p 1)))))],
fun p=>.eq false (.agg [.i,.i,.i,.i,.i,.i]) (.t (p 0)) (.t (p 1)),
fun p=>.call (.fn WE) [(.t (p 0))],
fun p=>.mx [(.t (p 0)),(.c (.i .i64 (B7 (p 1))))],
fun p=>.call (.fn WN) [(.t (p 0)),(.t (p 1))],
fun p=>.call (.fn WO) [(.t (p 0))],
fun p=>.build [(.i .i64 0),(.i .i64 0),(.i .i64 0)] [(0,1,(.c (.i .i64 (B7 (p 0))))),(2,1,(.t (p 1)))],
fun p=>.bin .mul (.t (p 0)) (.t (p 1)),
fun p=>.iada 1 16 (.t (p 0)) (.t (p 1)),
fun p=>.call (.fn Xb) [(.t (p 0))],
fun p=>.bsl 1 [(.i .i64 0)] 1 [(0,(.t (p 0)))],
fun p=>.inv (.t (p 0)) "Less" [(.t (p 1)),(.t (p 2))],
fun p=>.call (.fn Xn) [(.t (p 0)),(.t (p 1))],
fun p=>.call (.fn PV) [(.t (p 0))],
fun p=>.call (.fn PZ) [(.t (p 0)),(.t (p 1))],
fun p=>.call (.fn P2) [(.t (p 0)),(.t (p 1))],
fun p=>.mx [(.c (.i .i64 (B7 (p 0)))),(.t (p 1))],
fun p=>.call (.fn Qh) [(.t (p 0)),(.t (p 1)),(.t (p 2)),(.t (p 3))],
fun p=>.call (.fn WB) [(.t (p 0)),(.c (.i .i64 (B7 (p 1)))),(.c (.i .i64 (B7 (p 2))))],
fun p=>.eq false .b (.t (p 0)) (.t (p 1)),
fun p=>.iada 1 5 (.t (p 0)) (.t (p 1))]
def aSF:List ((Nat→Nat)→O):=[fun p=>.app 11 (.t (p 0)) (.t (p 1)),
fun p=>.slice 1 (.t (p 0)) none (some (.t (p 1))) none,
fun p=>.call (.fn Rg) [(.t (p 0))],
fun p=>.alloc [(.i .i64 0),(.i .i64 0),(.i .i64 0),(.i .i64 0)],
fun p=>.load 16 true (.t (p 0)),
fun p=>.build [(.i .i64 0),(.i .i64 0)] [],
fun p=>.call (.fn Qh) [(.t (p 0)),(.c (.i .i64 (B7 (p 1)))),(.c .ns),(.c .ns)],
fun p=>.store 8 (.t (p 0)) (.t (p 1)),
fun p=>.call (.fn WF) [(.t (p 0))],
fun p=>.call (.fn WG) [(.t (p 0)),(.t (p 1)),(.t (p 2))],
fun p=>.bin .quo (.t (p 0)) (.t (p 1)),
fun p=>.call (.fn WH) [(.t (p 0)),(.t (p 1)),(.t (p 2))],
fun p=>.call (.fn Rn) [(.t (p 0))],
fun p=>.store 1 (.t (p 0)) (.c .ns),
fun p=>.mkif 149 (.t (p 0)),
fun p=>.mkif 3 (.t (p 0)),
fun p=>.tas 3 false (.i .i64 0) (.t (p 0)),
fun p=>.bin .eql (.t (p 0)) (.c (.i .u32 0)),
fun p=>.load 9 true (.t (p 0)),
fun p=>.call (.fn MO) [(.t (p 0)),(.t (p 1)),(.t (p 2))],
fun p=>.bin .gtr (.t (p 0)) (.c (.i .i64 96)),
fun p=>.call (.fn WW) [(.t (p 0)),(.t (p 1))],
fun p=>.call (.fn WX) [(.t (p 0))],
fun p=>.slice 2 (.t (p 0)) none (some (.t (p 1))) (some (.t (p 2)))]
def aSG:List ((Nat→Nat)→O):=[fun p=>.inv (.t (p 0)) "Len" [],
fun p=>.mv (.c .ni),
fun p=>.conv .u64 (.t (p 0)),
fun p=>.bin .gtr (.t (p 0)) (.c (.i .i64 128)),
fun p=>.bin .sub (.c (.i .i64 9223372036854775807)) (.t (p 0)),
fun p=>.mv (.c (.i .i64 9223372036854775807)),
fun p=>.idx 1 5 false (.t (p 0)) (.t (p 1)),
fun p=>.call (.fn KW) [(.t (p 0)),(.t (p 1))],
fun p=>.inv (.t (p 0)) "Swap" [(.t (p 1)),(.t (p 2))],
fun p=>.bin .gtr (.t (p 0)) (.c (.i .i64 4096)),
fun p=>.call (.fn Jf) [(.t (p 0)),(.t (p 1)),(.t (p 2))],
fun p=>.call (.t (p 0)) [(.t (p 1))],
fun p=>.call (.fn Xo) [(.t (p 0))],
fun p=>.call (.fn RC) [(.t (p 0)),(.t (p 1))],
fun p=>.call (.fn P3) [(.t (p 0))],
fun p=>.bsl 1 [(.i .i64 0)] 2 [(0,(.t (p 0))),(1,(.t (p 1)))],
fun p=>.bin .leq (.t (p 0)) (.c (.i .i64 128)),
fun p=>.call (.fn P5) [(.t (p 0))],
fun p=>.bsl 6 [(.i .i64 0),(.i .i64 0),(.i .i64 0),(.i .i64 0),(.i .i64 0),(.i .i64 0)] 1 [(0,(.t (p 0)))],
fun p=>.call (.fn P7) [(.t (p 0))],
fun p=>.iad 6 (.t (p 0)) (.c (.i .i64 (B7 (p 1)))),
fun p=>.mv (.c (.i .u32 4)),
fun p=>.call (.fn Qf) [(.t (p 0)),(.t (p 1))],
fun p=>.call (.fn Qg) [(.t (p 0))]]
def aSH:List ((Nat→Nat)→O):=[fun p=>.build [.ns,(.i .i64 0)] [(0,1,(.t (p 0)))],
fun p=>.call (.fn gD) [(.t (p 0))],
fun p=>.call (.fn gE) [(.t (p 0)),(.t (p 1))],
fun p=>.call (.fn WB) [(.t (p 0)),(.c (.i .i64 (B7 (p 1)))),(.t (p 2))],
fun p=>.call (.fn aEV) [],
fun p=>.bin .add (.c (.i .i64 97)) (.t (p 0)),
fun p=>.conv .i32 (.t (p 0)),
fun p=>.i2s (.t (p 0)),
fun p=>.bin .add (.c (.s ⟨#[112]⟩)) (.t (p 0)),
fun p=>.build [(.s ⟨#[]⟩),(.i .i64 0),(.i .i64 0),(.b false),(.b false),.ns,(.i .i64 0),(.i .i64 0),(.i .i64 0),(.i .i64 0),(.i .i64 0)] [(0,1,(.t (p 0))),(3,1,(.t (p 1))),(4,1,(.t (p 2)))],
fun p=>.bsl 1 [(.i .i64 0)] 5 [(0,(.c (.i .i64 (B7 (p 0))))),(1,(.c (.i .i64 (B7 (p 1))))),(2,(.c (.i .i64 (B7 (p 2))))),(3,(.c (.i .i64 (B7 (p 3))))),(4,(.c (.i .i64 (B7 (p 4)))))],
fun p=>.bslc 1 [(.i .u32 0)] 3 [(0,(.c (.i .u32 4294967295))),(1,(.c (.i .u32 200))),(2,(.c (.i .u32 3)))],
fun p=>.alc [(.i .i64 0),(.i .i64 0),(.b false),(.i .i64 0),(.i .u32 0),(.i .i64 0)],
fun p=>.build [(.i .i64 0),(.i .i64 0),(.b false),(.i .i64 0),(.i .u32 0),(.i .i64 0)] [(0,1,(.t (p 0))),(1,1,(.t (p 1))),(2,1,(.t (p 2))),(4,1,(.t (p 3)))],
fun p=>.bsl 6 [(.i .i64 0),(.i .i64 0),(.b false),(.i .i64 0),(.i .u32 0),(.i .i64 0)] 1 [(0,(.t (p 0)))],
fun p=>.call (.fn Rd) [(.t (p 0)),(.t (p 1))],
fun p=>.call (.fn Re) [(.t (p 0)),(.t (p 1))],
fun p=>.call (.fn Rf) [(.t (p 0)),(.t (p 1)),(.t (p 2))],
fun p=>.call (.fn KU) [(.t (p 0)),(.c (.i .i64 300))],
fun p=>.bsl 1 [(.i .u32 0)] 1 [(0,(.t (p 0)))],
fun p=>.call (.fn Wm) [(.t (p 0))],
fun p=>.call (.fn Wn) [(.t (p 0))],
fun p=>.mn [(.t (p 0)),(.c (.i .i64 512))],
fun p=>.call (.fn Wp) [(.t (p 0))]]
def aSI:List ((Nat→Nat)→O):=[fun p=>.call (.fn Wq) [(.t (p 0))],
fun p=>.call (.fn Ws) [(.t (p 0))],
fun p=>.build [.ns,.ns,.ns,(.i .i64 0),.ns,.ns,.np,.ns,(.i .u32 0),(.i .u32 0),(.i .u32 0),(.i .u32 0),(.i .u32 0),(.i .u32 0),(.i .u32 0),(.i .u32 0),(.i .u32 0),(.i .u32 0),(.i .u32 0),(.i .u32 0),(.i .u32 0),(.i .u32 0),(.i .u32 0),(.i .u32 0),.np,(.i .i64 0)] [(0,3,(.t (p 0))),(3,1,(.t (p 1))),(4,1,(.t (p 2))),(5,1,(.t (p 3))),(24,1,(.t (p 4)))],
fun p=>.call (.fn Wt) [(.t (p 0))],
fun p=>.build [(.i .i64 0),(.i .i64 0),(.i .i64 0),(.i .i64 0),(.i .i64 0),(.i .u32 0)] [],
fun p=>.eq false .ifc (.t (p 0)) (.c .ni),
fun p=>.build [] [],
fun p=>.mkif 91 (.t (p 0)),
fun p=>.call (.fn Wu) [(.t (p 0)),(.t (p 1))],
fun p=>.build [(.i .i64 0),(.i .i64 0),(.i .i64 0),(.i .i64 0),(.i .i64 0),(.i .u32 0)] [(0,1,(.t (p 0))),(1,1,(.c (.i .i64 (-1))))],
fun p=>.build [(.i .i64 0),(.i .i64 0),(.i .i64 0),(.i .i64 0),(.i .i64 0),(.i .u32 0)] [(0,1,(.t (p 0))),(1,1,(.t (p 1))),(2,1,(.t (p 2)))],
fun p=>.call (.fn Ww) [(.t (p 0)),(.t (p 1))],
fun p=>.call (.fn Wx) [(.t (p 0))],
fun p=>.call (.fn Rh) [(.t (p 0)),(.t (p 1)),(.t (p 2)),(.t (p 3)),(.t (p 4))],
fun p=>.store 1 (.t (p 0)) (.c (.i .u32 0)),
fun p=>.call (.fn Ri) [(.t (p 0)),(.t (p 1)),(.t (p 2))],
fun p=>.call (.fn Wy) [(.t (p 0))],
fun p=>.eq false (.agg [.i,.i,.i,.i,.i,.i,.i,.i,.i,.i,.i,.i,.i,.i,.i,.i]) (.t (p 0)) (.t (p 1)),
fun p=>.call (.fn Wz) [(.t (p 0)),(.t (p 1))],
fun p=>.call (.fn WA) [(.t (p 0)),(.t (p 1))],
fun p=>.call (.fn WD) [(.t (p 0)),(.t (p 1))],
fun p=>.build [(.i .i64 0),(.i .i64 0),(.i .i64 0),(.i .i64 0),(.i .i64 0)] [(0,1,(.c (.i .i64 (B7 (p 0))))),(1,1,(.c (.i .i64 (B7 (p 1))))),(2,1,(.c (.i .i64 (B7 (p 2))))),(3,1,(.c (.i .i64 (B7 (p 3))))),(4,1,(.c (.i .i64 (B7 (p 4)))))],
fun p=>.build [(.s ⟨#[]⟩),(.i .i64 0),(.i .i64 0),(.b false),(.b false),.ns,(.i .i64 0),(.i .i64 0),(.i .i64 0),(.i .i64 0),(.i .i64 0)] [(0,1,(.c (.s ⟨#[97]⟩))),(5,1,(.t (p 0))),(6,5,(.t (p 1)))],
fun p=>.build [.ns,.ns,.ns] [(0,1,(.t (p 0))),(2,1,(.t (p 1)))]]
def aSJ:List ((Nat→Nat)→O):=[fun p=>.bsl 1 [(.i .u8 0)] 12 [(0,(.c (.i .u8 1))),(1,(.c (.i .u8 1))),(2,(.c (.i .u8 0))),(3,(.c (.i .u8 7))),(4,(.c (.i .u8 5))),(5,(.c (.i .u8 2))),(6,(.c (.i .u8 1))),(7,(.c (.i .u8 3))),(8,(.c (.i .u8 11))),(9,(.c (.i .u8 0))),(10,(.c (.i .u8 1))),(11,(.c (.i .u8 0)))],
fun p=>.call (.fn Qh) [(.t (p 0)),(.c (.i .i64 (B7 (p 1)))),(.t (p 2)),(.c .ns)],
fun p=>.build [.ns,.ns,.ns] [],
fun p=>.build [(.i .i64 0),(.i .i64 0),(.i .i64 0),(.i .i64 0),(.i .i64 0),(.i .u32 0)] [(3,1,(.c (.i .i64 (B7 (p 0))))),(5,1,(.c (.i .u32 7)))],
fun p=>.build [(.i .i64 0),(.i .i64 0),(.i .i64 0),(.i .i64 0),(.i .i64 0),(.i .u32 0)] [(0,1,(.c (.i .i64 (B7 (p 0))))),(2,1,(.c (.i .i64 (B7 (p 1))))),(3,1,(.c (.i .i64 (B7 (p 2))))),(4,1,(.c (.i .i64 (B7 (p 3)))))],
fun p=>.build [(.i .i64 0),(.i .i64 0),(.i .i64 0),(.i .i64 0),(.i .i64 0),(.i .u32 0)] [(0,1,(.c (.i .i64 (B7 (p 0))))),(2,1,(.c (.i .i64 (B7 (p 1))))),(4,1,(.c (.i .i64 (B7 (p 2)))))],
fun p=>.call (.fn Wl) [(.t (p 0)),(.c (.i .i64 (B7 (p 1))))],
fun p=>.idx 1 8 false (.t (p 0)) (.c (.i .i64 (B7 (p 1)))),
fun p=>.bin .eql (.t (p 0)) (.c (.i .u32 7)),
fun p=>.call (.fn W4) [(.t (p 0)),(.c .np)],
fun p=>.alloc [(.i .u32 0),(.i .u32 0),(.i .u32 0),(.i .u32 0),(.i .u32 0),(.i .u32 0),(.i .u32 0),(.i .u32 0)],
fun p=>.build [(.i .u32 0),(.i .u32 0),(.i .u32 0),(.i .u32 0),(.i .u32 0),(.i .u32 0),(.i .u32 0),(.i .u32 0)] [],
fun p=>.load 8 true (.t (p 0)),
fun p=>.call (.fn WB) [(.t (p 0)),(.c (.i .i64 (B7 (p 1)))),(.c (.i .i64 1073741824))],
fun p=>.call (.fn MO) [(.t (p 0)),(.t (p 1)),(.c (.i .i64 (B7 (p 2))))],
fun p=>.bin .gtr (.t (p 0)) (.c (.i .i64 90)),
fun p=>.build [(.i .i64 0),(.i .i64 0),(.i .i64 0)] [(0,1,(.c (.i .i64 (B7 (p 0))))),(1,1,(.t (p 1))),(2,1,(.c (.i .i64 (B7 (p 2)))))],
fun p=>.bsl 3 [(.i .i64 0),(.i .i64 0),(.i .i64 0)] 3 [(0,(.t (p 0))),(1,(.t (p 1))),(2,(.t (p 2)))],
fun p=>.mn [(.t (p 0)),(.c (.i .i64 4096))],
fun p=>.iad 1 (.t (p 0)) (.c (.i .i64 (B7 (p 1)))),
fun p=>.mv (.c (.i .i64 4096)),
fun p=>.call (.fn WI) [(.t (p 0))],
fun p=>.bslc 1 [(.i .i64 0)] 5 [(0,(.c (.i .i64 (B7 (p 0))))),(1,(.c (.i .i64 (B7 (p 1))))),(2,(.c (.i .i64 (B7 (p 2))))),(3,(.c (.i .i64 (B7 (p 3))))),(4,(.c (.i .i64 200)))],
fun p=>.chkb 1 [(.i .i64 0)] 5 [(0,(.c (.i .i64 (B7 (p 0))))),(1,(.c (.i .i64 (B7 (p 1))))),(2,(.c (.i .i64 (B7 (p 2))))),(3,(.c (.i .i64 (B7 (p 3))))),(4,(.c (.i .i64 200)))] (.t (p 4))]
def aQO:List ((Nat→Nat)→O):=[fun p=>.bsl 1 [(.i .u8 0)] 4 [(0,(.t (p 0))),(1,(.t (p 1))),(2,(.t (p 2))),(3,(.t (p 3)))],
fun p=>.bsl 1 [(.i .u8 0)] 4 [(0,(.c (.i .u8 8))),(1,(.c (.i .u8 0))),(2,(.c (.i .u8 0))),(3,(.c (.i .u8 0)))],
fun p=>.call (.fn WJ) [(.t (p 0))],
fun p=>.call (.fn Rl) [(.t (p 0))],
fun p=>.call (.fn Rk) [(.t (p 0))],
fun p=>.call (.fn WL) [(.t (p 0))],
fun p=>.call (.fn WK) [(.t (p 0))],
fun p=>.call (.fn Rm) [(.t (p 0))],
fun p=>.build [(.i .i64 0),(.i .i64 0),(.i .i64 0),(.i .i64 0),(.i .i64 0),.ns,(.b false)] [(0,5,(.t (p 0)))],
fun p=>.build [.ns] [],
fun p=>.build [(.i .i64 0),(.i .i64 0),(.b false)] [(0,1,(.t (p 0)))],
fun p=>.bsl 3 [(.i .i64 0),(.i .i64 0),(.b false)] 1 [(0,(.t (p 0)))],
fun p=>.call (.fn Ro) [(.t (p 0))],
fun p=>.build [(.i .u32 0),(.i .u32 0),(.i .u32 0),(.i .u32 0),(.i .u32 0),(.i .u32 0),(.i .u32 0),(.i .u32 0),(.i .i64 0)] [(8,1,(.t (p 0)))],
fun p=>.bsl 9 [(.i .u32 0),(.i .u32 0),(.i .u32 0),(.i .u32 0),(.i .u32 0),(.i .u32 0),(.i .u32 0),(.i .u32 0),(.i .i64 0)] 1 [(0,(.t (p 0)))],
fun p=>.app 9 (.t (p 0)) (.t (p 1)),
fun p=>.build [(.i .u32 0),(.i .u32 0),(.i .u32 0),(.i .u32 0),(.i .u32 0),(.i .u32 0),(.i .u32 0),(.i .u32 0),(.i .u32 0),(.i .u32 0),(.i .u32 0),(.i .u32 0),(.i .u32 0),(.i .u32 0),(.i .u32 0),(.i .u32 0)] [],
fun p=>.store 16 (.t (p 0)) (.t (p 1)),
fun p=>.build [.ns,.ns] [(1,1,(.t (p 0)))],
fun p=>.alloc [(.i .i64 0),(.i .i64 0),(.b false)],
fun p=>.call (.fn Rp) [(.t (p 0)),(.t (p 1))],
fun p=>.call (.fn MP) [(.t (p 0))],
fun p=>.call (.fn Rq) [(.t (p 0))],
fun p=>.bin .rem (.t (p 0)) (.c (.i .i64 (B7 (p 1))))]
def aQP:List ((Nat→Nat)→O):=[fun p=>.build [(.i .i64 0),(.i .i64 0),(.i .i64 0),(.i .i64 0)] [],
fun p=>.build [(.i .i64 0),(.i .i64 0),(.i .i64 0),(.i .i64 0)] [(0,1,(.t (p 0))),(1,1,(.t (p 1))),(2,1,(.t (p 2))),(3,1,(.t (p 3)))],
fun p=>.call (.fn WM) [(.t (p 0))],
fun p=>.ext (.t (p 0)) 2,
fun p=>.call (.fn Rr) [(.t (p 0)),(.t (p 1)),(.t (p 2)),(.t (p 3))],
fun p=>.call (.fn Rt) [(.t (p 0)),(.t (p 1)),(.t (p 2))],
fun p=>.call (.fn Ru) [(.t (p 0)),(.t (p 1)),(.t (p 2))],
fun p=>.call (.fn Rv) [(.t (p 0)),(.t (p 1))],
fun p=>.call (.fn Rx) [(.t (p 0)),(.t (p 1)),(.t (p 2)),(.t (p 3))],
fun p=>.call (.fn Ry) [(.t (p 0)),(.t (p 1)),(.t (p 2)),(.t (p 3))],
fun p=>.eq true (.agg [.i,.i,.i,.i,.i,.i,.i,.i,.i]) (.t (p 0)) (.t (p 1)),
fun p=>.call (.fn WP) [(.t (p 0)),(.t (p 1))],
fun p=>.eq true (.agg [.i,.i,.i]) (.t (p 0)) (.t (p 1)),
fun p=>.call (.fn WR) [(.t (p 0))],
fun p=>.build [(.i .i64 0),(.i .i64 0),(.i .i64 0)] [(0,1,(.c (.i .i64 (B7 (p 0))))),(1,1,(.t (p 1))),(2,1,(.t (p 2)))],
fun p=>.call (.fn WT) [(.t (p 0))],
fun p=>.call (.fn WV) [(.t (p 0))],
fun p=>.call (.fn WU) [(.t (p 0))],
fun p=>.slice 1 (.t (p 0)) (some (.t (p 1))) (some (.t (p 2))) none,
fun p=>.call (.fn WY) [(.t (p 0))],
fun p=>.call (.fn WZ) [(.t (p 0))],
fun p=>.slice 11 (.t (p 0)) none (some (.t (p 1))) none,
fun p=>.mkfn (.func W2) [] [(.t (p 0))],
fun p=>.call (.fn W0) [(.t (p 0)),(.t (p 1))]]
def aQQ:List ((Nat→Nat)→O):=[fun p=>.call (.fn W3) [(.t (p 0))],
fun p=>.call (.fn W5) [(.t (p 0)),(.t (p 1))],
fun p=>.call (.fn W6) [(.t (p 0)),(.t (p 1))],
fun p=>.slice 6 (.t (p 0)) none (some (.t (p 1))) (some (.t (p 2))),
fun p=>.slice 3 (.t (p 0)) none (some (.t (p 1))) (some (.t (p 2))),
fun p=>.store 1 (.t (p 0)) (.c (.b false)),
fun p=>.inv (.t (p 0)) "Push" [(.t (p 1))],
fun p=>.call (.fn Rz) [(.t (p 0)),(.t (p 1))],
fun p=>.inv (.t (p 0)) "Swap" [(.c (.i .i64 (B7 (p 1)))),(.t (p 2))],
fun p=>.call (.fn RA) [(.t (p 0)),(.c (.i .i64 (B7 (p 1)))),(.t (p 2))],
fun p=>.inv (.t (p 0)) "Pop" [],
fun p=>.bin .leq (.t (p 0)) (.c (.i .i64 255)),
fun p=>.bin .geq (.t (p 0)) (.c (.i .u64 16)),
fun p=>.bin .mul (.t (p 0)) (.c (.i .u32 256)),
fun p=>.store 1 (.t (p 0)) (.c (.b true)),
fun p=>.mkfn (.method "Change") [(.t (p 0))] [],
fun p=>.inv (.t (p 0)) "Change" [(.t (p 1))],
fun p=>.inv (.t (p 0)) "StopAll" [],
fun p=>.call (.fn W8) [(.t (p 0)),(.t (p 1)),(.t (p 2))],
fun p=>.inv (.t (p 0)) "Send" [(.t (p 1)),(.t (p 2))],
fun p=>.inv (.t (p 0)) "Recv" [(.t (p 1))],
fun p=>.bin .neq (.t (p 0)) (.c (.i .u32 2)),
fun p=>.build [(.i .i64 0),(.i .i64 0),(.i .i64 0)] [(0,1,(.t (p 0))),(1,1,(.t (p 1))),(2,1,(.t (p 2)))],
fun p=>.call (.fn W9) [(.t (p 0)),(.t (p 1))]]
def aQR:List ((Nat→Nat)→O):=[fun p=>.eq true (.agg [.i,.i,.b]) (.t (p 0)) (.t (p 1)),
fun p=>.call (.fn Xa) [(.t (p 0))],
fun p=>.call (.fn Xc) [(.t (p 0))],
fun p=>.call (.fn Jf) [(.t (p 0)),(.c (.i .i64 (B7 (p 1)))),(.c .ns)],
fun p=>.bin .lss (.t (p 0)) (.c (.i .i64 8192)),
fun p=>.call (.fn Xd) [(.t (p 0))],
fun p=>.call (.fn Xe) [(.t (p 0))],
fun p=>.call (.fn Xf) [(.t (p 0)),(.t (p 1))],
fun p=>.call (.fn Xg) [(.t (p 0)),(.t (p 1))],
fun p=>.bin .geq (.t (p 0)) (.c (.i .u8 97)),
fun p=>.bin .leq (.t (p 0)) (.c (.i .u8 122)),
fun p=>.bin .lss (.t (p 0)) (.c (.i .u8 48)),
fun p=>.bin .gtr (.t (p 0)) (.c (.i .u8 57)),
fun p=>.bin .neq (.t (p 0)) (.c (.i .u8 95)),
fun p=>.call (.fn Xh) [(.t (p 0)),(.t (p 1))],
fun p=>.call (.fn Xi) [(.t (p 0))],
fun p=>.call (.fn KW) [(.t (p 0)),(.c (.i .i64 4096))],
fun p=>.call (.fn Xj) [(.t (p 0))],
fun p=>.mkfn (.func Xl) [] [(.t (p 0))],
fun p=>.call (.fn Xk) [(.t (p 0)),(.t (p 1))],
fun p=>.call (.fn Xm) [(.t (p 0)),(.t (p 1))],
fun p=>.bin .quo (.t (p 0)) (.c (.i .i64 (B7 (p 1)))),
fun p=>.call (.fn RC) [(.t (p 0)),(.c (.i .i64 (B7 (p 1))))],
fun p=>.call (.fn MQ) [(.t (p 0)),(.c (.i .i64 (B7 (p 1))))]]
def aQS:List ((Nat→Nat)→O):=[fun p=>.call (.fn MR) [(.t (p 0)),(.c (.i .i64 (B7 (p 1))))],
fun p=>.build [(.i .i64 0),(.i .i64 0)] [(0,1,(.c (.i .i64 (-1)))),(1,1,(.t (p 0)))],
fun p=>.bin .geq (.t (p 0)) (.c (.i .u8 48)),
fun p=>.bin .leq (.t (p 0)) (.c (.i .u8 57)),
fun p=>.bin .eql (.t (p 0)) (.c (.i .u8 95)),
fun p=>.bin .lss (.t (p 0)) (.c (.i .u8 97)),
fun p=>.bin .gtr (.t (p 0)) (.c (.i .u8 122)),
fun p=>.bin .geq (.t (p 0)) (.c (.i .i64 512)),
fun p=>.bin .gtr (.t (p 0)) (.c (.i .i64 255)),
fun p=>.call (.fn KW) [(.t (p 0)),(.c (.i .i64 511))],
fun p=>.call (.fn KW) [(.t (p 0)),(.c (.i .i64 255))],
fun p=>.call (.fn Xp) [(.t (p 0))],
fun p=>.call (.fn Jg) [(.t (p 0))],
fun p=>.call (.fn Xq) [(.t (p 0))],
fun p=>.call (.fn PM) [(.t (p 0)),(.t (p 1))],
fun p=>.call (.fn PP) [(.t (p 0)),(.t (p 1)),(.t (p 2))],
fun p=>.bin .eql (.t (p 0)) (.c (.i .i64 (-1))),
fun p=>.call (.fn PQ) [(.t (p 0)),(.t (p 1)),(.t (p 2))],
fun p=>.call (.fn PT) [(.t (p 0))],
fun p=>.call (.fn MQ) [(.t (p 0)),(.t (p 1))],
fun p=>.call (.fn MR) [(.t (p 0)),(.t (p 1))],
fun p=>.call (.fn PU) [(.t (p 0))],
fun p=>.call (.fn PX) [(.t (p 0))],
fun p=>.build [.ns,.ns,(.i .i64 0),(.i .i64 0),(.i .i64 0)] [(0,1,(.t (p 0)))]]
def aQT:List ((Nat→Nat)→O):=[fun p=>.call (.fn LI) [(.t (p 0))],
fun p=>.call (.fn PY) [(.t (p 0))],
fun p=>.call (.fn LJ) [(.t (p 0))],
fun p=>.call (.fn P1) [(.t (p 0))],
fun p=>.call (.fn P4) [(.t (p 0)),(.t (p 1)),(.t (p 2))],
fun p=>.call (.fn P6) [(.t (p 0)),(.c (.i .i64 (B7 (p 1))))],
fun p=>.call (.fn Jb) [(.t (p 0)),(.c (.i .i64 (B7 (p 1))))],
fun p=>.call (.fn Jb) [(.t (p 0)),(.t (p 1))],
fun p=>.slice 2 (.t (p 0)) none (some (.t (p 1))) none,
fun p=>.iad 2 (.t (p 0)) (.c (.i .i64 (B7 (p 1)))),
fun p=>.build [(.i .i64 0),(.i .i64 0),(.i .i64 0),(.i .i64 0),(.i .i64 0),(.i .i64 0)] [(3,1,(.c (.i .i64 (B7 (p 0)))))],
fun p=>.alloc [(.i .i64 0),(.i .i64 0),(.i .i64 0)],
fun p=>.build [(.i .i64 0),(.i .i64 0),(.i .i64 0),(.i .i64 0),(.i .i64 0),(.i .i64 0)] [(0,3,(.t (p 0))),(3,1,(.t (p 1)))],
fun p=>.alloc [(.i .i64 0),(.i .i64 0),(.i .i64 0),(.i .i64 0),(.i .i64 0),(.i .i64 0)],
fun p=>.slice 6 (.t (p 0)) none (some (.t (p 1))) none,
fun p=>.call (.fn P8) [(.t (p 0)),(.t (p 1))],
fun p=>.call (.fn P9) [(.t (p 0)),(.t (p 1))],
fun p=>.mv (.c (.i .u32 2)),
fun p=>.mv (.c (.i .u32 3)),
fun p=>.call (.fn Qe) [(.t (p 0))]]
def aSK:Nat→List ((Nat→Nat)→O)
 | 0=>aSA
 | 1=>aSB
 | 2=>aSC
 | 3=>aSD
 | 4=>aSE
 | 5=>aSF
 | 6=>aSG
 | 7=>aSH
 | 8=>aSI
 | 9=>aSJ
 | 10=>aQO
 | 11=>aQP
 | 12=>aQQ
 | 13=>aQR
 | 14=>aQS
 | _=>aQT
def shp (s:Nat) (p:Nat→Nat):O:=pD (fun _=>.e0) (aSK (s / 24)) (s % 24) p
def nps:List Nat:=[1,2,1,1,1,1,2,2,2,0,2,2,2,0,2,1,2,2,2,2,1,2,1,2,1,1,2,2,1,2,2,0,0,2,2,2,2,0,0,1,2,2,2,2,1,2,1,2,2,2,2,2,1,2,0,2,1,1,2,0,0,2,1,0,2,1,1,1,0,2,2,1,2,2,2,2,0,1,1,2,1,2,1,1,2,1,2,1,0,1,1,2,1,1,1,2,2,1,1,2,2,1,2,2,1,2,2,2,1,1,3,2,1,2,2,2,4,3,2,2,2,2,1,0,1,0,2,2,1,3,2,3,1,1,1,1,1,1,1,3,1,2,1,3,1,0,1,1,1,0,2,2,3,1,3,2,1,2,1,2,1,1,1,1,2,0,2,1,1,1,2,3,0,1,1,1,1,3,5,0,0,4,1,2,2,3,1,1,1,1,1,1,1,1,5,1,0,1,0,1,2,1,3,2,1,5,1,3,1,2,2,2,2,5,2,2,0,3,0,1,4,3,2,2,1,1,0,0,1,2,3,1,3,3,1,2,0,1,4,5,4,0,1,1,1,1,1,1,1,0,1,1,1,1,1,2,0,2,1,0,2,1,1,2,0,4,1,1,4,3,3,2,4,4,2,2,2,1,3,1,1,1,3,1,1,2,1,2,1,2,2,3,3,1,2,2,3,3,1,1,1,1,1,1,2,1,3,3,2,1,3,2,2,1,1,2,1,1,1,2,2,1,1,1,1,1,2,1,1,1,1,2,2,2,2,2,2,1,1,1,1,1,1,1,1,1,1,1,1,1,2,3,1,3,1,2,2,1,1,1,1,1,1,1,3,2,2,2,2,2,1,0,2,0,2,2,2,0,0,1]
abbrev Rs:=List TO×List (Bool×List TO)
abbrev Rc:=Nat→Nat→Nat→Bool→Rs
def aFT (s:Nat) (d:Option Nat) (g:Option (Nat×Bool)) (l:List Nat) (r:Rs):Rs:=(⟨d,shp s (fun i=>pD 0 l i),g⟩::r.1,r.2)
def nN (R:Nat) (rc:Nat→List Nat→Rs):Nat→Nat→List Nat→Rs
 | 0,n,l=>rc n l
 | f+1,n,l=>nN R rc f (n / R) (n % R::l)
def nM (R s:Nat) (rc:Rc) (g:Option (Nat×Bool)) (gn:Nat) (gb:Bool) (p:Nat):Nat→Nat→Rs
 | 0,n=>nN R (fun n l=>aFT s (some (p+1)) g l (rc n (p+1) gn gb)) (pD 0 nps s) n []
 | 1,n=>nN R (fun m l=>aFT s (some (n % R)) g l (rc m (n % R) gn gb)) (pD 0 nps s) (n / R) []
 | _+2,n=>nN R (fun n l=>aFT s none g l (rc n p gn gb)) (pD 0 nps s) n []
def aSz (R s:Nat) (rc:Rc) (p gn:Nat) (gb:Bool):Nat→Nat→Rs
 | 0,n=>nM R s rc none gn gb p (n % 3) (n / 3)
 | 1,n=>nM R s rc (some (n % R,true)) (n % R) true p (n / R % 3) (n / R / 3)
 | 2,n=>nM R s rc (some (n % R,false)) (n % R) false p (n / R % 3) (n / R / 3)
 | _+3,n=>nM R s rc (some (gn,gb)) gn gb p (n % 3) (n / 3)
def aQN (b:Bool) (r:Rs):Rs:=([],(b,r.1)::r.2)
def aSL (R:Nat) (rc:Rc) (p gn:Nat) (gb:Bool):Nat→Nat→Rs
 | 0,_=>([],[])
 | 1,n=>aQN true (rc n p gn gb)
 | 2,n=>aQN false (rc n p gn gb)
 | s+3,n=>aSz R s rc p gn gb (n % 4) (n / 4)
def aFS (R:Nat):Nat→Rc
 | 0=>fun _ _ _ _=>([],[])
 | f+1=>fun n p gn gb=>aSL R (aFS R f) p gn gb (n % 383) (n / 383)
def aQM (n:Nat):Nat:=pD 0 [32,64,128,512] (n % 4)
@[go_sem ↓] def k (n:Nat) {l:List TO} (h:(aFS (aQM n) 400 (n / 4) 511 0 true).1=l:=by conv=>lhs;cbv):List TO:=l
@[go_sem ↓] def kd (n:Nat) {l:List (Bool×List TO)} (h:(aFS (aQM n) 400 (n / 4) 511 0 true).2=l:=by conv=>lhs;cbv):List (Bool×List TO):=l
/-! horarium/horariumlaw19.PartAlike -/
@[go_sem] def aQ0:=k 0x256a0
@[go_sem] def aQ1:=k 0x10e02a74c97b8b5d02c6c
@[go_sem] def aQ2:=k 0x8832ee0fa5d464bc0ddc
@[go_sem] def aQ3:=k 0x2a18ae2011b3c3c2cd5fdedd7c
@[go_sem] def aQ4:=k 0x12060185e31a661e962da55e045cb32f7d1b759eed
@[go_sem] def aQ5:=kd 0x88680c77502ffe2f750ef51ca1c56a0920e1f962c5921086501ce24a55cd0aebe68c61edb53a337e1c81290b49825daa54b979c5318d7be71ad47deb8910d8751f179fd0cd1f770d4755ef53e1
@[go_sem] def aQ6:=k 0x20a1f00c15edf725873a1f2f1fe35179154b4c46a46bc14f53c53069e3e4d5ec36cee
@[go_sem] def aQ7:=k 0x256a0
@[go_sem] def aQ8:=k 0x49d890747cb2ab4f53bab8cb79d8e9c9db9bd2ae
@[go_sem] def aQ9:=k 0x4dcd8
@[go_sem] def aF4:=k 0x1ab2ce66c9e18c389ee
@[go_sem] def aF5:=k 0x64bd522550fe
@[go_sem] def aF6:=k 0xdf9831e7b2b4f690615e
def T5:TC:=(.seq (.seq (.reg aF4) (.cond (.t 77) .skip (.exit 0))) (.seq (.block 1 (.reg aF5)) (.reg aF6)))
@[go_sem] def aF7:=k 0x524a8
@[go_sem] def aF8:=k 0x1d30a7c7c48c979689e
@[go_sem] def aF9:=k 0x6d8d863b2fae
@[go_sem] def aGa:=k 0xf365151dc91eeeb6400e
def T6:TC:=(.seq (.seq (.reg aF8) (.cond (.t 84) .skip (.exit 2))) (.seq (.block 3 (.reg aF9)) (.reg aGa)))
@[go_sem] def aGb:=k 0x30a2ea9c7db8cdf594b99020d8f0b33931783a6406d30bdbdd7e116a069dc256494c30647a83c57e54677f2be41db31a7ef5fd27f54ced8347a9cf3a331007efa7d74e
def YJ:TF:=⟨111,[.t 8],(.seq (.reg aQ0) (.seq (.reg aQ1) (.seq (.reg aQ2) (.seq (.reg aQ3) (.seq (.reg aQ4) (.seq (.dreg aQ5) (.seq (.seq (.reg aQ6) (.cond (.t 70) (.seq (.reg aQ7) .ret) .skip)) (.seq (.reg aQ8) (.seq (.seq (.reg aQ9) (.block 0 (.loop T5))) (.seq (.seq (.reg aF7) (.block 2 (.loop T6))) (.seq (.reg aGb) .ret)))))))))))⟩
/-! (*horarium/horariumkeep.Tape).Config -/
@[go_sem] def aRa:=k 0xa874
@[go_sem] def aRb:=k 0xf044
@[go_sem] def aRc:=k 0x2ffc2738f4c7f7aae57fd8c
@[go_sem] def aRd:=k 0x17f18
@[go_sem] def aRe:=k 0x5d6ae159a0d336fc
@[go_sem] def aRf:=k 0x20a6d1ee06463cf7de6e559797fe490cdec2cb2af4f4bcae94e68d19162734ec584b2e43c00d
@[go_sem] def aRh:=k 0x3031e0489e86f9259cd
@[go_sem] def aRi:=k 0x2c110cb27956d
@[go_sem] def aRj:=kd 0x61df16628073fb04ee599e5e202971e9bb6ab26c1e0bfe6164f78989163b8a22abd5f70e21cdfa2ac130d21dded2b94755
@[go_sem] def aRk:=k 0x35d883e3f2bf6f3250d
def Ue:TC:=(.seq (.seq (.reg aRi) (.cond (.t 36) .skip (.exit 2))) (.seq (.block 3 (.dreg aRj)) (.reg aRk)))
@[go_sem] def aG6:=k 0xe1ea9
@[go_sem] def aG7:=k 0xe0d22aa5
@[go_sem] def aG8:=k 0x41a256233563d
@[go_sem] def aG9:=k 0x2af0844f870fb8062c147876a0ac986eaa35213670d5d792dd323960d
@[go_sem] def aHa:=k 0x1372ac0434d28a9
def Uf:TC:=(.seq (.reg aG7) (.seq (.cond (.t 51) .skip (.exit 4)) (.seq (.block 5 (.seq (.reg aG8) (.reg aG9))) (.reg aHa))))
@[go_sem] def aHb:=k 0x4b9ac9e0318a1c0aff339a4f5d305a3986a527d3462
@[go_sem] def aHc:=k 0xe3ebd81e791d3ce6c
def Ug:TC:=(.seq (.seq (.reg aRe) (.cond (.t 18) .skip (.exit 0))) (.seq (.block 1 (.seq (.reg aRf) (.seq (.seq (.reg aRh) (.block 2 (.loop Ue))) (.seq (.seq (.reg aG6) (.block 4 (.loop Uf))) (.reg aHb))))) (.reg aHc)))
@[go_sem] def aHd:=k 0xc329cad52869db572b3e
@[go_sem] def aHe:=k 0x90da43fb3dcdf57bbb3769a801cda13c4ee2de
@[go_sem] def aHf:=k 0x7ef16074bc9eb594c8031f95e
@[go_sem] def aHg:=kd 0x19e2e526a16e7bd44ba4f44a21e53d7fddbb912575b897832a48202c2934d8945a18a1f6a7c94daad20bc3431d3f021e3a509896ae54c608b284c0a3eb81c2bf03f22764ae74b8af0e07ad9b07ab6425f161ecb390353ca9d7513a
@[go_sem] def aHh:=k 0x3ef3e9278f1d42
@[go_sem] def aHi:=k 0x1786f18ec50530f60ab48b87791ad0b4de
@[go_sem] def aHj:=k 0x7d41e1a582c79594435d440f61947f7e632c47d8c22
@[go_sem] def aHk:=k 0xd9c459336de5070491be
def Uh:TC:=(.seq (.seq (.reg aHe) (.cond (.t 75) .skip (.exit 6))) (.seq (.block 7 (.seq (.reg aHf) (.seq (.dreg aHg) (.seq (.seq (.reg aHh) (.cond (.t 101) (.reg aHi) .skip)) (.reg aHj))))) (.reg aHk)))
@[go_sem] def aHl:=k 0x13f8ccdc67bc19a4382fe
@[go_sem] def aHm:=k 0x47c3f2504ef29e
@[go_sem] def aHn:=kd 0x45d4fdc298ece502c928da566a5eb38a19c2a208388dbba04074b395fc01f8a4cac2e9e626
@[go_sem] def aHo:=k 0x14ada14f59f20477b823e
def Ui:TC:=(.seq (.seq (.reg aHm) (.cond (.t 115) .skip (.exit 8))) (.seq (.block 9 (.dreg aHn)) (.reg aHo)))
@[go_sem] def aHp:=k 0x3919b0f529fee3d80892863705f
def YK:TF:=⟨129,[.cell 2 3 true],(.seq (.reg aRa) (.seq (.reg aRb) (.seq (.reg aRc) (.seq (.seq (.reg aRd) (.block 0 (.loop Ug))) (.seq (.seq (.reg aHd) (.block 6 (.loop Uh))) (.seq (.seq (.reg aHl) (.block 8 (.loop Ui))) (.seq (.reg aHp) .ret)))))))⟩
/-! (*horarium/horariumkeep.Tape).Script -/
@[go_sem] def aRl:=k 0x6625a9a8
@[go_sem] def aRm:=k 0x1806c
@[go_sem] def aRn:=k 0x4757fafe69dc58c50
@[go_sem] def aRo:=k 0xddd7bb4
@[go_sem] def aRp:=k 0x23c068c67d5c
@[go_sem] def aRq:=kd 0x3afcae398c6b3bee383924b200a668078f0286fca4399b0090a867a4e2bda8ee25598d4
@[go_sem] def aRr:=k 0x20ee0
@[go_sem] def aRs:=k 0x11d7d7b8b2734b137c
@[go_sem] def aRt:=k 0x4178763eb31c
@[go_sem] def aRu:=k 0x4ea32110dc95921597f8062ede9639efd2e5d
@[go_sem] def aIr:=k 0x14ab298c6e362a82bc
def KG:TC:=(.seq (.seq (.reg aRt) (.cond (.t 27) .skip (.exit 2))) (.seq (.block 3 (.reg aRu)) (.reg aIr)))
@[go_sem] def aIs:=k 0x5d3d886131c3616d39b96065f07b7dc4a520f541
@[go_sem] def aIt:=k 0xd47d5582b9d439
def nU:TC:=(.seq (.reg aRo) (.seq (.cond (.t 13) .skip (.exit 0)) (.seq (.block 1 (.seq (.reg aRp) (.seq (.dreg aRq) (.seq (.reg aRr) (.seq (.seq (.reg aRs) (.block 2 (.loop KG))) (.reg aIs)))))) (.reg aIt))))
@[go_sem] def aIu:=k 0x5e53452fec5d
def YL:TF:=⟨44,[.cell 4 2 true],(.seq (.reg aRl) (.seq (.reg aRm) (.seq (.seq (.reg aRn) (.block 0 (.loop nU))) (.seq (.reg aIu) .ret))))⟩
/-! horarium/horariumbook.Within -/
@[go_sem] def aRv:=k 0x1c6e8
@[go_sem] def aRw:=k 0x6898c250e6f072cb13a2e6f0e5486baebd728ceac
@[go_sem] def aRx:=k 0x2645097b0d2c
@[go_sem] def aRy:=k 0x5e1a7d51cf94e5b2670a02c82e339535454fc
@[go_sem] def aRz:=k 0x3765ebd983dc
@[go_sem] def aRA:=k 0x81ef42df050cf34754b904d62916b9936937c
@[go_sem] def aRB:=k 0xcb88088e7ef4625e391765d
def YM:TF:=⟨33,[.t 6],(.seq (.reg aRv) (.seq (.seq (.reg aRw) (.cond (.t 14) (.seq (.reg aRx) .ret) .skip)) (.seq (.reg aRy) (.seq (.seq (.reg aRz) (.cond (.t 23) (.reg aRA) .skip)) (.seq (.reg aRB) .ret)))))⟩
/-! horarium/part.New -/
@[go_sem] def aRC:=k 0xa824ddb778
@[go_sem] def aRD:=k 0x58b492ebbc654d54e26aee9c729a079addd1b15902d9cc9284bf62eb0409fe3244b18e74
@[go_sem] def aRE:=k 0x25768
@[go_sem] def aRF:=kd 0xb53e00982e69d64891fc3cf3b14eb69512a2404860dee649474f7524644f08fd5279e64e16d1c6bec697e526d04b7e423be5124cbb5871a31
@[go_sem] def aRH:=k 0x2fc0d0c58eea5937ffbfa7d40b440aa0b85f4493280e3554630ea33203bd
@[go_sem] def aRI:=k 0x11017151d1dd
@[go_sem] def aRJ:=k 0x46ab98354617d
def Md:TF:=⟨57,[.t 8],(.seq (.reg aRC) (.seq (.seq (.reg aRD) (.cond (.t 23) (.seq (.reg aRE) .ret) .skip)) (.seq (.dreg aRF) (.seq (.reg aRH) (.seq (.reg aRI) (.seq (.reg aRJ) .ret))))))⟩
/-! (*horarium/part.Part).Tick -/
@[go_sem] def aRK:=k 0x6cf02c
@[go_sem] def aRL:=k 0xddf7e5adec
@[go_sem] def aRM:=k 0xf139d4756fba9c
@[go_sem] def aRN:=k 0x11ae6f4ff5c
@[go_sem] def aRO:=k 0x3026964eaa95c14
@[go_sem] def aRP:=k 0x4b68be01f43a610dde3681e49c
@[go_sem] def aRQ:=k 0x121cffcc514f1c0579096854bcc73fa3c194a703dc
@[go_sem] def aRR:=k 0x13197531d84c5ea2a1b70e60f21ca3a63873a8d
@[go_sem] def aRS:=k 0x2c11087d4956d
@[go_sem] def aRT:=k 0x87750e515926efa46310d
@[go_sem] def aLe:=k 0x2739aacf804a0cd920daadc5d9259375669cc55dadb6049536a7840e1f784a35e9c0ad
@[go_sem] def aLf:=kd 0x373116d4d9aebddfbfa6d75c00288e2e44c72cda3183a0284430d782123c9c8910baa21743b99
@[go_sem] def aLg:=k 0x63cf1be9d132524a4b8f280c1
@[go_sem] def aLh:=k 0x1ef660773d186cb47de
@[go_sem] def aLi:=k 0x1bb49c05c5080782
@[go_sem] def aLj:=k 0x125e30e822368cca30487fee
@[go_sem] def aLk:=k 0x1d46df917d096e92
@[go_sem] def aLl:=k 0x92814094e733eebf76d373321b4754bca064f5edd40306bb83e6c9bae687a34b712dc42e
@[go_sem] def aLm:=k 0xbd29c79cdf50737cc542080913bde58011b587783498c06a0cc1259ea0ccc34e082c15fd79e89121ee
@[go_sem] def aLn:=k 0x10c6b66e596739b09b662
@[go_sem] def aLo:=k 0x3d8307ecfe8dd2
@[go_sem] def aLp:=k 0x9c957f299e12c7666aea3959e
@[go_sem] def aLq:=k 0x1e2e1f29aeb33ff57a
def QH:TF:=⟨103,[.cell 4 6 true,.t 5],(.seq (.reg aRK) (.seq (.seq (.reg aRL) (.cond (.t 12) (.seq (.reg aRM) .ret) .skip)) (.seq (.seq (.reg aRN) (.cond (.t 15) (.reg aRO) .skip)) (.seq (.reg aRP) (.seq (.reg aRQ) (.seq (.reg aRR) (.seq (.seq (.reg aRS) (.cond (.t 36) (.seq (.reg aRT) .ret) .skip)) (.seq (.reg aLe) (.seq (.dreg aLf) (.seq (.reg aLg) (.seq (.block 0 (.seq (.reg aLh) (.cond (.t 85) (.reg aLi) (.seq (.reg aLj) (.cond (.t 89) (.reg aLk) (.seq (.reg aLl) (.reg aLm))))))) (.seq (.seq (.reg aLn) (.cond (.t 96) (.seq (.reg aLo) (.reg aLp)) .skip)) (.seq (.reg aLq) .ret)))))))))))))⟩
/-! (*horarium/part.Part).Stopped -/
@[go_sem] def aRU:=k 0xa7c0
@[go_sem] def aRV:=k 0x38771273b057dc495e0a734576af6c
def QI:TF:=⟨8,[.t 2],(.seq (.reg aRU) (.seq (.reg aRV) .ret))⟩
/-! (*horarium/part.Part).Same -/
@[go_sem] def aRW:=k 0x13760
@[go_sem] def aRX:=kd 0x694464f7210e814c347888ab07ba01592a363f16c0a2e692a3d48f5a91f00c3ec9f37e56c51becc5aa768985de1fb06ee76c66d45b76182393c54b46f4a5dbbbf1adc0c30aff3b8d56342e8dac43d0f3cda8ad6c848468b1d56f02e3db93ca17182f05adc0d9b5caefe3d889c9bded0f277a3a2294009fa335dee0b4b8d7d60ad2ada5ed99675792d07444f93b317beb1f1021cff54239ae7e91e768c55e7177fc5e8cbd84de2a0e39d52afa
def QJ:TF:=⟨65,[.t 4],(.seq (.reg aRW) (.seq (.dreg aRX) .ret))⟩
/-! horarium/horariumlaw19.known -/
@[go_sem] def aRY:=k 0x1820
@[go_sem] def aRZ:=k 0x5f47727e6447036b0d84fd2e6535ba2875d6b64f2696dbe9b705f4180
@[go_sem] def aR0:=k 0x2628fc050024ae49d2fe34
@[go_sem] def aR1:=k 0x81a4bdd6b76c61328056b12fabde2e2bb520a1405ed73de4fab34717379b034d
@[go_sem] def aR2:=k 0x1820
@[go_sem] def aR3:=k 0x6706f011261781d8828c430e2df2d586a596155a8dd
@[go_sem] def aR4:=k 0x739758907afb395ec0361ce5c10bba4ac612a0b0fed
@[go_sem] def aR5:=k 0x8027c10fcfdef0e4fddff6bd54249f0ee68f2c076fd
@[go_sem] def aR6:=k 0x8cb8298f24c2a86b3b89d094e73d83d3070bb75de0d
@[go_sem] def aR7:=k 0x9948920e79a65ff17933aa6c7a566897278842b451d
@[go_sem] def aOA:=k 0xa235008db1cb169171c51b14a8d68508420020eb59a860915f082bac47aba806bdd18ec01bbee833c93de7f8811fc203539b589dfe3c4dc9876e000151a1d67749ce68c2ee07bf5209973d336cdde592231b5ee508585aded570f6d9efdbadd79a771a66b9ebc20af1d7eed77f2c813e4523419f029887b4ccc0771e32c060b6bb77696733f37ca57f5cfd0470dbd833ee57d8320f46ebb4eb62785f436dfcf2b97424d616cb88615d1c5e
def YN:TF:=⟨118,[.t 0],(.seq (.reg aRY) (.seq (.reg aRZ) (.seq (.reg aR0) (.seq (.seq (.reg aR1) (.cond (.t 36) (.seq (.reg aR2) .ret) .skip)) (.seq (.reg aR3) (.seq (.reg aR4) (.seq (.reg aR5) (.seq (.reg aR6) (.seq (.reg aR7) (.seq (.reg aOA) .ret))))))))))⟩
/-! (*horarium/part.Part).Clock -/
@[go_sem] def aR8:=k 0xa7a8
@[go_sem] def aR9:=k 0x159a8f961574904a099576af6c
def YO:TF:=⟨7,[.t 2],(.seq (.reg aR8) (.seq (.reg aR9) .ret))⟩
/-! (*horarium/part.Part).Registers -/
@[go_sem] def aGc:=k 0x13ac4
@[go_sem] def aGd:=k 0x699cae8e69c39a843d2435be7045b5a63389ea034588b8b84bdb90c
@[go_sem] def aGe:=k 0x5b16ac3c88
@[go_sem] def aGf:=k 0x6ba211c5f8cedae311e5eaf91ae401b374593bef89ccc
def NB:TF:=⟨25,[.cell 4 8 true],(.seq (.reg aGc) (.seq (.seq (.reg aGd) (.cond (.t 15) (.seq (.reg aGe) .ret) .skip)) (.seq (.reg aGf) .ret)))⟩
/-! (*horarium/horariumkeep.Tape).Next -/
@[go_sem] def aGg:=k 0x13748
@[go_sem] def aGh:=kd 0x1d221ced26a596db47881537bed5eadab9da783bd7703360ac791314ae6ab643095552f8
@[go_sem] def aGi:=k 0x13748
@[go_sem] def aGj:=k 0x102b7600bcca22f980e41aed3a2daeb67f8e0b2c6c
@[go_sem] def aGk:=kd 0x523a4868a4f250624304bca267d1ddb4590a7e22aea9c3fd59d83059cf62a8c0b6c077a53a6bc7a46e9
def NC:TF:=⟨40,[.t 4],(.seq (.reg aGg) (.seq (.seq (.dreg aGh) (.cond (.t 18) (.seq (.reg aGi) .ret) .skip)) (.seq (.reg aGj) (.seq (.dreg aGk) .ret))))⟩
/-! (*horarium/horariumkeep.Tape).frame -/
@[go_sem] def aGl:=k 0x13770
@[go_sem] def aGm:=k 0x203b70ce8a871966889167c
@[go_sem] def aGn:=k 0x2197e6814dd688f3544a9dc5bba80bae57bc
@[go_sem] def aGo:=k 0x5eda2dd5e86f9cb685e4f914f27add8ad9e55a305b2ddc8b7bcfbfa062afc
@[go_sem] def aGp:=k 0x1566c6e655c7e0dc0f6356eceb4318b6727c19aeb6f2b62dc49
@[go_sem] def aGq:=k 0x2c26d7576ad6d
def ND:TF:=⟨36,[.t 4],(.seq (.reg aGl) (.seq (.reg aGm) (.seq (.seq (.reg aGn) (.seq (.reg aGo) (.cond (.t 27) (.seq (.reg aGp) .ret) .skip))) (.seq (.reg aGq) .ret))))⟩
/-! (*horarium/horariumkeep.Tape).asks -/
@[go_sem] def aGr:=k 0x3fff29a8
@[go_sem] def aGs:=k 0x17f40
@[go_sem] def aGt:=k 0x4bef61f44dea7b1e0
@[go_sem] def aGu:=k 0x1cec1344
@[go_sem] def aGv:=k 0x13f0ae7375d89ed530
@[go_sem] def aGw:=k 0x1279d174121b37c7ccb6dd26344cd80ea862e5d
@[go_sem] def aGx:=k 0x41f5b4d0d28c5d95da0f4efa659d
@[go_sem] def aGy:=k 0xc15e2e3211b4f9
def Ub:TC:=(.seq (.reg aGu) (.seq (.cond (.t 26) .skip (.exit 0)) (.seq (.block 1 (.seq (.reg aGv) (.seq (.reg aGw) (.reg aGx)))) (.reg aGy))))
@[go_sem] def aGz:=k 0x95c01a6b03fffde4b1
@[go_sem] def wK:=k 0xbf6e3c15
@[go_sem] def wL:=k 0x3799e41e977bd
@[go_sem] def wM:=k 0x32df8
@[go_sem] def wN:=k 0x870864a27b8d
@[go_sem] def wO:=k 0xd63a6725
@[go_sem] def wP:=k 0x46ee568b7fbe292a311
@[go_sem] def wQ:=kd 0x86f083929c9191dcb0f14cc70b62be4ed9899380db3195fa87d0be536d24ce283f25d82fc90d3fda0b618e64739a
@[go_sem] def wR:=k 0x86cbaa77700c1b9855b416965cb0477b3d03ce
@[go_sem] def wS:=k 0x32e80
@[go_sem] def wT:=k 0x73dbe4b68dc27486f9f5afaae
@[go_sem] def wU:=k 0x17689ea38a04c23a
def O1:TC:=(.seq (.reg wO) (.seq (.cond (.t 48) .skip (.exit 4)) (.seq (.block 5 (.seq (.reg wP) (.seq (.dreg wQ) (.seq (.reg wR) (.cond (.t 70) (.reg wS) (.reg wT)))))) (.reg wU))))
@[go_sem] def wV:=k 0x2b7591785fe0c3b33ec2e9fd2185377c7c2faa49819ee
@[go_sem] def wW:=kd 0x392fe5878ec1a262c64598ab59f7f51ad888c2797b35b90936ea263e4def2b397f2d4c009f7c21f66
@[go_sem] def wX:=k 0x1d0fe361c845ceda
def O2:TC:=(.seq (.reg wK) (.seq (.cond (.t 43) .skip (.exit 2)) (.seq (.block 3 (.seq (.reg wL) (.seq (.reg wM) (.seq (.seq (.reg wN) (.block 4 (.loop O1))) (.seq (.reg wV) (.cond (.t 81) (.dreg wW) .skip)))))) (.reg wX))))
@[go_sem] def wY:=k 0x557bd281daef586105f9c6d9a5b68e
@[go_sem] def wZ:=k 0x4e915f47c8dfa8d9a1fb2cf4dce
@[go_sem] def xA:=k 0x3ef4fffde2a53e
@[go_sem] def xB:=k 0xa8079eb9c8e12248c0913dc7e
@[go_sem] def xC:=k 0xae8f757f23c9b3dd2c914fbbe
@[go_sem] def xD:=k 0x12362365ef82c580734de
def O3:TC:=(.seq (.seq (.reg xA) (.cond (.t 101) .skip (.exit 6))) (.seq (.block 7 (.seq (.reg xB) (.cond (.t 107) (.seq (.reg xC) (.exit 6)) .skip))) (.reg xD)))
@[go_sem] def xE:=k 0x136cd51f34c41a8af332
@[go_sem] def xF:=k 0x80ea1c296
@[go_sem] def xG:=k 0x491c13afb9f23e
@[go_sem] def xH:=k 0x5284c
@[go_sem] def xI:=k 0x45a411244720e
@[go_sem] def xJ:=k 0x8691ab1a6
@[go_sem] def xK:=k 0x15927e30d3e5b2f56e192
@[go_sem] def xL:=k 0x23d755c4fe78f1b58e0fff77f3e0d105f755b9ec61bfbd8ef
@[go_sem] def xM:=k 0x28ad6e07a50773e7eb
def O4:TC:=(.seq (.reg xJ) (.seq (.cond (.t 120) .skip (.exit 10)) (.seq (.block 11 (.seq (.reg xK) (.reg xL))) (.reg xM))))
@[go_sem] def xN:=k 0x4a0ca0903185d0934bf2e32e85cfd476cdafb5cf93cb9bdcf9f
@[go_sem] def xO:=kd 0x95d7d7733b965f2a569469a3661999b073ffb9cfcc1896630109b411f9b7b7069afdcc2fce9de55b5ffabbb711f885d3acf3b90a09c5d8f93ab3206aaa37baf481891f04a94e825b9185babe4411b7
@[go_sem] def xP:=k 0x303a87f5456b3aa36b
def O5:TC:=(.seq (.reg xF) (.seq (.cond (.t 115) .skip (.exit 8)) (.seq (.block 9 (.seq (.reg xG) (.seq (.reg xH) (.seq (.seq (.reg xI) (.block 10 (.loop O4))) (.seq (.reg xN) (.cond (.t 136) (.dreg xO) .skip)))))) (.reg xP))))
@[go_sem] def xQ:=k 0x36be51231d812b7da2b77
@[go_sem] def xR:=k 0x474c869fdbf84281db0293
@[go_sem] def xS:=k 0xb3e161a1f7
@[go_sem] def xU:=k 0x19808d2877b1899f
@[go_sem] def xV:=kd 0xf0b7b996ad45cd6a894dd22fbae7077cb6fd1410e6d7ceedbab6941e47026ce75f65b250da693fa08fc37190d514492d7697
@[go_sem] def xW:=k 0x368d5814b508c03fab
def O6:TC:=(.seq (.reg xS) (.seq (.cond (.t 161) .skip (.exit 12)) (.seq (.block 13 (.seq (.reg xU) (.dreg xV))) (.reg xW))))
@[go_sem] def xX:=k 0xaee7233a5fc7b7
def NE:TF:=⟨175,[.cell 4 3 true],(.seq (.reg aGr) (.seq (.reg aGs) (.seq (.seq (.reg aGt) (.block 0 (.loop Ub))) (.seq (.seq (.reg aGz) (.block 2 (.loop O2))) (.seq (.reg wY) (.seq (.seq (.reg wZ) (.block 6 (.loop O3))) (.seq (.seq (.reg xE) (.block 8 (.loop O5))) (.seq (.seq (.reg xQ) (.cond (.t 156) (.seq (.reg xR) (.block 12 (.loop O6))) .skip)) (.seq (.reg xX) .ret)))))))))⟩
/-! (*horarium/horariumkeep.Tape).Program -/
@[go_sem] def aGA:=k 0x7fa7373178
@[go_sem] def aGB:=k 0x20ee0
@[go_sem] def aGC:=k 0x338d387cb7afd2911d2455c
@[go_sem] def aGD:=k 0x2acecc1c2ccc
@[go_sem] def aGE:=k 0xfbf00fc48bae13c0c
@[go_sem] def aGF:=k 0x2779961878ab30312113c26d49c0bd8d55741a25becbac
@[go_sem] def aGG:=k 0x59048c
@[go_sem] def aGH:=k 0xa0e52aa740444
@[go_sem] def aGI:=kd 0x4bbbbf675e7a1b43c237c6e8bfa26a2fab151225d5257d32d1dfc2a9b451
@[go_sem] def aGJ:=k 0xc24feab08360f5
@[go_sem] def xY:=k 0xc7592cf0959cc5
@[go_sem] def xZ:=k 0x12ad31b47994f38884861137fc507d
@[go_sem] def yA:=k 0xe10056666127d5
@[go_sem] def yB:=k 0xe60998a67363a5
@[go_sem] def yC:=k 0x42abb533c0c26d5ff5d
@[go_sem] def yD:=k 0xfa935ad3509ae5
@[go_sem] def yE:=k 0x485258cece79cbb1e9d
@[go_sem] def yF:=k 0x10f08f7f7ab7e25
@[go_sem] def yG:=k 0x4dedaf22fb1c0bc3ddd
@[go_sem] def yH:=k 0x1711593109c93d6e99149d81
@[go_sem] def yI:=k 0x569b9ee81c4497bcffe80c2efaca5dcc2f51c201d1a71ab1d97c7fd9f6278b21ea12a7fbe78edbad6bede4b7624db6cee
@[go_sem] def yJ:=k 0x789a2564e6de7eeaed540da1e
@[go_sem] def yK:=k 0x6e5658
@[go_sem] def yL:=k 0x33eb8bf09a0f533cc152338ae58792b29130d4d69c995192
@[go_sem] def yM:=k 0x655c58
@[go_sem] def yN:=k 0x311a02b8be461300fbca49bdb1a846fd3c313e47f180e
@[go_sem] def yO:=k 0x1e45d2d6bee58
@[go_sem] def yP:=k 0x32d0baf31c4f73a8f57fd3ab9f1aedd3b932a81d500d91aed8959d21b59d3ec013ebe
@[go_sem] def yQ:=k 0xe4fb16caa8c07fc6c
def Uc:TC:=(.seq (.seq (.reg aGD) (.cond (.t 18) .skip (.exit 0))) (.seq (.block 1 (.seq (.reg aGE) (.seq (.reg aGF) (.seq (.seq (.reg aGG) (.block 2 (.seq (.reg aGH) (.cond (.t 30) (.dreg aGI) (.seq (.seq (.reg aGJ) (.cond (.t 37) .skip (.reg xY))) (.cond (.t 37) (.reg xZ) (.seq (.seq (.reg yA) (.cond (.t 43) .skip (.reg yB))) (.cond (.t 43) (.reg yC) (.seq (.reg yD) (.cond (.t 48) (.reg yE) (.seq (.reg yF) (.cond (.t 52) (.reg yG) .skip)))))))))))) (.seq (.seq (.reg yH) (.seq (.reg yI) (.cond (.t 73) (.seq (.reg yJ) (.seq (.reg yK) (.seq (.reg yL) (.cond (.t 84) (.reg yM) .skip)))) .skip))) (.seq (.seq (.reg yN) (.cond (.t 91) (.reg yO) .skip)) (.reg yP))))))) (.reg yQ)))
@[go_sem] def yR:=k 0x14d0bc6432f788b1e8f854ae
def NF:TF:=⟨106,[.t 6],(.seq (.reg aGA) (.seq (.reg aGB) (.seq (.seq (.reg aGC) (.block 0 (.loop Uc))) (.seq (.reg yR) .ret))))⟩
/-! horarium/config.Right -/
@[go_sem] def aGK:=k 0x6bbe008
@[go_sem] def aGL:=k 0x1428169be80b1f8daaae351cd1cdbc890134
@[go_sem] def aGM:=k 0x195d4fd0941c
def NG:TF:=⟨11,[.t 2],(.seq (.reg aGK) (.seq (.reg aGL) (.seq (.reg aGM) .ret)))⟩
/-! horarium/config.Copy -/
@[go_sem] def aGN:=k 0x3ff5a008
@[go_sem] def aGO:=k 0xf044
@[go_sem] def aGP:=k 0x46fd909cbac935080
@[go_sem] def aGQ:=k 0xcb4f9e4
@[go_sem] def aGR:=k 0x8a7380827546918b7bc2c
@[go_sem] def aGS:=k 0x138adef99163488b02655173c2356f30
@[go_sem] def aGT:=k 0x736cdab3a9f971ad71ffbc1acf7257628a240
@[go_sem] def aGU:=k 0x84b95ece01d38
def Ud:TC:=(.seq (.reg aGQ) (.seq (.cond (.t 12) .skip (.exit 0)) (.seq (.block 1 (.seq (.reg aGR) (.seq (.reg aGS) (.reg aGT)))) (.reg aGU))))
@[go_sem] def aGV:=k 0x1fe43e29e2b123da8c3217d35317e4f0
@[go_sem] def yS:=k 0x9347324c3dc5550601
@[go_sem] def yT:=k 0x9f839965
@[go_sem] def yU:=k 0x35d883e3ee13fdbd551
@[go_sem] def yV:=kd 0x293df04d512c4ef49df7fd1fb19f87e6ef96cd6f941bc324b2f3dc2355
@[go_sem] def yW:=k 0xef7af4f8f63b49
def O7:TC:=(.seq (.reg yT) (.seq (.cond (.t 36) .skip (.exit 2)) (.seq (.block 3 (.seq (.reg yU) (.dreg yV))) (.reg yW))))
@[go_sem] def yX:=k 0x379c956d6b55
def Kf:TF:=⟨49,[.cell 2 3 true],(.seq (.reg aGN) (.seq (.reg aGO) (.seq (.seq (.reg aGP) (.block 0 (.loop Ud))) (.seq (.reg aGV) (.seq (.seq (.reg yS) (.block 2 (.loop O7))) (.seq (.reg yX) .ret))))))⟩
/-! slices.Clone[[]byte,byte] -/
@[go_sem] def aGW:=k 0xa7d0
@[go_sem] def aGX:=k 0x3cbda76f6c
@[go_sem] def aGY:=k 0xa7d0
@[go_sem] def aGZ:=k 0x59b20544f83990a96e1c
def NH:TF:=⟨8,[.t 2],(.seq (.reg aGW) (.seq (.seq (.reg aGX) (.cond (.t 4) (.seq (.reg aGY) .ret) .skip)) (.seq (.reg aGZ) .ret)))⟩
/-! slices.Clone[[]uint32,uint32] -/
@[go_sem] def aG0:=k 0xa7d0
@[go_sem] def aG1:=k 0x3cbda76f6c
@[go_sem] def aG2:=k 0xa7d0
@[go_sem] def aG3:=k 0x59b20544f83990a96e1c
def NI:TF:=⟨8,[.t 2],(.seq (.reg aG0) (.seq (.seq (.reg aG1) (.cond (.t 4) (.seq (.reg aG2) .ret) .skip)) (.seq (.reg aG3) .ret)))⟩
/-! horarium/health.New -/
@[go_sem] def aG4:=k 0x4591e008
@[go_sem] def aG5:=k 0x405518d5ce1dd708aab4
def NJ:TF:=⟨6,[.t 2],(.seq (.reg aG4) (.seq (.reg aG5) .ret))⟩
/-! horarium/proc.New -/
@[go_sem] def aHq:=k 0xa888
@[go_sem] def aHr:=k 0x5e3b474345c2aa7a2875fe2d8cf9fb31e7cd1c6dc
@[go_sem] def aHs:=k 0xa888
@[go_sem] def aHt:=k 0x2aad27c080c8d40
@[go_sem] def aHu:=k 0x105e204e94fc
@[go_sem] def aHv:=k 0x14d08694
@[go_sem] def aHw:=k 0x8ffe32032ce9cee3348a4
@[go_sem] def aHx:=kd 0xbb816b9731c747528e4d564802245d50a22ef7dc11680292893c4e3c5978ec0720f765990aa29
@[go_sem] def aHy:=k 0xacac21d3a595b9
def nS:TC:=(.seq (.reg aHv) (.seq (.cond (.t 19) .skip (.exit 0)) (.seq (.block 1 (.seq (.reg aHw) (.dreg aHx))) (.reg aHy))))
@[go_sem] def yY:=k 0x2c1cc4d0ac56d
def NK:TF:=⟨36,[.t 2],(.seq (.reg aHq) (.seq (.seq (.reg aHr) (.cond (.t 13) (.seq (.reg aHs) .ret) .skip)) (.seq (.reg aHt) (.seq (.seq (.reg aHu) (.block 0 (.loop nS))) (.seq (.reg yY) .ret)))))⟩
/-! (*horarium/part.Part).begin -/
@[go_sem] def aHz:=k 0xc8cb217d0b8f319a7cfff73c
@[go_sem] def aHA:=k 0x94539c2a7fdb02ae5e4c
@[go_sem] def aHB:=kd 0x59dade768112733a95f0fbc2d2651025c9adcdce76379d8f8f5440cedf496066448
@[go_sem] def aHC:=k 0x1cec1344
@[go_sem] def aHD:=k 0x62d0ac87ab8c8be2ed554
@[go_sem] def aHE:=kd 0xe34ddb7c0158ebf8337b600acd7aefc5c2ad3599bc01b40e9cbf7c2baa9196ca6243c1a589779
@[go_sem] def aHF:=k 0xd079f4f2128c69
def Uj:TC:=(.seq (.reg aHC) (.seq (.cond (.t 26) .skip (.exit 0)) (.seq (.block 1 (.seq (.reg aHD) (.dreg aHE))) (.reg aHF))))
@[go_sem] def aHG:=k 0x14506603ed69ef8a724509ee01d
def NL:TF:=⟨46,[],(.seq (.reg aHz) (.seq (.reg aHA) (.seq (.seq (.dreg aHB) (.block 0 (.loop Uj))) (.reg aHG))))⟩
/-! (*horarium/proc.Table).Pick -/
@[go_sem] def aHH:=k 0x13748
@[go_sem] def aHI:=k 0xebe3802482b32ce06bbb5330f7fb25167c
@[go_sem] def aHJ:=k 0x173bfe4a2e77ec8a4d085cc55c
@[go_sem] def aHK:=k 0x15f90864
@[go_sem] def aHL:=k 0x7b94a3ba823bc2807a9adfbf2698a0c
@[go_sem] def aHM:=k 0x135f9aec0d8d2ffc175d59f828b4a07375624fe590f3dbe7f81
@[go_sem] def aHN:=k 0xf5e90add08419817f412ec1dcd
@[go_sem] def aHO:=k 0xc0e54fe123b4f9
def Uk:TC:=(.seq (.reg aHK) (.seq (.cond (.t 20) .skip (.exit 0)) (.seq (.block 1 (.seq (.reg aHL) (.seq (.reg aHM) (.cond (.t 32) (.reg aHN) .skip)))) (.reg aHO))))
@[go_sem] def aHP:=k 0xe2099b96083c8ccad
@[go_sem] def yZ:=k 0x137d0
@[go_sem] def zA:=k 0x140a5661a9fc0e906a7e232a41d
def NM:TF:=⟨46,[.t 4],(.seq (.reg aHH) (.seq (.reg aHI) (.seq (.seq (.reg aHJ) (.block 0 (.loop Uk))) (.seq (.seq (.reg aHP) (.cond (.t 41) (.seq (.reg yZ) .ret) .skip)) (.seq (.reg zA) .ret)))))⟩
/-! horarium/isa.Fetch -/
@[go_sem] def aHQ:=k 0x6cf128
@[go_sem] def aHR:=k 0x8809384e3d9a616c0b03b9437c10247073af15baf591699ab820f5183196f027e75de00dc
@[go_sem] def aHS:=k 0xf139d8dfb8365c
@[go_sem] def aHT:=kd 0x16545a5f8c45c8db07ed8aaa615918243b23398f6629b727c58afb0c84c7d4099a95e0fc5f82357b27f2e9d9e52d58237945a996e81bf1a09f26f5bd5587a6eb90c241b63d915f9
def NN:TF:=⟨45,[.cell 4 4 true,.t 5],(.seq (.reg aHQ) (.seq (.seq (.reg aHR) (.cond (.t 19) (.seq (.reg aHS) .ret) .skip)) (.seq (.dreg aHT) .ret)))⟩
/-! horarium/isa.Right -/
@[go_sem] def aHU:=k 0xd776008
@[go_sem] def aHV:=k 0x25f798d9cbf97bccf46d28a7e316e65bd8e189cb636f7308b0
@[go_sem] def aHW:=k 0xd526004d23ce0879d2db81de60b65567c939f655d66443e85c2b508805dfdff08cd6ab828ea5d4ffe236027d70b08e1f50e967310be90f3ae787fe11fea6febbc3a5e7c07f50dbfaf1155b191
def NO:TF:=⟨39,[.t 2],(.seq (.reg aHU) (.seq (.reg aHV) (.seq (.reg aHW) .ret)))⟩
/-! (*horarium/part.Part).do -/
@[go_sem] def aHX:=k 0xfec1e290118
@[go_sem] def aHY:=k 0x292c565cde051ea4747ee0bd5ab060d37d8c
@[go_sem] def aHZ:=k 0x2fd8a9234870
@[go_sem] def aH0:=k 0x72273b2383df4
@[go_sem] def aH1:=k 0x77307d6417fc4
@[go_sem] def aH2:=k 0x7c39bfa4ac194
@[go_sem] def aH3:=k 0x814301e540364
@[go_sem] def aH4:=k 0x864c4425d4534
@[go_sem] def aH5:=k 0x8b55866a55d04
@[go_sem] def aH6:=k 0x905ec8aae9ed4
@[go_sem] def zB:=k 0x62afc5b605d2e603046bb4656bdd6a01ef61350117abb3a8d
@[go_sem] def zC:=k 0xbd32833efa3125
@[go_sem] def zD:=k 0xc23bc57f0c6cf5
@[go_sem] def zE:=k 0x6e90ddcbdfdb49f51fe5666eeb23902684a7abe08ad
@[go_sem] def zF:=k 0xeb3b24d0209f75
@[go_sem] def zG:=k 0x763963b0942a5c9c0d1d7de9e9413f397b72d
@[go_sem] def zH:=k 0x114265f1834d1f5
@[go_sem] def zI:=kd 0xe5706ae2b62d05474d7027687d9db135a979337bd8c59
@[go_sem] def zJ:=k 0x132e5c02424aefdff046bbd86f8a5d1fd88ca42e
@[go_sem] def zK:=k 0x16342787d68acaf6
@[go_sem] def zL:=kd 0x93dca7eab6f843fd9e3fea2d86e440dbb88a4682485d67829c552ff986f76b8030dcef26474b0f68efeae1ea995bfd9253ff5a
@[go_sem] def zM:=k 0x1c3b1c312f8b7766
@[go_sem] def zN:=k 0x2ec4f533571a69092bfe99c10aed065571e
@[go_sem] def zO:=k 0x1ec4c6936eb645e6
@[go_sem] def zP:=k 0x1f155ab76eda75b6
@[go_sem] def zQ:=k 0x1f65eedb6f467586
@[go_sem] def zR:=k 0x1fb682ff6f6aa556
@[go_sem] def zS:=k 0x25b63bb3df90a038ab7ee3a83d3b865d6b32ec72ab51216e86d0e
@[go_sem] def zT:=k 0x38c2b4
def Ck:TF:=⟨108,[.t 10,.t 11],(.seq (.reg aHX) (.seq (.reg aHY) (.seq (.seq (.reg aHZ) (.block 0 (.seq (.seq (.reg aH0) (.cond (.t 21) .skip (.seq (.reg aH1) (.cond (.t 21) .skip (.seq (.reg aH2) (.cond (.t 21) .skip (.seq (.reg aH3) (.cond (.t 21) .skip (.seq (.reg aH4) (.cond (.t 21) .skip (.seq (.reg aH5) (.cond (.t 21) .skip (.reg aH6))))))))))))) (.cond (.t 21) (.seq (.reg zB) .ret) (.seq (.seq (.reg zC) (.cond (.t 36) .skip (.reg zD))) (.cond (.t 36) (.seq (.reg zE) .ret) (.seq (.reg zF) (.cond (.t 45) (.reg zG) (.seq (.reg zH) (.cond (.t 53) (.seq (.dreg zI) (.cond (.t 62) (.reg zJ) .skip)) (.seq (.reg zK) (.cond (.t 69) (.dreg zL) (.seq (.reg zM) (.cond (.t 88) (.reg zN) (.seq (.seq (.reg zO) (.cond (.t 96) .skip (.seq (.reg zP) (.cond (.t 96) .skip (.seq (.reg zQ) (.cond (.t 96) .skip (.reg zR))))))) (.cond (.t 96) (.seq (.reg zS) .ret) .skip)))))))))))))))) (.seq (.reg zT) .ret))))⟩
/-! (*horarium/part.Part).fails -/
@[go_sem] def aH7:=k 0xa3178
@[go_sem] def aH8:=kd 0xcbe2e9ffc925934ec2b6601e9475a898cb41884e7c1cf179fb7c328
@[go_sem] def aH9:=kd 0x2102a07144a9e820b238342e6237a13ed62de86a511eb2bf2792db4d8
@[go_sem] def aIa:=k 0x86ed6cb2d6334
@[go_sem] def aIb:=kd 0x1225a8c389e17a7c2ceed2bdeb29a8df064bfe8139c54744192a86bd69cac1b719
@[go_sem] def aIc:=k 0xc24fea9994b4f5
@[go_sem] def aId:=k 0xc48c29008ad
def NP:TF:=⟨41,[],(.seq (.reg aH7) (.seq (.dreg aH8) (.seq (.dreg aH9) (.block 0 (.seq (.reg aIa) (.cond (.t 25) (.dreg aIb) (.seq (.reg aIc) (.cond (.t 37) (.reg aId) .skip))))))))⟩
/-! (*horarium/health.Log).Stopped -/
@[go_sem] def aIe:=k 0xa7c0
@[go_sem] def aIf:=k 0x159a8f9615093225e1a576af6c
def NQ:TF:=⟨7,[.t 2],(.seq (.reg aIe) (.seq (.reg aIf) .ret))⟩
/-! slices.Equal[[]horarium/part.state,horarium/part.state] -/
@[go_sem] def aIg:=k 0x13760
@[go_sem] def aIh:=k 0xcf39f41732640d87fd11c6dc
@[go_sem] def aIi:=k 0x13760
@[go_sem] def aIj:=k 0xff967202dec
@[go_sem] def aIk:=k 0xf05fd84
@[go_sem] def aIl:=k 0x2630e4e6bf2c
@[go_sem] def aIm:=kd 0x14cc075e42a406c4276c602fe154ac631623d0605702508
@[go_sem] def aIn:=k 0x13760
@[go_sem] def aIo:=k 0x8000b0d5e5568
def nT:TC:=(.seq (.reg aIk) (.seq (.cond (.t 14) .skip (.exit 0)) (.seq (.block 1 (.seq (.reg aIl) (.seq (.dreg aIm) (.cond (.t 24) (.seq (.reg aIn) .ret) .skip)))) (.reg aIo))))
@[go_sem] def zU:=k 0x137b8
def NR:TF:=⟨26,[.t 4],(.seq (.reg aIg) (.seq (.seq (.reg aIh) (.cond (.t 10) (.seq (.reg aIi) .ret) .skip)) (.seq (.seq (.reg aIj) (.block 0 (.loop nT))) (.seq (.reg zU) .ret))))⟩
/-! (*horarium/proc.Table).Same -/
@[go_sem] def aIp:=k 0x13760
@[go_sem] def aIq:=kd 0x3e2c5f3c070145937863bfb776b9ea4e0a823cf3c461595552f8
def NS:TF:=⟨14,[.t 4],(.seq (.reg aIp) (.seq (.dreg aIq) .ret))⟩
/-! slices.Equal[[]horarium/health.Fault,horarium/health.Fault] -/
@[go_sem] def aIv:=k 0x13760
@[go_sem] def aIw:=k 0xcf39f41732640d87fd11c6dc
@[go_sem] def aIx:=k 0x13760
@[go_sem] def aIy:=k 0xff967202dec
@[go_sem] def aIz:=k 0xf05fd84
@[go_sem] def aIA:=k 0x2630e4e6bf2c
@[go_sem] def aIB:=kd 0x14cc084ec47ae3f31f2691bd0293bc62a3778a064f02508
@[go_sem] def aIC:=k 0x13760
@[go_sem] def aID:=k 0x8000b0d5e5568
def nV:TC:=(.seq (.reg aIz) (.seq (.cond (.t 14) .skip (.exit 0)) (.seq (.block 1 (.seq (.reg aIA) (.seq (.dreg aIB) (.cond (.t 24) (.seq (.reg aIC) .ret) .skip)))) (.reg aID))))
@[go_sem] def zV:=k 0x137b8
def NT:TF:=⟨26,[.t 4],(.seq (.reg aIv) (.seq (.seq (.reg aIw) (.cond (.t 10) (.seq (.reg aIx) .ret) .skip)) (.seq (.seq (.reg aIy) (.block 0 (.loop nV))) (.seq (.reg zV) .ret))))⟩
/-! (*horarium/part.Part).Faults -/
@[go_sem] def aIE:=k 0xa7d0
@[go_sem] def aIF:=k 0x387712741db89701f5df734576af6c
def NU:TF:=⟨8,[.t 2],(.seq (.reg aIE) (.seq (.reg aIF) .ret))⟩
/-! (*horarium/horariumkeep.Tape).Table -/
@[go_sem] def aIG:=k 0x1c710
@[go_sem] def aIH:=k 0x8a3671f1813326dec
@[go_sem] def aII:=k 0x1eff69df1b28da483233de93732d1f18c
@[go_sem] def aIJ:=k 0x2fd7ffbd826c
@[go_sem] def aIK:=k 0x324a5ad20d5e3ff08278a9392375a3c0c
@[go_sem] def aIL:=k 0x5d530ad000e6cddfc760cefb578bee290303533cffacf2a2631d
@[go_sem] def aIM:=k 0x2ad8c83344d9d
@[go_sem] def aIN:=k 0x2de801f825cf3055ff69d45a3484674a3e68917a04b902beb509c82a1a5b79eb7313d
@[go_sem] def aIO:=k 0x4de16b6e63e836af695de472d
@[go_sem] def aIP:=k 0x14aa4bce769839e82f61be9d
@[go_sem] def zW:=k 0x2e628
@[go_sem] def zX:=k 0x1304488abc5c597e0d
@[go_sem] def zY:=k 0x14201c0b2a7324d40dae9aad3e94253def248df615af2f851e
@[go_sem] def zZ:=k 0x50c100f09da79c9557d
def Ul:TC:=(.seq (.seq (.reg zX) (.cond (.t 55) .skip (.exit 0))) (.seq (.block 1 (.reg zY)) (.reg zZ)))
@[go_sem] def aAa:=k 0x28f333d2c17bce
def Kg:TF:=⟨66,[.t 6],(.seq (.reg aIG) (.seq (.reg aIH) (.seq (.seq (.reg aII) (.cond (.t 18) (.seq (.seq (.reg aIJ) (.cond (.t 20) (.seq (.reg aIK) .ret) .skip)) (.seq (.reg aIL) .ret)) .skip)) (.seq (.seq (.reg aIM) (.cond (.t 35) (.seq (.reg aIN) .ret) .skip)) (.seq (.reg aIO) (.seq (.reg aIP) (.seq (.seq (.reg zW) (.block 0 (.loop Ul))) (.seq (.reg aAa) .ret))))))))⟩
/-! horarium/horariumref3.Of -/
@[go_sem] def aIQ:=k 0x3683d0
@[go_sem] def aIR:=k 0x2852674b338446dc
@[go_sem] def aIS:=k 0x142534e8fe7c
@[go_sem] def aIT:=k 0x1c41adbef8fce1c
@[go_sem] def aIU:=k 0xa6f9263b5d70e271edec
@[go_sem] def aIV:=k 0x2a785de8608e75c
@[go_sem] def aIW:=k 0x1e3af5bd0
@[go_sem] def aIX:=k 0x20e768fc47ecc
def NV:TF:=⟨18,[.t 2,.t 3],(.seq (.reg aIQ) (.seq (.seq (.reg aIR) (.seq (.reg aIS) (.cond (.t 9) (.seq (.reg aIT) .ret) .skip))) (.seq (.reg aIU) (.seq (.seq (.reg aIV) (.cond (.t 16) (.seq (.reg aIW) .ret) .skip)) (.seq (.reg aIX) .ret)))))⟩
/-! horarium/horariumref3.Total -/
@[go_sem] def aIY:=k 0xa7a8
@[go_sem] def aIZ:=k 0xef78
@[go_sem] def aI0:=k 0xf94adf1c6dc
@[go_sem] def aI1:=k 0x93b7474
@[go_sem] def aI2:=k 0x8811283127c1e975e3684
@[go_sem] def aI3:=k 0x6b7674143420bc1258022e863bc
@[go_sem] def aI4:=k 0x51e3e9e1f8f18
def nW:TC:=(.seq (.reg aI1) (.seq (.cond (.t 9) .skip (.exit 0)) (.seq (.block 1 (.seq (.reg aI2) (.reg aI3))) (.reg aI4))))
@[go_sem] def aI5:=k 0x2afdb7b28acc
def NW:TF:=⟨18,[.t 2],(.seq (.reg aIY) (.seq (.reg aIZ) (.seq (.seq (.reg aI0) (.block 0 (.loop nW))) (.seq (.reg aI5) .ret))))⟩
/-! horarium/horariumref7.Late -/
@[go_sem] def aI6:=k 0x1c6e8
@[go_sem] def aI7:=k 0x615c6b4943a7d4fc
@[go_sem] def aI8:=k 0xf1c9e55688
@[go_sem] def aI9:=k 0x10866a9ffa9c
@[go_sem] def aJa:=k 0x17218a34
@[go_sem] def aJb:=k 0x1084c95adc3d344c20
@[go_sem] def aJc:=k 0xaf8868446de01b57727e10a3c2fefefa46260102003cef2c42eeb1924268b75e9258767f677d
@[go_sem] def aJd:=k 0xb6e6f06ea02559
def nX:TC:=(.seq (.reg aJa) (.seq (.cond (.t 21) .skip (.exit 0)) (.seq (.block 1 (.seq (.reg aJb) (.reg aJc))) (.reg aJd))))
@[go_sem] def aJe:=k 0xba5d12d010d
@[go_sem] def aAb:=k 0x1c6e8
@[go_sem] def aAc:=k 0xc46f9639cad
@[go_sem] def aAd:=k 0x1c770
@[go_sem] def aAe:=k 0x85c61435444d
@[go_sem] def aAf:=k 0xc3fd77e5
@[go_sem] def aAg:=k 0x539991ef4e59999149a8efe0b38d
@[go_sem] def aAh:=k 0x113927b5d994a3e6fd
@[go_sem] def aAi:=k 0xd4738
@[go_sem] def aAj:=k 0xd4c664d9f46c11de02f91191e1186cc7380c9f566234e6f9505ad7126d
@[go_sem] def aAk:=k 0x5957378b931b024c85d
def Um:TC:=(.seq (.seq (.reg aAj) (.cond (.t 61) .skip (.exit 4))) (.block 5 (.reg aAk)))
@[go_sem] def aAl:=k 0x68b9ba8242142db498f7d4bfe
@[go_sem] def aAm:=k 0x15320d062232cb8a
def Un:TC:=(.seq (.reg aAf) (.seq (.cond (.t 44) .skip (.exit 2)) (.seq (.block 3 (.seq (.reg aAg) (.seq (.seq (.reg aAh) (.cond (.t 50) (.exit 3) .skip)) (.seq (.reg aAi) (.seq (.block 4 (.loop Um)) (.reg aAl)))))) (.reg aAm))))
@[go_sem] def aAn:=k 0x2ad6acaa9e6b3e
def NX:TF:=⟨69,[.t 6],(.seq (.reg aI6) (.seq (.reg aI7) (.seq (.reg aI8) (.seq (.seq (.reg aI9) (.block 0 (.loop nX))) (.seq (.seq (.reg aJe) (.cond (.t 38) (.seq (.reg aAb) .ret) .skip)) (.seq (.seq (.reg aAc) (.cond (.t 40) (.seq (.reg aAd) .ret) .skip)) (.seq (.seq (.reg aAe) (.block 2 (.loop Un))) (.seq (.reg aAn) .ret))))))))⟩
/-! horarium/horariumref7.Budget -/
@[go_sem] def aJf:=k 0x1c6e8
@[go_sem] def aJg:=k 0x50688049e48bfd8c
@[go_sem] def aJh:=k 0x729087889dd85b84d26d658e778640b59f6bf68801f872dfb4a70edeaff5f71d1512812c
@[go_sem] def aJi:=k 0x1c770
@[go_sem] def aJj:=k 0x155ffe01bcccfbae8c
@[go_sem] def aJk:=k 0x29e58
@[go_sem] def aJl:=k 0x31f54d11260af3e31d5e2d
@[go_sem] def aJm:=k 0x2e628
@[go_sem] def aJn:=k 0xef0fd5fa0f62507822b718dd6f53c0d92436cdd
@[go_sem] def aJo:=k 0xcd1bef85
@[go_sem] def aAo:=k 0x44155e1a3ccc7742b71
@[go_sem] def aAp:=k 0x1194faceb1ce8046cd
@[go_sem] def aAq:=k 0x4b1a5d5544655c8363d
@[go_sem] def aAr:=k 0x11385373fda31f9
def Uo:TC:=(.seq (.reg aJo) (.seq (.cond (.t 46) .skip (.exit 2)) (.seq (.block 3 (.seq (.reg aAo) (.seq (.reg aAp) (.cond (.t 51) (.reg aAq) .skip)))) (.reg aAr))))
@[go_sem] def aAs:=k 0x16a3f875eb541167467e25ad
@[go_sem] def aAt:=k 0xeb8846b7ec6e53bf06a7d6d
def Up:TC:=(.seq (.seq (.reg aJl) (.cond (.t 34) .skip (.exit 0))) (.seq (.block 1 (.seq (.reg aJm) (.seq (.seq (.reg aJn) (.block 2 (.loop Uo))) (.reg aAs)))) (.reg aAt)))
@[go_sem] def aAu:=k 0x492626cfafd1d
def NY:TF:=⟨59,[.t 6],(.seq (.reg aJf) (.seq (.reg aJg) (.seq (.seq (.reg aJh) (.cond (.t 28) (.seq (.reg aJi) .ret) .skip)) (.seq (.reg aJj) (.seq (.seq (.reg aJk) (.block 0 (.loop Up))) (.seq (.reg aAu) .ret))))))⟩
/-! horarium/horariumref12.Right -/
@[go_sem] def aJp:=k 0x6bbe008
@[go_sem] def aJq:=k 0x1428169be80b1f8daaae351cd1cdea8a4134
@[go_sem] def aJr:=k 0x195d4fd0941c
def NZ:TF:=⟨11,[.t 2],(.seq (.reg aJp) (.seq (.reg aJq) (.seq (.reg aJr) .ret)))⟩
/-! horarium/config.Where -/
@[go_sem] def aJs:=k 0xf1bcd7be008
@[go_sem] def aJt:=k 0xd3226b86e108b9e2893b0d8103ce5ace26245a5b72840b7fb3b1cf42546ea327ba21f8b6115e88e56ece48a411ba8774506ca449a20c792a09cedf9eaee969025cfe26aebaa4366956aaff5521f1
@[go_sem] def aJu:=k 0x6d715a8
@[go_sem] def aJv:=k 0x95c01a6b03fb5cfcb1
@[go_sem] def aJw:=k 0xbf6e3c15
@[go_sem] def aJx:=k 0xb6f505d0232b6732404506f6d39e577bd
@[go_sem] def aJy:=k 0x33ac7c95168bc1d6cf21878a8492ff37a01106bd805451ae71f5ae1cc803a70b31
@[go_sem] def aJz:=k 0x14d68b84f5669a74ed
@[go_sem] def aJA:=k 0x562f20efe5f1b16d
@[go_sem] def aJB:=k 0x1640347eae6f9b942d
@[go_sem] def aAv:=k 0x143faf71c83df41a
def Uq:TC:=(.seq (.reg aJw) (.seq (.cond (.t 43) .skip (.exit 0)) (.seq (.block 1 (.seq (.reg aJx) (.seq (.seq (.reg aJy) (.cond (.t 58) (.seq (.reg aJz) .ret) .skip)) (.seq (.reg aJA) (.cond (.t 62) (.seq (.reg aJB) .ret) .skip))))) (.reg aAv))))
@[go_sem] def aAw:=k 0x1268e39d3d273c2a3bd2
@[go_sem] def aAx:=k 0x4ce492b36
@[go_sem] def aAy:=k 0x1e352f8cdb47deab4182f3ac781b15cd5ade
@[go_sem] def aAz:=k 0xedcb505e9ac427b86307aa6
@[go_sem] def aAA:=k 0x1b32030a91945f5218e
@[go_sem] def aAB:=k 0x18b82782eb09e17a
def Ur:TC:=(.seq (.reg aAx) (.seq (.cond (.t 69) .skip (.exit 2)) (.seq (.block 3 (.seq (.reg aAy) (.seq (.reg aAz) (.cond (.t 76) (.seq (.reg aAA) .ret) .skip)))) (.reg aAB))))
@[go_sem] def aAC:=k 0x12b8009845bb3e222932
@[go_sem] def aAD:=k 0x5cb9bc896
@[go_sem] def aAE:=k 0x4c7c0149ab78c8e2cc6919c0c7f83e
@[go_sem] def aAF:=k 0x8d35a5585d97b22f673286806
@[go_sem] def aAG:=k 0x38a82c0dac671e
@[go_sem] def aAH:=k 0x126d8e23d47a05b3b3dcf6be
@[go_sem] def aAI:=k 0x1dca39f7d6665e7a
def Us:TC:=(.seq (.reg aAD) (.seq (.cond (.t 83) .skip (.exit 4)) (.seq (.block 5 (.seq (.reg aAE) (.seq (.reg aAF) (.seq (.reg aAG) (.cond (.t 91) (.seq (.reg aAH) .ret) .skip))))) (.reg aAI))))
@[go_sem] def aAJ:=k 0x2ce2a7a8
def N0:TF:=⟨95,[.t 2,.t 3],(.seq (.reg aJs) (.seq (.seq (.reg aJt) (.cond (.t 38) (.seq (.reg aJu) .ret) .skip)) (.seq (.seq (.reg aJv) (.block 0 (.loop Uq))) (.seq (.seq (.reg aAw) (.block 2 (.loop Ur))) (.seq (.seq (.reg aAC) (.block 4 (.loop Us))) (.seq (.reg aAJ) .ret))))))⟩
/-! slices.Clip[[]horarium/api.Proc,horarium/api.Proc] -/
@[go_sem] def aJC:=k 0xa7d0
@[go_sem] def aJD:=k 0x1214331381c475f4998e4eb8295ac65eaf6c
def Kh:TF:=⟨9,[.t 2],(.seq (.reg aJC) (.seq (.reg aJD) .ret))⟩
/-! slices.Clone[[]horarium/api.Proc,horarium/api.Proc] -/
@[go_sem] def aJE:=k 0xa7d0
@[go_sem] def aJF:=k 0x3cbda76f6c
@[go_sem] def aJG:=k 0xa7d0
@[go_sem] def aJH:=k 0x59b20544f89e49d66e1c
def Ki:TF:=⟨8,[.t 2],(.seq (.reg aJE) (.seq (.seq (.reg aJF) (.cond (.t 4) (.seq (.reg aJG) .ret) .skip)) (.seq (.reg aJH) .ret)))⟩
/-! slices.Clip[[]horarium/api.Chan,horarium/api.Chan] -/
@[go_sem] def aJI:=k 0xa7d0
@[go_sem] def aJJ:=k 0x1214331381d4e9e4f29f2b0e395ac65eaf6c
def N1:TF:=⟨9,[.t 2],(.seq (.reg aJI) (.seq (.reg aJJ) .ret))⟩
/-! slices.Clone[[]horarium/api.Chan,horarium/api.Chan] -/
@[go_sem] def aJK:=k 0xa7d0
@[go_sem] def aJL:=k 0x3cbda76f6c
@[go_sem] def aJM:=k 0xa7d0
@[go_sem] def aJN:=k 0x59b20544fc653b866e1c
def N2:TF:=⟨8,[.t 2],(.seq (.reg aJK) (.seq (.seq (.reg aJL) (.cond (.t 4) (.seq (.reg aJM) .ret) .skip)) (.seq (.reg aJN) .ret)))⟩
/-! slices.Clip[[]horarium/api.Node,horarium/api.Node] -/
@[go_sem] def aJO:=k 0xa7d0
@[go_sem] def aJP:=k 0x1214331381d5065a76aed9846d5ac65eaf6c
def Kj:TF:=⟨9,[.t 2],(.seq (.reg aJO) (.seq (.reg aJP) .ret))⟩
/-! slices.Clone[[]horarium/api.Node,horarium/api.Node] -/
@[go_sem] def aJQ:=k 0xa7d0
@[go_sem] def aJR:=k 0x3cbda76f6c
@[go_sem] def aJS:=k 0xa7d0
@[go_sem] def aJT:=k 0x59b20544fa59789c6e1c
def Kk:TF:=⟨8,[.t 2],(.seq (.reg aJQ) (.seq (.seq (.reg aJR) (.cond (.t 4) (.seq (.reg aJS) .ret) .skip)) (.seq (.reg aJT) .ret)))⟩
/-! (*horarium/proc.Table).Reset -/
@[go_sem] def aJU:=k 0x1602f11202e3a9f95bc576af6c
@[go_sem] def aJV:=k 0x93b7474
@[go_sem] def aJW:=k 0x195d4ffd761c
@[go_sem] def aJX:=kd 0x61cb192dbfe5ae25b2398120d1249254c81220cc1c39c0f5010adf1acbeeab2754be553425f0e1a01fa3f418
@[go_sem] def aJY:=k 0x7f373e2221568
def nY:TC:=(.seq (.reg aJV) (.seq (.cond (.t 9) .skip (.exit 0)) (.seq (.block 1 (.seq (.reg aJW) (.dreg aJX))) (.reg aJY))))
def N7:TF:=⟨26,[],(.seq (.reg aJU) (.block 0 (.loop nY)))⟩
/-! container/heap.Push -/
@[go_sem] def aJZ:=k 0x177f83dbd307f73c
@[go_sem] def aJ0:=k 0x1a05438b8d312b5e924cbfceac
def N8:TF:=⟨12,[],(.seq (.reg aJZ) (.reg aJ0))⟩
/-! (*horarium/proc.ready).Len -/
@[go_sem] def aJ1:=k 0xa7a8
@[go_sem] def aJ2:=k 0x387712726e8ce6a660795bc576af6c
def N9:TF:=⟨8,[.t 2],(.seq (.reg aJ1) (.seq (.reg aJ2) .ret))⟩
/-! container/heap.Pop -/
@[go_sem] def aJ3:=k 0xa9e0
@[go_sem] def aJ4:=k 0x9ad205a3f3e0370f6f73c
@[go_sem] def aJ5:=k 0x4f33bbd9036daceac
@[go_sem] def aJ6:=k 0x71240b7c8ef7ba61c
@[go_sem] def aJ7:=k 0x4f8676bb1716fd8c
def Oa:TF:=⟨15,[.t 2],(.seq (.reg aJ3) (.seq (.reg aJ4) (.seq (.reg aJ5) (.seq (.reg aJ6) (.seq (.reg aJ7) .ret)))))⟩
/-! horarium/isa.regs -/
@[go_sem] def aJ8:=k 0x78e4fbfc0
@[go_sem] def aJ9:=k 0x17f0c
@[go_sem] def aKa:=k 0x24400147f48c4
@[go_sem] def aKb:=k 0x2949438c76094
@[go_sem] def aKc:=k 0x2e5285cd0a264
@[go_sem] def aKd:=k 0x335bc80ebd834
@[go_sem] def aKe:=k 0x38650a4f51a04
@[go_sem] def aKf:=k 0x3d6e4c8fe5bd4
@[go_sem] def aKg:=k 0x78e4fc018
@[go_sem] def aKh:=k 0x489ad786a3974
@[go_sem] def aAK:=k 0x4da419c737b44
@[go_sem] def aAL:=k 0x52ad5c07cbd14
@[go_sem] def aAM:=k 0x57b69e485fee4
@[go_sem] def aAN:=k 0x15688b6c18
@[go_sem] def aAO:=k 0x62929522f8884
@[go_sem] def aAP:=k 0x679bd7638ca54
@[go_sem] def aAQ:=k 0x78f153c18
@[go_sem] def aAR:=k 0x72273a1bd41f4
@[go_sem] def aAS:=k 0x77307c5c683c4
@[go_sem] def aAT:=k 0x78f153bc0
@[go_sem] def aAU:=k 0x78e4fbfc0
def Ob:TF:=⟨24,[.t 2,.t 3,.t 4],(.seq (.reg aJ8) (.seq (.seq (.reg aJ9) (.block 0 (.seq (.seq (.reg aKa) (.cond (.t 6) .skip (.seq (.reg aKb) (.cond (.t 6) .skip (.seq (.reg aKc) (.cond (.t 6) .skip (.seq (.reg aKd) (.cond (.t 6) .skip (.seq (.reg aKe) (.cond (.t 6) .skip (.reg aKf))))))))))) (.cond (.t 6) (.seq (.reg aKg) .ret) (.seq (.seq (.reg aKh) (.cond (.t 13) .skip (.seq (.reg aAK) (.cond (.t 13) .skip (.seq (.reg aAL) (.cond (.t 13) .skip (.reg aAM))))))) (.cond (.t 13) (.seq (.reg aAN) .ret) (.seq (.seq (.reg aAO) (.cond (.t 18) .skip (.reg aAP))) (.cond (.t 18) (.seq (.reg aAQ) .ret) (.seq (.seq (.reg aAR) (.cond (.t 21) .skip (.reg aAS))) (.cond (.t 21) (.seq (.reg aAT) .ret) .skip)))))))))) (.seq (.reg aAU) .ret)))⟩
/-! horarium/isa.field -/
@[go_sem] def aKi:=k 0x13760
@[go_sem] def aKj:=k 0x3306e2ce9ae927b914f5e68b098218c4820a1a75c9ecce1143de899c74fdd2eba5dde5595897f0c
def Kl:TF:=⟨19,[.t 4],(.seq (.reg aKi) (.seq (.reg aKj) .ret))⟩
/-! (*horarium/part.Part).count -/
@[go_sem] def aKk:=k 0xfc3d416b948
@[go_sem] def aKl:=k 0x45a2d84ae782d0bc
@[go_sem] def aKm:=k 0x20bce2589f90
@[go_sem] def aKn:=k 0x52fdf0cc40914
@[go_sem] def aKo:=kd 0x49f97e30fa8bc9a620a97cba451a14d86aad76d464f290b98130dc62657ca97322ffaa9a00bad386138
@[go_sem] def aKp:=k 0xa8bce5ffd535e5
@[go_sem] def aKq:=kd 0x71bddff96a9181b80cd88bc7e10568b8241fdb8f368d4c311093d6bf8bc444283a7eb65bb4de12f35f778e069
@[go_sem] def aKr:=k 0xffb0c1d8ebeeb5
@[go_sem] def aKs:=kd 0x99b3119cd7588279a6b210834a5771e574a420a45e7cb44434c4dd85c8c4f3c8f93c8c9998d338abee32b10065b6b9a
@[go_sem] def aKt:=k 0x154087a2921e6b86
@[go_sem] def aAV:=kd 0x8b27d2fa20dcc23ff85f1fa4b99a44257d742303c57ddeca
@[go_sem] def aAW:=k 0x284d95314
@[go_sem] def aAX:=kd 0xd4bdc88a10b2c5e09215605b3b5365f8992cdb64be1bfe3dfe78a18f9f43edd2b1a42761d642dd7b7a1154010d9604a
@[go_sem] def aAY:=k 0x1d2ebc159b44aed6
@[go_sem] def aAZ:=k 0x2e6b4
@[go_sem] def aA0:=k 0x1a3f753f8656eace31454d929846877cee61e68e
@[go_sem] def aA1:=k 0x8547d8b5634207451e79e715596d96d8228eb43608253e
@[go_sem] def aA2:=k 0x224210da1b6d13d6
@[go_sem] def aA3:=k 0x26e0f1637e817f6638e
@[go_sem] def aA4:=kd 0xa5c62d45a8de4cae06efde9f12835c4ce60e7e6eb50c6789b6da
@[go_sem] def aA5:=k 0x22dcbe75c1441de
def Cl:TF:=⟨119,[.t 8,.t 9],(.seq (.reg aKk) (.seq (.reg aKl) (.seq (.seq (.reg aKm) (.block 0 (.seq (.reg aKn) (.cond (.t 15) (.dreg aKo) (.seq (.reg aKp) (.cond (.t 32) (.dreg aKq) (.seq (.reg aKr) (.cond (.t 49) (.dreg aKs) (.seq (.reg aKt) (.cond (.t 66) (.seq (.seq (.dreg aAV) (.cond (.t 75) (.seq (.reg aAW) .ret) .skip)) (.dreg aAX)) (.seq (.reg aAY) (.cond (.t 91) (.seq (.reg aAZ) (.seq (.reg aA0) (.cond (.t 99) (.reg aA1) .skip))) (.seq (.reg aA2) (.cond (.t 107) (.reg aA3) .skip)))))))))))))) (.seq (.dreg aA4) (.seq (.reg aA5) .ret)))))⟩
/-! (*horarium/part.Part).word -/
@[go_sem] def aKu:=k 0xf9b8a047178
@[go_sem] def aKv:=kd 0x10ef4b67259b8ad1a6334ce33e181e2b650d4653e4fda5b5fb958a7d671ac165dfb8
@[go_sem] def aKw:=k 0x1a85e078c0c
@[go_sem] def aKx:=k 0x1e3b07b74
@[go_sem] def aKy:=k 0x1115d5a796519273b0
@[go_sem] def aKz:=kd 0x17792517de9bdc2fcf7dfe9e9330fbd1627337baa6705a1a55468d92afd06ce8967db415ee9
@[go_sem] def aKA:=kd 0x1f17f25fda1e633717c6595a91d930c24f6f150d62b585a2cfcc1294c37d877e80780ff8929
@[go_sem] def aKB:=k 0xf5d5a5916b018a6a595b4285f16dbc2d5a51e9d
def G7:TF:=⟨56,[.t 6,.t 7],(.seq (.reg aKu) (.seq (.dreg aKv) (.seq (.seq (.reg aKw) (.cond (.t 22) (.seq (.reg aKx) .ret) .skip)) (.seq (.seq (.reg aKy) (.cond (.t 25) (.dreg aKz) (.dreg aKA))) (.seq (.reg aKB) .ret)))))⟩
/-! horarium/isa.Imm -/
@[go_sem] def aKC:=k 0x2e01a008
@[go_sem] def aKD:=k 0xe335ad055db2e68b3a82acc099b9f9a901a7785306970
def Oc:TF:=⟨11,[.t 2],(.seq (.reg aKC) (.seq (.reg aKD) .ret))⟩
/-! (*horarium/proc.Table).Sleep -/
@[go_sem] def aKE:=k 0x1c700
@[go_sem] def aKF:=k 0x28f90231f088ceac
@[go_sem] def aKG:=k 0x18a814f3fecefb90fae3b95f6c3d599c6e1669aa37a61c
@[go_sem] def aKH:=k 0x20047abbaade490c0be49c
def Od:TF:=⟨21,[.t 6],(.seq (.reg aKE) (.seq (.seq (.reg aKF) (.cond (.t 9) (.reg aKG) .skip)) (.seq (.reg aKH) .ret)))⟩
/-! (*horarium/proc.Table).End -/
@[go_sem] def aKI:=k 0x13760
@[go_sem] def aKJ:=k 0x1d5150cbeb883f0c
@[go_sem] def aKK:=k 0x4a0af7cd8783dedbe54c199d03d686f7fb25167c
@[go_sem] def aKL:=k 0x1b29b17326bc20048b0d2c
def Oe:TF:=⟨18,[.t 4],(.seq (.reg aKI) (.seq (.seq (.reg aKJ) (.cond (.t 7) (.reg aKK) .skip)) (.seq (.reg aKL) .ret)))⟩
/-! (*horarium/part.Part).call -/
@[go_sem] def aKM:=k 0xfc3d416b948
@[go_sem] def aKN:=k 0x20bce2589f90
@[go_sem] def aKO:=k 0x52fdf0d38bb14
@[go_sem] def aKP:=kd 0x12014784a9e90727a5e44689fdd4c3158d03ba98e221412470211b64300f13d8e4c5201f4b8a4b88056931609ff849b6d39
@[go_sem] def aKQ:=k 0x3487f90a97e6f0df9d52734fcb5043c41cd
@[go_sem] def aKR:=k 0xc76d51b6c048c5
@[go_sem] def aKS:=kd 0x8017106b01ab05afb516f3d3566e0e3492eb4cbc7428189
@[go_sem] def aKT:=k 0x36271a3da79d93d17e0f959d4750e13e75d
@[go_sem] def aKU:=k 0x8f3e558c05338c09f8e40235256b09d2b9e6873fb6666d
@[go_sem] def aKV:=k 0x326019b14
@[go_sem] def aA6:=k 0x5501c1f5a39efaa68f1
@[go_sem] def aA7:=kd 0x3ffc5da46e378f42463790fc7786c2d4dfd02c7da00af93daa
@[go_sem] def aA8:=kd 0x1336dc572e6a13b298b86170317c8af8b6e3d6ad0793cf1c394041cd60b88472fd4efa
@[go_sem] def aA9:=k 0x2149d9c1c09095e
@[go_sem] def aBa:=k 0xefaa1a2471313e5ad8baa32b87a99216ff737873e1f378232240fe
@[go_sem] def aBb:=k 0x6c5cf38717de
@[go_sem] def aBc:=kd 0x852e57546b832f53c2e3dd2a117c55c8b05932f6698015e2a28a
@[go_sem] def aBd:=k 0x18e2fa5ffc2e4aef47d10252e664554fe8e2e
@[go_sem] def aBe:=k 0x22277124c331d3e
def FF:TF:=⟨101,[.t 8,.t 9],(.seq (.reg aKM) (.seq (.seq (.reg aKN) (.block 0 (.seq (.reg aKO) (.cond (.t 15) (.seq (.dreg aKP) (.seq (.reg aKQ) .ret)) (.seq (.reg aKR) (.cond (.t 38) (.seq (.dreg aKS) (.seq (.reg aKT) .ret)) .skip)))))) (.seq (.seq (.reg aKU) (.cond (.t 58) (.seq (.reg aKV) .ret) .skip)) (.seq (.seq (.reg aA6) (.cond (.t 61) (.seq (.dreg aA7) (.seq (.dreg aA8) (.seq (.reg aA9) .ret))) .skip)) (.seq (.reg aBa) (.seq (.seq (.reg aBb) (.cond (.t 87) (.dreg aBc) .skip)) (.seq (.reg aBd) (.seq (.reg aBe) .ret))))))))⟩
/-! (*horarium/health.Log).Tell -/
@[go_sem] def aKW:=k 0x25688
@[go_sem] def aKX:=k 0x9831355944ef8a37a61c
@[go_sem] def aKY:=k 0x25710
@[go_sem] def aKZ:=k 0x2190995bc6af4609346fa99f85a9a09fd9b6c8c78f23732a6ff6866781cb9420c1c55c
@[go_sem] def aK0:=k 0x2e6ecb32e303e609c06aec
@[go_sem] def aK1:=k 0x44e0647fad17d2fb0908a8ebe8bbc3825d
@[go_sem] def aK2:=k 0x2c3afc64e7d6d
def Og:TF:=⟨36,[.t 8],(.seq (.reg aKW) (.seq (.seq (.reg aKX) (.cond (.t 13) (.seq (.reg aKY) .ret) .skip)) (.seq (.reg aKZ) (.seq (.reg aK0) (.seq (.reg aK1) (.seq (.reg aK2) .ret))))))⟩
/-! slices.Equal[[]horarium/proc.proc,horarium/proc.proc] -/
@[go_sem] def aK3:=k 0x13760
@[go_sem] def aK4:=k 0xcf39f41732640d87fd11c6dc
@[go_sem] def aK5:=k 0x13760
@[go_sem] def aK6:=k 0xff967202dec
@[go_sem] def aK7:=k 0xf05fd84
@[go_sem] def aK8:=k 0x2630e4e6bf2c
@[go_sem] def aK9:=kd 0x14cc19399ad14b8adb35bdd503ff3c62a3778a064f02508
@[go_sem] def aLa:=k 0x13760
@[go_sem] def aLb:=k 0x8000b0d5e5568
def nZ:TC:=(.seq (.reg aK7) (.seq (.cond (.t 14) .skip (.exit 0)) (.seq (.block 1 (.seq (.reg aK8) (.seq (.dreg aK9) (.cond (.t 24) (.seq (.reg aLa) .ret) .skip)))) (.reg aLb))))
@[go_sem] def aBf:=k 0x137b8
def Oh:TF:=⟨26,[.t 4],(.seq (.reg aK3) (.seq (.seq (.reg aK4) (.cond (.t 10) (.seq (.reg aK5) .ret) .skip)) (.seq (.seq (.reg aK6) (.block 0 (.loop nZ))) (.seq (.reg aBf) .ret))))⟩
/-! (*horarium/health.Log).All -/
@[go_sem] def aLc:=k 0xa7d0
@[go_sem] def aLd:=k 0x3877127456c9aa184b1f4b5576af6c
def Oi:TF:=⟨8,[.t 2],(.seq (.reg aLc) (.seq (.reg aLd) .ret))⟩
/-! horarium/horariumref3.Right -/
@[go_sem] def aLr:=k 0xa7a8
@[go_sem] def aLs:=k 0x110b8c759e87f0c
@[go_sem] def aLt:=k 0x1b95a8
@[go_sem] def aLu:=k 0x32dbd7941ef7167c
@[go_sem] def aLv:=k 0x6c5fa8
@[go_sem] def aLw:=k 0x46a3351ad4b2edec
@[go_sem] def aLx:=k 0x7e53a8
@[go_sem] def aLy:=k 0x284fce501404413a96b2bdfa3096711d8d2c
@[go_sem] def aLz:=k 0x17ed9a3146c
@[go_sem] def aLA:=k 0xa23ba8
@[go_sem] def aBg:=k 0xa7a8
def Oj:TF:=⟨21,[.t 2],(.seq (.reg aLr) (.seq (.seq (.reg aLs) (.cond (.t 7) (.seq (.reg aLt) .ret) .skip)) (.seq (.seq (.reg aLu) (.cond (.t 10) (.seq (.reg aLv) .ret) .skip)) (.seq (.seq (.reg aLw) (.cond (.t 13) (.seq (.reg aLx) .ret) .skip)) (.seq (.seq (.reg aLy) (.seq (.reg aLz) (.cond (.t 20) (.seq (.reg aLA) .ret) .skip))) (.seq (.reg aBg) .ret))))))⟩
/-! horarium/horariumref3.Tidy -/
@[go_sem] def aLB:=k 0xa7d0
@[go_sem] def aLC:=k 0xefa0
@[go_sem] def aLD:=k 0xfa8d2fb0eac
@[go_sem] def aLE:=k 0xa63f644
@[go_sem] def aLF:=k 0x88dc0f92f512b39a6b854
@[go_sem] def aLG:=k 0x503b4b2c986dab8c
@[go_sem] def aLH:=k 0xb52f34fd2d9b86f30
@[go_sem] def aLI:=kd 0x45e600fd2331f5a828e6d43614449ebf8b0e24a95dfb0b005daeca24446601f6966968
@[go_sem] def aLJ:=kd 0x8ca6a6485e6edbc442e9abb790f78f823d9950d6f46882164f5f2d9aa83cccb9d6fc970aada8483f8eeb9bd9
@[go_sem] def aLK:=k 0x557844eb484a2b17bc20c119938d
@[go_sem] def aBh:=k 0xf781b61a44cae9
def Ut:TC:=(.seq (.reg aLE) (.seq (.cond (.t 10) .skip (.exit 0)) (.seq (.block 1 (.seq (.reg aLF) (.seq (.reg aLG) (.seq (.seq (.reg aLH) (.cond (.t 17) (.exit 1) .skip)) (.seq (.dreg aLI) (.cond (.t 30) (.dreg aLJ) (.reg aLK))))))) (.reg aBh))))
@[go_sem] def aBi:=k 0x3eff7d40efa9d
def Ol:TF:=⟨51,[.t 2],(.seq (.reg aLB) (.seq (.reg aLC) (.seq (.seq (.reg aLD) (.block 0 (.loop Ut))) (.seq (.reg aBi) .ret))))⟩
/-! horarium/horariumref3.Leaves -/
@[go_sem] def aLL:=k 0xa7d0
@[go_sem] def aLM:=k 0x2e0824227c4326f6c
def Om:TF:=⟨5,[.t 2],(.seq (.reg aLL) (.seq (.reg aLM) .ret))⟩
/-! horarium/horariumref3.Sum -/
@[go_sem] def aLN:=k 0x13748
@[go_sem] def aLO:=k 0x7fbe47820ccf84f7658cdc45772bf0c
@[go_sem] def aLP:=k 0x767f5dd6a7766b495e4c
@[go_sem] def aLQ:=k 0x13990
@[go_sem] def aLR:=k 0x17fe13e049ca1658aa7d8c
def Oo:TF:=⟨16,[.t 4],(.seq (.reg aLN) (.seq (.reg aLO) (.seq (.seq (.reg aLP) (.cond (.t 12) (.seq (.reg aLQ) .ret) .skip)) (.seq (.reg aLR) .ret))))⟩
/-! horarium/horariumref7.words -/
@[go_sem] def aLS:=k 0xa7d0
@[go_sem] def aLT:=k 0xefa0
@[go_sem] def aLU:=k 0xfa8d2fb0eac
@[go_sem] def aLV:=k 0xa63f644
@[go_sem] def aLW:=k 0x88dc0f92f512b39a6b854
@[go_sem] def aLX:=k 0x1c6e8
@[go_sem] def aLY:=k 0x18d8f219058d150bbfa3ae2669fbb829152f407303998c
@[go_sem] def aLZ:=k 0x1c0b9ef1050617a51e4ae02741cbc17c
@[go_sem] def aL0:=k 0x1062e18569c53d9fdc
def oA:TC:=(.seq (.seq (.reg aLY) (.cond (.t 21) .skip (.exit 2))) (.seq (.block 3 (.reg aLZ)) (.reg aL0)))
@[go_sem] def aBj:=k 0x93849146274a8
def Uu:TC:=(.seq (.reg aLV) (.seq (.cond (.t 10) .skip (.exit 0)) (.seq (.block 1 (.seq (.reg aLW) (.seq (.reg aLX) (.block 2 (.loop oA))))) (.reg aBj))))
@[go_sem] def aBk:=k 0x4bb9e656305c
def Oq:TF:=⟨31,[.t 2],(.seq (.reg aLS) (.seq (.reg aLT) (.seq (.seq (.reg aLU) (.block 0 (.loop Uu))) (.seq (.reg aBk) .ret))))⟩
/-! horarium/horariumref12.Where -/
@[go_sem] def aL1:=k 0xf1bcd7be008
@[go_sem] def aL2:=k 0xf3109f68b2fb66badfed37a3388f7da9cf2460566fd29d761a714edbe04343aaf29601dc3d109c4addb0aad849dba68b360a9d2397c4bafc8942733f14bf55321087e5f3c70f2ba21a5d2c568901
@[go_sem] def aL3:=k 0x6d715a8
@[go_sem] def aL4:=k 0x97842deeb6285e63c1
@[go_sem] def aL5:=k 0xd63a6725
@[go_sem] def aL6:=k 0xb973af9712a9e03f9f8a3f4b24bf4a2cd
@[go_sem] def aL7:=k 0x559bb7e3a4a70470a87241
@[go_sem] def aL8:=k 0x13c74cd8c666999d7d
@[go_sem] def aL9:=k 0x1c6e8
@[go_sem] def aMa:=k 0x14739812a45b82cd4d
@[go_sem] def aBl:=kd 0x11ce6cf174fbafdef04be6f65bcaba08515a7cbf2717d5540fde12ba6
@[go_sem] def aBm:=k 0x1913859e0e8b5aba2ae
@[go_sem] def aBn:=k 0x565109fd9da9d82a4bd
def Uv:TC:=(.seq (.seq (.reg aMa) (.cond (.t 59) .skip (.exit 2))) (.seq (.block 3 (.seq (.dreg aBl) (.cond (.t 70) (.seq (.reg aBm) .ret) .skip))) (.reg aBn)))
@[go_sem] def aBo:=k 0x339182115443bd32e
@[go_sem] def aBp:=k 0x1a7d2e8db50fdacc1ee
@[go_sem] def aBq:=k 0x1809c6eb8a0551da
def Uw:TC:=(.seq (.reg aL5) (.seq (.cond (.t 48) .skip (.exit 0)) (.seq (.block 1 (.seq (.reg aL6) (.seq (.seq (.reg aL7) (.cond (.t 55) (.seq (.reg aL8) .ret) .skip)) (.seq (.seq (.reg aL9) (.block 2 (.loop Uv))) (.seq (.reg aBo) (.cond (.t 74) (.seq (.reg aBp) .ret) .skip)))))) (.reg aBq))))
@[go_sem] def aBr:=k 0x12acb34fd6ca9c2d9992
@[go_sem] def aBs:=k 0x5a76b68f6
@[go_sem] def aBt:=k 0x2292d7baa7fa87a10dda19e940da3e3f989e
@[go_sem] def aBu:=k 0x2c68d2f0d040a3fa205953184d6999730aa
@[go_sem] def aBv:=k 0x2023d22e179461cf6ee
@[go_sem] def aBw:=k 0x1d27cf5f227dceda
def Ux:TC:=(.seq (.reg aBs) (.seq (.cond (.t 81) .skip (.exit 4)) (.seq (.block 5 (.seq (.reg aBt) (.seq (.reg aBu) (.cond (.t 90) (.seq (.reg aBv) .ret) .skip)))) (.reg aBw))))
@[go_sem] def aBx:=k 0x13071d934e4f2e261692
@[go_sem] def aBy:=k 0x6c8ee65f6
@[go_sem] def aBz:=k 0x58ef6c73cf71ce39f1a34e1aa2959e
@[go_sem] def aBA:=k 0xeb24c587e1bc6bd3b2eecd1e996b2f7c63e03c4de
@[go_sem] def aBB:=k 0x42bab08df8b41e
@[go_sem] def aBC:=k 0x15992c0573556bf604b943be
@[go_sem] def aBD:=k 0x45170df29eb5e
@[go_sem] def aBE:=k 0x7ea7162f6
@[go_sem] def aBF:=k 0x17a008db268f695ca1cad9306
@[go_sem] def aBG:=k 0x1d6c366f6082bfd70dde9d972ed4d84175242
@[go_sem] def aBH:=k 0x2b16af17400fe6d791e
@[go_sem] def aBI:=k 0x26fde4c66106810a
def Uy:TC:=(.seq (.reg aBE) (.seq (.cond (.t 113) .skip (.exit 8)) (.seq (.block 9 (.seq (.reg aBF) (.seq (.reg aBG) (.cond (.t 121) (.seq (.reg aBH) .ret) .skip)))) (.reg aBI))))
@[go_sem] def aBJ:=k 0xc7ec61be7ad20ab36a452c916
@[go_sem] def aBK:=k 0x13fcbf19cb4e182f
@[go_sem] def aBL:=k 0x6709a46b031dd6bd8eb74ea7cf
@[go_sem] def aBM:=k 0x294af7a7ed38b4778b
def Uz:TC:=(.seq (.reg aBy) (.seq (.cond (.t 97) .skip (.exit 6)) (.seq (.block 7 (.seq (.reg aBz) (.seq (.reg aBA) (.seq (.seq (.reg aBB) (.cond (.t 107) (.seq (.reg aBC) .ret) .skip)) (.seq (.seq (.reg aBD) (.block 8 (.loop Uy))) (.seq (.reg aBJ) (.seq (.reg aBK) (.cond (.t 128) (.seq (.reg aBL) .ret) .skip)))))))) (.reg aBM))))
@[go_sem] def aBN:=k 0x2ce2a7a8
def Ot:TF:=⟨132,[.t 2,.t 3],(.seq (.reg aL1) (.seq (.seq (.reg aL2) (.cond (.t 43) (.seq (.reg aL3) .ret) .skip)) (.seq (.seq (.reg aL4) (.block 0 (.loop Uw))) (.seq (.seq (.reg aBr) (.block 4 (.loop Ux))) (.seq (.seq (.reg aBx) (.block 6 (.loop Uz))) (.seq (.reg aBN) .ret))))))⟩
/-! horarium/config.Name -/
@[go_sem] def aMb:=k 0xa7c0
@[go_sem] def aMc:=k 0xf94f80046dc
@[go_sem] def aMd:=k 0x93b7474
@[go_sem] def aMe:=k 0x19717506761c
@[go_sem] def aMf:=k 0x14d2764d6df23b74dbedec
@[go_sem] def aMg:=k 0x2aec39f99e068172d606a976e6886b12ed5c
@[go_sem] def aMh:=k 0x2cd7aa6286d361b39edf74579af61112b9030293acd7e797c533efb6087b3aa948a5085ba58734bb68c97f5b127422396a783d
@[go_sem] def aMi:=k 0xa7c0
@[go_sem] def aMj:=k 0xc007b84cc4b4f9
def oB:TC:=(.seq (.reg aMd) (.seq (.cond (.t 9) .skip (.exit 0)) (.seq (.block 1 (.seq (.reg aMe) (.seq (.reg aMf) (.seq (.reg aMg) (.seq (.reg aMh) (.cond (.t 37) (.seq (.reg aMi) .ret) .skip)))))) (.reg aMj))))
@[go_sem] def aBO:=k 0x20735a454af0246ee9ad444927d0dfabce3fea5b65691a908ad
def Ou:TF:=⟨47,[.t 2],(.seq (.reg aMb) (.seq (.seq (.reg aMc) (.block 0 (.loop oB))) (.seq (.reg aBO) .ret)))⟩
/-! slices.ContainsFunc[[]horarium/api.Part,horarium/api.Part] -/
@[go_sem] def aMk:=k 0x13760
@[go_sem] def aMl:=k 0x39e1b776f3f5c2a1d62f9883f0c
def Ov:TF:=⟨9,[.t 4],(.seq (.reg aMk) (.seq (.reg aMl) .ret))⟩
/-! horarium/config.Where$1 -/
@[go_sem] def aMm:=k 0xd77a7d8
@[go_sem] def aMn:=k 0x102ca9cc2abb13a68f7f7943a181b2b40
def Ow:TF:=⟨9,[.t 3],(.seq (.reg aMm) (.seq (.reg aMn) .ret))⟩
/-! horarium/config.part -/
@[go_sem] def aMo:=k 0xd776008
@[go_sem] def aMp:=k 0x1f2a0918e40e0
@[go_sem] def aMq:=k 0x9298084
@[go_sem] def aMr:=k 0x330b340bd7874
@[go_sem] def aMs:=k 0x1ae19f669ecd998997d36683d2b9a55ec
@[go_sem] def aMt:=k 0xa7c0
@[go_sem] def aMu:=k 0x56ed2c21fd6e8
def oC:TC:=(.seq (.reg aMq) (.seq (.cond (.t 9) .skip (.exit 0)) (.seq (.block 1 (.seq (.reg aMr) (.seq (.reg aMs) (.cond (.t 16) (.seq (.reg aMt) .ret) .skip)))) (.reg aMu))))
@[go_sem] def aMv:=k 0x11bd5e5b60c36f7c6e8fc48962e929ba6400ccc7474cf55ea0
@[go_sem] def aMw:=k 0x17631a3c7081e9133c8f9469317644be4a8a33ce605b08777fc3b3c56ce9766e4241deceade4c0d793fe10a22ecc29a75f19f9d78c22448b10107c8bc2a02ef7e0c523269b8e85f55af3c619f285b70961cca5721
def Ox:TF:=⟨54,[.t 2],(.seq (.reg aMo) (.seq (.seq (.reg aMp) (.block 0 (.loop oC))) (.seq (.reg aMv) (.seq (.reg aMw) .ret))))⟩
/-! horarium/config.channel -/
@[go_sem] def aMx:=k 0x1e4bc6bc27d8
@[go_sem] def aMy:=k 0x6bcff18
@[go_sem] def aMz:=k 0x1425bee3c480
@[go_sem] def aMA:=k 0xa12f0df918
@[go_sem] def aMB:=k 0x5e1f5e228713ebc28cb8edcda20
@[go_sem] def aMC:=k 0x296c63c80f0801f48b389b911b3b6adcf5a849679f64385c15c1c5180ca8df61bfe6d3dae3ffb65b53534efae142ba9703cbd2907bee14ceec1061484e3617e588402cffd666ef1dd7e4acbdde3b3f1837f7bebfa551b3e48227a55e4815da79e161
def Oy:TF:=⟨48,[.t 4],(.seq (.reg aMx) (.seq (.reg aMy) (.seq (.seq (.reg aMz) (.cond (.t 9) (.reg aMA) .skip)) (.seq (.reg aMB) (.seq (.reg aMC) .ret)))))⟩
/-! horarium/config.table -/
@[go_sem] def aMD:=k 0x5751e327d8
@[go_sem] def aME:=k 0x18a2b145b05b5e55ae6ace3fca6c6d3a507c
@[go_sem] def aMF:=k 0x1e37b97c11bc
@[go_sem] def aMG:=k 0x23981e7ea15c
@[go_sem] def aMH:=k 0x579a30cdcfa96f2c
@[go_sem] def aMI:=k 0x90d748
@[go_sem] def aMJ:=k 0x1feb1dcf73a4fc7501d8f4
def Oz:TF:=⟨21,[.t 4],(.seq (.reg aMD) (.seq (.reg aME) (.seq (.seq (.reg aMF) (.cond (.t 13) (.seq (.reg aMG) .ret) .skip)) (.seq (.seq (.reg aMH) (.cond (.t 17) (.seq (.reg aMI) .ret) .skip)) (.seq (.reg aMJ) .ret)))))⟩
/-! container/heap.up -/
@[go_sem] def aMK:=k 0x169f3b339ab11c34005390c
@[go_sem] def aML:=k 0x48c441fdc986e685fba87fdbb091fe5829f45934c1d978cfe7c
@[go_sem] def aMM:=k 0x1d816cfae19eaa9d66e49c
@[go_sem] def aMN:=k 0x3780b853ebdc
def Q0:TC:=(.block 1 (.seq (.reg aMK) (.seq (.seq (.reg aML) (.cond (.t 17) (.exit 0) .skip)) (.seq (.reg aMM) (.reg aMN)))))
def Km:TF:=⟨23,[],(.block 0 (.loop Q0))⟩
/-! container/heap.down -/
@[go_sem] def aMO:=k 0x1c700
@[go_sem] def aMP:=k 0x1c46aa0be7ec
@[go_sem] def aMQ:=k 0x2d35fde5add125d2067cbbc
@[go_sem] def aMR:=k 0x536b776543cd0cb8ddbbec8e523d8107bdd2c
@[go_sem] def aMS:=k 0x3821e0bfd3dc
@[go_sem] def aMT:=k 0x112e508911a66fdbac
@[go_sem] def aMU:=k 0x1416e05360d28b6391dee58658da54d6e09feb9df70b379a34d
@[go_sem] def aMV:=k 0x2afdb5184299d
@[go_sem] def aMW:=k 0x43996f17448d13c48df469c4e96d
@[go_sem] def aMX:=k 0x101c1c47d6462d04697e507d
@[go_sem] def aBP:=k 0x378ac832d03bd
def IE:TC:=(.block 1 (.seq (.reg aMQ) (.seq (.seq (.reg aMR) (.cond (.t 21) (.exit 0) .skip)) (.seq (.reg aMS) (.seq (.seq (.reg aMT) (.seq (.reg aMU) (.cond (.t 33) (.reg aMV) .skip))) (.seq (.seq (.reg aMW) (.cond (.t 39) (.exit 0) .skip)) (.seq (.reg aMX) (.reg aBP))))))))
@[go_sem] def aBQ:=k 0x12aa47ebcc0ba52c3225638d
def G8:TF:=⟨48,[.t 6],(.seq (.reg aMO) (.seq (.reg aMP) (.seq (.block 0 (.loop IE)) (.seq (.reg aBQ) .ret))))⟩
/-! (*horarium/proc.Table).is -/
@[go_sem] def aMY:=k 0x13760
@[go_sem] def aMZ:=k 0x3c49e7da865d1778d5fd12c4491e4fa079b4616a2eac5aa80cf559592790c
def OA:TF:=⟨16,[.t 4],(.seq (.reg aMY) (.seq (.reg aMZ) .ret))⟩
/-! (*horarium/part.Part).channel -/
@[go_sem] def aM0:=k 0x1c700
@[go_sem] def aM1:=k 0x2a67b2c2c62cb94819b56e77206e7fc671c9107c
@[go_sem] def aM2:=k 0x1c700
@[go_sem] def aM3:=k 0x187ca0aaada7b836f33ba1492634ff862201d19bf4b76f54fc
@[go_sem] def aM4:=kd 0x1119273d10c2b074f1095c6c08f6b4c4fa5ba8dc4a3f011bcae9b29c9c689fd16e3d4144c269438dda64a88639993b3df7074b36bb44faabad89e3cc31427effa977e89
def FG:TF:=⟨47,[.t 6],(.seq (.reg aM0) (.seq (.seq (.reg aM1) (.cond (.t 15) (.seq (.reg aM2) .ret) .skip)) (.seq (.reg aM3) (.seq (.dreg aM4) .ret))))⟩
/-! (*horarium/health.Log).action -/
@[go_sem] def aM5:=k 0x13748
@[go_sem] def aM6:=k 0x1097253a128360fc3998f02929ae700dc
@[go_sem] def aM7:=k 0x132b48
@[go_sem] def aM8:=k 0xb69920cd7b09c31cd6611cb1e56c30590e04a35bc
@[go_sem] def aM9:=k 0x2b58c9485764aeb5305f350d4abab8e6c
@[go_sem] def aNa:=k 0x3f4b0ad8bd4c
@[go_sem] def aNb:=k 0x132b48
def Dy:TF:=⟨26,[.t 4],(.seq (.reg aM5) (.seq (.seq (.reg aM6) (.cond (.t 11) (.seq (.reg aM7) .ret) .skip)) (.seq (.seq (.reg aM8) (.seq (.reg aM9) (.cond (.t 24) (.seq (.reg aNa) .ret) .skip))) (.seq (.reg aNb) .ret))))⟩
/-! slices.Clone[[]horarium/health.Fault,horarium/health.Fault] -/
@[go_sem] def aNc:=k 0xa7d0
@[go_sem] def aNe:=k 0x3cbda76f6c
@[go_sem] def aNf:=k 0xa7d0
@[go_sem] def aNg:=k 0x59b20544fa59789c6e1c
def G9:TF:=⟨8,[.t 2],(.seq (.reg aNc) (.seq (.seq (.reg aNe) (.cond (.t 4) (.seq (.reg aNf) .ret) .skip)) (.seq (.reg aNg) .ret)))⟩
/-! horarium/horariumref3.Depth -/
@[go_sem] def aNh:=k 0xa7a8
@[go_sem] def aNi:=k 0x2823fba897e704ec3d52e614873b91be2d37281d3456235ef6c
@[go_sem] def aNj:=k 0xa7a8
@[go_sem] def aNk:=k 0x9f0ced73a25e63d8c
def OB:TF:=⟨15,[.t 2],(.seq (.reg aNh) (.seq (.seq (.reg aNi) (.cond (.t 12) (.seq (.reg aNj) .ret) .skip)) (.seq (.reg aNk) .ret)))⟩
/-! horarium/horariumref3.Length -/
@[go_sem] def aNl:=k 0xd77a7a8
@[go_sem] def aNm:=k 0x21e7ec94bfdb3f0c
@[go_sem] def aNn:=k 0xd77a7a8
@[go_sem] def aNo:=k 0x673f5d3dda164167c
@[go_sem] def aNp:=k 0xca218bce1c
@[go_sem] def aNq:=k 0xd77a7a8
@[go_sem] def aNr:=k 0xad2135a1a1dbc
def OC:TF:=⟨13,[.t 2,.t 3],(.seq (.reg aNl) (.seq (.seq (.reg aNm) (.cond (.t 7) (.seq (.reg aNn) .ret) .skip)) (.seq (.reg aNo) (.seq (.seq (.reg aNp) (.cond (.t 11) (.seq (.reg aNq) .ret) .skip)) (.seq (.reg aNr) .ret)))))⟩
/-! horarium/horariumref3.leaves -/
@[go_sem] def aNs:=k 0x1c710
@[go_sem] def aNt:=k 0x2e3ff4d2e657a6b2260ee9a61c
@[go_sem] def aNu:=k 0x52fdf0cbb0f14
@[go_sem] def aNv:=kd 0x2390e42c70a918c02b9f381a74be04435c3a055eb04ccb30331ab7a5c93666a78856c9aaf32584a138
@[go_sem] def aNw:=k 0xa39f7eb6c2fa15
@[go_sem] def aNx:=k 0x2081b1246d0dc6e8eca06a93b0eca3acf7da33617b6d18bca441cd
@[go_sem] def aNy:=k 0xdbe2eed9e9f805
@[go_sem] def aNz:=k 0x20eb8
@[go_sem] def aNA:=k 0x191004a5c8243e899dea6d9d7ca6e04bd011bbd
@[go_sem] def aNB:=k 0x1c7564eaa534fbe69d81ad357bb68fa9f60d
@[go_sem] def aBR:=k 0x499fc083ab24c92126d
def UA:TC:=(.seq (.seq (.reg aNA) (.cond (.t 50) .skip (.exit 1))) (.seq (.block 2 (.reg aNB)) (.reg aBR)))
@[go_sem] def aBS:=k 0x492626c8f451d
@[go_sem] def aBT:=k 0x2c1693402f95fe453aba4ed
@[go_sem] def aBU:=k 0x473d03c26
@[go_sem] def aBV:=k 0xbaafd571c8177a0c6c12
@[go_sem] def aBW:=k 0x1f229bda2ee98edb81f6217722fee36e
@[go_sem] def aBX:=k 0x1680f4bd2943eaca
def UB:TC:=(.seq (.reg aBU) (.seq (.cond (.t 64) .skip (.exit 3)) (.seq (.block 4 (.seq (.reg aBV) (.reg aBW))) (.reg aBX))))
@[go_sem] def aBY:=k 0x2d5b4dc9c81a7e
def Ha:TF:=⟨73,[.t 6],(.seq (.reg aNs) (.seq (.seq (.reg aNt) (.block 0 (.seq (.reg aNu) (.cond (.t 15) (.seq (.dreg aNv) .ret) (.seq (.reg aNw) (.cond (.t 31) (.seq (.reg aNx) .ret) (.seq (.reg aNy) (.cond (.t 42) (.seq (.seq (.reg aNz) (.block 1 (.loop UA))) (.seq (.reg aBS) .ret)) .skip)))))))) (.seq (.seq (.reg aBT) (.block 3 (.loop UB))) (.seq (.reg aBY) .ret))))⟩
/-! horarium/horariumref12.Name -/
@[go_sem] def aNC:=k 0xa7c0
@[go_sem] def aNE:=k 0xef78
@[go_sem] def aNF:=k 0x422ec2ecb25a95ba2d0c
@[go_sem] def aNG:=k 0x5c95c8bda5b18c250df1c603648cbe40ad021d0d4426287debb650848efa9a47aed1bedc8a4df74dbedec
@[go_sem] def aNH:=k 0x4adf367661831c22e4b3be0080ea78f3effd3d5e5eb094fadc61a4d0b5e880dfe84c20d91c3ec5d2e5e430e498e9ceaaaed
@[go_sem] def aNI:=k 0xa7c0
@[go_sem] def aNJ:=k 0x72323a5a8a67f0c4c
def oD:TC:=(.seq (.seq (.reg aNF) (.cond (.t 8) .skip (.exit 0))) (.seq (.block 1 (.seq (.reg aNG) (.seq (.reg aNH) (.cond (.t 44) (.seq (.reg aNI) .ret) .skip)))) (.reg aNJ)))
@[go_sem] def aNK:=k 0x24ae0fdeb8d592da82343adb8d41a055a5b6ddaf6980a82b78d
def OD:TF:=⟨53,[.t 2],(.seq (.reg aNC) (.seq (.seq (.reg aNE) (.block 0 (.loop oD))) (.seq (.reg aNK) .ret)))⟩
/-! horarium/horariumref12.partRight -/
@[go_sem] def aNL:=k 0xd776008
@[go_sem] def aNM:=k 0x9123466cddc6e6ad6b7797a3673cad442da1395c5de6c10f48b0
@[go_sem] def aNN:=k 0xa7c0
@[go_sem] def aNO:=k 0x4a2b4e0be2c5216d0
@[go_sem] def aNP:=k 0x17218a34
@[go_sem] def aNQ:=k 0x78371432b841fe2c44c44
@[go_sem] def aNR:=k 0x4ac75e437d00eedc7ae560050203da834ae20599ae550ff72248f9a918c5e65c47a9d7e5cc4715b9579c08a56fa824b48ea381
@[go_sem] def aNS:=k 0xa7c0
@[go_sem] def aNT:=k 0xd51e7deea1d439
def oE:TC:=(.seq (.reg aNP) (.seq (.cond (.t 21) .skip (.exit 0)) (.seq (.block 1 (.seq (.reg aNQ) (.seq (.reg aNR) (.cond (.t 41) (.seq (.reg aNS) .ret) .skip)))) (.reg aNT))))
@[go_sem] def aBZ:=k 0x219a257e4c1bf1
@[go_sem] def aB0:=k 0xca5fc395
@[go_sem] def aB1:=k 0xed32c31f712d85
@[go_sem] def aB2:=k 0x195a6627ed762072ed594b8cbe4dbcc646fd
@[go_sem] def aB3:=k 0xa7c0
@[go_sem] def aB4:=k 0x11385373fda31f9
def UC:TC:=(.seq (.reg aB0) (.seq (.cond (.t 46) .skip (.exit 2)) (.seq (.block 3 (.seq (.reg aB1) (.seq (.reg aB2) (.cond (.t 53) (.seq (.reg aB3) .ret) .skip)))) (.reg aB4))))
@[go_sem] def aB5:=k 0x2508dbdd1e1f537719807b614d9387d291ca5d4ecfde79b1
@[go_sem] def aB6:=k 0xa818
@[go_sem] def aB7:=k 0x1cc93a0d59d80905ef7f2387f8db0774d0b49321fa0b07d3ab2ef018fb9bc3481115f32ca34b1be592b8ed3ade94bde79d78e653ceb0b0cf1573c3e6ac29ac32
def OE:TF:=⟨83,[.t 2],(.seq (.reg aNL) (.seq (.seq (.reg aNM) (.cond (.t 16) (.seq (.reg aNN) .ret) .skip)) (.seq (.seq (.reg aNO) (.block 0 (.loop oE))) (.seq (.seq (.reg aBZ) (.block 2 (.loop UC))) (.seq (.seq (.reg aB5) (.cond (.t 62) (.seq (.reg aB6) .ret) .skip)) (.seq (.reg aB7) .ret))))))⟩
/-! horarium/horariumref12.chanRight -/
@[go_sem] def aNU:=k 0x57589ea7d8
@[go_sem] def aNV:=k 0xa6c355a05a8eef65ce5ad90cca28a197ea6eecaabfefd9b74d78f3fba1d4e3826b0da98f113dea8e050a6a9166f8ef5fff41849e8b1f70a53517a4b34ee42a28adfd49eb38e71f0ed92f013d114171e4d6474ff34cf827de06ee63c44bdbb9a24509cc9a509656711
@[go_sem] def aNW:=k 0x13760
@[go_sem] def aNX:=k 0x37bcd7fc67f5748b8da18e55ab2ad9920c929ccce5be9a2dba991e114c10878c2d05b49728ca900ee8a2f4beac678bdcf3124528affb43a4c3133733a01d96df69c821
def OF:TF:=⟨64,[.t 4],(.seq (.reg aNU) (.seq (.seq (.reg aNV) (.cond (.t 41) (.seq (.reg aNW) .ret) .skip)) (.seq (.reg aNX) .ret)))⟩
/-! horarium/horariumref7.Holds -/
@[go_sem] def aNY:=k 0x5751e327d8
@[go_sem] def aNZ:=k 0x47b2656018ffc1a20
@[go_sem] def aN0:=k 0xf05fd84
@[go_sem] def aN1:=k 0xa564e8cc096f1cdc0bfd0
@[go_sem] def aN2:=k 0xc71fcebcbc84a001e1ef3e7fc6bf4736c0d6cc
@[go_sem] def aN3:=k 0x7695072d3676a5e71922b9c47e1679d139f499f2d6573d5622306b84b93430a6290b022343b1
@[go_sem] def aN4:=k 0xabc548
@[go_sem] def aN5:=k 0xb659ed10352559
def oF:TC:=(.seq (.reg aN0) (.seq (.cond (.t 14) .skip (.exit 0)) (.seq (.block 1 (.seq (.reg aN1) (.seq (.reg aN2) (.seq (.reg aN3) (.cond (.t 35) (.seq (.reg aN4) .ret) .skip))))) (.reg aN5))))
@[go_sem] def aN6:=k 0x950b45cfefe96e6111
@[go_sem] def aB8:=k 0xb64fc475
@[go_sem] def aB9:=k 0x135b1006fecc0649918d9917b7ff79001d
@[go_sem] def aCa:=kd 0x51b465469d646648af347cefc62ce94914bf6f18ea36fac6c51c9eda35faa457686d7ea860c75
@[go_sem] def aCb:=k 0xb4bf48
@[go_sem] def aCc:=k 0x1274586fc6a5139
def UD:TC:=(.seq (.reg aB8) (.seq (.cond (.t 41) .skip (.exit 2)) (.seq (.block 3 (.seq (.reg aB9) (.seq (.dreg aCa) (.cond (.t 57) (.seq (.reg aCb) .ret) .skip)))) (.reg aCc))))
@[go_sem] def aCd:=k 0x13748
def OG:TF:=⟨59,[.t 4],(.seq (.reg aNY) (.seq (.seq (.reg aNZ) (.block 0 (.loop oF))) (.seq (.seq (.reg aN6) (.block 2 (.loop UD))) (.seq (.reg aCd) .ret))))⟩
/-! slices.IndexFunc[[]horarium/api.Part,horarium/api.Part] -/
@[go_sem] def aN7:=k 0x13748
@[go_sem] def aN8:=k 0xf94adf1c6dc
@[go_sem] def aN9:=k 0x93b7474
@[go_sem] def aOa:=k 0x1999bf18761c
@[go_sem] def aOb:=k 0x5b910fa4c1d1f97bb1d6441349e7ec
@[go_sem] def aOc:=k 0x2b2601d67ecc
@[go_sem] def aOd:=k 0x5bf66e6201eb8
def oG:TC:=(.seq (.reg aN9) (.seq (.cond (.t 9) .skip (.exit 0)) (.seq (.block 1 (.seq (.reg aOa) (.seq (.reg aOb) (.cond (.t 16) (.seq (.reg aOc) .ret) .skip)))) (.reg aOd))))
@[go_sem] def aOe:=k 0x137d0
def OH:TF:=⟨19,[.t 4],(.seq (.reg aN7) (.seq (.seq (.reg aN8) (.block 0 (.loop oG))) (.seq (.reg aOe) .ret)))⟩
/-! horarium/config.procs -/
@[go_sem] def aOf:=k 0xa7c0
@[go_sem] def aOg:=k 0xf8088e87f0c
@[go_sem] def aOh:=k 0x812f2a4
@[go_sem] def aOi:=k 0x6de9543b4b27ba515b4b4
@[go_sem] def aOj:=k 0x3155ba7a5ed5bcf6070973ae4823ec91443c971c2e500f15f0
@[go_sem] def aOk:=k 0xa7c0
@[go_sem] def aOl:=k 0x6ae9eafe1b628
def oH:TC:=(.seq (.reg aOh) (.seq (.cond (.t 8) .skip (.exit 0)) (.seq (.block 1 (.seq (.reg aOi) (.seq (.reg aOj) (.cond (.t 20) (.seq (.reg aOk) .ret) .skip)))) (.reg aOl))))
@[go_sem] def aOm:=k 0x51f907cc8f4c3c617a63111c219d49603c3cd0b3e4643dc
def OI:TF:=⟨30,[.t 2],(.seq (.reg aOf) (.seq (.seq (.reg aOg) (.block 0 (.loop oH))) (.seq (.reg aOm) .ret)))⟩
/-! horarium/config.within -/
@[go_sem] def aOn:=k 0x13760
@[go_sem] def aOo:=k 0xdfd9b462f1541d49d81f6eed1f243cfe5595897f0c
def OJ:TF:=⟨12,[.t 4],(.seq (.reg aOn) (.seq (.reg aOo) .ret))⟩
/-! horarium/runs.Of -/
@[go_sem] def aOp:=k 0x3683d0
@[go_sem] def aOq:=k 0x3946524a089c5e4c
@[go_sem] def aOr:=k 0x1bb31849d5ec
@[go_sem] def aOs:=k 0x24bba320710a58c
@[go_sem] def aOt:=k 0x17f40
@[go_sem] def aOu:=k 0x55e1eed88d1b855c
@[go_sem] def aOv:=k 0x648422b60a2c068e14719d7e959d2934e68c78cc
@[go_sem] def aOw:=k 0x1a723d98c0c
@[go_sem] def aOx:=k 0x5d15bb37a24a6a8bae995b2dac
def oI:TC:=(.block 1 (.seq (.reg aOv) (.seq (.seq (.reg aOw) (.cond (.t 22) (.exit 0) .skip)) (.reg aOx))))
@[go_sem] def aCe:=k 0x9f2b0963ce7f8cec
@[go_sem] def aCf:=k 0x54da3bb27141c8c
@[go_sem] def aCg:=k 0x1e3af5bd0
@[go_sem] def aCh:=k 0x20bceab22dd5fd
def OK:TF:=⟨33,[.t 2,.t 3],(.seq (.reg aOp) (.seq (.seq (.reg aOq) (.seq (.reg aOr) (.cond (.t 12) (.seq (.reg aOs) .ret) .skip))) (.seq (.reg aOt) (.seq (.reg aOu) (.seq (.block 0 (.loop oI)) (.seq (.seq (.reg aCe) (.seq (.reg aCf) (.cond (.t 31) (.seq (.reg aCg) .ret) .skip))) (.seq (.reg aCh) .ret)))))))⟩
/-! slices.ContainsFunc[[]horarium/api.Run,horarium/api.Run] -/
@[go_sem] def aOy:=k 0x13760
@[go_sem] def aOz:=k 0x39e1b776f3f5c2a59d214883f0c
def OL:TF:=⟨9,[.t 4],(.seq (.reg aOy) (.seq (.reg aOz) .ret))⟩
/-! horarium/config.table$1 -/
@[go_sem] def aOB:=k 0xd77a7d8
@[go_sem] def aOC:=k 0x28c6d3a810c2b99a2cf0caaac143a181b2b40
def OM:TF:=⟨10,[.t 3],(.seq (.reg aOB) (.seq (.reg aOC) .ret))⟩
/-! horarium/bound.Holds -/
@[go_sem] def aOD:=k 0x5751e327d8
@[go_sem] def aOE:=k 0x47b2656018ffc1a20
@[go_sem] def aOF:=k 0xf05fd84
@[go_sem] def aOG:=k 0xa564e8cc096f1cdc0bfd0
@[go_sem] def aOH:=k 0xc71fcebcbce757a3f854688426bf4736c0d6cc
@[go_sem] def aOI:=k 0x1da541cd4b79ca326fd4452470c67a55c80d15a0cdefb920d279484d1f030a6290b022343b1
@[go_sem] def aOJ:=k 0xabc548
@[go_sem] def aOK:=k 0xb659ed10352559
def oJ:TC:=(.seq (.reg aOF) (.seq (.cond (.t 14) .skip (.exit 0)) (.seq (.block 1 (.seq (.reg aOG) (.seq (.reg aOH) (.seq (.reg aOI) (.cond (.t 35) (.seq (.reg aOJ) .ret) .skip))))) (.reg aOK))))
@[go_sem] def aOL:=k 0x950b45cfefe96e6111
@[go_sem] def aCi:=k 0xb64fc475
@[go_sem] def aCj:=k 0x135b1006fecc0649918d9917b7ff79001d
@[go_sem] def aCk:=kd 0x51b465469d646648af347cefc62d1d727ef483d76e106d661ed2beda35faa457686d7ea860c75
@[go_sem] def aCl:=k 0xb4bf48
@[go_sem] def aCm:=k 0x1274586fc6a5139
def UE:TC:=(.seq (.reg aCi) (.seq (.cond (.t 41) .skip (.exit 2)) (.seq (.block 3 (.seq (.reg aCj) (.seq (.dreg aCk) (.cond (.t 57) (.seq (.reg aCl) .ret) .skip)))) (.reg aCm))))
@[go_sem] def aCn:=k 0x13748
def ON:TF:=⟨59,[.t 4],(.seq (.reg aOD) (.seq (.seq (.reg aOE) (.block 0 (.loop oJ))) (.seq (.seq (.reg aOL) (.block 2 (.loop UE))) (.seq (.reg aCn) .ret))))⟩
/-! horarium/horariumref3.Size -/
@[go_sem] def aOM:=k 0x13748
@[go_sem] def aON:=k 0x5e8bb0254289e99972050eb0f23b3b97166fe48ac
@[go_sem] def aOO:=k 0x13748
@[go_sem] def aOP:=k 0xa7918
@[go_sem] def aOQ:=k 0x26450984072c
@[go_sem] def aOR:=k 0xd209d0b4489b771830fc
@[go_sem] def aOS:=k 0x67cd96203a6d07f7c8ce0e61a03dc
@[go_sem] def aOT:=k 0x13748
@[go_sem] def aOU:=k 0x149a35a1ab460f94bc
@[go_sem] def aOV:=k 0x43f38bcb907881be53b65397ff4a57825d
@[go_sem] def aCo:=k 0x1a6fd9ee8c95434cd03f284ac78eafd2ce860a0daf53d
@[go_sem] def aCp:=k 0x5ded9ab3a783bf205e992c32c8ce5b27ed
@[go_sem] def aCq:=k 0x46c1216ed1e3a6d9acd
@[go_sem] def aCr:=k 0x40360f3cd2a6d
@[go_sem] def aCs:=k 0x18ee8918b67275233f1387a515ae0d
@[go_sem] def aCt:=k 0xef9389acc82fd103c
def UF:TC:=(.seq (.seq (.reg aOR) (.cond (.t 19) .skip (.exit 0))) (.seq (.block 1 (.seq (.seq (.reg aOS) (.cond (.t 27) (.seq (.reg aOT) .ret) .skip)) (.seq (.reg aOU) (.seq (.seq (.reg aOV) (.cond (.t 35) (.reg aCo) .skip)) (.seq (.seq (.reg aCp) (.cond (.t 48) (.reg aCq) .skip)) (.seq (.reg aCr) (.cond (.t 52) (.seq (.reg aCs) .ret) .skip))))))) (.reg aCt)))
@[go_sem] def aCu:=k 0x13748
def OO:TF:=⟨57,[.t 4],(.seq (.reg aOM) (.seq (.seq (.reg aON) (.cond (.t 14) (.seq (.reg aOO) .ret) .skip)) (.seq (.reg aOP) (.seq (.seq (.reg aOQ) (.block 0 (.loop UF))) (.seq (.reg aCu) .ret)))))⟩
/-! horarium/horariumref3.depth -/
@[go_sem] def aOW:=k 0x13748
@[go_sem] def aOX:=k 0x17f18
@[go_sem] def aOY:=k 0xa01af082ecf78af29167c
@[go_sem] def aOZ:=k 0xddd7bb4
@[go_sem] def aO0:=k 0xac1e47e779af03da0
@[go_sem] def aO1:=k 0x141fdf263d1f53249ed18cff286f36fc
@[go_sem] def aO2:=k 0x6bb35db1df628
def oK:TC:=(.seq (.reg aOZ) (.seq (.cond (.t 13) .skip (.exit 0)) (.seq (.block 1 (.seq (.reg aO0) (.reg aO1))) (.reg aO2))))
@[go_sem] def aO3:=k 0x1057943e3d2534a5dc
def OP:TF:=⟨24,[.t 4],(.seq (.reg aOW) (.seq (.reg aOX) (.seq (.seq (.reg aOY) (.block 0 (.loop oK))) (.seq (.reg aO3) .ret))))⟩
/-! horarium/horariumref3.length -/
@[go_sem] def aO4:=k 0x13748
@[go_sem] def aO5:=k 0x17f18
@[go_sem] def aO6:=k 0xa01af082ecf78af29167c
@[go_sem] def aO7:=k 0xddd7bb4
@[go_sem] def aO8:=k 0xac1e47e779af03da0
@[go_sem] def aO9:=k 0x2f66d2b01a772c2a2d2473402a95786f36fc
@[go_sem] def aPa:=k 0x70bc9ff1e3df8
def oL:TC:=(.seq (.reg aO7) (.seq (.cond (.t 13) .skip (.exit 0)) (.seq (.block 1 (.seq (.reg aO8) (.reg aO9))) (.reg aPa))))
@[go_sem] def aPb:=k 0x5c7eec113e22f3e4252f6d4bac
@[go_sem] def aPc:=k 0x968211e06e8a4
@[go_sem] def aCv:=k 0x4be2307a245c
@[go_sem] def aCw:=k 0xa39f7ef13fe215
@[go_sem] def aCx:=k 0x207b5d5344236871a2e4c8b1d644fc67adbb93617b6d18bcda1dcd
@[go_sem] def aCy:=k 0x1a59f54f5dca9408bdd220a33a67deb55a6e01d
def OQ:TF:=⟨48,[.t 4],(.seq (.reg aO4) (.seq (.reg aO5) (.seq (.seq (.reg aO6) (.block 0 (.loop oL))) (.seq (.seq (.reg aPb) (.block 2 (.seq (.reg aPc) (.cond (.t 28) (.seq (.reg aCv) .ret) (.seq (.reg aCw) (.cond (.t 31) (.seq (.reg aCx) .ret) .skip)))))) (.seq (.reg aCy) .ret)))))⟩
/-! horarium/horariumref3.Kids -/
@[go_sem] def aPd:=k 0x13770
@[go_sem] def aPe:=k 0x101db867411d8ba2e9167c
@[go_sem] def aPf:=k 0x1c710
@[go_sem] def aPg:=k 0x8a3671e9f28ada7ec
@[go_sem] def aPh:=k 0x3006642d73270d91956889538c
@[go_sem] def aPi:=k 0x5d3230bbb1dca02c6290d927ac
@[go_sem] def aPj:=k 0x162ec462b4039fd0819bdaf5c881ba9c
def oM:TC:=(.seq (.seq (.reg aPh) (.cond (.t 17) .skip (.exit 0))) (.seq (.block 1 (.reg aPi)) (.reg aPj)))
@[go_sem] def aPk:=k 0x44544d2246ec
def OS:TF:=⟨28,[.t 4],(.seq (.reg aPd) (.seq (.reg aPe) (.seq (.reg aPf) (.seq (.seq (.reg aPg) (.block 0 (.loop oM))) (.seq (.reg aPk) .ret)))))⟩
/-! horarium/node.Right -/
@[go_sem] def aPl:=k 0xa7a8
@[go_sem] def aPm:=k 0x1428169be80b1f8daaae351cd1ce3d89c6dc
@[go_sem] def aPn:=k 0xa8f468ae8ce897202dec
@[go_sem] def aPo:=k 0x1b95a8
@[go_sem] def aPp:=k 0xdd44109906517e750d2c
@[go_sem] def aPq:=k 0x6c5fa8
@[go_sem] def aPr:=k 0x22327713640e359581ac6c
@[go_sem] def aPs:=k 0x7e53a8
@[go_sem] def aPt:=k 0x8b9101a063a833ac
@[go_sem] def aPu:=k 0xa23ba8
@[go_sem] def aCz:=k 0xa7a8
def OT:TF:=⟨25,[.t 2],(.seq (.reg aPl) (.seq (.reg aPm) (.seq (.block 0 (.seq (.reg aPn) (.cond (.t 10) (.seq (.reg aPo) .ret) (.seq (.reg aPp) (.cond (.t 14) (.seq (.reg aPq) .ret) (.seq (.reg aPr) (.cond (.t 18) (.seq (.reg aPs) .ret) (.seq (.reg aPt) (.cond (.t 22) (.seq (.reg aPu) .ret) .skip))))))))) (.seq (.reg aCz) .ret))))⟩
/-! horarium/cursor.New -/
@[go_sem] def aPv:=k 0xa888
@[go_sem] def aPw:=k 0x1c419475626df73c
@[go_sem] def aPx:=k 0xa888
@[go_sem] def aPy:=k 0x11f8e3aa5f8284f1ee5fbceac
@[go_sem] def aPz:=k 0xdf2ed0dbec
@[go_sem] def aPA:=k 0x20eb33316b8c
def OU:TF:=⟨14,[.t 2],(.seq (.reg aPv) (.seq (.seq (.reg aPw) (.cond (.t 6) (.seq (.reg aPx) .ret) .skip)) (.seq (.reg aPy) (.seq (.reg aPz) (.seq (.reg aPA) .ret)))))⟩
/-! (*horarium/cursor.Cursor).Next -/
@[go_sem] def aPB:=k 0x6c601c
@[go_sem] def aPC:=kd 0x13e522d6a5ccd025f1a355539a1dc79131d22b97424b95552f8
@[go_sem] def aPD:=k 0x96cf7408700320
@[go_sem] def aPE:=kd 0x14be29350f40c70fd414811e330b6706cfea505a8391e363f79108d99ef9c556e353d9ffb98fb7ffc8aa579f37cf3ba86d535e55af35cdba78ea9d3659a46bae1d37bebd93c56e1f7f8ed6a2dafe509
@[go_sem] def aPF:=kd 0x175d6addecf1800c8b4dd714b2c8483ffb30363172c7ed5daa7fbd802a49
@[go_sem] def aPG:=k 0x10b511bbf60d
@[go_sem] def aPH:=k 0x12e0d8942a4d1561d
def Ko:TF:=⟨56,[.cell 2 2 true,.t 3],(.seq (.reg aPB) (.seq (.seq (.dreg aPC) (.cond (.t 14) (.seq (.reg aPD) .ret) .skip)) (.seq (.dreg aPE) (.seq (.dreg aPF) (.seq (.reg aPG) (.seq (.reg aPH) .ret))))))⟩
/-! horarium/runs.Tidy -/
@[go_sem] def aPI:=k 0xa7d0
@[go_sem] def aPJ:=k 0xefa0
@[go_sem] def aPK:=k 0xfa8d2fb0eac
@[go_sem] def aPL:=k 0xa63f644
@[go_sem] def aPM:=k 0x88dc0f92f512b39a6b854
@[go_sem] def aPN:=k 0x503b4b2c986dab8c
@[go_sem] def aPO:=k 0x47a9e8a0375841bff59d640
@[go_sem] def aPP:=kd 0x110d8bbd33837467132957ea85a8e4c8ffc6bcb94189f7de4fea0e159ca75b9de56b2140dbcda0ae89
@[go_sem] def aPQ:=kd 0x9fd6ee845bd3e51bee30c5810c032e4668d3ed752cc56ce5a08a9d5e05ecf5fe32208030cb2f7ce191703cf9
@[go_sem] def aPR:=k 0x40674bb7352772b1bebb34fb2c
@[go_sem] def aCA:=k 0x101943a9a455a89
def UG:TC:=(.seq (.reg aPL) (.seq (.cond (.t 10) .skip (.exit 0)) (.seq (.block 1 (.seq (.reg aPM) (.seq (.reg aPN) (.block 2 (.seq (.reg aPO) (.cond (.t 19) .skip (.seq (.dreg aPP) (.cond (.t 23) (.dreg aPQ) (.reg aPR))))))))) (.reg aCA))))
@[go_sem] def aCB:=k 0x12bb4a0e29a14a8a3d
def OV:TF:=⟨54,[.t 2],(.seq (.reg aPI) (.seq (.reg aPJ) (.seq (.seq (.reg aPK) (.block 0 (.loop UG))) (.seq (.reg aCB) .ret))))⟩
/-! slices.IndexFunc[[]horarium/api.Run,horarium/api.Run] -/
@[go_sem] def pL:=k 0x13748
@[go_sem] def pM:=k 0xf94adf1c6dc
@[go_sem] def pN:=k 0x93b7474
@[go_sem] def pO:=k 0x1999bf18761c
@[go_sem] def pP:=k 0x5b910fa4a8750cf2efd40bb349e7ec
@[go_sem] def pQ:=k 0x2b2601d67ecc
@[go_sem] def pR:=k 0x5bf66e6201eb8
def T7:TC:=(.seq (.reg pN) (.seq (.cond (.t 9) .skip (.exit 0)) (.seq (.block 1 (.seq (.reg pO) (.seq (.reg pP) (.cond (.t 16) (.seq (.reg pQ) .ret) .skip)))) (.reg pR))))
@[go_sem] def pS:=k 0x137d0
def JJ:TF:=⟨19,[.t 4],(.seq (.reg pL) (.seq (.seq (.reg pM) (.block 0 (.loop T7))) (.seq (.reg pS) .ret)))⟩
/-! horarium/bound.Late -/
@[go_sem] def pT:=k 0x1c6e8
@[go_sem] def pU:=k 0x6484383df5323f1f5b2a119a8d3f41a9a40b0d2c
@[go_sem] def pV:=k 0x2719eecea9f144122519dc
@[go_sem] def pW:=k 0x1c6e8
@[go_sem] def pX:=k 0x2da3e3cc210e0de653331c
@[go_sem] def pY:=k 0x1c770
@[go_sem] def pZ:=k 0xab2d252aac147a8c
@[go_sem] def qA:=k 0x2e628
@[go_sem] def qB:=k 0x82a04aca762d
@[go_sem] def qC:=k 0x966521c5
@[go_sem] def ZR:=k 0x4fb8e92a0e22df5513d5dd5
@[go_sem] def ZT:=k 0x3ba020b9d8c23ea16ceeeaa564d956864ea21e911
@[go_sem] def ZU:=k 0xc88cb3b5
@[go_sem] def ZV:=k 0x42b7027a931b9e4efa1
@[go_sem] def ZW:=k 0x26e1f91cab3943777cb356c768091c70bdd17185614e25816fd
@[go_sem] def ZX:=k 0x11d8396b25dc199
def Il:TC:=(.seq (.reg ZU) (.seq (.cond (.t 45) .skip (.exit 3)) (.seq (.block 4 (.seq (.reg ZV) (.reg ZW))) (.reg ZX))))
@[go_sem] def ZY:=k 0x121af415dff0969
def QT:TC:=(.seq (.reg qC) (.seq (.cond (.t 34) .skip (.exit 1)) (.seq (.block 2 (.seq (.reg ZR) (.seq (.reg ZT) (.block 3 (.loop Il))))) (.reg ZY))))
@[go_sem] def ZZ:=k 0x492626d1ee51d
def JK:TF:=⟨59,[.t 6],(.seq (.reg pT) (.seq (.reg pU) (.seq (.block 0 (.seq (.reg pV) (.cond (.t 21) (.seq (.reg pW) .ret) (.seq (.reg pX) (.cond (.t 25) (.seq (.reg pY) .ret) .skip))))) (.seq (.reg pZ) (.seq (.reg qA) (.seq (.seq (.reg qB) (.block 1 (.loop QT))) (.seq (.reg ZZ) .ret)))))))⟩
/-! horarium/bound.Budget -/
@[go_sem] def qD:=k 0x1c6e8
@[go_sem] def qE:=k 0x560f23f46b89455c
@[go_sem] def qF:=k 0x16b79d6416be5d784bd4bfe90b2eae1b34fe636e935dc14754e0ae100632c8fc
@[go_sem] def qG:=k 0x1c770
@[go_sem] def qH:=k 0x2ff7eb86326ad8c48eb2bc
@[go_sem] def qI:=k 0x4ecb8aac7e2c
@[go_sem] def qJ:=k 0x2e628
@[go_sem] def qK:=k 0xb7be6fa4da42f99fd
@[go_sem] def qL:=k 0x32df8
@[go_sem] def qM:=k 0x84d457da60dd
@[go_sem] def Z0:=k 0xb64fc475
@[go_sem] def Z2:=k 0x56c1aeb3b196b5db0280085
@[go_sem] def Z3:=k 0x5070380f66ccdefe34195ba4e887ea03811e98dbf2d709b2c4cc5a4e32a9d3e3d20fcbce5308e199ebbd
@[go_sem] def Z4:=k 0x1274586fc6a5139
def QU:TC:=(.seq (.reg Z0) (.seq (.cond (.t 41) .skip (.exit 2)) (.seq (.block 3 (.seq (.reg Z2) (.reg Z3))) (.reg Z4))))
@[go_sem] def Z5:=k 0x183b5d09b88eebe22ab538ed
@[go_sem] def Z6:=k 0xeba1a3a4261363bf07c716d
def QV:TC:=(.seq (.seq (.reg qK) (.cond (.t 34) .skip (.exit 0))) (.seq (.block 1 (.seq (.reg qL) (.seq (.seq (.reg qM) (.block 2 (.loop QU))) (.reg Z5)))) (.reg Z6)))
@[go_sem] def Z7:=k 0x4e2f6910e105d
def JL:TF:=⟨63,[.t 6],(.seq (.reg qD) (.seq (.reg qE) (.seq (.seq (.reg qF) (.cond (.t 27) (.seq (.reg qG) .ret) .skip)) (.seq (.reg qH) (.seq (.reg qI) (.seq (.seq (.reg qJ) (.block 0 (.loop QV))) (.seq (.reg Z7) .ret)))))))⟩
/-! horarium/horariumref3.fine -/
@[go_sem] def qN:=k 0xd776008
@[go_sem] def qO:=k 0x78e96f1e970
@[go_sem] def qP:=k 0x1f0e74e3fc0f4
@[go_sem] def qQ:=k 0x2fd395f7a05b2d43ecc74f683a41ab67109879f838e1988fca0b5a496a666e8eff359c9248b0
@[go_sem] def qR:=k 0x6cf5adb2cf024
@[go_sem] def qS:=k 0x71feeff3f2bf4
@[go_sem] def qT:=k 0x1532b58eaa30dc284fb2e5d904b03883a808ec26d07296c5b0
@[go_sem] def qU:=k 0xa39f7e89f2ee15
@[go_sem] def qV:=k 0x38773da956f43e77b8b6fdfc44d2bcd0b1c5931f33274909ab849a25affaf7761f64f76a009d84dd1
@[go_sem] def qW:=k 0xa7c0
def JM:TF:=⟨46,[.t 2],(.seq (.reg qN) (.seq (.seq (.reg qO) (.block 0 (.seq (.reg qP) (.cond (.t 5) (.seq (.reg qQ) .ret) (.seq (.seq (.reg qR) (.cond (.t 20) .skip (.reg qS))) (.cond (.t 20) (.seq (.reg qT) .ret) (.seq (.reg qU) (.cond (.t 31) (.seq (.reg qV) .ret) .skip)))))))) (.seq (.reg qW) .ret)))⟩
/-! horarium/node.Length -/
@[go_sem] def qX:=k 0xd77a7a8
@[go_sem] def qY:=k 0x13cae2cbaa186dc
@[go_sem] def qZ:=k 0xd77a7a8
@[go_sem] def rA:=k 0x1d1d4bd785864a2b508e04a2c309ffc1e61c
@[go_sem] def rB:=k 0x11a6072e75c
@[go_sem] def rC:=k 0xadc25dea436fc
@[go_sem] def rD:=k 0xd77a7a8
def JN:TF:=⟨17,[.t 2,.t 3],(.seq (.reg qX) (.seq (.seq (.reg qY) (.cond (.t 8) (.seq (.reg qZ) .ret) .skip)) (.seq (.seq (.reg rA) (.seq (.reg rB) (.cond (.t 15) (.seq (.reg rC) .ret) .skip))) (.seq (.reg rD) .ret))))⟩
/-! horarium/node.whole -/
@[go_sem] def rE:=k 0xa7c0
@[go_sem] def rF:=k 0x156dd903aae5c445c07e715c2d9eaace464a1dafe0fd2c50190d5ef6c
def JO:TF:=⟨13,[.t 2],(.seq (.reg rE) (.seq (.reg rF) .ret))⟩
/-! horarium/node.Depth -/
@[go_sem] def rG:=k 0xa7a8
@[go_sem] def rH:=k 0x10f78fbe3183f0c
@[go_sem] def rI:=k 0xa7a8
@[go_sem] def rJ:=k 0x1adffe82a15e2ac74eafb81146bad8389e4c
@[go_sem] def rK:=k 0x20eb33316b8c
def JP:TF:=⟨14,[.t 2],(.seq (.reg rG) (.seq (.seq (.reg rH) (.cond (.t 7) (.seq (.reg rI) .ret) .skip)) (.seq (.reg rJ) (.seq (.reg rK) .ret))))⟩
/-! (*horarium/cursor.Cursor).Reset -/
@[go_sem] def rL:=k 0x13f568929feb3cc0631cd9c21fe435727e8c716ca3c36b48441296be679c
@[go_sem] def rM:=k 0x1bb48a6e6dec
def JQ:TF:=⟨13,[],(.seq (.reg rL) (.reg rM))⟩
/-! horarium/cursor.part -/
@[go_sem] def rN:=k 0x6bbe008
@[go_sem] def rO:=k 0x2dea1ef187af1e970
@[go_sem] def rP:=k 0xa830
@[go_sem] def rQ:=k 0x4feffa212f77200e0
def JR:TF:=⟨8,[.t 2],(.seq (.reg rN) (.seq (.seq (.reg rO) (.cond (.t 5) (.seq (.reg rP) .ret) .skip)) (.seq (.reg rQ) .ret)))⟩
/-! (*horarium/cursor.Cursor).step -/
@[go_sem] def rR:=k 0x80e59356c2e1dd8869d66413cfff73c
@[go_sem] def rS:=k 0x11787cede79bf5c2ae5e4c
@[go_sem] def rT:=k 0x7fbbc1a87d5096847ab671a94a35bc
@[go_sem] def rU:=kd 0x53bdd376406a5346d0de79bc22ab152eeb2baaebaab8a85e34e64b0c550568
@[go_sem] def rV:=k 0x1651500e1af68f587aa2213008e874bd1ab4163bd168d
@[go_sem] def rX:=k 0x455e7ada67968bdd42bc7cbb0d3d
@[go_sem] def rY:=kd 0x1304cd05cccfc3daf73c14db80737e018d29edb5503bcfac41d40956d0192a9d9b9
@[go_sem] def rZ:=k 0x71d593ae6473db9c535c90a6f02723d20d
@[go_sem] def sC:=k 0x14cf880bf353cf5d1d
@[go_sem] def sD:=kd 0x7567332e1c56d8ec763187d078c2643a52401feb658c36324a6c57e12cd0b62efee5c0b22b744437bf5e19d7a
def QW:TC:=(.seq (.seq (.reg rT) (.cond (.t 17) .skip (.exit 0))) (.block 1 (.seq (.dreg rU) (.seq (.seq (.reg rV) (.seq (.reg rX) (.cond (.t 40) (.seq (.seq (.dreg rY) (.cond (.t 52) (.reg rZ) .skip)) (.seq (.reg sC) .ret)) .skip))) (.dreg sD)))))
@[go_sem] def Z8:=k 0x3a3ec10436c1fbe22fa5ffcc5614a186ccf21ae79d9adf121ee
def JS:TF:=⟨83,[],(.seq (.reg rR) (.seq (.reg rS) (.seq (.block 0 (.loop QW)) (.reg Z8))))⟩
/-! horarium/runs.Add -/
@[go_sem] def sE:=k 0x13748
@[go_sem] def sF:=k 0x7fbe47820c2387686b4208bf995ff0c
@[go_sem] def sG:=k 0x767f5dd6a7766b495e4c
@[go_sem] def sH:=k 0x13990
@[go_sem] def sI:=k 0x17fe13e049ca1658aa7d8c
def JT:TF:=⟨16,[.t 4],(.seq (.reg sE) (.seq (.reg sF) (.seq (.seq (.reg sG) (.cond (.t 12) (.seq (.reg sH) .ret) .skip)) (.seq (.reg sI) .ret))))⟩
/-! slices.Clip[[]horarium/api.Run,horarium/api.Run] -/
@[go_sem] def sJ:=k 0xa7d0
@[go_sem] def sK:=k 0x1214331381c475f4998e4eb8295ac65eaf6c
def JU:TF:=⟨9,[.t 2],(.seq (.reg sJ) (.seq (.reg sK) .ret))⟩
/-! horarium/bound.spans -/
@[go_sem] def sL:=k 0x13770
@[go_sem] def sM:=k 0x17f40
@[go_sem] def sN:=k 0x1c6e8
@[go_sem] def sO:=k 0xfe54216e61c
@[go_sem] def sP:=k 0xddd7bb4
@[go_sem] def sQ:=k 0xd7538b748ae1410803dc4
@[go_sem] def sR:=k 0x89417abd3cd7de2b41dd21f70fc
@[go_sem] def sS:=k 0x460c6e535806e4e9063214fd51555a636fe88c806558440
@[go_sem] def sT:=k 0x1314fa97be25fec7e02c6d96694b59cd5b0fe8d
@[go_sem] def sU:=k 0x2c30e9e067d6d
@[go_sem] def Z9:=k 0xb645c802b82559
def QX:TC:=(.seq (.reg sP) (.seq (.cond (.t 13) .skip (.exit 0)) (.seq (.block 1 (.seq (.reg sQ) (.seq (.reg sR) (.seq (.seq (.reg sS) (.cond (.t 28) (.reg sT) .skip)) (.reg sU))))) (.reg Z9))))
@[go_sem] def aA:=k 0x2eab787773d0d
def JV:TF:=⟨38,[.t 4],(.seq (.reg sL) (.seq (.reg sM) (.seq (.reg sN) (.seq (.seq (.reg sO) (.block 0 (.loop QX))) (.seq (.reg aA) .ret)))))⟩
/-! horarium/runs.Length -/
@[go_sem] def sV:=k 0xa7a8
@[go_sem] def sW:=k 0xef78
@[go_sem] def sX:=k 0xf94adf1c6dc
@[go_sem] def sY:=k 0x93b7474
@[go_sem] def sZ:=k 0x8811283127c1e975e3684
@[go_sem] def tA:=k 0x6b76741432e4484976822e863bc
@[go_sem] def tB:=k 0x51e3e9e1f8f18
def T8:TC:=(.seq (.reg sY) (.seq (.cond (.t 9) .skip (.exit 0)) (.seq (.block 1 (.seq (.reg sZ) (.reg tA))) (.reg tB))))
@[go_sem] def tC:=k 0x2afdb7b28acc
def JW:TF:=⟨18,[.t 2],(.seq (.reg sV) (.seq (.reg sW) (.seq (.seq (.reg sX) (.block 0 (.loop T8))) (.seq (.reg tC) .ret))))⟩
/-! horarium/bound.next -/
@[go_sem] def tD:=k 0x1c6e8
@[go_sem] def tE:=k 0xfd11d0d9e4c
@[go_sem] def tF:=k 0xcb4f9e4
@[go_sem] def tG:=k 0xd688a412bd9076e37bbf4
@[go_sem] def tH:=k 0x75d6c1b7210d5cab6e6b12ec72c
@[go_sem] def tI:=k 0x304b6cface3d146b8c6aec5b3d6d02e3c
@[go_sem] def tJ:=k 0x7fb01c8dfd568
def T9:TC:=(.seq (.reg tF) (.seq (.cond (.t 12) .skip (.exit 0)) (.seq (.block 1 (.seq (.reg tG) (.seq (.reg tH) (.cond (.t 19) (.seq (.reg tI) .ret) .skip)))) (.reg tJ))))
@[go_sem] def tK:=k 0x8bbb70a05f9a78db67828349edb9c95f7171c
def JX:TF:=⟨32,[.t 6],(.seq (.reg tD) (.seq (.seq (.reg tE) (.block 0 (.loop T9))) (.seq (.reg tK) .ret)))⟩
/-! horarium/node.measure -/
@[go_sem] def tL:=k 0x6bc27a8
@[go_sem] def tM:=k 0x3eecf5f4846a25e4
@[go_sem] def tN:=k 0x100d8c2975bc
@[go_sem] def tO:=k 0x102e7f54
@[go_sem] def tP:=k 0xa630bd8a7b14389a14150
@[go_sem] def tQ:=kd 0x1962ef30aa12ecc3c4dd12d6c5448f84934d42a8ce69d68
@[go_sem] def tR:=k 0x2b29d0b5069a1e6ee6034c
@[go_sem] def tS:=k 0x3fddbd14dbc6872376a4b5849f6ac2c2bd
@[go_sem] def tT:=k 0x1981fa4d18013a922831ec38322a638131d33b6c4719d
@[go_sem] def tU:=k 0x321298aad74df56734e382eb5c092e3c39f322b0516690e22708b962160c024e37ff684d
@[go_sem] def aB:=kd 0x2196ae4b2a4ce0b83c40cda2ce4f2cfe1b13ed2dc27224c9a90cbe9c60e12b5b9772364be8612ff91ec2a
@[go_sem] def aC:=k 0x1138ec6e325301aa8702c36f283fcf8bdf3ce
@[go_sem] def aD:=k 0x39176b94ba95f6a83279932fae2
@[go_sem] def aE:=k 0xca96d99da427323b3a2bb694dfc1e40015b2796d010b9341a22
@[go_sem] def aF:=k 0x3712fe0322c988aded0dbb0a95d8a0c9b01ea1d85c95f8ce
@[go_sem] def aG:=kd 0x3707a6ac780b9b0ccd89f2736ec1535980a9b620a574bfaa8d8e3e55e980e056243c79f4a8a
@[go_sem] def aH:=kd 0xd831420de3c0b6a1fd91ad13e956e0160d7b00530af44f958ec9279554e8ec3d1c9a
def Lk:TC:=(.seq (.seq (.reg tU) (.cond (.t 53) .skip (.exit 2))) (.block 3 (.seq (.dreg aB) (.seq (.reg aC) (.seq (.seq (.reg aD) (.cond (.t 73) (.reg aE) .skip)) (.seq (.reg aF) (.seq (.dreg aG) (.dreg aH))))))))
@[go_sem] def aI:=k 0x2258195bf19a93aa
def QY:TC:=(.seq (.reg tO) (.seq (.cond (.t 15) .skip (.exit 0)) (.seq (.block 1 (.seq (.reg tP) (.seq (.dreg tQ) (.seq (.seq (.reg tR) (.seq (.reg tS) (.cond (.t 33) (.reg tT) .skip))) (.block 2 (.loop Lk)))))) (.reg aI))))
@[go_sem] def aJ:=kd 0x114e5ad8626b4ed143a81eb559e212710a2386d55b00cb75048b5fa10276aa
def JY:TF:=⟨118,[.t 2,.t 3],(.seq (.reg tL) (.seq (.reg tM) (.seq (.seq (.reg tN) (.block 0 (.loop QY))) (.seq (.dreg aJ) .ret))))⟩
/-! horarium/node.Size -/
@[go_sem] def tV:=k 0x13748
@[go_sem] def tW:=k 0x68e938bd89428d82046c47b0466f95064581e907c
@[go_sem] def tX:=k 0x13748
@[go_sem] def tY:=k 0xa7918
@[go_sem] def tZ:=k 0x28c9aaa44efc
@[go_sem] def uA:=k 0xdf1dbaaf36d4699878cc
@[go_sem] def uB:=k 0xd960b771e4d12b70aefd1be89a4bac
@[go_sem] def uC:=k 0x4681b2da08bc
@[go_sem] def uD:=k 0x13748
@[go_sem] def uE:=k 0xeb614f19d94069a96cd9459d5465d
@[go_sem] def aK:=k 0x2aceb5ac8659d
@[go_sem] def aL:=k 0x115f51fda4a30d791d3871c57be93d
@[go_sem] def aM:=k 0xfae0d101b241d580c
def QZ:TC:=(.seq (.seq (.reg uA) (.cond (.t 20) .skip (.exit 0))) (.seq (.block 1 (.seq (.reg uB) (.seq (.seq (.reg uC) (.cond (.t 29) (.seq (.reg uD) .ret) .skip)) (.seq (.reg uE) (.seq (.reg aK) (.cond (.t 35) (.seq (.reg aL) .ret) .skip)))))) (.reg aM)))
@[go_sem] def aN:=k 0x13748
def JZ:TF:=⟨40,[.t 4],(.seq (.reg tV) (.seq (.seq (.reg tW) (.cond (.t 15) (.seq (.reg tX) .ret) .skip)) (.seq (.reg tY) (.seq (.seq (.reg tZ) (.block 0 (.loop QZ))) (.seq (.reg aN) .ret)))))⟩
/-! (*horarium/cursor.Cursor).down -/
@[go_sem] def uF:=k 0x8900a8e16732f3af2ac94c424ae0e9ff9807ee96d6c26c14381350eee5d943c2c6df70135d8c51dcd18dc2e668149cfff73c
@[go_sem] def uG:=kd 0x21680007b24f7791ac2377fb7cffa59d0ebfe7f1289846ae333ead7d3c907d1a8af7d5a02f9329b078cc69e285306ef1d526bc2d35fc3f6689
@[go_sem] def uH:=k 0x3e30917772c04241bed
def Ua:TC:=(.seq (.seq (.reg uF) (.cond (.t 23) .skip (.exit 0))) (.block 1 (.seq (.dreg uG) (.reg uH))))
@[go_sem] def uI:=k 0x56ac97d48a013479d8bee4a7b78d
def J0:TF:=⟨49,[],(.seq (.block 0 (.loop Ua)) (.reg uI))⟩
/-! horarium/node.kids -/
@[go_sem] def uJ:=k 0x6bbe008
@[go_sem] def uK:=k 0x50c3ae5793c8df11676005c11dae795f124faa1d29630aa1a85481ac7b5509e03f731ee50b140
@[go_sem] def uL:=k 0xa830
@[go_sem] def uM:=k 0x4c95c7309096e517e2db3b9264ac0307b685d17004ab3c04c6f11d433308ec736add9bd61ea0
@[go_sem] def uN:=k 0x34bd9073080014e9ff35abe31
@[go_sem] def uO:=k 0xa7a8
@[go_sem] def uP:=k 0x77ef16ade4a965d3d73a349ff5c1ae0b78e19f537d99175bdd71
@[go_sem] def uQ:=k 0x3e36381b045e8581bf1
@[go_sem] def uR:=k 0x4d363873e27552a557a5ef361
@[go_sem] def uS:=k 0x9a1a8
@[go_sem] def aO:=k 0xa830
def J1:TF:=⟨49,[.t 2],(.seq (.reg uJ) (.seq (.block 0 (.seq (.reg uK) (.cond (.t 3) (.seq (.reg uL) .ret) (.seq (.seq (.reg uM) (.cond (.t 17) .skip (.reg uN))) (.cond (.t 17) (.seq (.reg uO) .ret) (.seq (.reg uP) (.cond (.t 34) (.seq (.reg uQ) .ret) (.seq (.reg uR) (.cond (.t 45) (.seq (.reg uS) .ret) .skip))))))))) (.seq (.reg aO) .ret)))⟩
/-! horarium/node.times -/
@[go_sem] def uT:=k 0x13748
@[go_sem] def uU:=k 0x48ee3c54d3ff88bd6ae24d79f1bf0c
def J2:TF:=⟨10,[.t 4],(.seq (.reg uT) (.seq (.reg uU) .ret))⟩
/-! horarium/node.add -/
@[go_sem] def uV:=k 0x13748
@[go_sem] def uW:=k 0x48ee3c54d3f2d87329d3b132883f0c
def J3:TF:=⟨10,[.t 4],(.seq (.reg uV) (.seq (.reg uW) .ret))⟩
/-! (horarium/part.none).Change -/
@[go_sem] def uX:=k 0x577928e7d8
@[go_sem] def uY:=k 0x139d0
def J4:TF:=⟨5,[.t 4],(.seq (.reg uX) (.seq (.reg uY) .ret))⟩
/-! (horarium/part.none).Recv -/
@[go_sem] def uZ:=k 0x67954748e7d8
@[go_sem] def vA:=k 0xd544fd4
def J5:TF:=⟨6,[.t 4,.t 5],(.seq (.reg uZ) (.seq (.reg vA) .ret))⟩
/-! (horarium/part.none).Send -/
@[go_sem] def vB:=k 0x7fc33b2fa8
@[go_sem] def vC:=k 0x1ccc4
def J6:TF:=⟨7,[.t 6],(.seq (.reg vB) (.seq (.reg vC) .ret))⟩
/-! (horarium/part.none).StopAll -/
@[go_sem] def vD:=k 0x2e01a008
@[go_sem] def vE:=k 0xaa30
def J7:TF:=⟨3,[.t 2],(.seq (.reg vD) (.seq (.reg vE) .ret))⟩
/-! (*horarium/proc.ready).Less -/
@[go_sem] def vF:=k 0x1c700
@[go_sem] def vG:=kd 0x67eacfcf1fa79eae993b23565f005ba3d272d46f4a4234e3ec65bb8be02a5cf13dd7a8b32df13b8
@[go_sem] def vH:=kd 0x42e8cef516ee8d30c332d60a7a46be9f970e366647fc52789d9568a695e0acc66160d1dce5db75e6cf6ad0f082b300cbee140047153da7a5c9d6f12caf91a3f659
def J8:TF:=⟨46,[.t 6],(.seq (.reg vF) (.seq (.dreg vG) (.seq (.dreg vH) .ret)))⟩
/-! (*horarium/proc.ready).Pop -/
@[go_sem] def vI:=k 0xa9e0
@[go_sem] def vJ:=k 0x16a0b63fa97442fcd8d03130f0cd74893f0c
@[go_sem] def vK:=k 0x561dcc1b296c29d92ca602055e5d062281c0edec
@[go_sem] def vL:=k 0x54b23e8a272b370ad9ecfa35b92d543f7186e6edafeac2e49c
@[go_sem] def vM:=k 0x9ea36a0cc6d712ec
def J9:TF:=⟨29,[.t 2],(.seq (.reg vI) (.seq (.reg vJ) (.seq (.reg vK) (.seq (.reg vL) (.seq (.reg vM) .ret)))))⟩
/-! (*horarium/proc.ready).Push -/
@[go_sem] def vN:=kd 0x47d25e591e4c9f670c246375c171b84fa68fcc5dd6f101d9aa6133471f8f6b3e2c8
def Ka:TF:=⟨15,[],(.dreg vN)⟩
/-! (*horarium/proc.ready).Swap -/
@[go_sem] def vO:=kd 0xfb7129f8ab516394bb35790b80e716e374ec8d4a9afebaa37a4ab30327454dc1807c54867e78aecda20cfe4b847a515d7b8b7cdaf50476f9becb75158c72a6b105151ebcfb7c328
def Kb:TF:=⟨32,[],(.dreg vO)⟩
/-! cmp.Or[int] -/
@[go_sem] def vP:=k 0xa7a8
@[go_sem] def vQ:=k 0xef78
@[go_sem] def vR:=k 0xf94adf1c6dc
@[go_sem] def vS:=k 0x93b7474
@[go_sem] def vT:=k 0x7e345621071ce3660
@[go_sem] def vU:=k 0x461bd19236e917bc
@[go_sem] def vV:=k 0x25f47583ef2c
@[go_sem] def vW:=k 0x51e3e9e1f8f18
def Ll:TC:=(.seq (.reg vS) (.seq (.cond (.t 9) .skip (.exit 0)) (.seq (.block 1 (.seq (.reg vT) (.seq (.reg vU) (.cond (.t 14) (.seq (.reg vV) .ret) .skip)))) (.reg vW))))
@[go_sem] def vX:=k 0x2afdb7b28acc
def Kc:TF:=⟨18,[.t 2],(.seq (.reg vP) (.seq (.reg vQ) (.seq (.seq (.reg vR) (.block 0 (.loop Ll))) (.seq (.reg vX) .ret))))⟩
/-! cmp.Compare[int] -/
@[go_sem] def vY:=k 0x13748
@[go_sem] def vZ:=k 0x2e264011dd618eac
@[go_sem] def wA:=k 0x39a0bc8379fd184c
@[go_sem] def wB:=k 0x300fec
@[go_sem] def wC:=k 0x3951bc
@[go_sem] def wD:=k 0x13748
@[go_sem] def wE:=k 0x137d0
@[go_sem] def wF:=k 0x39998c
@[go_sem] def wG:=k 0xa3148
@[go_sem] def wH:=k 0x51c32fb72c8ac55c
@[go_sem] def aP:=k 0x137d0
@[go_sem] def aQ:=k 0x633f2617446b9ccc
@[go_sem] def aR:=k 0xa3148
@[go_sem] def aS:=k 0x13748
def Kd:TF:=⟨20,[.t 4],(.seq (.reg vY) (.seq (.reg vZ) (.seq (.reg wA) (.seq (.seq (.reg wB) (.cond (.t 11) (.seq (.seq (.reg wC) (.cond (.t 12) (.seq (.reg wD) .ret) .skip)) (.seq (.reg wE) .ret)) .skip)) (.seq (.seq (.reg wF) (.cond (.t 13) (.seq (.reg wG) .ret) .skip)) (.seq (.seq (.reg wH) (.cond (.t 16) (.seq (.reg aP) .ret) .skip)) (.seq (.seq (.reg aQ) (.cond (.t 19) (.seq (.reg aR) .ret) .skip)) (.seq (.reg aS) .ret))))))))⟩
/-! cmp.isNaN[int] -/
@[go_sem] def wI:=k 0xa7c0
@[go_sem] def wJ:=k 0x80aa315c2b650b11eaf6c
def Ke:TF:=⟨6,[.t 2],(.seq (.reg wI) (.seq (.reg wJ) .ret))⟩
def aFM:Nat→Option TF
 | 5=>some YJ
 | 10=>some YK
 | 11=>some YL
 | 12=>some YM
 | 13=>some Md
 | 14=>some QH
 | 15=>some QI
 | 16=>some QJ
 | 17=>some YN
 | 18=>some YO
 | 22=>some NB
 | 23=>some NC
 | 24=>some ND
 | 25=>some NE
 | 26=>some NF
 | 27=>some NG
 | 28=>some Kf
 | 29=>some NH
 | 30=>some NI
 | 31=>some NJ
 | 32=>some NK
 | 33=>some NL
 | 34=>some NM
 | 35=>some NN
 | 36=>some NO
 | 37=>some Ck
 | 38=>some NP
 | 39=>some NQ
 | 40=>some NR
 | 41=>some NS
 | 42=>some NT
 | 43=>some NU
 | 51=>some Kg
 | 52=>some NV
 | 53=>some NW
 | 54=>some NX
 | 55=>some NY
 | 56=>some NZ
 | 57=>some N0
 | 58=>some Kh
 | 59=>some Ki
 | 60=>some N1
 | 61=>some N2
 | 62=>some Kj
 | 63=>some Kk
 | 64=>some N7
 | 65=>some N8
 | 66=>some N9
 | 67=>some Oa
 | 68=>some Ob
 | 69=>some Kl
 | 70=>some Cl
 | 71=>some G7
 | 72=>some Oc
 | 73=>some Od
 | 74=>some Oe
 | 75=>some FF
 | 76=>some Og
 | 77=>some Oh
 | 78=>some Oi
 | 86=>some Oj
 | 87=>some Ol
 | 88=>some Om
 | 89=>some Oo
 | 90=>some Oq
 | 91=>some Ot
 | 92=>some Ou
 | 93=>some Ov
 | 94=>some Ow
 | 95=>some Ox
 | 96=>some Oy
 | 97=>some Oz
 | 98=>some Km
 | 99=>some G8
 | 100=>some OA
 | 101=>some FG
 | 102=>some Dy
 | 103=>some G9
 | 107=>some OB
 | 108=>some OC
 | 109=>some Ha
 | 110=>some OD
 | 111=>some OE
 | 112=>some OF
 | 113=>some OG
 | 114=>some OH
 | 115=>some OI
 | 116=>some OJ
 | 117=>some OK
 | 118=>some OL
 | 119=>some OM
 | 120=>some ON
 | 123=>some OO
 | 124=>some OP
 | 125=>some OQ
 | 126=>some OS
 | 127=>some OT
 | 128=>some OU
 | 129=>some Ko
 | 130=>some OV
 | 131=>some JJ
 | 132=>some JK
 | 133=>some JL
 | 134=>some JM
 | 135=>some JN
 | 136=>some JO
 | 137=>some JP
 | 138=>some JQ
 | 139=>some JR
 | 140=>some JS
 | 141=>some JT
 | 142=>some JU
 | 143=>some JV
 | 144=>some JW
 | 145=>some JX
 | 146=>some JY
 | 147=>some JZ
 | 148=>some J0
 | 149=>some J1
 | 150=>some J2
 | 151=>some J3
 | 169=>some J4
 | 170=>some J5
 | 171=>some J6
 | 172=>some J7
 | 177=>some J8
 | 178=>some J9
 | 179=>some Ka
 | 180=>some Kb
 | 181=>some Kc
 | 182=>some Kd
 | 183=>some Ke
 | _=>none
def QK:Nat→String→Option T4
 | 149,"Push"=>some ⟨Jd,none⟩
 | 149,"Len"=>some ⟨MP,none⟩
 | 149,"Less"=>some ⟨LK,none⟩
 | 149,"Swap"=>some ⟨Je,none⟩
 | 149,"Pop"=>some ⟨Jc,none⟩
 | 91,"Change"=>some ⟨Qa,none⟩
 | 91,"StopAll"=>some ⟨Qd,none⟩
 | 91,"Send"=>some ⟨Qc,none⟩
 | 91,"Recv"=>some ⟨Qb,none⟩
 | _,_=>none
def tp:TP:=⟨aFM,QK⟩
theorem aQm:tp.fn aQs=some YJ:=rfl
theorem aQn:tp.fn gD=some YK:=rfl
theorem aQo:tp.fn gE=some YL:=rfl
theorem aQp:tp.fn WB=some YM:=rfl
theorem V2:tp.fn Qh=some Md:=rfl
theorem oV:tp.fn SW=some QH:=rfl
theorem oW:tp.fn gF=some QI:=rfl
theorem oX:tp.fn W4=some QJ:=rfl
theorem aQq:tp.fn aEV=some YN:=rfl
theorem aQr:tp.fn aEW=some YO:=rfl
theorem aDF:tp.fn Wl=some NB:=rfl
theorem aDG:tp.fn KU=some NC:=rfl
theorem aDH:tp.fn Rd=some ND:=rfl
theorem aDI:tp.fn Re=some NE:=rfl
theorem aDJ:tp.fn Rf=some NF:=rfl
theorem aDK:tp.fn Wm=some NG:=rfl
theorem aDL:tp.fn Wn=some Kf:=rfl
theorem aDM:tp.fn Wp=some NH:=rfl
theorem aDN:tp.fn Wq=some NI:=rfl
theorem aDO:tp.fn Ws=some NJ:=rfl
theorem aDP:tp.fn Wt=some NK:=rfl
theorem aDQ:tp.fn Rg=some NL:=rfl
theorem aDR:tp.fn Wu=some NM:=rfl
theorem aDS:tp.fn Ww=some NN:=rfl
theorem aDT:tp.fn Wx=some NO:=rfl
theorem EY:tp.fn Rh=some Ck:=rfl
theorem aDU:tp.fn Ri=some NP:=rfl
theorem aDV:tp.fn Wy=some NQ:=rfl
theorem aDW:tp.fn Wz=some NR:=rfl
theorem aDX:tp.fn WA=some NS:=rfl
theorem aDY:tp.fn WD=some NT:=rfl
theorem aDZ:tp.fn Rj=some NU:=rfl
theorem V0:tp.fn MO=some Kg:=rfl
theorem aD0:tp.fn WE=some NV:=rfl
theorem aD1:tp.fn WF=some NW:=rfl
theorem aD2:tp.fn WG=some NX:=rfl
theorem aD3:tp.fn WH=some NY:=rfl
theorem aD4:tp.fn WI=some NZ:=rfl
theorem aD5:tp.fn WJ=some N0:=rfl
theorem V1:tp.fn Rk=some Kh:=rfl
theorem V3:tp.fn Rl=some Ki:=rfl
theorem aD6:tp.fn WK=some N1:=rfl
theorem aD7:tp.fn WL=some N2:=rfl
theorem V4:tp.fn Rm=some Kj:=rfl
theorem V5:tp.fn Rn=some Kk:=rfl
theorem aD8:tp.fn Ro=some N7:=rfl
theorem aD9:tp.fn Rp=some N8:=rfl
theorem aEa:tp.fn MP=some N9:=rfl
theorem aEb:tp.fn Rq=some Oa:=rfl
theorem aEc:tp.fn WM=some Ob:=rfl
theorem V6:tp.fn WN=some Kl:=rfl
theorem EZ:tp.fn Rr=some Cl:=rfl
theorem PH:tp.fn Rt=some G7:=rfl
theorem aEd:tp.fn WO=some Oc:=rfl
theorem aEe:tp.fn Ru=some Od:=rfl
theorem aEf:tp.fn Rv=some Oe:=rfl
theorem LC:tp.fn Rx=some FF:=rfl
theorem aEg:tp.fn Ry=some Og:=rfl
theorem aEh:tp.fn WP=some Oh:=rfl
theorem aEi:tp.fn WR=some Oi:=rfl
theorem aEj:tp.fn WT=some Oj:=rfl
theorem aEk:tp.fn WU=some Ol:=rfl
theorem aEl:tp.fn WV=some Om:=rfl
theorem aEm:tp.fn WW=some Oo:=rfl
theorem aEn:tp.fn WX=some Oq:=rfl
theorem aEo:tp.fn WY=some Ot:=rfl
theorem aEp:tp.fn WZ=some Ou:=rfl
theorem aEq:tp.fn W0=some Ov:=rfl
theorem aEr:tp.fn W2=some Ow:=rfl
theorem aEs:tp.fn W3=some Ox:=rfl
theorem aEt:tp.fn W5=some Oy:=rfl
theorem aEu:tp.fn W6=some Oz:=rfl
theorem V7:tp.fn Rz=some Km:=rfl
theorem PI:tp.fn RA=some G8:=rfl
theorem aEv:tp.fn W7=some OA:=rfl
theorem LD:tp.fn W8=some FG:=rfl
theorem Gi:tp.fn W9=some Dy:=rfl
theorem PJ:tp.fn Xa=some G9:=rfl
theorem aEw:tp.fn Xb=some OB:=rfl
theorem aEx:tp.fn Xc=some OC:=rfl
theorem PK:tp.fn Jf=some Ha:=rfl
theorem aEy:tp.fn Xd=some OD:=rfl
theorem aEz:tp.fn Xe=some OE:=rfl
theorem aEA:tp.fn Xf=some OF:=rfl
theorem aEB:tp.fn Xg=some OG:=rfl
theorem aEC:tp.fn Xh=some OH:=rfl
theorem aED:tp.fn Xi=some OI:=rfl
theorem aEE:tp.fn KW=some OJ:=rfl
theorem aEF:tp.fn Xj=some OK:=rfl
theorem aEG:tp.fn Xk=some OL:=rfl
theorem aEH:tp.fn Xl=some OM:=rfl
theorem aEI:tp.fn Xm=some ON:=rfl
theorem aEJ:tp.fn RC=some OO:=rfl
theorem aEK:tp.fn MQ=some OP:=rfl
theorem aEL:tp.fn MR=some OQ:=rfl
theorem aEM:tp.fn Xn=some OS:=rfl
theorem aEN:tp.fn Xo=some OT:=rfl
theorem aEO:tp.fn Xp=some OU:=rfl
theorem V8:tp.fn Jg=some Ko:=rfl
theorem aEP:tp.fn Xq=some OV:=rfl
theorem eR:tp.fn PM=some JJ:=rfl
theorem eS:tp.fn PP=some JK:=rfl
theorem eT:tp.fn PQ=some JL:=rfl
theorem eU:tp.fn PT=some JM:=rfl
theorem eV:tp.fn PU=some JN:=rfl
theorem eW:tp.fn PV=some JO:=rfl
theorem eY:tp.fn PX=some JP:=rfl
theorem eZ:tp.fn LI=some JQ:=rfl
theorem fA:tp.fn PY=some JR:=rfl
theorem fB:tp.fn LJ=some JS:=rfl
theorem fC:tp.fn PZ=some JT:=rfl
theorem fD:tp.fn P1=some JU:=rfl
theorem fE:tp.fn P2=some JV:=rfl
theorem fF:tp.fn P3=some JW:=rfl
theorem fG:tp.fn P4=some JX:=rfl
theorem fH:tp.fn P5=some JY:=rfl
theorem fI:tp.fn P6=some JZ:=rfl
theorem fJ:tp.fn Jb=some J0:=rfl
theorem fK:tp.fn P7=some J1:=rfl
theorem fL:tp.fn P8=some J2:=rfl
theorem fM:tp.fn P9=some J3:=rfl
theorem fN:tp.fn Qa=some J4:=rfl
theorem fO:tp.fn Qb=some J5:=rfl
theorem fP:tp.fn Qc=some J6:=rfl
theorem fQ:tp.fn Qd=some J7:=rfl
theorem fR:tp.fn LK=some J8:=rfl
theorem fS:tp.fn Jc=some J9:=rfl
theorem fT:tp.fn Jd=some Ka:=rfl
theorem fU:tp.fn Je=some Kb:=rfl
theorem fV:tp.fn Qe=some Kc:=rfl
theorem fW:tp.fn Qf=some Kd:=rfl
theorem fX:tp.fn Qg=some Ke:=rfl
@[go_sem] theorem ZG:tp.meth 149 "Push"=some ⟨Jd,none⟩:=by kernel_rfl
@[go_sem] theorem gV:tp.meth 149 "Len"=some ⟨MP,none⟩:=by kernel_rfl
@[go_sem] theorem ZF:tp.meth 149 "Less"=some ⟨LK,none⟩:=by kernel_rfl
@[go_sem] theorem ZH:tp.meth 149 "Swap"=some ⟨Je,none⟩:=by kernel_rfl
@[go_sem] theorem gW:tp.meth 149 "Pop"=some ⟨Jc,none⟩:=by kernel_rfl
@[go_sem] theorem Jp:tp.meth 91 "Change"=some ⟨Qa,none⟩:=by kernel_rfl
@[go_sem] theorem Id:tp.meth 91 "StopAll"=some ⟨Qd,none⟩:=by kernel_rfl
@[go_sem] theorem LR:tp.meth 91 "Send"=some ⟨Qc,none⟩:=by kernel_rfl
@[go_sem] theorem LQ:tp.meth 91 "Recv"=some ⟨Qb,none⟩:=by kernel_rfl
end Go.Ab.T
