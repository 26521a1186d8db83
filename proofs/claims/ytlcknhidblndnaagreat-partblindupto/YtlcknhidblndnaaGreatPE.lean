/- Part of a proof that a law returns true for every input of the second form's bound (no other condition). -/
import Derived.Test.YtlcknhidblndnaaGreatPD
set_option linter.all false
/- The abstract machine's text of the functions, its regions as numbers. Written by a tool. -/
namespace Go.Ab.T
open Go Go.Ab
set_option maxRecDepth 100000
abbrev aQt:Nat:=3
abbrev gE:Nat:=10
abbrev gF:Nat:=11
abbrev gG:Nat:=12
abbrev Qi:Nat:=13
abbrev SY:Nat:=14
abbrev gH:Nat:=15
abbrev W3:Nat:=16
abbrev aEV:Nat:=17
abbrev aEW:Nat:=18
abbrev Wl:Nat:=22
abbrev KQ:Nat:=23
abbrev Rf:Nat:=24
abbrev Rg:Nat:=25
abbrev Rh:Nat:=26
abbrev Wm:Nat:=27
abbrev Wn:Nat:=28
abbrev Wp:Nat:=29
abbrev Wq:Nat:=30
abbrev Ws:Nat:=31
abbrev Wt:Nat:=32
abbrev Ri:Nat:=33
abbrev Wu:Nat:=34
abbrev Ww:Nat:=35
abbrev Wx:Nat:=36
abbrev Rj:Nat:=37
abbrev Rk:Nat:=38
abbrev Wy:Nat:=39
abbrev Wz:Nat:=40
abbrev WA:Nat:=41
abbrev WB:Nat:=42
abbrev Rl:Nat:=43
abbrev MO:Nat:=51
abbrev WD:Nat:=52
abbrev WE:Nat:=53
abbrev WF:Nat:=54
abbrev WG:Nat:=55
abbrev WH:Nat:=56
abbrev WI:Nat:=57
abbrev Rm:Nat:=58
abbrev Rn:Nat:=59
abbrev WJ:Nat:=60
abbrev WK:Nat:=61
abbrev Ro:Nat:=62
abbrev Rp:Nat:=63
abbrev Rq:Nat:=64
abbrev Rr:Nat:=65
abbrev MP:Nat:=66
abbrev Rt:Nat:=67
abbrev WL:Nat:=68
abbrev WM:Nat:=69
abbrev Ru:Nat:=70
abbrev Rv:Nat:=71
abbrev WN:Nat:=72
abbrev Rx:Nat:=73
abbrev Ry:Nat:=74
abbrev Rz:Nat:=75
abbrev RA:Nat:=76
abbrev WO:Nat:=77
abbrev WP:Nat:=78
abbrev WR:Nat:=86
abbrev WT:Nat:=87
abbrev WU:Nat:=88
abbrev WV:Nat:=89
abbrev WW:Nat:=90
abbrev WX:Nat:=91
abbrev WY:Nat:=92
abbrev WZ:Nat:=93
abbrev W0:Nat:=94
abbrev W2:Nat:=95
abbrev W4:Nat:=96
abbrev W5:Nat:=97
abbrev RC:Nat:=98
abbrev RD:Nat:=99
abbrev W6:Nat:=100
abbrev W7:Nat:=101
abbrev W8:Nat:=102
abbrev W9:Nat:=103
abbrev Xa:Nat:=107
abbrev Xb:Nat:=108
abbrev Jb:Nat:=109
abbrev Xc:Nat:=110
abbrev Xd:Nat:=111
abbrev Xe:Nat:=112
abbrev Xf:Nat:=113
abbrev Xg:Nat:=114
abbrev Xh:Nat:=115
abbrev KR:Nat:=116
abbrev Xi:Nat:=117
abbrev Xj:Nat:=118
abbrev Xk:Nat:=119
abbrev Xl:Nat:=120
abbrev RE:Nat:=123
abbrev MQ:Nat:=124
abbrev MR:Nat:=125
abbrev Xm:Nat:=126
abbrev Xn:Nat:=127
abbrev Xo:Nat:=128
abbrev Jc:Nat:=129
abbrev Xp:Nat:=130
abbrev PM:Nat:=131
abbrev PP:Nat:=132
abbrev PQ:Nat:=133
abbrev PT:Nat:=134
abbrev PU:Nat:=135
abbrev PV:Nat:=136
abbrev PX:Nat:=137
abbrev LJ:Nat:=138
abbrev PY:Nat:=139
abbrev LK:Nat:=140
abbrev PZ:Nat:=141
abbrev P1:Nat:=142
abbrev P3:Nat:=143
abbrev P4:Nat:=144
abbrev P5:Nat:=145
abbrev P6:Nat:=146
abbrev P7:Nat:=147
abbrev I7:Nat:=148
abbrev P8:Nat:=149
abbrev P9:Nat:=150
abbrev Qa:Nat:=151
abbrev Qb:Nat:=169
abbrev Qc:Nat:=170
abbrev Qd:Nat:=171
abbrev Qe:Nat:=172
abbrev LL:Nat:=177
abbrev I8:Nat:=178
abbrev I9:Nat:=179
abbrev Ja:Nat:=180
abbrev Qf:Nat:=181
abbrev Qg:Nat:=182
abbrev Qh:Nat:=183
def wrs:List Nat:=[KQ,MO,Rf,Rg,gE,Rh,gF,I7,LK,Jc,LJ,Ri,SY,Rk,Rj,Ru,Rv,Rz,Rx,Ry,Rq,RA,Rr,Rt,RC,RD,Ja,I9,I8]
def pF {α:Type} (z:α):List α→Nat→α
 | [],_=>z
 | x::_,0=>x
 | _::l,n+1=>pF z l n
def Ca:Nat→Int:=pF 0 [0,1,2,3,4,5,6,7,8,9,10,11,12,13,14,15,16,17,18,19,20,21,22,23,24,25,26,27,28,29,30,31]
def aSC:List ((Nat→Nat)→O):=[fun p=>.mv (.t (p 0)),
fun p=>.fad (p 0) (.t (p 1)),
fun p=>.load 1 false (.t (p 0)),
fun p=>.mv (.c (.i .i64 (Ca (p 0)))),
fun p=>.nck (.t (p 0)),
fun p=>.len (.t (p 0)),
fun p=>.bin .eql (.t (p 0)) (.c (.i .i64 (Ca (p 1)))),
fun p=>.bin .add (.t (p 0)) (.c (.i .i64 (Ca (p 1)))),
fun p=>.pick (.t (p 0)) (.t (p 1)) (.c (.b false)),
fun p=>.mv (.c (.b false)),
fun p=>.bin .lss (.t (p 0)) (.t (p 1)),
fun p=>.pick (.t (p 0)) (.c (.b true)) (.t (p 1)),
fun p=>.store 1 (.t (p 0)) (.t (p 1)),
fun p=>.mv (.c .ns),
fun p=>.bin .lss (.t (p 0)) (.c (.i .i64 (Ca (p 1)))),
fun p=>.box (.t (p 0)),
fun p=>.bin .sub (.t (p 0)) (.c (.i .i64 (Ca (p 1)))),
fun p=>.call (.fn KQ) [(.t (p 0)),(.c (.i .i64 (Ca (p 1))))],
fun p=>.iad 1 (.t (p 0)) (.t (p 1)),
fun p=>.bin .gtr (.t (p 0)) (.c (.i .i64 (Ca (p 1)))),
fun p=>.un .not (.t (p 0)),
fun p=>.iad 3 (.t (p 0)) (.t (p 1)),
fun p=>.load 3 true (.t (p 0)),
fun p=>.ext (.t (p 0)) 0]
def aSD:List ((Nat→Nat)→O):=[fun p=>.ext (.t (p 0)) 1,
fun p=>.bin .add (.t (p 0)) (.t (p 1)),
fun p=>.iad 2 (.t (p 0)) (.t (p 1)),
fun p=>.store 2 (.t (p 0)) (.t (p 1)),
fun p=>.load 2 true (.t (p 0)),
fun p=>.bin .geq (.t (p 0)) (.c (.i .i64 (Ca (p 1)))),
fun p=>.store 6 (.t (p 0)) (.t (p 1)),
fun p=>.iada 1 8 (.t (p 0)) (.t (p 1)),
fun p=>.mv (.c (.b true)),
fun p=>.alloc [(.i .i64 0),(.i .i64 0)],
fun p=>.load 6 true (.t (p 0)),
fun p=>.bin .geq (.t (p 0)) (.t (p 1)),
fun p=>.bin .neq (.t (p 0)) (.c (.i .i64 (Ca (p 1)))),
fun p=>.mv (.c (.i .i64 (-1))),
fun p=>.mv (.c (.i .u32 0)),
fun p=>.app 1 (.t (p 0)) (.t (p 1)),
fun p=>.bin .eql (.t (p 0)) (.t (p 1)),
fun p=>.iad 11 (.t (p 0)) (.t (p 1)),
fun p=>.iad 6 (.t (p 0)) (.t (p 1)),
fun p=>.bin .neq (.t (p 0)) (.t (p 1)),
fun p=>.load 11 true (.t (p 0)),
fun p=>.alloc [(.i .i64 0),(.i .i64 0),(.i .i64 0),(.i .i64 0),(.i .i64 0),(.i .u32 0)],
fun p=>.chk 1 false (.t (p 0)) (.t (p 1)),
fun p=>.bsl 2 [(.i .i64 0),(.i .i64 0)] 1 [(0,(.t (p 0)))]]
def aSE:List ((Nat→Nat)→O):=[fun p=>.app 2 (.t (p 0)) (.t (p 1)),
fun p=>.bin .sub (.t (p 0)) (.t (p 1)),
fun p=>.iad 9 (.t (p 0)) (.t (p 1)),
fun p=>.bin .add (.c (.i .i64 (Ca (p 0)))) (.t (p 1)),
fun p=>.store 1 (.t (p 0)) (.c (.i .i64 (Ca (p 1)))),
fun p=>.load 4 true (.t (p 0)),
fun p=>.bin .gtr (.t (p 0)) (.t (p 1)),
fun p=>.alloc [.ns,.ns,.ns],
fun p=>.store 3 (.t (p 0)) (.t (p 1)),
fun p=>.e0,
fun p=>.call (.fn SY) [(.t (p 0)),(.c .ni)],
fun p=>.fload 1 false (.t (p 0)),
fun p=>.bin .rem (.t (p 0)) (.t (p 1)),
fun p=>.mv (.c .np),
fun p=>.mx [(.t (p 0)),(.t (p 1))],
fun p=>.conv .i64 (.t (p 0)),
fun p=>.alloc [(.s ⟨#[]⟩),(.i .i64 0),(.i .i64 0),(.b false),(.b false),.ns,(.i .i64 0),(.i .i64 0),(.i .i64 0),(.i .i64 0),(.i .i64 0)],
fun p=>.store 11 (.t (p 0)) (.t (p 1)),
fun p=>.bsl 1 [.ns] 1 [(0,(.t (p 0)))],
fun p=>.bsl 3 [(.i .i64 0),(.i .i64 0),(.i .i64 0)] 1 [(0,(.t (p 0)))],
fun p=>.eq false .sl (.t (p 0)) (.c .ns),
fun p=>.app 3 (.t (p 0)) (.t (p 1)),
fun p=>.iada 1 8 (.t (p 0)) (.c (.i .i64 (Ca (p 1)))),
fun p=>.slen (.t (p 0))]
def aSF:List ((Nat→Nat)→O):=[fun p=>.sidx (.t (p 0)) (.t (p 1)),
fun p=>.call (.fn gH) [(.t (p 0))],
fun p=>.build [(.i .i64 0),(.i .i64 0)] [(0,1,(.t (p 0))),(1,1,(.t (p 1)))],
fun p=>.call (.fn KQ) [(.t (p 0)),(.t (p 1))],
fun p=>.bin .leq (.t (p 0)) (.c (.i .i64 (Ca (p 1)))),
fun p=>.alloc [(.i .i64 0),(.i .i64 0),(.b false),(.i .i64 0),(.i .u32 0),(.i .i64 0)],
fun p=>.bin .leq (.t (p 0)) (.c (.i .i64 4096)),
fun p=>.mn [(.c (.i .i64 4097)),(.t (p 0))],
fun p=>.conv .u32 (.t (p 0)),
fun p=>.bin .leq (.t (p 0)) (.t (p 1)),
fun p=>.load 5 true (.t (p 0)),
fun p=>.mn [(.t (p 0)),(.t (p 1))],
fun p=>.conv .u8 (.t (p 0)),
fun p=>.call (.fn W6) [(.t (p 0)),(.t (p 1))],
fun p=>.mn [(.t (p 0)),(.c (.i .i64 4097))],
fun p=>.alloc [.ns,.ns],
fun p=>.eq false .ptr (.t (p 0)) (.c .np),
fun p=>.call (.fn W3) [(.t (p 0)),(.t (p 1))],
fun p=>.bin .mul (.c (.i .i64 (Ca (p 0)))) (.t (p 1)),
fun p=>.bsl 11 [(.s ⟨#[]⟩),(.i .i64 0),(.i .i64 0),(.b false),(.b false),.ns,(.i .i64 0),(.i .i64 0),(.i .i64 0),(.i .i64 0),(.i .i64 0)] 1 [(0,(.t (p 0)))],
fun p=>.chkb 1 [(.i .u32 0)] 3 [(0,(.c (.i .u32 4294967295))),(1,(.c (.i .u32 200))),(2,(.c (.i .u32 3)))] (.t (p 0)),
fun p=>.chka [(.i .i64 0),(.i .i64 0),(.b false),(.i .i64 0),(.i .u32 0),(.i .i64 0)] (.t (p 0)),
fun p=>.app 6 (.t (p 0)) (.t (p 1)),
fun p=>.store 4 (.t (p 0)) (.t (p 1))]
def aSG:List ((Nat→Nat)→O):=[fun p=>.eq true .ptr (.t (p 0)) (.c .np),
fun p=>.call (.fn Rl) [(.t (p 0))],
fun p=>.build [(.i .i64 0),(.i .i64 0),(.i .i64 0)] [(0,1,(.c (.i .i64 (Ca (p 0))))),(2,1,(.c (.i .i64 (Ca (p 1)))))],
fun p=>.eq false (.agg [.i,.i,.i,.i,.i,.i]) (.t (p 0)) (.t (p 1)),
fun p=>.call (.fn WD) [(.t (p 0))],
fun p=>.mx [(.t (p 0)),(.c (.i .i64 (Ca (p 1))))],
fun p=>.call (.fn WM) [(.t (p 0)),(.t (p 1))],
fun p=>.call (.fn WN) [(.t (p 0))],
fun p=>.build [(.i .i64 0),(.i .i64 0),(.i .i64 0)] [(0,1,(.c (.i .i64 (Ca (p 0))))),(2,1,(.t (p 1)))],
fun p=>.bin .mul (.t (p 0)) (.t (p 1)),
fun p=>.iada 1 16 (.t (p 0)) (.t (p 1)),
fun p=>.call (.fn Xa) [(.t (p 0))],
fun p=>.bsl 1 [(.i .i64 0)] 1 [(0,(.t (p 0)))],
fun p=>.inv (.t (p 0)) "Less" [(.t (p 1)),(.t (p 2))],
fun p=>.call (.fn Xm) [(.t (p 0)),(.t (p 1))],
fun p=>.call (.fn PV) [(.t (p 0))],
fun p=>.call (.fn PZ) [(.t (p 0)),(.t (p 1))],
fun p=>.call (.fn P3) [(.t (p 0)),(.t (p 1))],
fun p=>.mx [(.c (.i .i64 (Ca (p 0)))),(.t (p 1))],
fun p=>.call (.fn Qi) [(.t (p 0)),(.t (p 1)),(.t (p 2)),(.t (p 3))],
fun p=>.iada 1 5 (.t (p 0)) (.t (p 1)),
fun p=>.app 11 (.t (p 0)) (.t (p 1)),
fun p=>.slice 1 (.t (p 0)) none (some (.t (p 1))) none,
fun p=>.call (.fn Ri) [(.t (p 0))]]
def aSH:List ((Nat→Nat)→O):=[fun p=>.alloc [(.i .i64 0),(.i .i64 0),(.i .i64 0),(.i .i64 0)],
fun p=>.load 16 true (.t (p 0)),
fun p=>.build [(.i .i64 0),(.i .i64 0)] [],
fun p=>.call (.fn Qi) [(.t (p 0)),(.c (.i .i64 (Ca (p 1)))),(.c .ns),(.c .ns)],
fun p=>.store 8 (.t (p 0)) (.t (p 1)),
fun p=>.call (.fn WE) [(.t (p 0))],
fun p=>.call (.fn WF) [(.t (p 0)),(.t (p 1)),(.t (p 2))],
fun p=>.bin .quo (.t (p 0)) (.t (p 1)),
fun p=>.call (.fn WG) [(.t (p 0)),(.t (p 1)),(.t (p 2))],
fun p=>.call (.fn Rp) [(.t (p 0))],
fun p=>.store 1 (.t (p 0)) (.c .ns),
fun p=>.mkif 149 (.t (p 0)),
fun p=>.mkif 3 (.t (p 0)),
fun p=>.tas 3 false (.i .i64 0) (.t (p 0)),
fun p=>.bin .eql (.t (p 0)) (.c (.i .u32 0)),
fun p=>.load 9 true (.t (p 0)),
fun p=>.call (.fn MO) [(.t (p 0)),(.t (p 1)),(.t (p 2))],
fun p=>.bin .gtr (.t (p 0)) (.c (.i .i64 96)),
fun p=>.call (.fn WV) [(.t (p 0)),(.t (p 1))],
fun p=>.call (.fn WW) [(.t (p 0))],
fun p=>.slice 2 (.t (p 0)) none (some (.t (p 1))) (some (.t (p 2))),
fun p=>.inv (.t (p 0)) "Len" [],
fun p=>.mv (.c .ni),
fun p=>.conv .u64 (.t (p 0))]
def aSI:List ((Nat→Nat)→O):=[fun p=>.bin .gtr (.t (p 0)) (.c (.i .i64 128)),
fun p=>.bin .sub (.c (.i .i64 9223372036854775807)) (.t (p 0)),
fun p=>.mv (.c (.i .i64 9223372036854775807)),
fun p=>.idx 1 5 false (.t (p 0)) (.t (p 1)),
fun p=>.call (.fn KR) [(.t (p 0)),(.t (p 1))],
fun p=>.inv (.t (p 0)) "Swap" [(.t (p 1)),(.t (p 2))],
fun p=>.bin .gtr (.t (p 0)) (.c (.i .i64 4096)),
fun p=>.call (.fn Jb) [(.t (p 0)),(.t (p 1)),(.t (p 2))],
fun p=>.call (.t (p 0)) [(.t (p 1))],
fun p=>.call (.fn Xn) [(.t (p 0))],
fun p=>.call (.fn RE) [(.t (p 0)),(.t (p 1))],
fun p=>.call (.fn P4) [(.t (p 0))],
fun p=>.bsl 1 [(.i .i64 0)] 2 [(0,(.t (p 0))),(1,(.t (p 1)))],
fun p=>.bin .leq (.t (p 0)) (.c (.i .i64 128)),
fun p=>.call (.fn P6) [(.t (p 0))],
fun p=>.bsl 6 [(.i .i64 0),(.i .i64 0),(.i .i64 0),(.i .i64 0),(.i .i64 0),(.i .i64 0)] 1 [(0,(.t (p 0)))],
fun p=>.call (.fn P8) [(.t (p 0))],
fun p=>.iad 6 (.t (p 0)) (.c (.i .i64 (Ca (p 1)))),
fun p=>.mv (.c (.i .u32 4)),
fun p=>.call (.fn Qg) [(.t (p 0)),(.t (p 1))],
fun p=>.call (.fn Qh) [(.t (p 0))],
fun p=>.build [.ns,(.i .i64 0)] [(0,1,(.t (p 0)))],
fun p=>.call (.fn gE) [(.t (p 0))],
fun p=>.call (.fn gF) [(.t (p 0)),(.t (p 1))]]
def aSJ:List ((Nat→Nat)→O):=[fun p=>.call (.fn gG) [(.t (p 0)),(.c (.i .i64 (Ca (p 1)))),(.t (p 2))],
fun p=>.bin .and (.t (p 0)) (.c (.i .i64 (Ca (p 1)))),
fun p=>.bsl 1 [(.i .u32 0)] 3 [(0,(.c (.i .u32 0))),(1,(.c (.i .u32 0))),(2,(.c (.i .u32 0)))],
fun p=>.bin .lss (.t (p 0)) (.c (.i .i64 60)),
fun p=>.eq true (.agg [.i,.i,.i,.i,.i,.i]) (.t (p 0)) (.t (p 1)),
fun p=>.eq true .b (.t (p 0)) (.t (p 1)),
fun p=>.call (.fn aEV) [],
fun p=>.bin .add (.c (.i .i64 97)) (.t (p 0)),
fun p=>.conv .i32 (.t (p 0)),
fun p=>.i2s (.t (p 0)),
fun p=>.bin .add (.c (.s ⟨#[112]⟩)) (.t (p 0)),
fun p=>.build [(.s ⟨#[]⟩),(.i .i64 0),(.i .i64 0),(.b false),(.b false),.ns,(.i .i64 0),(.i .i64 0),(.i .i64 0),(.i .i64 0),(.i .i64 0)] [(0,1,(.t (p 0))),(3,1,(.t (p 1))),(4,1,(.t (p 2)))],
fun p=>.bsl 1 [(.i .i64 0)] 5 [(0,(.c (.i .i64 (Ca (p 0))))),(1,(.c (.i .i64 (Ca (p 1))))),(2,(.c (.i .i64 (Ca (p 2))))),(3,(.c (.i .i64 (Ca (p 3))))),(4,(.c (.i .i64 (Ca (p 4)))))],
fun p=>.bslc 1 [(.i .u32 0)] 3 [(0,(.c (.i .u32 4294967295))),(1,(.c (.i .u32 200))),(2,(.c (.i .u32 3)))],
fun p=>.alc [(.i .i64 0),(.i .i64 0),(.b false),(.i .i64 0),(.i .u32 0),(.i .i64 0)],
fun p=>.build [(.i .i64 0),(.i .i64 0),(.b false),(.i .i64 0),(.i .u32 0),(.i .i64 0)] [(0,1,(.t (p 0))),(1,1,(.t (p 1))),(2,1,(.t (p 2))),(4,1,(.t (p 3)))],
fun p=>.bsl 6 [(.i .i64 0),(.i .i64 0),(.b false),(.i .i64 0),(.i .u32 0),(.i .i64 0)] 1 [(0,(.t (p 0)))],
fun p=>.call (.fn Rf) [(.t (p 0)),(.t (p 1))],
fun p=>.call (.fn Rg) [(.t (p 0)),(.t (p 1))],
fun p=>.call (.fn Rh) [(.t (p 0)),(.t (p 1)),(.t (p 2))],
fun p=>.call (.fn KQ) [(.t (p 0)),(.c (.i .i64 300))],
fun p=>.bsl 1 [(.i .u32 0)] 1 [(0,(.t (p 0)))],
fun p=>.call (.fn Wm) [(.t (p 0))],
fun p=>.call (.fn Wn) [(.t (p 0))]]
def aSK:List ((Nat→Nat)→O):=[fun p=>.mn [(.t (p 0)),(.c (.i .i64 512))],
fun p=>.call (.fn Wp) [(.t (p 0))],
fun p=>.call (.fn Wq) [(.t (p 0))],
fun p=>.call (.fn Ws) [(.t (p 0))],
fun p=>.build [.ns,.ns,.ns,(.i .i64 0),.ns,.ns,.np,.ns,(.i .u32 0),(.i .u32 0),(.i .u32 0),(.i .u32 0),(.i .u32 0),(.i .u32 0),(.i .u32 0),(.i .u32 0),(.i .u32 0),(.i .u32 0),(.i .u32 0),(.i .u32 0),(.i .u32 0),(.i .u32 0),(.i .u32 0),(.i .u32 0),.np,(.i .i64 0)] [(0,3,(.t (p 0))),(3,1,(.t (p 1))),(4,1,(.t (p 2))),(5,1,(.t (p 3))),(24,1,(.t (p 4)))],
fun p=>.call (.fn Wt) [(.t (p 0))],
fun p=>.build [(.i .i64 0),(.i .i64 0),(.i .i64 0),(.i .i64 0),(.i .i64 0),(.i .u32 0)] [],
fun p=>.eq false .ifc (.t (p 0)) (.c .ni),
fun p=>.build [] [],
fun p=>.mkif 91 (.t (p 0)),
fun p=>.call (.fn Wu) [(.t (p 0)),(.t (p 1))],
fun p=>.build [(.i .i64 0),(.i .i64 0),(.i .i64 0),(.i .i64 0),(.i .i64 0),(.i .u32 0)] [(0,1,(.t (p 0))),(1,1,(.c (.i .i64 (-1))))],
fun p=>.build [(.i .i64 0),(.i .i64 0),(.i .i64 0),(.i .i64 0),(.i .i64 0),(.i .u32 0)] [(0,1,(.t (p 0))),(1,1,(.t (p 1))),(2,1,(.t (p 2)))],
fun p=>.call (.fn Ww) [(.t (p 0)),(.t (p 1))],
fun p=>.call (.fn Wx) [(.t (p 0))],
fun p=>.call (.fn Rj) [(.t (p 0)),(.t (p 1)),(.t (p 2)),(.t (p 3)),(.t (p 4))],
fun p=>.store 1 (.t (p 0)) (.c (.i .u32 0)),
fun p=>.call (.fn Rk) [(.t (p 0)),(.t (p 1)),(.t (p 2))],
fun p=>.call (.fn Wy) [(.t (p 0))],
fun p=>.eq false (.agg [.i,.i,.i,.i,.i,.i,.i,.i,.i,.i,.i,.i,.i,.i,.i,.i]) (.t (p 0)) (.t (p 1)),
fun p=>.call (.fn Wz) [(.t (p 0)),(.t (p 1))],
fun p=>.call (.fn WA) [(.t (p 0)),(.t (p 1))],
fun p=>.eq false .b (.t (p 0)) (.t (p 1)),
fun p=>.call (.fn WB) [(.t (p 0)),(.t (p 1))]]
def aSL:List ((Nat→Nat)→O):=[fun p=>.build [(.i .i64 0),(.i .i64 0),(.i .i64 0),(.i .i64 0),(.i .i64 0)] [(0,1,(.c (.i .i64 (Ca (p 0))))),(1,1,(.c (.i .i64 (Ca (p 1))))),(2,1,(.c (.i .i64 (Ca (p 2))))),(3,1,(.c (.i .i64 (Ca (p 3))))),(4,1,(.c (.i .i64 (Ca (p 4)))))],
fun p=>.build [(.s ⟨#[]⟩),(.i .i64 0),(.i .i64 0),(.b false),(.b false),.ns,(.i .i64 0),(.i .i64 0),(.i .i64 0),(.i .i64 0),(.i .i64 0)] [(0,1,(.c (.s ⟨#[97]⟩))),(5,1,(.t (p 0))),(6,5,(.t (p 1)))],
fun p=>.build [.ns,.ns,.ns] [(0,1,(.t (p 0))),(2,1,(.t (p 1)))],
fun p=>.bsl 1 [(.i .u8 0)] 12 [(0,(.c (.i .u8 1))),(1,(.c (.i .u8 1))),(2,(.c (.i .u8 0))),(3,(.c (.i .u8 7))),(4,(.c (.i .u8 5))),(5,(.c (.i .u8 2))),(6,(.c (.i .u8 1))),(7,(.c (.i .u8 3))),(8,(.c (.i .u8 11))),(9,(.c (.i .u8 0))),(10,(.c (.i .u8 1))),(11,(.c (.i .u8 0)))],
fun p=>.call (.fn Qi) [(.t (p 0)),(.c (.i .i64 (Ca (p 1)))),(.t (p 2)),(.c .ns)],
fun p=>.build [.ns,.ns,.ns] [],
fun p=>.build [(.i .i64 0),(.i .i64 0),(.i .i64 0),(.i .i64 0),(.i .i64 0),(.i .u32 0)] [(3,1,(.c (.i .i64 (Ca (p 0))))),(5,1,(.c (.i .u32 7)))],
fun p=>.build [(.i .i64 0),(.i .i64 0),(.i .i64 0),(.i .i64 0),(.i .i64 0),(.i .u32 0)] [(0,1,(.c (.i .i64 (Ca (p 0))))),(2,1,(.c (.i .i64 (Ca (p 1))))),(3,1,(.c (.i .i64 (Ca (p 2))))),(4,1,(.c (.i .i64 (Ca (p 3)))))],
fun p=>.build [(.i .i64 0),(.i .i64 0),(.i .i64 0),(.i .i64 0),(.i .i64 0),(.i .u32 0)] [(0,1,(.c (.i .i64 (Ca (p 0))))),(2,1,(.c (.i .i64 (Ca (p 1))))),(4,1,(.c (.i .i64 (Ca (p 2)))))],
fun p=>.call (.fn aEW) [(.t (p 0))],
fun p=>.call (.fn Wl) [(.t (p 0)),(.c (.i .i64 (Ca (p 1))))],
fun p=>.idx 1 8 false (.t (p 0)) (.c (.i .i64 (Ca (p 1)))),
fun p=>.bin .eql (.t (p 0)) (.c (.i .u32 7)),
fun p=>.call (.fn W3) [(.t (p 0)),(.c .np)],
fun p=>.alloc [(.i .u32 0),(.i .u32 0),(.i .u32 0),(.i .u32 0),(.i .u32 0),(.i .u32 0),(.i .u32 0),(.i .u32 0)],
fun p=>.build [(.i .u32 0),(.i .u32 0),(.i .u32 0),(.i .u32 0),(.i .u32 0),(.i .u32 0),(.i .u32 0),(.i .u32 0)] [],
fun p=>.load 8 true (.t (p 0)),
fun p=>.call (.fn gG) [(.t (p 0)),(.c (.i .i64 (Ca (p 1)))),(.c (.i .i64 1073741824))],
fun p=>.call (.fn MO) [(.t (p 0)),(.t (p 1)),(.c (.i .i64 (Ca (p 2))))],
fun p=>.bin .gtr (.t (p 0)) (.c (.i .i64 90)),
fun p=>.build [(.i .i64 0),(.i .i64 0),(.i .i64 0)] [(0,1,(.c (.i .i64 (Ca (p 0))))),(1,1,(.t (p 1))),(2,1,(.c (.i .i64 (Ca (p 2)))))],
fun p=>.bsl 3 [(.i .i64 0),(.i .i64 0),(.i .i64 0)] 3 [(0,(.t (p 0))),(1,(.t (p 1))),(2,(.t (p 2)))],
fun p=>.mn [(.t (p 0)),(.c (.i .i64 4096))],
fun p=>.iad 1 (.t (p 0)) (.c (.i .i64 (Ca (p 1))))]
def aQQ:List ((Nat→Nat)→O):=[fun p=>.mv (.c (.i .i64 4096)),
fun p=>.call (.fn WH) [(.t (p 0))],
fun p=>.bslc 1 [(.i .i64 0)] 5 [(0,(.c (.i .i64 (Ca (p 0))))),(1,(.c (.i .i64 (Ca (p 1))))),(2,(.c (.i .i64 (Ca (p 2))))),(3,(.c (.i .i64 (Ca (p 3))))),(4,(.c (.i .i64 200)))],
fun p=>.chkb 1 [(.i .i64 0)] 5 [(0,(.c (.i .i64 (Ca (p 0))))),(1,(.c (.i .i64 (Ca (p 1))))),(2,(.c (.i .i64 (Ca (p 2))))),(3,(.c (.i .i64 (Ca (p 3))))),(4,(.c (.i .i64 200)))] (.t (p 4)),
fun p=>.bsl 1 [(.i .u8 0)] 4 [(0,(.t (p 0))),(1,(.t (p 1))),(2,(.t (p 2))),(3,(.t (p 3)))],
fun p=>.bsl 1 [(.i .u8 0)] 4 [(0,(.c (.i .u8 8))),(1,(.c (.i .u8 0))),(2,(.c (.i .u8 0))),(3,(.c (.i .u8 0)))],
fun p=>.call (.fn WI) [(.t (p 0))],
fun p=>.call (.fn Rn) [(.t (p 0))],
fun p=>.call (.fn Rm) [(.t (p 0))],
fun p=>.call (.fn WK) [(.t (p 0))],
fun p=>.call (.fn WJ) [(.t (p 0))],
fun p=>.call (.fn Ro) [(.t (p 0))],
fun p=>.build [(.i .i64 0),(.i .i64 0),(.i .i64 0),(.i .i64 0),(.i .i64 0),.ns,(.b false)] [(0,5,(.t (p 0)))],
fun p=>.build [.ns] [],
fun p=>.build [(.i .i64 0),(.i .i64 0),(.b false)] [(0,1,(.t (p 0)))],
fun p=>.bsl 3 [(.i .i64 0),(.i .i64 0),(.b false)] 1 [(0,(.t (p 0)))],
fun p=>.call (.fn Rq) [(.t (p 0))],
fun p=>.build [(.i .u32 0),(.i .u32 0),(.i .u32 0),(.i .u32 0),(.i .u32 0),(.i .u32 0),(.i .u32 0),(.i .u32 0),(.i .i64 0)] [(8,1,(.t (p 0)))],
fun p=>.bsl 9 [(.i .u32 0),(.i .u32 0),(.i .u32 0),(.i .u32 0),(.i .u32 0),(.i .u32 0),(.i .u32 0),(.i .u32 0),(.i .i64 0)] 1 [(0,(.t (p 0)))],
fun p=>.app 9 (.t (p 0)) (.t (p 1)),
fun p=>.build [(.i .u32 0),(.i .u32 0),(.i .u32 0),(.i .u32 0),(.i .u32 0),(.i .u32 0),(.i .u32 0),(.i .u32 0),(.i .u32 0),(.i .u32 0),(.i .u32 0),(.i .u32 0),(.i .u32 0),(.i .u32 0),(.i .u32 0),(.i .u32 0)] [],
fun p=>.store 16 (.t (p 0)) (.t (p 1)),
fun p=>.build [.ns,.ns] [(1,1,(.t (p 0)))],
fun p=>.alloc [(.i .i64 0),(.i .i64 0),(.b false)]]
def aQR:List ((Nat→Nat)→O):=[fun p=>.call (.fn Rr) [(.t (p 0)),(.t (p 1))],
fun p=>.call (.fn MP) [(.t (p 0))],
fun p=>.call (.fn Rt) [(.t (p 0))],
fun p=>.bin .rem (.t (p 0)) (.c (.i .i64 (Ca (p 1)))),
fun p=>.build [(.i .i64 0),(.i .i64 0),(.i .i64 0),(.i .i64 0)] [],
fun p=>.build [(.i .i64 0),(.i .i64 0),(.i .i64 0),(.i .i64 0)] [(0,1,(.t (p 0))),(1,1,(.t (p 1))),(2,1,(.t (p 2))),(3,1,(.t (p 3)))],
fun p=>.call (.fn WL) [(.t (p 0))],
fun p=>.ext (.t (p 0)) 2,
fun p=>.call (.fn Ru) [(.t (p 0)),(.t (p 1)),(.t (p 2)),(.t (p 3))],
fun p=>.call (.fn Rv) [(.t (p 0)),(.t (p 1)),(.t (p 2))],
fun p=>.call (.fn Rx) [(.t (p 0)),(.t (p 1)),(.t (p 2))],
fun p=>.call (.fn Ry) [(.t (p 0)),(.t (p 1))],
fun p=>.call (.fn Rz) [(.t (p 0)),(.t (p 1)),(.t (p 2)),(.t (p 3))],
fun p=>.call (.fn RA) [(.t (p 0)),(.t (p 1)),(.t (p 2)),(.t (p 3))],
fun p=>.eq true (.agg [.i,.i,.i,.i,.i,.i,.i,.i,.i]) (.t (p 0)) (.t (p 1)),
fun p=>.call (.fn WO) [(.t (p 0)),(.t (p 1))],
fun p=>.eq true (.agg [.i,.i,.i]) (.t (p 0)) (.t (p 1)),
fun p=>.call (.fn WP) [(.t (p 0))],
fun p=>.build [(.i .i64 0),(.i .i64 0),(.i .i64 0)] [(0,1,(.c (.i .i64 (Ca (p 0))))),(1,1,(.t (p 1))),(2,1,(.t (p 2)))],
fun p=>.call (.fn WR) [(.t (p 0))],
fun p=>.call (.fn WU) [(.t (p 0))],
fun p=>.call (.fn WT) [(.t (p 0))],
fun p=>.slice 1 (.t (p 0)) (some (.t (p 1))) (some (.t (p 2))) none,
fun p=>.call (.fn WX) [(.t (p 0))]]
def aQS:List ((Nat→Nat)→O):=[fun p=>.call (.fn WY) [(.t (p 0))],
fun p=>.slice 11 (.t (p 0)) none (some (.t (p 1))) none,
fun p=>.mkfn (.func W0) [] [(.t (p 0))],
fun p=>.call (.fn WZ) [(.t (p 0)),(.t (p 1))],
fun p=>.call (.fn W2) [(.t (p 0))],
fun p=>.call (.fn W4) [(.t (p 0)),(.t (p 1))],
fun p=>.call (.fn W5) [(.t (p 0)),(.t (p 1))],
fun p=>.slice 6 (.t (p 0)) none (some (.t (p 1))) (some (.t (p 2))),
fun p=>.slice 3 (.t (p 0)) none (some (.t (p 1))) (some (.t (p 2))),
fun p=>.store 1 (.t (p 0)) (.c (.b false)),
fun p=>.inv (.t (p 0)) "Push" [(.t (p 1))],
fun p=>.call (.fn RC) [(.t (p 0)),(.t (p 1))],
fun p=>.inv (.t (p 0)) "Swap" [(.c (.i .i64 (Ca (p 1)))),(.t (p 2))],
fun p=>.call (.fn RD) [(.t (p 0)),(.c (.i .i64 (Ca (p 1)))),(.t (p 2))],
fun p=>.inv (.t (p 0)) "Pop" [],
fun p=>.bin .leq (.t (p 0)) (.c (.i .i64 255)),
fun p=>.bin .geq (.t (p 0)) (.c (.i .u64 16)),
fun p=>.bin .mul (.t (p 0)) (.c (.i .u32 256)),
fun p=>.store 1 (.t (p 0)) (.c (.b true)),
fun p=>.mkfn (.method "Change") [(.t (p 0))] [],
fun p=>.inv (.t (p 0)) "Change" [(.t (p 1))],
fun p=>.inv (.t (p 0)) "StopAll" [],
fun p=>.call (.fn W7) [(.t (p 0)),(.t (p 1)),(.t (p 2))],
fun p=>.inv (.t (p 0)) "Send" [(.t (p 1)),(.t (p 2))]]
def aQT:List ((Nat→Nat)→O):=[fun p=>.inv (.t (p 0)) "Recv" [(.t (p 1))],
fun p=>.bin .neq (.t (p 0)) (.c (.i .u32 2)),
fun p=>.build [(.i .i64 0),(.i .i64 0),(.i .i64 0)] [(0,1,(.t (p 0))),(1,1,(.t (p 1))),(2,1,(.t (p 2)))],
fun p=>.call (.fn W8) [(.t (p 0)),(.t (p 1))],
fun p=>.eq true (.agg [.i,.i,.b]) (.t (p 0)) (.t (p 1)),
fun p=>.call (.fn W9) [(.t (p 0))],
fun p=>.call (.fn Xb) [(.t (p 0))],
fun p=>.call (.fn Jb) [(.t (p 0)),(.c (.i .i64 (Ca (p 1)))),(.c .ns)],
fun p=>.bin .lss (.t (p 0)) (.c (.i .i64 8192)),
fun p=>.call (.fn Xc) [(.t (p 0))],
fun p=>.call (.fn Xd) [(.t (p 0))],
fun p=>.call (.fn Xe) [(.t (p 0)),(.t (p 1))],
fun p=>.call (.fn Xf) [(.t (p 0)),(.t (p 1))],
fun p=>.bin .geq (.t (p 0)) (.c (.i .u8 97)),
fun p=>.bin .leq (.t (p 0)) (.c (.i .u8 122)),
fun p=>.bin .lss (.t (p 0)) (.c (.i .u8 48)),
fun p=>.bin .gtr (.t (p 0)) (.c (.i .u8 57)),
fun p=>.bin .neq (.t (p 0)) (.c (.i .u8 95)),
fun p=>.call (.fn Xg) [(.t (p 0)),(.t (p 1))],
fun p=>.call (.fn Xh) [(.t (p 0))],
fun p=>.call (.fn KR) [(.t (p 0)),(.c (.i .i64 4096))],
fun p=>.call (.fn Xi) [(.t (p 0))],
fun p=>.mkfn (.func Xk) [] [(.t (p 0))],
fun p=>.call (.fn Xj) [(.t (p 0)),(.t (p 1))]]
def aQU:List ((Nat→Nat)→O):=[fun p=>.call (.fn Xl) [(.t (p 0)),(.t (p 1))],
fun p=>.bin .quo (.t (p 0)) (.c (.i .i64 (Ca (p 1)))),
fun p=>.call (.fn RE) [(.t (p 0)),(.c (.i .i64 (Ca (p 1))))],
fun p=>.call (.fn MQ) [(.t (p 0)),(.c (.i .i64 (Ca (p 1))))],
fun p=>.call (.fn MR) [(.t (p 0)),(.c (.i .i64 (Ca (p 1))))],
fun p=>.build [(.i .i64 0),(.i .i64 0)] [(0,1,(.c (.i .i64 (-1)))),(1,1,(.t (p 0)))],
fun p=>.bin .geq (.t (p 0)) (.c (.i .u8 48)),
fun p=>.bin .leq (.t (p 0)) (.c (.i .u8 57)),
fun p=>.bin .eql (.t (p 0)) (.c (.i .u8 95)),
fun p=>.bin .lss (.t (p 0)) (.c (.i .u8 97)),
fun p=>.bin .gtr (.t (p 0)) (.c (.i .u8 122)),
fun p=>.bin .geq (.t (p 0)) (.c (.i .i64 512)),
fun p=>.bin .gtr (.t (p 0)) (.c (.i .i64 255)),
fun p=>.call (.fn KR) [(.t (p 0)),(.c (.i .i64 511))],
fun p=>.call (.fn KR) [(.t (p 0)),(.c (.i .i64 255))],
fun p=>.call (.fn Xo) [(.t (p 0))],
fun p=>.call (.fn Jc) [(.t (p 0))],
fun p=>.call (.fn Xp) [(.t (p 0))],
fun p=>.call (.fn PM) [(.t (p 0)),(.t (p 1))],
fun p=>.call (.fn PP) [(.t (p 0)),(.t (p 1)),(.t (p 2))],
fun p=>.bin .eql (.t (p 0)) (.c (.i .i64 (-1))),
fun p=>.call (.fn PQ) [(.t (p 0)),(.t (p 1)),(.t (p 2))],
fun p=>.call (.fn PT) [(.t (p 0))],
fun p=>.call (.fn MQ) [(.t (p 0)),(.t (p 1))]]
def aQV:List ((Nat→Nat)→O):=[fun p=>.call (.fn MR) [(.t (p 0)),(.t (p 1))],
fun p=>.call (.fn PU) [(.t (p 0))],
fun p=>.call (.fn PX) [(.t (p 0))],
fun p=>.build [.ns,.ns,(.i .i64 0),(.i .i64 0),(.i .i64 0)] [(0,1,(.t (p 0)))],
fun p=>.call (.fn LJ) [(.t (p 0))],
fun p=>.call (.fn PY) [(.t (p 0))],
fun p=>.call (.fn LK) [(.t (p 0))],
fun p=>.call (.fn P1) [(.t (p 0))],
fun p=>.call (.fn P5) [(.t (p 0)),(.t (p 1)),(.t (p 2))],
fun p=>.call (.fn P7) [(.t (p 0)),(.c (.i .i64 (Ca (p 1))))],
fun p=>.call (.fn I7) [(.t (p 0)),(.c (.i .i64 (Ca (p 1))))],
fun p=>.call (.fn I7) [(.t (p 0)),(.t (p 1))],
fun p=>.slice 2 (.t (p 0)) none (some (.t (p 1))) none,
fun p=>.iad 2 (.t (p 0)) (.c (.i .i64 (Ca (p 1)))),
fun p=>.build [(.i .i64 0),(.i .i64 0),(.i .i64 0),(.i .i64 0),(.i .i64 0),(.i .i64 0)] [(3,1,(.c (.i .i64 (Ca (p 0)))))],
fun p=>.alloc [(.i .i64 0),(.i .i64 0),(.i .i64 0)],
fun p=>.build [(.i .i64 0),(.i .i64 0),(.i .i64 0),(.i .i64 0),(.i .i64 0),(.i .i64 0)] [(0,3,(.t (p 0))),(3,1,(.t (p 1)))],
fun p=>.alloc [(.i .i64 0),(.i .i64 0),(.i .i64 0),(.i .i64 0),(.i .i64 0),(.i .i64 0)],
fun p=>.slice 6 (.t (p 0)) none (some (.t (p 1))) none,
fun p=>.call (.fn P9) [(.t (p 0)),(.t (p 1))],
fun p=>.call (.fn Qa) [(.t (p 0)),(.t (p 1))],
fun p=>.mv (.c (.i .u32 2)),
fun p=>.mv (.c (.i .u32 3)),
fun p=>.call (.fn Qf) [(.t (p 0))]]
def aSM:Nat→List ((Nat→Nat)→O)
 | 0=>aSC
 | 1=>aSD
 | 2=>aSE
 | 3=>aSF
 | 4=>aSG
 | 5=>aSH
 | 6=>aSI
 | 7=>aSJ
 | 8=>aSK
 | 9=>aSL
 | 10=>aQQ
 | 11=>aQR
 | 12=>aQS
 | 13=>aQT
 | 14=>aQU
 | _=>aQV
def shp (s:Nat) (p:Nat→Nat):O:=pF (fun _=>.e0) (aSM (s / 24)) (s % 24) p
def nps:List Nat:=[1,2,1,1,1,1,2,2,2,0,2,2,2,0,2,1,2,2,2,2,1,2,1,1,1,2,2,2,1,2,2,2,0,0,1,2,2,0,0,2,2,2,2,2,1,0,2,1,2,2,2,2,2,1,2,0,2,0,1,1,2,0,2,1,0,2,1,1,1,2,2,1,2,1,2,2,2,0,1,1,1,2,1,2,1,2,1,0,1,2,2,1,1,1,2,2,1,1,2,2,1,2,2,1,2,2,2,1,1,3,2,1,2,2,2,4,2,2,2,1,0,1,0,2,2,1,3,2,3,1,1,1,1,1,1,1,3,1,2,1,3,1,0,1,1,1,0,2,2,3,1,3,2,1,2,1,2,1,1,1,1,2,0,2,1,1,1,2,3,2,0,1,2,2,0,1,1,1,1,3,5,0,0,4,1,2,2,3,1,1,1,1,1,1,1,1,5,1,0,1,0,1,2,1,3,2,1,5,1,3,1,2,2,2,2,2,5,2,2,0,3,0,1,4,3,1,2,2,1,1,0,0,1,2,3,1,3,3,1,2,0,1,4,5,4,0,1,1,1,1,1,1,1,0,1,1,1,1,1,2,0,2,1,0,2,1,1,2,0,4,1,1,4,3,3,2,4,4,2,2,2,1,3,1,1,1,3,1,1,2,1,2,1,2,2,3,3,1,2,2,3,3,1,1,1,1,1,1,2,1,3,3,2,1,3,2,2,1,1,2,1,1,1,2,2,1,1,1,1,1,2,1,1,1,1,2,2,2,2,2,2,1,1,1,1,1,1,1,1,1,1,1,1,1,2,3,1,3,1,2,2,1,1,1,1,1,1,1,3,2,2,2,2,2,1,0,2,0,2,2,2,0,0,1]
abbrev Rs:=List TO×List (Bool×List TO)
abbrev Rc:=Nat→Nat→Nat→Bool→Rs
def aFS (s:Nat) (d:Option Nat) (g:Option (Nat×Bool)) (l:List Nat) (r:Rs):Rs:=(⟨d,shp s (fun i=>pF 0 l i),g⟩::r.1,r.2)
def nP (R:Nat) (rc:Nat→List Nat→Rs):Nat→Nat→List Nat→Rs
 | 0,n,l=>rc n l
 | f+1,n,l=>nP R rc f (n / R) (n % R::l)
def nO (R s:Nat) (rc:Rc) (g:Option (Nat×Bool)) (gn:Nat) (gb:Bool) (p:Nat):Nat→Nat→Rs
 | 0,n=>nP R (fun n l=>aFS s (some (p+1)) g l (rc n (p+1) gn gb)) (pF 0 nps s) n []
 | 1,n=>nP R (fun m l=>aFS s (some (n % R)) g l (rc m (n % R) gn gb)) (pF 0 nps s) (n / R) []
 | _+2,n=>nP R (fun n l=>aFS s none g l (rc n p gn gb)) (pF 0 nps s) n []
def aSB (R s:Nat) (rc:Rc) (p gn:Nat) (gb:Bool):Nat→Nat→Rs
 | 0,n=>nO R s rc none gn gb p (n % 3) (n / 3)
 | 1,n=>nO R s rc (some (n % R,true)) (n % R) true p (n / R % 3) (n / R / 3)
 | 2,n=>nO R s rc (some (n % R,false)) (n % R) false p (n / R % 3) (n / R / 3)
 | _+3,n=>nO R s rc (some (gn,gb)) gn gb p (n % 3) (n / 3)
def aQP (b:Bool) (r:Rs):Rs:=([],(b,r.1)::r.2)
def aSN (R:Nat) (rc:Rc) (p gn:Nat) (gb:Bool):Nat→Nat→Rs
 | 0,_=>([],[])
 | 1,n=>aQP true (rc n p gn gb)
 | 2,n=>aQP false (rc n p gn gb)
 | s+3,n=>aSB R s rc p gn gb (n % 4) (n / 4)
def aFR (R:Nat):Nat→Rc
 | 0=>fun _ _ _ _=>([],[])
 | f+1=>fun n p gn gb=>aSN R (aFR R f) p gn gb (n % 387) (n / 387)
def aQO (n:Nat):Nat:=pF 0 [32,64,128,512] (n % 4)
@[go_sem ↓] def k (n:Nat) {l:List TO} (h:(aFR (aQO n) 400 (n / 4) 511 0 true).1=l:=by conv=>lhs;cbv):List TO:=l
@[go_sem ↓] def kd (n:Nat) {l:List (Bool×List TO)} (h:(aFR (aQO n) 400 (n / 4) 511 0 true).2=l:=by conv=>lhs;cbv):List (Bool×List TO):=l
/-! horarium/horariumlaw19.PartBlind -/
@[go_sem] def aQ2:=k 0x1cbc0
@[go_sem] def aQ3:=k 0x125dc8bc0d1f7e593c37c
@[go_sem] def aQ4:=k 0x73f3cec00b0326e95b2c
@[go_sem] def aQ5:=k 0x24f6c917ad747fa8603566ec4c
@[go_sem] def aQ6:=k 0x13f7658e2f19be2bf9e55c0646bf18fa4c7c5e2bfd
@[go_sem] def aQ7:=k 0x51186f160560e0449c97f7b3092decff61
@[go_sem] def aQ8:=k 0x3a523cbebc7e86d4a2d
@[go_sem] def aQ9:=k 0x3637bbe2347dd
@[go_sem] def aRa:=k 0xb3b15fedcefeb46938e4530772d68f983ba8c7a754249c566951
@[go_sem] def aRb:=kd 0x5b95493b203475d8d5ffd61af59a9e8672e57dba1c785e6a334d8cd3115d5543bded303ea9ac1c6711771c2e26257ff82
@[go_sem] def aF3:=k 0x2466d45d2488f43f55d8c1b8576dad6755e
@[go_sem] def aF4:=k 0x1cbc0
@[go_sem] def aF5:=k 0x458b8
@[go_sem] def aF6:=k 0x5c9a432cb8be
@[go_sem] def aF7:=k 0x6d3994adc74e977f30ea2efd85f794ac80577b2251938e
@[go_sem] def aF8:=k 0x740d2a825c3d1ad516e20be85f98675893fef02bc7465e
@[go_sem] def aF9:=k 0xa9e3864d7da2804509f6aca3e6c468d8527f1ee2c34a76b31f6112ffb3955966daf38719579ea99fd314a1f3ce480dcfe6dd193187aebff80cb368eba6006395472e02b610fe2a54300f4b0f926
@[go_sem] def aGa:=k 0x1cbc0
@[go_sem] def aGb:=k 0xdaf7e0c9a3c11cad49de
def QU:TC:=(.seq (.seq (.reg aF6) (.cond (.t 73) .skip (.exit 0))) (.seq (.block 1 (.seq (.reg aF7) (.seq (.reg aF8) (.seq (.reg aF9) (.cond (.t 111) (.seq (.reg aGa) .ret) .skip))))) (.reg aGb)))
@[go_sem] def aGc:=k 0x226b5cee90fa379c9681e46eea57676427cda88ee6892ebbcad2b0d4c1f90b15f437f3e
def YI:TF:=⟨123,[.t 6],(.seq (.reg aQ2) (.seq (.reg aQ3) (.seq (.reg aQ4) (.seq (.reg aQ5) (.seq (.reg aQ6) (.seq (.reg aQ7) (.seq (.seq (.reg aQ8) (.cond (.t 41) (.reg aQ9) .skip)) (.seq (.reg aRa) (.seq (.dreg aRb) (.seq (.seq (.reg aF3) (.cond (.t 71) (.seq (.reg aF4) .ret) .skip)) (.seq (.seq (.reg aF5) (.block 0 (.loop QU))) (.seq (.reg aGc) .ret))))))))))))⟩
/-! (*horarium/horariumkeep.Tape).Config -/
@[go_sem] def aRc:=k 0xaa38
@[go_sem] def aRd:=k 0xf2c8
@[go_sem] def aRe:=k 0x32056cb125ee61ab794c78c
@[go_sem] def aRf:=k 0x18318
@[go_sem] def aRh:=k 0x606005de60fcbb3c
@[go_sem] def aRi:=k 0x25c388c131990f721155dc050f0b5031f857dd0ffe4bd765b665e354880ccb02d4ad1136c00d
@[go_sem] def aRj:=k 0x31b87e1f0bf164572cd
@[go_sem] def aRk:=k 0x2cfdea4a8ffed
@[go_sem] def aRl:=kd 0x7b01617df4a8cc3a32631eac506626f3167089803c3c5c5d3a0c6d77d8f77bb9a0a15be1194908f1aa6818e869e46c4295
@[go_sem] def aRm:=k 0x378ceea9bb210f8910d
def Ug:TC:=(.seq (.seq (.reg aRk) (.cond (.t 36) .skip (.exit 2))) (.seq (.block 3 (.dreg aRl)) (.reg aRm)))
@[go_sem] def aG7:=k 0xe4469
@[go_sem] def aG8:=k 0xe32b4125
@[go_sem] def aG9:=k 0x430321bc0dd7d
@[go_sem] def aHa:=k 0x2f25fd0bf792b62fb8e3eacd6eeb97bf159df22e43d3c3e8825d33e0d
@[go_sem] def aHb:=k 0x13db35476a586a9
def Uh:TC:=(.seq (.reg aG8) (.seq (.cond (.t 51) .skip (.exit 4)) (.seq (.block 5 (.seq (.reg aG9) (.reg aHa))) (.reg aHb))))
@[go_sem] def aHc:=k 0x514edf82d59d0eec207295cd132813322964a7e8322
@[go_sem] def aHd:=k 0xeb2322318893a54ec
def Ui:TC:=(.seq (.seq (.reg aRh) (.cond (.t 18) .skip (.exit 0))) (.seq (.block 1 (.seq (.reg aRi) (.seq (.seq (.reg aRj) (.block 2 (.loop Ug))) (.seq (.seq (.reg aG7) (.block 4 (.loop Uh))) (.reg aHc))))) (.reg aHd)))
@[go_sem] def aHe:=k 0xc9579491fafddf235e7e
@[go_sem] def aHf:=k 0x9a2b7b0becb98455924d323538889ec072779e
@[go_sem] def aHg:=k 0x845462c0d67bb43a8dac2341e
@[go_sem] def aHh:=kd 0x253d26e16fb3e000dcb5dbf59db8d71495a6666e153875ad95fd73a27ff457188c28d586da3afd8a335ff0d65d99133467530b6a69c47809531c155547fdd27f9c43e0ff5bfbf9edd8167c263a0920ce01781a72d0998644764b6a
@[go_sem] def aHi:=k 0x40464a9ff38882
@[go_sem] def aHj:=k 0x18c81896937eae503d5f64b456da1d019e
@[go_sem] def aHk:=k 0x86b4dd34f1269c7d63fa67863a75813798dbcaefbe2
@[go_sem] def aHl:=k 0xe0a956ad5b76cf182afe
def Uj:TC:=(.seq (.seq (.reg aHf) (.cond (.t 75) .skip (.exit 6))) (.seq (.block 7 (.seq (.reg aHg) (.seq (.dreg aHh) (.seq (.seq (.reg aHi) (.cond (.t 101) (.reg aHj) .skip)) (.reg aHk))))) (.reg aHl)))
@[go_sem] def aHm:=k 0x149aabd7a30eb150fd73e
@[go_sem] def aHn:=k 0x4945b2d653c85e
@[go_sem] def aHo:=kd 0x52760f8e815b9231412c0dc84a85ab1d555485fab4e44f7c83087f39db39354b54d41717e6
@[go_sem] def aHp:=k 0x155539e87e1cc0f90597e
def Uk:TC:=(.seq (.seq (.reg aHn) (.cond (.t 115) .skip (.exit 8))) (.seq (.block 9 (.dreg aHo)) (.reg aHp)))
@[go_sem] def aHq:=k 0x3b85fc81ba80d64d0a24b63cf1f
def YJ:TF:=⟨129,[.cell 2 3 true],(.seq (.reg aRc) (.seq (.reg aRd) (.seq (.reg aRe) (.seq (.seq (.reg aRf) (.block 0 (.loop Ui))) (.seq (.seq (.reg aHe) (.block 6 (.loop Uj))) (.seq (.seq (.reg aHm) (.block 8 (.loop Uk))) (.seq (.reg aHq) .ret)))))))⟩
/-! (*horarium/horariumkeep.Tape).Script -/
@[go_sem] def aRn:=k 0x66148428
@[go_sem] def aRo:=k 0x18468
@[go_sem] def aRp:=k 0x499a372b1f0a5db50
@[go_sem] def aRq:=k 0xe028db4
@[go_sem] def aRr:=k 0x24809498a81c
@[go_sem] def aRs:=kd 0x4661e1e868a6f1df14bc8f4b7fe3f22a73021fc91b532d487283cce8be5873d6b112014
@[go_sem] def aRt:=k 0x21460
@[go_sem] def aRu:=k 0x126875d684e007e5bc
@[go_sem] def aRv:=k 0x42d8608186dc
@[go_sem] def aRw:=k 0x5491c778b32db3270dac85ff729d19922951d
@[go_sem] def aIs:=k 0x1552ae220ebeac57fc
def KC:TC:=(.seq (.seq (.reg aRv) (.cond (.t 27) .skip (.exit 2))) (.seq (.block 3 (.reg aRw)) (.reg aIs)))
@[go_sem] def aIt:=k 0x644633273dae945dce8107f94d86f120d42e0081
@[go_sem] def aIu:=k 0xd8f381044a23f9
def nW:TC:=(.seq (.reg aRq) (.seq (.cond (.t 13) .skip (.exit 0)) (.seq (.block 1 (.seq (.reg aRr) (.seq (.dreg aRs) (.seq (.reg aRt) (.seq (.seq (.reg aRu) (.block 2 (.loop KC))) (.reg aIt)))))) (.reg aIu))))
@[go_sem] def aIv:=k 0x604e47b8fcdd
def YK:TF:=⟨44,[.cell 4 2 true],(.seq (.reg aRn) (.seq (.reg aRo) (.seq (.seq (.reg aRp) (.block 0 (.loop nW))) (.seq (.reg aIv) .ret))))⟩
/-! horarium/horariumbook.Within -/
@[go_sem] def aRx:=k 0x1cba8
@[go_sem] def aRy:=k 0x71a97d104ec61d806e7bdf0820ad346ed2979d42c
@[go_sem] def aRz:=k 0x2712be4c18ac
@[go_sem] def aRA:=k 0x6533d33d18061a5741abf2f4e7e6190ed613c
@[go_sem] def aRB:=k 0x388fb20c949c
@[go_sem] def aRC:=k 0x8bbc92497ed78a5d9e575dc68dbb19a0fa5bc
@[go_sem] def aRD:=k 0xd42b0a52c96361e05b5bd1d
def YL:TF:=⟨33,[.t 6],(.seq (.reg aRx) (.seq (.seq (.reg aRy) (.cond (.t 14) (.seq (.reg aRz) .ret) .skip)) (.seq (.reg aRA) (.seq (.seq (.reg aRB) (.cond (.t 23) (.reg aRC) .skip)) (.seq (.reg aRD) .ret)))))⟩
/-! horarium/part.New -/
@[go_sem] def aRE:=k 0xabae343ab8
@[go_sem] def aRF:=k 0x6697fa7294207365a3e341925bf4429d22efe7a1625f55ecf67be359be520e4623037634
@[go_sem] def aRH:=k 0x25db0
@[go_sem] def aRI:=kd 0xe3c94827eb6e124c018c7c2faacb86f57bf08bfe4cae246b0f282b500f0d8af7705ec21998bb8a08c81aea1fcd983c069c9b47b4f12b58041
@[go_sem] def aRJ:=k 0x3588eac38108dd8611ca8c790c7c6c105483970bc9caf1aa125367e3d4fd
@[go_sem] def aRK:=k 0x115cc654aa9d
@[go_sem] def aRL:=k 0x482775cda3bbd
def Mc:TF:=⟨57,[.t 8],(.seq (.reg aRE) (.seq (.seq (.reg aRF) (.cond (.t 23) (.seq (.reg aRH) .ret) .skip)) (.seq (.dreg aRI) (.seq (.reg aRJ) (.seq (.reg aRK) (.seq (.reg aRL) .ret))))))⟩
/-! (*horarium/part.Part).Tick -/
@[go_sem] def aRM:=k 0x6e1330
@[go_sem] def aRN:=k 0xe294a9366c
@[go_sem] def aRO:=k 0xf8dca0a0adb4a4
@[go_sem] def aRP:=k 0x120d781a21c
@[go_sem] def aRQ:=k 0x31acd89cf8a7c5c
@[go_sem] def aRR:=k 0x4f6e199ee94b138aaf45a6f25c
@[go_sem] def aRS:=k 0x13aee2d174ec399c934e390c90bb1434323cec149c
@[go_sem] def aRT:=k 0x148a4ee61057202d78ab007e4b587d6f47b508d
@[go_sem] def aRU:=k 0x2cfde60a1ffed
@[go_sem] def aRV:=k 0x8d357f4eb79278a896d0d
@[go_sem] def aLf:=k 0x2ce5cc68ee36b59afba206ac1fb990ca68e85dd7dd865974b989f906fe9986e5eefe2d
@[go_sem] def aLg:=kd 0x412c586fda59d37d944f3053725224442a8813954640c6aaaae8f6dc5b2d908b49d81076008c9
@[go_sem] def aLh:=k 0x680b5b4b16be818eda7f45e01
@[go_sem] def aLi:=k 0x1ff15356e7e4e1f489e
@[go_sem] def aLj:=k 0x1c498819e7cb49c2
@[go_sem] def aLk:=k 0x1325b9dd0ca2acd6d06423b2
@[go_sem] def aLl:=k 0x1de43de35fccb492
@[go_sem] def aLm:=k 0xa5f5451b2e72baed7558e632311cb5ca76a6e3972e4297e7c1b70a03a108d4decdfdf3ae
@[go_sem] def aLn:=k 0xd884c0a67b66a9b79c9167c6fb278282b0f26eda374060b81c62be199fe6245004a6ac02b32d855a6e
@[go_sem] def aLo:=k 0x114eaed8d306793ccfd22
@[go_sem] def aLp:=k 0x3ecda969f1d6d2
@[go_sem] def aLq:=k 0xa33a80eb03049d378bfcfdf5e
@[go_sem] def aLr:=k 0x1f22f001723fa34226
def QI:TF:=⟨103,[.cell 4 6 true,.t 5],(.seq (.reg aRM) (.seq (.seq (.reg aRN) (.cond (.t 12) (.seq (.reg aRO) .ret) .skip)) (.seq (.seq (.reg aRP) (.cond (.t 15) (.reg aRQ) .skip)) (.seq (.reg aRR) (.seq (.reg aRS) (.seq (.reg aRT) (.seq (.seq (.reg aRU) (.cond (.t 36) (.seq (.reg aRV) .ret) .skip)) (.seq (.reg aLf) (.seq (.dreg aLg) (.seq (.reg aLh) (.seq (.block 0 (.seq (.reg aLi) (.cond (.t 85) (.reg aLj) (.seq (.reg aLk) (.cond (.t 89) (.reg aLl) (.seq (.reg aLm) (.reg aLn))))))) (.seq (.seq (.reg aLo) (.cond (.t 96) (.seq (.reg aLp) (.reg aLq)) .skip)) (.seq (.reg aLr) .ret)))))))))))))⟩
/-! (*horarium/part.Part).Stopped -/
@[go_sem] def aRW:=k 0xa980
@[go_sem] def aRX:=k 0x3c18dac247aff77a5e16be9663b1ec
def QJ:TF:=⟨8,[.t 2],(.seq (.reg aRW) (.seq (.reg aRX) .ret))⟩
/-! (*horarium/part.Part).Same -/
@[go_sem] def aRY:=k 0x13aa0
@[go_sem] def aRZ:=kd 0xc8783f4704d299baecc4c225ee868e358ffdf5b9bc6243fe23bdd856f9d8e6f7da3948249d2681950fa7b34ff817607cc725274498c981a764b471fcf372b879a5dd0bc1015001253c66dddbc3a323a0c7325fea1bb973b612dd49e63304d3877bf38518fb52c366b01481055adbdb399f82534ca42772d10b162861ac455fe822b37d721a3d497990c0c1ca021d58e29ae532293edec9074a79de0effd9fc29510e859821e2e70c62d5f32a
def QK:TF:=⟨65,[.t 4],(.seq (.reg aRY) (.seq (.dreg aRZ) .ret))⟩
/-! horarium/horariumlaw19.known -/
@[go_sem] def aR0:=k 0x1860
@[go_sem] def aR1:=k 0x6ad0a6359910e2d6a8cf896405392defa76c89612e485f304ad1d3574
@[go_sem] def aR2:=k 0x27c786a9ff3b6af14de6f4
@[go_sem] def aR3:=k 0x92db9ab9af496e329924f88408b7479b90e5b170f7edebcea265728d7b82764d
@[go_sem] def aR4:=k 0x1860
@[go_sem] def aR5:=k 0x6ff4d6c6bb907de61f98daaf3cca86334838fec259d
@[go_sem] def aR6:=k 0x7d9c031310743642d358f0060a940235182de41906d
@[go_sem] def aR7:=k 0x8b432f5f6557ee9f8719055cd85d7e36e822c96fb3d
@[go_sem] def aR8:=k 0x98ea5babba3ba6fc3ad91ab3a626fa38b817aec660d
@[go_sem] def aR9:=k 0xa69187f80f1f5f58ee99300a73f0763a880c941d0dd
@[go_sem] def aOB:=k 0x1254497b11e35b20108449c12aaa58912f4ec89959b7f32a7f768a917a1633c4d242d3918702bd91cd3920eaed5ba17f0ae6e1dde17a8ec8a5350cb83c8bd121c635f5cb7070fb2c84067e419311faa90bb8716d74481dbf772fac3ca496fbb9a3f4c26ab0030897b3ee05bbe01c4c7d9f07798067f8ef2384969e428d988c03026604e4e765048fad0e78924a77c753499ea9d45bc3b73fd6abe4dba54ae921a6e7f52776fcbbe30eecb1e
def YM:TF:=⟨118,[.t 0],(.seq (.reg aR0) (.seq (.reg aR1) (.seq (.reg aR2) (.seq (.seq (.reg aR3) (.cond (.t 36) (.seq (.reg aR4) .ret) .skip)) (.seq (.reg aR5) (.seq (.reg aR6) (.seq (.reg aR7) (.seq (.reg aR8) (.seq (.reg aR9) (.seq (.reg aOB) .ret))))))))))⟩
/-! (*horarium/part.Part).Clock -/
@[go_sem] def aSa:=k 0xa968
@[go_sem] def aSb:=k 0x16c175640f0b8af1442663b1ec
def YN:TF:=⟨7,[.t 2],(.seq (.reg aSa) (.seq (.reg aSb) .ret))⟩
/-! (*horarium/part.Part).Registers -/
@[go_sem] def aGd:=k 0x13e14
@[go_sem] def aGe:=k 0x76661ac0e1bd48087a72b7268121fb43b5c407c51a4227611f0d50c
@[go_sem] def aGf:=k 0x5d0022c2d8
@[go_sem] def aGg:=k 0x762eb230f3454d74011d4314fd9d3c2cf60aa67d5a9cc
def NA:TF:=⟨25,[.cell 4 8 true],(.seq (.reg aGd) (.seq (.seq (.reg aGe) (.cond (.t 15) (.seq (.reg aGf) .ret) .skip)) (.seq (.reg aGg) .ret)))⟩
/-! (*horarium/horariumkeep.Tape).Next -/
@[go_sem] def aGh:=k 0x13a88
@[go_sem] def aGi:=kd 0x220be420174e19d1f5149937c8b8fc6e642619e455aa23bea0f0b3ddf3a036336f775b28
@[go_sem] def aGj:=k 0x13a88
@[go_sem] def aGk:=k 0x119239eec55aff1a9df708086adaaba5ca83783aec
@[go_sem] def aGl:=kd 0x61193eb1b98dc823cb5e187eedb8a80bb30a933b3120061eeba0f17fbb94755f5230c957126efbdae99
def NB:TF:=⟨40,[.t 4],(.seq (.reg aGh) (.seq (.seq (.dreg aGi) (.cond (.t 18) (.seq (.reg aGj) .ret) .skip)) (.seq (.reg aGk) (.seq (.dreg aGl) .ret))))⟩
/-! (*horarium/horariumkeep.Tape).frame -/
@[go_sem] def aGm:=k 0x13ab0
@[go_sem] def aGn:=k 0x21999602b5d9c78565a1cbc
@[go_sem] def aGo:=k 0x2420a77057ef185d70904675d9d6b62498fc
@[go_sem] def aGp:=k 0x6b726942e7084d1e7d7ba9811a3825c2fb1abd153cab87817d9432a7bdf3c
@[go_sem] def aGq:=k 0x17419ed81a32fea10060040b708e6cc657ad4355ad934875185
@[go_sem] def aGr:=k 0x2d142a27bb7ed
def NC:TF:=⟨36,[.t 4],(.seq (.reg aGm) (.seq (.reg aGn) (.seq (.seq (.reg aGo) (.seq (.reg aGp) (.cond (.t 27) (.seq (.reg aGq) .ret) .skip))) (.seq (.reg aGr) .ret))))⟩
/-! (*horarium/horariumkeep.Tape).asks -/
@[go_sem] def aGs:=k 0x41cc8428
@[go_sem] def aGt:=k 0x18340
@[go_sem] def aGu:=k 0x4e56d4ae6668e0aa0
@[go_sem] def aGv:=k 0x1d396704
@[go_sem] def aGw:=k 0x14924b9e312dc641b4
@[go_sem] def aGx:=k 0x13de9fdffabc7a34775ac467263061f049e951d
@[go_sem] def aGy:=k 0x457a13e4204c10bf7177b91f6f5d
@[go_sem] def aGz:=k 0xc56d915c3e01b9
def Ud:TC:=(.seq (.reg aGv) (.seq (.cond (.t 26) .skip (.exit 0)) (.seq (.block 1 (.seq (.reg aGw) (.seq (.reg aGx) (.reg aGy)))) (.reg aGz))))
@[go_sem] def aGA:=k 0x9a7dd21833070a9231
@[go_sem] def wL:=k 0xc16e0c95
@[go_sem] def wM:=k 0x38c4c1db578fd
@[go_sem] def wN:=k 0x33678
@[go_sem] def wO:=k 0x89de37a38d8d
@[go_sem] def wP:=k 0xd8772b65
@[go_sem] def wQ:=k 0x492d3aecf4bbbb79815
@[go_sem] def wR:=kd 0x9f57eb6a7762ecd462c46e2e699b5c3e0c899673ebd66244ff29e31dff99c00b74e07e95e987cb642b08ae4200ca
@[go_sem] def wS:=k 0x8f7746e19ca0c9e4800b04e7502e19be7274ce
@[go_sem] def wT:=k 0x33700
@[go_sem] def wU:=k 0x78c67eca8cc05473ce6ef502e
@[go_sem] def wV:=k 0x17e6720e5ad559fa
def O2:TC:=(.seq (.reg wP) (.seq (.cond (.t 48) .skip (.exit 4)) (.seq (.block 5 (.seq (.reg wQ) (.seq (.dreg wR) (.seq (.reg wS) (.cond (.t 70) (.reg wT) (.reg wU)))))) (.reg wV))))
@[go_sem] def wW:=k 0x2ebcdb92de6e4817f6a7372fcd7f5a6453b2368bc726e
@[go_sem] def wX:=kd 0x438788e2410110ef8a9e09b5f6e52a842307d0ab1b502b44782ef5546467a701e81445ef7f83e1b26
@[go_sem] def wY:=k 0x1dac1a215826741a
def O3:TC:=(.seq (.reg wL) (.seq (.cond (.t 43) .skip (.exit 2)) (.seq (.block 3 (.seq (.reg wM) (.seq (.reg wN) (.seq (.seq (.reg wO) (.block 4 (.loop O2))) (.seq (.reg wW) (.cond (.t 81) (.dreg wX) .skip)))))) (.reg wY))))
@[go_sem] def wZ:=k 0x5a0ab36a85251d75540b988ed7dc8e
@[go_sem] def xA:=k 0x51e6df5b9d3db0da9d2321b96ce
@[go_sem] def xB:=k 0x404767c688f07e
@[go_sem] def xC:=k 0xaf28f70ce1b1c2ab921a9cabe
@[go_sem] def xD:=k 0xb5f7bf65081fb656739aaecfe
@[go_sem] def xE:=k 0x12c9bdc9a0878a01d819e
def O4:TC:=(.seq (.seq (.reg xB) (.cond (.t 101) .skip (.exit 6))) (.seq (.block 7 (.seq (.reg xC) (.cond (.t 107) (.seq (.reg xD) (.exit 6)) .skip))) (.reg xE)))
@[go_sem] def xF:=k 0x140a45a4a15e528c66b2
@[go_sem] def xG:=k 0x8242c7916
@[go_sem] def xH:=k 0x4aa50dfe75097e
@[go_sem] def xI:=k 0x5361c
@[go_sem] def xJ:=k 0x471a66246aa0e
@[go_sem] def xK:=k 0x87f974be6
@[go_sem] def xL:=k 0x164155b5d2bebfd73dc96
@[go_sem] def xM:=k 0x268b80c716368d9c55a0d6fbf046e5bb324e5e28bc517356f
@[go_sem] def xN:=k 0x2988141ad86c75c8eb
def O5:TC:=(.seq (.reg xK) (.seq (.cond (.t 120) .skip (.exit 10)) (.seq (.block 11 (.seq (.reg xL) (.reg xM))) (.reg xN))))
@[go_sem] def xO:=k 0x4fa2ace25a7654c1ac4a749e60aa471776d68cc125cfbd9315f
@[go_sem] def xP:=kd 0xc65d8d1eb72b5ea55c361e0889bf71d345309e2628b51b814fbcd796936608dfa7ad01b0f02904e018fe0e74fa985cf213881166dc47a28502b7926af5f58ca1c6878702842cf3f6c1415dcd02dff7
@[go_sem] def xQ:=k 0x313dc4cda8c13c966b
def O6:TC:=(.seq (.reg xG) (.seq (.cond (.t 115) .skip (.exit 8)) (.seq (.block 9 (.seq (.reg xH) (.seq (.reg xI) (.seq (.seq (.reg xJ) (.block 10 (.loop O5))) (.seq (.reg xO) (.cond (.t 136) (.dreg xP) .skip)))))) (.reg xQ))))
@[go_sem] def xR:=k 0x387a0272ed72d60df1f37
@[go_sem] def xS:=k 0x498e66609348b081dff893
@[go_sem] def xU:=k 0xb5c2509af7
@[go_sem] def xV:=k 0x1a09a14e81a2035f
@[go_sem] def xW:=kd 0x11f3869d404e0cfe029d49ed41a8449c80171b6009885104b2428102634edf7ef0d6b9d1117567fb35d92ae6fd8385826ebd7
@[go_sem] def xX:=k 0x37b29256f8e8c241ab
def O7:TC:=(.seq (.reg xU) (.seq (.cond (.t 161) .skip (.exit 12)) (.seq (.block 13 (.seq (.reg xV) (.dreg xW))) (.reg xX))))
@[go_sem] def xY:=k 0xb293462aa4ca77
def ND:TF:=⟨175,[.cell 4 3 true],(.seq (.reg aGs) (.seq (.reg aGt) (.seq (.seq (.reg aGu) (.block 0 (.loop Ud))) (.seq (.seq (.reg aGA) (.block 2 (.loop O3))) (.seq (.reg wZ) (.seq (.seq (.reg xA) (.block 6 (.loop O4))) (.seq (.seq (.reg xF) (.block 8 (.loop O6))) (.seq (.seq (.reg xR) (.cond (.t 156) (.seq (.reg xS) (.block 12 (.loop O7))) .skip)) (.seq (.reg xY) .ret)))))))))⟩
/-! (*horarium/horariumkeep.Tape).Program -/
@[go_sem] def aGB:=k 0x82552f4cb8
@[go_sem] def aGC:=k 0x21460
@[go_sem] def aGD:=k 0x35bd3cd01a40eb21edf101c
@[go_sem] def aGE:=k 0x2bb4e55ef9cc
@[go_sem] def aGF:=k 0x103ea00d2960560c0c
@[go_sem] def aGG:=k 0x2b581e70ea29ccee4110f0dc42aa41756081be361b9d2c
@[go_sem] def aGH:=k 0x59f28c
@[go_sem] def aGI:=k 0xa44601ceb33c4
@[go_sem] def aGJ:=kd 0x54e716387c2c97e6cc406ac86aa3c151daf3c6e7d18f230fff0913f4ac11
@[go_sem] def aGK:=k 0xc664613ae0fdb5
@[go_sem] def xZ:=k 0xcb88b57af36a45
@[go_sem] def yA:=k 0x13ac22452d947bcc08fc6c81ef6ebd
@[go_sem] def yB:=k 0xe5b9c2a0be6915
@[go_sem] def yC:=k 0xeade16e0d0d5a5
@[go_sem] def yD:=k 0x44c81214c418789221d
@[go_sem] def yE:=k 0xffd63e75adafe5
@[go_sem] def yF:=k 0x4a9c829f2b4bc8e445d
@[go_sem] def yG:=k 0x114b9d4ba098625
@[go_sem] def yH:=k 0x50654a48d48008f669d
@[go_sem] def yI:=k 0x180bf0506ba8f902682187c1
@[go_sem] def yJ:=k 0x6536c4e7be269cbdd7ea1f15910ebe508d944fc7f06a457cc35205987642814d775fef65db6f6983a54ac997ae900796e
@[go_sem] def yK:=k 0x7db8462beff15b4ce185111de
@[go_sem] def yL:=k 0x6f7d58
@[go_sem] def yM:=k 0x386b85a02476834934ff436cb41064aefb008d4454cb0b92
@[go_sem] def yN:=k 0x666b58
@[go_sem] def yO:=k 0x34ce440b509d882860787d01a566f18deb60632b2b80e
@[go_sem] def yP:=k 0x1ee88b8aeb558
@[go_sem] def yQ:=k 0x39900dcc2ff820a3cd52dcacffce27e975c5a766c606209fafffa955abae0cd1423fe
@[go_sem] def yR:=k 0xec3af74a94389caec
def Ue:TC:=(.seq (.seq (.reg aGE) (.cond (.t 18) .skip (.exit 0))) (.seq (.block 1 (.seq (.reg aGF) (.seq (.reg aGG) (.seq (.seq (.reg aGH) (.block 2 (.seq (.reg aGI) (.cond (.t 30) (.dreg aGJ) (.seq (.seq (.reg aGK) (.cond (.t 37) .skip (.reg xZ))) (.cond (.t 37) (.reg yA) (.seq (.seq (.reg yB) (.cond (.t 43) .skip (.reg yC))) (.cond (.t 43) (.reg yD) (.seq (.reg yE) (.cond (.t 48) (.reg yF) (.seq (.reg yG) (.cond (.t 52) (.reg yH) .skip)))))))))))) (.seq (.seq (.reg yI) (.seq (.reg yJ) (.cond (.t 73) (.seq (.reg yK) (.seq (.reg yL) (.seq (.reg yM) (.cond (.t 84) (.reg yN) .skip)))) .skip))) (.seq (.seq (.reg yO) (.cond (.t 91) (.reg yP) .skip)) (.reg yQ))))))) (.reg yR)))
@[go_sem] def yS:=k 0x15b2dba54a0fbd51f29b422e
def NE:TF:=⟨106,[.t 6],(.seq (.reg aGB) (.seq (.reg aGC) (.seq (.seq (.reg aGD) (.block 0 (.loop Ue))) (.seq (.reg yS) .ret))))⟩
/-! horarium/config.Right -/
@[go_sem] def aGL:=k 0x6cde108
@[go_sem] def aGM:=k 0x15ad599b8226ba0451b362196cf188a11df4
@[go_sem] def aGN:=k 0x19e5a681e3dc
def NF:TF:=⟨11,[.t 2],(.seq (.reg aGL) (.seq (.reg aGM) (.seq (.reg aGN) .ret)))⟩
/-! horarium/config.Copy -/
@[go_sem] def aGO:=k 0x41c2e108
@[go_sem] def aGP:=k 0xf2c8
@[go_sem] def aGQ:=k 0x493ceff9a36736ec0
@[go_sem] def aGR:=k 0xcd6f324
@[go_sem] def aGS:=k 0x90538ab6dea6ea373ce30
@[go_sem] def aGT:=k 0x14ccaaabee8c8ce01042ca9c9b24f2b0
@[go_sem] def aGU:=k 0x7c21f4dd6324e27a6652b3b9354cb4c08f980
@[go_sem] def aGV:=k 0x8782c942148f8
def Uf:TC:=(.seq (.reg aGR) (.seq (.cond (.t 12) .skip (.exit 0)) (.seq (.block 1 (.seq (.reg aGS) (.seq (.reg aGT) (.reg aGU)))) (.reg aGV))))
@[go_sem] def aGW:=k 0x21f1629664dab0aa516c0a07d7fb1170
@[go_sem] def yT:=k 0x97f0e04dcad46d4e41
@[go_sem] def yU:=k 0xa12e14a5
@[go_sem] def yV:=k 0x378ceea9b65b86e8155
@[go_sem] def yW:=kd 0x2f34bf99153e1c4ee794734802abd3498b4d215465bd5a01efc015fe95
@[go_sem] def yX:=k 0xf48234f39a8ec9
def O8:TC:=(.seq (.reg yU) (.seq (.cond (.t 36) .skip (.exit 2)) (.seq (.block 3 (.seq (.reg yV) (.dreg yW))) (.reg yX))))
@[go_sem] def yY:=k 0x38c7836f1f95
def Kb:TF:=⟨49,[.cell 2 3 true],(.seq (.reg aGO) (.seq (.reg aGP) (.seq (.seq (.reg aGQ) (.block 0 (.loop Uf))) (.seq (.reg aGW) (.seq (.seq (.reg yT) (.block 2 (.loop O8))) (.seq (.reg yY) .ret))))))⟩
/-! slices.Clone[[]byte,byte] -/
@[go_sem] def aGX:=k 0xa990
@[go_sem] def aGY:=k 0x3e0473b1ec
@[go_sem] def aGZ:=k 0xa990
@[go_sem] def aG0:=k 0x5d8066aa25d96e3eb9f0
def NG:TF:=⟨8,[.t 2],(.seq (.reg aGX) (.seq (.seq (.reg aGY) (.cond (.t 4) (.seq (.reg aGZ) .ret) .skip)) (.seq (.reg aG0) .ret)))⟩
/-! slices.Clone[[]uint32,uint32] -/
@[go_sem] def aG1:=k 0xa990
@[go_sem] def aG2:=k 0x3e0473b1ec
@[go_sem] def aG3:=k 0xa990
@[go_sem] def aG4:=k 0x5d8066aa25d96e3eb9f0
def NH:TF:=⟨8,[.t 2],(.seq (.reg aG1) (.seq (.seq (.reg aG2) (.cond (.t 4) (.seq (.reg aG3) .ret) .skip)) (.seq (.reg aG4) .ret)))⟩
/-! horarium/health.New -/
@[go_sem] def aG5:=k 0x48906108
@[go_sem] def aG6:=k 0x430ff42534c26d5ac534
def NI:TF:=⟨6,[.t 2],(.seq (.reg aG5) (.seq (.reg aG6) .ret))⟩
/-! horarium/proc.New -/
@[go_sem] def aHr:=k 0xaa50
@[go_sem] def aHs:=k 0x666607f5381acd09875a838fa972892b15999cb9c
@[go_sem] def aHt:=k 0xaa50
@[go_sem] def aHu:=k 0x2c070b869a5c810
@[go_sem] def aHv:=k 0x10b61ae6a13c
@[go_sem] def aHw:=k 0x15082d14
@[go_sem] def aHx:=k 0x961a68a5d96d4520507e4
@[go_sem] def aHy:=kd 0xdfba80be7c34f6e09cb9ba99a8b347bcfda2a5109cbf5d08aaadb2a4c7adc383d0f35278c2bd9
@[go_sem] def aHz:=k 0xb04c47057ddf79
def nU:TC:=(.seq (.reg aHw) (.seq (.cond (.t 19) .skip (.exit 0)) (.seq (.block 1 (.seq (.reg aHx) (.dreg aHy))) (.reg aHz))))
@[go_sem] def yZ:=k 0x2d09e17cf6fed
def NJ:TF:=⟨36,[.t 2],(.seq (.reg aHr) (.seq (.seq (.reg aHs) (.cond (.t 13) (.seq (.reg aHt) .ret) .skip)) (.seq (.reg aHu) (.seq (.seq (.reg aHv) (.block 0 (.loop nU))) (.seq (.reg yZ) .ret)))))⟩
/-! (*horarium/part.Part).begin -/
@[go_sem] def aHA:=k 0xd3823abbcb37bffb3434fa7c
@[go_sem] def aHB:=k 0x9a9bb1359654794b654c
@[go_sem] def aHC:=kd 0x67ec596c05ea748126310f60d33601332dc157f39af3b6e4a31e757bb2d671c36f8
@[go_sem] def aHD:=k 0x1d396704
@[go_sem] def aHE:=k 0x67021c50d9100611641d4
@[go_sem] def aHF:=kd 0x10f372d9cc36346145baea066d5e7743c71087dbd625f13c02bd5749743c10ed9a7743eae2c3a9
@[go_sem] def aHG:=k 0xd4da8e1c3edb69
def Ul:TC:=(.seq (.reg aHD) (.seq (.cond (.t 26) .skip (.exit 0)) (.seq (.block 1 (.seq (.reg aHE) (.dreg aHF))) (.reg aHG))))
@[go_sem] def aHH:=k 0x1565b1304dd3ab7c95ac746ffdd
def NK:TF:=⟨46,[],(.seq (.reg aHA) (.seq (.reg aHB) (.seq (.seq (.dreg aHC) (.block 0 (.loop Ul))) (.reg aHH))))⟩
/-! (*horarium/proc.Table).Pick -/
@[go_sem] def aHI:=k 0x13a88
@[go_sem] def aHJ:=k 0xfdaf016dc281eef1e7cd54755ccb7a1cbc
@[go_sem] def aHK:=k 0x187926155b2bc6b0213e61d01c
@[go_sem] def aHL:=k 0x1633c7a4
@[go_sem] def aHM:=k 0x83879754457ad4a3b8300fdb50b620c
@[go_sem] def aHN:=k 0x1545bd29f55eea2f8180e4611d217467865bae75ea80cd7e1c1
@[go_sem] def aHO:=k 0x10305cd56c4d9466f1498de26cd
@[go_sem] def aHP:=k 0xc4f2295b0801b9
def Um:TC:=(.seq (.reg aHL) (.seq (.cond (.t 20) .skip (.exit 0)) (.seq (.block 1 (.seq (.reg aHM) (.seq (.reg aHN) (.cond (.t 32) (.reg aHO) .skip)))) (.reg aHP))))
@[go_sem] def aHQ:=k 0xe931a1391262dda2d
@[go_sem] def zA:=k 0x13b10
@[go_sem] def zB:=k 0x151be5102bbd580d0c7a644b3dd
def NL:TF:=⟨46,[.t 4],(.seq (.reg aHI) (.seq (.reg aHJ) (.seq (.seq (.reg aHK) (.block 0 (.loop Um))) (.seq (.seq (.reg aHQ) (.cond (.t 41) (.seq (.reg zA) .ret) .skip)) (.seq (.reg zB) .ret)))))⟩
/-! horarium/isa.Fetch -/
@[go_sem] def aHR:=k 0x6e145c
@[go_sem] def aHS:=k 0x9d55af931b67a449d53d2dcd2a2a4ad306a3e424c940beba56da07d40f6c4e9e5cc111d9c
@[go_sem] def aHT:=k 0xf8dca522c6fbac
@[go_sem] def aHU:=kd 0x1e2e84d8c72e7827b933c6a1ebc1b12d9f42a0dbb33573afed052c04bacb3116aeabdf0673e765ea5b16fc6dc56ae2a34f5e68fc1417ed3394914d1805174f7ebf5905487413629
def NM:TF:=⟨45,[.cell 4 4 true,.t 5],(.seq (.reg aHR) (.seq (.seq (.reg aHS) (.cond (.t 19) (.seq (.reg aHT) .ret) .skip)) (.seq (.dreg aHU) .ret)))⟩
/-! horarium/isa.Right -/
@[go_sem] def aHV:=k 0xd9b6108
@[go_sem] def aHW:=k 0x2a1fc090adc7ad61d8dfcd4747c1d638bae77e0fa7e0532630
@[go_sem] def aHX:=k 0x11a2b999f73095b374e86fad403a4013a5439fb38d8adc039f366864ef9b69ef6c463185e4d3f544a39c57e56c70135a89867a67233faf80081273a380bfb0c5a72f6b25294cdf3d6ec855eb91
def NN:TF:=⟨39,[.t 2],(.seq (.reg aHV) (.seq (.reg aHW) (.seq (.reg aHX) .ret)))⟩
/-! (*horarium/part.Part).do -/
@[go_sem] def aHY:=k 0x1041b38c1dd8
@[go_sem] def aHZ:=k 0x2c477a6583c6958e55e2ad2602277090878c
@[go_sem] def aH0:=k 0x30d9d603e6f0
@[go_sem] def aH1:=k 0x748cd339466b4
@[go_sem] def aH2:=k 0x79b12779dc144
@[go_sem] def aH3:=k 0x7ed57bba71bd4
@[go_sem] def aH4:=k 0x83f9cffb07664
@[go_sem] def aH5:=k 0x891e243b9d0f4
@[go_sem] def aH6:=k 0x8e4278802a984
@[go_sem] def aH7:=k 0x9366ccc0c0414
@[go_sem] def zC:=k 0x6c5c16483cb12956e4f59f08d6de3bc64b90668ca4098508d
@[go_sem] def zD:=k 0xc12b7b80eb6d25
@[go_sem] def zE:=k 0xc64fcfc0fdd9b5
@[go_sem] def zF:=k 0x782608672335609bb0a0e85322119822c4b409b262d
@[go_sem] def zG:=k 0xf02b8d9a124235
@[go_sem] def zH:=k 0x7f248be6a2c33275c17081ae19d92e8771aad
@[go_sem] def zI:=k 0x119f2ba2226aab5
@[go_sem] def zJ:=kd 0xfbecaa291461e2a13af37a49e8dc66562017a42fedf89
@[go_sem] def zK:=k 0x14a0c95ddaffb36e154dae3fe128333ec80553ae
@[go_sem] def zL:=k 0x16ab80e4224ebfb6
@[go_sem] def zM:=kd 0xb4217d4e262bdbc6ce60a6582468bcc710cb2a24bbf2c3abfdd5c0757cecb0fed0396f32724657dcd0805257540e8323d4ea8a
@[go_sem] def zN:=k 0x1cd2db383b521a66
@[go_sem] def zO:=k 0x31c715f775140a596a199678e3066b59ade
@[go_sem] def zP:=k 0x1f6a29ac7a7aaee6
@[go_sem] def zQ:=k 0x1fbc6ef07a9f3f76
@[go_sem] def zR:=k 0x200eb4347b0c6006
@[go_sem] def zS:=k 0x2060f9787b30f096
@[go_sem] def zT:=k 0x296886ff4f0bc75d11e8d9c1259c67118324ee5bc938f8e5cb90e
@[go_sem] def zU:=k 0x395a74
def Cl:TF:=⟨108,[.t 10,.t 11],(.seq (.reg aHY) (.seq (.reg aHZ) (.seq (.seq (.reg aH0) (.block 0 (.seq (.seq (.reg aH1) (.cond (.t 21) .skip (.seq (.reg aH2) (.cond (.t 21) .skip (.seq (.reg aH3) (.cond (.t 21) .skip (.seq (.reg aH4) (.cond (.t 21) .skip (.seq (.reg aH5) (.cond (.t 21) .skip (.seq (.reg aH6) (.cond (.t 21) .skip (.reg aH7))))))))))))) (.cond (.t 21) (.seq (.reg zC) .ret) (.seq (.seq (.reg zD) (.cond (.t 36) .skip (.reg zE))) (.cond (.t 36) (.seq (.reg zF) .ret) (.seq (.reg zG) (.cond (.t 45) (.reg zH) (.seq (.reg zI) (.cond (.t 53) (.seq (.dreg zJ) (.cond (.t 62) (.reg zK) .skip)) (.seq (.reg zL) (.cond (.t 69) (.dreg zM) (.seq (.reg zN) (.cond (.t 88) (.reg zO) (.seq (.seq (.reg zP) (.cond (.t 96) .skip (.seq (.reg zQ) (.cond (.t 96) .skip (.seq (.reg zR) (.cond (.t 96) .skip (.reg zS))))))) (.cond (.t 96) (.seq (.reg zT) .ret) .skip)))))))))))))))) (.seq (.reg zU) .ret))))⟩
/-! (*horarium/part.Part).fails -/
@[go_sem] def aH8:=k 0xa4cb8
@[go_sem] def aH9:=kd 0xe6f572cc5780e76ec172a3d288606b60086deba29b79ca682d80cd8
@[go_sem] def aIa:=kd 0x2564b78167837c120f7dcd7fc77567ae7c8977926845a9b10c13e4c08
@[go_sem] def aIb:=k 0x89c2af09576f4
@[go_sem] def aIc:=kd 0x14c57ac35e9aad84550f90a902a69d43f562a074de9f28240629052cccd1f76049
@[go_sem] def aId:=k 0xc6646123b501b5
@[go_sem] def aIe:=k 0xc8ab6b1262d
def NO:TF:=⟨41,[],(.seq (.reg aH8) (.seq (.dreg aH9) (.seq (.dreg aIa) (.block 0 (.seq (.reg aIb) (.cond (.t 25) (.dreg aIc) (.seq (.reg aId) (.cond (.t 37) (.reg aIe) .skip))))))))⟩
/-! (*horarium/health.Log).Stopped -/
@[go_sem] def aIf:=k 0xa980
@[go_sem] def aIg:=k 0x16c175640e9cc6975a7663b1ec
def NP:TF:=⟨7,[.t 2],(.seq (.reg aIf) (.seq (.reg aIg) .ret))⟩
/-! slices.Equal[[]horarium/part.state,horarium/part.state] -/
@[go_sem] def aIh:=k 0x13aa0
@[go_sem] def aIi:=k 0xda46a1e7d096e8b49bd9cb9c
@[go_sem] def aIj:=k 0x13aa0
@[go_sem] def aIk:=k 0x104f4450366c
@[go_sem] def aIl:=k 0xf2e2844
@[go_sem] def aIm:=k 0x26fe2d7102ac
@[go_sem] def aIn:=kd 0x1712f0525fb42bcc64236da8061361e4b9d6f3345f2fdb8
@[go_sem] def aIo:=k 0x13aa0
@[go_sem] def aIp:=k 0x82b0ba6a58068
def nV:TC:=(.seq (.reg aIl) (.seq (.cond (.t 14) .skip (.exit 0)) (.seq (.block 1 (.seq (.reg aIm) (.seq (.dreg aIn) (.cond (.t 24) (.seq (.reg aIo) .ret) .skip)))) (.reg aIp))))
@[go_sem] def zV:=k 0x13afc
def NQ:TF:=⟨26,[.t 4],(.seq (.reg aIh) (.seq (.seq (.reg aIi) (.cond (.t 10) (.seq (.reg aIj) .ret) .skip)) (.seq (.seq (.reg aIk) (.block 0 (.loop nV))) (.seq (.reg zV) .ret))))⟩
/-! (*horarium/proc.Table).Same -/
@[go_sem] def aIq:=k 0x13aa0
@[go_sem] def aIr:=kd 0x45b36c54e60e93f3b6dc6d1774154d307d8f530e084abf775b28
def NR:TF:=⟨14,[.t 4],(.seq (.reg aIq) (.seq (.dreg aIr) .ret))⟩
/-! slices.Equal[[]horarium/health.Fault,horarium/health.Fault] -/
@[go_sem] def aIw:=k 0x13aa0
@[go_sem] def aIx:=k 0xda46a1e7d096e8b49bd9cb9c
@[go_sem] def aIy:=k 0x13aa0
@[go_sem] def aIz:=k 0x104f4450366c
@[go_sem] def aIA:=k 0xf2e2844
@[go_sem] def aIB:=k 0x26fe2d7102ac
@[go_sem] def aIC:=kd 0x1712f15a757e8ff42434695a590da1c573ec2a88512fdb8
@[go_sem] def aID:=k 0x13aa0
@[go_sem] def aIE:=k 0x82b0ba6a58068
def nX:TC:=(.seq (.reg aIA) (.seq (.cond (.t 14) .skip (.exit 0)) (.seq (.block 1 (.seq (.reg aIB) (.seq (.dreg aIC) (.cond (.t 24) (.seq (.reg aID) .ret) .skip)))) (.reg aIE))))
@[go_sem] def zW:=k 0x13afc
def NS:TF:=⟨26,[.t 4],(.seq (.reg aIw) (.seq (.seq (.reg aIx) (.cond (.t 10) (.seq (.reg aIy) .ret) .skip)) (.seq (.seq (.reg aIz) (.block 0 (.loop nX))) (.seq (.reg zW) .ret))))⟩
/-! (*horarium/part.Part).Faults -/
@[go_sem] def aIF:=k 0xa990
@[go_sem] def aIG:=k 0x3c18dac2bd02f2b347bdbe9663b1ec
def NT:TF:=⟨8,[.t 2],(.seq (.reg aIF) (.seq (.reg aIG) .ret))⟩
/-! (*horarium/horariumkeep.Tape).Table -/
@[go_sem] def aIH:=k 0x1cbd0
@[go_sem] def aII:=k 0x8e96a6a7dcb47366c
@[go_sem] def aIJ:=k 0x20fdd635ca736d629b917e408744d2b8c
@[go_sem] def aIK:=k 0x30d92ad938ec
@[go_sem] def aIL:=k 0x35867655dd75cef5ee13c50d888970c0c
@[go_sem] def aIM:=k 0x6678cf5cd9611766e9d7e20a2e3134eebe915de657e88ce676dd
@[go_sem] def aIN:=k 0x2bbf175e1b75d
@[go_sem] def aIO:=k 0x34007618268a99610a03ac2b43453f8b0c8f588e3f38f5658673cecab8a490e8a4c7d
@[go_sem] def aIP:=k 0x512f74168ddb288acced16aad
@[go_sem] def aIQ:=k 0x158ac97a60595d4be02a645d
@[go_sem] def zX:=k 0x2ede8
@[go_sem] def zY:=k 0x139e69b76b6d7f860d
@[go_sem] def zZ:=k 0x15dea4156af022d49bcf399862a17ead40bcdd0fdaefc310de
@[go_sem] def aAa:=k 0x534f828e245eb635fbd
def Un:TC:=(.seq (.seq (.reg zY) (.cond (.t 55) .skip (.exit 0))) (.seq (.block 1 (.reg zZ)) (.reg aAa)))
@[go_sem] def aAb:=k 0x29cf50efd50cce
def Kc:TF:=⟨66,[.t 6],(.seq (.reg aIH) (.seq (.reg aII) (.seq (.seq (.reg aIJ) (.cond (.t 18) (.seq (.seq (.reg aIK) (.cond (.t 20) (.seq (.reg aIL) .ret) .skip)) (.seq (.reg aIM) .ret)) .skip)) (.seq (.seq (.reg aIN) (.cond (.t 35) (.seq (.reg aIO) .ret) .skip)) (.seq (.reg aIP) (.seq (.reg aIQ) (.seq (.seq (.reg zX) (.block 0 (.loop Un))) (.seq (.reg aAb) .ret))))))))⟩
/-! horarium/horariumref3.Of -/
@[go_sem] def aIR:=k 0x371590
@[go_sem] def aIS:=k 0x299935c1860b4b9c
@[go_sem] def aIT:=k 0x14917d5e64bc
@[go_sem] def aIU:=k 0x1d26b104b6835dc
@[go_sem] def aIV:=k 0xae0f042f94a9ade3f66c
@[go_sem] def aIW:=k 0x2bcfdcda0b16a1c
@[go_sem] def aIX:=k 0x1edd6ad90
@[go_sem] def aIY:=k 0x21984657603cc
def NU:TF:=⟨18,[.t 2,.t 3],(.seq (.reg aIR) (.seq (.seq (.reg aIS) (.seq (.reg aIT) (.cond (.t 9) (.seq (.reg aIU) .ret) .skip))) (.seq (.reg aIV) (.seq (.seq (.reg aIW) (.cond (.t 16) (.seq (.reg aIX) .ret) .skip)) (.seq (.reg aIY) .ret)))))⟩
/-! horarium/horariumref3.Total -/
@[go_sem] def aIZ:=k 0xa968
@[go_sem] def aI0:=k 0xf1f8
@[go_sem] def aI1:=k 0xfe86db9cb9c
@[go_sem] def aI2:=k 0x9542374
@[go_sem] def aI3:=k 0x8dd744ed8dacea110fe44
@[go_sem] def aI4:=k 0x71315a1f5a225318995a95cb4fc
@[go_sem] def aI5:=k 0x539c16a57b358
def nY:TC:=(.seq (.reg aI2) (.seq (.cond (.t 9) .skip (.exit 0)) (.seq (.block 1 (.seq (.reg aI3) (.reg aI4))) (.reg aI5))))
@[go_sem] def aI6:=k 0x2be4cd63dfcc
def NV:TF:=⟨18,[.t 2],(.seq (.reg aIZ) (.seq (.reg aI0) (.seq (.seq (.reg aI1) (.block 0 (.loop nY))) (.seq (.reg aI6) .ret))))⟩
/-! horarium/horariumref7.Late -/
@[go_sem] def aI7:=k 0x1cba8
@[go_sem] def aI8:=k 0x64718652b574213c
@[go_sem] def aI9:=k 0xf6dd695cc8
@[go_sem] def aJa:=k 0x10df3dc8b05c
@[go_sem] def aJb:=k 0x175f6234
@[go_sem] def aJc:=k 0x110aab7078254c3ce4
@[go_sem] def aJd:=k 0xcb03f08d48af5a9ceedc72dc441be07f5094332157d93e62b3c75b2801aa7e0c85b251a529bd
@[go_sem] def aJe:=k 0xbabe1230907099
def nZ:TC:=(.seq (.reg aJb) (.seq (.cond (.t 21) .skip (.exit 0)) (.seq (.block 1 (.seq (.reg aJc) (.reg aJd))) (.reg aJe))))
@[go_sem] def aJf:=k 0xbe46be2fd0d
@[go_sem] def aAc:=k 0x1cba8
@[go_sem] def aAd:=k 0xc88f6596a2d
@[go_sem] def aAe:=k 0x1cc30
@[go_sem] def aAf:=k 0x889522b6b34d
@[go_sem] def aAg:=k 0xc6097925
@[go_sem] def aAh:=k 0x580ebaeec6986fafc97b3dc1e58d
@[go_sem] def aAi:=k 0x11c4bfa58305eaab3d
@[go_sem] def aAj:=k 0xd6ab8
@[go_sem] def aAk:=k 0xee8950cc4de02134adfd5f90febe3a3cf0be91b23f8a9c26e6619c88ed
@[go_sem] def aAl:=k 0x5c2b5190cead1bfc71d
def Uo:TC:=(.seq (.seq (.reg aAk) (.cond (.t 61) .skip (.exit 4))) (.block 5 (.reg aAl)))
@[go_sem] def aAm:=k 0x6d2b629b1c2871a481b907c3e
@[go_sem] def aAn:=k 0x15a3fb07f2435e0a
def Up:TC:=(.seq (.reg aAg) (.seq (.cond (.t 44) .skip (.exit 2)) (.seq (.block 3 (.seq (.reg aAh) (.seq (.seq (.reg aAi) (.cond (.t 50) (.exit 3) .skip)) (.seq (.reg aAj) (.seq (.block 4 (.loop Uo)) (.reg aAm)))))) (.reg aAn))))
@[go_sem] def aAo:=k 0x2bbcf087b19e7e
def NW:TF:=⟨69,[.t 6],(.seq (.reg aI7) (.seq (.reg aI8) (.seq (.reg aI9) (.seq (.seq (.reg aJa) (.block 0 (.loop nZ))) (.seq (.seq (.reg aJf) (.cond (.t 38) (.seq (.reg aAc) .ret) .skip)) (.seq (.seq (.reg aAd) (.cond (.t 40) (.seq (.reg aAe) .ret) .skip)) (.seq (.seq (.reg aAf) (.block 2 (.loop Up))) (.seq (.reg aAo) .ret))))))))⟩
/-! horarium/horariumref7.Budget -/
@[go_sem] def aJg:=k 0x1cba8
@[go_sem] def aJh:=k 0x52f434845180478c
@[go_sem] def aJi:=k 0x848065f2a0935f898d647c184045f12c2172d015400290c927bc7dc39e2d92e7e88dbcac
@[go_sem] def aJj:=k 0x1cc30
@[go_sem] def aJk:=k 0x160d3c3552de61f48c
@[go_sem] def aJl:=k 0x2a558
@[go_sem] def aJm:=k 0x34140210d9557ffb2325ad
@[go_sem] def aJn:=k 0x2ede8
@[go_sem] def aJo:=k 0x101189eb37f76eac1b8c442d393613d7f488d99d
@[go_sem] def aJp:=k 0xcf405245
@[go_sem] def aAp:=k 0x463d2e371501080bef5
@[go_sem] def aAq:=k 0x12237b8c4976c6abcd
@[go_sem] def aAr:=k 0x4d7b1203700a7623d7d
@[go_sem] def aAs:=k 0x1194e300af68ab9
def Uq:TC:=(.seq (.reg aJp) (.seq (.cond (.t 46) .skip (.exit 2)) (.seq (.block 3 (.seq (.reg aAp) (.seq (.reg aAq) (.cond (.t 51) (.reg aAr) .skip)))) (.reg aAs))))
@[go_sem] def aAt:=k 0x1799eb63135ff434d8e3cf2d
@[go_sem] def aAu:=k 0xf586eaa875f102684d047ed
def Ur:TC:=(.seq (.seq (.reg aJm) (.cond (.t 34) .skip (.exit 0))) (.seq (.block 1 (.seq (.reg aJn) (.seq (.seq (.reg aJo) (.block 2 (.loop Uq))) (.reg aAt)))) (.reg aAu)))
@[go_sem] def aAv:=k 0x4aaf57440a8dd
def NX:TF:=⟨59,[.t 6],(.seq (.reg aJg) (.seq (.reg aJh) (.seq (.seq (.reg aJi) (.cond (.t 28) (.seq (.reg aJj) .ret) .skip)) (.seq (.reg aJk) (.seq (.seq (.reg aJl) (.block 0 (.loop Ur))) (.seq (.reg aAv) .ret))))))⟩
/-! horarium/horariumref12.Right -/
@[go_sem] def aJq:=k 0x6cde108
@[go_sem] def aJr:=k 0x15ad599b8226ba0451b362196cf1b71d5df4
@[go_sem] def aJs:=k 0x19e5a681e3dc
def NY:TF:=⟨11,[.t 2],(.seq (.reg aJq) (.seq (.reg aJr) (.seq (.reg aJs) .ret)))⟩
/-! horarium/config.Where -/
@[go_sem] def aJt:=k 0xf6d038de108
@[go_sem] def aJu:=k 0x11a6c5a4ba5c8424d0e62d94638af40a7bf3454bc4da93a3aa3d547a2b4d02276f57869b88acb491cc7ffd87686b127364313abd0d782f43bd08959b10a3269d4d2514ba86c8dd9b8c45226555a71
@[go_sem] def aJv:=k 0x6e95f68
@[go_sem] def aJw:=k 0x9a7dd21833025d4a31
@[go_sem] def aJx:=k 0xc16e0c95
@[go_sem] def aJy:=k 0xc2b9b1cd926986b24c6e5aa118fba78fd
@[go_sem] def aJz:=k 0x3a88fd63632b496b75b7ef101647720bf974c11049914c641007e233e84aa81eb1
@[go_sem] def aJA:=k 0x157f6f8ec39183616d
@[go_sem] def aJB:=k 0x58e9a050913acead
@[go_sem] def aJC:=k 0x16f48bc4b8e28483ad
@[go_sem] def aAw:=k 0x14ac86b1581e845a
def Us:TC:=(.seq (.reg aJx) (.seq (.cond (.t 43) .skip (.exit 0)) (.seq (.block 1 (.seq (.reg aJy) (.seq (.seq (.reg aJz) (.cond (.t 58) (.seq (.reg aJA) .ret) .skip)) (.seq (.reg aJB) (.cond (.t 62) (.seq (.reg aJC) .ret) .skip))))) (.reg aAw))))
@[go_sem] def aAx:=k 0x12fe194f1099f45accd2
@[go_sem] def aAy:=k 0x4db227f36
@[go_sem] def aAz:=k 0x202697fd44b361ae5990c49090e7e24b0f9e
@[go_sem] def aAA:=k 0xf7e27b18caac476b2dd11a6
@[go_sem] def aAB:=k 0x1c0e6d9ec4f51979b8e
@[go_sem] def aAC:=k 0x193d067cffca7c3a
def Ut:TC:=(.seq (.reg aAy) (.seq (.cond (.t 69) .skip (.exit 2)) (.seq (.block 3 (.seq (.reg aAz) (.seq (.reg aAA) (.cond (.t 76) (.seq (.reg aAB) .ret) .skip)))) (.reg aAC))))
@[go_sem] def aAD:=k 0x134fb77f5e0d7682c4b2
@[go_sem] def aAE:=k 0x5db1a6716
@[go_sem] def aAF:=k 0x509009e17835b028a63fd8c7caf77e
@[go_sem] def aAG:=k 0x9333a30fdd3bca80cbc390986
@[go_sem] def aAH:=k 0x39d8b695006ade
@[go_sem] def aAI:=k 0x1335bde3959ea76d1870fbfe
@[go_sem] def aAJ:=k 0x1e6a5a516dc7053a
def Uu:TC:=(.seq (.reg aAE) (.seq (.cond (.t 83) .skip (.exit 4)) (.seq (.block 5 (.seq (.reg aAF) (.seq (.reg aAG) (.seq (.reg aAH) (.cond (.t 91) (.seq (.reg aAI) .ret) .skip))))) (.reg aAJ))))
@[go_sem] def aAK:=k 0x2d5aa968
def NZ:TF:=⟨95,[.t 2,.t 3],(.seq (.reg aJt) (.seq (.seq (.reg aJu) (.cond (.t 38) (.seq (.reg aJv) .ret) .skip)) (.seq (.seq (.reg aJw) (.block 0 (.loop Us))) (.seq (.seq (.reg aAx) (.block 2 (.loop Ut))) (.seq (.seq (.reg aAD) (.block 4 (.loop Uu))) (.seq (.reg aAK) .ret))))))⟩
/-! slices.Clip[[]horarium/api.Proc,horarium/api.Proc] -/
@[go_sem] def aJD:=k 0xa990
@[go_sem] def aJE:=k 0x1371574ddc1992a960ded593c732b667b1ec
def Kd:TF:=⟨9,[.t 2],(.seq (.reg aJD) (.seq (.reg aJE) .ret))⟩
/-! slices.Clone[[]horarium/api.Proc,horarium/api.Proc] -/
@[go_sem] def aJF:=k 0xa990
@[go_sem] def aJG:=k 0x3e0473b1ec
@[go_sem] def aJH:=k 0xa990
@[go_sem] def aJI:=k 0x5d8066aa26928a17b9f0
def Ke:TF:=⟨8,[.t 2],(.seq (.reg aJF) (.seq (.seq (.reg aJG) (.cond (.t 4) (.seq (.reg aJH) .ret) .skip)) (.seq (.reg aJI) .ret)))⟩
/-! slices.Clip[[]horarium/api.Chan,horarium/api.Chan] -/
@[go_sem] def aJJ:=k 0xa990
@[go_sem] def aJK:=k 0x1371574ddc2bb905ec47d5731332b667b1ec
def N0:TF:=⟨9,[.t 2],(.seq (.reg aJJ) (.seq (.reg aJK) .ret))⟩
/-! slices.Clone[[]horarium/api.Chan,horarium/api.Chan] -/
@[go_sem] def aJL:=k 0xa990
@[go_sem] def aJM:=k 0x3e0473b1ec
@[go_sem] def aJN:=k 0xa990
@[go_sem] def aJO:=k 0x5d8066aa2a44a6a5b9f0
def N1:TF:=⟨8,[.t 2],(.seq (.reg aJL) (.seq (.seq (.reg aJM) (.cond (.t 4) (.seq (.reg aJN) .ret) .skip)) (.seq (.reg aJO) .ret)))⟩
/-! slices.Clip[[]horarium/api.Node,horarium/api.Node] -/
@[go_sem] def aJP:=k 0xa990
@[go_sem] def aJQ:=k 0x1371574ddc2bd6ffe9e075a7b732b667b1ec
def Kf:TF:=⟨9,[.t 2],(.seq (.reg aJP) (.seq (.reg aJQ) .ret))⟩
/-! slices.Clone[[]horarium/api.Node,horarium/api.Node] -/
@[go_sem] def aJR:=k 0xa990
@[go_sem] def aJS:=k 0x3e0473b1ec
@[go_sem] def aJT:=k 0xa990
@[go_sem] def aJU:=k 0x5d8066aa284275bcb9f0
def Kg:TF:=⟨8,[.t 2],(.seq (.reg aJR) (.seq (.seq (.reg aJS) (.cond (.t 4) (.seq (.reg aJT) .ret) .skip)) (.seq (.reg aJU) .ret)))⟩
/-! (*horarium/proc.Table).Reset -/
@[go_sem] def aJV:=k 0x172f679e61d2d71d391663b1ec
@[go_sem] def aJW:=k 0x9542374
@[go_sem] def aJX:=k 0x19e5a6af3ddc
@[go_sem] def aJY:=kd 0x786170a025d78e4a26d046d1fc37fa5981e406169ccba48166974ed3a03b146ea6fb0381b09ea64473bb8548
@[go_sem] def aJZ:=k 0x81e30ce5a4068
def oA:TC:=(.seq (.reg aJW) (.seq (.cond (.t 9) .skip (.exit 0)) (.seq (.block 1 (.seq (.reg aJX) (.dreg aJY))) (.reg aJZ))))
def N2:TF:=⟨26,[],(.seq (.reg aJV) (.block 0 (.loop oA)))⟩
/-! container/heap.Push -/
@[go_sem] def aJ0:=k 0x183df99b3ad8fa7c
@[go_sem] def aJ1:=k 0x1b68754f541f97ba730968d42c
def N7:TF:=⟨12,[],(.seq (.reg aJ0) (.reg aJ1))⟩
/-! (*horarium/proc.ready).Len -/
@[go_sem] def aJ2:=k 0xa968
@[go_sem] def aJ3:=k 0x3c18dac0f4ef3e6a939d391663b1ec
def N8:TF:=⟨8,[.t 2],(.seq (.reg aJ2) (.seq (.reg aJ3) .ret))⟩
/-! container/heap.Pop -/
@[go_sem] def aJ4:=k 0xab94
@[go_sem] def aJ5:=k 0xa163de8a68ad205693a7c
@[go_sem] def aJ6:=k 0x51b5a9c3cf73bd42c
@[go_sem] def aJ7:=k 0x74b90bb71a6dcaddc
@[go_sem] def aJ8:=k 0x520b02f02bcf078c
def N9:TF:=⟨15,[.t 2],(.seq (.reg aJ4) (.seq (.reg aJ5) (.seq (.reg aJ6) (.seq (.reg aJ7) (.seq (.reg aJ8) .ret)))))⟩
/-! horarium/isa.regs -/
@[go_sem] def aJ9:=k 0x7b6ebe180
@[go_sem] def aKa:=k 0x1830c
@[go_sem] def aKb:=k 0x2502daeae6644
@[go_sem] def aKc:=k 0x2a272f2f73ed4
@[go_sem] def aKd:=k 0x2f4b837009964
@[go_sem] def aKe:=k 0x346fd7b1c17f4
@[go_sem] def aKf:=k 0x39942bf257284
@[go_sem] def aKg:=k 0x3eb88032ecd14
@[go_sem] def aKh:=k 0x7b6ebe1dc
@[go_sem] def aKi:=k 0x4a211b1997434
@[go_sem] def aAL:=k 0x4f456f5a2cec4
@[go_sem] def aAM:=k 0x5469c39ac2954
@[go_sem] def aAN:=k 0x598e17db583e4
@[go_sem] def aAO:=k 0x16802eb7dc
@[go_sem] def aAP:=k 0x64a46d85f2704
@[go_sem] def aAQ:=k 0x69c8c1c688194
@[go_sem] def aAR:=k 0x7b7bc7fdc
@[go_sem] def aAS:=k 0x748cd22ed5ab4
@[go_sem] def aAT:=k 0x79b1266f6b544
@[go_sem] def aAU:=k 0x7b7bc7f80
@[go_sem] def aAV:=k 0x7b6ebe180
def Oa:TF:=⟨24,[.t 2,.t 3,.t 4],(.seq (.reg aJ9) (.seq (.seq (.reg aKa) (.block 0 (.seq (.seq (.reg aKb) (.cond (.t 6) .skip (.seq (.reg aKc) (.cond (.t 6) .skip (.seq (.reg aKd) (.cond (.t 6) .skip (.seq (.reg aKe) (.cond (.t 6) .skip (.seq (.reg aKf) (.cond (.t 6) .skip (.reg aKg))))))))))) (.cond (.t 6) (.seq (.reg aKh) .ret) (.seq (.seq (.reg aKi) (.cond (.t 13) .skip (.seq (.reg aAL) (.cond (.t 13) .skip (.seq (.reg aAM) (.cond (.t 13) .skip (.reg aAN))))))) (.cond (.t 13) (.seq (.reg aAO) .ret) (.seq (.seq (.reg aAP) (.cond (.t 18) .skip (.reg aAQ))) (.cond (.t 18) (.seq (.reg aAR) .ret) (.seq (.seq (.reg aAS) (.cond (.t 21) .skip (.reg aAT))) (.cond (.t 21) (.seq (.reg aAU) .ret) .skip)))))))))) (.seq (.reg aAV) .ret)))⟩
/-! horarium/isa.field -/
@[go_sem] def aKj:=k 0x13aa0
@[go_sem] def aKk:=k 0x3ba1e2a4ab370ee48e1b788ba338b40e13e9a40a98c2ce38c3c2618ebba516e464b246022e9830c
def Kh:TF:=⟨19,[.t 4],(.seq (.reg aKj) (.seq (.reg aKk) .ret))⟩
/-! (*horarium/part.Part).count -/
@[go_sem] def aKl:=k 0x101890e9d548
@[go_sem] def aKm:=k 0x47d73ddc6bba1140
@[go_sem] def aKn:=k 0x216cd9392190
@[go_sem] def aKo:=k 0x54bc0980e4554
@[go_sem] def aKp:=kd 0x5843e784b0209bb8070a1e79d3bdd8dcf3f3066b26e3b79af998e5eb3aeaa4500be377d098419f3db68
@[go_sem] def aKq:=k 0xac47e5217ddee5
@[go_sem] def aKr:=kd 0x87b6f7ef5a30da66d3ec40be99d889a875578da106d7763a315ed29c36979c73485798acc928b7c60e4f71419
@[go_sem] def aKs:=k 0x1050f23c294d475
@[go_sem] def aKt:=kd 0xb7644630134df0b137d48f139f14acce6cc4a96f526d4de8f35dde9f2840fd4bbfb2ffb9347eb98f8fd8b679950b8ca
@[go_sem] def aKu:=k 0x15b2c3781cc07e06
@[go_sem] def aAW:=kd 0x98cb1d7b7e7def682d4008306a3527bfb5c11c833899857a
@[go_sem] def aAX:=k 0x29262e954
@[go_sem] def aAY:=kd 0xfdd6e70d8af957ee1e42bb84e165adb1576f5a27790fb2f4defc5ba0dedc59526506c1b07d1f8c2dffaa497a40712fa
@[go_sem] def aAZ:=k 0x1dcb98a365e9d416
@[go_sem] def aA0:=k 0x2ee74
@[go_sem] def aA1:=k 0x1c3a5c1a76d273494db6b34e48be07dfaef34c8e
@[go_sem] def aA2:=k 0x90d5003859c9c0952df7138d5827fd76591fea7958707e
@[go_sem] def aA3:=k 0x22fa358be612a516
@[go_sem] def aA4:=k 0x281c0d79dc11207d58e
@[go_sem] def aA5:=kd 0xb7ec9273bd7c0feaaeb3a2bbadbad2d653e8671a973c1b065e0a
@[go_sem] def aA6:=k 0x239822942285a9e
def Cm:TF:=⟨119,[.t 8,.t 9],(.seq (.reg aKl) (.seq (.reg aKm) (.seq (.seq (.reg aKn) (.block 0 (.seq (.reg aKo) (.cond (.t 15) (.dreg aKp) (.seq (.reg aKq) (.cond (.t 32) (.dreg aKr) (.seq (.reg aKs) (.cond (.t 49) (.dreg aKt) (.seq (.reg aKu) (.cond (.t 66) (.seq (.seq (.dreg aAW) (.cond (.t 75) (.seq (.reg aAX) .ret) .skip)) (.dreg aAY)) (.seq (.reg aAZ) (.cond (.t 91) (.seq (.reg aA0) (.seq (.reg aA1) (.cond (.t 99) (.reg aA2) .skip))) (.seq (.reg aA3) (.cond (.t 107) (.reg aA4) .skip)))))))))))))) (.seq (.dreg aA5) (.seq (.reg aA6) .ret)))))⟩
/-! (*horarium/part.Part).word -/
@[go_sem] def aKv:=k 0xfef6e478cb8
@[go_sem] def aKw:=kd 0x13960ea06dc9a65007d2a5fbb27c241fd8ca8647884f23e9d551a5aba266e9134de8
@[go_sem] def aKx:=k 0x1b148065c0c
@[go_sem] def aKy:=k 0x1edd7d034
@[go_sem] def aKz:=k 0x11a04f53634272e530
@[go_sem] def aKA:=kd 0x1b6e8fae0870ad4a4362c409a0ae36c462ced98b5197f5ebc478862010a79e382fcb8bd8699
@[go_sem] def aKB:=kd 0x24565b83c089ab6340cf9a6080ec050fa231b1b93e5d64bdb0359250fe9566e1a63011e02d9
@[go_sem] def aKC:=k 0x108613a958064b14eac204886219ed44f6c9445d
def G7:TF:=⟨56,[.t 6,.t 7],(.seq (.reg aKv) (.seq (.dreg aKw) (.seq (.seq (.reg aKx) (.cond (.t 22) (.seq (.reg aKy) .ret) .skip)) (.seq (.seq (.reg aKz) (.cond (.t 25) (.dreg aKA) (.dreg aKB))) (.seq (.reg aKC) .ret)))))⟩
/-! horarium/isa.Imm -/
@[go_sem] def aKD:=k 0x2e7ca108
@[go_sem] def aKE:=k 0xf97afef0eef0858a82267478c9f1b4a0b8592821683f0
def Ob:TF:=⟨11,[.t 2],(.seq (.reg aKD) (.seq (.reg aKE) .ret))⟩
/-! (*horarium/proc.Table).Sleep -/
@[go_sem] def aKF:=k 0x1cbc0
@[go_sem] def aKG:=k 0x2a45121b63b9d42c
@[go_sem] def aKH:=k 0x1b12c880b530d909412f4d04c2200716e2c89e471caddc
@[go_sem] def aKI:=k 0x21604ae72fd7247d3cf25c
def Oc:TF:=⟨21,[.t 6],(.seq (.reg aKF) (.seq (.seq (.reg aKG) (.cond (.t 9) (.reg aKH) .skip)) (.seq (.reg aKI) .ret)))⟩
/-! (*horarium/proc.Table).End -/
@[go_sem] def aKJ:=k 0x13aa0
@[go_sem] def aKK:=k 0x1e3eea07eab9430c
@[go_sem] def aKL:=k 0x50760871b89e334fa7501738cbfa475ccb7a1cbc
@[go_sem] def aKM:=k 0x1c50c4f445fdf747bc18ac
def Od:TF:=⟨18,[.t 4],(.seq (.reg aKJ) (.seq (.seq (.reg aKK) (.cond (.t 7) (.reg aKL) .skip)) (.seq (.reg aKM) .ret)))⟩
/-! (*horarium/part.Part).call -/
@[go_sem] def aKN:=k 0x101890e9d548
@[go_sem] def aKO:=k 0x216cd9392190
@[go_sem] def aKP:=k 0x54bc098842f54
@[go_sem] def aKQ:=kd 0x166517f9d535c6afc852c91c8f98acfca326760ddf9e85954427bbcd5efbd4af293b9554dc56c7feef2f1b4be15a1fb4769
@[go_sem] def aKR:=k 0x37e8fa12b03a63c280c86f7318f99b0bacd
@[go_sem] def aKS:=k 0xcb9d46886b6645
@[go_sem] def aKT:=kd 0x8f9931a0c00c69f2e5fd5f3e6891b18d8eca56f7cd63e39
@[go_sem] def aKU:=k 0x39a2cf0147c3ea5253f28f4e36f32286a1d
@[go_sem] def aKV:=k 0x9ba8803c01624d275cb817676dc4b80da9fbe5fd868ced
@[go_sem] def aKW:=k 0x336ed7154
@[go_sem] def aA7:=k 0x57b2bbd974c96ab8571
@[go_sem] def aA8:=kd 0x4641f27d882cc3ca3be021f18f83ff8afd5462aaf79e075b5a
@[go_sem] def aA9:=kd 0x1638fd87d68e0e822b734c5ef2b303419a99c0470fd0e9a6c36eb879440e38963b372a
@[go_sem] def aBa:=k 0x21fcc84021d041e
@[go_sem] def aBb:=k 0x10727f13990754ec3f9b795891f928aa90cc557bb949fdc3a639d3e
@[go_sem] def aBc:=k 0x6ea3799bd89e
@[go_sem] def aBd:=kd 0x93c3338d88fb8377f59a055dd5b73de28dacd90bccd7a92b673a
@[go_sem] def aBe:=k 0x1a7cc61302fe8266f17d931d028d7cb8f95ae
@[go_sem] def aBf:=k 0x22df06bb247887e
def FG:TF:=⟨101,[.t 8,.t 9],(.seq (.reg aKN) (.seq (.seq (.reg aKO) (.block 0 (.seq (.reg aKP) (.cond (.t 15) (.seq (.dreg aKQ) (.seq (.reg aKR) .ret)) (.seq (.reg aKS) (.cond (.t 38) (.seq (.dreg aKT) (.seq (.reg aKU) .ret)) .skip)))))) (.seq (.seq (.reg aKV) (.cond (.t 58) (.seq (.reg aKW) .ret) .skip)) (.seq (.seq (.reg aA7) (.cond (.t 61) (.seq (.dreg aA8) (.seq (.dreg aA9) (.seq (.reg aBa) .ret))) .skip)) (.seq (.reg aBb) (.seq (.seq (.reg aBc) (.cond (.t 87) (.dreg aBd) .skip)) (.seq (.reg aBe) (.seq (.reg aBf) .ret))))))))⟩
/-! (*horarium/health.Log).Tell -/
@[go_sem] def aKX:=k 0x25cc8
@[go_sem] def aKY:=k 0x9ea6779464bfa71caddc
@[go_sem] def aKZ:=k 0x25d50
@[go_sem] def aK0:=k 0x26d1e9cfef5f8f8034455bf84ca571e7a2a119f415592bad205c17288bb18005cad01c
@[go_sem] def aK1:=k 0x306734147b1b0f19217f6c
@[go_sem] def aK2:=k 0x494e8c33ab4f5ab86317fa70ca1e07991d
@[go_sem] def aK3:=k 0x2d28bb7d447ed
def Oe:TF:=⟨36,[.t 8],(.seq (.reg aKX) (.seq (.seq (.reg aKY) (.cond (.t 13) (.seq (.reg aKZ) .ret) .skip)) (.seq (.reg aK0) (.seq (.reg aK1) (.seq (.reg aK2) (.seq (.reg aK3) .ret))))))⟩
/-! slices.Equal[[]horarium/proc.proc,horarium/proc.proc] -/
@[go_sem] def aK4:=k 0x13aa0
@[go_sem] def aK5:=k 0xda46a1e7d096e8b49bd9cb9c
@[go_sem] def aK6:=k 0x13aa0
@[go_sem] def aK7:=k 0x104f4450366c
@[go_sem] def aK8:=k 0xf2e2844
@[go_sem] def aK9:=k 0x26fe2d7102ac
@[go_sem] def aLa:=kd 0x171303edcc8fcfad4315222bdfbb21c573ec2a88512fdb8
@[go_sem] def aLb:=k 0x13aa0
@[go_sem] def aLc:=k 0x82b0ba6a58068
def oB:TC:=(.seq (.reg aK8) (.seq (.cond (.t 14) .skip (.exit 0)) (.seq (.block 1 (.seq (.reg aK9) (.seq (.dreg aLa) (.cond (.t 24) (.seq (.reg aLb) .ret) .skip)))) (.reg aLc))))
@[go_sem] def aBg:=k 0x13afc
def Og:TF:=⟨26,[.t 4],(.seq (.reg aK4) (.seq (.seq (.reg aK5) (.cond (.t 10) (.seq (.reg aK6) .ret) .skip)) (.seq (.seq (.reg aK7) (.block 0 (.loop oB))) (.seq (.reg aBg) .ret))))⟩
/-! (*horarium/health.Log).All -/
@[go_sem] def aLd:=k 0xa990
@[go_sem] def aLe:=k 0x3c18dac2f87ff3736607d4e663b1ec
def Oh:TF:=⟨8,[.t 2],(.seq (.reg aLd) (.seq (.reg aLe) .ret))⟩
/-! horarium/horariumref3.Right -/
@[go_sem] def aLs:=k 0xa968
@[go_sem] def aLt:=k 0x1194f6e1b08830c
@[go_sem] def aLu:=k 0x1bdf68
@[go_sem] def aLv:=k 0x34780c7a9261dcbc
@[go_sem] def aLw:=k 0x6d8168
@[go_sem] def aLx:=k 0x48dfb7f7e1f5b66c
@[go_sem] def aLy:=k 0x7fa568
@[go_sem] def aLz:=k 0x2b5a4e34868d8874e7d9e984104a969598ac
@[go_sem] def aLA:=k 0x186e34082ec
@[go_sem] def aLB:=k 0xa3ed68
@[go_sem] def aBh:=k 0xa968
def Oi:TF:=⟨21,[.t 2],(.seq (.reg aLs) (.seq (.seq (.reg aLt) (.cond (.t 7) (.seq (.reg aLu) .ret) .skip)) (.seq (.seq (.reg aLv) (.cond (.t 10) (.seq (.reg aLw) .ret) .skip)) (.seq (.seq (.reg aLx) (.cond (.t 13) (.seq (.reg aLy) .ret) .skip)) (.seq (.seq (.reg aLz) (.seq (.reg aLA) (.cond (.t 20) (.seq (.reg aLB) .ret) .skip))) (.seq (.reg aBh) .ret))))))⟩
/-! horarium/horariumref3.Tidy -/
@[go_sem] def aLC:=k 0xa990
@[go_sem] def aLD:=k 0xf220
@[go_sem] def aLE:=k 0xffcff0b142c
@[go_sem] def aLF:=k 0xa7fbe04
@[go_sem] def aLG:=k 0x8eaac87ffba68cc5c98d4
@[go_sem] def aLH:=k 0x52c590ff8d2dfd8c
@[go_sem] def aLI:=k 0xbaebb18d0429bf2b0
@[go_sem] def aLJ:=kd 0x50d79b948f93f261a28fe345b6da14c00dc5ed14f2825bea0cc13efaec4af6c5f4e518
@[go_sem] def aLK:=kd 0xa7d28a5d4126595c6a0914af8fe6dbf5da5a7a23c61eb5b5f88f7dd2ffeb2d3dbaad5a58103f5546e8cb6b09
@[go_sem] def aLL:=k 0x5a06f550b8274e7914f4b12e458d
@[go_sem] def aBi:=k 0xfcb41ac3b11fe9
def Uv:TC:=(.seq (.reg aLF) (.seq (.cond (.t 10) .skip (.exit 0)) (.seq (.block 1 (.seq (.reg aLG) (.seq (.reg aLH) (.seq (.seq (.reg aLI) (.cond (.t 17) (.exit 1) .skip)) (.seq (.dreg aLJ) (.cond (.t 30) (.dreg aLK) (.reg aLL))))))) (.reg aBi))))
@[go_sem] def aBj:=k 0x40521d6d3b05d
def Oj:TF:=⟨51,[.t 2],(.seq (.reg aLC) (.seq (.reg aLD) (.seq (.seq (.reg aLE) (.block 0 (.loop Uv))) (.seq (.reg aBj) .ret))))⟩
/-! horarium/horariumref3.Leaves -/
@[go_sem] def aLM:=k 0xa990
@[go_sem] def aLN:=k 0x2f7d39d32077571ec
def Ol:TF:=⟨5,[.t 2],(.seq (.reg aLM) (.seq (.reg aLN) .ret))⟩
/-! horarium/horariumref3.Sum -/
@[go_sem] def aLO:=k 0x13a88
@[go_sem] def aLP:=k 0x87f5bb93f7e4597cb7b8380a48b830c
@[go_sem] def aLQ:=k 0x7b86a4240ebe7c3a654c
@[go_sem] def aLR:=k 0x13cc4
@[go_sem] def aLS:=k 0x1902b69e87f9a1ef3b878c
def Om:TF:=⟨16,[.t 4],(.seq (.reg aLO) (.seq (.reg aLP) (.seq (.seq (.reg aLQ) (.cond (.t 12) (.seq (.reg aLR) .ret) .skip)) (.seq (.reg aLS) .ret))))⟩
/-! horarium/horariumref7.words -/
@[go_sem] def aLT:=k 0xa990
@[go_sem] def aLU:=k 0xf220
@[go_sem] def aLV:=k 0xffcff0b142c
@[go_sem] def aLW:=k 0xa7fbe04
@[go_sem] def aLX:=k 0x8eaac87ffba68cc5c98d4
@[go_sem] def aLY:=k 0x1cba8
@[go_sem] def aLZ:=k 0x1b486fcd2f7963073c195390151d5dc9091f233978338c
@[go_sem] def aL0:=k 0x1dd96e24cc44067e9dfdfeca3f401bbc
@[go_sem] def aL1:=k 0x10e7b0cd6a97a4409c
def oC:TC:=(.seq (.seq (.reg aLZ) (.cond (.t 21) .skip (.exit 2))) (.seq (.block 3 (.reg aL0)) (.reg aL1)))
@[go_sem] def aBk:=k 0x969d8099da2a8
def Uw:TC:=(.seq (.reg aLW) (.seq (.cond (.t 10) .skip (.exit 0)) (.seq (.block 1 (.seq (.reg aLX) (.seq (.reg aLY) (.block 2 (.loop oC))))) (.reg aBk))))
@[go_sem] def aBl:=k 0x4d50f1078f1c
def Oo:TF:=⟨31,[.t 2],(.seq (.reg aLT) (.seq (.reg aLU) (.seq (.seq (.reg aLV) (.block 0 (.loop Uw))) (.seq (.reg aBl) .ret))))⟩
/-! horarium/horariumref12.Where -/
@[go_sem] def aL2:=k 0xf6d038de108
@[go_sem] def aL3:=k 0x145228bcc97d4a49b8ec5554d63fcdc90b4043a7f2a5f32c7dcc326975fc48356d2cbf4a5c37ca7ba355ff43446427e6e766e813e8b10a00a98e357f454933012eda5869bc5c7f1e594e5bb56c541
@[go_sem] def aL4:=k 0x6e95f68
@[go_sem] def aL5:=k 0x9c5035a8c6975eb501
@[go_sem] def aL6:=k 0xd8772b65
@[go_sem] def aL7:=k 0xc561701ef2464b7e44c893c407f6a97cd
@[go_sem] def aL8:=k 0x593dad74fed8581fa98981
@[go_sem] def aL9:=k 0x14679a75b8918287bd
@[go_sem] def aMa:=k 0x1cba8
@[go_sem] def aMb:=k 0x15195a480be828184d
@[go_sem] def aBm:=kd 0x13c182dae222bcbd5a31b3892b7741fa9e6322f7df8dcda222f8e8966
@[go_sem] def aBn:=k 0x19dec3581da414d582e
@[go_sem] def aBo:=k 0x590ca156c272f1bf1fd
def Ux:TC:=(.seq (.seq (.reg aMb) (.cond (.t 59) .skip (.exit 2))) (.seq (.block 3 (.seq (.dreg aBm) (.cond (.t 70) (.seq (.reg aBn) .ret) .skip))) (.reg aBo)))
@[go_sem] def aBp:=k 0x3533751434cfde96e
@[go_sem] def aBq:=k 0x1b53df83ca4c94e7a6e
@[go_sem] def aBr:=k 0x188afc965ad5eb1a
def Uy:TC:=(.seq (.reg aL6) (.seq (.cond (.t 48) .skip (.exit 0)) (.seq (.block 1 (.seq (.reg aL7) (.seq (.seq (.reg aL8) (.cond (.t 55) (.seq (.reg aL9) .ret) .skip)) (.seq (.seq (.reg aMa) (.block 2 (.loop Ux))) (.seq (.reg aBp) (.cond (.t 74) (.seq (.reg aBq) .ret) .skip)))))) (.reg aBr))))
@[go_sem] def aBs:=k 0x13440e9d09d8545e3392
@[go_sem] def aBt:=k 0x5b68945f6
@[go_sem] def aBu:=k 0x24cc2410a0a97be3cb7c1f92b99340c1d65e
@[go_sem] def aBv:=k 0x2f4415d184020e270180c5559fd5eda7096
@[go_sem] def aBw:=k 0x21285013a2f51bfdb6e
@[go_sem] def aBx:=k 0x1dc486b4397e741a
def Uz:TC:=(.seq (.reg aBt) (.seq (.cond (.t 81) .skip (.exit 4)) (.seq (.block 5 (.seq (.reg aBu) (.seq (.reg aBv) (.cond (.t 90) (.seq (.reg aBw) .ret) .skip)))) (.reg aBx))))
@[go_sem] def aBy:=k 0x13a155afab80e686bc92
@[go_sem] def aBz:=k 0x6db124ef6
@[go_sem] def aBA:=k 0x5dad6a46996e2e4f2abf4b60aadf5e
@[go_sem] def aBB:=k 0xfce1e262c962d4aad5ff4f0a208e29cc74a63d19e
@[go_sem] def aBC:=k 0x44215f154d83de
@[go_sem] def aBD:=k 0x1683cc8a93e901b62dce14fe
@[go_sem] def aBE:=k 0x468a6cfae5e1e
@[go_sem] def aBF:=k 0x7ff9b57f6
@[go_sem] def aBG:=k 0x18a0adf509cfdb9719977e8c6
@[go_sem] def aBH:=k 0x1f50b398937c6ad5d137060582992fc1ce982
@[go_sem] def aBI:=k 0x2c73ea0c214ca1134de
@[go_sem] def aBJ:=k 0x27cf7b437e073d8a
def UA:TC:=(.seq (.reg aBF) (.seq (.cond (.t 113) .skip (.exit 8)) (.seq (.block 9 (.seq (.reg aBG) (.seq (.reg aBH) (.cond (.t 121) (.seq (.reg aBI) .ret) .skip)))) (.reg aBJ))))
@[go_sem] def aBK:=k 0xd06831b8a2510674676638656
@[go_sem] def aBL:=k 0x14682e8a4064f7af
@[go_sem] def aBM:=k 0x6b68f6467a8357a22d486588cf
@[go_sem] def aBN:=k 0x2a28ec863058b65a0b
def UB:TC:=(.seq (.reg aBz) (.seq (.cond (.t 97) .skip (.exit 6)) (.seq (.block 7 (.seq (.reg aBA) (.seq (.reg aBB) (.seq (.seq (.reg aBC) (.cond (.t 107) (.seq (.reg aBD) .ret) .skip)) (.seq (.seq (.reg aBE) (.block 8 (.loop UA))) (.seq (.reg aBK) (.seq (.reg aBL) (.cond (.t 128) (.seq (.reg aBM) .ret) .skip)))))))) (.reg aBN))))
@[go_sem] def aBO:=k 0x2d5aa968
def Oq:TF:=⟨132,[.t 2,.t 3],(.seq (.reg aL2) (.seq (.seq (.reg aL3) (.cond (.t 43) (.seq (.reg aL4) .ret) .skip)) (.seq (.seq (.reg aL5) (.block 0 (.loop Uy))) (.seq (.seq (.reg aBs) (.block 4 (.loop Uz))) (.seq (.seq (.reg aBy) (.block 6 (.loop UB))) (.seq (.reg aBO) .ret))))))⟩
/-! horarium/config.Name -/
@[go_sem] def aMc:=k 0xa980
@[go_sem] def aMd:=k 0xfe8b88e4b9c
@[go_sem] def aMe:=k 0x9542374
@[go_sem] def aMf:=k 0x19fa38003ddc
@[go_sem] def aMg:=k 0x15b4a848cb088d54bcf66c
@[go_sem] def aMh:=k 0x2e2927b06b551d0dc06a3a946d5be058581c
@[go_sem] def aMi:=k 0x3610669b8df7fb5de1c0938223a8fe76f3f75a2249ba3114a2d45c91f082536c3264a9caf99e35d2ed6b61d6282d3cf8ff777d
@[go_sem] def aMj:=k 0xa980
@[go_sem] def aMk:=k 0xc40feaae2501b9
def oD:TC:=(.seq (.reg aMe) (.seq (.cond (.t 9) .skip (.exit 0)) (.seq (.block 1 (.seq (.reg aMf) (.seq (.reg aMg) (.seq (.reg aMh) (.seq (.reg aMi) (.cond (.t 37) (.seq (.reg aMj) .ret) .skip)))))) (.reg aMk))))
@[go_sem] def aBP:=k 0x23a1a0cdce874bb7604a2d5e0d44313401f3f13947d6101262d
def Ot:TF:=⟨47,[.t 2],(.seq (.reg aMc) (.seq (.seq (.reg aMd) (.block 0 (.loop oD))) (.seq (.reg aBP) .ret)))⟩
/-! slices.ContainsFunc[[]horarium/api.Part,horarium/api.Part] -/
@[go_sem] def aMl:=k 0x13aa0
@[go_sem] def aMm:=k 0x3cf7d1bfaa9f564bd2a3b59430c
def Ou:TF:=⟨9,[.t 4],(.seq (.reg aMl) (.seq (.reg aMm) .ret))⟩
/-! horarium/config.Where$1 -/
@[go_sem] def aMn:=k 0xd9ba998
@[go_sem] def aMo:=k 0x1136fffea7787a27b4926d923fdfb5e80
def Ov:TF:=⟨9,[.t 3],(.seq (.reg aMn) (.seq (.reg aMo) .ret))⟩
/-! horarium/config.part -/
@[go_sem] def aMp:=k 0xd9b6108
@[go_sem] def aMq:=k 0x1fd18a7805da0
@[go_sem] def aMr:=k 0x941ff84
@[go_sem] def aMs:=k 0x341d928f34028
@[go_sem] def aMt:=k 0x1c9c437e3dc4bdee86ce6d2146ecdbe6c
@[go_sem] def aMu:=k 0xa980
@[go_sem] def aMv:=k 0x58c06ae57fbe8
def oE:TC:=(.seq (.reg aMr) (.seq (.cond (.t 9) .skip (.exit 0)) (.seq (.block 1 (.seq (.reg aMs) (.seq (.reg aMt) (.cond (.t 16) (.seq (.reg aMu) .ret) .skip)))) (.reg aMv))))
@[go_sem] def aMw:=k 0x137a81e39da4358799ee29ab08fbfa957341f986ad10d88460
@[go_sem] def aMx:=k 0x1f9c447c6b73110bcdcc5646b1134cb9b80c47095fdd461a63a7da961bbba16cdd48d9a9b72916fbb1e2df99f7127457e204d4b81c34f0882fb2e7a42d83ba708a2ea54748c302ed487b5d7e0b2c9bcd67c069ae1
def Ow:TF:=⟨54,[.t 2],(.seq (.reg aMp) (.seq (.seq (.reg aMq) (.block 0 (.loop oE))) (.seq (.reg aMw) (.seq (.reg aMx) .ret))))⟩
/-! horarium/config.channel -/
@[go_sem] def aMy:=k 0x1eee9f3a2998
@[go_sem] def aMz:=k 0x6cf0318
@[go_sem] def aMA:=k 0x149208ca12c0
@[go_sem] def aMB:=k 0xa491601518
@[go_sem] def aMC:=k 0x63242b350bcc00e87dbaabd11e0
@[go_sem] def aMD:=k 0x3b9701667af571cd2e1369e093b0903297acde70cf8b42d7781d896aae87b1087cf11826a853d4fba68fc106dd55f13473ac5756db0d7b4f90e0818b33a4d674fd63d294d6729d9bee78957c6b8dbfccccc2ac9cb2d0e9ff3354d842b723d97a7c21
def Ox:TF:=⟨48,[.t 4],(.seq (.reg aMy) (.seq (.reg aMz) (.seq (.seq (.reg aMA) (.cond (.t 9) (.reg aMB) .skip)) (.seq (.reg aMC) (.seq (.reg aMD) .ret)))))⟩
/-! horarium/config.table -/
@[go_sem] def aME:=k 0x59272d2998
@[go_sem] def aMF:=k 0x1a7e73959deacb0a44e8bfcd913e86e76ebc
@[go_sem] def aMG:=k 0x1eda25f1aafc
@[go_sem] def aMH:=k 0x245771c03c1c
@[go_sem] def aMI:=k 0x5a60353c7729f2ac
@[go_sem] def aMJ:=k 0x925a88
@[go_sem] def aMK:=k 0x2145da74e4a2b60ff316b4
def Oy:TF:=⟨21,[.t 4],(.seq (.reg aME) (.seq (.reg aMF) (.seq (.seq (.reg aMG) (.cond (.t 13) (.seq (.reg aMH) .ret) .skip)) (.seq (.seq (.reg aMI) (.cond (.t 17) (.seq (.reg aMJ) .ret) .skip)) (.seq (.reg aMK) .ret)))))⟩
/-! container/heap.up -/
@[go_sem] def aML:=k 0x1794fa995eac7e4e986550c
@[go_sem] def aMM:=k 0x50bbcb1af6951b6fce63b358e80937d7b5b1dd333d9b8be64bc
@[go_sem] def aMN:=k 0x1ec1f36f5d7e97738ff25c
@[go_sem] def aMO:=k 0x38ab0ebd5c9c
def Q2:TC:=(.block 1 (.seq (.reg aML) (.seq (.seq (.reg aMM) (.cond (.t 17) (.exit 0) .skip)) (.seq (.reg aMN) (.reg aMO)))))
def Ki:TF:=⟨23,[],(.block 0 (.loop Q2))⟩
/-! container/heap.down -/
@[go_sem] def aMP:=k 0x1cbc0
@[go_sem] def aMQ:=k 0x1cdea725086c
@[go_sem] def aMR:=k 0x2f2120b7d2a1c1fc5c03cfc
@[go_sem] def aMS:=k 0x59b67a05bba7cd85614472cb7928f9f15a8ac
@[go_sem] def aMT:=k 0x394f9969a49c
@[go_sem] def aMU:=k 0x11b990a2c501d6ad2c
@[go_sem] def aMV:=k 0x160ef95930d619447808facb13f3896ec3b7aeb75dadddf964d
@[go_sem] def aMW:=k 0x2be4cac2a235d
@[go_sem] def aMX:=k 0x47342916b1b5682a09862c0903ed
@[go_sem] def aMY:=k 0x10cb1d699af21ca069826ebd
@[go_sem] def aBQ:=k 0x38b554b92d4fd
def IA:TC:=(.block 1 (.seq (.reg aMR) (.seq (.seq (.reg aMS) (.cond (.t 21) (.exit 0) .skip)) (.seq (.reg aMT) (.seq (.seq (.reg aMU) (.seq (.reg aMV) (.cond (.t 33) (.reg aMW) .skip))) (.seq (.seq (.reg aMX) (.cond (.t 39) (.exit 0) .skip)) (.seq (.reg aMY) (.reg aBQ))))))))
@[go_sem] def aBR:=k 0x13750b74f13a6e12546ad58d
def G8:TF:=⟨48,[.t 6],(.seq (.reg aMP) (.seq (.reg aMQ) (.seq (.block 0 (.loop IA)) (.seq (.reg aBR) .ret))))⟩
/-! (*horarium/proc.Table).is -/
@[go_sem] def aMZ:=k 0x13aa0
@[go_sem] def aM0:=k 0x444b3f96ca8fc5229fda06913c73fb0d23208a2016c264ce0e56022f2950c
def Oz:TF:=⟨16,[.t 4],(.seq (.reg aMZ) (.seq (.reg aM0) .ret))⟩
/-! (*horarium/part.Part).channel -/
@[go_sem] def aM1:=k 0x1cbc0
@[go_sem] def aM2:=k 0x2e148dc7d3dd8f393bd7c9baf6e7c8cd7ad22ebc
@[go_sem] def aM3:=k 0x1cbc0
@[go_sem] def aM4:=k 0x1b2aedeb71e1b728f1d9d077e6bcc21e80592275b0ba04613c
@[go_sem] def aM5:=kd 0x162b66948aeec2d7b11359fa86f5a082c58620b5c2a8c54bcb6e1ae472607de429d3b748e2ceac5de57b618e7e1db5ac289600a1a41657ba53eaa6add18a95246b72339
def FH:TF:=⟨47,[.t 6],(.seq (.reg aM1) (.seq (.seq (.reg aM2) (.cond (.t 15) (.seq (.reg aM3) .ret) .skip)) (.seq (.reg aM4) (.seq (.dreg aM5) .ret))))⟩
/-! (*horarium/health.Log).action -/
@[go_sem] def aM6:=k 0x13a88
@[go_sem] def aM7:=k 0x11a854b411c320277d0da69fa5d621d9c
@[go_sem] def aM8:=k 0x135e88
@[go_sem] def aM9:=k 0xc66c829ffa2cf2cecf2b27f4db6a17c78319b3efc
@[go_sem] def aNa:=k 0x2e228e5c34a1801cb41d38e9236c714ec
@[go_sem] def aNb:=k 0x409f411a484c
@[go_sem] def aNc:=k 0x135e88
def Dw:TF:=⟨26,[.t 4],(.seq (.reg aM6) (.seq (.seq (.reg aM7) (.cond (.t 11) (.seq (.reg aM8) .ret) .skip)) (.seq (.seq (.reg aM9) (.seq (.reg aNa) (.cond (.t 24) (.seq (.reg aNb) .ret) .skip))) (.seq (.reg aNc) .ret))))⟩
/-! slices.Clone[[]horarium/health.Fault,horarium/health.Fault] -/
@[go_sem] def aNe:=k 0xa990
@[go_sem] def aNf:=k 0x3e0473b1ec
@[go_sem] def aNg:=k 0xa990
@[go_sem] def aNh:=k 0x5d8066aa284275bcb9f0
def G9:TF:=⟨8,[.t 2],(.seq (.reg aNe) (.seq (.seq (.reg aNf) (.cond (.t 4) (.seq (.reg aNg) .ret) .skip)) (.seq (.reg aNh) .ret)))⟩
/-! horarium/horariumref3.Depth -/
@[go_sem] def aNi:=k 0xa968
@[go_sem] def aNj:=k 0x2c890f4a28584e87b34d18b4cb8cb75365fa4a34db57825f1ec
@[go_sem] def aNk:=k 0xa968
@[go_sem] def aNl:=k 0xa41605ddbc365478c
def OA:TF:=⟨15,[.t 2],(.seq (.reg aNi) (.seq (.seq (.reg aNj) (.cond (.t 12) (.seq (.reg aNk) .ret) .skip)) (.seq (.reg aNl) .ret)))⟩
/-! horarium/horariumref3.Length -/
@[go_sem] def aNm:=k 0xd9ba968
@[go_sem] def aNn:=k 0x22fabaac2e6e030c
@[go_sem] def aNo:=k 0xd9ba968
@[go_sem] def aNp:=k 0x6a842de9211e61cbc
@[go_sem] def aNq:=k 0xce5ac975dc
@[go_sem] def aNr:=k 0xd9ba968
@[go_sem] def aNs:=k 0xb5e8246cb86fc
def OB:TF:=⟨13,[.t 2,.t 3],(.seq (.reg aNm) (.seq (.seq (.reg aNn) (.cond (.t 7) (.seq (.reg aNo) .ret) .skip)) (.seq (.reg aNp) (.seq (.seq (.reg aNq) (.cond (.t 11) (.seq (.reg aNr) .ret) .skip)) (.seq (.reg aNs) .ret)))))⟩
/-! horarium/horariumref3.leaves -/
@[go_sem] def aNt:=k 0x1cbd0
@[go_sem] def aNu:=k 0x30b7451b21332768d6113aaddc
@[go_sem] def aNv:=k 0x54bc098053354
@[go_sem] def aNw:=kd 0x2ae1442e671472d7ed8c990d37c5762aa90ea97ad1caad2ceadcb0a9f8a532930b1259500c57ce1b68
@[go_sem] def aNx:=k 0xa70eff906b7255
@[go_sem] def aNy:=k 0x2410cd6fc538af08396f60c840066450258072e756a03964c8bacd
@[go_sem] def aNz:=k 0xe080dccb92d885
@[go_sem] def aNA:=k 0x21438
@[go_sem] def aNB:=k 0x1af4076d5c3746aa5896e5607df4ae565268cfd
@[go_sem] def aNC:=k 0x1e4a01d9674c3484fc3e99ddb1a6e0ee1e0d
@[go_sem] def aBS:=k 0x4bf4788f324562b88ed
def UC:TC:=(.seq (.seq (.reg aNB) (.cond (.t 50) .skip (.exit 1))) (.seq (.block 2 (.reg aNC)) (.reg aBS)))
@[go_sem] def aBT:=k 0x4aaf573d3d0dd
@[go_sem] def aBU:=k 0x2df583b76b227cd83efd16d
@[go_sem] def aBV:=k 0x47fb7ac66
@[go_sem] def aBW:=k 0xc098ebc7b06a3d943d16
@[go_sem] def aBX:=k 0x20cb9d1d649c379bd3d92d27cc0f15ee
@[go_sem] def aBY:=k 0x16f9eaebfd14804a
def UD:TC:=(.seq (.reg aBV) (.seq (.cond (.t 64) .skip (.exit 3)) (.seq (.block 4 (.seq (.reg aBW) (.reg aBX))) (.reg aBY))))
@[go_sem] def aBZ:=k 0x2e4f1aa6d910be
def Ha:TF:=⟨73,[.t 6],(.seq (.reg aNt) (.seq (.seq (.reg aNu) (.block 0 (.seq (.reg aNv) (.cond (.t 15) (.seq (.dreg aNw) .ret) (.seq (.reg aNx) (.cond (.t 31) (.seq (.reg aNy) .ret) (.seq (.reg aNz) (.cond (.t 42) (.seq (.seq (.reg aNA) (.block 1 (.loop UC))) (.seq (.reg aBT) .ret)) .skip)))))))) (.seq (.seq (.reg aBU) (.block 3 (.loop UD))) (.seq (.reg aBZ) .ret))))⟩
/-! horarium/horariumref12.Name -/
@[go_sem] def aNE:=k 0xa980
@[go_sem] def aNF:=k 0xf1f8
@[go_sem] def aNG:=k 0x44fdb7251ba34bc3790c
@[go_sem] def aNH:=k 0x6e7893fb4bf543bd02e278fa99b462fd1363c2acaf237feae5415ca803711fa9023a75fd7d54954bcf66c
@[go_sem] def aNI:=k 0x5a44da78621bf17cbef32eba93464adaffa69fcc2c8772186108fcfbb64318302a187d6b47541bed5d040d13893886ebf6d
@[go_sem] def aNJ:=k 0xa980
@[go_sem] def aNK:=k 0x75cfc8163c3e55b4c
def oF:TC:=(.seq (.seq (.reg aNG) (.cond (.t 8) .skip (.exit 0))) (.seq (.block 1 (.seq (.reg aNH) (.seq (.reg aNI) (.cond (.t 44) (.seq (.reg aNJ) .ret) .skip)))) (.reg aNK)))
@[go_sem] def aNL:=k 0x284676964764b4b5a873eff5a6ca70edd05e6358e81009ad98d
def OC:TF:=⟨53,[.t 2],(.seq (.reg aNE) (.seq (.seq (.reg aNF) (.block 0 (.loop oF))) (.seq (.reg aNL) .ret)))⟩
/-! horarium/horariumref12.partRight -/
@[go_sem] def aNM:=k 0xd9b6108
@[go_sem] def aNN:=k 0xa107430a4faec95f800c6fdd8b511a38ce1d4efe2a3081fe6630
@[go_sem] def aNO:=k 0xa980
@[go_sem] def aNP:=k 0x4c8470b6fc7413bd0
@[go_sem] def aNQ:=k 0x175f6234
@[go_sem] def aNR:=k 0x7d50fd1fb4483189c3d04
@[go_sem] def aNS:=k 0x5a281af50cb00ebd35968912e544ba6578641009d0ab023d6c105d5af171cb23072c97316e6e54646e2dd33254b37d838f75c1
@[go_sem] def aNT:=k 0xa980
@[go_sem] def aNU:=k 0xd9980bb09223f9
def oG:TC:=(.seq (.reg aNQ) (.seq (.cond (.t 21) .skip (.exit 0)) (.seq (.block 1 (.seq (.reg aNR) (.seq (.reg aNS) (.cond (.t 41) (.seq (.reg aNT) .ret) .skip)))) (.reg aNU))))
@[go_sem] def aB0:=k 0x224ec295946c71
@[go_sem] def aB1:=k 0xcc7cd655
@[go_sem] def aB2:=k 0xf22dbef289c0f9
@[go_sem] def aB3:=k 0x1afbe049c2db92f107676f9a0f853d938b3d
@[go_sem] def aB4:=k 0xa980
@[go_sem] def aB5:=k 0x1194e300af68ab9
def UE:TC:=(.seq (.reg aB1) (.seq (.cond (.t 46) .skip (.exit 2)) (.seq (.block 3 (.seq (.reg aB2) (.seq (.reg aB3) (.cond (.t 53) (.seq (.reg aB4) .ret) .skip)))) (.reg aB5))))
@[go_sem] def aB6:=k 0x283e8faf3961464a111097bb54af1175c7de803456ead331
@[go_sem] def aB7:=k 0xa9dc
@[go_sem] def aB8:=k 0x23cdf59fdd85173ee2b001a60019ce44809a65d2402c8b4c0b191094c75cdcf57baa7fe465e953928dd05d7f507c160c374b25f835dcb9fc89cfac54e45a3bb2
def OD:TF:=⟨83,[.t 2],(.seq (.reg aNM) (.seq (.seq (.reg aNN) (.cond (.t 16) (.seq (.reg aNO) .ret) .skip)) (.seq (.seq (.reg aNP) (.block 0 (.loop oG))) (.seq (.seq (.reg aB0) (.block 2 (.loop UE))) (.seq (.seq (.reg aB6) (.cond (.t 62) (.seq (.reg aB7) .ret) .skip)) (.seq (.reg aB8) .ret))))))⟩
/-! horarium/horariumref12.chanRight -/
@[go_sem] def aNV:=k 0x592dfaa998
@[go_sem] def aNW:=k 0xf4ef5b6c31caa07fe4162baa79ac04a1e677b1131382d63b6cf7324ca387372351e6d37b928d250d55b6f4c7df868073c38ef18e6c3bbdc99ae01ce672137c01328e6959839c200929ff553d36bd26ef1e3333dc5e349c84fe0e1dde31838d26f176ec5f48065cb11
@[go_sem] def aNX:=k 0x13aa0
@[go_sem] def aNY:=k 0x46c87548d87e9fe3446d4e8597b4ce50c44e0e5ecb7906ef247434db0b9daf25c2440d02a57264ef910530305abe16975a893d14e0199f0b79d84675b1938cbe8247e1
def OE:TF:=⟨64,[.t 4],(.seq (.reg aNV) (.seq (.seq (.reg aNW) (.cond (.t 41) (.seq (.reg aNX) .ret) .skip)) (.seq (.reg aNY) .ret)))⟩
/-! horarium/horariumref7.Holds -/
@[go_sem] def aNZ:=k 0x59272d2998
@[go_sem] def aN0:=k 0x49f77e5c9abdf51e0
@[go_sem] def aN1:=k 0xf2e2844
@[go_sem] def aN2:=k 0xac696c703a055933b0354
@[go_sem] def aN3:=k 0xd625509684a6d7ae8e6fe3ff9d3731e07cfbcc
@[go_sem] def aN4:=k 0x87bb087d521f42b6d9f8d604711b77c85d226edb0f4843241df625c23b4340c3fe5189607531
@[go_sem] def aN5:=k 0xad9088
@[go_sem] def aN6:=k 0xba2e18d9d17099
def oH:TC:=(.seq (.reg aN1) (.seq (.cond (.t 14) .skip (.exit 0)) (.seq (.block 1 (.seq (.reg aN2) (.seq (.reg aN3) (.seq (.reg aN4) (.cond (.t 35) (.seq (.reg aN5) .ret) .skip))))) (.reg aN6))))
@[go_sem] def aN7:=k 0x99c343de5e606edd11
@[go_sem] def aB9:=k 0xb8373375
@[go_sem] def aCa:=k 0x1499c8b2e7a40370a1bfe9f398630d9fdd
@[go_sem] def aCb:=kd 0x5e7f34b7a845c75819783797725da62eec181e9bd85cef6f260d4bb62295f1d7dfa8f7e17b0b5
@[go_sem] def aCc:=k 0xb6a288
@[go_sem] def aCd:=k 0x12d78aa5f4aacf9
def UF:TC:=(.seq (.reg aB9) (.seq (.cond (.t 41) .skip (.exit 2)) (.seq (.block 3 (.seq (.reg aCa) (.seq (.dreg aCb) (.cond (.t 57) (.seq (.reg aCc) .ret) .skip)))) (.reg aCd))))
@[go_sem] def aCe:=k 0x13a88
def OF:TF:=⟨59,[.t 4],(.seq (.reg aNZ) (.seq (.seq (.reg aN0) (.block 0 (.loop oH))) (.seq (.seq (.reg aN7) (.block 2 (.loop UF))) (.seq (.reg aCe) .ret))))⟩
/-! slices.IndexFunc[[]horarium/api.Part,horarium/api.Part] -/
@[go_sem] def aN8:=k 0x13a88
@[go_sem] def aN9:=k 0xfe86db9cb9c
@[go_sem] def aOa:=k 0x9542374
@[go_sem] def aOb:=k 0x1a235aa23ddc
@[go_sem] def aOc:=k 0x6174c66a18791aa091bd6b6053086c
@[go_sem] def aOd:=k 0x2c0df01803cc
@[go_sem] def aOe:=k 0x5de4bf2584478
def oI:TC:=(.seq (.reg aOa) (.seq (.cond (.t 9) .skip (.exit 0)) (.seq (.block 1 (.seq (.reg aOb) (.seq (.reg aOc) (.cond (.t 16) (.seq (.reg aOd) .ret) .skip)))) (.reg aOe))))
@[go_sem] def aOf:=k 0x13b10
def OG:TF:=⟨19,[.t 4],(.seq (.reg aN8) (.seq (.seq (.reg aN9) (.block 0 (.loop oI))) (.seq (.reg aOf) .ret)))⟩
/-! horarium/config.procs -/
@[go_sem] def aOg:=k 0xa980
@[go_sem] def aOh:=k 0xfd3dc68830c
@[go_sem] def aOi:=k 0x82888e4
@[go_sem] def aOj:=k 0x72934eb01e9aee5c563b4
@[go_sem] def aOk:=k 0x36bc823808f7e66dd8160ad7ef5ca1eaaf6f4e162ec4ef7e70
@[go_sem] def aOl:=k 0xa980
@[go_sem] def aOm:=k 0x6d2899316de28
def oJ:TC:=(.seq (.reg aOi) (.seq (.cond (.t 8) .skip (.exit 0)) (.seq (.block 1 (.seq (.reg aOj) (.seq (.reg aOk) (.cond (.t 20) (.seq (.reg aOl) .ret) .skip)))) (.reg aOm))))
@[go_sem] def aOn:=k 0x5a01f46abf715cb5b45d9183e9c06f8dbf1f063e68e549c
def OH:TF:=⟨30,[.t 2],(.seq (.reg aOg) (.seq (.seq (.reg aOh) (.block 0 (.loop oJ))) (.seq (.reg aOn) .ret)))⟩
/-! horarium/config.within -/
@[go_sem] def aOo:=k 0x13aa0
@[go_sem] def aOp:=k 0xf3405e0e15b25a9118aa535dc49be9c46022e9830c
def OI:TF:=⟨12,[.t 4],(.seq (.reg aOo) (.seq (.reg aOp) .ret))⟩
/-! horarium/runs.Of -/
@[go_sem] def aOq:=k 0x371590
@[go_sem] def aOr:=k 0x3b16878f569aa54c
@[go_sem] def aOs:=k 0x1c47fbbf3e6c
@[go_sem] def aOt:=k 0x25e559cd0e90f8c
@[go_sem] def aOu:=k 0x18340
@[go_sem] def aOv:=k 0x589a019b36ae901c
@[go_sem] def aOw:=k 0x6d3a51eb7611703c126fe261dc48349758fb15cc
@[go_sem] def aOx:=k 0x1b006075c0c
@[go_sem] def aOy:=k 0x620c5e52ae57971b8272d0b72c
def oK:TC:=(.block 1 (.seq (.reg aOw) (.seq (.seq (.reg aOx) (.cond (.t 22) (.exit 0) .skip)) (.reg aOy))))
@[go_sem] def aCf:=k 0xa43515eabdc1196c
@[go_sem] def aCg:=k 0x57893c0bff4aa8c
@[go_sem] def aCh:=k 0x1edd6ad90
@[go_sem] def aCi:=k 0x216ce3a4f2de3d
def OJ:TF:=⟨33,[.t 2,.t 3],(.seq (.reg aOq) (.seq (.seq (.reg aOr) (.seq (.reg aOs) (.cond (.t 12) (.seq (.reg aOt) .ret) .skip))) (.seq (.reg aOu) (.seq (.reg aOv) (.seq (.block 0 (.loop oK)) (.seq (.seq (.reg aCf) (.seq (.reg aCg) (.cond (.t 31) (.seq (.reg aCh) .ret) .skip))) (.seq (.reg aCi) .ret)))))))⟩
/-! slices.ContainsFunc[[]horarium/api.Run,horarium/api.Run] -/
@[go_sem] def aOz:=k 0x13aa0
@[go_sem] def aOA:=k 0x3cf7d1bfaa9f564fade2e59430c
def OK:TF:=⟨9,[.t 4],(.seq (.reg aOz) (.seq (.reg aOA) .ret))⟩
/-! horarium/config.table$1 -/
@[go_sem] def aOC:=k 0xd9ba998
@[go_sem] def aOD:=k 0x2bda4f46ccf67e3cd3b6e50d67923fdfb5e80
def OL:TF:=⟨10,[.t 3],(.seq (.reg aOC) (.seq (.reg aOD) .ret))⟩
/-! horarium/bound.Holds -/
@[go_sem] def aOE:=k 0x59272d2998
@[go_sem] def aOF:=k 0x49f77e5c9abdf51e0
@[go_sem] def aOG:=k 0xf2e2844
@[go_sem] def aOH:=k 0xac696c703a055933b0354
@[go_sem] def aOI:=k 0xd625509685121a2df48d205a6d3731e07cfbcc
@[go_sem] def aOJ:=k 0x21eec22196172e8842ef33a1adbff96720db287e659712a429cc5c0514f40c3fe5189607531
@[go_sem] def aOK:=k 0xad9088
@[go_sem] def aOL:=k 0xba2e18d9d17099
def oL:TC:=(.seq (.reg aOG) (.seq (.cond (.t 14) .skip (.exit 0)) (.seq (.block 1 (.seq (.reg aOH) (.seq (.reg aOI) (.seq (.reg aOJ) (.cond (.t 35) (.seq (.reg aOK) .ret) .skip))))) (.reg aOL))))
@[go_sem] def aOM:=k 0x99c343de5e606edd11
@[go_sem] def aCj:=k 0xb8373375
@[go_sem] def aCk:=k 0x1499c8b2e7a40370a1bfe9f398630d9fdd
@[go_sem] def aCl:=kd 0x5e7f34b7a845c75819783797725de1438baefb0fbe209097c7bc3bb62295f1d7dfa8f7e17b0b5
@[go_sem] def aCm:=k 0xb6a288
@[go_sem] def aCn:=k 0x12d78aa5f4aacf9
def UG:TC:=(.seq (.reg aCj) (.seq (.cond (.t 41) .skip (.exit 2)) (.seq (.block 3 (.seq (.reg aCk) (.seq (.dreg aCl) (.cond (.t 57) (.seq (.reg aCm) .ret) .skip)))) (.reg aCn))))
@[go_sem] def aCo:=k 0x13a88
def OM:TF:=⟨59,[.t 4],(.seq (.reg aOE) (.seq (.seq (.reg aOF) (.block 0 (.loop oL))) (.seq (.seq (.reg aOM) (.block 2 (.loop UG))) (.seq (.reg aCo) .ret))))⟩
/-! horarium/horariumref3.Size -/
@[go_sem] def aON:=k 0x13a88
@[go_sem] def aOO:=k 0x66bd68ed06fd60caa0d6ee7ef1e76f1558631662c
@[go_sem] def aOP:=k 0x13a88
@[go_sem] def aOQ:=k 0xa9518
@[go_sem] def aOR:=k 0x2712be552aac
@[go_sem] def aOS:=k 0xdaf3817653f51921cd3c
@[go_sem] def aOT:=k 0x6e7acd2bffe5ed71c81abbdd3149c
@[go_sem] def aOU:=k 0x13a88
@[go_sem] def aOV:=k 0x154130d07e0e9121fc
@[go_sem] def aOW:=k 0x4852777e313d76f1fa028fcb06613b991d
@[go_sem] def aCp:=k 0x1cba6b1d9d6cae4397141e01702099a685b6c5900007d
@[go_sem] def aCq:=k 0x63f845939b637f7f12b684d23d753f486d
@[go_sem] def aCr:=k 0x48fe9768ccfb406afcd
@[go_sem] def aCs:=k 0x418f34c3a40ed
@[go_sem] def aCt:=k 0x1a42dcaaf12545b0b316cedf5af60d
@[go_sem] def aCu:=k 0xf7294a6e24363af7c
def UH:TC:=(.seq (.seq (.reg aOS) (.cond (.t 19) .skip (.exit 0))) (.seq (.block 1 (.seq (.seq (.reg aOT) (.cond (.t 27) (.seq (.reg aOU) .ret) .skip)) (.seq (.reg aOV) (.seq (.seq (.reg aOW) (.cond (.t 35) (.reg aCp) .skip)) (.seq (.seq (.reg aCq) (.cond (.t 48) (.reg aCr) .skip)) (.seq (.reg aCs) (.cond (.t 52) (.seq (.reg aCt) .ret) .skip))))))) (.reg aCu)))
@[go_sem] def aCv:=k 0x13a88
def ON:TF:=⟨57,[.t 4],(.seq (.reg aON) (.seq (.seq (.reg aOO) (.cond (.t 14) (.seq (.reg aOP) .ret) .skip)) (.seq (.reg aOQ) (.seq (.seq (.reg aOR) (.block 0 (.loop UH))) (.seq (.reg aCv) .ret)))))⟩
/-! horarium/horariumref3.depth -/
@[go_sem] def aOX:=k 0x13a88
@[go_sem] def aOY:=k 0x18318
@[go_sem] def aOZ:=k 0xa6e631d63544b3d5a1cbc
@[go_sem] def aO0:=k 0xe028db4
@[go_sem] def aO1:=k 0xb1914a3bafaef6864
@[go_sem] def aO2:=k 0x156b406c32d8f905580c340dd978bb3c
@[go_sem] def aO3:=k 0x6df646b621e28
def oM:TC:=(.seq (.reg aO0) (.seq (.cond (.t 13) .skip (.exit 0)) (.seq (.block 1 (.seq (.reg aO1) (.reg aO2))) (.reg aO3))))
@[go_sem] def aO4:=k 0x10dc07ec5f779b2e9c
def OO:TF:=⟨24,[.t 4],(.seq (.reg aOX) (.seq (.reg aOY) (.seq (.seq (.reg aOZ) (.block 0 (.loop oM))) (.seq (.reg aO4) .ret))))⟩
/-! horarium/horariumref3.length -/
@[go_sem] def aO5:=k 0x13a88
@[go_sem] def aO6:=k 0x18318
@[go_sem] def aO7:=k 0xa6e631d63544b3d5a1cbc
@[go_sem] def aO8:=k 0xe028db4
@[go_sem] def aO9:=k 0xb1914a3bafaef6864
@[go_sem] def aPa:=k 0x32fa3f971ca70985608487825f936978bb3c
@[go_sem] def aPb:=k 0x731a9af6266b8
def oN:TC:=(.seq (.reg aO8) (.seq (.cond (.t 13) .skip (.exit 0)) (.seq (.block 1 (.seq (.reg aO9) (.reg aPa))) (.reg aPb))))
@[go_sem] def aPc:=k 0x616d81df00bdd326bca3be5d2c
@[go_sem] def aPd:=k 0x99ab13e7846a4
@[go_sem] def aCw:=k 0x4d7a13bbb31c
@[go_sem] def aCx:=k 0xa70effcb84ba55
@[go_sem] def aCy:=k 0x2409c845905ffff82b94f317754af68717ff82e756a03964ff26cd
@[go_sem] def aCz:=k 0x1c56dbf0b3fa8122ed1a749d67d8b27b6eaffdd
def OP:TF:=⟨48,[.t 4],(.seq (.reg aO5) (.seq (.reg aO6) (.seq (.seq (.reg aO7) (.block 0 (.loop oN))) (.seq (.seq (.reg aPc) (.block 2 (.seq (.reg aPd) (.cond (.t 28) (.seq (.reg aCw) .ret) (.seq (.reg aCx) (.cond (.t 31) (.seq (.reg aCy) .ret) .skip)))))) (.seq (.reg aCz) .ret)))))⟩
/-! horarium/horariumref3.Kids -/
@[go_sem] def aPe:=k 0x13ab0
@[go_sem] def aPf:=k 0x10cccb015699207ada1cbc
@[go_sem] def aPg:=k 0x1cbd0
@[go_sem] def aPh:=k 0x8e96a6a025813c86c
@[go_sem] def aPi:=k 0x3295f22c31570bc30771db058c
@[go_sem] def aPj:=k 0x622a585046c35467a44cbac92c
@[go_sem] def aPk:=k 0x179c09c834ef5e5c252243fa098b705c
def oO:TC:=(.seq (.seq (.reg aPi) (.cond (.t 17) .skip (.exit 0))) (.seq (.block 1 (.reg aPj)) (.reg aPk)))
@[go_sem] def aPl:=k 0x45c39563eb6c
def OQ:TF:=⟨28,[.t 4],(.seq (.reg aPe) (.seq (.reg aPf) (.seq (.reg aPg) (.seq (.seq (.reg aPh) (.block 0 (.loop oO))) (.seq (.reg aPl) .ret)))))⟩
/-! horarium/node.Right -/
@[go_sem] def aPm:=k 0xa968
@[go_sem] def aPn:=k 0x15ad599b8226ba0451b362196cf20afacb9c
@[go_sem] def aPo:=k 0xb01fcd1c3cb07df0366c
@[go_sem] def aPp:=k 0x1bdf68
@[go_sem] def aPq:=k 0xe6a7b995dc0885e3d8ac
@[go_sem] def aPr:=k 0x6d8168
@[go_sem] def aPs:=k 0x23a5f4c4fa22c80d9dbaec
@[go_sem] def aPt:=k 0x7fa568
@[go_sem] def aPu:=k 0x8ffc2f47b365a52c
@[go_sem] def aPv:=k 0xa3ed68
@[go_sem] def aCA:=k 0xa968
def OS:TF:=⟨25,[.t 2],(.seq (.reg aPm) (.seq (.reg aPn) (.seq (.block 0 (.seq (.reg aPo) (.cond (.t 10) (.seq (.reg aPp) .ret) (.seq (.reg aPq) (.cond (.t 14) (.seq (.reg aPr) .ret) (.seq (.reg aPs) (.cond (.t 18) (.seq (.reg aPt) .ret) (.seq (.reg aPu) (.cond (.t 22) (.seq (.reg aPv) .ret) .skip))))))))) (.seq (.reg aCA) .ret))))⟩
/-! horarium/cursor.New -/
@[go_sem] def aPw:=k 0xaa50
@[go_sem] def aPx:=k 0x1d26973331043a7c
@[go_sem] def aPy:=k 0xaa50
@[go_sem] def aPz:=k 0x12ee373170e041c108ca2142c
@[go_sem] def aPA:=k 0xe3deb32c6c
@[go_sem] def aPB:=k 0x219c24e2bd8c
def OT:TF:=⟨14,[.t 2],(.seq (.reg aPw) (.seq (.seq (.reg aPx) (.cond (.t 6) (.seq (.reg aPy) .ret) .skip)) (.seq (.reg aPz) (.seq (.reg aPA) (.seq (.reg aPB) .ret)))))⟩
/-! (*horarium/cursor.Cursor).Next -/
@[go_sem] def aPC:=k 0x6d81e0
@[go_sem] def aPD:=kd 0x164dc73c2c1e43af415070f2ca690f0b3e6c3c6501c1f775b28
@[go_sem] def aPE:=k 0x9b95706e061e94
@[go_sem] def aPF:=kd 0x1cec8892d50d31baf7f1ae6a403a35d93739be8dc28ba749d9546bba2fb9496a4dc6b9e98d3593f21a3fa6514de460630160e6f2fda5923e570d3f20931cb4d33ccdf5a96e67300960576ae197cbdb9
@[go_sem] def aPG:=kd 0x1a77a427255304f629e9e856913aa013effa863216f681a3d492d7cc2cf9
@[go_sem] def aPH:=k 0x110ee09c1e0d
@[go_sem] def aPI:=k 0x137a0f909a4da3f9d
def Kj:TF:=⟨56,[.cell 2 2 true,.t 3],(.seq (.reg aPC) (.seq (.seq (.dreg aPD) (.cond (.t 14) (.seq (.reg aPE) .ret) .skip)) (.seq (.dreg aPF) (.seq (.dreg aPG) (.seq (.reg aPH) (.seq (.reg aPI) .ret))))))⟩
/-! horarium/runs.Tidy -/
@[go_sem] def aPJ:=k 0xa990
@[go_sem] def aPK:=k 0xf220
@[go_sem] def aPL:=k 0xffcff0b142c
@[go_sem] def aPM:=k 0xa7fbe04
@[go_sem] def aPN:=k 0x8eaac87ffba68cc5c98d4
@[go_sem] def aPO:=k 0x52c590ff8d2dfd8c
@[go_sem] def aPP:=k 0x4ab4684c2adf9e5153d5d80
@[go_sem] def aPQ:=kd 0x13edc6c0ccd05f3fb030180a999f7b9d62b5bd6bbb8bb220b8c065d88a2ae4ea8b072c01038b49d339
@[go_sem] def aPR:=kd 0xbeb7cb6cf1bebc6aaa83ad17d6d7b91cbe34fbcb25c6dad92cba46e4a2b84755ee4d4fa29e890c88eb5d9529
@[go_sem] def aPS:=k 0x43d66c51cd099417b5ec1a4eac
@[go_sem] def aCB:=k 0x106fcc343b1b109
def UI:TC:=(.seq (.reg aPM) (.seq (.cond (.t 10) .skip (.exit 0)) (.seq (.block 1 (.seq (.reg aPN) (.seq (.reg aPO) (.block 2 (.seq (.reg aPP) (.cond (.t 19) .skip (.seq (.dreg aPQ) (.cond (.t 23) (.dreg aPR) (.reg aPS))))))))) (.reg aCB))))
@[go_sem] def aCC:=k 0x13531b9fd62717417d
def OU:TF:=⟨54,[.t 2],(.seq (.reg aPJ) (.seq (.reg aPK) (.seq (.seq (.reg aPL) (.block 0 (.loop UI))) (.seq (.reg aCC) .ret))))⟩
/-! slices.IndexFunc[[]horarium/api.Run,horarium/api.Run] -/
@[go_sem] def pM:=k 0x13a88
@[go_sem] def pN:=k 0xfe86db9cb9c
@[go_sem] def pO:=k 0x9542374
@[go_sem] def pP:=k 0x1a235aa23ddc
@[go_sem] def pQ:=k 0x6174c669fe08a7fb651597f053086c
@[go_sem] def pR:=k 0x2c0df01803cc
@[go_sem] def pS:=k 0x5de4bf2584478
def T9:TC:=(.seq (.reg pO) (.seq (.cond (.t 9) .skip (.exit 0)) (.seq (.block 1 (.seq (.reg pP) (.seq (.reg pQ) (.cond (.t 16) (.seq (.reg pR) .ret) .skip)))) (.reg pS))))
@[go_sem] def pT:=k 0x13b10
def JF:TF:=⟨19,[.t 4],(.seq (.reg pM) (.seq (.seq (.reg pN) (.block 0 (.loop T9))) (.seq (.reg pT) .ret)))⟩
/-! horarium/bound.Late -/
@[go_sem] def pU:=k 0x1cba8
@[go_sem] def pV:=k 0x6d3a6913301cff5b3e29f5aa4094577be33c18ac
@[go_sem] def pW:=k 0x28c2b2ed9494fdf16dd29c
@[go_sem] def pX:=k 0x1cba8
@[go_sem] def pY:=k 0x2f93b07cf04f8676bc06dc
@[go_sem] def pZ:=k 0x1cc30
@[go_sem] def qA:=k 0xb098852ed1b8d08c
@[go_sem] def qB:=k 0x2ede8
@[go_sem] def qC:=k 0x855e6e0bddad
@[go_sem] def qD:=k 0x97f73b85
@[go_sem] def ZT:=k 0x531af3498e952f9c7b7a855
@[go_sem] def ZU:=k 0x401f9eeec4189a27d3572dd03da9b94c361244511
@[go_sem] def ZV:=k 0xcaa4e5b5
@[go_sem] def ZW:=k 0x44d3baf5730bae55265
@[go_sem] def ZX:=k 0x2ab1a5ec8e94b652cd54553017c28a1c7f77a74c4c8a37e1b3d
@[go_sem] def ZY:=k 0x1238247356e1bd9
def Ii:TC:=(.seq (.reg ZV) (.seq (.cond (.t 45) .skip (.exit 3)) (.seq (.block 4 (.seq (.reg ZW) (.reg ZX))) (.reg ZY))))
@[go_sem] def ZZ:=k 0x127c45cc88b6469
def QV:TC:=(.seq (.reg qD) (.seq (.cond (.t 34) .skip (.exit 1)) (.seq (.block 2 (.seq (.reg ZT) (.seq (.reg ZU) (.block 3 (.loop Ii))))) (.reg ZZ))))
@[go_sem] def Z0:=k 0x4aaf57464f0dd
def JG:TF:=⟨59,[.t 6],(.seq (.reg pU) (.seq (.reg pV) (.seq (.block 0 (.seq (.reg pW) (.cond (.t 21) (.seq (.reg pX) .ret) (.seq (.reg pY) (.cond (.t 25) (.seq (.reg pZ) .ret) .skip))))) (.seq (.reg qA) (.seq (.reg qB) (.seq (.seq (.reg qC) (.block 1 (.loop QV))) (.seq (.reg Z0) .ret)))))))⟩
/-! horarium/bound.Budget -/
@[go_sem] def qE:=k 0x1cba8
@[go_sem] def qF:=k 0x58c8a51e84f5901c
@[go_sem] def qG:=k 0x19bbd2a0a542be1f2419c248b0ff22aac02057b9644763b12aa21a57a2ae053c
@[go_sem] def qH:=k 0x1cc30
@[go_sem] def qI:=k 0x3201030630eb9275bfc7fc
@[go_sem] def qJ:=k 0x50731455c5ac
@[go_sem] def qK:=k 0x2ede8
@[go_sem] def qL:=k 0xbd8fab90ef435923d
@[go_sem] def qM:=k 0x33678
@[go_sem] def qN:=k 0x879e52fbfd9d
@[go_sem] def Z2:=k 0xb8373375
@[go_sem] def Z3:=k 0x5a702302f1a924c1ef7a045
@[go_sem] def Z4:=k 0x5e01021507316e2cd97ae6477ba1283581ef3a4ee3db1ddbf1c0580f4ad86b7e42a2997b92c9286c1cfd
@[go_sem] def Z5:=k 0x12d78aa5f4aacf9
def QW:TC:=(.seq (.reg Z2) (.seq (.cond (.t 41) .skip (.exit 2)) (.seq (.block 3 (.seq (.reg Z3) (.reg Z4))) (.reg Z5))))
@[go_sem] def Z6:=k 0x194299908ecd2770ae3b156d
@[go_sem] def Z7:=k 0xf5a15b1ac3ab12684e26bed
def QX:TC:=(.seq (.seq (.reg qL) (.cond (.t 34) .skip (.exit 0))) (.seq (.block 1 (.seq (.reg qM) (.seq (.seq (.reg qN) (.block 2 (.loop QW))) (.reg Z6)))) (.reg Z7)))
@[go_sem] def Z8:=k 0x4fd3ab853ef1d
def JH:TF:=⟨63,[.t 6],(.seq (.reg qE) (.seq (.reg qF) (.seq (.seq (.reg qG) (.cond (.t 27) (.seq (.reg qH) .ret) .skip)) (.seq (.reg qI) (.seq (.reg qJ) (.seq (.seq (.reg qK) (.block 0 (.loop QX))) (.seq (.reg Z8) .ret)))))))⟩
/-! horarium/horariumref3.fine -/
@[go_sem] def qO:=k 0xd9b6108
@[go_sem] def qP:=k 0x7b733d203f0
@[go_sem] def qQ:=k 0x1fb563f6bddb4
@[go_sem] def qR:=k 0x375085ed76a531849d4e63748a20ae4d08cf3e49f33ca5a18766734959b33e55abf85d756630
@[go_sem] def qS:=k 0x6f3f5b3593024
@[go_sem] def qT:=k 0x7463af76b9cb4
@[go_sem] def qU:=k 0x1746a0be38ba4d0997f3fd32243bd3047baa018c01e379ef30
@[go_sem] def qV:=k 0xa70eff63239655
@[go_sem] def qW:=k 0x414e7327a784fd876d87de7c91d6c485cced901a62561a4b9ad41836ca61a9c11e8b9523760e496d1
@[go_sem] def qX:=k 0xa980
def JI:TF:=⟨46,[.t 2],(.seq (.reg qO) (.seq (.seq (.reg qP) (.block 0 (.seq (.reg qQ) (.cond (.t 5) (.seq (.reg qR) .ret) (.seq (.seq (.reg qS) (.cond (.t 20) .skip (.reg qT))) (.cond (.t 20) (.seq (.reg qU) .ret) (.seq (.reg qV) (.cond (.t 31) (.seq (.reg qW) .ret) .skip)))))))) (.seq (.reg qX) .ret)))⟩
/-! horarium/node.Length -/
@[go_sem] def qY:=k 0xd9ba968
@[go_sem] def qZ:=k 0x146b43ae9884b9c
@[go_sem] def rA:=k 0xd9ba968
@[go_sem] def rB:=k 0x1f4f8d763c2b07577d5ae8c1b58a5c172ddc
@[go_sem] def rC:=k 0x1204e75aa1c
@[go_sem] def rD:=k 0xb68caef55bb3c
@[go_sem] def rE:=k 0xd9ba968
def JJ:TF:=⟨17,[.t 2,.t 3],(.seq (.reg qY) (.seq (.seq (.reg qZ) (.cond (.t 8) (.seq (.reg rA) .ret) .skip)) (.seq (.seq (.reg rB) (.seq (.reg rC) (.cond (.t 15) (.seq (.reg rD) .ret) .skip))) (.seq (.reg rE) .ret))))⟩
/-! horarium/node.whole -/
@[go_sem] def rF:=k 0xa980
@[go_sem] def rG:=k 0x180609e0ff601342fa9dbd79fed75a500cf5ae42c6c0f0c219bc5f1ec
def JK:TF:=⟨13,[.t 2],(.seq (.reg rF) (.seq (.reg rG) .ret))⟩
/-! horarium/node.Depth -/
@[go_sem] def rH:=k 0xa968
@[go_sem] def rI:=k 0x11810a22bb7030c
@[go_sem] def rJ:=k 0xa968
@[go_sem] def rK:=k 0x1ce700792e48fed483c039e7a3640e45e54c
@[go_sem] def rL:=k 0x219c24e2bd8c
def JL:TF:=⟨14,[.t 2],(.seq (.reg rH) (.seq (.seq (.reg rI) (.cond (.t 7) (.seq (.reg rJ) .ret) .skip)) (.seq (.reg rK) (.seq (.reg rL) .ret))))⟩
/-! (*horarium/cursor.Cursor).Reset -/
@[go_sem] def rM:=k 0x169bd8d6f9e38fc1311464ebbd1aa7368f4663a958db4d585aedf1c7695c
@[go_sem] def rN:=k 0x1c49764a766c
def JM:TF:=⟨13,[],(.seq (.reg rM) (.reg rN))⟩
/-! horarium/cursor.part -/
@[go_sem] def rO:=k 0x6cde108
@[go_sem] def rP:=k 0x2f5e40ff9b7d203f0
@[go_sem] def rQ:=k 0xa9f0
@[go_sem] def rR:=k 0x5277dd6fdcf551da0
def JN:TF:=⟨8,[.t 2],(.seq (.reg rO) (.seq (.seq (.reg rP) (.cond (.t 5) (.seq (.reg rQ) .ret) .skip)) (.seq (.reg rR) .ret)))⟩
/-! (*horarium/cursor.Cursor).step -/
@[go_sem] def rS:=k 0x89300da2c9640d0b60a0ce4f434fa7c
@[go_sem] def rT:=k 0x123646e35f29aa394b654c
@[go_sem] def rU:=k 0x87f3134a5bbfb5abced76552bf3efc
@[go_sem] def rV:=kd 0x5fda00dcdf0c9e721c9e6f36d51980b872c56016b6b29b86610d25cb606118
@[go_sem] def rX:=k 0x18407bb9cffaadb009d8f21020da830c95e19f4b1bc8d
@[go_sem] def rY:=k 0x49116379794fac4e4c43958fb87d
@[go_sem] def rZ:=kd 0x15c4e3e9ef6ff86c24a7d39cd372a79336670e849e59a4f515a6d5e68dc311f17e9
@[go_sem] def sC:=k 0x79280769a0d64d997932e9d898d3188a0d
@[go_sem] def sD:=k 0x1578336cccfa3388dd
@[go_sem] def sE:=kd 0x8c155e86345d3e7ec512b2dea74e0f78d7628190eb84de58fc5dceaf646a4e21b35e412e3f36ad4f8c78bf9aa
def QY:TC:=(.seq (.seq (.reg rU) (.cond (.t 17) .skip (.exit 0))) (.block 1 (.seq (.dreg rV) (.seq (.seq (.reg rX) (.seq (.reg rY) (.cond (.t 40) (.seq (.seq (.dreg rZ) (.cond (.t 52) (.reg sC) .skip)) (.seq (.reg sD) .ret)) .skip))) (.dreg sE)))))
@[go_sem] def Z9:=k 0x3ff4493702114e2fc0e4fcc0260e908bc020f3d40976e815a6e
def JO:TF:=⟨83,[],(.seq (.reg rS) (.seq (.reg rT) (.seq (.block 0 (.loop QY)) (.reg Z9))))⟩
/-! horarium/runs.Add -/
@[go_sem] def sF:=k 0x13a88
@[go_sem] def sG:=k 0x87f5bb93f7310f8d2c0f44eb73dc30c
@[go_sem] def sH:=k 0x7b86a4240ebe7c3a654c
@[go_sem] def sI:=k 0x13cc4
@[go_sem] def sJ:=k 0x1902b69e87f9a1ef3b878c
def JP:TF:=⟨16,[.t 4],(.seq (.reg sF) (.seq (.reg sG) (.seq (.seq (.reg sH) (.cond (.t 12) (.seq (.reg sI) .ret) .skip)) (.seq (.reg sJ) .ret))))⟩
/-! slices.Clip[[]horarium/api.Run,horarium/api.Run] -/
@[go_sem] def sK:=k 0xa990
@[go_sem] def sL:=k 0x1371574ddc1992a960ded593c732b667b1ec
def JQ:TF:=⟨9,[.t 2],(.seq (.reg sK) (.seq (.reg sL) .ret))⟩
/-! horarium/bound.spans -/
@[go_sem] def sM:=k 0x13ab0
@[go_sem] def sN:=k 0x18340
@[go_sem] def sO:=k 0x1cba8
@[go_sem] def sP:=k 0x103ab2feeddc
@[go_sem] def sQ:=k 0xe028db4
@[go_sem] def sR:=k 0xe076ab3848dc7fe3f6884
@[go_sem] def sS:=k 0x9093100830833da91f59d6c0d3c
@[go_sem] def sT:=k 0x4cea24a2215937db62ae37c49e574fb26217c575c365380
@[go_sem] def sU:=k 0x14857dccaf1a7e6381b83e05d4f7f8f2496048d
@[go_sem] def sV:=k 0x2d1e72d4c47ed
@[go_sem] def aA:=k 0xba198784487099
def QZ:TC:=(.seq (.reg sQ) (.seq (.cond (.t 13) .skip (.exit 0)) (.seq (.block 1 (.seq (.reg sR) (.seq (.reg sS) (.seq (.seq (.reg sT) (.cond (.t 28) (.reg sU) .skip)) (.reg sV))))) (.reg aA))))
@[go_sem] def aB:=k 0x2fa65447c490d
def JR:TF:=⟨38,[.t 4],(.seq (.reg sM) (.seq (.reg sN) (.seq (.reg sO) (.seq (.seq (.reg sP) (.block 0 (.loop QZ))) (.seq (.reg aB) .ret)))))⟩
/-! horarium/runs.Length -/
@[go_sem] def sW:=k 0xa968
@[go_sem] def sX:=k 0xf1f8
@[go_sem] def sY:=k 0xfe86db9cb9c
@[go_sem] def sZ:=k 0x9542374
@[go_sem] def tA:=k 0x8dd744ed8dacea110fe44
@[go_sem] def tB:=k 0x71315a1f58f32c3d781a95cb4fc
@[go_sem] def tC:=k 0x539c16a57b358
def Ua:TC:=(.seq (.reg sZ) (.seq (.cond (.t 9) .skip (.exit 0)) (.seq (.block 1 (.seq (.reg tA) (.reg tB))) (.reg tC))))
@[go_sem] def tD:=k 0x2be4cd63dfcc
def JS:TF:=⟨18,[.t 2],(.seq (.reg sW) (.seq (.reg sX) (.seq (.seq (.reg sY) (.block 0 (.loop Ua))) (.seq (.reg tD) .ret))))⟩
/-! horarium/bound.next -/
@[go_sem] def tE:=k 0x1cba8
@[go_sem] def tF:=k 0x102621ada54c
@[go_sem] def tG:=k 0xcd6f324
@[go_sem] def tH:=k 0xdfa327a5dae2dd2f3cdf4
@[go_sem] def tI:=k 0x7c1f4ac430078e9c4d8a494eaac
@[go_sem] def tJ:=k 0x3366ab48440e1075745f2e6017736557c
@[go_sem] def tK:=k 0x825e750210068
def Ub:TC:=(.seq (.reg tG) (.seq (.cond (.t 12) .skip (.exit 0)) (.seq (.block 1 (.seq (.reg tH) (.seq (.reg tI) (.cond (.t 19) (.seq (.reg tJ) .ret) .skip)))) (.reg tK))))
@[go_sem] def tL:=k 0x9645f63f4d72f377870b7773b346c12805adc
def JT:TF:=⟨32,[.t 6],(.seq (.reg tE) (.seq (.seq (.reg tF) (.block 0 (.loop Ub))) (.seq (.reg tL) .ret)))⟩
/-! horarium/node.measure -/
@[go_sem] def tM:=k 0x6ce2968
@[go_sem] def tN:=k 0x40eaf8297ec285b4
@[go_sem] def tO:=k 0x1063d5a17efc
@[go_sem] def tP:=k 0x1059c2d4
@[go_sem] def tQ:=k 0xad3e1f2f7f6a333269d90
@[go_sem] def tR:=kd 0x1c75c882d1c67e5be2190d4066717044a5a2a11e12eb918
@[go_sem] def tS:=k 0x2cfeb54db370962706764c
@[go_sem] def tT:=k 0x43f963fdd3d1cd33eb4b9ab04f83c797fd
@[go_sem] def tU:=k 0x1bb7edaa51a2bcc2a03a6bbc3ce33888ba13f8ec94b5d
@[go_sem] def tV:=k 0x395053516d39783c62291cdea82fec19089dc7a9a9be3ac9f0d2e2a7c51e1a259680474d
@[go_sem] def aC:=kd 0x2813cd9fa8babdf8c7756db8714983c7cc08b1a9c5b7ca40b7285e646b3c6e2d0d4d127ff3166f4af7dda
@[go_sem] def aD:=k 0x125483f71d3c72e08bef3015460470b4fa4ce
@[go_sem] def aE:=k 0x3b839e2a454bd23a00579362fa2
@[go_sem] def aF:=k 0xdc25c8a3191c985d2bb271f838b3bcfb1b2c821dcb7993751e2
@[go_sem] def aG:=k 0x3bd8f253662c6a86524f33a4ce235aed52d0e88a8a6995ce
@[go_sem] def aH:=kd 0x3fa54ec6b69bc799ac6b347e4ae8c3ae775ea3c5d8e3d5ccefa4e5d321fb58885a1716d4f3a
@[go_sem] def aI:=kd 0xf774dfb70ac80b3c4b0c5e6cde6d465288d0902972c7fb05e16145a72fe09623f1ca
def Ll:TC:=(.seq (.seq (.reg tV) (.cond (.t 53) .skip (.exit 2))) (.block 3 (.seq (.dreg aC) (.seq (.reg aD) (.seq (.seq (.reg aE) (.cond (.t 73) (.reg aF) .skip)) (.seq (.reg aG) (.seq (.dreg aH) (.dreg aI))))))))
@[go_sem] def aJ:=k 0x2310b47c7c3b45aa
def Q0:TC:=(.seq (.reg tP) (.seq (.cond (.t 15) .skip (.exit 0)) (.seq (.block 1 (.seq (.reg tQ) (.seq (.dreg tR) (.seq (.seq (.reg tS) (.seq (.reg tT) (.cond (.t 33) (.reg tU) .skip))) (.block 2 (.loop Ll)))))) (.reg aJ))))
@[go_sem] def aK:=kd 0x1366c0d3ccbd91595a1f8d6ca3020a2be699952533a9f4f545914dcfda5c5a
def JU:TF:=⟨118,[.t 2,.t 3],(.seq (.reg tM) (.seq (.reg tN) (.seq (.seq (.reg tO) (.block 0 (.loop Q0))) (.seq (.dreg aK) .ret))))⟩
/-! horarium/node.Size -/
@[go_sem] def tW:=k 0x13a88
@[go_sem] def tX:=k 0x7200ec98477a8ece06604af86139858c54051aebc
@[go_sem] def tY:=k 0x13a88
@[go_sem] def tZ:=k 0xa9518
@[go_sem] def uA:=k 0x29a4e875733c
@[go_sem] def uB:=k 0xe8957c950b6985a215cc
@[go_sem] def uC:=k 0xe75c2ad6b70fc15df290bd7a535d2c
@[go_sem] def uD:=k 0x47fcaf0dc5fc
@[go_sem] def uE:=k 0x13a88
@[go_sem] def uF:=k 0xf7ee51dd06b309326b6f159da4d1d
@[go_sem] def aL:=k 0x2bb4ceb356f5d
@[go_sem] def aM:=k 0x124c7547341eecc0e105179715247d
@[go_sem] def aN:=k 0x102d22ba266d83f80c
def Q1:TC:=(.seq (.seq (.reg uB) (.cond (.t 20) .skip (.exit 0))) (.seq (.block 1 (.seq (.reg uC) (.seq (.seq (.reg uD) (.cond (.t 29) (.seq (.reg uE) .ret) .skip)) (.seq (.reg uF) (.seq (.reg aL) (.cond (.t 35) (.seq (.reg aM) .ret) .skip)))))) (.reg aN)))
@[go_sem] def aO:=k 0x13a88
def JV:TF:=⟨40,[.t 4],(.seq (.reg tW) (.seq (.seq (.reg tX) (.cond (.t 15) (.seq (.reg tY) .ret) .skip)) (.seq (.reg tZ) (.seq (.seq (.reg uA) (.block 0 (.loop Q1))) (.seq (.reg aO) .ret)))))⟩
/-! (*horarium/cursor.Cursor).down -/
@[go_sem] def uG:=k 0xa8a506a8ebf94f07aac70d279106792074f12a04fc6130f0ee63d1129741b7401367618dcffb267a4c46fe1c44d9d434fa7c
@[go_sem] def uH:=kd 0x2adde1bd7fc73d0f3c27fd9fe5c61de984a7c1fde473bd8f23f61601c807c5a791574f4bc4e74ceb7861167bdd6b3b3f2a7d492d250cbe4b39
@[go_sem] def uI:=k 0x40289cd6a83cdbc6c6d
def Uc:TC:=(.seq (.seq (.reg uG) (.cond (.t 23) .skip (.exit 0))) (.block 1 (.seq (.dreg uH) (.reg uI))))
@[go_sem] def uJ:=k 0x5b4bb8e4b4c3c93aefca1debd98d
def JW:TF:=⟨49,[],(.seq (.block 0 (.loop Uc)) (.reg uJ))⟩
/-! horarium/node.kids -/
@[go_sem] def uK:=k 0x6cde108
@[go_sem] def uL:=k 0x5d68cda6f2dfa78df33bdedc5ec86dfd92723c75e9bc4e1e39ce758b246714de00da27436cc80
@[go_sem] def uM:=k 0xa9f0
@[go_sem] def uN:=k 0x589363ae6e6cbb197899a3a8d156be8abab965ce2aa41968abbdf3c53a38f5cdf7329fb64460
@[go_sem] def uO:=k 0x36fa7ef624db14d46ba5b05b1
@[go_sem] def uP:=k 0xa968
@[go_sem] def uQ:=k 0x83b0906212738458c37bdcf5afa4ed8803d6436340e4fe5c27f1
@[go_sem] def uR:=k 0x402e71472900f706c71
@[go_sem] def uS:=k 0x507cfd550baf6e03c795f4621
@[go_sem] def uT:=k 0x9bb68
@[go_sem] def aP:=k 0xa9f0
def JX:TF:=⟨49,[.t 2],(.seq (.reg uK) (.seq (.block 0 (.seq (.reg uL) (.cond (.t 3) (.seq (.reg uM) .ret) (.seq (.seq (.reg uN) (.cond (.t 17) .skip (.reg uO))) (.cond (.t 17) (.seq (.reg uP) .ret) (.seq (.reg uQ) (.cond (.t 34) (.seq (.reg uR) .ret) (.seq (.reg uS) (.cond (.t 45) (.seq (.reg uT) .ret) .skip))))))))) (.seq (.reg aP) .ret)))⟩
/-! horarium/node.times -/
@[go_sem] def uU:=k 0x13a88
@[go_sem] def uV:=k 0x4d9f259fa24301dcb204845e6f030c
def JY:TF:=⟨10,[.t 4],(.seq (.reg uU) (.seq (.reg uV) .ret))⟩
/-! horarium/node.add -/
@[go_sem] def uW:=k 0x13a88
@[go_sem] def uX:=k 0x4d9f259fa235c7d211fa1c9df9430c
def JZ:TF:=⟨10,[.t 4],(.seq (.reg uW) (.seq (.reg uX) .ret))⟩
/-! (horarium/part.none).Change -/
@[go_sem] def uY:=k 0x594edbe998
@[go_sem] def uZ:=k 0x13d04
def J0:TF:=⟨5,[.t 4],(.seq (.reg uY) (.seq (.reg uZ) .ret))⟩
/-! (horarium/part.none).Recv -/
@[go_sem] def vA:=k 0x69c20dfbe998
@[go_sem] def vB:=k 0xd9c3b14
def J1:TF:=⟨6,[.t 4,.t 5],(.seq (.reg vA) (.seq (.reg vB) .ret))⟩
/-! (horarium/part.none).Send -/
@[go_sem] def vC:=k 0x82717e3228
@[go_sem] def vD:=k 0x1d194
def J2:TF:=⟨7,[.t 6],(.seq (.reg vC) (.seq (.reg vD) .ret))⟩
/-! (horarium/part.none).StopAll -/
@[go_sem] def vE:=k 0x2e7ca108
@[go_sem] def vF:=k 0xabe4
def J3:TF:=⟨3,[.t 2],(.seq (.reg vE) (.seq (.reg vF) .ret))⟩
/-! (*horarium/proc.ready).Less -/
@[go_sem] def vG:=k 0x1cbc0
@[go_sem] def vH:=kd 0x7bfe0680cdc2920ab9dfcc123cd46c40245d800ae324cccb365dc95074c35f5a988d4468cfa21e8
@[go_sem] def vI:=kd 0x56c126444b2f2acb9d45c4edb59abcd6f4abc579bd8a2a52fd7c2dace37ad750746ed84a58f375198a65e1cd98c2c498ee54dcfc04be834d143f68de2749109989
def J4:TF:=⟨46,[.t 6],(.seq (.reg vG) (.seq (.dreg vH) (.seq (.dreg vI) .ret)))⟩
/-! (*horarium/proc.ready).Pop -/
@[go_sem] def vJ:=k 0xab94
@[go_sem] def vK:=k 0x1855b3a830467a2336cf2f97e67a9206430c
@[go_sem] def vL:=k 0x5d947f7af6ea63bbf3513a58db0c913f04edf66c
@[go_sem] def vM:=k 0x5df8267381b1c3d25e79b6421c336e40d761bf5a09b7cbf25c
@[go_sem] def vN:=k 0xa3a92b5d3da6c76c
def J5:TF:=⟨29,[.t 2],(.seq (.reg vJ) (.seq (.reg vK) (.seq (.reg vL) (.seq (.reg vM) (.seq (.reg vN) .ret)))))⟩
/-! (*horarium/proc.ready).Push -/
@[go_sem] def vO:=kd 0x54cf8ecf39766817edfb8971693833655a4ac7e7c346c16a294668d7a00864fa978
def J6:TF:=⟨15,[],(.dreg vO)⟩
/-! (*horarium/proc.ready).Swap -/
@[go_sem] def vP:=kd 0x15e9cece8c85e029408dd6ee21622668cb9659e21d3deae955eda1114bd652b9792a7403de0219ef3c9a5c1d6186a9b16d2a0bab61d17793ed277ee32973098e8cc37b49b2d80cd8
def J7:TF:=⟨32,[],(.dreg vP)⟩
/-! cmp.Or[int] -/
@[go_sem] def vQ:=k 0xa968
@[go_sem] def vR:=k 0xf1f8
@[go_sem] def vS:=k 0xfe86db9cb9c
@[go_sem] def vT:=k 0x9542374
@[go_sem] def vU:=k 0x82333759f2dc0fe24
@[go_sem] def vV:=k 0x48540a7a4bca98fc
@[go_sem] def vW:=k 0x26c0793572ac
@[go_sem] def vX:=k 0x539c16a57b358
def Lm:TC:=(.seq (.reg vT) (.seq (.cond (.t 9) .skip (.exit 0)) (.seq (.block 1 (.seq (.reg vU) (.seq (.reg vV) (.cond (.t 14) (.seq (.reg vW) .ret) .skip)))) (.reg vX))))
@[go_sem] def vY:=k 0x2be4cd63dfcc
def J8:TF:=⟨18,[.t 2],(.seq (.reg vQ) (.seq (.reg vR) (.seq (.seq (.reg vS) (.block 0 (.loop Lm))) (.seq (.reg vY) .ret))))⟩
/-! cmp.Compare[int] -/
@[go_sem] def vZ:=k 0x13a88
@[go_sem] def wA:=k 0x2f9c49df4cf0d42c
@[go_sem] def wB:=k 0x3b73ce97bc1c774c
@[go_sem] def wC:=k 0x30906c
@[go_sem] def wD:=k 0x39eafc
@[go_sem] def wE:=k 0x13a88
@[go_sem] def wF:=k 0x13b10
@[go_sem] def wG:=k 0x3a338c
@[go_sem] def wH:=k 0xa4c88
@[go_sem] def wI:=k 0x5459dd8d33dbd01c
@[go_sem] def aQ:=k 0x13b10
@[go_sem] def aR:=k 0x66638ac9a6dca9cc
@[go_sem] def aS:=k 0xa4c88
@[go_sem] def aU:=k 0x13a88
def J9:TF:=⟨20,[.t 4],(.seq (.reg vZ) (.seq (.reg wA) (.seq (.reg wB) (.seq (.seq (.reg wC) (.cond (.t 11) (.seq (.seq (.reg wD) (.cond (.t 12) (.seq (.reg wE) .ret) .skip)) (.seq (.reg wF) .ret)) .skip)) (.seq (.seq (.reg wG) (.cond (.t 13) (.seq (.reg wH) .ret) .skip)) (.seq (.seq (.reg wI) (.cond (.t 16) (.seq (.reg aQ) .ret) .skip)) (.seq (.seq (.reg aR) (.cond (.t 19) (.seq (.reg aS) .ret) .skip)) (.seq (.reg aU) .ret))))))))⟩
/-! cmp.isNaN[int] -/
@[go_sem] def wJ:=k 0xa980
@[go_sem] def wK:=k 0x861fe7f875b62f727b1ec
def Ka:TF:=⟨6,[.t 2],(.seq (.reg wJ) (.seq (.reg wK) .ret))⟩
def aFK:Nat→Option TF
 | 3=>some YI
 | 10=>some YJ
 | 11=>some YK
 | 12=>some YL
 | 13=>some Mc
 | 14=>some QI
 | 15=>some QJ
 | 16=>some QK
 | 17=>some YM
 | 18=>some YN
 | 22=>some NA
 | 23=>some NB
 | 24=>some NC
 | 25=>some ND
 | 26=>some NE
 | 27=>some NF
 | 28=>some Kb
 | 29=>some NG
 | 30=>some NH
 | 31=>some NI
 | 32=>some NJ
 | 33=>some NK
 | 34=>some NL
 | 35=>some NM
 | 36=>some NN
 | 37=>some Cl
 | 38=>some NO
 | 39=>some NP
 | 40=>some NQ
 | 41=>some NR
 | 42=>some NS
 | 43=>some NT
 | 51=>some Kc
 | 52=>some NU
 | 53=>some NV
 | 54=>some NW
 | 55=>some NX
 | 56=>some NY
 | 57=>some NZ
 | 58=>some Kd
 | 59=>some Ke
 | 60=>some N0
 | 61=>some N1
 | 62=>some Kf
 | 63=>some Kg
 | 64=>some N2
 | 65=>some N7
 | 66=>some N8
 | 67=>some N9
 | 68=>some Oa
 | 69=>some Kh
 | 70=>some Cm
 | 71=>some G7
 | 72=>some Ob
 | 73=>some Oc
 | 74=>some Od
 | 75=>some FG
 | 76=>some Oe
 | 77=>some Og
 | 78=>some Oh
 | 86=>some Oi
 | 87=>some Oj
 | 88=>some Ol
 | 89=>some Om
 | 90=>some Oo
 | 91=>some Oq
 | 92=>some Ot
 | 93=>some Ou
 | 94=>some Ov
 | 95=>some Ow
 | 96=>some Ox
 | 97=>some Oy
 | 98=>some Ki
 | 99=>some G8
 | 100=>some Oz
 | 101=>some FH
 | 102=>some Dw
 | 103=>some G9
 | 107=>some OA
 | 108=>some OB
 | 109=>some Ha
 | 110=>some OC
 | 111=>some OD
 | 112=>some OE
 | 113=>some OF
 | 114=>some OG
 | 115=>some OH
 | 116=>some OI
 | 117=>some OJ
 | 118=>some OK
 | 119=>some OL
 | 120=>some OM
 | 123=>some ON
 | 124=>some OO
 | 125=>some OP
 | 126=>some OQ
 | 127=>some OS
 | 128=>some OT
 | 129=>some Kj
 | 130=>some OU
 | 131=>some JF
 | 132=>some JG
 | 133=>some JH
 | 134=>some JI
 | 135=>some JJ
 | 136=>some JK
 | 137=>some JL
 | 138=>some JM
 | 139=>some JN
 | 140=>some JO
 | 141=>some JP
 | 142=>some JQ
 | 143=>some JR
 | 144=>some JS
 | 145=>some JT
 | 146=>some JU
 | 147=>some JV
 | 148=>some JW
 | 149=>some JX
 | 150=>some JY
 | 151=>some JZ
 | 169=>some J0
 | 170=>some J1
 | 171=>some J2
 | 172=>some J3
 | 177=>some J4
 | 178=>some J5
 | 179=>some J6
 | 180=>some J7
 | 181=>some J8
 | 182=>some J9
 | 183=>some Ka
 | _=>none
def QM:Nat→String→Option T8
 | 149,"Push"=>some ⟨I9,none⟩
 | 149,"Len"=>some ⟨MP,none⟩
 | 149,"Less"=>some ⟨LL,none⟩
 | 149,"Swap"=>some ⟨Ja,none⟩
 | 149,"Pop"=>some ⟨I8,none⟩
 | 91,"Change"=>some ⟨Qb,none⟩
 | 91,"StopAll"=>some ⟨Qe,none⟩
 | 91,"Send"=>some ⟨Qd,none⟩
 | 91,"Recv"=>some ⟨Qc,none⟩
 | _,_=>none
def tp:TP:=⟨aFK,QM⟩
theorem aQn:tp.fn aQt=some YI:=rfl
theorem aQo:tp.fn gE=some YJ:=rfl
theorem aQp:tp.fn gF=some YK:=rfl
theorem aQq:tp.fn gG=some YL:=rfl
theorem V2:tp.fn Qi=some Mc:=rfl
theorem oX:tp.fn SY=some QI:=rfl
theorem oY:tp.fn gH=some QJ:=rfl
theorem oZ:tp.fn W3=some QK:=rfl
theorem aQr:tp.fn aEV=some YM:=rfl
theorem aQs:tp.fn aEW=some YN:=rfl
theorem aDG:tp.fn Wl=some NA:=rfl
theorem aDH:tp.fn KQ=some NB:=rfl
theorem aDI:tp.fn Rf=some NC:=rfl
theorem aDJ:tp.fn Rg=some ND:=rfl
theorem aDK:tp.fn Rh=some NE:=rfl
theorem aDL:tp.fn Wm=some NF:=rfl
theorem aDM:tp.fn Wn=some Kb:=rfl
theorem aDN:tp.fn Wp=some NG:=rfl
theorem aDO:tp.fn Wq=some NH:=rfl
theorem aDP:tp.fn Ws=some NI:=rfl
theorem aDQ:tp.fn Wt=some NJ:=rfl
theorem aDR:tp.fn Ri=some NK:=rfl
theorem aDS:tp.fn Wu=some NL:=rfl
theorem aDT:tp.fn Ww=some NM:=rfl
theorem aDU:tp.fn Wx=some NN:=rfl
theorem E0:tp.fn Rj=some Cl:=rfl
theorem aDV:tp.fn Rk=some NO:=rfl
theorem aDW:tp.fn Wy=some NP:=rfl
theorem aDX:tp.fn Wz=some NQ:=rfl
theorem aDY:tp.fn WA=some NR:=rfl
theorem aDZ:tp.fn WB=some NS:=rfl
theorem aD0:tp.fn Rl=some NT:=rfl
theorem V0:tp.fn MO=some Kc:=rfl
theorem aD1:tp.fn WD=some NU:=rfl
theorem aD2:tp.fn WE=some NV:=rfl
theorem aD3:tp.fn WF=some NW:=rfl
theorem aD4:tp.fn WG=some NX:=rfl
theorem aD5:tp.fn WH=some NY:=rfl
theorem aD6:tp.fn WI=some NZ:=rfl
theorem V1:tp.fn Rm=some Kd:=rfl
theorem V3:tp.fn Rn=some Ke:=rfl
theorem aD7:tp.fn WJ=some N0:=rfl
theorem aD8:tp.fn WK=some N1:=rfl
theorem V4:tp.fn Ro=some Kf:=rfl
theorem V5:tp.fn Rp=some Kg:=rfl
theorem aD9:tp.fn Rq=some N2:=rfl
theorem aEa:tp.fn Rr=some N7:=rfl
theorem aEb:tp.fn MP=some N8:=rfl
theorem aEc:tp.fn Rt=some N9:=rfl
theorem aEd:tp.fn WL=some Oa:=rfl
theorem V6:tp.fn WM=some Kh:=rfl
theorem E2:tp.fn Ru=some Cm:=rfl
theorem PH:tp.fn Rv=some G7:=rfl
theorem aEe:tp.fn WN=some Ob:=rfl
theorem aEf:tp.fn Rx=some Oc:=rfl
theorem aEg:tp.fn Ry=some Od:=rfl
theorem LD:tp.fn Rz=some FG:=rfl
theorem aEh:tp.fn RA=some Oe:=rfl
theorem aEi:tp.fn WO=some Og:=rfl
theorem aEj:tp.fn WP=some Oh:=rfl
theorem aEk:tp.fn WR=some Oi:=rfl
theorem aEl:tp.fn WT=some Oj:=rfl
theorem aEm:tp.fn WU=some Ol:=rfl
theorem aEn:tp.fn WV=some Om:=rfl
theorem aEo:tp.fn WW=some Oo:=rfl
theorem aEp:tp.fn WX=some Oq:=rfl
theorem aEq:tp.fn WY=some Ot:=rfl
theorem aEr:tp.fn WZ=some Ou:=rfl
theorem aEs:tp.fn W0=some Ov:=rfl
theorem aEt:tp.fn W2=some Ow:=rfl
theorem aEu:tp.fn W4=some Ox:=rfl
theorem aEv:tp.fn W5=some Oy:=rfl
theorem V7:tp.fn RC=some Ki:=rfl
theorem PI:tp.fn RD=some G8:=rfl
theorem aEw:tp.fn W6=some Oz:=rfl
theorem LE:tp.fn W7=some FH:=rfl
theorem Gh:tp.fn W8=some Dw:=rfl
theorem PJ:tp.fn W9=some G9:=rfl
theorem aEx:tp.fn Xa=some OA:=rfl
theorem aEy:tp.fn Xb=some OB:=rfl
theorem PK:tp.fn Jb=some Ha:=rfl
theorem aEz:tp.fn Xc=some OC:=rfl
theorem aEA:tp.fn Xd=some OD:=rfl
theorem aEB:tp.fn Xe=some OE:=rfl
theorem aEC:tp.fn Xf=some OF:=rfl
theorem aED:tp.fn Xg=some OG:=rfl
theorem aEE:tp.fn Xh=some OH:=rfl
theorem aEF:tp.fn KR=some OI:=rfl
theorem aEG:tp.fn Xi=some OJ:=rfl
theorem aEH:tp.fn Xj=some OK:=rfl
theorem aEI:tp.fn Xk=some OL:=rfl
theorem aEJ:tp.fn Xl=some OM:=rfl
theorem aEK:tp.fn RE=some ON:=rfl
theorem aEL:tp.fn MQ=some OO:=rfl
theorem aEM:tp.fn MR=some OP:=rfl
theorem aEN:tp.fn Xm=some OQ:=rfl
theorem aEO:tp.fn Xn=some OS:=rfl
theorem aEP:tp.fn Xo=some OT:=rfl
theorem V8:tp.fn Jc=some Kj:=rfl
theorem aEQ:tp.fn Xp=some OU:=rfl
theorem eS:tp.fn PM=some JF:=rfl
theorem eT:tp.fn PP=some JG:=rfl
theorem eU:tp.fn PQ=some JH:=rfl
theorem eV:tp.fn PT=some JI:=rfl
theorem eW:tp.fn PU=some JJ:=rfl
theorem eY:tp.fn PV=some JK:=rfl
theorem eZ:tp.fn PX=some JL:=rfl
theorem fA:tp.fn LJ=some JM:=rfl
theorem fB:tp.fn PY=some JN:=rfl
theorem fC:tp.fn LK=some JO:=rfl
theorem fD:tp.fn PZ=some JP:=rfl
theorem fE:tp.fn P1=some JQ:=rfl
theorem fF:tp.fn P3=some JR:=rfl
theorem fG:tp.fn P4=some JS:=rfl
theorem fH:tp.fn P5=some JT:=rfl
theorem fI:tp.fn P6=some JU:=rfl
theorem fJ:tp.fn P7=some JV:=rfl
theorem fK:tp.fn I7=some JW:=rfl
theorem fL:tp.fn P8=some JX:=rfl
theorem fM:tp.fn P9=some JY:=rfl
theorem fN:tp.fn Qa=some JZ:=rfl
theorem fO:tp.fn Qb=some J0:=rfl
theorem fP:tp.fn Qc=some J1:=rfl
theorem fQ:tp.fn Qd=some J2:=rfl
theorem fR:tp.fn Qe=some J3:=rfl
theorem fS:tp.fn LL=some J4:=rfl
theorem fT:tp.fn I8=some J5:=rfl
theorem fU:tp.fn I9=some J6:=rfl
theorem fV:tp.fn Ja=some J7:=rfl
theorem fW:tp.fn Qf=some J8:=rfl
theorem fX:tp.fn Qg=some J9:=rfl
theorem fY:tp.fn Qh=some Ka:=rfl
@[go_sem] theorem ZI:tp.meth 149 "Push"=some ⟨I9,none⟩:=by kernel_rfl
@[go_sem] theorem gX:tp.meth 149 "Len"=some ⟨MP,none⟩:=by kernel_rfl
@[go_sem] theorem ZH:tp.meth 149 "Less"=some ⟨LL,none⟩:=by kernel_rfl
@[go_sem] theorem ZJ:tp.meth 149 "Swap"=some ⟨Ja,none⟩:=by kernel_rfl
@[go_sem] theorem gY:tp.meth 149 "Pop"=some ⟨I8,none⟩:=by kernel_rfl
@[go_sem] theorem Jl:tp.meth 91 "Change"=some ⟨Qb,none⟩:=by kernel_rfl
@[go_sem] theorem Ib:tp.meth 91 "StopAll"=some ⟨Qe,none⟩:=by kernel_rfl
@[go_sem] theorem LS:tp.meth 91 "Send"=some ⟨Qd,none⟩:=by kernel_rfl
@[go_sem] theorem LR:tp.meth 91 "Recv"=some ⟨Qc,none⟩:=by kernel_rfl
end Go.Ab.T
