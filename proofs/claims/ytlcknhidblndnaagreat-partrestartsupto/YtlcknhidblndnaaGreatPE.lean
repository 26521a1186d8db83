/- Part of a proof that a law returns true for every input of the second form's bound (no other condition). -/
import Derived.Test.YtlcknhidblndnaaGreatPD
set_option linter.all false
/- The abstract machine's text of the functions, its regions as numbers. Written by a tool. -/
namespace Go.Ab.T
open Go Go.Ab
set_option maxRecDepth 100000
abbrev aPQ:Nat:=8
abbrev fS:Nat:=10
abbrev aEf:Nat:=12
abbrev SI:Nat:=13
abbrev SJ:Nat:=14
abbrev fT:Nat:=15
abbrev WG:Nat:=16
abbrev aEg:Nat:=17
abbrev aEh:Nat:=18
abbrev aEi:Nat:=21
abbrev Q1:Nat:=22
abbrev MA:Nat:=23
abbrev Q2:Nat:=24
abbrev Q3:Nat:=25
abbrev V8:Nat:=27
abbrev V9:Nat:=28
abbrev Wa:Nat:=29
abbrev Wc:Nat:=30
abbrev Wd:Nat:=31
abbrev We:Nat:=32
abbrev Q4:Nat:=33
abbrev Wh:Nat:=34
abbrev Wi:Nat:=35
abbrev Wj:Nat:=36
abbrev Q5:Nat:=37
abbrev Q6:Nat:=38
abbrev Wk:Nat:=39
abbrev Wl:Nat:=40
abbrev Wm:Nat:=41
abbrev Wn:Nat:=42
abbrev Q7:Nat:=43
abbrev MB:Nat:=51
abbrev Wp:Nat:=52
abbrev Wq:Nat:=53
abbrev Ws:Nat:=54
abbrev Wt:Nat:=55
abbrev Wu:Nat:=56
abbrev Ww:Nat:=57
abbrev Q8:Nat:=58
abbrev Q9:Nat:=59
abbrev Wx:Nat:=60
abbrev Wy:Nat:=61
abbrev Ra:Nat:=62
abbrev Rb:Nat:=63
abbrev Rd:Nat:=64
abbrev Re:Nat:=65
abbrev MC:Nat:=66
abbrev Rf:Nat:=67
abbrev Wz:Nat:=68
abbrev WA:Nat:=69
abbrev Rg:Nat:=70
abbrev Rh:Nat:=71
abbrev WB:Nat:=72
abbrev Ri:Nat:=73
abbrev Rj:Nat:=74
abbrev Rk:Nat:=75
abbrev Rl:Nat:=76
abbrev WD:Nat:=77
abbrev WE:Nat:=78
abbrev WF:Nat:=86
abbrev WH:Nat:=87
abbrev WI:Nat:=88
abbrev WJ:Nat:=89
abbrev WK:Nat:=90
abbrev WL:Nat:=91
abbrev WM:Nat:=92
abbrev WN:Nat:=93
abbrev WO:Nat:=94
abbrev WP:Nat:=95
abbrev WR:Nat:=96
abbrev WT:Nat:=97
abbrev Rm:Nat:=98
abbrev Rn:Nat:=99
abbrev WU:Nat:=100
abbrev WV:Nat:=101
abbrev WW:Nat:=102
abbrev WX:Nat:=103
abbrev WY:Nat:=107
abbrev WZ:Nat:=108
abbrev Jb:Nat:=109
abbrev W0:Nat:=110
abbrev W2:Nat:=111
abbrev W3:Nat:=112
abbrev W4:Nat:=113
abbrev W5:Nat:=114
abbrev W6:Nat:=115
abbrev KJ:Nat:=116
abbrev W7:Nat:=117
abbrev W8:Nat:=118
abbrev W9:Nat:=119
abbrev Xa:Nat:=120
abbrev Ro:Nat:=123
abbrev MD:Nat:=124
abbrev ME:Nat:=125
abbrev Xb:Nat:=126
abbrev Xc:Nat:=127
abbrev Xd:Nat:=128
abbrev Jc:Nat:=129
abbrev Xe:Nat:=130
abbrev Xf:Nat:=131
abbrev Pz:Nat:=132
abbrev PB:Nat:=133
abbrev PD:Nat:=134
abbrev PE:Nat:=135
abbrev PF:Nat:=136
abbrev PH:Nat:=137
abbrev Lz:Nat:=138
abbrev PI:Nat:=139
abbrev LA:Nat:=140
abbrev PJ:Nat:=141
abbrev PK:Nat:=142
abbrev PL:Nat:=143
abbrev PM:Nat:=144
abbrev PP:Nat:=145
abbrev PQ:Nat:=146
abbrev PT:Nat:=147
abbrev I7:Nat:=148
abbrev PU:Nat:=149
abbrev PV:Nat:=150
abbrev PX:Nat:=151
abbrev PY:Nat:=169
abbrev PZ:Nat:=170
abbrev P2:Nat:=171
abbrev P3:Nat:=172
abbrev LB:Nat:=177
abbrev I8:Nat:=178
abbrev I9:Nat:=179
abbrev Ja:Nat:=180
abbrev P4:Nat:=181
abbrev P5:Nat:=182
abbrev P6:Nat:=183
def wrs:List Nat:=[MA,MB,Q2,Q3,fS,I7,LA,Jc,Lz,Q4,SJ,Q6,Q5,Rg,Rh,Rk,Ri,Rj,Rd,Rl,Re,Rf,Rm,Rn,Ja,I9,I8]
def oQ {α:Type} (z:α):List α→Nat→α
 | [],_=>z
 | x::_,0=>x
 | _::l,n+1=>oQ z l n
def CB:Nat→Int:=oQ 0 [0,1,2,3,4,5,6,7,8,9,10,11,12,13,14,15,16,17,18,19,20,21,22,23,24,25,26,27,28,29,30,31]
def aRQ:List ((Nat→Nat)→O):=[fun p=>.mv (.t (p 0)),
fun p=>.fad (p 0) (.t (p 1)),
fun p=>.load 1 false (.t (p 0)),
fun p=>.mv (.c (.i .i64 (CB (p 0)))),
fun p=>.nck (.t (p 0)),
fun p=>.len (.t (p 0)),
fun p=>.bin .eql (.t (p 0)) (.c (.i .i64 (CB (p 1)))),
fun p=>.bin .add (.t (p 0)) (.c (.i .i64 (CB (p 1)))),
fun p=>.mv (.c (.b false)),
fun p=>.pick (.t (p 0)) (.t (p 1)) (.c (.b false)),
fun p=>.bin .lss (.t (p 0)) (.t (p 1)),
fun p=>.pick (.t (p 0)) (.c (.b true)) (.t (p 1)),
fun p=>.store 1 (.t (p 0)) (.t (p 1)),
fun p=>.bin .lss (.t (p 0)) (.c (.i .i64 (CB (p 1)))),
fun p=>.mv (.c .ns),
fun p=>.box (.t (p 0)),
fun p=>.bin .sub (.t (p 0)) (.c (.i .i64 (CB (p 1)))),
fun p=>.un .not (.t (p 0)),
fun p=>.iad 3 (.t (p 0)) (.t (p 1)),
fun p=>.iad 1 (.t (p 0)) (.t (p 1)),
fun p=>.bin .gtr (.t (p 0)) (.c (.i .i64 (CB (p 1)))),
fun p=>.load 3 true (.t (p 0)),
fun p=>.ext (.t (p 0)) 0,
fun p=>.ext (.t (p 0)) 1]
def aRR:List ((Nat→Nat)→O):=[fun p=>.bin .add (.t (p 0)) (.t (p 1)),
fun p=>.call (.fn MA) [(.t (p 0)),(.c (.i .i64 (CB (p 1))))],
fun p=>.iad 2 (.t (p 0)) (.t (p 1)),
fun p=>.bin .geq (.t (p 0)) (.c (.i .i64 (CB (p 1)))),
fun p=>.load 2 true (.t (p 0)),
fun p=>.store 2 (.t (p 0)) (.t (p 1)),
fun p=>.iada 1 8 (.t (p 0)) (.t (p 1)),
fun p=>.store 6 (.t (p 0)) (.t (p 1)),
fun p=>.mv (.c (.b true)),
fun p=>.alloc [(.i .i64 0),(.i .i64 0)],
fun p=>.bin .geq (.t (p 0)) (.t (p 1)),
fun p=>.bin .neq (.t (p 0)) (.c (.i .i64 (CB (p 1)))),
fun p=>.mv (.c (.i .i64 (-1))),
fun p=>.mv (.c (.i .u32 0)),
fun p=>.load 6 true (.t (p 0)),
fun p=>.iad 11 (.t (p 0)) (.t (p 1)),
fun p=>.bin .eql (.t (p 0)) (.t (p 1)),
fun p=>.iad 6 (.t (p 0)) (.t (p 1)),
fun p=>.bin .neq (.t (p 0)) (.t (p 1)),
fun p=>.load 11 true (.t (p 0)),
fun p=>.bsl 2 [(.i .i64 0),(.i .i64 0)] 1 [(0,(.t (p 0)))],
fun p=>.app 2 (.t (p 0)) (.t (p 1)),
fun p=>.bin .sub (.t (p 0)) (.t (p 1)),
fun p=>.iad 9 (.t (p 0)) (.t (p 1))]
def aRS:List ((Nat→Nat)→O):=[fun p=>.alloc [(.i .i64 0),(.i .i64 0),(.i .i64 0),(.i .i64 0),(.i .i64 0),(.i .u32 0)],
fun p=>.chk 1 false (.t (p 0)) (.t (p 1)),
fun p=>.app 1 (.t (p 0)) (.t (p 1)),
fun p=>.store 1 (.t (p 0)) (.c (.i .i64 (CB (p 1)))),
fun p=>.load 4 true (.t (p 0)),
fun p=>.bin .gtr (.t (p 0)) (.t (p 1)),
fun p=>.alloc [.ns,.ns,.ns],
fun p=>.store 3 (.t (p 0)) (.t (p 1)),
fun p=>.e0,
fun p=>.bin .add (.c (.i .i64 (CB (p 0)))) (.t (p 1)),
fun p=>.bin .rem (.t (p 0)) (.t (p 1)),
fun p=>.mv (.c .np),
fun p=>.mx [(.t (p 0)),(.t (p 1))],
fun p=>.conv .i64 (.t (p 0)),
fun p=>.call (.fn SJ) [(.t (p 0)),(.c .ni)],
fun p=>.alloc [(.s ⟨#[]⟩),(.i .i64 0),(.i .i64 0),(.b false),(.b false),.ns,(.i .i64 0),(.i .i64 0),(.i .i64 0),(.i .i64 0),(.i .i64 0)],
fun p=>.store 11 (.t (p 0)) (.t (p 1)),
fun p=>.fload 1 false (.t (p 0)),
fun p=>.bsl 3 [(.i .i64 0),(.i .i64 0),(.i .i64 0)] 1 [(0,(.t (p 0)))],
fun p=>.eq false .sl (.t (p 0)) (.c .ns),
fun p=>.app 3 (.t (p 0)) (.t (p 1)),
fun p=>.iada 1 8 (.t (p 0)) (.c (.i .i64 (CB (p 1)))),
fun p=>.slen (.t (p 0)),
fun p=>.sidx (.t (p 0)) (.t (p 1))]
def aRT:List ((Nat→Nat)→O):=[fun p=>.call (.fn fT) [(.t (p 0))],
fun p=>.build [(.i .i64 0),(.i .i64 0)] [(0,1,(.t (p 0))),(1,1,(.t (p 1)))],
fun p=>.bin .leq (.t (p 0)) (.c (.i .i64 (CB (p 1)))),
fun p=>.alloc [(.i .i64 0),(.i .i64 0),(.b false),(.i .i64 0),(.i .u32 0),(.i .i64 0)],
fun p=>.bin .leq (.t (p 0)) (.c (.i .i64 4096)),
fun p=>.mn [(.c (.i .i64 4097)),(.t (p 0))],
fun p=>.call (.fn MA) [(.t (p 0)),(.t (p 1))],
fun p=>.bsl 1 [.ns] 1 [(0,(.t (p 0)))],
fun p=>.bin .leq (.t (p 0)) (.t (p 1)),
fun p=>.load 5 true (.t (p 0)),
fun p=>.mn [(.t (p 0)),(.t (p 1))],
fun p=>.call (.fn WU) [(.t (p 0)),(.t (p 1))],
fun p=>.mn [(.t (p 0)),(.c (.i .i64 4097))],
fun p=>.app 11 (.t (p 0)) (.t (p 1)),
fun p=>.bsl 11 [(.s ⟨#[]⟩),(.i .i64 0),(.i .i64 0),(.b false),(.b false),.ns,(.i .i64 0),(.i .i64 0),(.i .i64 0),(.i .i64 0),(.i .i64 0)] 1 [(0,(.t (p 0)))],
fun p=>.chkb 1 [(.i .u32 0)] 3 [(0,(.c (.i .u32 4294967295))),(1,(.c (.i .u32 200))),(2,(.c (.i .u32 3)))] (.t (p 0)),
fun p=>.chka [(.i .i64 0),(.i .i64 0),(.b false),(.i .i64 0),(.i .u32 0),(.i .i64 0)] (.t (p 0)),
fun p=>.app 6 (.t (p 0)) (.t (p 1)),
fun p=>.store 4 (.t (p 0)) (.t (p 1)),
fun p=>.eq true .ptr (.t (p 0)) (.c .np),
fun p=>.load 16 true (.t (p 0)),
fun p=>.call (.fn Q7) [(.t (p 0))],
fun p=>.build [(.i .i64 0),(.i .i64 0),(.i .i64 0)] [(0,1,(.c (.i .i64 (CB (p 0))))),(2,1,(.c (.i .i64 (CB (p 1)))))],
fun p=>.eq false (.agg [.i,.i,.i,.i,.i,.i]) (.t (p 0)) (.t (p 1))]
def aRU:List ((Nat→Nat)→O):=[fun p=>.call (.fn Wp) [(.t (p 0))],
fun p=>.mx [(.t (p 0)),(.c (.i .i64 (CB (p 1))))],
fun p=>.call (.fn WA) [(.t (p 0)),(.t (p 1))],
fun p=>.call (.fn WB) [(.t (p 0))],
fun p=>.build [(.i .i64 0),(.i .i64 0),(.i .i64 0)] [(0,1,(.c (.i .i64 (CB (p 0))))),(2,1,(.t (p 1)))],
fun p=>.bin .mul (.t (p 0)) (.t (p 1)),
fun p=>.conv .u32 (.t (p 0)),
fun p=>.iada 1 16 (.t (p 0)) (.t (p 1)),
fun p=>.call (.fn WY) [(.t (p 0))],
fun p=>.bsl 1 [(.i .i64 0)] 1 [(0,(.t (p 0)))],
fun p=>.inv (.t (p 0)) "Less" [(.t (p 1)),(.t (p 2))],
fun p=>.call (.fn Xb) [(.t (p 0)),(.t (p 1))],
fun p=>.call (.fn PF) [(.t (p 0))],
fun p=>.call (.fn PJ) [(.t (p 0)),(.t (p 1))],
fun p=>.call (.fn PL) [(.t (p 0)),(.t (p 1))],
fun p=>.mx [(.c (.i .i64 (CB (p 0)))),(.t (p 1))],
fun p=>.build [(.i .i64 0),(.i .i64 0),(.i .i64 0),(.i .i64 0),(.i .i64 0)] [(0,1,(.c (.i .i64 (CB (p 0))))),(1,1,(.c (.i .i64 (CB (p 1))))),(2,1,(.c (.i .i64 (CB (p 2))))),(3,1,(.c (.i .i64 (CB (p 3))))),(4,1,(.c (.i .i64 (CB (p 4)))))],
fun p=>.iad 11 (.t (p 0)) (.c (.i .i64 (CB (p 1)))),
fun p=>.call (.fn SI) [(.t (p 0)),(.c (.i .i64 (CB (p 1)))),(.t (p 2)),(.c .ns)],
fun p=>.eq false .ptr (.t (p 0)) (.c .np),
fun p=>.call (.fn aEh) [(.t (p 0))],
fun p=>.build [(.i .u32 0),(.i .u32 0),(.i .u32 0),(.i .u32 0),(.i .u32 0),(.i .u32 0),(.i .u32 0),(.i .u32 0),(.i .u32 0),(.i .u32 0),(.i .u32 0),(.i .u32 0),(.i .u32 0),(.i .u32 0),(.i .u32 0),(.i .u32 0)] [],
fun p=>.build [(.i .u32 0),(.i .u32 0),(.i .u32 0),(.i .u32 0),(.i .u32 0),(.i .u32 0),(.i .u32 0),(.i .u32 0)] [],
fun p=>.bin .mul (.c (.i .i64 (CB (p 0)))) (.t (p 1))]
def aRV:List ((Nat→Nat)→O):=[fun p=>.iada 1 5 (.t (p 0)) (.t (p 1)),
fun p=>.slice 1 (.t (p 0)) none (some (.t (p 1))) none,
fun p=>.call (.fn Q4) [(.t (p 0))],
fun p=>.alloc [(.i .i64 0),(.i .i64 0),(.i .i64 0),(.i .i64 0)],
fun p=>.build [(.i .i64 0),(.i .i64 0)] [],
fun p=>.call (.fn SI) [(.t (p 0)),(.c (.i .i64 (CB (p 1)))),(.c .ns),(.c .ns)],
fun p=>.store 16 (.t (p 0)) (.t (p 1)),
fun p=>.store 8 (.t (p 0)) (.t (p 1)),
fun p=>.call (.fn Wq) [(.t (p 0))],
fun p=>.call (.fn Ws) [(.t (p 0)),(.t (p 1)),(.t (p 2))],
fun p=>.bin .quo (.t (p 0)) (.t (p 1)),
fun p=>.call (.fn Wt) [(.t (p 0)),(.t (p 1)),(.t (p 2))],
fun p=>.call (.fn Rb) [(.t (p 0))],
fun p=>.store 1 (.t (p 0)) (.c .ns),
fun p=>.mkif 149 (.t (p 0)),
fun p=>.mkif 3 (.t (p 0)),
fun p=>.tas 3 false (.i .i64 0) (.t (p 0)),
fun p=>.bin .eql (.t (p 0)) (.c (.i .u32 0)),
fun p=>.load 9 true (.t (p 0)),
fun p=>.call (.fn MB) [(.t (p 0)),(.t (p 1)),(.t (p 2))],
fun p=>.bin .gtr (.t (p 0)) (.c (.i .i64 96)),
fun p=>.call (.fn WJ) [(.t (p 0)),(.t (p 1))],
fun p=>.call (.fn WK) [(.t (p 0))],
fun p=>.slice 2 (.t (p 0)) none (some (.t (p 1))) (some (.t (p 2)))]
def aRW:List ((Nat→Nat)→O):=[fun p=>.inv (.t (p 0)) "Len" [],
fun p=>.mv (.c .ni),
fun p=>.conv .u64 (.t (p 0)),
fun p=>.bin .gtr (.t (p 0)) (.c (.i .i64 128)),
fun p=>.bin .sub (.c (.i .i64 9223372036854775807)) (.t (p 0)),
fun p=>.mv (.c (.i .i64 9223372036854775807)),
fun p=>.idx 1 5 false (.t (p 0)) (.t (p 1)),
fun p=>.call (.fn KJ) [(.t (p 0)),(.t (p 1))],
fun p=>.inv (.t (p 0)) "Swap" [(.t (p 1)),(.t (p 2))],
fun p=>.bin .gtr (.t (p 0)) (.c (.i .i64 4096)),
fun p=>.call (.fn Jb) [(.t (p 0)),(.t (p 1)),(.t (p 2))],
fun p=>.call (.t (p 0)) [(.t (p 1))],
fun p=>.call (.fn Xc) [(.t (p 0))],
fun p=>.call (.fn Ro) [(.t (p 0)),(.t (p 1))],
fun p=>.call (.fn PM) [(.t (p 0))],
fun p=>.bsl 1 [(.i .i64 0)] 2 [(0,(.t (p 0))),(1,(.t (p 1)))],
fun p=>.bin .leq (.t (p 0)) (.c (.i .i64 128)),
fun p=>.call (.fn PQ) [(.t (p 0))],
fun p=>.bsl 6 [(.i .i64 0),(.i .i64 0),(.i .i64 0),(.i .i64 0),(.i .i64 0),(.i .i64 0)] 1 [(0,(.t (p 0)))],
fun p=>.call (.fn PU) [(.t (p 0))],
fun p=>.iad 6 (.t (p 0)) (.c (.i .i64 (CB (p 1)))),
fun p=>.mv (.c (.i .u32 4)),
fun p=>.call (.fn P5) [(.t (p 0)),(.t (p 1))],
fun p=>.call (.fn P6) [(.t (p 0))]]
def aRX:List ((Nat→Nat)→O):=[fun p=>.build [.ns,(.i .i64 0)] [(0,1,(.t (p 0)))],
fun p=>.call (.fn fS) [(.t (p 0))],
fun p=>.store 5 (.t (p 0)) (.t (p 1)),
fun p=>.bin .lss (.t (p 0)) (.c (.i .i64 60)),
fun p=>.call (.fn aEi) [(.t (p 0))],
fun p=>.eq true (.agg [.i,.i,.i,.i,.i,.i,.i,.i,.i,.i,.i,.i,.i,.i,.i,.i]) (.t (p 0)) (.t (p 1)),
fun p=>.call (.fn Q1) [(.t (p 0)),(.t (p 1))],
fun p=>.eq true (.agg [.i,.i,.i,.i,.i,.i,.i,.i]) (.t (p 0)) (.t (p 1)),
fun p=>.call (.fn aEg) [],
fun p=>.bin .add (.c (.i .i64 97)) (.t (p 0)),
fun p=>.conv .i32 (.t (p 0)),
fun p=>.i2s (.t (p 0)),
fun p=>.bin .add (.c (.s ⟨#[112]⟩)) (.t (p 0)),
fun p=>.build [(.s ⟨#[]⟩),(.i .i64 0),(.i .i64 0),(.b false),(.b false),.ns,(.i .i64 0),(.i .i64 0),(.i .i64 0),(.i .i64 0),(.i .i64 0)] [(0,1,(.t (p 0))),(3,1,(.t (p 1))),(4,1,(.t (p 2)))],
fun p=>.bsl 1 [(.i .i64 0)] 5 [(0,(.c (.i .i64 (CB (p 0))))),(1,(.c (.i .i64 (CB (p 1))))),(2,(.c (.i .i64 (CB (p 2))))),(3,(.c (.i .i64 (CB (p 3))))),(4,(.c (.i .i64 (CB (p 4)))))],
fun p=>.bslc 1 [(.i .u32 0)] 3 [(0,(.c (.i .u32 4294967295))),(1,(.c (.i .u32 200))),(2,(.c (.i .u32 3)))],
fun p=>.alc [(.i .i64 0),(.i .i64 0),(.b false),(.i .i64 0),(.i .u32 0),(.i .i64 0)],
fun p=>.build [(.i .i64 0),(.i .i64 0),(.b false),(.i .i64 0),(.i .u32 0),(.i .i64 0)] [(0,1,(.t (p 0))),(1,1,(.t (p 1))),(2,1,(.t (p 2))),(4,1,(.t (p 3)))],
fun p=>.bsl 6 [(.i .i64 0),(.i .i64 0),(.b false),(.i .i64 0),(.i .u32 0),(.i .i64 0)] 1 [(0,(.t (p 0)))],
fun p=>.call (.fn Q2) [(.t (p 0)),(.t (p 1))],
fun p=>.call (.fn Q3) [(.t (p 0)),(.t (p 1))],
fun p=>.call (.fn V8) [(.t (p 0))],
fun p=>.call (.fn V9) [(.t (p 0))],
fun p=>.mn [(.t (p 0)),(.c (.i .i64 512))]]
def aRY:List ((Nat→Nat)→O):=[fun p=>.call (.fn Wa) [(.t (p 0))],
fun p=>.call (.fn Wc) [(.t (p 0))],
fun p=>.call (.fn Wd) [(.t (p 0))],
fun p=>.build [.ns,.ns,.ns,(.i .i64 0),.ns,.ns,.np,.ns,(.i .u32 0),(.i .u32 0),(.i .u32 0),(.i .u32 0),(.i .u32 0),(.i .u32 0),(.i .u32 0),(.i .u32 0),(.i .u32 0),(.i .u32 0),(.i .u32 0),(.i .u32 0),(.i .u32 0),(.i .u32 0),(.i .u32 0),(.i .u32 0),.np,(.i .i64 0)] [(0,3,(.t (p 0))),(3,1,(.t (p 1))),(4,1,(.t (p 2))),(5,1,(.t (p 3))),(24,1,(.t (p 4)))],
fun p=>.call (.fn We) [(.t (p 0))],
fun p=>.build [(.i .i64 0),(.i .i64 0),(.i .i64 0),(.i .i64 0),(.i .i64 0),(.i .u32 0)] [],
fun p=>.eq false .ifc (.t (p 0)) (.c .ni),
fun p=>.build [] [],
fun p=>.mkif 91 (.t (p 0)),
fun p=>.call (.fn Wh) [(.t (p 0)),(.t (p 1))],
fun p=>.build [(.i .i64 0),(.i .i64 0),(.i .i64 0),(.i .i64 0),(.i .i64 0),(.i .u32 0)] [(0,1,(.t (p 0))),(1,1,(.c (.i .i64 (-1))))],
fun p=>.build [(.i .i64 0),(.i .i64 0),(.i .i64 0),(.i .i64 0),(.i .i64 0),(.i .u32 0)] [(0,1,(.t (p 0))),(1,1,(.t (p 1))),(2,1,(.t (p 2)))],
fun p=>.call (.fn Wi) [(.t (p 0)),(.t (p 1))],
fun p=>.call (.fn Wj) [(.t (p 0))],
fun p=>.call (.fn Q5) [(.t (p 0)),(.t (p 1)),(.t (p 2)),(.t (p 3)),(.t (p 4))],
fun p=>.store 1 (.t (p 0)) (.c (.i .u32 0)),
fun p=>.call (.fn Q6) [(.t (p 0)),(.t (p 1)),(.t (p 2))],
fun p=>.call (.fn Wk) [(.t (p 0))],
fun p=>.eq false (.agg [.i,.i,.i,.i,.i,.i,.i,.i,.i,.i,.i,.i,.i,.i,.i,.i]) (.t (p 0)) (.t (p 1)),
fun p=>.call (.fn Wl) [(.t (p 0)),(.t (p 1))],
fun p=>.call (.fn Wm) [(.t (p 0)),(.t (p 1))],
fun p=>.eq false .b (.t (p 0)) (.t (p 1)),
fun p=>.call (.fn Wn) [(.t (p 0)),(.t (p 1))],
fun p=>.build [(.s ⟨#[]⟩),(.i .i64 0),(.i .i64 0),(.b false),(.b false),.ns,(.i .i64 0),(.i .i64 0),(.i .i64 0),(.i .i64 0),(.i .i64 0)] [(0,1,(.c (.s ⟨#[97]⟩))),(5,1,(.t (p 0))),(6,5,(.t (p 1)))]]
def aRZ:List ((Nat→Nat)→O):=[fun p=>.build [.ns,.ns,.ns] [(0,1,(.t (p 0))),(2,1,(.t (p 1)))],
fun p=>.bsl 1 [(.i .u8 0)] 12 [(0,(.c (.i .u8 1))),(1,(.c (.i .u8 1))),(2,(.c (.i .u8 0))),(3,(.c (.i .u8 7))),(4,(.c (.i .u8 5))),(5,(.c (.i .u8 2))),(6,(.c (.i .u8 1))),(7,(.c (.i .u8 3))),(8,(.c (.i .u8 11))),(9,(.c (.i .u8 0))),(10,(.c (.i .u8 1))),(11,(.c (.i .u8 0)))],
fun p=>.build [.ns,.ns,.ns] [],
fun p=>.build [(.i .i64 0),(.i .i64 0),(.i .i64 0),(.i .i64 0),(.i .i64 0),(.i .u32 0)] [(3,1,(.c (.i .i64 (CB (p 0))))),(5,1,(.c (.i .u32 7)))],
fun p=>.build [(.i .i64 0),(.i .i64 0),(.i .i64 0),(.i .i64 0),(.i .i64 0),(.i .u32 0)] [(0,1,(.c (.i .i64 (CB (p 0))))),(2,1,(.c (.i .i64 (CB (p 1))))),(3,1,(.c (.i .i64 (CB (p 2))))),(4,1,(.c (.i .i64 (CB (p 3)))))],
fun p=>.build [(.i .i64 0),(.i .i64 0),(.i .i64 0),(.i .i64 0),(.i .i64 0),(.i .u32 0)] [(0,1,(.c (.i .i64 (CB (p 0))))),(2,1,(.c (.i .i64 (CB (p 1))))),(4,1,(.c (.i .i64 (CB (p 2)))))],
fun p=>.call (.fn Q1) [(.t (p 0)),(.c (.i .i64 (CB (p 1))))],
fun p=>.idx 1 8 false (.t (p 0)) (.c (.i .i64 (CB (p 1)))),
fun p=>.bin .eql (.t (p 0)) (.c (.i .u32 7)),
fun p=>.call (.fn WG) [(.t (p 0)),(.t (p 1))],
fun p=>.call (.fn WG) [(.t (p 0)),(.c .np)],
fun p=>.alloc [(.i .u32 0),(.i .u32 0),(.i .u32 0),(.i .u32 0),(.i .u32 0),(.i .u32 0),(.i .u32 0),(.i .u32 0),(.i .u32 0),(.i .u32 0),(.i .u32 0),(.i .u32 0),(.i .u32 0),(.i .u32 0),(.i .u32 0),(.i .u32 0)],
fun p=>.alloc [(.i .u32 0),(.i .u32 0),(.i .u32 0),(.i .u32 0),(.i .u32 0),(.i .u32 0),(.i .u32 0),(.i .u32 0)],
fun p=>.load 8 true (.t (p 0)),
fun p=>.call (.fn aEf) [(.t (p 0)),(.c (.i .i64 (CB (p 1)))),(.c (.i .i64 1073741824))],
fun p=>.call (.fn MB) [(.t (p 0)),(.t (p 1)),(.c (.i .i64 (CB (p 2))))],
fun p=>.bin .gtr (.t (p 0)) (.c (.i .i64 90)),
fun p=>.build [(.i .i64 0),(.i .i64 0),(.i .i64 0)] [(0,1,(.c (.i .i64 (CB (p 0))))),(1,1,(.t (p 1))),(2,1,(.c (.i .i64 (CB (p 2)))))],
fun p=>.bsl 3 [(.i .i64 0),(.i .i64 0),(.i .i64 0)] 3 [(0,(.t (p 0))),(1,(.t (p 1))),(2,(.t (p 2)))],
fun p=>.mn [(.t (p 0)),(.c (.i .i64 4096))],
fun p=>.iad 1 (.t (p 0)) (.c (.i .i64 (CB (p 1)))),
fun p=>.mv (.c (.i .i64 4096)),
fun p=>.call (.fn Wu) [(.t (p 0))],
fun p=>.call (.fn Ww) [(.t (p 0))]]
def aQd:List ((Nat→Nat)→O):=[fun p=>.call (.fn Q9) [(.t (p 0))],
fun p=>.call (.fn Q8) [(.t (p 0))],
fun p=>.call (.fn Wy) [(.t (p 0))],
fun p=>.call (.fn Wx) [(.t (p 0))],
fun p=>.call (.fn Ra) [(.t (p 0))],
fun p=>.build [(.i .i64 0),(.i .i64 0),(.i .i64 0),(.i .i64 0),(.i .i64 0),.ns,(.b false)] [(0,5,(.t (p 0)))],
fun p=>.build [.ns] [],
fun p=>.build [(.i .i64 0),(.i .i64 0),(.b false)] [(0,1,(.t (p 0)))],
fun p=>.bsl 3 [(.i .i64 0),(.i .i64 0),(.b false)] 1 [(0,(.t (p 0)))],
fun p=>.call (.fn Rd) [(.t (p 0))],
fun p=>.build [(.i .u32 0),(.i .u32 0),(.i .u32 0),(.i .u32 0),(.i .u32 0),(.i .u32 0),(.i .u32 0),(.i .u32 0),(.i .i64 0)] [(8,1,(.t (p 0)))],
fun p=>.bsl 9 [(.i .u32 0),(.i .u32 0),(.i .u32 0),(.i .u32 0),(.i .u32 0),(.i .u32 0),(.i .u32 0),(.i .u32 0),(.i .i64 0)] 1 [(0,(.t (p 0)))],
fun p=>.app 9 (.t (p 0)) (.t (p 1)),
fun p=>.build [.ns,.ns] [(1,1,(.t (p 0)))],
fun p=>.alloc [(.i .i64 0),(.i .i64 0),(.b false)],
fun p=>.call (.fn Re) [(.t (p 0)),(.t (p 1))],
fun p=>.call (.fn MC) [(.t (p 0))],
fun p=>.call (.fn Rf) [(.t (p 0))],
fun p=>.bin .rem (.t (p 0)) (.c (.i .i64 (CB (p 1)))),
fun p=>.build [(.i .i64 0),(.i .i64 0),(.i .i64 0),(.i .i64 0)] [],
fun p=>.build [(.i .i64 0),(.i .i64 0),(.i .i64 0),(.i .i64 0)] [(0,1,(.t (p 0))),(1,1,(.t (p 1))),(2,1,(.t (p 2))),(3,1,(.t (p 3)))],
fun p=>.call (.fn Wz) [(.t (p 0))],
fun p=>.ext (.t (p 0)) 2,
fun p=>.call (.fn Rg) [(.t (p 0)),(.t (p 1)),(.t (p 2)),(.t (p 3))]]
def aQe:List ((Nat→Nat)→O):=[fun p=>.call (.fn Rh) [(.t (p 0)),(.t (p 1)),(.t (p 2))],
fun p=>.call (.fn Ri) [(.t (p 0)),(.t (p 1)),(.t (p 2))],
fun p=>.call (.fn Rj) [(.t (p 0)),(.t (p 1))],
fun p=>.call (.fn Rk) [(.t (p 0)),(.t (p 1)),(.t (p 2)),(.t (p 3))],
fun p=>.call (.fn Rl) [(.t (p 0)),(.t (p 1)),(.t (p 2)),(.t (p 3))],
fun p=>.eq true (.agg [.i,.i,.i,.i,.i,.i,.i,.i,.i]) (.t (p 0)) (.t (p 1)),
fun p=>.call (.fn WD) [(.t (p 0)),(.t (p 1))],
fun p=>.eq true (.agg [.i,.i,.i]) (.t (p 0)) (.t (p 1)),
fun p=>.call (.fn WE) [(.t (p 0))],
fun p=>.build [(.i .i64 0),(.i .i64 0),(.i .i64 0)] [(0,1,(.c (.i .i64 (CB (p 0))))),(1,1,(.t (p 1))),(2,1,(.t (p 2)))],
fun p=>.call (.fn WF) [(.t (p 0))],
fun p=>.call (.fn WI) [(.t (p 0))],
fun p=>.call (.fn WH) [(.t (p 0))],
fun p=>.slice 1 (.t (p 0)) (some (.t (p 1))) (some (.t (p 2))) none,
fun p=>.call (.fn WL) [(.t (p 0))],
fun p=>.call (.fn WM) [(.t (p 0))],
fun p=>.slice 11 (.t (p 0)) none (some (.t (p 1))) none,
fun p=>.mkfn (.func WO) [] [(.t (p 0))],
fun p=>.call (.fn WN) [(.t (p 0)),(.t (p 1))],
fun p=>.call (.fn WP) [(.t (p 0))],
fun p=>.call (.fn WR) [(.t (p 0)),(.t (p 1))],
fun p=>.call (.fn WT) [(.t (p 0)),(.t (p 1))],
fun p=>.slice 6 (.t (p 0)) none (some (.t (p 1))) (some (.t (p 2))),
fun p=>.slice 3 (.t (p 0)) none (some (.t (p 1))) (some (.t (p 2)))]
def aQf:List ((Nat→Nat)→O):=[fun p=>.store 1 (.t (p 0)) (.c (.b false)),
fun p=>.inv (.t (p 0)) "Push" [(.t (p 1))],
fun p=>.call (.fn Rm) [(.t (p 0)),(.t (p 1))],
fun p=>.inv (.t (p 0)) "Swap" [(.c (.i .i64 (CB (p 1)))),(.t (p 2))],
fun p=>.call (.fn Rn) [(.t (p 0)),(.c (.i .i64 (CB (p 1)))),(.t (p 2))],
fun p=>.inv (.t (p 0)) "Pop" [],
fun p=>.bin .leq (.t (p 0)) (.c (.i .i64 255)),
fun p=>.bin .geq (.t (p 0)) (.c (.i .u64 16)),
fun p=>.bin .mul (.t (p 0)) (.c (.i .u32 256)),
fun p=>.store 1 (.t (p 0)) (.c (.b true)),
fun p=>.mkfn (.method "Change") [(.t (p 0))] [],
fun p=>.inv (.t (p 0)) "Change" [(.t (p 1))],
fun p=>.inv (.t (p 0)) "StopAll" [],
fun p=>.call (.fn WV) [(.t (p 0)),(.t (p 1)),(.t (p 2))],
fun p=>.inv (.t (p 0)) "Send" [(.t (p 1)),(.t (p 2))],
fun p=>.inv (.t (p 0)) "Recv" [(.t (p 1))],
fun p=>.bin .neq (.t (p 0)) (.c (.i .u32 2)),
fun p=>.build [(.i .i64 0),(.i .i64 0),(.i .i64 0)] [(0,1,(.t (p 0))),(1,1,(.t (p 1))),(2,1,(.t (p 2)))],
fun p=>.call (.fn WW) [(.t (p 0)),(.t (p 1))],
fun p=>.eq true (.agg [.i,.i,.b]) (.t (p 0)) (.t (p 1)),
fun p=>.call (.fn WX) [(.t (p 0))],
fun p=>.call (.fn WZ) [(.t (p 0))],
fun p=>.call (.fn Jb) [(.t (p 0)),(.c (.i .i64 (CB (p 1)))),(.c .ns)],
fun p=>.bin .lss (.t (p 0)) (.c (.i .i64 8192))]
def aQg:List ((Nat→Nat)→O):=[fun p=>.call (.fn W0) [(.t (p 0))],
fun p=>.call (.fn W2) [(.t (p 0))],
fun p=>.call (.fn W3) [(.t (p 0)),(.t (p 1))],
fun p=>.call (.fn W4) [(.t (p 0)),(.t (p 1))],
fun p=>.bin .geq (.t (p 0)) (.c (.i .u8 97)),
fun p=>.bin .leq (.t (p 0)) (.c (.i .u8 122)),
fun p=>.bin .lss (.t (p 0)) (.c (.i .u8 48)),
fun p=>.bin .gtr (.t (p 0)) (.c (.i .u8 57)),
fun p=>.bin .neq (.t (p 0)) (.c (.i .u8 95)),
fun p=>.call (.fn W5) [(.t (p 0)),(.t (p 1))],
fun p=>.call (.fn W6) [(.t (p 0))],
fun p=>.call (.fn KJ) [(.t (p 0)),(.c (.i .i64 4096))],
fun p=>.call (.fn W7) [(.t (p 0))],
fun p=>.mkfn (.func W9) [] [(.t (p 0))],
fun p=>.call (.fn W8) [(.t (p 0)),(.t (p 1))],
fun p=>.call (.fn Xa) [(.t (p 0)),(.t (p 1))],
fun p=>.bin .quo (.t (p 0)) (.c (.i .i64 (CB (p 1)))),
fun p=>.call (.fn Ro) [(.t (p 0)),(.c (.i .i64 (CB (p 1))))],
fun p=>.call (.fn MD) [(.t (p 0)),(.c (.i .i64 (CB (p 1))))],
fun p=>.call (.fn ME) [(.t (p 0)),(.c (.i .i64 (CB (p 1))))],
fun p=>.build [(.i .i64 0),(.i .i64 0)] [(0,1,(.c (.i .i64 (-1)))),(1,1,(.t (p 0)))],
fun p=>.bin .geq (.t (p 0)) (.c (.i .u8 48)),
fun p=>.bin .leq (.t (p 0)) (.c (.i .u8 57)),
fun p=>.bin .eql (.t (p 0)) (.c (.i .u8 95))]
def aQh:List ((Nat→Nat)→O):=[fun p=>.bin .lss (.t (p 0)) (.c (.i .u8 97)),
fun p=>.bin .gtr (.t (p 0)) (.c (.i .u8 122)),
fun p=>.bin .geq (.t (p 0)) (.c (.i .i64 512)),
fun p=>.bin .gtr (.t (p 0)) (.c (.i .i64 255)),
fun p=>.call (.fn KJ) [(.t (p 0)),(.c (.i .i64 511))],
fun p=>.call (.fn KJ) [(.t (p 0)),(.c (.i .i64 255))],
fun p=>.call (.fn Xd) [(.t (p 0))],
fun p=>.call (.fn Jc) [(.t (p 0))],
fun p=>.call (.fn Xe) [(.t (p 0))],
fun p=>.call (.fn Xf) [(.t (p 0)),(.t (p 1))],
fun p=>.call (.fn Pz) [(.t (p 0)),(.t (p 1)),(.t (p 2))],
fun p=>.bin .eql (.t (p 0)) (.c (.i .i64 (-1))),
fun p=>.call (.fn PB) [(.t (p 0)),(.t (p 1)),(.t (p 2))],
fun p=>.call (.fn PD) [(.t (p 0))],
fun p=>.call (.fn MD) [(.t (p 0)),(.t (p 1))],
fun p=>.call (.fn ME) [(.t (p 0)),(.t (p 1))],
fun p=>.call (.fn PE) [(.t (p 0))],
fun p=>.call (.fn PH) [(.t (p 0))],
fun p=>.build [.ns,.ns,(.i .i64 0),(.i .i64 0),(.i .i64 0)] [(0,1,(.t (p 0)))],
fun p=>.call (.fn Lz) [(.t (p 0))],
fun p=>.call (.fn PI) [(.t (p 0))],
fun p=>.call (.fn LA) [(.t (p 0))],
fun p=>.call (.fn PK) [(.t (p 0))],
fun p=>.call (.fn PP) [(.t (p 0)),(.t (p 1)),(.t (p 2))]]
def aQi:List ((Nat→Nat)→O):=[fun p=>.call (.fn PT) [(.t (p 0)),(.c (.i .i64 (CB (p 1))))],
fun p=>.call (.fn I7) [(.t (p 0)),(.c (.i .i64 (CB (p 1))))],
fun p=>.call (.fn I7) [(.t (p 0)),(.t (p 1))],
fun p=>.slice 2 (.t (p 0)) none (some (.t (p 1))) none,
fun p=>.iad 2 (.t (p 0)) (.c (.i .i64 (CB (p 1)))),
fun p=>.build [(.i .i64 0),(.i .i64 0),(.i .i64 0),(.i .i64 0),(.i .i64 0),(.i .i64 0)] [(3,1,(.c (.i .i64 (CB (p 0)))))],
fun p=>.alloc [(.i .i64 0),(.i .i64 0),(.i .i64 0)],
fun p=>.build [(.i .i64 0),(.i .i64 0),(.i .i64 0),(.i .i64 0),(.i .i64 0),(.i .i64 0)] [(0,3,(.t (p 0))),(3,1,(.t (p 1)))],
fun p=>.alloc [(.i .i64 0),(.i .i64 0),(.i .i64 0),(.i .i64 0),(.i .i64 0),(.i .i64 0)],
fun p=>.slice 6 (.t (p 0)) none (some (.t (p 1))) none,
fun p=>.call (.fn PV) [(.t (p 0)),(.t (p 1))],
fun p=>.call (.fn PX) [(.t (p 0)),(.t (p 1))],
fun p=>.mv (.c (.i .u32 2)),
fun p=>.mv (.c (.i .u32 3)),
fun p=>.call (.fn P4) [(.t (p 0))]]
def aR0:Nat→List ((Nat→Nat)→O)
 | 0=>aRQ
 | 1=>aRR
 | 2=>aRS
 | 3=>aRT
 | 4=>aRU
 | 5=>aRV
 | 6=>aRW
 | 7=>aRX
 | 8=>aRY
 | 9=>aRZ
 | 10=>aQd
 | 11=>aQe
 | 12=>aQf
 | 13=>aQg
 | 14=>aQh
 | _=>aQi
def shp (s:Nat) (p:Nat→Nat):O:=oQ (fun _=>.e0) (aR0 (s / 24)) (s % 24) p
def nps:List Nat:=[1,2,1,1,1,1,2,2,0,2,2,2,2,2,0,1,2,1,2,2,2,1,1,1,2,2,2,2,1,2,2,2,0,0,2,2,0,0,1,2,2,2,2,1,1,2,2,2,0,2,2,2,1,2,0,2,0,2,2,0,2,1,1,0,2,1,1,1,2,2,1,2,1,2,2,0,1,1,2,1,2,1,2,2,1,2,1,1,1,2,2,1,1,1,2,2,1,2,2,1,2,2,1,2,1,1,3,2,1,2,2,2,5,2,3,1,1,0,0,2,2,2,1,0,0,2,2,2,1,3,2,3,1,1,1,1,1,1,1,3,1,2,1,3,1,0,1,1,1,0,2,2,3,1,3,2,1,2,1,2,1,1,1,1,2,0,2,1,1,1,2,1,1,2,2,2,0,1,1,1,1,3,5,0,0,4,1,2,2,1,1,1,1,1,1,5,1,0,1,0,1,2,1,3,2,1,5,1,3,1,2,2,2,2,2,2,2,0,0,1,4,3,2,2,1,2,1,0,0,1,2,3,1,3,3,1,2,0,1,1,1,1,1,1,1,1,0,1,1,1,1,1,2,1,0,2,1,1,2,0,4,1,1,4,3,3,2,4,4,2,2,2,1,3,1,1,1,3,1,1,2,1,2,1,2,2,3,3,1,2,2,3,3,1,1,1,1,1,1,2,1,3,3,2,1,3,2,2,1,1,2,1,1,1,2,2,1,1,1,1,1,2,1,1,1,1,2,2,2,2,2,2,1,1,1,1,1,1,1,1,1,1,1,1,1,2,3,1,3,1,2,2,1,1,1,1,1,1,1,3,2,2,2,2,2,1,0,2,0,2,2,2,0,0,1]
abbrev Rs:=List TO×List (Bool×List TO)
abbrev Rc:=Nat→Nat→Nat→Bool→Rs
def aFg (s:Nat) (d:Option Nat) (g:Option (Nat×Bool)) (l:List Nat) (r:Rs):Rs:=(⟨d,shp s (fun i=>oQ 0 l i),g⟩::r.1,r.2)
def nB (R:Nat) (rc:Nat→List Nat→Rs):Nat→Nat→List Nat→Rs
 | 0,n,l=>rc n l
 | f+1,n,l=>nB R rc f (n / R) (n % R::l)
def nA (R s:Nat) (rc:Rc) (g:Option (Nat×Bool)) (gn:Nat) (gb:Bool) (p:Nat):Nat→Nat→Rs
 | 0,n=>nB R (fun n l=>aFg s (some (p+1)) g l (rc n (p+1) gn gb)) (oQ 0 nps s) n []
 | 1,n=>nB R (fun m l=>aFg s (some (n % R)) g l (rc m (n % R) gn gb)) (oQ 0 nps s) (n / R) []
 | _+2,n=>nB R (fun n l=>aFg s none g l (rc n p gn gb)) (oQ 0 nps s) n []
def aRP (R s:Nat) (rc:Rc) (p gn:Nat) (gb:Bool):Nat→Nat→Rs
 | 0,n=>nA R s rc none gn gb p (n % 3) (n / 3)
 | 1,n=>nA R s rc (some (n % R,true)) (n % R) true p (n / R % 3) (n / R / 3)
 | 2,n=>nA R s rc (some (n % R,false)) (n % R) false p (n / R % 3) (n / R / 3)
 | _+3,n=>nA R s rc (some (gn,gb)) gn gb p (n % 3) (n / 3)
def aQc (b:Bool) (r:Rs):Rs:=([],(b,r.1)::r.2)
def aR1 (R:Nat) (rc:Rc) (p gn:Nat) (gb:Bool):Nat→Nat→Rs
 | 0,_=>([],[])
 | 1,n=>aQc true (rc n p gn gb)
 | 2,n=>aQc false (rc n p gn gb)
 | s+3,n=>aRP R s rc p gn gb (n % 4) (n / 4)
def aFf (R:Nat):Nat→Rc
 | 0=>fun _ _ _ _=>([],[])
 | f+1=>fun n p gn gb=>aR1 R (aFf R f) p gn gb (n % 378) (n / 378)
def aQb (n:Nat):Nat:=oQ 0 [32,64,128,512] (n % 4)
@[go_sem ↓] def k (n:Nat) {l:List TO} (h:(aFf (aQb n) 400 (n / 4) 511 0 true).1=l:=by conv=>lhs;cbv):List TO:=l
@[go_sem ↓] def kd (n:Nat) {l:List (Bool×List TO)} (h:(aFf (aQb n) 400 (n / 4) 511 0 true).2=l:=by conv=>lhs;cbv):List (Bool×List TO):=l
/-! horarium/horariumlaw19.PartRestarts -/
@[go_sem] def aQp:=k 0x1334c
@[go_sem] def aQq:=k 0x142323e7d58ec70c176c83e4da34c
@[go_sem] def aQr:=k 0x120f91ff8c1a15d70442a6385b8a4fac
@[go_sem] def aQs:=k 0x2d93a38c9d418b5c439722f57ab7a08b61ed30
@[go_sem] def aQt:=k 0x51cff0eac146772bd49cfe0
@[go_sem] def aQu:=k 0x225ee5a002c
@[go_sem] def aQv:=k 0x1334c
@[go_sem] def aQw:=k 0x207d8
@[go_sem] def aQx:=k 0x24d6aef69ec
@[go_sem] def aQy:=k 0x55f5c0df62dd79a03139911554ad5ef47b96592184d
@[go_sem] def aFr:=k 0xdcebf4c52cc38add741d6557a40300e3281516ef5ecb757512940ad2543ec1048c63d4755632b25bcd
@[go_sem] def aFs:=k 0x1334c
@[go_sem] def aFt:=k 0x4ab26458bf6f3d4caf1
@[go_sem] def aFu:=k 0x1627b3acded99c03c2f8d
@[go_sem] def aFv:=k 0x1334c
@[go_sem] def aFw:=k 0xc00f182dad9f47d4bc1427cb29305ecc22b12
@[go_sem] def aFx:=k 0x4ac5dcb56
@[go_sem] def aFy:=k 0x2a5c170fc1820e
@[go_sem] def aFz:=k 0x78df4682c2283402f344e09018ee
@[go_sem] def aFA:=k 0x1334c
@[go_sem] def aFB:=k 0x1727ed98f7604b6a
def TY:TC:=(.seq (.reg aFx) (.seq (.cond (.t 68) .skip (.exit 2)) (.seq (.block 3 (.seq (.reg aFy) (.seq (.reg aFz) (.cond (.t 74) (.seq (.reg aFA) .ret) .skip)))) (.reg aFB))))
@[go_sem] def aFC:=k 0x2cf94545e9a29e0fbad
def QJ:TC:=(.seq (.seq (.reg aQx) (.cond (.t 31) .skip (.exit 0))) (.seq (.block 1 (.seq (.reg aQy) (.seq (.seq (.reg aFr) (.cond (.t 53) (.seq (.reg aFs) .ret) .skip)) (.seq (.seq (.reg aFt) (.cond (.t 56) (.exit 1) .skip)) (.seq (.seq (.reg aFu) (.cond (.t 60) (.seq (.reg aFv) .ret) .skip)) (.seq (.reg aFw) (.block 2 (.loop TY)))))))) (.reg aFC)))
@[go_sem] def aFD:=k 0x14b0bbfed6ace1f1e27e365a389d5bbf34d1c22e
def Yz:TF:=⟨82,[.t 4],(.seq (.reg aQp) (.seq (.reg aQq) (.seq (.reg aQr) (.seq (.reg aQs) (.seq (.reg aQt) (.seq (.seq (.reg aQu) (.cond (.t 29) (.seq (.reg aQv) .ret) .skip)) (.seq (.seq (.reg aQw) (.block 0 (.loop QJ))) (.seq (.reg aFD) .ret))))))))⟩
/-! (*horarium/horariumkeep.Tape).Config -/
@[go_sem] def aQz:=k 0xa644
@[go_sem] def aQA:=k 0xed24
@[go_sem] def aQB:=k 0x2d8722bfd75ed422a95b10c
@[go_sem] def aQC:=k 0x17a18
@[go_sem] def aQD:=k 0x59ce7122ab1351ac
@[go_sem] def aQE:=k 0x1b2a34af047ad01b57d3d83000f99ba6ee627e596bbb87cfe07996c9952d5b1e5959b406800d
@[go_sem] def aQF:=k 0x2e54f3440883a313a8d
@[go_sem] def aQG:=k 0x2aec6d169d04d
@[go_sem] def aQH:=kd 0x494cbcd8f692363f390da3b3e86be09c98bbd9d6edb6e7c3bf28321a864bf6e4aca091f8c6c93bc7d0eb8a3c96652a8125
@[go_sem] def aQI:=k 0x33c3ab3c6b6a5c05e0d
def T6:TC:=(.seq (.seq (.reg aQG) (.cond (.t 36) .skip (.exit 2))) (.seq (.block 3 (.dreg aQH)) (.reg aQI)))
@[go_sem] def aGx:=k 0xdef79
@[go_sem] def aGy:=k 0xdde2ce81
@[go_sem] def aGz:=k 0x3fee7f2fe6d2d
@[go_sem] def aGA:=k 0x262665a69fd1ee84a737a3c0311f5ac587042525e3f061bd0392a840d
@[go_sem] def aGB:=k 0x12f1876e41eb329
def T7:TC:=(.seq (.reg aGy) (.seq (.cond (.t 51) .skip (.exit 4)) (.seq (.block 5 (.seq (.reg aGz) (.reg aGA))) (.reg aGB))))
@[go_sem] def aGC:=k 0x44f5db80591e9803d56a70e79fa00e3f2a00c7b91f2
@[go_sem] def aGD:=k 0xdb1c6254d1c08a64c
def T8:TC:=(.seq (.seq (.reg aQD) (.cond (.t 18) .skip (.exit 0))) (.seq (.block 1 (.seq (.reg aQE) (.seq (.seq (.reg aQF) (.block 2 (.loop T6))) (.seq (.seq (.reg aGx) (.block 4 (.loop T7))) (.reg aGC))))) (.reg aGD)))
@[go_sem] def aGE:=k 0xbb9e7f70248a4132eb2e
@[go_sem] def aGF:=k 0x85ded0857b01f924d8c57f3afdac1658da68ee
@[go_sem] def aGG:=k 0x787154173a22aa955263dafee
@[go_sem] def aGH:=kd 0x1057c04a3aae730aae586a15fd747cb675b669b901ad7d95727111a928f86b6f2e795c5a86b474aea754cabe656028afb70811a67154bf6543771d1d68b89fdccab268638ec3a0a3b720c3465a9ad0e133a4cb06de3a61aa9176be
@[go_sem] def aGI:=k 0x3d51e0f1119732
@[go_sem] def aGJ:=k 0x1607eec91b17f8279f592097988cfc54ee
@[go_sem] def aGK:=k 0x723fe0ce89578b309f39b5c9db1b1f53dcd9e3fc072
@[go_sem] def aGL:=k 0xd1595f4308acc63c122e
def T9:TC:=(.seq (.seq (.reg aGF) (.cond (.t 75) .skip (.exit 6))) (.seq (.block 7 (.seq (.reg aGG) (.seq (.dreg aGH) (.seq (.seq (.reg aGI) (.cond (.t 101) (.reg aGJ) .skip)) (.reg aGK))))) (.reg aGL)))
@[go_sem] def aGM:=k 0x133329a9ff793d8bf19ae
@[go_sem] def aGN:=k 0x45e7645558e76e
@[go_sem] def aGO:=kd 0x3897256cca3ad70758f19c72b95dea622756a0f6abc258d3ac23dc40222ca8c2fe00b9f666
@[go_sem] def aGP:=k 0x13e100a896a41c6b1752e
def Ua:TC:=(.seq (.seq (.reg aGN) (.cond (.t 115) .skip (.exit 8))) (.seq (.block 9 (.dreg aGO)) (.reg aGP)))
@[go_sem] def aGQ:=k 0x362d2f709aea3c1c8b06022f9ef
def YA:TF:=⟨129,[.cell 2 3 true],(.seq (.reg aQz) (.seq (.reg aQA) (.seq (.reg aQB) (.seq (.seq (.reg aQC) (.block 0 (.loop T8))) (.seq (.seq (.reg aGE) (.block 6 (.loop T9))) (.seq (.seq (.reg aGM) (.block 8 (.loop Ua))) (.seq (.reg aGQ) .ret)))))))⟩
/-! horarium/horariumbook.Within -/
@[go_sem] def aQJ:=k 0x1c0f8
@[go_sem] def aQK:=k 0x5e28beceaaf25738875ca29321481b0499d1887cc
@[go_sem] def aQL:=k 0x2546e8dabecc
@[go_sem] def aQM:=k 0x55d5609620f3a16afbf9851db18a6175f05ac
@[go_sem] def aQN:=k 0x35f60cbe2eec
@[go_sem] def aQO:=k 0x768407cced364dcbf36641c54dcbb03613cac
@[go_sem] def aQP:=k 0xc11c03aa5e985fb59641ded
def YB:TF:=⟨33,[.t 6],(.seq (.reg aQJ) (.seq (.seq (.reg aQK) (.cond (.t 14) (.seq (.reg aQL) .ret) .skip)) (.seq (.reg aQM) (.seq (.seq (.reg aQN) (.cond (.t 23) (.reg aQO) .skip)) (.seq (.reg aQP) .ret)))))⟩
/-! horarium/part.New -/
@[go_sem] def aQQ:=k 0xa3c9363368
@[go_sem] def aQR:=k 0x49cc9f75e7dde25692a3fe57cbf7ef677c1adc09f6e1b3d62bce0da2f8bcf6c0106e4cc0
@[go_sem] def aQS:=k 0x24f98
@[go_sem] def aQT:=kd 0x87bd488d41282c31a915fda4ddf8f6449b1380f71e0da828573188154fe1e2fd744cf17d789fc52bafb384ee7113bb4c37165fc50ad05d205
@[go_sem] def aQU:=k 0x295382dfff89f1466cdc49f51bd91a326667a06f1598d66f5f2706a3be2d
@[go_sem] def aQV:=k 0x10908bc482ed
@[go_sem] def aQW:=k 0x44d65002910ad
def L2:TF:=⟨57,[.t 8],(.seq (.reg aQQ) (.seq (.seq (.reg aQR) (.cond (.t 23) (.seq (.reg aQS) .ret) .skip)) (.seq (.dreg aQT) (.seq (.reg aQU) (.seq (.reg aQV) (.seq (.reg aQW) .ret))))))⟩
/-! (*horarium/part.Part).Tick -/
@[go_sem] def aQX:=k 0x62a7ec
@[go_sem] def aQY:=k 0xd82afda34c
@[go_sem] def aQZ:=k 0xe7e4a51d1b4c20
@[go_sem] def aQ0:=k 0x113945c53ec
@[go_sem] def aQ1:=k 0x2e4a190b6f8fcc8
@[go_sem] def aQ2:=k 0x469d1dac58d8b4b160f08d936c
@[go_sem] def aQ3:=k 0x104e46e04f26da4c82a6574eb34eb23aaddd9eaeec
@[go_sem] def aQ4:=k 0x116bc39a3bfb6601ee72e6fd526ac5399da1f0d
@[go_sem] def aQ5:=k 0x2aec69365d04d
@[go_sem] def aQ6:=k 0x80875ba586a3f27daa60d
@[go_sem] def aJy:=k 0x2110c2fa197a7e35d9a02cfd98ab936521430ebaf242708468e272d44869cb452f33cd
@[go_sem] def aJz:=kd 0x2cb9ecd07670b3d69608073a8cea0f7f6d9e00f93bd8ea02d6491073b7c514f205a3448d02c3d
@[go_sem] def aJA:=k 0x5eb2bfb8b13241c5d7a302c31
@[go_sem] def aJB:=k 0x1dc3fab4de7d15a46ee
@[go_sem] def aJC:=k 0x1afca1f9b013f4b2
@[go_sem] def aJD:=k 0x116d699580596395c557f33e
@[go_sem] def aJE:=k 0x1c84764f90155712
@[go_sem] def aJF:=k 0x7d21cbbc7312c3c48d398074fb0accd7de837dd3c39d8d188228adb27709236c17d988ce
@[go_sem] def aJG:=k 0x9f7537d8675a23f535c1be1a4a866055806756d6b55d028cf3e55ff2fb3c30705b31bce3ccc4dcdb4e
@[go_sem] def aJH:=k 0x1020b2d8e746454159df2
@[go_sem] def aJI:=k 0x3beab1b1ce7292
@[go_sem] def aJJ:=k 0x9490e4def2eaf3291d893396e
@[go_sem] def aJK:=k 0x1d03e873037aa7d586
def Qx:TF:=⟨103,[.cell 4 6 true,.t 5],(.seq (.reg aQX) (.seq (.seq (.reg aQY) (.cond (.t 12) (.seq (.reg aQZ) .ret) .skip)) (.seq (.seq (.reg aQ0) (.cond (.t 15) (.reg aQ1) .skip)) (.seq (.reg aQ2) (.seq (.reg aQ3) (.seq (.reg aQ4) (.seq (.seq (.reg aQ5) (.cond (.t 36) (.seq (.reg aQ6) .ret) .skip)) (.seq (.reg aJy) (.seq (.dreg aJz) (.seq (.reg aJA) (.seq (.block 0 (.seq (.reg aJB) (.cond (.t 85) (.reg aJC) (.seq (.reg aJD) (.cond (.t 89) (.reg aJE) (.seq (.reg aJF) (.reg aJG))))))) (.seq (.seq (.reg aJH) (.cond (.t 96) (.seq (.reg aJI) (.reg aJJ)) .skip)) (.seq (.reg aJK) .ret)))))))))))))⟩
/-! (*horarium/part.Part).Stopped -/
@[go_sem] def aQ7:=k 0xa58c
@[go_sem] def aQ8:=k 0x342f23506c82081e49ea8cf78d6c4c
def Qy:TF:=⟨8,[.t 2],(.seq (.reg aQ7) (.seq (.reg aQ8) .ret))⟩
/-! (*horarium/part.Part).Same -/
@[go_sem] def aQ9:=k 0x1334c
@[go_sem] def aRa:=kd 0x2e9ba65b14ed8e1c62901753bb0ef583bd39600fcd0150e8a31478876264f3fa7ac3a0c02831519ca1e7e7dabd8b7fb7aa14023222cc497e19e232c27502ce698937162ea1e35e42c020da1b4cde8da2c5c60f74655cdbe44c645d8515369966b0382a965b74d30f6751e28357fd5b3b796c0cdf7389520e7d3b12339806d87e03fae16c893e87377376840205e0984bb8936226d925dc9913d066c727028514ba1abfa3796e7cf685a195be
def Qz:TF:=⟨65,[.t 4],(.seq (.reg aQ9) (.seq (.dreg aRa) .ret))⟩
/-! horarium/horariumlaw19.known -/
@[go_sem] def aRb:=k 0x17cc
@[go_sem] def aRc:=k 0x5274bc21e52e1e2204f57b970f255de404219ba650cb985b885e3b6fc
@[go_sem] def aRd:=k 0x2434c1f6c0f65775e50b40
@[go_sem] def aRe:=k 0x6ebb0002ef89aa9f0da97675098a7a3f1ca107ad11421d0a82610718cd6e738d
@[go_sem] def aRf:=k 0x17cc
@[go_sem] def aRh:=k 0x5cbf021d64f4985d9b4b88745a1b6ef00437c7c0ced
@[go_sem] def aRi:=k 0x680e7420f0aee6730d7654f69d7d89933d44dcd6f4d
@[go_sem] def aRj:=k 0x735de6247c6934887fa12178e0dfa4367651f1ed1ad
@[go_sem] def aRk:=k 0x7ead58280823829df1cbedfb2441bed9af5f070340d
@[go_sem] def aRl:=k 0x89fcca2b93ddd0b363f6ba7d67a3d97ce86c1c1966d
@[go_sem] def aMP:=k 0x4cb226cb21a8eeed67b1bdbfcee2ff6ac1075880cea822a9727aa3a9857d95158acfb80ee81d2ef6dee74fd0a37e107937c438d1ac55813c58b677b84ec9f6401067d844f693d7653ede4eab70176029dc5da14396b71f356d32daf6d813ef7dbeb8fa9d21d6aa2516dadc36e4f9bf179f23901b1d7934ed81a7f73e6e426a94d32fc6d00c8c4aa23c10c4a89b0b23256e1f30c06a461221ee2825da87c33a811a9d4b997a41debd4701ee
def YC:TF:=⟨118,[.t 0],(.seq (.reg aRb) (.seq (.reg aRc) (.seq (.reg aRd) (.seq (.seq (.reg aRe) (.cond (.t 36) (.seq (.reg aRf) .ret) .skip)) (.seq (.reg aRh) (.seq (.reg aRi) (.seq (.reg aRj) (.seq (.reg aRk) (.seq (.reg aRl) (.seq (.reg aMP) .ret))))))))))⟩
/-! (*horarium/part.Part).Clock -/
@[go_sem] def aRm:=k 0xa578
@[go_sem] def aRn:=k 0x143adca33212121280778d6c4c
def YD:TF:=⟨7,[.t 2],(.seq (.reg aRm) (.seq (.reg aRn) .ret))⟩
/-! (*horarium/part.Part).Memory -/
@[go_sem] def aRo:=k 0xa8f8
@[go_sem] def aRp:=k 0x75bf97ca4a81daeb4f78d6c4c
def YE:TF:=⟨7,[.cell 2 16 true],(.seq (.reg aRo) (.seq (.reg aRp) .ret))⟩
/-! (*horarium/part.Part).Registers -/
@[go_sem] def aFE:=k 0x136bc
@[go_sem] def aFF:=k 0x5b65e49a4aae744bcc482021a09f663d7727363c3591bffcc42560c
@[go_sem] def aFG:=k 0x58b9dcff84
@[go_sem] def aFH:=k 0x5fa0b65d9eb055e00ef50b58785a27a9bfbeeb5494c8c
def Ns:TF:=⟨25,[.cell 4 8 true],(.seq (.reg aFE) (.seq (.seq (.reg aFF) (.cond (.t 15) (.seq (.reg aFG) .ret) .skip)) (.seq (.reg aFH) .ret)))⟩
/-! (*horarium/horariumkeep.Tape).Next -/
@[go_sem] def aFI:=k 0x13338
@[go_sem] def aFJ:=kd 0x17ebd904c52f537238084eb620594214472fdaa441739f765e91fba1938f3a738c7335bc
@[go_sem] def aFK:=k 0x13338
@[go_sem] def aFL:=k 0xe8e63362b82e4e80b3a8d953e9339a8e02bd1da4c
@[go_sem] def aFM:=kd 0x42a2b76bc9c19d09532dd427481d2a93cb37f301437d4fceb78ab9f079270ae6e3dc68e6d7aedf7e37d
def Nt:TF:=⟨40,[.t 4],(.seq (.reg aFI) (.seq (.seq (.dreg aFJ) (.cond (.t 18) (.seq (.reg aFK) .ret) .skip)) (.seq (.reg aFL) (.seq (.dreg aFM) .ret))))⟩
/-! (*horarium/horariumkeep.Tape).frame -/
@[go_sem] def aFN:=k 0x13364
@[go_sem] def aFO:=k 0x1e94ebb5b0aea141798ceac
@[go_sem] def aFP:=k 0x1ea421c6e008a8089b305bb8a0e60682362c
@[go_sem] def aFQ:=k 0x5103c5cdb8e4dfc66d6316d4ebf3038886ff7fd7c42864449eaf1625789ac
@[go_sem] def aFR:=k 0x13440dd77be7bdc6a4b1a21f44f6c3dfcb68aec44ae5ff549a5
@[go_sem] def aFS:=k 0x2b01a779c604d
def Nu:TF:=⟨36,[.t 4],(.seq (.reg aFN) (.seq (.reg aFO) (.seq (.seq (.reg aFP) (.seq (.reg aFQ) (.cond (.t 27) (.seq (.reg aFR) .ret) .skip))) (.seq (.reg aFS) .ret))))⟩
/-! (*horarium/horariumkeep.Tape).asks -/
@[go_sem] def aFT:=k 0x3f294888
@[go_sem] def aFU:=k 0x17a44
@[go_sem] def aFV:=k 0x48fff275fae87c2f0
@[go_sem] def aFW:=k 0x1c8b6a94
@[go_sem] def aFX:=k 0x132b5b9c40810d8d98
@[go_sem] def aFY:=k 0x10da27b800ac9f5ecd0fe94b44514292aee6ded
@[go_sem] def aFZ:=k 0x3dc3e93ac968bdd034a25e2c196d
@[go_sem] def aF0:=k 0xbc5a21d15a5509
def T4:TC:=(.seq (.reg aFW) (.seq (.cond (.t 26) .skip (.exit 0)) (.seq (.block 1 (.seq (.reg aFX) (.seq (.reg aFY) (.reg aFZ)))) (.reg aF0))))
@[go_sem] def aF1:=k 0x8ff634f090ea2e0bd1
@[go_sem] def vQ:=k 0xbcee7775
@[go_sem] def vR:=k 0x3628acc8e762d
@[go_sem] def vS:=k 0x32358
@[go_sem] def vT:=k 0x8387b7a5250d
@[go_sem] def vU:=k 0xd36e71d5
@[go_sem] def vV:=k 0x44306b75535582470d9
@[go_sem] def vW:=kd 0x6d5a29f51b2864a88261c5bee5e4897982369a6710c0b21e8e3b4d9ae708ed20d901ae690d79373d449697780c3e
@[go_sem] def vX:=k 0x7c936959c94429937ea6aa9fba59b33d82368e
@[go_sem] def vY:=k 0x323dc
@[go_sem] def vZ:=k 0x6ded23e46994bf43172418fce
@[go_sem] def wA:=k 0x16cd2cfd1500048a
def OS:TC:=(.seq (.reg vU) (.seq (.cond (.t 48) .skip (.exit 4)) (.seq (.block 5 (.seq (.reg vV) (.seq (.dreg vW) (.seq (.reg vX) (.cond (.t 70) (.reg vY) (.reg vZ)))))) (.reg wA))))
@[go_sem] def wB:=k 0x27a3d5be01d6964acb77cd101995688067e78f922ab4e
@[go_sem] def wC:=kd 0x2e57df0a07d1719f554c12b5e272056eec8e13297ce05d5afb24cef683ffb33b02263e12ec8528366
@[go_sem] def wD:=k 0x1c4ee73a1c6d004a
def OT:TC:=(.seq (.reg vQ) (.seq (.cond (.t 43) .skip (.exit 2)) (.seq (.block 3 (.seq (.reg vR) (.seq (.reg vS) (.seq (.seq (.reg vT) (.block 4 (.loop OS))) (.seq (.reg wB) (.cond (.t 81) (.dreg wC) .skip)))))) (.reg wD))))
@[go_sem] def wE:=k 0x500c2fdba41d771498213e2b93070e
@[go_sem] def wF:=k 0x4a8b745a6d63e9f8535ecfaf28e
@[go_sem] def wG:=k 0x3d52f00e1ac72e
@[go_sem] def wH:=k 0x9f6cfa85e557b0cf81b5872ae
@[go_sem] def wI:=k 0xa59f35bf7361640ed1b598e2e
@[go_sem] def wJ:=k 0x1181ebdb82294073b54ee
def OU:TC:=(.seq (.seq (.reg wG) (.cond (.t 101) .skip (.exit 6))) (.seq (.block 7 (.seq (.reg wH) (.cond (.t 107) (.seq (.reg wI) (.exit 6)) .skip))) (.reg wJ)))
@[go_sem] def wK:=k 0x12ac9b0d01202c8922d2
@[go_sem] def wL:=k 0x7f3b45e76
@[go_sem] def wM:=k 0x473698a410152e
@[go_sem] def wN:=k 0x51720
@[go_sem] def wO:=k 0x43d59efd1ac0e
@[go_sem] def wP:=k 0x84cfef0d6
@[go_sem] def wQ:=k 0x14bd04c2cd61d95b2a7da
@[go_sem] def wR:=k 0x20b0fdc11083aae1daefad24a94a6609bcb2959ccac99a54f
@[go_sem] def wS:=k 0x279f503d38c9318eab
def OV:TC:=(.seq (.reg wP) (.seq (.cond (.t 120) .skip (.exit 10)) (.seq (.block 11 (.seq (.reg wQ) (.reg wR))) (.reg wS))))
@[go_sem] def wT:=k 0x438aafe6ca123ef892de1e9015f0f5381114bff7129829b956f
@[go_sem] def wU:=kd 0x69163e689cab0de07c5c64d69dc23e947ddaffec9a14c585da6289d5569815ebe205aa46d70beaf5b029dcd9f54a8962d3b55e6eb0f043467c217dd7617e74fdaf699bd6cf1865efc5a5aaac0cb6a7
@[go_sem] def wV:=k 0x2efa45848b3fb833ab
def OW:TC:=(.seq (.reg wL) (.seq (.cond (.t 115) .skip (.exit 8)) (.seq (.block 9 (.seq (.reg wM) (.seq (.reg wN) (.seq (.seq (.reg wO) (.block 10 (.loop OV))) (.seq (.reg wT) (.cond (.t 136) (.dreg wU) .skip)))))) (.reg wV))))
@[go_sem] def wW:=k 0x34a09664d9709cd53fac3
@[go_sem] def wX:=k 0x448af77e42e47b01d4cf13
@[go_sem] def wY:=k 0xb18836eab7
@[go_sem] def wZ:=k 0x18d734aeab44f16f
@[go_sem] def xA:=kd 0xc086a8eb6bdc1346e32197194caba9601c0c9fc295ac87a63a04e96db8875c2be6967a92f214abeb2e5a47c03a80b6ada627
@[go_sem] def xB:=k 0x352318012e30bdbd2b
def OX:TC:=(.seq (.reg wY) (.seq (.cond (.t 161) .skip (.exit 12)) (.seq (.block 13 (.seq (.reg wZ) (.dreg xA))) (.reg xB))))
@[go_sem] def xC:=k 0xaa5db54cd98443
def Nv:TF:=⟨175,[.cell 4 3 true],(.seq (.reg aFT) (.seq (.reg aFU) (.seq (.seq (.reg aFV) (.block 0 (.loop T4))) (.seq (.seq (.reg aF1) (.block 2 (.loop OT))) (.seq (.reg wE) (.seq (.seq (.reg wF) (.block 6 (.loop OU))) (.seq (.seq (.reg wK) (.block 8 (.loop OW))) (.seq (.seq (.reg wW) (.cond (.t 156) (.seq (.reg wX) (.block 12 (.loop OX))) .skip)) (.seq (.reg xC) .ret)))))))))⟩
/-! horarium/config.Right -/
@[go_sem] def aF2:=k 0x6a55ec8
@[go_sem] def aF3:=k 0x12629db2bafb2d9cf1e5e7b54b3e41219d40
@[go_sem] def aF4:=k 0x18b4e163f06c
def Nw:TF:=⟨11,[.t 2],(.seq (.reg aF2) (.seq (.reg aF3) (.seq (.reg aF4) .ret)))⟩
/-! horarium/config.Copy -/
@[go_sem] def aF5:=k 0x3f1fdec8
@[go_sem] def aF6:=k 0xed24
@[go_sem] def aF7:=k 0x443f0f5b7f53b2ab0
@[go_sem] def aF8:=k 0xc8a8254
@[go_sem] def aF9:=k 0x835ca1f8e5fdf56fca5a8
@[go_sem] def aGa:=k 0x120f921033fca5772f23bff9866a0ad0
@[go_sem] def aGb:=k 0x69480d8b4805d5a0c145640b343393b503530
@[go_sem] def aGc:=k 0x81480618ea688
def T5:TC:=(.seq (.reg aF8) (.seq (.cond (.t 12) .skip (.exit 0)) (.seq (.block 1 (.seq (.reg aF9) (.seq (.reg aGa) (.reg aGb)))) (.reg aGc))))
@[go_sem] def aGd:=k 0x1d794203aae884774abfdcac87dbed50
@[go_sem] def xD:=k 0x8d95c3ecae1276abb1
@[go_sem] def xE:=k 0x9d6e7f55
@[go_sem] def xF:=k 0x33c3ab3c66df2247e59
@[go_sem] def xG:=kd 0x22c3f7facfc6c953fac5869b97d1a5efb0cfafb4c04e0f9e4e52697125
@[go_sem] def xH:=k 0xe944b3a5a8d2e9
def OY:TC:=(.seq (.reg xE) (.seq (.cond (.t 36) .skip (.exit 2)) (.seq (.block 3 (.seq (.reg xF) (.dreg xG))) (.reg xH))))
@[go_sem] def xI:=k 0x362b4f8e8a01
def J8:TF:=⟨49,[.cell 2 3 true],(.seq (.reg aF5) (.seq (.reg aF6) (.seq (.seq (.reg aF7) (.block 0 (.loop T5))) (.seq (.reg aGd) (.seq (.seq (.reg xD) (.block 2 (.loop OY))) (.seq (.reg xI) .ret))))))⟩
/-! slices.Clone[[]byte,byte] -/
@[go_sem] def aGe:=k 0xa5a4
@[go_sem] def aGf:=k 0x3b2b51ec4c
@[go_sem] def aGg:=k 0xa5a4
@[go_sem] def aGh:=k 0x551a3ca90d7072700eec
def Nx:TF:=⟨8,[.t 2],(.seq (.reg aGe) (.seq (.seq (.reg aGf) (.cond (.t 4) (.seq (.reg aGg) .ret) .skip)) (.seq (.reg aGh) .ret)))⟩
/-! slices.Clone[[]uint32,uint32] -/
@[go_sem] def aGi:=k 0xa5a4
@[go_sem] def aGj:=k 0x3b2b51ec4c
@[go_sem] def aGk:=k 0xa5a4
@[go_sem] def aGl:=k 0x551a3ca90d7072700eec
def Ny:TF:=⟨8,[.t 2],(.seq (.reg aGi) (.seq (.seq (.reg aGj) (.cond (.t 4) (.seq (.reg aGk) .ret) .skip)) (.seq (.reg aGl) .ret)))⟩
/-! horarium/health.New -/
@[go_sem] def aGm:=k 0x44a95ec8
@[go_sem] def aGn:=k 0x3d09c99cf8ef3979c990
def Nz:TF:=⟨6,[.t 2],(.seq (.reg aGm) (.seq (.reg aGn) .ret))⟩
/-! horarium/proc.New -/
@[go_sem] def aGo:=k 0xa658
@[go_sem] def aGp:=k 0x54d409c187451f66dacb8fdac8652146c6875c0ec
@[go_sem] def aGq:=k 0xa658
@[go_sem] def aGr:=k 0x2906d6c385d33c4
@[go_sem] def aGs:=k 0xff1702085ac
@[go_sem] def aGt:=k 0x148af674
@[go_sem] def aGu:=k 0x889ebed16a890c6ed1994
@[go_sem] def aGv:=kd 0x95f78a4d66070da6892802f4e2d3e7fdfc90a5bc3bc561f1f5e0c47a5cdcd49b4b48a0bc2587d
@[go_sem] def aGw:=k 0xa83182d6573989
def nG:TC:=(.seq (.reg aGt) (.seq (.cond (.t 19) .skip (.exit 0)) (.seq (.block 1 (.seq (.reg aGu) (.dreg aGv))) (.reg aGw))))
@[go_sem] def xJ:=k 0x2af7d7d58f04d
def NA:TF:=⟨36,[.t 2],(.seq (.reg aGo) (.seq (.seq (.reg aGp) (.cond (.t 13) (.seq (.reg aGq) .ret) .skip)) (.seq (.reg aGr) (.seq (.seq (.reg aGs) (.block 0 (.loop nG))) (.seq (.reg xJ) .ret)))))⟩
/-! (*horarium/part.Part).begin -/
@[go_sem] def aGR:=k 0xbc06cd8dff26c1c132d1b32c
@[go_sem] def aGS:=k 0x8cbc7535d7a4db27158c
@[go_sem] def aGT:=kd 0x4ac177251b22cee5d78b498b4d3609ab54c97dc5831e46201baff0cebcf2027c4fc
@[go_sem] def aGU:=k 0x1c8b6a94
@[go_sem] def aGV:=k 0x5dc17191b5d552a6d8db4
@[go_sem] def aGW:=kd 0xb5cc40c2ea1e0d117ee3d6f36689a74f8c800b82110791cf930348c4b7193de51120f0341d7bd
@[go_sem] def aGX:=k 0xcb1194d15b29a9
def Ub:TC:=(.seq (.reg aGU) (.seq (.cond (.t 26) .skip (.exit 0)) (.seq (.block 1 (.seq (.reg aGV) (.dreg aGW))) (.reg aGX))))
@[go_sem] def aGY:=k 0x1305a5e722b213ef1f4f20bb86d
def NB:TF:=⟨46,[],(.seq (.reg aGR) (.seq (.reg aGS) (.seq (.seq (.dreg aGT) (.block 0 (.loop Ub))) (.reg aGY))))⟩
/-! (*horarium/proc.Table).Pick -/
@[go_sem] def aGZ:=k 0x13338
@[go_sem] def aG0:=k 0xd7288c10e7ad66b4691423cb591fe2ceac
@[go_sem] def aG1:=k 0x15c1bfd60a6e77f14c837c77ec
@[go_sem] def aG2:=k 0x15af9954
@[go_sem] def aG3:=k 0x72361394a8daa6ff4276d3dda7bbc0c
@[go_sem] def aG4:=k 0x113667a5d0d20f2e7e3ac0bcf03fc71ea7680e069bff2dec4b1
@[go_sem] def aG5:=k 0xe645b9ad3899828ddb8a4fd28d
@[go_sem] def aG6:=k 0xbbe4661ec65509
def Uc:TC:=(.seq (.reg aG2) (.seq (.cond (.t 20) .skip (.exit 0)) (.seq (.block 1 (.seq (.reg aG3) (.seq (.reg aG4) (.cond (.t 32) (.reg aG5) .skip)))) (.reg aG6))))
@[go_sem] def aG7:=k 0xd94cc9d52ed1d7bcd
@[go_sem] def xK:=k 0x133bc
@[go_sem] def xL:=k 0x12c416d4ab94641e28593e2506d
def NC:TF:=⟨46,[.t 4],(.seq (.reg aGZ) (.seq (.reg aG0) (.seq (.seq (.reg aG1) (.block 0 (.loop Uc))) (.seq (.seq (.reg aG7) (.cond (.t 41) (.seq (.reg xK) .ret) .skip)) (.seq (.reg xL) .ret)))))⟩
/-! horarium/isa.Fetch -/
@[go_sem] def aG8:=k 0x62a918
@[go_sem] def aG9:=k 0x712d2fe9319a4044749cc526da841abef7433e8d1b96a520c876909ee58da9be734c29cec
@[go_sem] def aHa:=k 0xe7e4a969fed138
@[go_sem] def aHb:=kd 0xf4131cf1f6d096ca348d3daaedfb1110f8242c9f63883bcaae9334980d4e7cab8cbe46bfa5c62e08416cca919d5ae7f8f7bd0eb8e8d57c6e2a9eea56c89f0f35eec289c19ca1bd
def ND:TF:=⟨45,[.cell 4 4 true,.t 5],(.seq (.reg aG8) (.seq (.seq (.reg aG9) (.cond (.t 19) (.seq (.reg aHa) .ret) .skip)) (.seq (.dreg aHb) .ret)))⟩
/-! horarium/isa.Right -/
@[go_sem] def aHc:=k 0xc2edec8
@[go_sem] def aHd:=k 0x214abb932e2351e702d8e8fd759db65a1c9520f5908cbae3d0
@[go_sem] def aHe:=k 0x957bd44e7e18deb5850f89d7af3e82d842453f8effa749e123bd3538c984c5a3dfbddbabf2e1401364414978623e87573e33e5621509f8f171775c44963cd451f600b7c43e467ed99fd956911
def NE:TF:=⟨39,[.t 2],(.seq (.reg aHc) (.seq (.reg aHd) (.seq (.reg aHe) .ret)))⟩
/-! (*horarium/part.Part).do -/
@[go_sem] def aHf:=k 0xf82626a9d28
@[go_sem] def aHg:=k 0x258e08f6fe921929655d588862a1c838310c
@[go_sem] def aHh:=k 0x2e9af2ea8250
@[go_sem] def aHi:=k 0x6f31340850b04
@[go_sem] def aHj:=k 0x74190508e2de4
@[go_sem] def aHk:=k 0x7900d609750c4
@[go_sem] def aHl:=k 0x7de8a70a073a4
@[go_sem] def aHm:=k 0x82d0780a99684
@[go_sem] def aHn:=k 0x87b8490f0bd64
@[go_sem] def aHo:=k 0x8ca01a0f9e044
@[go_sem] def xM:=k 0x57add3005e3484f9fdddd9c9c302ca25bdf35faf82e0a1f0d
@[go_sem] def xN:=k 0xb84a28a78ca625
@[go_sem] def xO:=k 0xbd31f9a79ea505
@[go_sem] def xP:=k 0x63885a121a2381ce9accfd11d1859c506382e0ce3cd
@[go_sem] def xQ:=k 0xe5211b0bb29405
@[go_sem] def xR:=k 0x6bd59ddd18b15e35ab042d018e4f6fae3bacd
@[go_sem] def xS:=k 0x10cfc9d2bc68305
@[go_sem] def xU:=kd 0xcbd93a01f2efa3e05ce2f2999bf8977892023dc03073d
@[go_sem] def xV:=k 0x117ed42db0b0d60a337a452814f8f0c849c2c8ce
@[go_sem] def xW:=k 0x15a0b639f7d5d906
@[go_sem] def xX:=kd 0x7331421b65b4f1a48f42b8abe7f082d99f732176eb08d5bbad5cb9f158ddddec0371bd34fc2218a932fafe0b4917e06e79333e
@[go_sem] def xY:=k 0x1b7fa4fa58d32ba6
@[go_sem] def xZ:=k 0x2b3935570fa5c68800447a21e65daa1026e
@[go_sem] def yA:=k 0x1df8754b5800c2a6
@[go_sem] def yB:=k 0x1e46f25b58247986
@[go_sem] def yC:=k 0x1e956f6b588f1066
@[go_sem] def yD:=k 0x1ee3ec7b58b2c746
@[go_sem] def yE:=k 0x2181635d6b0d0ab7b81d09ff7bdda5543b638cd3107a1e8240e0e
@[go_sem] def yF:=k 0x380500
def Ci:TF:=⟨108,[.t 10,.t 11],(.seq (.reg aHf) (.seq (.reg aHg) (.seq (.seq (.reg aHh) (.block 0 (.seq (.seq (.reg aHi) (.cond (.t 21) .skip (.seq (.reg aHj) (.cond (.t 21) .skip (.seq (.reg aHk) (.cond (.t 21) .skip (.seq (.reg aHl) (.cond (.t 21) .skip (.seq (.reg aHm) (.cond (.t 21) .skip (.seq (.reg aHn) (.cond (.t 21) .skip (.reg aHo))))))))))))) (.cond (.t 21) (.seq (.reg xM) .ret) (.seq (.seq (.reg xN) (.cond (.t 36) .skip (.reg xO))) (.cond (.t 36) (.seq (.reg xP) .ret) (.seq (.reg xQ) (.cond (.t 45) (.reg xR) (.seq (.reg xS) (.cond (.t 53) (.seq (.dreg xU) (.cond (.t 62) (.reg xV) .skip)) (.seq (.reg xW) (.cond (.t 69) (.dreg xX) (.seq (.reg xY) (.cond (.t 88) (.reg xZ) (.seq (.seq (.reg yA) (.cond (.t 96) .skip (.seq (.reg yB) (.cond (.t 96) .skip (.seq (.reg yC) (.cond (.t 96) .skip (.reg yD))))))) (.cond (.t 96) (.seq (.reg yE) .ret) .skip)))))))))))))))) (.seq (.reg yF) .ret))))⟩
/-! (*horarium/part.Part).fails -/
@[go_sem] def aHp:=k 0xa0f68
@[go_sem] def aHq:=kd 0xae247590bd74ed1bbc80c65c92ba6dfe751836a2665c29b0f43dc7c
@[go_sem] def aHr:=kd 0x1c31ce706a1fbdf41870d7b5589cc16b1d648dc42fdde66e7a899b93c
@[go_sem] def aHs:=k 0x836d726eb4a84
@[go_sem] def aHt:=kd 0xf4c20581379cc993f4ba171b3f64bec7c9550509ce5b7fd71195e559258008a3d
@[go_sem] def aHu:=k 0xbd4598fcec5505
@[go_sem] def aHv:=k 0xbf73730e3cd
def NF:TF:=⟨41,[],(.seq (.reg aHp) (.seq (.dreg aHq) (.seq (.dreg aHr) (.block 0 (.seq (.reg aHs) (.cond (.t 25) (.dreg aHt) (.seq (.reg aHu) (.cond (.t 37) (.reg aHv) .skip))))))))⟩
/-! (*horarium/health.Log).Stopped -/
@[go_sem] def aHw:=k 0xa58c
@[go_sem] def aHx:=k 0x143adca331aada6b6df78d6c4c
def NG:TF:=⟨7,[.t 2],(.seq (.reg aHw) (.seq (.reg aHx) .ret))⟩
/-! slices.Equal[[]horarium/part.state,horarium/part.state] -/
@[go_sem] def aHy:=k 0x1334c
@[go_sem] def aHz:=k 0xc20c6241cedc33cd19f5c0ec
@[go_sem] def aHA:=k 0x1334c
@[go_sem] def aHB:=k 0xf8f53cb234c
@[go_sem] def aHC:=k 0xed3c814
@[go_sem] def aHD:=k 0x25334a09eacc
@[go_sem] def aHE:=kd 0x123c6cf61c1eb60df2637bd33a1e0dee50b466da4865ffc
@[go_sem] def aHF:=k 0x1334c
@[go_sem] def aHG:=k 0x7caeb24c55fa8
def nH:TC:=(.seq (.reg aHC) (.seq (.cond (.t 14) .skip (.exit 0)) (.seq (.block 1 (.seq (.reg aHD) (.seq (.dreg aHE) (.cond (.t 24) (.seq (.reg aHF) .ret) .skip)))) (.reg aHG))))
@[go_sem] def yG:=k 0x133ac
def NH:TF:=⟨26,[.t 4],(.seq (.reg aHy) (.seq (.seq (.reg aHz) (.cond (.t 10) (.seq (.reg aHA) .ret) .skip)) (.seq (.seq (.reg aHB) (.block 0 (.loop nH))) (.seq (.reg yG) .ret))))⟩
/-! (*horarium/proc.Table).Same -/
@[go_sem] def aHH:=k 0x1334c
@[go_sem] def aHI:=kd 0x35ce3b3eda9b0fd97ca23ab69a6cb39376d9998e9ce88c7335bc
def NI:TF:=⟨14,[.t 4],(.seq (.reg aHH) (.seq (.dreg aHI) .ret))⟩
/-! slices.Equal[[]horarium/health.Fault,horarium/health.Fault] -/
@[go_sem] def aHJ:=k 0x1334c
@[go_sem] def aHK:=k 0xc20c6241cedc33cd19f5c0ec
@[go_sem] def aHL:=k 0x1334c
@[go_sem] def aHM:=k 0xf8f53cb234c
@[go_sem] def aHN:=k 0xed3c814
@[go_sem] def aHO:=k 0x25334a09eacc
@[go_sem] def aHP:=kd 0x123c6dcbc9e767c0bab3ae39141a2e394c22e53eb865ffc
@[go_sem] def aHQ:=k 0x1334c
@[go_sem] def aHR:=k 0x7caeb24c55fa8
def nI:TC:=(.seq (.reg aHN) (.seq (.cond (.t 14) .skip (.exit 0)) (.seq (.block 1 (.seq (.reg aHO) (.seq (.dreg aHP) (.cond (.t 24) (.seq (.reg aHQ) .ret) .skip)))) (.reg aHR))))
@[go_sem] def yH:=k 0x133ac
def NJ:TF:=⟨26,[.t 4],(.seq (.reg aHJ) (.seq (.seq (.reg aHK) (.cond (.t 10) (.seq (.reg aHL) .ret) .skip)) (.seq (.seq (.reg aHM) (.block 0 (.loop nI))) (.seq (.reg yH) .ret))))⟩
/-! (*horarium/part.Part).Faults -/
@[go_sem] def aHS:=k 0xa5a4
@[go_sem] def aHT:=k 0x342f2350cb42cc5343da8cf78d6c4c
def NK:TF:=⟨8,[.t 2],(.seq (.reg aHS) (.seq (.reg aHT) .ret))⟩
/-! (*horarium/horariumkeep.Tape).Table -/
@[go_sem] def aHU:=k 0x1c124
@[go_sem] def aHV:=k 0x84deb8e8aa761234c
@[go_sem] def aHW:=k 0x1ca5c72863de619504bbb7b4eaf91690c
@[go_sem] def aHX:=k 0x2e9a4bbade4c
@[go_sem] def aHY:=k 0x2e7a43d00836f859838a4b87d6e97e80c
@[go_sem] def aHZ:=k 0x52ea34302f0680ddab43968819362821a180132be50eae614a6d
@[go_sem] def aH0:=k 0x29bc42a83896d
@[go_sem] def aH1:=k 0x273590b089a5e2b8b08f7861882bcb95ad688546b6db72b1d109cb2a2c96583420f2d
@[go_sem] def aH2:=k 0x49e4830328b5818f3ec551acd
@[go_sem] def aH3:=k 0x139b673ad95fc7b101fdaf6d
@[go_sem] def yI:=k 0x2dc78
@[go_sem] def yJ:=k 0x1248190b79aa89f40d
@[go_sem] def yK:=k 0x121dfc0a5b32a9968efdb2c637f9658044b72229559677166e
@[go_sem] def yL:=k 0x4da1e1403308a1cc8ad
def Ud:TC:=(.seq (.seq (.reg yJ) (.cond (.t 55) .skip (.exit 0))) (.seq (.block 1 (.reg yK)) (.reg yL)))
@[go_sem] def yM:=k 0x27e346b6b9068e
def J9:TF:=⟨66,[.t 6],(.seq (.reg aHU) (.seq (.reg aHV) (.seq (.seq (.reg aHW) (.cond (.t 18) (.seq (.seq (.reg aHX) (.cond (.t 20) (.seq (.reg aHY) .ret) .skip)) (.seq (.reg aHZ) .ret)) .skip)) (.seq (.seq (.reg aH0) (.cond (.t 35) (.seq (.reg aH1) .ret) .skip)) (.seq (.reg aH2) (.seq (.reg aH3) (.seq (.seq (.reg yI) (.block 0 (.loop Ud))) (.seq (.reg yM) .ret))))))))⟩
/-! horarium/horariumref3.Of -/
@[go_sem] def aH4:=k 0x35cda4
@[go_sem] def aH5:=k 0x26c3630ecbdb40ec
@[go_sem] def aH6:=k 0x139f6e3abeac
@[go_sem] def aH7:=k 0x1b2a105ad6dcc6c
@[go_sem] def aH8:=k 0x9e6c5bbfd3413f4c234c
@[go_sem] def aH9:=k 0x28d460bc24443ec
@[go_sem] def aIa:=k 0x1d7242da4
@[go_sem] def aIb:=k 0x200ce9cf7988c
def NL:TF:=⟨18,[.t 2,.t 3],(.seq (.reg aH4) (.seq (.seq (.reg aH5) (.seq (.reg aH6) (.cond (.t 9) (.seq (.reg aH7) .ret) .skip))) (.seq (.reg aH8) (.seq (.seq (.reg aH9) (.cond (.t 16) (.seq (.reg aIa) .ret) .skip)) (.seq (.reg aIb) .ret)))))⟩
/-! horarium/horariumref3.Total -/
@[go_sem] def aIc:=k 0xa578
@[go_sem] def aId:=k 0xec58
@[go_sem] def aIe:=k 0xf2d3775c0ec
@[go_sem] def aIf:=k 0x91c99b4
@[go_sem] def aIg:=k 0x81199aedb6b09a67ebcd4
@[go_sem] def aIh:=k 0x64a1029140b65db28a4d95ffe2c
@[go_sem] def aIi:=k 0x4fc4204b961c8
def nJ:TC:=(.seq (.reg aIf) (.seq (.cond (.t 9) .skip (.exit 0)) (.seq (.block 1 (.seq (.reg aIg) (.reg aIh))) (.reg aIi))))
@[go_sem] def aIj:=k 0x29e03ce5e08c
def NM:TF:=⟨18,[.t 2],(.seq (.reg aIc) (.seq (.reg aId) (.seq (.seq (.reg aIe) (.block 0 (.loop nJ))) (.seq (.reg aIj) .ret))))⟩
/-! horarium/horariumref7.Late -/
@[go_sem] def aIk:=k 0x1c0f8
@[go_sem] def aIl:=k 0x5d98f494465805ac
@[go_sem] def aIm:=k 0xd7e41cceb8
@[go_sem] def aIn:=k 0x1018aee7176c
@[go_sem] def aIo:=k 0x16d43c34
@[go_sem] def aIp:=k 0xfe1522f8e70d65f38
@[go_sem] def aIq:=k 0x92094bfad9c0aa807bebec4f0d469a374efcdeb191baa2e5c1746da85fbe942f8dbf037034ad
@[go_sem] def aIr:=k 0xb228636733c749
def nK:TC:=(.seq (.reg aIo) (.seq (.cond (.t 21) .skip (.exit 0)) (.seq (.block 1 (.seq (.reg aIp) (.reg aIq))) (.reg aIr))))
@[go_sem] def aIs:=k 0xb586ca3860d
@[go_sem] def yN:=k 0x1c0f8
@[go_sem] def yO:=k 0xbf566b25bcd
@[go_sem] def yP:=k 0x1c17c
@[go_sem] def yQ:=k 0x824dc387798d
@[go_sem] def yR:=k 0xc16e7655
@[go_sem] def yS:=k 0x4e489b4abbcdd51b7ed64a2a750d
@[go_sem] def yT:=k 0x108eb79b345f5f71ad
@[go_sem] def yU:=k 0xd1ad8
@[go_sem] def yV:=k 0xb8235f2ff49b8cc0b087fd820d270f0acd87546b551ca370d353a43e4d
@[go_sem] def yW:=k 0x55e31ecc904227709ed
def Ue:TC:=(.seq (.seq (.reg yV) (.cond (.t 61) .skip (.exit 4))) (.block 5 (.reg yW)))
@[go_sem] def yX:=k 0x635ceb782cb703d9a66154fae
@[go_sem] def yY:=k 0x14a54da44e1e146a
def Uf:TC:=(.seq (.reg yR) (.seq (.cond (.t 44) .skip (.exit 2)) (.seq (.block 3 (.seq (.reg yS) (.seq (.seq (.reg yT) (.cond (.t 50) (.exit 3) .skip)) (.seq (.reg yU) (.seq (.block 4 (.loop Ue)) (.reg yX)))))) (.reg yY))))
@[go_sem] def yZ:=k 0x29ba3516966b2e
def NN:TF:=⟨69,[.t 6],(.seq (.reg aIk) (.seq (.reg aIl) (.seq (.reg aIm) (.seq (.seq (.reg aIn) (.block 0 (.loop nK))) (.seq (.seq (.reg aIs) (.cond (.t 38) (.seq (.reg yN) .ret) .skip)) (.seq (.seq (.reg yO) (.cond (.t 40) (.seq (.reg yP) .ret) .skip)) (.seq (.seq (.reg yQ) (.block 2 (.loop Uf))) (.seq (.reg yZ) .ret))))))))⟩
/-! horarium/horariumref7.Budget -/
@[go_sem] def aIt:=k 0x1c0f8
@[go_sem] def aIu:=k 0x4d4ccc7ee88b310c
@[go_sem] def aIv:=k 0x5f5028f882e2f076ce6f2d359b0c8334be8666f9807a249203a1d0c1e1267b1d8091f6cc
@[go_sem] def aIw:=k 0x1c17c
@[go_sem] def aIx:=k 0x148c78560eb0f0d70c
@[go_sem] def aIy:=k 0x29598
@[go_sem] def aIz:=k 0x2f666acc9ef4d3996224cd
@[go_sem] def aIA:=k 0x2dc78
@[go_sem] def aIB:=k 0xda0d7eb8937a66912bc8688ad0f59ac1f60a4ed
@[go_sem] def aIC:=k 0xca6e7415
@[go_sem] def zA:=k 0x4173a0c12bec7247319
@[go_sem] def zB:=k 0x10e6fea12ab73c488d
@[go_sem] def zC:=k 0x48332947cb37a1bad2d
@[go_sem] def zD:=k 0x10c5fa379f6c309
def Ug:TC:=(.seq (.reg aIC) (.seq (.cond (.t 46) .skip (.exit 2)) (.seq (.block 3 (.seq (.reg zA) (.seq (.reg zB) (.cond (.t 51) (.reg zC) .skip)))) (.reg zD))))
@[go_sem] def zE:=k 0x157b2f2e3ed9854b848711cd
@[go_sem] def zF:=k 0xdf78c4ad47f98a0b413404d
def Uh:TC:=(.seq (.seq (.reg aIz) (.cond (.t 34) .skip (.exit 0))) (.seq (.block 1 (.seq (.reg aIA) (.seq (.seq (.reg aIB) (.block 2 (.loop Ug))) (.reg zE)))) (.reg zF)))
@[go_sem] def zG:=k 0x474068df7e66d
def NO:TF:=⟨59,[.t 6],(.seq (.reg aIt) (.seq (.reg aIu) (.seq (.seq (.reg aIv) (.cond (.t 28) (.seq (.reg aIw) .ret) .skip)) (.seq (.reg aIx) (.seq (.seq (.reg aIy) (.block 0 (.loop Uh))) (.seq (.reg zG) .ret))))))⟩
/-! horarium/horariumref12.Right -/
@[go_sem] def aID:=k 0x6a55ec8
@[go_sem] def aIE:=k 0x12629db2bafb2d9cf1e5e7b54b3e6c521d40
@[go_sem] def aIF:=k 0x18b4e163f06c
def NP:TF:=⟨11,[.t 2],(.seq (.reg aID) (.seq (.reg aIE) (.seq (.reg aIF) .ret)))⟩
/-! horarium/config.Where -/
@[go_sem] def aIG:=k 0xeb779a55ec8
@[go_sem] def aIH:=k 0x922362fddb108c2a7707e4b392ff4f346da3b7c0be72c9a16426713ea846c40863314abbfbb9753f0dceba7ebc576df844913752ae6c622e263f364ae204d0fd7584a7a283a6e26cfd057594db51
@[go_sem] def aII:=k 0x6c03978
@[go_sem] def aIJ:=k 0x8ff634f090e59c9bd1
@[go_sem] def aIK:=k 0xbcee7775
@[go_sem] def aIL:=k 0xa916056412fd3f14502343e29e1a0762d
@[go_sem] def aIM:=k 0x2c22a5e46427b4208a18f684fdac9f72b09f6b3768f9e5b835f9c7f8fd05e5b2d1
@[go_sem] def aIN:=k 0x14085630673abb4d4d
@[go_sem] def aIO:=k 0x52da101cf30d4cd9
@[go_sem] def aIP:=k 0x15640440e67ebc68cd
@[go_sem] def zH:=k 0x13b9397a1c653fca
def Ui:TC:=(.seq (.reg aIK) (.seq (.cond (.t 43) .skip (.exit 0)) (.seq (.block 1 (.seq (.reg aIL) (.seq (.seq (.reg aIM) (.cond (.t 58) (.seq (.reg aIN) .ret) .skip)) (.seq (.reg aIO) (.cond (.t 62) (.seq (.reg aIP) .ret) .skip))))) (.reg zH))))
@[go_sem] def zI:=k 0x11b2b5e30b2e7ded8692
@[go_sem] def zJ:=k 0x4be398236
@[go_sem] def zK:=k 0x1beae0af34c6857ec623f6bbdbf4361d38ee
@[go_sem] def zL:=k 0xe19db2dd4ffcd48646fbde2
@[go_sem] def zM:=k 0x1a24e4a24291a7a090e
@[go_sem] def zN:=k 0x181401c32919200a
def Uj:TC:=(.seq (.reg zJ) (.seq (.cond (.t 69) .skip (.exit 2)) (.seq (.block 3 (.seq (.reg zK) (.seq (.reg zL) (.cond (.t 76) (.seq (.reg zM) .ret) .skip)))) (.reg zN))))
@[go_sem] def zO:=k 0x11fec3faf1dc4fa966d2
@[go_sem] def zP:=k 0x5b83d8276
@[go_sem] def zQ:=k 0x479ee04dadfb06f1e0fd8bcdc1392e
@[go_sem] def zR:=k 0x85fa94b4291ea1c55cba39e22
@[go_sem] def zS:=k 0x372ff1e2cb626e
@[go_sem] def zT:=k 0x117bfd8b5c5ea7d938a3f02e
@[go_sem] def zU:=k 0x1d046871e12d8e0a
def Uk:TC:=(.seq (.reg zP) (.seq (.cond (.t 83) .skip (.exit 4)) (.seq (.block 5 (.seq (.reg zQ) (.seq (.reg zR) (.seq (.reg zS) (.cond (.t 91) (.seq (.reg zT) .ret) .skip))))) (.reg zU))))
@[go_sem] def zV:=k 0x2b312578
def NQ:TF:=⟨95,[.t 2,.t 3],(.seq (.reg aIG) (.seq (.seq (.reg aIH) (.cond (.t 38) (.seq (.reg aII) .ret) .skip)) (.seq (.seq (.reg aIJ) (.block 0 (.loop Ui))) (.seq (.seq (.reg zI) (.block 2 (.loop Uj))) (.seq (.seq (.reg zO) (.block 4 (.loop Uk))) (.seq (.reg zV) .ret))))))⟩
/-! slices.Clip[[]horarium/api.Proc,horarium/api.Proc] -/
@[go_sem] def aIQ:=k 0xa5a4
@[go_sem] def aIR:=k 0x107d773a855e084cf97f0d75be7837536c4c
def Ka:TF:=⟨9,[.t 2],(.seq (.reg aIQ) (.seq (.reg aIR) .ret))⟩
/-! slices.Clone[[]horarium/api.Proc,horarium/api.Proc] -/
@[go_sem] def aIS:=k 0xa5a4
@[go_sem] def aIT:=k 0x3b2b51ec4c
@[go_sem] def aIU:=k 0xa5a4
@[go_sem] def aIV:=k 0x551a3ca90d0e561c0eec
def Kb:TF:=⟨8,[.t 2],(.seq (.reg aIS) (.seq (.seq (.reg aIT) (.cond (.t 4) (.seq (.reg aIU) .ret) .skip)) (.seq (.reg aIV) .ret)))⟩
/-! slices.Clip[[]horarium/api.Chan,horarium/api.Chan] -/
@[go_sem] def aIW:=k 0xa5a4
@[go_sem] def aIX:=k 0x107d773a856ceb25ccb1b1a23e7837536c4c
def NR:TF:=⟨9,[.t 2],(.seq (.reg aIW) (.seq (.reg aIX) .ret))⟩
/-! slices.Clone[[]horarium/api.Chan,horarium/api.Chan] -/
@[go_sem] def aIY:=k 0xa5a4
@[go_sem] def aIZ:=k 0x3b2b51ec4c
@[go_sem] def aI0:=k 0xa5a4
@[go_sem] def aI1:=k 0x551a3ca9106db5cc0eec
def NS:TF:=⟨8,[.t 2],(.seq (.reg aIY) (.seq (.seq (.reg aIZ) (.cond (.t 4) (.seq (.reg aI0) .ret) .skip)) (.seq (.reg aI1) .ret)))⟩
/-! slices.Clip[[]horarium/api.Node,horarium/api.Node] -/
@[go_sem] def aI2:=k 0xa5a4
@[go_sem] def aI3:=k 0x107d773a856d05cc03e097edbe7837536c4c
def Kc:TF:=⟨9,[.t 2],(.seq (.reg aI2) (.seq (.reg aI3) .ret))⟩
/-! slices.Clone[[]horarium/api.Node,horarium/api.Node] -/
@[go_sem] def aI4:=k 0xa5a4
@[go_sem] def aI5:=k 0x3b2b51ec4c
@[go_sem] def aI6:=k 0xa5a4
@[go_sem] def aI7:=k 0x551a3ca90ed1a5380eec
def Kd:TF:=⟨8,[.t 2],(.seq (.reg aI4) (.seq (.seq (.reg aI5) (.cond (.t 4) (.seq (.reg aI6) .ret) .skip)) (.seq (.reg aI7) .ret)))⟩
/-! (*horarium/proc.Table).Reset -/
@[go_sem] def aI8:=k 0x149c9af2ac0fb3ebb8f78d6c4c
@[go_sem] def aI9:=k 0x91c99b4
@[go_sem] def aJa:=k 0x18b4e1903c6c
@[go_sem] def aJb:=kd 0x4b30e0ccf1b75146022cc628df35de17011a50977ba3bf734fabd3b1996d00aa5400c0242f2aa6499d571e3c
@[go_sem] def aJc:=k 0x7bea794bbdfa8
def nL:TC:=(.seq (.reg aI9) (.seq (.cond (.t 9) .skip (.exit 0)) (.seq (.block 1 (.seq (.reg aJa) (.dreg aJb))) (.reg aJc))))
def NT:TF:=⟨26,[],(.seq (.reg aI8) (.block 0 (.loop nL)))⟩
/-! container/heap.Push -/
@[go_sem] def aJd:=k 0x1696f8d4e097b32c
@[go_sem] def aJe:=k 0x185da78ac04f3644a1e4d487cc
def NU:TF:=⟨12,[],(.seq (.reg aJd) (.reg aJe))⟩
/-! (*horarium/proc.ready).Len -/
@[go_sem] def aJf:=k 0xa578
@[go_sem] def aJg:=k 0x342f234f39b04f51e3ebb8f78d6c4c
def NV:TF:=⟨8,[.t 2],(.seq (.reg aJf) (.seq (.reg aJg) .ret))⟩
/-! container/heap.Pop -/
@[go_sem] def aJh:=k 0xa7b0
@[go_sem] def aJi:=k 0x92e48a02a4eba7d5bb32c
@[go_sem] def aJj:=k 0x4c23f7464c42087cc
@[go_sem] def aJk:=k 0x6cc46d36780a15c6c
@[go_sem] def aJl:=k 0x4c737fc183c3b10c
def NW:TF:=⟨15,[.t 2],(.seq (.reg aJh) (.seq (.reg aJi) (.seq (.reg aJj) (.seq (.reg aJk) (.seq (.reg aJl) .ret)))))⟩
/-! horarium/isa.regs -/
@[go_sem] def aJm:=k 0x6bf21798c
@[go_sem] def aJn:=k 0x17a0c
@[go_sem] def aJo:=k 0x234f4a06463e4
@[go_sem] def aJp:=k 0x28371b0ab8ac4
@[go_sem] def aJq:=k 0x2d1eec0b4ada4
@[go_sem] def aJr:=k 0x3206bd0cf8884
@[go_sem] def aJs:=k 0x36ee8e0d8ab64
@[go_sem] def aJt:=k 0x3bd65f0e1ce44
@[go_sem] def aJu:=k 0x6bf2179ec
@[go_sem] def aJv:=k 0x46b8b6bef3004
@[go_sem] def zW:=k 0x4ba087bf852e4
@[go_sem] def zX:=k 0x508858c0175c4
@[go_sem] def zY:=k 0x557029c0a98a4
@[go_sem] def zZ:=k 0x15776919ec
@[go_sem] def aAa:=k 0x6004046940264
@[go_sem] def aAb:=k 0x64ebd569d2544
@[go_sem] def aAc:=k 0x6bff619ec
@[go_sem] def aAd:=k 0x6f31330412304
@[go_sem] def aAe:=k 0x74190404a45e4
@[go_sem] def aAf:=k 0x6bff6198c
@[go_sem] def aAg:=k 0x6bf21798c
def NX:TF:=⟨24,[.t 2,.t 3,.t 4],(.seq (.reg aJm) (.seq (.seq (.reg aJn) (.block 0 (.seq (.seq (.reg aJo) (.cond (.t 6) .skip (.seq (.reg aJp) (.cond (.t 6) .skip (.seq (.reg aJq) (.cond (.t 6) .skip (.seq (.reg aJr) (.cond (.t 6) .skip (.seq (.reg aJs) (.cond (.t 6) .skip (.reg aJt))))))))))) (.cond (.t 6) (.seq (.reg aJu) .ret) (.seq (.seq (.reg aJv) (.cond (.t 13) .skip (.seq (.reg zW) (.cond (.t 13) .skip (.seq (.reg zX) (.cond (.t 13) .skip (.reg zY))))))) (.cond (.t 13) (.seq (.reg zZ) .ret) (.seq (.seq (.reg aAa) (.cond (.t 18) .skip (.reg aAb))) (.cond (.t 18) (.seq (.reg aAc) .ret) (.seq (.seq (.reg aAd) (.cond (.t 21) .skip (.reg aAe))) (.cond (.t 21) (.seq (.reg aAf) .ret) .skip)))))))))) (.seq (.reg aAg) .ret)))⟩
/-! horarium/isa.field -/
@[go_sem] def aJw:=k 0x1334c
@[go_sem] def aJx:=k 0x29e5eb609fa933f261b7b9bb22f8c8dc28e5cb4e56dbfe5b8d0cfa451b21169e5a75a9fdbba7a0c
def Ke:TF:=⟨19,[.t 4],(.seq (.reg aJw) (.seq (.reg aJx) .ret))⟩
/-! (*horarium/part.Part).count -/
@[go_sem] def aJL:=k 0xf5b23e25648
@[go_sem] def aJM:=k 0x42f1bdaf4e90701c
@[go_sem] def aJN:=k 0x1fe37fdffd10
@[go_sem] def aJO:=k 0x50d6d66e73dc4
@[go_sem] def aJP:=kd 0x3b2a355a1c4f748a91136eebf720c26b935b4b0177c60806ef550dad34a7d25eb7ec30d60e539b3b6bc
@[go_sem] def aJQ:=k 0xa45c677cc262a5
@[go_sem] def aJR:=kd 0x5af87a835deb5795c33ce859440b73e2649cc086c82695a4c0811ad0a8da20d001930fe13eca2bef88c2c797d
@[go_sem] def aJS:=k 0xf90edc00d8cf85
@[go_sem] def aJT:=kd 0x7aedc9df095674474e8e2fe1e0a190cd1dc6142b72286c4ac7004c227ac41e22ac494567317077068d2ad0ce4e2ec3e
@[go_sem] def aJU:=k 0x14b3681b2cd3d466
@[go_sem] def aAh:=kd 0x7ba277f5bcadc86bdff9f8988a7d01a3c1e4b1602bd5fefe
@[go_sem] def aAi:=k 0x2741ff740
@[go_sem] def aAj:=kd 0xaa2689d314c0207a913c8bcbabb8034111591352241b4ad403b923466459d6946a9f557a48ee0caf989400cef1b34fe
@[go_sem] def aAk:=k 0x1c6cf3184df64046
@[go_sem] def aAl:=k 0x2dd00
@[go_sem] def aAm:=k 0x17f0f0d81320dcad2e2dfe00cd0c2ba915ac270e
@[go_sem] def aAn:=k 0x77fb0db2908d59d9b5cacf5ed4cdd8ea24962f6523c72e
@[go_sem] def aAo:=k 0x215e93ba4e1e1e46
@[go_sem] def aAp:=k 0x256035281f5a440950e
@[go_sem] def aAq:=kd 0x915c56fde800f70c1779b2f8abf4a92012047e2d77b9bd6a013e
@[go_sem] def aAr:=k 0x21f53e33f6b22ee
def Cj:TF:=⟨119,[.t 8,.t 9],(.seq (.reg aJL) (.seq (.reg aJM) (.seq (.seq (.reg aJN) (.block 0 (.seq (.reg aJO) (.cond (.t 15) (.dreg aJP) (.seq (.reg aJQ) (.cond (.t 32) (.dreg aJR) (.seq (.reg aJS) (.cond (.t 49) (.dreg aJT) (.seq (.reg aJU) (.cond (.t 66) (.seq (.seq (.dreg aAh) (.cond (.t 75) (.seq (.reg aAi) .ret) .skip)) (.dreg aAj)) (.seq (.reg aAk) (.cond (.t 91) (.seq (.reg aAl) (.seq (.reg aAm) (.cond (.t 99) (.reg aAn) .skip))) (.seq (.reg aAo) (.cond (.t 107) (.reg aAp) .skip)))))))))))))) (.seq (.dreg aAq) (.seq (.reg aAr) .ret)))))⟩
/-! (*horarium/part.Part).word -/
@[go_sem] def aJV:=k 0xf33e55a0f68
@[go_sem] def aJW:=kd 0xe16ca7f599cf048de046d80cbcb1c3e89f506974814117e750aebe16f940c0680bc
@[go_sem] def aJX:=k 0x19d5ae3c80c
@[go_sem] def aJY:=k 0x1d7254980
@[go_sem] def aJZ:=k 0x106cc3250524d9e5d0
@[go_sem] def aJ0:=kd 0x134619f67e12136561325d129f0ea8a00cd500d9dec8959ff73f834c402db0a9c697747437d
@[go_sem] def aJ1:=kd 0x1987e7031f48b3188eac44b0ec6502352fe7077a0a558eee5a49f065ff50301163db3efb47d
@[go_sem] def aJ2:=k 0xe03aeeb7711c0afb199d760062f311291d7ef6d
def GZ:TF:=⟨56,[.t 6,.t 7],(.seq (.reg aJV) (.seq (.dreg aJW) (.seq (.seq (.reg aJX) (.cond (.t 22) (.seq (.reg aJY) .ret) .skip)) (.seq (.seq (.reg aJZ) (.cond (.t 25) (.dreg aJ0) (.dreg aJ1))) (.seq (.reg aJ2) .ret)))))⟩
/-! horarium/isa.Imm -/
@[go_sem] def aJ3:=k 0x2c4c5ec8
@[go_sem] def aJ4:=k 0xc9ddcd04cfd05d89d43ff85d4d1178dd797c5fcf0c850
def NY:TF:=⟨11,[.t 2],(.seq (.reg aJ3) (.seq (.reg aJ4) .ret))⟩
/-! (*horarium/proc.Table).Sleep -/
@[go_sem] def aJ5:=k 0x1c10c
@[go_sem] def aJ6:=k 0x276388a91d9887cc
@[go_sem] def aJ7:=k 0x15e80639a32a45d80d161b7853d538a45e87ff966b5c6c
@[go_sem] def aJ8:=k 0x1e60c613aa632b519b936c
def NZ:TF:=⟨21,[.t 6],(.seq (.reg aJ5) (.seq (.seq (.reg aJ6) (.cond (.t 9) (.reg aJ7) .skip)) (.seq (.reg aJ8) .ret)))⟩
/-! (*horarium/proc.Table).End -/
@[go_sem] def aJ9:=k 0x1334c
@[go_sem] def aKa:=k 0x1c2f2d42e597fa0c
@[go_sem] def aKb:=k 0x42a734e8727c504bb28c8f6af00efb591fe2ceac
@[go_sem] def aKc:=k 0x19c5a007650911fd9abecc
def N0:TF:=⟨18,[.t 4],(.seq (.reg aJ9) (.seq (.seq (.reg aKa) (.cond (.t 7) (.reg aKb) .skip)) (.seq (.reg aKc) .ret)))⟩
/-! (*horarium/part.Part).call -/
@[go_sem] def aKd:=k 0xf5b23e25648
@[go_sem] def aKe:=k 0x1fe37fdffd10
@[go_sem] def aKf:=k 0x50d6d675a69c4
@[go_sem] def aKg:=kd 0xda9bb808f2843b1deb7a9b8db80f29ca950b9a2fa06f837fea42f82894dddbd513d9a7edefe9486dd2a23641468f8d66bd
@[go_sem] def aKh:=k 0x308c649c3158e78d90a3a2b64310e3eaa8d
@[go_sem] def aKi:=k 0xc2410915aa63e5
@[go_sem] def aKj:=kd 0x6ed9ce1abed947f8d37d1b1916306177017b1efa0f461fd
@[go_sem] def aKk:=k 0x320c0c88fd7a7313f7ba4873e04c81243ed
@[go_sem] def aKl:=k 0x80f2afc7356a0c13aa4a07cf5139546c1ffb9cc716364d
@[go_sem] def aKm:=k 0x3111a1740
@[go_sem] def aAs:=k 0x51b88c36b7b35e90551
@[go_sem] def aAt:=kd 0x38d9473315ada46c666e3d356136ef9a465693a60ce962167e
@[go_sem] def aAu:=kd 0xffc4b6974154ce29ed58be1aa795fca3992c6e270f0c9c5a01af5cb1dc6c1f58ea5be
@[go_sem] def aAv:=k 0x206ccce3f600fee
@[go_sem] def aAw:=k 0xd4ee97524cdca96e031d322fc80ab08a0f22f291689fec2ca08dae
@[go_sem] def aAx:=k 0x698d4ee926ee
@[go_sem] def aAy:=kd 0x74c7f6cb289c19a14a227b0999771e4ea96d4f61c40cf40305fe
@[go_sem] def aAz:=k 0x16fff3b90d652200d1f2d1b64b247888944ce
@[go_sem] def aAA:=k 0x2144a4cff89972e
def Fy:TF:=⟨101,[.t 8,.t 9],(.seq (.reg aKd) (.seq (.seq (.reg aKe) (.block 0 (.seq (.reg aKf) (.cond (.t 15) (.seq (.dreg aKg) (.seq (.reg aKh) .ret)) (.seq (.reg aKi) (.cond (.t 38) (.seq (.dreg aKj) (.seq (.reg aKk) .ret)) .skip)))))) (.seq (.seq (.reg aKl) (.cond (.t 58) (.seq (.reg aKm) .ret) .skip)) (.seq (.seq (.reg aAs) (.cond (.t 61) (.seq (.dreg aAt) (.seq (.dreg aAu) (.seq (.reg aAv) .ret))) .skip)) (.seq (.reg aAw) (.seq (.seq (.reg aAx) (.cond (.t 87) (.dreg aAy) .skip)) (.seq (.reg aAz) (.seq (.reg aAA) .ret))))))))⟩
/-! (*horarium/health.Log).Tell -/
@[go_sem] def aKn:=k 0x24eb8
@[go_sem] def aKo:=k 0x906638bd27b4966b5c6c
@[go_sem] def aKp:=k 0x24f3c
@[go_sem] def aKq:=k 0x1becb29beb9f109d5ebf1b21fc1a1fffdcb01527a688ba94f180a247a061f382d677ec
@[go_sem] def aKr:=k 0x2c0e1f8c37a31613a6114c
@[go_sem] def aKs:=k 0x3fa79084d01b375301c478f91d96e265ed
@[go_sem] def aKt:=k 0x2b1546c23404d
def N1:TF:=⟨36,[.t 8],(.seq (.reg aKn) (.seq (.seq (.reg aKo) (.cond (.t 13) (.seq (.reg aKp) .ret) .skip)) (.seq (.reg aKq) (.seq (.reg aKr) (.seq (.reg aKs) (.seq (.reg aKt) .ret))))))⟩
/-! slices.Equal[[]horarium/proc.proc,horarium/proc.proc] -/
@[go_sem] def aKu:=k 0x1334c
@[go_sem] def aKv:=k 0xc20c6241cedc33cd19f5c0ec
@[go_sem] def aKw:=k 0x1334c
@[go_sem] def aKx:=k 0xf8f53cb234c
@[go_sem] def aKy:=k 0xed3c814
@[go_sem] def aKz:=k 0x25334a09eacc
@[go_sem] def aKA:=kd 0x123c7cd38f01e4596ffe3f71f91a2e394c22e53eb865ffc
@[go_sem] def aKB:=k 0x1334c
@[go_sem] def aKC:=k 0x7caeb24c55fa8
def nM:TC:=(.seq (.reg aKy) (.seq (.cond (.t 14) .skip (.exit 0)) (.seq (.block 1 (.seq (.reg aKz) (.seq (.dreg aKA) (.cond (.t 24) (.seq (.reg aKB) .ret) .skip)))) (.reg aKC))))
@[go_sem] def aAB:=k 0x133ac
def N2:TF:=⟨26,[.t 4],(.seq (.reg aKu) (.seq (.seq (.reg aKv) (.cond (.t 10) (.seq (.reg aKw) .ret) .skip)) (.seq (.seq (.reg aKx) (.block 0 (.loop nM))) (.seq (.reg aAB) .ret))))⟩
/-! (*horarium/health.Log).All -/
@[go_sem] def aKD:=k 0xa5a4
@[go_sem] def aKE:=k 0x342f23510167ce5376737a778d6c4c
def N7:TF:=⟨8,[.t 2],(.seq (.reg aKD) (.seq (.reg aKE) .ret))⟩
/-! horarium/horariumref3.Right -/
@[go_sem] def aKF:=k 0xa578
@[go_sem] def aKG:=k 0x10632ca08317a0c
@[go_sem] def aKH:=k 0x1b3978
@[go_sem] def aKI:=k 0x30e48e401d20ceac
@[go_sem] def aKJ:=k 0x6af578
@[go_sem] def aKK:=k 0x43e834a5f1eda34c
@[go_sem] def aKL:=k 0x7cad78
@[go_sem] def aKM:=k 0x24c4e3afbf1b05406625cdba4bbb24043ecc
@[go_sem] def aKN:=k 0x174e85aca4c
@[go_sem] def aKO:=k 0xa01d78
@[go_sem] def aAC:=k 0xa578
def N8:TF:=⟨21,[.t 2],(.seq (.reg aKF) (.seq (.seq (.reg aKG) (.cond (.t 7) (.seq (.reg aKH) .ret) .skip)) (.seq (.seq (.reg aKI) (.cond (.t 10) (.seq (.reg aKJ) .ret) .skip)) (.seq (.seq (.reg aKK) (.cond (.t 13) (.seq (.reg aKL) .ret) .skip)) (.seq (.seq (.reg aKM) (.seq (.reg aKN) (.cond (.t 20) (.seq (.reg aKO) .ret) .skip))) (.seq (.reg aAC) .ret))))))⟩
/-! horarium/horariumref3.Tidy -/
@[go_sem] def aKP:=k 0xa5a4
@[go_sem] def aKQ:=k 0xec84
@[go_sem] def aKR:=k 0xf40d6ba07cc
@[go_sem] def aKS:=k 0xa413c94
@[go_sem] def aKT:=k 0x81da1e847bdfd90235fb4
@[go_sem] def aKU:=k 0x4d2156beb4ee450c
@[go_sem] def aKV:=k 0xae2e3ab8fd1fc0ad0
@[go_sem] def aKW:=kd 0x3a271925f1a52424aee780ea81c5b250b2df710ff25b77546b26583b37d7f33be8bd7c
@[go_sem] def aKX:=kd 0x707e1f135a2cd465a70535615754bca70583d3f705de40f982acbf14517672f7ca9b9a52acf096f86c50353d
@[go_sem] def aKY:=k 0x5008dc203dc40d26ed76b6e3b50d
@[go_sem] def aAD:=k 0xf116284a7d60a9
def Ul:TC:=(.seq (.reg aKS) (.seq (.cond (.t 10) .skip (.exit 0)) (.seq (.block 1 (.seq (.reg aKT) (.seq (.reg aKU) (.seq (.seq (.reg aKV) (.cond (.t 17) (.exit 1) .skip)) (.seq (.dreg aKW) (.cond (.t 30) (.dreg aKX) (.reg aKY))))))) (.reg aAD))))
@[go_sem] def aAE:=k 0x3d5d2795d176d
def N9:TF:=⟨51,[.t 2],(.seq (.reg aKP) (.seq (.reg aKQ) (.seq (.seq (.reg aKR) (.block 0 (.loop Ul))) (.seq (.reg aAE) .ret))))⟩
/-! horarium/horariumref3.Leaves -/
@[go_sem] def aKZ:=k 0xa5a4
@[go_sem] def aK0:=k 0x2c409ef21c4206c4c
def Oa:TF:=⟨5,[.t 2],(.seq (.reg aKZ) (.seq (.reg aK0) .ret))⟩
/-! horarium/horariumref3.Sum -/
@[go_sem] def aK1:=k 0x13338
@[go_sem] def aK2:=k 0x760ef0120d21cde81c7836ea93f7a0c
@[go_sem] def aK3:=k 0x706e0a78595dde19158c
@[go_sem] def aK4:=k 0x13580
@[go_sem] def aK5:=k 0x16c391a11bfcf5301a310c
def Ob:TF:=⟨16,[.t 4],(.seq (.reg aK1) (.seq (.reg aK2) (.seq (.seq (.reg aK3) (.cond (.t 12) (.seq (.reg aK4) .ret) .skip)) (.seq (.reg aK5) .ret))))⟩
/-! horarium/horariumref7.words -/
@[go_sem] def aK6:=k 0xa5a4
@[go_sem] def aK7:=k 0xec84
@[go_sem] def aK8:=k 0xf40d6ba07cc
@[go_sem] def aK9:=k 0xa413c94
@[go_sem] def aLa:=k 0x81da1e847bdfd90235fb4
@[go_sem] def aLb:=k 0x1c0f8
@[go_sem] def aLc:=k 0x1613709f91fd4599c0dd2ac2aa11b19e1c0dc8597ad90c
@[go_sem] def aLd:=k 0x19eb494fdc2410f1b790d3daf0e350ac
@[go_sem] def aLe:=k 0xfc0b9dfec559256ec
def nN:TC:=(.seq (.seq (.reg aLc) (.cond (.t 21) .skip (.exit 2))) (.seq (.block 3 (.reg aLd)) (.reg aLe)))
@[go_sem] def aAF:=k 0x8fb0fbe587b28
def Um:TC:=(.seq (.reg aK9) (.seq (.cond (.t 10) .skip (.exit 0)) (.seq (.block 1 (.seq (.reg aLa) (.seq (.reg aLb) (.block 2 (.loop nN))))) (.reg aAF))))
@[go_sem] def aAG:=k 0x49c30b6979ec
def Oc:TF:=⟨31,[.t 2],(.seq (.reg aK6) (.seq (.reg aK7) (.seq (.seq (.reg aK8) (.block 0 (.loop Um))) (.seq (.reg aAG) .ret))))⟩
/-! horarium/horariumref12.Where -/
@[go_sem] def aLf:=k 0xeb779a55ec8
@[go_sem] def aLg:=k 0xa83d383e6b3752805eb01b0a5a3b1137ad08aeff6d18c213d91f2b7eb45c9e62f024aa8b1ac5b958cdf0406e83c459c59ee989ac2a24c571eee877edc5cdfc6693f5e4c60b09199adb39c9963db1
@[go_sem] def aLh:=k 0x6c03978
@[go_sem] def aLi:=k 0x91a8cecec5399dfe31
@[go_sem] def aLj:=k 0xd36e71d5
@[go_sem] def aLk:=k 0xab6443538ad1d5c8e4cce1de6a74a708d
@[go_sem] def aLl:=k 0x513948396a092259e71531
@[go_sem] def aLm:=k 0x130393b2bf3aba78ad
@[go_sem] def aLn:=k 0x1c0f8
@[go_sem] def aLo:=k 0x13a935bf1336042f8d
@[go_sem] def aAH:=kd 0xf9d1a0f244b0ff07b636364bc6abd8da7095de1208e9427205cebc66
@[go_sem] def aAI:=k 0x181b5f93534da317fce
@[go_sem] def aAJ:=k 0x52fade58ccd99d7042d
def Un:TC:=(.seq (.seq (.reg aLo) (.cond (.t 59) .skip (.exit 2))) (.seq (.block 3 (.seq (.dreg aAH) (.cond (.t 70) (.seq (.reg aAI) .ret) .skip))) (.reg aAJ)))
@[go_sem] def aAK:=k 0x3193184cc11e5375a
@[go_sem] def aAL:=k 0x19770d9a02efa329b4e
@[go_sem] def aAM:=k 0x176a271d1500924a
def Uo:TC:=(.seq (.reg aLj) (.seq (.cond (.t 48) .skip (.exit 0)) (.seq (.block 1 (.seq (.reg aLk) (.seq (.seq (.reg aLl) (.cond (.t 55) (.seq (.reg aLm) .ret) .skip)) (.seq (.seq (.reg aLn) (.block 2 (.loop Un))) (.seq (.reg aAK) (.cond (.t 74) (.seq (.reg aAL) .ret) .skip)))))) (.reg aAM))))
@[go_sem] def aAN:=k 0x11f3e689d0e7fdf0d912
@[go_sem] def aAO:=k 0x5948614b6
@[go_sem] def aAP:=k 0x1ff3cc331816c814f1ff90a4b0652ac9cb6e
@[go_sem] def aAQ:=k 0x290acee462e085b4f07ed903f8a3c5320a6
@[go_sem] def aAR:=k 0x1ee5c5975291aa1594e
@[go_sem] def aAS:=k 0x1c66345d7dbd004a
def Up:TC:=(.seq (.reg aAO) (.seq (.cond (.t 81) .skip (.exit 4)) (.seq (.block 5 (.seq (.reg aAP) (.seq (.reg aAQ) (.cond (.t 90) (.seq (.reg aAR) .ret) .skip)))) (.reg aAS))))
@[go_sem] def aAT:=k 0x124ad212d88a0fad4712
@[go_sem] def aAU:=k 0x6b24182b6
@[go_sem] def aAV:=k 0x534799c34925197f3af564eb35396e
@[go_sem] def aAW:=k 0xd67a95900a594750ffa67c653974b57fc8d26b4ee
@[go_sem] def aAX:=k 0x40ff93e316b06e
@[go_sem] def aAY:=k 0x147e0c3d5bfde1132d2f3e2e
@[go_sem] def aAZ:=k 0x434c442e45bee
@[go_sem] def aA0:=k 0x7cffcf0b6
@[go_sem] def aA1:=k 0x166a57c2f4cfb763c90b0a7d6
@[go_sem] def aA2:=k 0x1b31254ca6e0e9c6aab8d96990942ce105532
@[go_sem] def aA3:=k 0x296c49f54aefaf0ce6e
@[go_sem] def aA4:=k 0x25faf893b4c5956a
def Uq:TC:=(.seq (.reg aA0) (.seq (.cond (.t 113) .skip (.exit 8)) (.seq (.block 9 (.seq (.reg aA1) (.seq (.reg aA2) (.cond (.t 121) (.seq (.reg aA3) .ret) .skip)))) (.reg aA4))))
@[go_sem] def aA5:=k 0xbdafa89d8dfdde1fc742ddc82
@[go_sem] def aA6:=k 0x137805a21d7180cf
@[go_sem] def aA7:=k 0x61c2f5e52ecdab32f4bef20e8f
@[go_sem] def aA8:=k 0x2838c3bee750b21c6b
def Ur:TC:=(.seq (.reg aAU) (.seq (.cond (.t 97) .skip (.exit 6)) (.seq (.block 7 (.seq (.reg aAV) (.seq (.reg aAW) (.seq (.seq (.reg aAX) (.cond (.t 107) (.seq (.reg aAY) .ret) .skip)) (.seq (.seq (.reg aAZ) (.block 8 (.loop Uq))) (.seq (.reg aA5) (.seq (.reg aA6) (.cond (.t 128) (.seq (.reg aA7) .ret) .skip)))))))) (.reg aA8))))
@[go_sem] def aA9:=k 0x2b312578
def Od:TF:=⟨132,[.t 2,.t 3],(.seq (.reg aLf) (.seq (.seq (.reg aLg) (.cond (.t 43) (.seq (.reg aLh) .ret) .skip)) (.seq (.seq (.reg aLi) (.block 0 (.loop Uo))) (.seq (.seq (.reg aAN) (.block 4 (.loop Up))) (.seq (.seq (.reg aAT) (.block 6 (.loop Ur))) (.seq (.reg aA9) .ret))))))⟩
/-! horarium/config.Name -/
@[go_sem] def aLp:=k 0xa58c
@[go_sem] def aLq:=k 0xf2d7f7140ec
@[go_sem] def aLr:=k 0x91c99b4
@[go_sem] def aLs:=k 0x18c880d43c6c
@[go_sem] def aLt:=k 0x13c1833ad3f4fde621a34c
@[go_sem] def aLu:=k 0x272690192e431b5022b2b856b8cf74a3e7ec
@[go_sem] def aLv:=k 0x236593ac4423bb52dc250f37518ff7b1ca95cd6dfd578cbc22fcdeabd870c85c31bae8a8310adf63cd98a48cde89964a36392d
@[go_sem] def aLw:=k 0xa58c
@[go_sem] def aLx:=k 0xbb0c8e020c5509
def nO:TC:=(.seq (.reg aLr) (.seq (.cond (.t 9) .skip (.exit 0)) (.seq (.block 1 (.seq (.reg aLs) (.seq (.reg aLt) (.seq (.reg aLu) (.seq (.reg aLv) (.cond (.t 37) (.seq (.reg aLw) .ret) .skip)))))) (.reg aLx))))
@[go_sem] def aBa:=k 0x1cd4bd525e3d0f41c93dd0bbc1313d92ddeb899e15d28d8e3cd
def Oe:TF:=⟨47,[.t 2],(.seq (.reg aLp) (.seq (.seq (.reg aLq) (.block 0 (.loop nO))) (.seq (.reg aBa) .ret)))⟩
/-! slices.ContainsFunc[[]horarium/api.Part,horarium/api.Part] -/
@[go_sem] def aLy:=k 0x1334c
@[go_sem] def aLz:=k 0x36336deaad3517fb6250c97fa0c
def Og:TF:=⟨9,[.t 4],(.seq (.reg aLy) (.seq (.reg aLz) .ret))⟩
/-! horarium/config.Where$1 -/
@[go_sem] def aLA:=k 0xc2f25a8
@[go_sem] def aLB:=k 0xef2bb796c9eaa1412b3161b81342eb30
def Oh:TF:=⟨9,[.t 3],(.seq (.reg aLA) (.seq (.reg aLB) .ret))⟩
/-! horarium/config.part -/
@[go_sem] def aLC:=k 0xc2edec8
@[go_sem] def aLD:=k 0x1e5b17a6f9cf0
@[go_sem] def aLE:=k 0x90ae1c0
@[go_sem] def aLF:=k 0x31b8401da3ec4
@[go_sem] def aLG:=k 0x18d7e1c5666673b06b9704b6c3f5e934c
@[go_sem] def aLH:=k 0xa58c
@[go_sem] def aLI:=k 0x54abf14b9a8a8
def nP:TC:=(.seq (.reg aLE) (.seq (.cond (.t 9) .skip (.exit 0)) (.seq (.block 1 (.seq (.reg aLF) (.seq (.reg aLG) (.cond (.t 16) (.seq (.reg aLH) .ret) .skip)))) (.reg aLI))))
@[go_sem] def aLJ:=k 0xfc2d180cc9127fdd935ac4ff63a0edab256ec7adc9b596f70
@[go_sem] def aLK:=k 0xff9eaa11f6d185e5ffc13a538d060d8bd8acadf36c4befa9d501b4cc29ae1e5a1666fbd617c6c0b04df9968159fef2f2b7400b90d3f60de432deb5cc2a3bded42094a694b2d47f8ffe6035ec745fdf6f87bf0271
def Oi:TF:=⟨54,[.t 2],(.seq (.reg aLC) (.seq (.seq (.reg aLD) (.block 0 (.loop nP))) (.seq (.reg aLJ) (.seq (.reg aLK) .ret))))⟩
/-! horarium/config.channel -/
@[go_sem] def aLL:=k 0x1b0eb0b3a5a8
@[go_sem] def aLM:=k 0x6a67a18
@[go_sem] def aLN:=k 0x139ff783e2b0
@[go_sem] def aLO:=k 0x9d00cf5618
@[go_sem] def aLP:=k 0x582318a978c584466b6c6449470
@[go_sem] def aLQ:=k 0x1a26dc834764546a3b449f9077c2dcb96aea205cde00f8988a970297272a5f6e7c6c1388b74c271209e396277dd5e5af4c6ba23066c2b670f5e0619d77ff5c57fcf040fb00f648bf7c3741f9978e0e1b3cfe5f2cdc7b4f58eeb0847f30b641b91ff1
def Oj:TF:=⟨48,[.t 4],(.seq (.reg aLL) (.seq (.reg aLM) (.seq (.seq (.reg aLN) (.cond (.t 9) (.reg aLO) .skip)) (.seq (.reg aLP) (.seq (.reg aLQ) .ret)))))⟩
/-! horarium/config.table -/
@[go_sem] def aLR:=k 0x550e21a5a8
@[go_sem] def aLS:=k 0x1678746b7d6edd8781d073b667cc15cbaaac
@[go_sem] def aLT:=k 0x1d6f104d922c
@[go_sem] def aLU:=k 0x22abc2079fec
@[go_sem] def aLV:=k 0x54374a5cb6748acc
@[go_sem] def aLW:=k 0x8ef338
@[go_sem] def aLX:=k 0x1e48b5a0d418f368bd4bc0
def Ol:TF:=⟨21,[.t 4],(.seq (.reg aLR) (.seq (.reg aLS) (.seq (.seq (.reg aLT) (.cond (.t 13) (.seq (.reg aLU) .ret) .skip)) (.seq (.seq (.reg aLV) (.cond (.t 17) (.seq (.reg aLW) .ret) .skip)) (.seq (.reg aLX) .ret)))))⟩
/-! container/heap.up -/
@[go_sem] def aLY:=k 0x1576b0197bb4891eed8d60c
@[go_sem] def aLZ:=k 0x3fce603e06b76f017d4a17e5ab47d7e5ff178d25d342c3c3eac
@[go_sem] def aL0:=k 0x1bfea5e4d7a9a855e7936c
@[go_sem] def aL1:=k 0x3610282c1eec
def QR:TC:=(.block 1 (.seq (.reg aLY) (.seq (.seq (.reg aLZ) (.cond (.t 17) (.exit 0) .skip)) (.seq (.reg aL0) (.reg aL1)))))
def Kf:TF:=⟨23,[],(.block 0 (.loop QR))⟩
/-! container/heap.down -/
@[go_sem] def aL2:=k 0x1c10c
@[go_sem] def aL3:=k 0x1b8ae6267f4c
@[go_sem] def aL4:=k 0x2ae556ae1c15459ef8c6e2c
@[go_sem] def aL5:=k 0x4c16b6aee87522dadcd38878541f61ca59ecc
@[go_sem] def aL6:=k 0x36ad226f8eec
@[go_sem] def aL7:=k 0x10844bc09e3e2455cc
@[go_sem] def aL8:=k 0x11d93bd27042205df6f4dc125e1fd02aa6f427331da3c22338d
@[go_sem] def aL9:=k 0x29e03a544b16d
@[go_sem] def aMa:=k 0x3f4cb1b85e6df5913ba25ee3c84d
@[go_sem] def aMb:=k 0xf48eecf126e8c4f24c52aad
@[go_sem] def aBb:=k 0x3619f5315be2d
def Ix:TC:=(.block 1 (.seq (.reg aL4) (.seq (.seq (.reg aL5) (.cond (.t 21) (.exit 0) .skip)) (.seq (.reg aL6) (.seq (.seq (.reg aL7) (.seq (.reg aL8) (.cond (.t 33) (.reg aL9) .skip))) (.seq (.seq (.reg aMa) (.cond (.t 39) (.exit 0) .skip)) (.seq (.reg aMb) (.reg aBb))))))))
@[go_sem] def aBc:=k 0x11b59b2a97d3656daae2950d
def G2:TF:=⟨48,[.t 6],(.seq (.reg aL2) (.seq (.reg aL3) (.seq (.block 0 (.loop Ix)) (.seq (.reg aBc) .ret))))⟩
/-! (*horarium/proc.Table).is -/
@[go_sem] def aMc:=k 0x1334c
@[go_sem] def aMd:=k 0x337e545580eb40df2d7536a4205b318f81d722b7e906313e56a9fdbc3560c
def Om:TF:=⟨16,[.t 4],(.seq (.reg aMc) (.seq (.reg aMd) .ret))⟩
/-! (*horarium/part.Part).channel -/
@[go_sem] def aMe:=k 0x1c10c
@[go_sem] def aMf:=k 0x262c699f6bea6ab1cd1b5752b40aaddddaddaaac
@[go_sem] def aMg:=k 0x1c10c
@[go_sem] def aMh:=k 0x1578b24d7bad0a34fddab7e4f55661ce77f5008f82fa0505ac
@[go_sem] def aMi:=kd 0xc4f802b7760992f22812f2531adc56f62b3eb9f8a67306fa20dbb7699eef1b55bd6d12a358518653491ccee60fa75919f108e3646eddf6a62fc2c6667375273489f5fd
def FA:TF:=⟨47,[.t 6],(.seq (.reg aMe) (.seq (.seq (.reg aMf) (.cond (.t 15) (.seq (.reg aMg) .ret) .skip)) (.seq (.reg aMh) (.seq (.dreg aMi) .ret))))⟩
/-! (*horarium/health.Log).action -/
@[go_sem] def aMj:=k 0x13338
@[go_sem] def aMk:=k 0xf55244e8c6bb45d1d6ee9bfad4069cec
@[go_sem] def aMl:=k 0x12eb38
@[go_sem] def aMm:=k 0xa46078012da17d87bd7381a5fe75476db0019ea2c
@[go_sem] def aMn:=k 0x280f77512722d0f90f5da5aa77ba9264c
@[go_sem] def aMo:=k 0x3da6bf81cf8c
@[go_sem] def aMp:=k 0x12eb38
def Dx:TF:=⟨26,[.t 4],(.seq (.reg aMj) (.seq (.seq (.reg aMk) (.cond (.t 11) (.seq (.reg aMl) .ret) .skip)) (.seq (.seq (.reg aMm) (.seq (.reg aMn) (.cond (.t 24) (.seq (.reg aMo) .ret) .skip))) (.seq (.reg aMp) .ret))))⟩
/-! slices.Clone[[]horarium/health.Fault,horarium/health.Fault] -/
@[go_sem] def aMq:=k 0xa5a4
@[go_sem] def aMr:=k 0x3b2b51ec4c
@[go_sem] def aMs:=k 0xa5a4
@[go_sem] def aMt:=k 0x551a3ca90ed1a5380eec
def G3:TF:=⟨8,[.t 2],(.seq (.reg aMq) (.seq (.seq (.reg aMr) (.cond (.t 4) (.seq (.reg aMs) .ret) .skip)) (.seq (.reg aMt) .ret)))⟩
/-! horarium/horariumref3.Depth -/
@[go_sem] def aMu:=k 0xa578
@[go_sem] def aMv:=k 0x233299ad5367def8fad5794c181650cdc707b49f3ec1328ec4c
@[go_sem] def aMw:=k 0xa578
@[go_sem] def aMx:=k 0x98e6ff808ef49310c
def Oo:TF:=⟨15,[.t 2],(.seq (.reg aMu) (.seq (.seq (.reg aMv) (.cond (.t 12) (.seq (.reg aMw) .ret) .skip)) (.seq (.reg aMx) .ret)))⟩
/-! horarium/horariumref3.Length -/
@[go_sem] def aMy:=k 0xc2f2578
@[go_sem] def aMz:=k 0x2098662abf53fa0c
@[go_sem] def aMA:=k 0xc2f2578
@[go_sem] def aMB:=k 0x6341a637c65e34eac
@[go_sem] def aMC:=k 0xc4e5904c6c
@[go_sem] def aMD:=k 0xc2f2578
@[go_sem] def aME:=k 0xad8b5e26d5a2c
def Oq:TF:=⟨13,[.t 2,.t 3],(.seq (.reg aMy) (.seq (.seq (.reg aMz) (.cond (.t 7) (.seq (.reg aMA) .ret) .skip)) (.seq (.reg aMB) (.seq (.seq (.reg aMC) (.cond (.t 11) (.seq (.reg aMD) .ret) .skip)) (.seq (.reg aME) .ret)))))⟩
/-! horarium/horariumref3.leaves -/
@[go_sem] def aMF:=k 0x1c124
@[go_sem] def aMG:=k 0x2b4f0ae118519b321469195c6c
@[go_sem] def aMH:=k 0x50d6d66de61c4
@[go_sem] def aMI:=kd 0x1c1306bc83d4b467f76a3568049b5f8ce2528c7fa21b2f320838adcc0b152ef85bc67684004810b6bc
@[go_sem] def aMJ:=k 0x9f60f738b063c5
@[go_sem] def aMK:=k 0x1c80f5762020504f9f8dac3ffa72946a25ded0bd7af932b976aa8d
@[go_sem] def aML:=k 0xd62eca24d6df65
@[go_sem] def aMM:=k 0x207d8
@[go_sem] def aMN:=k 0x16dc2af5d568c391d1732f63ddd63f2b9d24e2d
@[go_sem] def aMO:=k 0x1a4d0a4fae9e9bb5315ef6b0d2541268c40d
@[go_sem] def aBd:=k 0x46c72f21d6c35e63e4d
def Us:TC:=(.seq (.seq (.reg aMN) (.cond (.t 50) .skip (.exit 1))) (.seq (.block 2 (.reg aMO)) (.reg aBd)))
@[go_sem] def aBe:=k 0x474068d8d966d
@[go_sem] def aBf:=k 0x29d4a3c59c7c7ea426a6d4d
@[go_sem] def aBg:=k 0x464eeefd6
@[go_sem] def aBh:=k 0xb3786b8108e2ada2a6da
@[go_sem] def aBi:=k 0x1d27bdf9c3d5b9e386a2ab462b7aa44e
@[go_sem] def aBj:=k 0x15eb8570307f2fea
def Ut:TC:=(.seq (.reg aBg) (.seq (.cond (.t 64) .skip (.exit 3)) (.seq (.block 4 (.seq (.reg aBh) (.reg aBi))) (.reg aBj))))
@[go_sem] def aBk:=k 0x2c2e1d95c2e6ae
def G4:TF:=⟨73,[.t 6],(.seq (.reg aMF) (.seq (.seq (.reg aMG) (.block 0 (.seq (.reg aMH) (.cond (.t 15) (.seq (.dreg aMI) .ret) (.seq (.reg aMJ) (.cond (.t 31) (.seq (.reg aMK) .ret) (.seq (.reg aML) (.cond (.t 42) (.seq (.seq (.reg aMM) (.block 1 (.loop Us))) (.seq (.reg aBe) .ret)) .skip)))))))) (.seq (.seq (.reg aBf) (.block 3 (.loop Ut))) (.seq (.reg aBk) .ret))))⟩
/-! horarium/horariumref12.Name -/
@[go_sem] def aMQ:=k 0xa58c
@[go_sem] def aMR:=k 0xec58
@[go_sem] def aMS:=k 0x3ecb3352110477ee8e0c
@[go_sem] def aMT:=k 0x4a0cb05e9031438c9a8616c25d5fa11d1caf3ba86881cf8f248487a3d7e80a1cf3bf559695bade621a34c
@[go_sem] def aMU:=k 0x3b19cf5d340bc3182ab366d8627ce3d6c31383c96acf19a125ffb20ec2f0ae8c0f7d30b77b50455a95815b0b985ac81914d
@[go_sem] def aMV:=k 0xa58c
@[go_sem] def aMW:=k 0x6dc82ac7f06f4298c
def nQ:TC:=(.seq (.seq (.reg aMS) (.cond (.t 8) .skip (.exit 0))) (.seq (.block 1 (.seq (.reg aMT) (.seq (.reg aMU) (.cond (.t 44) (.seq (.reg aMV) .ret) .skip)))) (.reg aMW)))
@[go_sem] def aMX:=k 0x2096ae9c6f97a9f30890e06f7a8fc5ab5def91b3e84173a8d0d
def Ot:TF:=⟨53,[.t 2],(.seq (.reg aMQ) (.seq (.seq (.reg aMR) (.block 0 (.loop nQ))) (.seq (.reg aMX) .ret)))⟩
/-! horarium/horariumref12.partRight -/
@[go_sem] def aMY:=k 0xc2edec8
@[go_sem] def aMZ:=k 0x7f43fa69b4bc86cd246deaa4abfcfbe2536bee550c30924463d0
@[go_sem] def aM0:=k 0xa58c
@[go_sem] def aM1:=k 0x474d5835aa7472890
@[go_sem] def aM2:=k 0x16d43c34
@[go_sem] def aM3:=k 0x720f52cf686851a365f54
@[go_sem] def aM4:=k 0x3b06fc9edafddd84a76141310b57c2b076c4a17aaf06cef7d870ada502f76d338e5dbe1ce9e17c342b1a73d96df203e9cd9cb1
@[go_sem] def aM5:=k 0xa58c
@[go_sem] def aM6:=k 0xcf974967357089
def nR:TC:=(.seq (.reg aM2) (.seq (.cond (.t 21) .skip (.exit 0)) (.seq (.block 1 (.seq (.reg aM3) (.seq (.reg aM4) (.cond (.t 41) (.seq (.reg aM5) .ret) .skip)))) (.reg aM6))))
@[go_sem] def aBl:=k 0x20bb038cb1b751
@[go_sem] def aBm:=k 0xc7bb6c21
@[go_sem] def aBn:=k 0xe70ba91c927525
@[go_sem] def aBo:=k 0x176e51ab6b2ceb9d3b67611be1080757b1ad
@[go_sem] def aBp:=k 0xa58c
@[go_sem] def aBq:=k 0x10c5fa379f6c309
def Uu:TC:=(.seq (.reg aBm) (.seq (.cond (.t 46) .skip (.exit 2)) (.seq (.block 3 (.seq (.reg aBn) (.seq (.reg aBo) (.cond (.t 53) (.seq (.reg aBp) .ret) .skip)))) (.reg aBq))))
@[go_sem] def aBr:=k 0x2156c598e3288893765e0654f575ebb4c663ed962a0f09d1
@[go_sem] def aBs:=k 0xa5ec
@[go_sem] def aBt:=k 0x15d81b5d7edd89df0df55c83c97ef3d9f693f38d7f2a2c0fcb45e8255a3e984ecced3198b59576d0d3f50ea46742c4797159aac510d00bee4e213d1a3decf8d2
def Ou:TF:=⟨83,[.t 2],(.seq (.reg aMY) (.seq (.seq (.reg aMZ) (.cond (.t 16) (.seq (.reg aM0) .ret) .skip)) (.seq (.seq (.reg aM1) (.block 0 (.loop nR))) (.seq (.seq (.reg aBl) (.block 2 (.loop Uu))) (.seq (.seq (.reg aBr) (.cond (.t 62) (.seq (.reg aBs) .ret) .skip)) (.seq (.reg aBt) .ret))))))⟩
/-! horarium/horariumref12.chanRight -/
@[go_sem] def aM7:=k 0x5513ab25a8
@[go_sem] def aM8:=k 0x668d2aa90444c377c1bf865fcd8bc448b751b1b451c932a96821625420fe2fa34b82da62a672fe6cbac9f61bad095ae85205aa1939425a3ba6090e642bd32b3fc920a810e3dee090cce55ad703bb3ec68f917998f522344b1d14869731ad41e8f73043331dda4ea11
@[go_sem] def aM9:=k 0x1334c
@[go_sem] def aNa:=k 0x2932fc76063e7b5f846188485bf3ae2b69391beb7b0aae56914b690d53e2277ed36e0fc9e5ac3747bdff076069688f421cb321dc5bf08536b77bdaccdbf201ba8b2871
def Ov:TF:=⟨64,[.t 4],(.seq (.reg aM7) (.seq (.seq (.reg aM8) (.cond (.t 41) (.seq (.reg aM9) .ret) .skip)) (.seq (.reg aNa) .ret)))⟩
/-! horarium/horariumref7.Holds -/
@[go_sem] def aNb:=k 0x550e21a5a8
@[go_sem] def aNc:=k 0x44ece6a86c7601470
@[go_sem] def aNe:=k 0xed3c814
@[go_sem] def aNf:=k 0x9cecb5cacaf26b915eb70
@[go_sem] def aNg:=k 0xb59ff808db3cc46892e02dda4464c61013a88c
@[go_sem] def aNh:=k 0x63f5e75db2ecee0181ea5e54bdeaf69c70f8d9ae1246ce8236b39198d6ef792c671bbc16c5d1
@[go_sem] def aNi:=k 0xa98738
@[go_sem] def aNj:=k 0xb19f086c31c749
def nS:TC:=(.seq (.reg aNe) (.seq (.cond (.t 14) .skip (.exit 0)) (.seq (.block 1 (.seq (.reg aNf) (.seq (.reg aNg) (.seq (.reg aNh) (.cond (.t 35) (.seq (.reg aNi) .ret) .skip))))) (.reg aNj))))
@[go_sem] def aNk:=k 0x8f485dcae25dadc611
@[go_sem] def aBu:=k 0xb3ee79b5
@[go_sem] def aBv:=k 0x11e3635114d94e095de60557de5f5c786d
@[go_sem] def aBw:=kd 0x43f99a3fe587a8e8f9bfd392a10ed86983fcbece25d4e3ad1803e5591b2600425707ed76b79a5
@[go_sem] def aBx:=k 0xb26338
@[go_sem] def aBy:=k 0x11f9ccb0fd1de89
def Uv:TC:=(.seq (.reg aBu) (.seq (.cond (.t 41) .skip (.exit 2)) (.seq (.block 3 (.seq (.reg aBv) (.seq (.dreg aBw) (.cond (.t 57) (.seq (.reg aBx) .ret) .skip)))) (.reg aBy))))
@[go_sem] def aBz:=k 0x13338
def Ow:TF:=⟨59,[.t 4],(.seq (.reg aNb) (.seq (.seq (.reg aNc) (.block 0 (.loop nS))) (.seq (.seq (.reg aNk) (.block 2 (.loop Uv))) (.seq (.reg aBz) .ret))))⟩
/-! slices.IndexFunc[[]horarium/api.Part,horarium/api.Part] -/
@[go_sem] def aNl:=k 0x13338
@[go_sem] def aNm:=k 0xf2d3775c0ec
@[go_sem] def aNn:=k 0x91c99b4
@[go_sem] def aNo:=k 0x18efbf5c3c6c
@[go_sem] def aNp:=k 0x549fddb5a7e01606fb28c0c8de7f4c
@[go_sem] def aNq:=k 0x2a077b7f988c
@[go_sem] def aNr:=k 0x5993c24b9ef88
def nT:TC:=(.seq (.reg aNn) (.seq (.cond (.t 9) .skip (.exit 0)) (.seq (.block 1 (.seq (.reg aNo) (.seq (.reg aNp) (.cond (.t 16) (.seq (.reg aNq) .ret) .skip)))) (.reg aNr))))
@[go_sem] def aNs:=k 0x133bc
def Ox:TF:=⟨19,[.t 4],(.seq (.reg aNl) (.seq (.seq (.reg aNm) (.block 0 (.loop nT))) (.seq (.reg aNs) .ret)))⟩
/-! horarium/config.procs -/
@[go_sem] def aNt:=k 0xa58c
@[go_sem] def aNu:=k 0xf1998317a0c
@[go_sem] def aNv:=k 0x7f7f6d4
@[go_sem] def aNw:=k 0x6848a427650223cda19f4
@[go_sem] def aNx:=k 0x2b42812cbc4cc8817f5d40a0e8f997ca2940a50b361ed69350
@[go_sem] def aNy:=k 0xa58c
@[go_sem] def aNz:=k 0x6823f6b1f4428
def nU:TC:=(.seq (.reg aNv) (.seq (.cond (.t 8) .skip (.exit 0)) (.seq (.block 1 (.seq (.reg aNw) (.seq (.reg aNx) (.cond (.t 20) (.seq (.reg aNy) .ret) .skip)))) (.reg aNz))))
@[go_sem] def aNA:=k 0x48d45525c3ad4f85d91e57a90766a03ad0f1f3513ba2eec
def Oy:TF:=⟨30,[.t 2],(.seq (.reg aNt) (.seq (.seq (.reg aNu) (.block 0 (.loop nU))) (.seq (.reg aNA) .ret)))⟩
/-! horarium/config.within -/
@[go_sem] def aNB:=k 0x1334c
@[go_sem] def aNC:=k 0xc98336d17924c7002be6d04bbe57cb5a9fdbba7a0c
def Oz:TF:=⟨12,[.t 4],(.seq (.reg aNB) (.seq (.reg aNC) .ret))⟩
/-! horarium/runs.Of -/
@[go_sem] def aNE:=k 0x35cda4
@[go_sem] def aNF:=k 0x370f8b23a6fb158c
@[go_sem] def aNG:=k 0x1afb27bb934c
@[go_sem] def aNH:=k 0x2350244816ea10c
@[go_sem] def aNI:=k 0x17a44
@[go_sem] def aNJ:=k 0x52900ec7494b77ec
@[go_sem] def aNK:=k 0x5a7c5b44cd860d27000a5fc767bb6848c068f48c
@[go_sem] def aNL:=k 0x19c2706c80c
@[go_sem] def aNM:=k 0x572a5a1ff6135405d3cce341cc
def nV:TC:=(.block 1 (.seq (.reg aNK) (.seq (.seq (.reg aNL) (.cond (.t 22) (.exit 0) .skip)) (.reg aNM))))
@[go_sem] def aBA:=k 0x9903f16446265d4c
@[go_sem] def aBB:=k 0x5192d6c3b446b0c
@[go_sem] def aBC:=k 0x1d7242da4
@[go_sem] def aBD:=k 0x1fe385b17b8bad
def OA:TF:=⟨33,[.t 2,.t 3],(.seq (.reg aNE) (.seq (.seq (.reg aNF) (.seq (.reg aNG) (.cond (.t 12) (.seq (.reg aNH) .ret) .skip))) (.seq (.reg aNI) (.seq (.reg aNJ) (.seq (.block 0 (.loop nV)) (.seq (.seq (.reg aBA) (.seq (.reg aBB) (.cond (.t 31) (.seq (.reg aBC) .ret) .skip))) (.seq (.reg aBD) .ret)))))))⟩
/-! slices.ContainsFunc[[]horarium/api.Run,horarium/api.Run] -/
@[go_sem] def aNN:=k 0x1334c
@[go_sem] def aNO:=k 0x36336deaad3517ff102d897fa0c
def OB:TF:=⟨9,[.t 4],(.seq (.reg aNN) (.seq (.reg aNO) .ret))⟩
/-! horarium/config.table$1 -/
@[go_sem] def aNP:=k 0xc2f25a8
@[go_sem] def aNQ:=k 0x2531720c353a20488f654ef2b61b81342eb30
def OC:TF:=⟨10,[.t 3],(.seq (.reg aNP) (.seq (.reg aNQ) .ret))⟩
/-! horarium/bound.Holds -/
@[go_sem] def aNR:=k 0x550e21a5a8
@[go_sem] def aNS:=k 0x44ece6a86c7601470
@[go_sem] def aNT:=k 0xed3c814
@[go_sem] def aNU:=k 0x9cecb5cacaf26b915eb70
@[go_sem] def aNV:=k 0xb59ff808db971ffbade505d84464c61013a88c
@[go_sem] def aNW:=k 0x18fd79d92035d683dc98d6491915aa606abdee6dee51be3bd1224d1e4ef792c671bbc16c5d1
@[go_sem] def aNX:=k 0xa98738
@[go_sem] def aNY:=k 0xb19f086c31c749
def nW:TC:=(.seq (.reg aNT) (.seq (.cond (.t 14) .skip (.exit 0)) (.seq (.block 1 (.seq (.reg aNU) (.seq (.reg aNV) (.seq (.reg aNW) (.cond (.t 35) (.seq (.reg aNX) .ret) .skip))))) (.reg aNY))))
@[go_sem] def aNZ:=k 0x8f485dcae25dadc611
@[go_sem] def aBE:=k 0xb3ee79b5
@[go_sem] def aBF:=k 0x11e3635114d94e095de60557de5f5c786d
@[go_sem] def aBG:=kd 0x43f99a3fe587a8e8f9bfd392a10f05b64441e81a64aaf5cde6a3e5591b2600425707ed76b79a5
@[go_sem] def aBH:=k 0xb26338
@[go_sem] def aBI:=k 0x11f9ccb0fd1de89
def Uw:TC:=(.seq (.reg aBE) (.seq (.cond (.t 41) .skip (.exit 2)) (.seq (.block 3 (.seq (.reg aBF) (.seq (.dreg aBG) (.cond (.t 57) (.seq (.reg aBH) .ret) .skip)))) (.reg aBI))))
@[go_sem] def aBJ:=k 0x13338
def OD:TF:=⟨59,[.t 4],(.seq (.reg aNR) (.seq (.seq (.reg aNS) (.block 0 (.loop nW))) (.seq (.seq (.reg aNZ) (.block 2 (.loop Uw))) (.seq (.reg aBJ) .ret))))⟩
/-! horarium/horariumref3.Size -/
@[go_sem] def aN0:=k 0x13338
@[go_sem] def aN1:=k 0x551c6c7cf025ad5dd870e0f5297d41bce9d42e3cc
@[go_sem] def aN2:=k 0x13338
@[go_sem] def aN3:=k 0xa5618
@[go_sem] def aN4:=k 0x2546e8e39acc
@[go_sem] def aN5:=k 0xc748809431fe238c2dac
@[go_sem] def aN6:=k 0x5fee4e99ea548beb07d9bd570aeec
@[go_sem] def aN7:=k 0x13338
@[go_sem] def aN8:=k 0x13ce552d505282a42c
@[go_sem] def aN9:=k 0x3eccacc05a733dfa4bd375d016afb265ed
@[go_sem] def aBK:=k 0x17cc7e2093d4458f2c5d3480d1c4f5ba607e319aca72d
@[go_sem] def aBL:=k 0x56ce8c51a3a328bddaf715ebc60fb5ff4d
@[go_sem] def aBM:=k 0x4404f5b5bbdadc2408d
@[go_sem] def aBN:=k 0x3e8bab444ce4d
@[go_sem] def aBO:=k 0x1758a854dc884897bfe7b9ced3140d
@[go_sem] def aBP:=k 0xe650bde248491c92c
def Ux:TC:=(.seq (.seq (.reg aN5) (.cond (.t 19) .skip (.exit 0))) (.seq (.block 1 (.seq (.seq (.reg aN6) (.cond (.t 27) (.seq (.reg aN7) .ret) .skip)) (.seq (.reg aN8) (.seq (.seq (.reg aN9) (.cond (.t 35) (.reg aBK) .skip)) (.seq (.seq (.reg aBL) (.cond (.t 48) (.reg aBM) .skip)) (.seq (.reg aBN) (.cond (.t 52) (.seq (.reg aBO) .ret) .skip))))))) (.reg aBP)))
@[go_sem] def aBQ:=k 0x13338
def OE:TF:=⟨57,[.t 4],(.seq (.reg aN0) (.seq (.seq (.reg aN1) (.cond (.t 14) (.seq (.reg aN2) .ret) .skip)) (.seq (.reg aN3) (.seq (.seq (.reg aN4) (.block 0 (.loop Ux))) (.seq (.reg aBQ) .ret)))))⟩
/-! horarium/horariumref3.depth -/
@[go_sem] def aOa:=k 0x13338
@[go_sem] def aOb:=k 0x17a18
@[go_sem] def aOc:=k 0x97e82eb2d69ba0598ceac
@[go_sem] def aOd:=k 0xdaf2534
@[go_sem] def aOe:=k 0xa577090ada3b14838
@[go_sem] def aOf:=k 0x1299463652ffaa525cee9c24810351ac
@[go_sem] def aOg:=k 0x68e82fb28c428
def nX:TC:=(.seq (.reg aOd) (.seq (.cond (.t 13) .skip (.exit 0)) (.seq (.block 1 (.seq (.reg aOe) (.reg aOf))) (.reg aOg))))
@[go_sem] def aOh:=k 0xfb5dc700555897aec
def OF:TF:=⟨24,[.t 4],(.seq (.reg aOa) (.seq (.reg aOb) (.seq (.seq (.reg aOc) (.block 0 (.loop nX))) (.seq (.reg aOh) .ret))))⟩
/-! horarium/horariumref3.length -/
@[go_sem] def aOi:=k 0x13338
@[go_sem] def aOj:=k 0x17a18
@[go_sem] def aOk:=k 0x97e82eb2d69ba0598ceac
@[go_sem] def aOl:=k 0xdaf2534
@[go_sem] def aOm:=k 0xa577090ada3b14838
@[go_sem] def aOn:=k 0x2b3c65047ef04febb32352f31418010351ac
@[go_sem] def aOo:=k 0x6dd000b290b08
def nY:TC:=(.seq (.reg aOl) (.seq (.cond (.t 13) .skip (.exit 0)) (.seq (.block 1 (.seq (.reg aOm) (.reg aOn))) (.reg aOo))))
@[go_sem] def aOp:=k 0x569d2529b9bf9f9aacd51cf5cc
@[go_sem] def aOq:=k 0x929aa13d93324
@[go_sem] def aBR:=k 0x49ea4a0331ec
@[go_sem] def aBS:=k 0x9f60f77269d3c5
@[go_sem] def aBT:=k 0x1c7b691bdefac0cbf0f6817f74e0efb327fed0bd7af932b9abd28d
@[go_sem] def aBU:=k 0x18091cb62ce002e7c6356a97e4cad08be65b86d
def OG:TF:=⟨48,[.t 4],(.seq (.reg aOi) (.seq (.reg aOj) (.seq (.seq (.reg aOk) (.block 0 (.loop nY))) (.seq (.seq (.reg aOp) (.block 2 (.seq (.reg aOq) (.cond (.t 28) (.seq (.reg aBR) .ret) (.seq (.reg aBS) (.cond (.t 31) (.seq (.reg aBT) .ret) .skip)))))) (.seq (.reg aBU) .ret)))))⟩
/-! horarium/horariumref3.Kids -/
@[go_sem] def aOr:=k 0x13364
@[go_sem] def aOs:=k 0xf4a75dad45f2d6e98ceac
@[go_sem] def aOt:=k 0x1c124
@[go_sem] def aOu:=k 0x84deb8e14d7e2ff4c
@[go_sem] def aOv:=k 0x2cf8915a9981c8b797e858350c
@[go_sem] def aOw:=k 0x574500572514c9b333946a1dcc
@[go_sem] def aOx:=k 0x148038e806dc664652f213990115976c
def nZ:TC:=(.seq (.seq (.reg aOv) (.cond (.t 17) .skip (.exit 0))) (.seq (.block 1 (.reg aOw)) (.reg aOx)))
@[go_sem] def aOy:=k 0x428e908b394c
def OH:TF:=⟨28,[.t 4],(.seq (.reg aOr) (.seq (.reg aOs) (.seq (.reg aOt) (.seq (.seq (.reg aOu) (.block 0 (.loop nZ))) (.seq (.reg aOy) .ret)))))⟩
/-! horarium/node.Right -/
@[go_sem] def aOz:=k 0xa578
@[go_sem] def aOA:=k 0x12629db2bafb2d9cf1e5e7b54b3ebe3c40ec
@[go_sem] def aOB:=k 0xa04da4b7836bebcb234c
@[go_sem] def aOC:=k 0x1b3978
@[go_sem] def aOD:=k 0xd1ef9242e7ed39ecbecc
@[go_sem] def aOE:=k 0x6af578
@[go_sem] def aOF:=k 0x20722ffca2aeafffcf5a4c
@[go_sem] def aOG:=k 0x7cad78
@[go_sem] def aOH:=k 0x862be2ffbaebe5cc
@[go_sem] def aOI:=k 0xa01d78
@[go_sem] def aBV:=k 0xa578
def OI:TF:=⟨25,[.t 2],(.seq (.reg aOz) (.seq (.reg aOA) (.seq (.block 0 (.seq (.reg aOB) (.cond (.t 10) (.seq (.reg aOC) .ret) (.seq (.reg aOD) (.cond (.t 14) (.seq (.reg aOE) .ret) (.seq (.reg aOF) (.cond (.t 18) (.seq (.reg aOG) .ret) (.seq (.reg aOH) (.cond (.t 22) (.seq (.reg aOI) .ret) .skip))))))))) (.seq (.reg aBV) .ret))))⟩
/-! horarium/cursor.New -/
@[go_sem] def aOJ:=k 0xa658
@[go_sem] def aOK:=k 0x1b29f5453025b32c
@[go_sem] def aOL:=k 0xa658
@[go_sem] def aOM:=k 0x10d44f50febd8f96d0ade87cc
@[go_sem] def aON:=k 0xd9647eb74c
@[go_sem] def aOO:=k 0x20109ae4c50c
def OJ:TF:=⟨14,[.t 2],(.seq (.reg aOJ) (.seq (.seq (.reg aOK) (.cond (.t 6) (.seq (.reg aOL) .ret) .skip)) (.seq (.reg aOM) (.seq (.reg aON) (.seq (.reg aOO) .ret)))))⟩
/-! (*horarium/cursor.Cursor).Next -/
@[go_sem] def aOP:=k 0x6219f0
@[go_sem] def aOQ:=kd 0x1137a9be1b62ab4b8aebcba63f65e91fba9990ad7fe8c7335bc
@[go_sem] def aOR:=k 0x90f8ffe07660bc
@[go_sem] def aOS:=kd 0xd9f448312fd9009a7c13c2076e901f188f8cc83f6a42986588db502ef14be308f54fcf1da2d8dfc53e4f0322c0391086fb981145944d21d34ee0838be517b94387333b6cb8af0c4e409cb0c9a15ffd
@[go_sem] def aOT:=kd 0x13f4d166d73020e186345488cb61da0b34286c307bef69837b4062939cfd
@[go_sem] def aOU:=k 0x10461f0ec40d
@[go_sem] def aOV:=k 0x1226791f347e6323d
def Kg:TF:=⟨56,[.cell 2 2 true,.t 3],(.seq (.reg aOP) (.seq (.seq (.dreg aOQ) (.cond (.t 14) (.seq (.reg aOR) .ret) .skip)) (.seq (.dreg aOS) (.seq (.dreg aOT) (.seq (.reg aOU) (.seq (.reg aOV) .ret))))))⟩
/-! horarium/runs.Tidy -/
@[go_sem] def aOW:=k 0xa5a4
@[go_sem] def aOX:=k 0xec84
@[go_sem] def aOY:=k 0xf40d6ba07cc
@[go_sem] def aOZ:=k 0xa413c94
@[go_sem] def aO0:=k 0x81da1e847bdfd90235fb4
@[go_sem] def aO1:=k 0x4d2156beb4ee450c
@[go_sem] def aO2:=k 0x43fe7eccf79fa035c7d6d30
@[go_sem] def aO3:=kd 0xe008b530c7c0058ea724bd736533d2dad34443fe92ef96d5bf7aca18c05de0996f0f4a18ed6a0b5fd
@[go_sem] def aO4:=kd 0x7fd6f70bf9c352eb3906654b5078fd9f27933e8133d8920c4188280784ba2e8e606e2f14bb4bab186ec41dbd
@[go_sem] def aO5:=k 0x3c4ed61f6e2023bf8fae4752cc
@[go_sem] def aBW:=k 0xfae5ca4a7dee69
def Uy:TC:=(.seq (.reg aOZ) (.seq (.cond (.t 10) .skip (.exit 0)) (.seq (.block 1 (.seq (.reg aO0) (.seq (.reg aO1) (.block 2 (.seq (.reg aO2) (.cond (.t 19) .skip (.seq (.dreg aO3) (.cond (.t 23) (.dreg aO4) (.reg aO5))))))))) (.reg aBW))))
@[go_sem] def aBX:=k 0x1201ece210d2a1a52d
def OK:TF:=⟨54,[.t 2],(.seq (.reg aOW) (.seq (.reg aOX) (.seq (.seq (.reg aOY) (.block 0 (.loop Uy))) (.seq (.reg aBX) .ret))))⟩
/-! slices.IndexFunc[[]horarium/api.Run,horarium/api.Run] -/
@[go_sem] def aO6:=k 0x13338
@[go_sem] def aO7:=k 0xf2d3775c0ec
@[go_sem] def aO8:=k 0x91c99b4
@[go_sem] def aO9:=k 0x18efbf5c3c6c
@[go_sem] def aPa:=k 0x549fddb59150aa1544e16348de7f4c
@[go_sem] def aPb:=k 0x2a077b7f988c
@[go_sem] def aPc:=k 0x5993c24b9ef88
def oA:TC:=(.seq (.reg aO8) (.seq (.cond (.t 9) .skip (.exit 0)) (.seq (.block 1 (.seq (.reg aO9) (.seq (.reg aPa) (.cond (.t 16) (.seq (.reg aPb) .ret) .skip)))) (.reg aPc))))
@[go_sem] def aPd:=k 0x133bc
def OL:TF:=⟨19,[.t 4],(.seq (.reg aO6) (.seq (.seq (.reg aO7) (.block 0 (.loop oA))) (.seq (.reg aPd) .ret)))⟩
/-! horarium/bound.Late -/
@[go_sem] def oZ:=k 0x1c0f8
@[go_sem] def pA:=k 0x5a7c6ee850daeb6990bb2276eedf63cb831abecc
@[go_sem] def pB:=k 0x25195e3f1a79f3657832ec
@[go_sem] def pC:=k 0x1c0f8
@[go_sem] def pD:=k 0x2b4d9bf0aedc0fe2922a6c
@[go_sem] def pE:=k 0x1c17c
@[go_sem] def pF:=k 0xa48f387026879f0c
@[go_sem] def pG:=k 0x2dc78
@[go_sem] def pH:=k 0x7f3ce0e4b4cd
@[go_sem] def pI:=k 0x946e8195
@[go_sem] def ZD:=k 0x4ba3df605fbc9552c2480b5
@[go_sem] def ZE:=k 0x3662b107bf10384afc737afe812ddb9ee5e5ef611
@[go_sem] def ZF:=k 0xc5ee7535
@[go_sem] def ZG:=k 0x4022d032f8f7ea47439
@[go_sem] def ZH:=k 0x228bb19be94b5422219ec8665d9d4d4e6944832c90e028891ad
@[go_sem] def ZI:=k 0x1161ba6318950c9
def Ig:TC:=(.seq (.reg ZF) (.seq (.cond (.t 45) .skip (.exit 3)) (.seq (.block 4 (.seq (.reg ZG) (.reg ZH))) (.reg ZI))))
@[go_sem] def ZJ:=k 0x11a2b9f14cf97a9
def QK:TC:=(.seq (.reg pI) (.seq (.cond (.t 34) .skip (.exit 1)) (.seq (.block 2 (.seq (.reg ZD) (.seq (.reg ZE) (.block 3 (.loop Ig))))) (.reg ZJ))))
@[go_sem] def ZK:=k 0x474068e1b566d
def JD:TF:=⟨59,[.t 6],(.seq (.reg oZ) (.seq (.reg pA) (.seq (.block 0 (.seq (.reg pB) (.cond (.t 21) (.seq (.reg pC) .ret) (.seq (.reg pD) (.cond (.t 25) (.seq (.reg pE) .ret) .skip))))) (.seq (.reg pF) (.seq (.reg pG) (.seq (.seq (.reg pH) (.block 1 (.loop QK))) (.seq (.reg ZK) .ret)))))))⟩
/-! horarium/bound.Budget -/
@[go_sem] def pJ:=k 0x1c0f8
@[go_sem] def pK:=k 0x52bb8486198777ec
@[go_sem] def pL:=k 0x136734250823f1ea2d669797ce8795ddbbba42e7af6fa188b3c5fb04e9123dac
@[go_sem] def pM:=k 0x1c17c
@[go_sem] def pN:=k 0x2d831e85edaf63ef1e582c
@[go_sem] def pO:=k 0x4cc04ebce4cc
@[go_sem] def pP:=k 0x2dc78
@[go_sem] def pQ:=k 0xb0a4255d4cd7423ad
@[go_sem] def pR:=k 0x32358
@[go_sem] def pS:=k 0x81624c685ced
@[go_sem] def ZL:=k 0xb3ee79b5
@[go_sem] def ZM:=k 0x52506f3fe3241e827a478d5
@[go_sem] def ZN:=k 0x420c3ec598887ab1c759d30ddea66ee8bb1f92e1f97f26fff8cfe49197d6a1524948f4ce0588b0572e2d
@[go_sem] def ZO:=k 0x11f9ccb0fd1de89
def QL:TC:=(.seq (.reg ZL) (.seq (.cond (.t 41) .skip (.exit 2)) (.seq (.block 3 (.seq (.reg ZM) (.reg ZN))) (.reg ZO))))
@[go_sem] def ZP:=k 0x16fdb76457904a6d81a9e54d
@[go_sem] def ZR:=k 0xdf90d520209a8a0b424f84d
def QM:TC:=(.seq (.seq (.reg pQ) (.cond (.t 34) .skip (.exit 0))) (.seq (.block 1 (.seq (.reg pR) (.seq (.seq (.reg pS) (.block 2 (.loop QL))) (.reg ZP)))) (.reg ZR)))
@[go_sem] def ZT:=k 0x4c2839e0ab9ed
def JE:TF:=⟨63,[.t 6],(.seq (.reg pJ) (.seq (.reg pK) (.seq (.seq (.reg pL) (.cond (.t 27) (.seq (.reg pM) .ret) .skip)) (.seq (.reg pN) (.seq (.reg pO) (.seq (.seq (.reg pP) (.block 0 (.loop QM))) (.seq (.reg ZT) .ret)))))))⟩
/-! horarium/horariumref3.fine -/
@[go_sem] def pT:=k 0xc2edec8
@[go_sem] def pU:=k 0x75c6ab9c850
@[go_sem] def pV:=k 0x1e403a6c89d04
@[go_sem] def pW:=k 0x27ca2bfe1181e6e2379b1021646c6d9af48b6c59f730c23fcdc05aba12a1f1d73153edd663d0
@[go_sem] def pX:=k 0x6a2223655a024
@[go_sem] def pY:=k 0x6f09f46679f04
@[go_sem] def pZ:=k 0x12d5682ce0a104530383b7cfd59350d43444e1cf5025dad1d0
@[go_sem] def qA:=k 0x9f60f70c761bc5
@[go_sem] def qB:=k 0x2efa2e0e4acfb0890bba0a1a86adca065051f66f8f814134f0fca4bd37d6f6e244fce89e65208f291
@[go_sem] def qC:=k 0xa58c
def JF:TF:=⟨46,[.t 2],(.seq (.reg pT) (.seq (.seq (.reg pU) (.block 0 (.seq (.reg pV) (.cond (.t 5) (.seq (.reg pW) .ret) (.seq (.seq (.reg pX) (.cond (.t 20) .skip (.reg pY))) (.cond (.t 20) (.seq (.reg pZ) .ret) (.seq (.reg qA) (.cond (.t 31) (.seq (.reg qB) .ret) .skip)))))))) (.seq (.reg qC) .ret)))⟩
/-! horarium/node.Length -/
@[go_sem] def qD:=k 0xc2f2578
@[go_sem] def qE:=k 0x13069c1a48640ec
@[go_sem] def qF:=k 0xc2f2578
@[go_sem] def qG:=k 0x1a8e4b0e1d94f81e0b45cfb78458d7c8dc6c
@[go_sem] def qH:=k 0x1130d64c3ec
@[go_sem] def qI:=k 0xae285847751ac
@[go_sem] def qJ:=k 0xc2f2578
def JG:TF:=⟨17,[.t 2,.t 3],(.seq (.reg qD) (.seq (.seq (.reg qE) (.cond (.t 8) (.seq (.reg qF) .ret) .skip)) (.seq (.seq (.reg qG) (.seq (.reg qH) (.cond (.t 15) (.seq (.reg qI) .ret) .skip))) (.seq (.reg qJ) .ret))))⟩
/-! horarium/node.whole -/
@[go_sem] def qK:=k 0xa58c
@[go_sem] def qL:=k 0x128b85ca274e804b624457fb6530b44ef450f0f63cf6e7642ca28ec4c
def JH:TF:=⟨13,[.t 2],(.seq (.reg qK) (.seq (.reg qL) .ret))⟩
/-! horarium/node.Depth -/
@[go_sem] def qM:=k 0xa578
@[go_sem] def qN:=k 0x104f3ee6941fa0c
@[go_sem] def qO:=k 0xa578
@[go_sem] def qP:=k 0x18835fb1bc5b2028c35089b6f6121c84958c
@[go_sem] def qQ:=k 0x20109ae4c50c
def JI:TF:=⟨14,[.t 2],(.seq (.reg qM) (.seq (.seq (.reg qN) (.cond (.t 7) (.seq (.reg qO) .ret) .skip)) (.seq (.reg qP) (.seq (.reg qQ) .ret))))⟩
/-! (*horarium/cursor.Cursor).Reset -/
@[go_sem] def qR:=k 0x110c062f82727cb25c1b7a439c88598bd01d2e461f298b16620c3cd3256c
@[go_sem] def qS:=k 0x1afc909d234c
def JJ:TF:=⟨13,[],(.seq (.reg qR) (.reg qS))⟩
/-! horarium/cursor.part -/
@[go_sem] def qT:=k 0x6a55ec8
@[go_sem] def qU:=k 0x2c23c3368fab9c850
@[go_sem] def qV:=k 0xa5fc
@[go_sem] def qW:=k 0x4cd8ef1ccd5561cf0
def JK:TF:=⟨8,[.t 2],(.seq (.reg qT) (.seq (.seq (.reg qU) (.cond (.t 5) (.seq (.reg qV) .ret) .skip)) (.seq (.reg qW) .ret)))⟩
/-! (*horarium/cursor.Cursor).step -/
@[go_sem] def qX:=k 0x771fcfe38aa31965333c1f332d1b32c
@[go_sem] def qY:=k 0x1093792de4b276db27158c
@[go_sem] def qZ:=k 0x760c969f68b5b694901c998cf3ea2c
@[go_sem] def rA:=kd 0x46975420aa4cdc13c07217ff2612d19792cf53cb3e5ae09fec241b310bad7c
@[go_sem] def rB:=k 0x14172f8e580f576bbd4098e2b87c68c6d303b9a0f470d
@[go_sem] def rC:=k 0x40f52f61621bd3e5644b2581372d
@[go_sem] def rD:=kd 0x10083a10001725ee3979cc56d28957f9f1c16c82e185448dd10974326aa2479a8bd
@[go_sem] def rE:=k 0x693429424c0fabb205646788145395ec0d
@[go_sem] def rF:=k 0x140197e6a89b7a266d
@[go_sem] def rG:=kd 0x5de626b6491c0456ac430d4c3b5957cfd01b632c7d723caa4166fb05db2154a9f53d16456886414e95622afbe
def QN:TC:=(.seq (.seq (.reg qZ) (.cond (.t 17) .skip (.exit 0))) (.block 1 (.seq (.dreg rA) (.seq (.seq (.reg rB) (.seq (.reg rC) (.cond (.t 40) (.seq (.seq (.dreg rD) (.cond (.t 52) (.reg rE) .skip)) (.seq (.reg rF) .ret)) .skip))) (.dreg rG)))))
@[go_sem] def ZU:=k 0x33bf96bad84ccaa3856f54aa0e9e8f9738e5643056b153cdb4e
def JL:TF:=⟨83,[],(.seq (.reg qX) (.seq (.reg qY) (.seq (.block 0 (.loop QN)) (.reg ZU))))⟩
/-! horarium/runs.Add -/
@[go_sem] def rH:=k 0x13338
@[go_sem] def rI:=k 0x760ef0120c7e9ef56b9252d4a947a0c
@[go_sem] def rJ:=k 0x706e0a78595dde19158c
@[go_sem] def rK:=k 0x13580
@[go_sem] def rL:=k 0x16c391a11bfcf5301a310c
def JM:TF:=⟨16,[.t 4],(.seq (.reg rH) (.seq (.reg rI) (.seq (.seq (.reg rJ) (.cond (.t 12) (.seq (.reg rK) .ret) .skip)) (.seq (.reg rL) .ret))))⟩
/-! slices.Clip[[]horarium/api.Run,horarium/api.Run] -/
@[go_sem] def rM:=k 0xa5a4
@[go_sem] def rN:=k 0x107d773a855e084cf97f0d75be7837536c4c
def JN:TF:=⟨9,[.t 2],(.seq (.reg rM) (.seq (.reg rN) .ret))⟩
/-! horarium/bound.spans -/
@[go_sem] def rO:=k 0x13364
@[go_sem] def rP:=k 0x17a44
@[go_sem] def rQ:=k 0x1c0f8
@[go_sem] def rR:=k 0xf7bb486dc6c
@[go_sem] def rS:=k 0xdaf2534
@[go_sem] def rT:=k 0xcc4d02d770eb3cd114854
@[go_sem] def rU:=k 0x808704b99c4cd2fbcadb747adac
@[go_sem] def rV:=k 0x3e3c3a9dd54e1bc4b8c301d470d24540704cc498b7c8130
@[go_sem] def rX:=k 0x1167adc407f698067b6ecd0dc9bdef8a80ab70d
@[go_sem] def rY:=k 0x2b0b77203404d
@[go_sem] def ZV:=k 0xb18b6923c3c749
def QO:TC:=(.seq (.reg rS) (.seq (.cond (.t 13) .skip (.exit 0)) (.seq (.block 1 (.seq (.reg rT) (.seq (.reg rU) (.seq (.seq (.reg rV) (.cond (.t 28) (.reg rX) .skip)) (.reg rY))))) (.reg ZV))))
@[go_sem] def ZW:=k 0x2d758ff9cee0d
def JO:TF:=⟨38,[.t 4],(.seq (.reg rO) (.seq (.reg rP) (.seq (.reg rQ) (.seq (.seq (.reg rR) (.block 0 (.loop QO))) (.seq (.reg ZW) .ret)))))⟩
/-! horarium/runs.Length -/
@[go_sem] def rZ:=k 0xa578
@[go_sem] def sC:=k 0xec58
@[go_sem] def sD:=k 0xf2d3775c0ec
@[go_sem] def sE:=k 0x91c99b4
@[go_sem] def sF:=k 0x81199aedb6b09a67ebcd4
@[go_sem] def sG:=k 0x64a102913f5aafb5aa4d95ffe2c
@[go_sem] def sH:=k 0x4fc4204b961c8
def TZ:TC:=(.seq (.reg sE) (.seq (.cond (.t 9) .skip (.exit 0)) (.seq (.block 1 (.seq (.reg sF) (.reg sG))) (.reg sH))))
@[go_sem] def sI:=k 0x29e03ce5e08c
def JP:TF:=⟨18,[.t 2],(.seq (.reg rZ) (.seq (.reg sC) (.seq (.seq (.reg sD) (.block 0 (.loop TZ))) (.seq (.reg sI) .ret))))⟩
/-! horarium/bound.next -/
@[go_sem] def sJ:=k 0x1c0f8
@[go_sem] def sK:=k 0xf681542958c
@[go_sem] def sL:=k 0xc8a8254
@[go_sem] def sM:=k 0xcb8c7f40abbbfe36ca574
@[go_sem] def sN:=k 0x6e5865320aa901232de89e41acc
@[go_sem] def sO:=k 0x2ca2129ef5309edab7a0190b214657d2c
@[go_sem] def sP:=k 0x7c603518e5fa8
def T0:TC:=(.seq (.reg sL) (.seq (.cond (.t 12) .skip (.exit 0)) (.seq (.block 1 (.seq (.reg sM) (.seq (.reg sN) (.cond (.t 19) (.seq (.reg sO) .ret) .skip)))) (.reg sP))))
@[go_sem] def sQ:=k 0x7f73c947c072e718f4ad893dfb298d2eb826c
def JQ:TF:=⟨32,[.t 6],(.seq (.reg sJ) (.seq (.seq (.reg sK) (.block 0 (.loop T0))) (.seq (.reg sQ) .ret)))⟩
/-! horarium/node.measure -/
@[go_sem] def sR:=k 0x6a5a578
@[go_sem] def sS:=k 0x3c7e432acced3e20
@[go_sem] def sT:=k 0xfa2f30f6a2c
@[go_sem] def sU:=k 0xff86af4
@[go_sem] def sV:=k 0x9dae3e29a14c1784a8df4
@[go_sem] def sW:=kd 0x15f842b924989c7234479676e8ce67b31815b49c0ca0d7c
@[go_sem] def sX:=k 0x28f400b443f94f742a738c
@[go_sem] def sY:=k 0x3b06282be2585be3a57f61194a8908b82d
@[go_sem] def sZ:=k 0x16f65b3e590c80316387e92bdad9d2766a8ffc90a616d
@[go_sem] def tA:=k 0x2a359fb7679d8476225fa74a33fa5111a2ccdd44978a1f6025f531f858c4770e2752518d
@[go_sem] def ZX:=kd 0x1add39fb7fb75f56a08a57a2cfaf1276623e769f802f194f11983fd3233d3f71cec4407eb73edfe93a07e
@[go_sem] def ZY:=k 0xfeaa7654980a061275b0086b5cc706c7d68e
@[go_sem] def ZZ:=k 0x362b0753bffae87d488312ef8f2
@[go_sem] def Z0:=k 0xb65f7f2478eea6aea426ccaa3a321bd8e0832ae4290b1301472
@[go_sem] def Z2:=k 0x3194109544b0433d2a02b723cb8f04c9b65f49bd459d748e
@[go_sem] def Z3:=kd 0x2dc85c25f76817f96f0a50e9f42401409b28926fd571cf76aa497c907c0d46e1465129aa5fe
@[go_sem] def Z4:=kd 0xb63e17e6c2af8c78daf0701107a0f0bfff16a86c2390a3deb023029d96571719d03e
def La:TC:=(.seq (.seq (.reg tA) (.cond (.t 53) .skip (.exit 2))) (.block 3 (.seq (.dreg ZX) (.seq (.reg ZY) (.seq (.seq (.reg ZZ) (.cond (.t 73) (.reg Z0) .skip)) (.seq (.reg Z2) (.seq (.dreg Z3) (.dreg Z4))))))))
@[go_sem] def Z5:=k 0x217409ecac51b52a
def QP:TC:=(.seq (.reg sU) (.seq (.cond (.t 15) .skip (.exit 0)) (.seq (.block 1 (.seq (.reg sV) (.seq (.dreg sW) (.seq (.seq (.reg sX) (.seq (.reg sY) (.cond (.t 33) (.reg sZ) .skip))) (.block 2 (.loop La)))))) (.reg Z5))))
@[go_sem] def Z6:=kd 0xefa15fe404bd2966e3de18e8e9d8ec75beee0273f40d755507e57b0381a7e
def JR:TF:=⟨118,[.t 2,.t 3],(.seq (.reg sR) (.seq (.reg sS) (.seq (.seq (.reg sT) (.block 0 (.loop QP))) (.seq (.dreg Z6) .ret))))⟩
/-! horarium/node.Size -/
@[go_sem] def tB:=k 0x13338
@[go_sem] def tC:=k 0x5e7129ce3d023a02faa4127ec6b119bb605c32aac
@[go_sem] def tD:=k 0x13338
@[go_sem] def tE:=k 0xa5618
@[go_sem] def tF:=k 0x27bad163e1ac
@[go_sem] def tG:=k 0xd3b0fbf75ac1bf8c748c
@[go_sem] def tH:=k 0xc8e59ea8711e7ca942dbcef170f5cc
@[go_sem] def tI:=k 0x44ad7ffddc2c
@[go_sem] def tJ:=k 0x13338
@[go_sem] def tK:=k 0xdc696da3ce7f6dd3646bc651afded
@[go_sem] def Z7:=k 0x29b273040196d
@[go_sem] def Z8:=k 0x104481a5da6534c665c75f39d05f2d
@[go_sem] def Z9:=k 0xf12e2df086d12100c
def QQ:TC:=(.seq (.seq (.reg tG) (.cond (.t 20) .skip (.exit 0))) (.seq (.block 1 (.seq (.reg tH) (.seq (.seq (.reg tI) (.cond (.t 29) (.seq (.reg tJ) .ret) .skip)) (.seq (.reg tK) (.seq (.reg Z7) (.cond (.t 35) (.seq (.reg Z8) .ret) .skip)))))) (.reg Z9)))
@[go_sem] def aA:=k 0x13338
def JS:TF:=⟨40,[.t 4],(.seq (.reg tB) (.seq (.seq (.reg tC) (.cond (.t 15) (.seq (.reg tD) .ret) .skip)) (.seq (.reg tE) (.seq (.seq (.reg tF) (.block 0 (.loop QQ))) (.seq (.reg aA) .ret)))))⟩
/-! (*horarium/cursor.Cursor).down -/
@[go_sem] def tL:=k 0x6956ca5b4e4b10d723a9a355b35bd6c1498450bf88f894522c05528d88038126078478f8f2039f1d68a8e7afe20c32d1b32c
@[go_sem] def tM:=kd 0x185eca1664ba42070fc8d2211d8c2a36249bea5d9174cf958e2525144530fca2dd391e1cb7ea749830e11c2148edde2e4361bba4a1413695fd
@[go_sem] def tN:=k 0x3bc926e15221579b74d
def T3:TC:=(.seq (.seq (.reg tL) (.cond (.t 23) .skip (.exit 0))) (.block 1 (.seq (.dreg tM) (.reg tN))))
@[go_sem] def tO:=k 0x512993b878729a8d9fbcc6668d0d
def JT:TF:=⟨49,[],(.seq (.block 0 (.loop T3)) (.reg tO))⟩
/-! horarium/node.kids -/
@[go_sem] def tP:=k 0x6a55ec8
@[go_sem] def tQ:=k 0x433156291bbaeaf8de55c65b619117ae6ef24524f12692fd14c20c2fae4ef97226bc4d5710f30
@[go_sem] def tR:=k 0xa5fc
@[go_sem] def tS:=k 0x3fb7385c8643fe9dc215c9a37a391701eb5da5899070f5327c4935118f8c9c5b32d01a3def70
@[go_sem] def tT:=k 0x320a35560f3c9c517c59a64d1
@[go_sem] def tU:=k 0xa578
@[go_sem] def tV:=k 0x6a8e6cf0d50f5a7b64b3e9362977d49e90d55f58caccd59b8051
@[go_sem] def tW:=k 0x3bce9599410fe79b751
@[go_sem] def tX:=k 0x494214397ca2efbdcc19e8bf1
@[go_sem] def tY:=k 0x98178
@[go_sem] def aB:=k 0xa5fc
def JU:TF:=⟨49,[.t 2],(.seq (.reg tP) (.seq (.block 0 (.seq (.reg tQ) (.cond (.t 3) (.seq (.reg tR) .ret) (.seq (.seq (.reg tS) (.cond (.t 17) .skip (.reg tT))) (.cond (.t 17) (.seq (.reg tU) .ret) (.seq (.reg tV) (.cond (.t 34) (.seq (.reg tW) .ret) (.seq (.reg tX) (.cond (.t 45) (.seq (.reg tY) .ret) .skip))))))))) (.seq (.reg aB) .ret)))⟩
/-! horarium/node.times -/
@[go_sem] def tZ:=k 0x13338
@[go_sem] def uA:=k 0x4366b8db9c3bcb5390cd05ca6d7a0c
def JV:TF:=⟨10,[.t 4],(.seq (.reg tZ) (.seq (.reg uA) .ret))⟩
/-! horarium/node.add -/
@[go_sem] def uB:=k 0x13338
@[go_sem] def uC:=k 0x4366b8db9c2fc178b131947297fa0c
def JW:TF:=⟨10,[.t 4],(.seq (.reg uB) (.seq (.reg uC) .ret))⟩
/-! (horarium/part.none).Change -/
@[go_sem] def uD:=k 0x5533c8a5a8
@[go_sem] def uE:=k 0x135c0
def JX:TF:=⟨5,[.t 4],(.seq (.reg uD) (.seq (.reg uE) .ret))⟩
/-! (horarium/part.none).Recv -/
@[go_sem] def uF:=k 0x627187c8a5a8
@[go_sem] def uG:=k 0xcfb77c0
def JY:TF:=⟨6,[.t 4,.t 5],(.seq (.reg uF) (.seq (.reg uG) .ret))⟩
/-! (horarium/part.none).Send -/
@[go_sem] def uH:=k 0x7c7250ec88
@[go_sem] def uI:=k 0x1c6c0
def JZ:TF:=⟨7,[.t 6],(.seq (.reg uH) (.seq (.reg uI) .ret))⟩
/-! (horarium/part.none).StopAll -/
@[go_sem] def uJ:=k 0x2c4c5ec8
@[go_sem] def uK:=k 0xa800
def J0:TF:=⟨3,[.t 2],(.seq (.reg uJ) (.seq (.reg uK) .ret))⟩
/-! (*horarium/proc.ready).Less -/
@[go_sem] def uL:=k 0x1c10c
@[go_sem] def uM:=kd 0x531cf0c2e5736da64a82573e69e3616b3235039ee8c415f449cb3c79b4fe63bfc99f87e97b5d0bc
@[go_sem] def uN:=kd 0x302c8c2fa244f05407a7e599c255b67ae4855e980e40027cb9785d4c87ab5d672831fbaf8a49e5a3dd8a62a498c2c2dab7b32c721140fa4da897d75454afddef3d
def J1:TF:=⟨46,[.t 6],(.seq (.reg uL) (.seq (.dreg uM) (.seq (.dreg uN) .ret)))⟩
/-! (*horarium/proc.ready).Pop -/
@[go_sem] def uO:=k 0xa7b0
@[go_sem] def uP:=k 0x14a3a38ae8296c40d78752aa785f6e15fa0c
@[go_sem] def uQ:=k 0x4d85dd58730ec5de5120fe990c5d4e52d1afa34c
@[go_sem] def uR:=k 0x4a444b2e061e99afa3122697caeb4013084a8c3081f2d7936c
@[go_sem] def uS:=k 0x988190248aaa014c
def J2:TF:=⟨29,[.t 2],(.seq (.reg uO) (.seq (.reg uP) (.seq (.reg uQ) (.seq (.reg uR) (.seq (.reg uS) .ret)))))⟩
/-! (*horarium/proc.ready).Push -/
@[go_sem] def uT:=kd 0x3a33efba67c9987034894880300512c46092b9c62729b3d6fa15d870a43bc968efc
def J3:TF:=⟨15,[],(.dreg uT)⟩
/-! (*horarium/proc.ready).Swap -/
@[go_sem] def uU:=kd 0xa5202fcecf5e5ceaf3d985bf2b5294b178012913b292f43d75d9334c24af0b5b2a22f8862f25a4beb1084db6cc38d56451378f2f0316a81c76ae3a1090eb113f12973ce0f43dc7c
def J4:TF:=⟨32,[],(.dreg uU)⟩
/-! cmp.Or[int] -/
@[go_sem] def uV:=k 0xa578
@[go_sem] def uW:=k 0xec58
@[go_sem] def uX:=k 0xf2d3775c0ec
@[go_sem] def uY:=k 0x91c99b4
@[go_sem] def uZ:=k 0x795371d36fd1ebcb8
@[go_sem] def vA:=k 0x436608bfabce362c
@[go_sem] def vB:=k 0x24f86bf70acc
@[go_sem] def vC:=k 0x4fc4204b961c8
def Lb:TC:=(.seq (.reg uY) (.seq (.cond (.t 9) .skip (.exit 0)) (.seq (.block 1 (.seq (.reg uZ) (.seq (.reg vA) (.cond (.t 14) (.seq (.reg vB) .ret) .skip)))) (.reg vC))))
@[go_sem] def vD:=k 0x29e03ce5e08c
def J5:TF:=⟨18,[.t 2],(.seq (.reg uV) (.seq (.reg uW) (.seq (.seq (.reg uX) (.block 0 (.loop Lb))) (.seq (.reg vD) .ret))))⟩
/-! cmp.Compare[int] -/
@[go_sem] def vE:=k 0x13338
@[go_sem] def vF:=k 0x2c5d90d510a107cc
@[go_sem] def vG:=k 0x376676a2eb32718c
@[go_sem] def vH:=k 0x2f6f4c
@[go_sem] def vI:=k 0x38922c
@[go_sem] def vJ:=k 0x13338
@[go_sem] def vK:=k 0x133bc
@[go_sem] def vL:=k 0x38d90c
@[go_sem] def vM:=k 0xa0f38
@[go_sem] def vN:=k 0x4e9a1581951a77ec
@[go_sem] def aC:=k 0x133bc
@[go_sem] def aD:=k 0x5f690812f69b4c8c
@[go_sem] def aE:=k 0xa0f38
@[go_sem] def aF:=k 0x13338
def J6:TF:=⟨20,[.t 4],(.seq (.reg vE) (.seq (.reg vF) (.seq (.reg vG) (.seq (.seq (.reg vH) (.cond (.t 11) (.seq (.seq (.reg vI) (.cond (.t 12) (.seq (.reg vJ) .ret) .skip)) (.seq (.reg vK) .ret)) .skip)) (.seq (.seq (.reg vL) (.cond (.t 13) (.seq (.reg vM) .ret) .skip)) (.seq (.seq (.reg vN) (.cond (.t 16) (.seq (.reg aC) .ret) .skip)) (.seq (.seq (.reg aD) (.cond (.t 19) (.seq (.reg aE) .ret) .skip)) (.seq (.reg aF) .ret))))))))⟩
/-! cmp.isNaN[int] -/
@[go_sem] def vO:=k 0xa58c
@[go_sem] def vP:=k 0x7a1392ed91f08d1d36c4c
def J7:TF:=⟨6,[.t 2],(.seq (.reg vO) (.seq (.reg vP) .ret))⟩
def aE9:Nat→Option TF
 | 8=>some Yz
 | 10=>some YA
 | 12=>some YB
 | 13=>some L2
 | 14=>some Qx
 | 15=>some Qy
 | 16=>some Qz
 | 17=>some YC
 | 18=>some YD
 | 21=>some YE
 | 22=>some Ns
 | 23=>some Nt
 | 24=>some Nu
 | 25=>some Nv
 | 27=>some Nw
 | 28=>some J8
 | 29=>some Nx
 | 30=>some Ny
 | 31=>some Nz
 | 32=>some NA
 | 33=>some NB
 | 34=>some NC
 | 35=>some ND
 | 36=>some NE
 | 37=>some Ci
 | 38=>some NF
 | 39=>some NG
 | 40=>some NH
 | 41=>some NI
 | 42=>some NJ
 | 43=>some NK
 | 51=>some J9
 | 52=>some NL
 | 53=>some NM
 | 54=>some NN
 | 55=>some NO
 | 56=>some NP
 | 57=>some NQ
 | 58=>some Ka
 | 59=>some Kb
 | 60=>some NR
 | 61=>some NS
 | 62=>some Kc
 | 63=>some Kd
 | 64=>some NT
 | 65=>some NU
 | 66=>some NV
 | 67=>some NW
 | 68=>some NX
 | 69=>some Ke
 | 70=>some Cj
 | 71=>some GZ
 | 72=>some NY
 | 73=>some NZ
 | 74=>some N0
 | 75=>some Fy
 | 76=>some N1
 | 77=>some N2
 | 78=>some N7
 | 86=>some N8
 | 87=>some N9
 | 88=>some Oa
 | 89=>some Ob
 | 90=>some Oc
 | 91=>some Od
 | 92=>some Oe
 | 93=>some Og
 | 94=>some Oh
 | 95=>some Oi
 | 96=>some Oj
 | 97=>some Ol
 | 98=>some Kf
 | 99=>some G2
 | 100=>some Om
 | 101=>some FA
 | 102=>some Dx
 | 103=>some G3
 | 107=>some Oo
 | 108=>some Oq
 | 109=>some G4
 | 110=>some Ot
 | 111=>some Ou
 | 112=>some Ov
 | 113=>some Ow
 | 114=>some Ox
 | 115=>some Oy
 | 116=>some Oz
 | 117=>some OA
 | 118=>some OB
 | 119=>some OC
 | 120=>some OD
 | 123=>some OE
 | 124=>some OF
 | 125=>some OG
 | 126=>some OH
 | 127=>some OI
 | 128=>some OJ
 | 129=>some Kg
 | 130=>some OK
 | 131=>some OL
 | 132=>some JD
 | 133=>some JE
 | 134=>some JF
 | 135=>some JG
 | 136=>some JH
 | 137=>some JI
 | 138=>some JJ
 | 139=>some JK
 | 140=>some JL
 | 141=>some JM
 | 142=>some JN
 | 143=>some JO
 | 144=>some JP
 | 145=>some JQ
 | 146=>some JR
 | 147=>some JS
 | 148=>some JT
 | 149=>some JU
 | 150=>some JV
 | 151=>some JW
 | 169=>some JX
 | 170=>some JY
 | 171=>some JZ
 | 172=>some J0
 | 177=>some J1
 | 178=>some J2
 | 179=>some J3
 | 180=>some J4
 | 181=>some J5
 | 182=>some J6
 | 183=>some J7
 | _=>none
def QB:Nat→String→Option TX
 | 149,"Push"=>some ⟨I9,none⟩
 | 149,"Len"=>some ⟨MC,none⟩
 | 149,"Less"=>some ⟨LB,none⟩
 | 149,"Swap"=>some ⟨Ja,none⟩
 | 149,"Pop"=>some ⟨I8,none⟩
 | 91,"Change"=>some ⟨PY,none⟩
 | 91,"StopAll"=>some ⟨P3,none⟩
 | 91,"Send"=>some ⟨P2,none⟩
 | 91,"Recv"=>some ⟨PZ,none⟩
 | _,_=>none
def tp:TP:=⟨aE9,QB⟩
theorem aPK:tp.fn aPQ=some Yz:=rfl
theorem aPL:tp.fn fS=some YA:=rfl
theorem aPM:tp.fn aEf=some YB:=rfl
theorem VP:tp.fn SI=some L2:=rfl
theorem oH:tp.fn SJ=some Qx:=rfl
theorem oI:tp.fn fT=some Qy:=rfl
theorem oJ:tp.fn WG=some Qz:=rfl
theorem aPN:tp.fn aEg=some YC:=rfl
theorem aPO:tp.fn aEh=some YD:=rfl
theorem aPP:tp.fn aEi=some YE:=rfl
theorem aC0:tp.fn Q1=some Ns:=rfl
theorem aC1:tp.fn MA=some Nt:=rfl
theorem aC2:tp.fn Q2=some Nu:=rfl
theorem aC3:tp.fn Q3=some Nv:=rfl
theorem aC4:tp.fn V8=some Nw:=rfl
theorem aC5:tp.fn V9=some J8:=rfl
theorem aC6:tp.fn Wa=some Nx:=rfl
theorem aC7:tp.fn Wc=some Ny:=rfl
theorem aC8:tp.fn Wd=some Nz:=rfl
theorem aC9:tp.fn We=some NA:=rfl
theorem aDa:tp.fn Q4=some NB:=rfl
theorem aDb:tp.fn Wh=some NC:=rfl
theorem aDc:tp.fn Wi=some ND:=rfl
theorem aDd:tp.fn Wj=some NE:=rfl
theorem ET:tp.fn Q5=some Ci:=rfl
theorem aDe:tp.fn Q6=some NF:=rfl
theorem aDf:tp.fn Wk=some NG:=rfl
theorem aDg:tp.fn Wl=some NH:=rfl
theorem aDh:tp.fn Wm=some NI:=rfl
theorem aDi:tp.fn Wn=some NJ:=rfl
theorem aDj:tp.fn Q7=some NK:=rfl
theorem VQ:tp.fn MB=some J9:=rfl
theorem aDk:tp.fn Wp=some NL:=rfl
theorem aDl:tp.fn Wq=some NM:=rfl
theorem aDm:tp.fn Ws=some NN:=rfl
theorem aDn:tp.fn Wt=some NO:=rfl
theorem aDo:tp.fn Wu=some NP:=rfl
theorem aDp:tp.fn Ww=some NQ:=rfl
theorem VS:tp.fn Q8=some Ka:=rfl
theorem VT:tp.fn Q9=some Kb:=rfl
theorem aDq:tp.fn Wx=some NR:=rfl
theorem aDr:tp.fn Wy=some NS:=rfl
theorem VU:tp.fn Ra=some Kc:=rfl
theorem VV:tp.fn Rb=some Kd:=rfl
theorem aDs:tp.fn Rd=some NT:=rfl
theorem aDt:tp.fn Re=some NU:=rfl
theorem aDu:tp.fn MC=some NV:=rfl
theorem aDv:tp.fn Rf=some NW:=rfl
theorem aDw:tp.fn Wz=some NX:=rfl
theorem VW:tp.fn WA=some Ke:=rfl
theorem EU:tp.fn Rg=some Cj:=rfl
theorem Pu:tp.fn Rh=some GZ:=rfl
theorem aDx:tp.fn WB=some NY:=rfl
theorem aDy:tp.fn Ri=some NZ:=rfl
theorem aDz:tp.fn Rj=some N0:=rfl
theorem Lt:tp.fn Rk=some Fy:=rfl
theorem aDA:tp.fn Rl=some N1:=rfl
theorem aDB:tp.fn WD=some N2:=rfl
theorem aDC:tp.fn WE=some N7:=rfl
theorem aDD:tp.fn WF=some N8:=rfl
theorem aDE:tp.fn WH=some N9:=rfl
theorem aDF:tp.fn WI=some Oa:=rfl
theorem aDG:tp.fn WJ=some Ob:=rfl
theorem aDH:tp.fn WK=some Oc:=rfl
theorem aDI:tp.fn WL=some Od:=rfl
theorem aDJ:tp.fn WM=some Oe:=rfl
theorem aDK:tp.fn WN=some Og:=rfl
theorem aDL:tp.fn WO=some Oh:=rfl
theorem aDM:tp.fn WP=some Oi:=rfl
theorem aDN:tp.fn WR=some Oj:=rfl
theorem aDO:tp.fn WT=some Ol:=rfl
theorem VX:tp.fn Rm=some Kf:=rfl
theorem Pv:tp.fn Rn=some G2:=rfl
theorem aDP:tp.fn WU=some Om:=rfl
theorem Lu:tp.fn WV=some FA:=rfl
theorem F9:tp.fn WW=some Dx:=rfl
theorem Pw:tp.fn WX=some G3:=rfl
theorem aDQ:tp.fn WY=some Oo:=rfl
theorem aDR:tp.fn WZ=some Oq:=rfl
theorem Px:tp.fn Jb=some G4:=rfl
theorem aDS:tp.fn W0=some Ot:=rfl
theorem aDT:tp.fn W2=some Ou:=rfl
theorem aDU:tp.fn W3=some Ov:=rfl
theorem aDV:tp.fn W4=some Ow:=rfl
theorem aDW:tp.fn W5=some Ox:=rfl
theorem aDX:tp.fn W6=some Oy:=rfl
theorem aDY:tp.fn KJ=some Oz:=rfl
theorem aDZ:tp.fn W7=some OA:=rfl
theorem aD0:tp.fn W8=some OB:=rfl
theorem aD1:tp.fn W9=some OC:=rfl
theorem aD2:tp.fn Xa=some OD:=rfl
theorem aD3:tp.fn Ro=some OE:=rfl
theorem aD4:tp.fn MD=some OF:=rfl
theorem aD5:tp.fn ME=some OG:=rfl
theorem aD6:tp.fn Xb=some OH:=rfl
theorem aD7:tp.fn Xc=some OI:=rfl
theorem aD8:tp.fn Xd=some OJ:=rfl
theorem VY:tp.fn Jc=some Kg:=rfl
theorem aD9:tp.fn Xe=some OK:=rfl
theorem aEa:tp.fn Xf=some OL:=rfl
theorem eF:tp.fn Pz=some JD:=rfl
theorem eG:tp.fn PB=some JE:=rfl
theorem eH:tp.fn PD=some JF:=rfl
theorem eI:tp.fn PE=some JG:=rfl
theorem eJ:tp.fn PF=some JH:=rfl
theorem eK:tp.fn PH=some JI:=rfl
theorem eM:tp.fn Lz=some JJ:=rfl
theorem eO:tp.fn PI=some JK:=rfl
theorem eP:tp.fn LA=some JL:=rfl
theorem eQ:tp.fn PJ=some JM:=rfl
theorem eR:tp.fn PK=some JN:=rfl
theorem eS:tp.fn PL=some JO:=rfl
theorem eT:tp.fn PM=some JP:=rfl
theorem eU:tp.fn PP=some JQ:=rfl
theorem eV:tp.fn PQ=some JR:=rfl
theorem eW:tp.fn PT=some JS:=rfl
theorem eY:tp.fn I7=some JT:=rfl
theorem eZ:tp.fn PU=some JU:=rfl
theorem fA:tp.fn PV=some JV:=rfl
theorem fB:tp.fn PX=some JW:=rfl
theorem fC:tp.fn PY=some JX:=rfl
theorem fD:tp.fn PZ=some JY:=rfl
theorem fE:tp.fn P2=some JZ:=rfl
theorem fF:tp.fn P3=some J0:=rfl
theorem fG:tp.fn LB=some J1:=rfl
theorem fH:tp.fn I8=some J2:=rfl
theorem fI:tp.fn I9=some J3:=rfl
theorem fJ:tp.fn Ja=some J4:=rfl
theorem fK:tp.fn P4=some J5:=rfl
theorem fL:tp.fn P5=some J6:=rfl
theorem fM:tp.fn P6=some J7:=rfl
@[go_sem] theorem Zu:tp.meth 149 "Push"=some ⟨I9,none⟩:=by kernel_rfl
@[go_sem] theorem gI:tp.meth 149 "Len"=some ⟨MC,none⟩:=by kernel_rfl
@[go_sem] theorem Zt:tp.meth 149 "Less"=some ⟨LB,none⟩:=by kernel_rfl
@[go_sem] theorem Zv:tp.meth 149 "Swap"=some ⟨Ja,none⟩:=by kernel_rfl
@[go_sem] theorem gJ:tp.meth 149 "Pop"=some ⟨I8,none⟩:=by kernel_rfl
@[go_sem] theorem Jk:tp.meth 91 "Change"=some ⟨PY,none⟩:=by kernel_rfl
@[go_sem] theorem H8:tp.meth 91 "StopAll"=some ⟨P3,none⟩:=by kernel_rfl
@[go_sem] theorem LH:tp.meth 91 "Send"=some ⟨P2,none⟩:=by kernel_rfl
@[go_sem] theorem LG:tp.meth 91 "Recv"=some ⟨PZ,none⟩:=by kernel_rfl
end Go.Ab.T
