/- Part of a proof that a law returns true for every input of the second form's bound (no other condition). -/
import Derived.Test.YtlcknhidblndnaaGreatPD
set_option linter.all false
/- The abstract machine's text of the functions, its regions as numbers. Written by a tool. -/
namespace Go.Ab.T
open Go Go.Ab
set_option maxRecDepth 100000
abbrev aEf:Nat:=4
abbrev lD:Nat:=12
abbrev Ox:Nat:=13
abbrev RF:Nat:=14
abbrev V4:Nat:=15
abbrev RO:Nat:=16
abbrev lE:Nat:=17
abbrev lF:Nat:=18
abbrev lG:Nat:=22
abbrev lH:Nat:=27
abbrev Ro:Nat:=28
abbrev Rp:Nat:=29
abbrev Rq:Nat:=30
abbrev Rr:Nat:=31
abbrev Rt:Nat:=32
abbrev M3:Nat:=33
abbrev Ru:Nat:=34
abbrev Rv:Nat:=35
abbrev Rx:Nat:=36
abbrev M4:Nat:=37
abbrev M5:Nat:=38
abbrev Ry:Nat:=39
abbrev Rz:Nat:=40
abbrev RA:Nat:=41
abbrev RC:Nat:=42
abbrev M6:Nat:=43
abbrev RD:Nat:=57
abbrev M7:Nat:=58
abbrev M8:Nat:=59
abbrev RE:Nat:=60
abbrev RG:Nat:=61
abbrev M9:Nat:=62
abbrev Na:Nat:=63
abbrev Nb:Nat:=64
abbrev Nc:Nat:=65
abbrev JM:Nat:=66
abbrev Nd:Nat:=67
abbrev RH:Nat:=68
abbrev RI:Nat:=69
abbrev Nf:Nat:=70
abbrev Ng:Nat:=71
abbrev RJ:Nat:=72
abbrev Nh:Nat:=73
abbrev Ni:Nat:=74
abbrev Nj:Nat:=75
abbrev Nk:Nat:=76
abbrev RK:Nat:=77
abbrev RL:Nat:=78
abbrev RM:Nat:=92
abbrev RN:Nat:=93
abbrev RP:Nat:=94
abbrev RQ:Nat:=95
abbrev RR:Nat:=96
abbrev RS:Nat:=97
abbrev Nl:Nat:=98
abbrev Nm:Nat:=99
abbrev RU:Nat:=100
abbrev RX:Nat:=101
abbrev RY:Nat:=102
abbrev RZ:Nat:=103
abbrev R0:Nat:=114
abbrev R1:Nat:=115
abbrev H7:Nat:=116
abbrev R3:Nat:=117
abbrev R5:Nat:=118
abbrev R6:Nat:=119
abbrev R7:Nat:=120
abbrev R8:Nat:=127
abbrev R9:Nat:=128
abbrev G8:Nat:=129
abbrev Sa:Nat:=130
abbrev Sb:Nat:=131
abbrev Sc:Nat:=132
abbrev Sd:Nat:=133
abbrev Se:Nat:=135
abbrev Sf:Nat:=136
abbrev Sg:Nat:=137
abbrev Nn:Nat:=138
abbrev Si:Nat:=139
abbrev No:Nat:=140
abbrev Sj:Nat:=141
abbrev Sk:Nat:=142
abbrev Sm:Nat:=143
abbrev Sn:Nat:=144
abbrev So:Nat:=145
abbrev Sp:Nat:=146
abbrev Sq:Nat:=147
abbrev JN:Nat:=148
abbrev Sr:Nat:=149
abbrev Ss:Nat:=150
abbrev St:Nat:=151
abbrev Zm:Nat:=169
abbrev Zn:Nat:=170
abbrev Zo:Nat:=171
abbrev Zp:Nat:=172
abbrev Np:Nat:=177
abbrev JO:Nat:=178
abbrev JP:Nat:=179
abbrev JQ:Nat:=180
abbrev Su:Nat:=181
abbrev L9:Nat:=182
abbrev Ma:Nat:=183
def wrs:List Nat:=[JN,No,G8,Nn,M3,RF,M5,M4,Nf,Ng,Nj,Nh,Ni,Nb,Nk,Nc,Nd,Nl,Nm,JQ,JP,JO]
def ZE {α:Type} (z:α):List α→Nat→α
 | [],_=>z
 | x::_,0=>x
 | _::l,n+1=>ZE z l n
def Di:Nat→Int:=ZE 0 [0,1,2,3,4,5,6,7,8,9,10,11,12,13,14,15,16,17,18,19,20,21,22,23,24,25,26,27,28,29,30,31]
def aFX:List ((Nat→Nat)→O):=[fun p=>.mv (.t (p 0)),
fun p=>.fad (p 0) (.t (p 1)),
fun p=>.load 1 false (.t (p 0)),
fun p=>.nck (.t (p 0)),
fun p=>.mv (.c (.i .i64 (Di (p 0)))),
fun p=>.len (.t (p 0)),
fun p=>.bin .eql (.t (p 0)) (.c (.i .i64 (Di (p 1)))),
fun p=>.mv (.c (.b false)),
fun p=>.pick (.t (p 0)) (.t (p 1)) (.c (.b false)),
fun p=>.bin .add (.t (p 0)) (.c (.i .i64 (Di (p 1)))),
fun p=>.store 1 (.t (p 0)) (.t (p 1)),
fun p=>.bin .lss (.t (p 0)) (.t (p 1)),
fun p=>.pick (.t (p 0)) (.c (.b true)) (.t (p 1)),
fun p=>.box (.t (p 0)),
fun p=>.mv (.c .ns),
fun p=>.un .not (.t (p 0)),
fun p=>.bin .sub (.t (p 0)) (.c (.i .i64 (Di (p 1)))),
fun p=>.load 3 true (.t (p 0)),
fun p=>.bin .lss (.t (p 0)) (.c (.i .i64 (Di (p 1)))),
fun p=>.ext (.t (p 0)) 0,
fun p=>.ext (.t (p 0)) 1,
fun p=>.iad 3 (.t (p 0)) (.t (p 1)),
fun p=>.iada 1 8 (.t (p 0)) (.t (p 1)),
fun p=>.iad 1 (.t (p 0)) (.t (p 1))]
def aFY:List ((Nat→Nat)→O):=[fun p=>.mv (.c (.i .u32 0)),
fun p=>.bin .add (.t (p 0)) (.t (p 1)),
fun p=>.bin .gtr (.t (p 0)) (.c (.i .i64 (Di (p 1)))),
fun p=>.mv (.c (.b true)),
fun p=>.store 6 (.t (p 0)) (.t (p 1)),
fun p=>.iad 2 (.t (p 0)) (.t (p 1)),
fun p=>.load 2 true (.t (p 0)),
fun p=>.store 2 (.t (p 0)) (.t (p 1)),
fun p=>.alloc [(.i .i64 0),(.i .i64 0)],
fun p=>.mv (.c (.i .i64 (-1))),
fun p=>.bin .neq (.t (p 0)) (.c (.i .i64 (Di (p 1)))),
fun p=>.bin .geq (.t (p 0)) (.t (p 1)),
fun p=>.load 6 true (.t (p 0)),
fun p=>.bin .geq (.t (p 0)) (.c (.i .i64 (Di (p 1)))),
fun p=>.iad 9 (.t (p 0)) (.t (p 1)),
fun p=>.alloc [(.i .i64 0),(.i .i64 0),(.i .i64 0),(.i .i64 0),(.i .i64 0),(.i .u32 0)],
fun p=>.load 4 true (.t (p 0)),
fun p=>.bin .eql (.t (p 0)) (.t (p 1)),
fun p=>.iad 6 (.t (p 0)) (.t (p 1)),
fun p=>.bsl 2 [(.i .i64 0),(.i .i64 0)] 1 [(0,(.t (p 0)))],
fun p=>.bin .neq (.t (p 0)) (.t (p 1)),
fun p=>.bin .sub (.t (p 0)) (.t (p 1)),
fun p=>.mv (.c .np),
fun p=>.iad 11 (.t (p 0)) (.t (p 1))]
def aFZ:List ((Nat→Nat)→O):=[fun p=>.conv .i64 (.t (p 0)),
fun p=>.app 2 (.t (p 0)) (.t (p 1)),
fun p=>.call (.fn RF) [(.t (p 0)),(.c .ni)],
fun p=>.store 1 (.t (p 0)) (.c (.i .i64 (Di (p 1)))),
fun p=>.load 11 true (.t (p 0)),
fun p=>.eq false .sl (.t (p 0)) (.c .ns),
fun p=>.e0,
fun p=>.bin .gtr (.t (p 0)) (.t (p 1)),
fun p=>.iada 1 8 (.t (p 0)) (.c (.i .i64 (Di (p 1)))),
fun p=>.store 3 (.t (p 0)) (.t (p 1)),
fun p=>.mn [(.c (.i .i64 4097)),(.t (p 0))],
fun p=>.alloc [.ns,.ns,.ns],
fun p=>.bin .leq (.t (p 0)) (.t (p 1)),
fun p=>.call (.fn V4) [(.t (p 0))],
fun p=>.app 1 (.t (p 0)) (.t (p 1)),
fun p=>.app 3 (.t (p 0)) (.t (p 1)),
fun p=>.call (.fn RU) [(.t (p 0)),(.t (p 1))],
fun p=>.mx [(.t (p 0)),(.t (p 1))],
fun p=>.build [(.i .i64 0),(.i .i64 0)] [],
fun p=>.bsl 11 [(.s ⟨#[]⟩),(.i .i64 0),(.i .i64 0),(.b false),(.b false),.ns,(.i .i64 0),(.i .i64 0),(.i .i64 0),(.i .i64 0),(.i .i64 0)] 1 [(0,(.t (p 0)))],
fun p=>.bsl 3 [(.i .i64 0),(.i .i64 0),(.i .i64 0)] 1 [(0,(.t (p 0)))],
fun p=>.bsl 1 [.ns] 1 [(0,(.t (p 0)))],
fun p=>.load 5 true (.t (p 0)),
fun p=>.store 4 (.t (p 0)) (.t (p 1))]
def aF0:List ((Nat→Nat)→O):=[fun p=>.eq true .ptr (.t (p 0)) (.c .np),
fun p=>.call (.fn M6) [(.t (p 0))],
fun p=>.eq false (.agg [.i,.i,.i,.i,.i,.i]) (.t (p 0)) (.t (p 1)),
fun p=>.alloc [(.s ⟨#[]⟩),(.i .i64 0),(.i .i64 0),(.b false),(.b false),.ns,(.i .i64 0),(.i .i64 0),(.i .i64 0),(.i .i64 0),(.i .i64 0)],
fun p=>.store 11 (.t (p 0)) (.t (p 1)),
fun p=>.bin .leq (.t (p 0)) (.c (.i .i64 (Di (p 1)))),
fun p=>.call (.fn RI) [(.t (p 0)),(.t (p 1))],
fun p=>.call (.fn RJ) [(.t (p 0))],
fun p=>.alloc [(.i .i64 0),(.i .i64 0),(.b false),(.i .i64 0),(.i .u32 0),(.i .i64 0)],
fun p=>.conv .u32 (.t (p 0)),
fun p=>.iada 1 16 (.t (p 0)) (.t (p 1)),
fun p=>.slen (.t (p 0)),
fun p=>.bin .leq (.t (p 0)) (.c (.i .i64 4096)),
fun p=>.inv (.t (p 0)) "Less" [(.t (p 1)),(.t (p 2))],
fun p=>.call (.fn Sf) [(.t (p 0))],
fun p=>.build [(.i .i64 0),(.i .i64 0)] [(0,1,(.t (p 0))),(1,1,(.t (p 1)))],
fun p=>.call (.fn Sj) [(.t (p 0)),(.t (p 1))],
fun p=>.call (.fn Sm) [(.t (p 0)),(.t (p 1))],
fun p=>.mx [(.c (.i .i64 (Di (p 0)))),(.t (p 1))],
fun p=>.build [(.i .i64 0),(.i .i64 0),(.i .i64 0)] [(0,1,(.c (.i .i64 (Di (p 0))))),(2,1,(.c (.i .i64 (Di (p 1)))))],
fun p=>.build [.ns,.ns,.ns] [(0,1,(.t (p 0))),(2,1,(.t (p 1)))],
fun p=>.iad 11 (.t (p 0)) (.c (.i .i64 (Di (p 1)))),
fun p=>.call (.fn Ox) [(.t (p 0)),(.c (.i .i64 (Di (p 1)))),(.t (p 2)),(.c .ns)],
fun p=>.eq false .ptr (.t (p 0)) (.c .np)]
def aF1:List ((Nat→Nat)→O):=[fun p=>.bin .eql (.t (p 0)) (.c (.i .i64 (-1))),
fun p=>.eq false .b (.t (p 0)) (.t (p 1)),
fun p=>.bin .rem (.t (p 0)) (.t (p 1)),
fun p=>.slice 1 (.t (p 0)) none (some (.t (p 1))) none,
fun p=>.call (.fn M3) [(.t (p 0))],
fun p=>.alloc [(.i .i64 0),(.i .i64 0),(.i .i64 0),(.i .i64 0)],
fun p=>.load 16 true (.t (p 0)),
fun p=>.call (.fn Ox) [(.t (p 0)),(.c (.i .i64 (Di (p 1)))),(.c .ns),(.c .ns)],
fun p=>.store 8 (.t (p 0)) (.t (p 1)),
fun p=>.call (.fn Na) [(.t (p 0))],
fun p=>.store 1 (.t (p 0)) (.c .ns),
fun p=>.mkif 149 (.t (p 0)),
fun p=>.mkif 3 (.t (p 0)),
fun p=>.tas 3 false (.i .i64 0) (.t (p 0)),
fun p=>.bin .eql (.t (p 0)) (.c (.i .u32 0)),
fun p=>.load 9 true (.t (p 0)),
fun p=>.slice 2 (.t (p 0)) none (some (.t (p 1))) (some (.t (p 2))),
fun p=>.app 6 (.t (p 0)) (.t (p 1)),
fun p=>.inv (.t (p 0)) "Len" [],
fun p=>.mv (.c .ni),
fun p=>.bin .mul (.t (p 0)) (.t (p 1)),
fun p=>.conv .u64 (.t (p 0)),
fun p=>.call (.fn H7) [(.t (p 0)),(.t (p 1))],
fun p=>.inv (.t (p 0)) "Swap" [(.t (p 1)),(.t (p 2))]]
def aF2:List ((Nat→Nat)→O):=[fun p=>.call (.t (p 0)) [(.t (p 1))],
fun p=>.call (.fn R8) [(.t (p 0))],
fun p=>.call (.fn Sn) [(.t (p 0))],
fun p=>.bsl 1 [(.i .i64 0)] 2 [(0,(.t (p 0))),(1,(.t (p 1)))],
fun p=>.mn [(.t (p 0)),(.t (p 1))],
fun p=>.call (.fn Sp) [(.t (p 0))],
fun p=>.bsl 6 [(.i .i64 0),(.i .i64 0),(.i .i64 0),(.i .i64 0),(.i .i64 0),(.i .i64 0)] 1 [(0,(.t (p 0)))],
fun p=>.call (.fn Sr) [(.t (p 0))],
fun p=>.iad 6 (.t (p 0)) (.c (.i .i64 (Di (p 1)))),
fun p=>.mv (.c (.i .u32 4)),
fun p=>.call (.fn L9) [(.t (p 0)),(.t (p 1))],
fun p=>.call (.fn Ma) [(.t (p 0))],
fun p=>.call (.fn lD) [(.t (p 0)),(.c (.i .i64 (Di (p 1)))),(.c (.i .i64 40))],
fun p=>.build [(.s ⟨#[]⟩),(.i .i64 0),(.i .i64 0),(.b false),(.b false),.ns,(.i .i64 0),(.i .i64 0),(.i .i64 0),(.i .i64 0),(.i .i64 0)] [(0,1,(.c (.s ⟨#[97]⟩))),(5,1,(.t (p 0)))],
fun p=>.fload 1 false (.t (p 0)),
fun p=>.build [(.i .i64 0),(.i .i64 0)] [(0,1,(.c (.i .i64 (Di (p 0))))),(1,1,(.c (.i .i64 (Di (p 1)))))],
fun p=>.chk 1 false (.t (p 0)) (.t (p 1)),
fun p=>.conv .u8 (.t (p 0)),
fun p=>.bsl 1 [(.i .u8 0)] 16 [(0,(.c (.i .u8 1))),(1,(.c (.i .u8 1))),(2,(.c (.i .u8 0))),(3,(.t (p 0))),(4,(.c (.i .u8 10))),(5,(.c (.i .u8 1))),(6,(.c (.i .u8 0))),(7,(.c (.i .u8 0))),(8,(.c (.i .u8 8))),(9,(.c (.i .u8 0))),(10,(.c (.i .u8 0))),(11,(.c (.i .u8 4))),(12,(.c (.i .u8 8))),(13,(.c (.i .u8 0))),(14,(.c (.i .u8 0))),(15,(.c (.i .u8 12)))],
fun p=>.bin .lss (.t (p 0)) (.c (.i .i64 100)),
fun p=>.call (.fn lE) [],
fun p=>.call (.fn lH) [(.t (p 0))],
fun p=>.call (.fn Ro) [(.t (p 0))],
fun p=>.mn [(.t (p 0)),(.c (.i .i64 512))]]
def aF3:List ((Nat→Nat)→O):=[fun p=>.call (.fn Rp) [(.t (p 0))],
fun p=>.call (.fn Rq) [(.t (p 0))],
fun p=>.call (.fn Rr) [(.t (p 0))],
fun p=>.build [.ns,.ns,.ns,(.i .i64 0),.ns,.ns,.np,.ns,(.i .u32 0),(.i .u32 0),(.i .u32 0),(.i .u32 0),(.i .u32 0),(.i .u32 0),(.i .u32 0),(.i .u32 0),(.i .u32 0),(.i .u32 0),(.i .u32 0),(.i .u32 0),(.i .u32 0),(.i .u32 0),(.i .u32 0),(.i .u32 0),.np,(.i .i64 0)] [(0,3,(.t (p 0))),(3,1,(.t (p 1))),(4,1,(.t (p 2))),(5,1,(.t (p 3))),(24,1,(.t (p 4)))],
fun p=>.call (.fn Rt) [(.t (p 0))],
fun p=>.build [(.i .i64 0),(.i .i64 0),(.i .i64 0),(.i .i64 0),(.i .i64 0),(.i .u32 0)] [],
fun p=>.eq false .ifc (.t (p 0)) (.c .ni),
fun p=>.build [] [],
fun p=>.mkif 91 (.t (p 0)),
fun p=>.call (.fn Ru) [(.t (p 0)),(.t (p 1))],
fun p=>.build [(.i .i64 0),(.i .i64 0),(.i .i64 0),(.i .i64 0),(.i .i64 0),(.i .u32 0)] [(0,1,(.t (p 0))),(1,1,(.c (.i .i64 (-1))))],
fun p=>.build [(.i .i64 0),(.i .i64 0),(.i .i64 0),(.i .i64 0),(.i .i64 0),(.i .u32 0)] [(0,1,(.t (p 0))),(1,1,(.t (p 1))),(2,1,(.t (p 2)))],
fun p=>.call (.fn Rv) [(.t (p 0)),(.t (p 1))],
fun p=>.call (.fn Rx) [(.t (p 0))],
fun p=>.call (.fn M4) [(.t (p 0)),(.t (p 1)),(.t (p 2)),(.t (p 3)),(.t (p 4))],
fun p=>.store 1 (.t (p 0)) (.c (.i .u32 0)),
fun p=>.call (.fn M5) [(.t (p 0)),(.t (p 1)),(.t (p 2))],
fun p=>.call (.fn Ry) [(.t (p 0))],
fun p=>.eq false (.agg [.i,.i,.i,.i,.i,.i,.i,.i,.i,.i,.i,.i,.i,.i,.i,.i]) (.t (p 0)) (.t (p 1)),
fun p=>.call (.fn Rz) [(.t (p 0)),(.t (p 1))],
fun p=>.call (.fn RA) [(.t (p 0)),(.t (p 1))],
fun p=>.call (.fn RC) [(.t (p 0)),(.t (p 1))],
fun p=>.build [(.i .i64 0),(.i .i64 0),(.i .i64 0),(.i .i64 0),(.i .i64 0)] [(0,1,(.c (.i .i64 (Di (p 0))))),(1,1,(.c (.i .i64 (Di (p 1))))),(2,1,(.c (.i .i64 (Di (p 2))))),(3,1,(.c (.i .i64 (Di (p 3))))),(4,1,(.c (.i .i64 (Di (p 4)))))],
fun p=>.build [(.s ⟨#[]⟩),(.i .i64 0),(.i .i64 0),(.b false),(.b false),.ns,(.i .i64 0),(.i .i64 0),(.i .i64 0),(.i .i64 0),(.i .i64 0)] [(0,1,(.c (.s ⟨#[97]⟩))),(5,1,(.t (p 0))),(6,5,(.t (p 1)))]]
def aF4:List ((Nat→Nat)→O):=[fun p=>.bsl 1 [(.i .u8 0)] 12 [(0,(.c (.i .u8 1))),(1,(.c (.i .u8 1))),(2,(.c (.i .u8 0))),(3,(.c (.i .u8 7))),(4,(.c (.i .u8 5))),(5,(.c (.i .u8 2))),(6,(.c (.i .u8 1))),(7,(.c (.i .u8 3))),(8,(.c (.i .u8 11))),(9,(.c (.i .u8 0))),(10,(.c (.i .u8 1))),(11,(.c (.i .u8 0)))],
fun p=>.build [.ns,.ns,.ns] [],
fun p=>.build [(.i .i64 0),(.i .i64 0),(.i .i64 0),(.i .i64 0),(.i .i64 0),(.i .u32 0)] [(3,1,(.c (.i .i64 (Di (p 0))))),(5,1,(.c (.i .u32 7)))],
fun p=>.build [(.i .i64 0),(.i .i64 0),(.i .i64 0),(.i .i64 0),(.i .i64 0),(.i .u32 0)] [(0,1,(.c (.i .i64 (Di (p 0))))),(2,1,(.c (.i .i64 (Di (p 1))))),(3,1,(.c (.i .i64 (Di (p 2))))),(4,1,(.c (.i .i64 (Di (p 3)))))],
fun p=>.build [(.i .i64 0),(.i .i64 0),(.i .i64 0),(.i .i64 0),(.i .i64 0),(.i .u32 0)] [(0,1,(.c (.i .i64 (Di (p 0))))),(2,1,(.c (.i .i64 (Di (p 1))))),(4,1,(.c (.i .i64 (Di (p 2)))))],
fun p=>.call (.fn lF) [(.t (p 0))],
fun p=>.call (.fn lG) [(.t (p 0)),(.c (.i .i64 (Di (p 1))))],
fun p=>.idx 1 8 false (.t (p 0)) (.c (.i .i64 (Di (p 1)))),
fun p=>.bin .eql (.t (p 0)) (.c (.i .u32 7)),
fun p=>.call (.fn RO) [(.t (p 0)),(.t (p 1))],
fun p=>.call (.fn RO) [(.t (p 0)),(.c .np)],
fun p=>.alloc [(.i .u32 0),(.i .u32 0),(.i .u32 0),(.i .u32 0),(.i .u32 0),(.i .u32 0),(.i .u32 0),(.i .u32 0)],
fun p=>.build [(.i .u32 0),(.i .u32 0),(.i .u32 0),(.i .u32 0),(.i .u32 0),(.i .u32 0),(.i .u32 0),(.i .u32 0)] [],
fun p=>.load 8 true (.t (p 0)),
fun p=>.call (.fn RD) [(.t (p 0))],
fun p=>.call (.fn M8) [(.t (p 0))],
fun p=>.call (.fn M7) [(.t (p 0))],
fun p=>.app 11 (.t (p 0)) (.t (p 1)),
fun p=>.call (.fn RG) [(.t (p 0))],
fun p=>.call (.fn RE) [(.t (p 0))],
fun p=>.call (.fn M9) [(.t (p 0))],
fun p=>.build [(.i .i64 0),(.i .i64 0),(.i .i64 0),(.i .i64 0),(.i .i64 0),.ns,(.b false)] [(0,5,(.t (p 0)))],
fun p=>.build [.ns] [],
fun p=>.build [(.i .i64 0),(.i .i64 0),(.b false)] [(0,1,(.t (p 0)))]]
def aF5:List ((Nat→Nat)→O):=[fun p=>.bsl 3 [(.i .i64 0),(.i .i64 0),(.b false)] 1 [(0,(.t (p 0)))],
fun p=>.call (.fn Nb) [(.t (p 0))],
fun p=>.build [(.i .u32 0),(.i .u32 0),(.i .u32 0),(.i .u32 0),(.i .u32 0),(.i .u32 0),(.i .u32 0),(.i .u32 0),(.i .i64 0)] [(8,1,(.t (p 0)))],
fun p=>.bsl 9 [(.i .u32 0),(.i .u32 0),(.i .u32 0),(.i .u32 0),(.i .u32 0),(.i .u32 0),(.i .u32 0),(.i .u32 0),(.i .i64 0)] 1 [(0,(.t (p 0)))],
fun p=>.app 9 (.t (p 0)) (.t (p 1)),
fun p=>.build [(.i .u32 0),(.i .u32 0),(.i .u32 0),(.i .u32 0),(.i .u32 0),(.i .u32 0),(.i .u32 0),(.i .u32 0),(.i .u32 0),(.i .u32 0),(.i .u32 0),(.i .u32 0),(.i .u32 0),(.i .u32 0),(.i .u32 0),(.i .u32 0)] [],
fun p=>.store 16 (.t (p 0)) (.t (p 1)),
fun p=>.build [.ns,.ns] [(1,1,(.t (p 0)))],
fun p=>.alloc [(.i .i64 0),(.i .i64 0),(.b false)],
fun p=>.call (.fn Nc) [(.t (p 0)),(.t (p 1))],
fun p=>.call (.fn JM) [(.t (p 0))],
fun p=>.call (.fn Nd) [(.t (p 0))],
fun p=>.bin .rem (.t (p 0)) (.c (.i .i64 (Di (p 1)))),
fun p=>.build [(.i .i64 0),(.i .i64 0),(.i .i64 0),(.i .i64 0)] [],
fun p=>.build [(.i .i64 0),(.i .i64 0),(.i .i64 0),(.i .i64 0)] [(0,1,(.t (p 0))),(1,1,(.t (p 1))),(2,1,(.t (p 2))),(3,1,(.t (p 3)))],
fun p=>.call (.fn RH) [(.t (p 0))],
fun p=>.ext (.t (p 0)) 2,
fun p=>.call (.fn Nf) [(.t (p 0)),(.t (p 1)),(.t (p 2)),(.t (p 3))],
fun p=>.call (.fn Ng) [(.t (p 0)),(.t (p 1)),(.t (p 2))],
fun p=>.call (.fn Nh) [(.t (p 0)),(.t (p 1)),(.t (p 2))],
fun p=>.call (.fn Ni) [(.t (p 0)),(.t (p 1))],
fun p=>.call (.fn Nj) [(.t (p 0)),(.t (p 1)),(.t (p 2)),(.t (p 3))],
fun p=>.call (.fn Nk) [(.t (p 0)),(.t (p 1)),(.t (p 2)),(.t (p 3))],
fun p=>.eq true (.agg [.i,.i,.i,.i,.i,.i,.i,.i,.i]) (.t (p 0)) (.t (p 1))]
def aF6:List ((Nat→Nat)→O):=[fun p=>.call (.fn RK) [(.t (p 0)),(.t (p 1))],
fun p=>.eq true (.agg [.i,.i,.i]) (.t (p 0)) (.t (p 1)),
fun p=>.call (.fn RL) [(.t (p 0))],
fun p=>.call (.fn RM) [(.t (p 0))],
fun p=>.slice 11 (.t (p 0)) none (some (.t (p 1))) none,
fun p=>.mkfn (.func RP) [] [(.t (p 0))],
fun p=>.call (.fn RN) [(.t (p 0)),(.t (p 1))],
fun p=>.call (.fn RQ) [(.t (p 0))],
fun p=>.call (.fn RR) [(.t (p 0)),(.t (p 1))],
fun p=>.call (.fn RS) [(.t (p 0)),(.t (p 1))],
fun p=>.slice 6 (.t (p 0)) none (some (.t (p 1))) (some (.t (p 2))),
fun p=>.slice 3 (.t (p 0)) none (some (.t (p 1))) (some (.t (p 2))),
fun p=>.store 1 (.t (p 0)) (.c (.b false)),
fun p=>.inv (.t (p 0)) "Push" [(.t (p 1))],
fun p=>.call (.fn Nl) [(.t (p 0)),(.t (p 1))],
fun p=>.inv (.t (p 0)) "Swap" [(.c (.i .i64 (Di (p 1)))),(.t (p 2))],
fun p=>.call (.fn Nm) [(.t (p 0)),(.c (.i .i64 (Di (p 1)))),(.t (p 2))],
fun p=>.inv (.t (p 0)) "Pop" [],
fun p=>.bin .leq (.t (p 0)) (.c (.i .i64 255)),
fun p=>.bin .quo (.t (p 0)) (.t (p 1)),
fun p=>.bin .geq (.t (p 0)) (.c (.i .u64 16)),
fun p=>.bin .mul (.t (p 0)) (.c (.i .u32 256)),
fun p=>.store 1 (.t (p 0)) (.c (.b true)),
fun p=>.mkfn (.method "Change") [(.t (p 0))] []]
def aEy:List ((Nat→Nat)→O):=[fun p=>.inv (.t (p 0)) "Change" [(.t (p 1))],
fun p=>.inv (.t (p 0)) "StopAll" [],
fun p=>.call (.fn RX) [(.t (p 0)),(.t (p 1)),(.t (p 2))],
fun p=>.inv (.t (p 0)) "Send" [(.t (p 1)),(.t (p 2))],
fun p=>.inv (.t (p 0)) "Recv" [(.t (p 1))],
fun p=>.bin .neq (.t (p 0)) (.c (.i .u32 2)),
fun p=>.build [(.i .i64 0),(.i .i64 0),(.i .i64 0)] [(0,1,(.t (p 0))),(1,1,(.t (p 1))),(2,1,(.t (p 2)))],
fun p=>.call (.fn RY) [(.t (p 0)),(.t (p 1))],
fun p=>.eq true (.agg [.i,.i,.b]) (.t (p 0)) (.t (p 1)),
fun p=>.call (.fn RZ) [(.t (p 0))],
fun p=>.sidx (.t (p 0)) (.t (p 1)),
fun p=>.bin .geq (.t (p 0)) (.c (.i .u8 97)),
fun p=>.bin .leq (.t (p 0)) (.c (.i .u8 122)),
fun p=>.bin .lss (.t (p 0)) (.c (.i .u8 48)),
fun p=>.bin .gtr (.t (p 0)) (.c (.i .u8 57)),
fun p=>.bin .neq (.t (p 0)) (.c (.i .u8 95)),
fun p=>.call (.fn R0) [(.t (p 0)),(.t (p 1))],
fun p=>.idx 1 5 false (.t (p 0)) (.t (p 1)),
fun p=>.call (.fn R1) [(.t (p 0))],
fun p=>.call (.fn H7) [(.t (p 0)),(.c (.i .i64 4096))],
fun p=>.call (.fn R3) [(.t (p 0))],
fun p=>.mkfn (.func R6) [] [(.t (p 0))],
fun p=>.call (.fn R5) [(.t (p 0)),(.t (p 1))],
fun p=>.call (.fn R7) [(.t (p 0)),(.t (p 1))]]
def aEz:List ((Nat→Nat)→O):=[fun p=>.bin .quo (.t (p 0)) (.c (.i .i64 (Di (p 1)))),
fun p=>.bin .mul (.c (.i .i64 (Di (p 0)))) (.t (p 1)),
fun p=>.iada 1 5 (.t (p 0)) (.t (p 1)),
fun p=>.call (.fn H7) [(.t (p 0)),(.c (.i .i64 511))],
fun p=>.call (.fn H7) [(.t (p 0)),(.c (.i .i64 255))],
fun p=>.call (.fn R9) [(.t (p 0))],
fun p=>.call (.fn G8) [(.t (p 0))],
fun p=>.call (.fn Sa) [(.t (p 0))],
fun p=>.bin .gtr (.t (p 0)) (.c (.i .i64 96)),
fun p=>.call (.fn Sb) [(.t (p 0)),(.t (p 1))],
fun p=>.call (.fn Sc) [(.t (p 0)),(.t (p 1)),(.t (p 2))],
fun p=>.call (.fn Sd) [(.t (p 0)),(.t (p 1)),(.t (p 2))],
fun p=>.call (.fn Se) [(.t (p 0))],
fun p=>.bin .gtr (.t (p 0)) (.c (.i .i64 128)),
fun p=>.call (.fn Sg) [(.t (p 0))],
fun p=>.build [.ns,.ns,(.i .i64 0),(.i .i64 0),(.i .i64 0)] [(0,1,(.t (p 0)))],
fun p=>.call (.fn Nn) [(.t (p 0))],
fun p=>.call (.fn Si) [(.t (p 0))],
fun p=>.call (.fn No) [(.t (p 0))],
fun p=>.call (.fn Sk) [(.t (p 0))],
fun p=>.call (.fn So) [(.t (p 0)),(.t (p 1)),(.t (p 2))],
fun p=>.call (.fn Sq) [(.t (p 0)),(.c (.i .i64 (Di (p 1))))],
fun p=>.call (.fn JN) [(.t (p 0)),(.c (.i .i64 (Di (p 1))))],
fun p=>.call (.fn JN) [(.t (p 0)),(.t (p 1))]]
def aEA:List ((Nat→Nat)→O):=[fun p=>.slice 2 (.t (p 0)) none (some (.t (p 1))) none,
fun p=>.bin .sub (.c (.i .i64 9223372036854775807)) (.t (p 0)),
fun p=>.mv (.c (.i .i64 9223372036854775807)),
fun p=>.iad 2 (.t (p 0)) (.c (.i .i64 (Di (p 1)))),
fun p=>.build [(.i .i64 0),(.i .i64 0),(.i .i64 0),(.i .i64 0),(.i .i64 0),(.i .i64 0)] [(3,1,(.c (.i .i64 (Di (p 0)))))],
fun p=>.alloc [(.i .i64 0),(.i .i64 0),(.i .i64 0)],
fun p=>.build [(.i .i64 0),(.i .i64 0),(.i .i64 0),(.i .i64 0),(.i .i64 0),(.i .i64 0)] [(0,3,(.t (p 0))),(3,1,(.t (p 1)))],
fun p=>.alloc [(.i .i64 0),(.i .i64 0),(.i .i64 0),(.i .i64 0),(.i .i64 0),(.i .i64 0)],
fun p=>.slice 6 (.t (p 0)) none (some (.t (p 1))) none,
fun p=>.call (.fn Ss) [(.t (p 0)),(.t (p 1))],
fun p=>.call (.fn St) [(.t (p 0)),(.t (p 1))],
fun p=>.bin .leq (.t (p 0)) (.c (.i .i64 128)),
fun p=>.mv (.c (.i .u32 2)),
fun p=>.mv (.c (.i .u32 3)),
fun p=>.call (.fn Su) [(.t (p 0))],
fun p=>.bsl 1 [(.i .i64 0)] 1 [(0,(.t (p 0)))]]
def aF7:Nat→List ((Nat→Nat)→O)
 | 0=>aFX
 | 1=>aFY
 | 2=>aFZ
 | 3=>aF0
 | 4=>aF1
 | 5=>aF2
 | 6=>aF3
 | 7=>aF4
 | 8=>aF5
 | 9=>aF6
 | 10=>aEy
 | 11=>aEz
 | _=>aEA
def shp (s:Nat) (p:Nat→Nat):O:=ZE (fun _=>.e0) (aF7 (s / 24)) (s % 24) p
def nps:List Nat:=[1,2,1,1,1,1,2,0,2,2,2,2,2,1,0,1,2,1,2,1,1,2,2,2,0,2,2,0,2,2,1,2,0,0,2,2,1,2,2,0,1,2,2,1,2,2,0,2,1,2,1,2,1,1,0,2,2,2,1,0,2,1,2,2,2,2,0,1,1,1,1,2,1,1,2,0,2,2,2,1,0,1,2,1,1,3,1,2,2,2,2,2,2,2,3,1,1,2,2,2,1,0,1,2,2,1,1,1,1,1,1,1,3,2,1,0,2,1,2,3,2,1,1,2,2,1,1,1,2,0,2,1,2,1,1,2,2,1,1,1,0,1,1,1,1,1,1,5,1,0,1,0,1,2,1,3,2,1,5,1,3,1,2,2,2,2,5,2,0,0,1,4,3,1,2,2,1,2,1,0,0,1,1,1,1,2,1,1,1,1,0,1,1,1,1,1,2,0,2,1,0,2,1,1,2,0,4,1,1,4,3,3,2,4,4,2,2,2,1,1,2,1,2,1,2,2,3,3,1,2,2,3,3,1,1,2,1,1,1,1,2,1,3,3,2,1,3,2,2,1,2,1,1,1,1,1,2,2,1,1,1,1,2,2,2,2,2,1,1,1,1,1,1,2,3,3,1,1,1,1,1,1,1,1,3,2,2,2,2,1,0,2,1,0,2,0,2,2,2,1,0,0,1,1]
abbrev Rs:=List TO×List (Bool×List TO)
abbrev Rc:=Nat→Nat→Nat→Bool→Rs
def nM (s:Nat) (d:Option Nat) (g:Option (Nat×Bool)) (l:List Nat) (r:Rs):Rs:=(⟨d,shp s (fun i=>ZE 0 l i),g⟩::r.1,r.2)
def YR (R:Nat) (rc:Nat→List Nat→Rs):Nat→Nat→List Nat→Rs
 | 0,n,l=>rc n l
 | f+1,n,l=>YR R rc f (n / R) (n % R::l)
def YQ (R s:Nat) (rc:Rc) (g:Option (Nat×Bool)) (gn:Nat) (gb:Bool) (p:Nat):Nat→Nat→Rs
 | 0,n=>YR R (fun n l=>nM s (some (p+1)) g l (rc n (p+1) gn gb)) (ZE 0 nps s) n []
 | 1,n=>YR R (fun m l=>nM s (some (n % R)) g l (rc m (n % R) gn gb)) (ZE 0 nps s) (n / R) []
 | _+2,n=>YR R (fun n l=>nM s none g l (rc n p gn gb)) (ZE 0 nps s) n []
def aFW (R s:Nat) (rc:Rc) (p gn:Nat) (gb:Bool):Nat→Nat→Rs
 | 0,n=>YQ R s rc none gn gb p (n % 3) (n / 3)
 | 1,n=>YQ R s rc (some (n % R,true)) (n % R) true p (n / R % 3) (n / R / 3)
 | 2,n=>YQ R s rc (some (n % R,false)) (n % R) false p (n / R % 3) (n / R / 3)
 | _+3,n=>YQ R s rc (some (gn,gb)) gn gb p (n % 3) (n / 3)
def aEx (b:Bool) (r:Rs):Rs:=([],(b,r.1)::r.2)
def aF8 (R:Nat) (rc:Rc) (p gn:Nat) (gb:Bool):Nat→Nat→Rs
 | 0,_=>([],[])
 | 1,n=>aEx true (rc n p gn gb)
 | 2,n=>aEx false (rc n p gn gb)
 | s+3,n=>aFW R s rc p gn gb (n % 4) (n / 4)
def nL (R:Nat):Nat→Rc
 | 0=>fun _ _ _ _=>([],[])
 | f+1=>fun n p gn gb=>aF8 R (nL R f) p gn gb (n % 307) (n / 307)
def aEw (n:Nat):Nat:=ZE 0 [32,64,128,512] (n % 4)
@[go_sem ↓] def k (n:Nat) {l:List TO} (h:(nL (aEw n) 400 (n / 4) 511 0 true).1=l:=by conv=>lhs;cbv):List TO:=l
@[go_sem ↓] def kd (n:Nat) {l:List (Bool×List TO)} (h:(nL (aEw n) 400 (n / 4) 511 0 true).2=l:=by conv=>lhs;cbv):List (Bool×List TO):=l
/-! horarium/horariumlaw19.PartWaits -/
@[go_sem] def aEG:=k 0xf998
@[go_sem] def aEH:=k 0x52757add91d0ebf8c
@[go_sem] def aEI:=k 0x94bd24de4a9f96c4b53a4e76bbe6d1867d0e0255c367b4
@[go_sem] def aEJ:=k 0xc712c
@[go_sem] def aEK:=kd 0x429ff9505815eef640370a48292f1748da08aa1831995ce49d39ca8e0411dcdb50987c1aed597b062adb5645
@[go_sem] def aEL:=k 0x153c43512e5205e4b62e855a54e7fd83c1
@[go_sem] def aEM:=k 0x84c0d64074d
@[go_sem] def aEN:=k 0xf998
@[go_sem] def aEO:=k 0x911cc
@[go_sem] def aEP:=k 0x2195c
@[go_sem] def nW:=k 0x8b43755426d
@[go_sem] def nX:=k 0x15d711abc4fbaf384c24bf6bb99c3437395cedc9a3d
@[go_sem] def nY:=k 0xa846d3c107d
@[go_sem] def nZ:=k 0xf998
@[go_sem] def oA:=k 0x2821657b14aa0a71fa1
@[go_sem] def oB:=k 0xa8868f8072079684d
@[go_sem] def oC:=k 0xf998
@[go_sem] def oD:=k 0x94a055e524f3c791e8495d82e14fd
@[go_sem] def oE:=k 0x2b40c4b0ba6b7326209924742
@[go_sem] def oF:=k 0x1055bf33ee74170eaa193d61c5b7a3351a01579e44da4a1efc385e684c3a3d668a11bca549e8f4c4a575b471be65693269c1f3b0fb6a67b1521c9281e151762bee
@[go_sem] def oG:=k 0xf998
@[go_sem] def oH:=k 0x21931d1c98d8e7bb58d
def PB:TC:=(.seq (.seq (.reg nW) (.cond (.t 44) .skip (.exit 0))) (.seq (.block 1 (.seq (.reg nX) (.seq (.seq (.reg nY) (.cond (.t 53) (.seq (.reg nZ) .ret) .skip)) (.seq (.seq (.reg oA) (.cond (.t 56) (.seq (.seq (.reg oB) (.cond (.t 59) (.seq (.reg oC) .ret) .skip)) (.seq (.reg oD) (.exit 1))) .skip)) (.seq (.reg oE) (.seq (.reg oF) (.cond (.t 87) (.seq (.reg oG) .ret) .skip))))))) (.reg oH)))
@[go_sem] def oI:=k 0x4736f0b216ee
def TM:TF:=⟨89,[.t 4],(.seq (.reg aEG) (.seq (.reg aEH) (.seq (.reg aEI) (.seq (.seq (.reg aEJ) (.cond (.t 23) (.dreg aEK) .skip)) (.seq (.reg aEL) (.seq (.seq (.reg aEM) (.cond (.t 42) (.seq (.reg aEN) .ret) .skip)) (.seq (.reg aEO) (.seq (.seq (.reg aEP) (.block 0 (.loop PB))) (.seq (.reg oI) .ret)))))))))⟩
/-! horarium/horariumbook.Within -/
@[go_sem] def aEQ:=k 0x16cac
@[go_sem] def aER:=k 0x11d343a70b3e838ec5e23d036d68d884fe0e5662c
@[go_sem] def aES:=k 0x1896afb732ac
@[go_sem] def aET:=k 0x1401cdd569e275e766c4c3ddf74dbb4786c3c
@[go_sem] def aEU:=k 0x239809a8459c
@[go_sem] def aEV:=k 0x1b9fff82a65721117e7e29b34c4bca19a38bc
@[go_sem] def aEW:=k 0x54057955a0a617cc2e0361d
def TN:TF:=⟨33,[.t 6],(.seq (.reg aEQ) (.seq (.seq (.reg aER) (.cond (.t 14) (.seq (.reg aES) .ret) .skip)) (.seq (.reg aET) (.seq (.seq (.reg aEU) (.cond (.t 23) (.reg aEV) .skip)) (.seq (.reg aEW) .ret)))))⟩
/-! horarium/part.New -/
@[go_sem] def aEX:=k 0x6c081639b0
@[go_sem] def aEY:=k 0x402779d18b0f39fe116751eadf0b2c6b09cea8f61702b4cb8624fcd7fab80a2caad1b20
@[go_sem] def aEZ:=k 0x1e074
@[go_sem] def aE0:=kd 0x16569c53e30f5427b3a9ce6f6915a7798a2f8befab480443435ede6ba5e6aa629738fd993276ec0d4af773591499c68ed2311de38762cb05
@[go_sem] def aE1:=k 0x430f23d2e66702e6396d3d7e16284f0f6fb5d46bf3df41b417165ff7bfd
@[go_sem] def aE2:=k 0xaed2a74bb9d
@[go_sem] def aE3:=k 0x2d68033652ebd
def Je:TF:=⟨57,[.t 8],(.seq (.reg aEX) (.seq (.seq (.reg aEY) (.cond (.t 23) (.seq (.reg aEZ) .ret) .skip)) (.seq (.dreg aE0) (.seq (.reg aE1) (.seq (.reg aE2) (.seq (.reg aE3) .ret))))))⟩
/-! (*horarium/part.Part).Tick -/
@[go_sem] def aE4:=k 0x48ee18
@[go_sem] def aE5:=k 0x8e996d8c6c
@[go_sem] def aE6:=k 0x7c3cbb3303a7e0
@[go_sem] def aE7:=k 0xb5bdd4ab1c
@[go_sem] def aE8:=k 0x18cc5d2061a7498
@[go_sem] def aE9:=k 0x18f3f59392bcf3cd8d5d5b9f5c
@[go_sem] def aFa:=k 0x3163b18e24e49cf63178219c89abf94203520859c
@[go_sem] def aFb:=k 0x40f883ec4336ddf63866cf84462be178d0988d
@[go_sem] def aFc:=k 0x1c502bef9aded
@[go_sem] def aFd:=k 0x37ed50827556be987bd0d
@[go_sem] def uO:=k 0x236443ea69fd9a7190006217ab06145525ebde588044b11fac4ac1ca20d98c686302d
@[go_sem] def uP:=kd 0x19a5847d01f709c825936065fca27548ca2458c85204cedc0e7e5634d58634fc78a74d1d9909
@[go_sem] def uQ:=k 0x2933f3fe75a58ad13fbcf1501
@[go_sem] def uR:=k 0xff231645855b9b399e
@[go_sem] def uS:=k 0x11cd1103868a1cc2
@[go_sem] def uT:=k 0x79525ed63b4b20d0b37587e
@[go_sem] def uU:=k 0x12cf864bfe8b3c92
@[go_sem] def uV:=k 0xa4e8fe663553ab7680c73ec30a1c09413aae2261927459ddf2139e8f82e215d23563dae
@[go_sem] def uW:=k 0xaaacf4f039cc31c675419bf002a636a8f5924d39306e5ff838c46c5259271ef9dcbbc64b4b26cf06e
@[go_sem] def uX:=k 0x8a3d614052b4248b7622
@[go_sem] def uY:=k 0x27857424f022d2
@[go_sem] def uZ:=k 0x40a401972930a656561d21c5e
@[go_sem] def vA:=k 0xf8b9da1351ed9432e
def ME:TF:=⟨103,[.cell 4 6 true,.t 5],(.seq (.reg aE4) (.seq (.seq (.reg aE5) (.cond (.t 12) (.seq (.reg aE6) .ret) .skip)) (.seq (.seq (.reg aE7) (.cond (.t 15) (.reg aE8) .skip)) (.seq (.reg aE9) (.seq (.reg aFa) (.seq (.reg aFb) (.seq (.seq (.reg aFc) (.cond (.t 36) (.seq (.reg aFd) .ret) .skip)) (.seq (.reg uO) (.seq (.dreg uP) (.seq (.reg uQ) (.seq (.block 0 (.seq (.reg uR) (.cond (.t 85) (.reg uS) (.seq (.reg uT) (.cond (.t 89) (.reg uU) (.seq (.reg uV) (.reg uW))))))) (.seq (.seq (.reg uX) (.cond (.t 96) (.seq (.reg uY) (.reg uZ)) .skip)) (.seq (.reg vA) .ret)))))))))))))⟩
/-! (*horarium/part.Part).Stopped -/
@[go_sem] def aFe:=k 0x8678
@[go_sem] def aFf:=k 0xefa0dc463e6daf9a169ae24393fec
def MF:TF:=⟨8,[.t 2],(.seq (.reg aFe) (.seq (.reg aFf) .ret))⟩
/-! (*horarium/part.Part).Same -/
@[go_sem] def aFg:=k 0xf998
@[go_sem] def aFh:=kd 0x7a38be1f3a8d14c3b0fcf2fa988f605a4aa42159b8396f8de78f05997a18311197309714de184757e917c1299bd8e9522d01389276fcaa13dc3701e689f3da1ff6e0699b9a6276427075c30eaddebbdb4503e0230bac3235a77f982eb686829e58c75c332a5c0c8955910774bc63c090be07711dce784e5da5dc41f34fdec39b26d94a6c019d299980988efe9c72281d3f1406f5d224037b06c9c4437cc9b7508d443fe939e45080f6a
def MG:TF:=⟨65,[.t 4],(.seq (.reg aFg) (.seq (.dreg aFh) .ret))⟩
/-! horarium/horariumlaw19.known -/
@[go_sem] def aFi:=k 0x1358
@[go_sem] def aFj:=k 0x85cee96e8602a4807316281c60a55ca22941ffb3ef4836b4a6fce494
@[go_sem] def aFk:=k 0xfc0cfc6b239dbcae5f7e0
@[go_sem] def aFl:=k 0x91ee38fe101a3cd613e6abe99dea19a45fded5ad61f30502161f2a1abd87a4d
@[go_sem] def aFm:=k 0x1358
@[go_sem] def aFn:=k 0x118ecbd011d8242f10749d13b4d0e9d5348acea669d
@[go_sem] def aFo:=k 0x13b2ee903640c94691f5b15d6b508f0636f3dbf866d
@[go_sem] def aFp:=k 0x15d711505aa96e5e1376c5a721d03437395ce94a63d
@[go_sem] def aFq:=k 0x17fb34107f12137594f7d9f0d84fd9683bc5f69c60d
@[go_sem] def aFr:=k 0x1a1f56d0a37ab88d1678ee3a8ecf7e993e2f03ee5dd
@[go_sem] def aAW:=k 0x23926747309bc19e8f46b3578305c98de1f57ac7f57fcab9dcd40ed0ad63da882bb94e464ebf0ad14da4bc966ef47a22e0ff6fab5ebe0bc344eb86ed7d718588b06dd676e7a92f2fdfa937d597db564bb35218c3b7deb0f42238f34cd0666d50846bbc2c84084f1bfe00df13d97ef3c645ae14e97fc64e946d168ab916022b9d86dbca1bb44c5c442e8c7172c4718e329d19b2012cba1475f927b582fdc9ddf967e31d8135318d241e
def TQ:TF:=⟨118,[.t 0],(.seq (.reg aFi) (.seq (.reg aFj) (.seq (.reg aFk) (.seq (.seq (.reg aFl) (.cond (.t 36) (.seq (.reg aFm) .ret) .skip)) (.seq (.reg aFn) (.seq (.reg aFo) (.seq (.reg aFp) (.seq (.reg aFq) (.seq (.reg aFr) (.seq (.reg aAW) .ret))))))))))⟩
/-! (*horarium/part.Part).Clock -/
@[go_sem] def aFs:=k 0x866c
@[go_sem] def aFt:=k 0x72611c5caaf392ea6b4393fec
def TR:TF:=⟨7,[.t 2],(.seq (.reg aFs) (.seq (.reg aFt) .ret))⟩
/-! (*horarium/part.Part).Registers -/
@[go_sem] def aFu:=k 0xfc48
@[go_sem] def aFv:=k 0x944f670eea05d327c8d4a8f93061b519140eafbd990b05a58ba50c
@[go_sem] def aFw:=k 0x3a8689c50c
@[go_sem] def aFx:=k 0xeb3f47fc0c3c6200ce700dd514b06d5972ae876a65cc
def TS:TF:=⟨25,[.cell 4 8 true],(.seq (.reg aFu) (.seq (.seq (.reg aFv) (.cond (.t 15) (.seq (.reg aFw) .ret) .skip)) (.seq (.reg aFx) .ret)))⟩
/-! horarium/config.Right -/
@[go_sem] def aFy:=k 0x64c0d00
@[go_sem] def aFz:=k 0x449176449ce1e59cbbcdcf72a6ce172dee0
@[go_sem] def aFA:=k 0x104c0367a8dc
def TT:TF:=⟨11,[.t 2],(.seq (.reg aFy) (.seq (.reg aFz) (.seq (.reg aFA) .ret)))⟩
/-! horarium/config.Copy -/
@[go_sem] def oJ:=k 0x37c3cd00
@[go_sem] def oK:=k 0xc0d8
@[go_sem] def oL:=k 0x2a61bbe5b30f111c0
@[go_sem] def oM:=k 0xa2f7a28
@[go_sem] def oN:=k 0x392848bab088147026648
@[go_sem] def oO:=k 0x52ef530a9936dbce6906f2cb06eacb0
@[go_sem] def oP:=k 0x188a4a4d429c6ce2df790f072935016822880
@[go_sem] def oQ:=k 0x5546c5309de00
def PD:TC:=(.seq (.reg oM) (.seq (.cond (.t 12) .skip (.exit 0)) (.seq (.block 1 (.seq (.reg oN) (.seq (.reg oO) (.reg oP)))) (.reg oQ))))
@[go_sem] def oS:=k 0x8757a30663aad5c7506ff24e23b9770
@[go_sem] def ZZ:=k 0x577dd7417da687a941
@[go_sem] def Z0:=k 0x7fdc73a9
@[go_sem] def Z2:=k 0x1bbb37110c10cf91169
@[go_sem] def Z3:=kd 0x253613160cc31cab4ac74b374f36c06af617c72b1ecf0b276ae170595
@[go_sem] def Z4:=k 0x99de45dec408d1
def LB:TC:=(.seq (.reg Z0) (.seq (.cond (.t 36) .skip (.exit 2)) (.seq (.block 3 (.seq (.reg Z2) (.dreg Z3))) (.reg Z4))))
@[go_sem] def Z5:=k 0x23bb52aa0a81
def Hw:TF:=⟨49,[.cell 2 3 true],(.seq (.reg oJ) (.seq (.reg oK) (.seq (.seq (.reg oL) (.block 0 (.loop PD))) (.seq (.reg oS) (.seq (.seq (.reg ZZ) (.block 2 (.loop LB))) (.seq (.reg Z5) .ret))))))⟩
/-! slices.Clone[[]byte,byte] -/
@[go_sem] def oT:=k 0x8694
@[go_sem] def oU:=k 0x2706b1bfec
@[go_sem] def oV:=k 0x8694
@[go_sem] def oW:=k 0x250723440fcc091fc9e4
def Kn:TF:=⟨8,[.t 2],(.seq (.reg oT) (.seq (.seq (.reg oU) (.cond (.t 4) (.seq (.reg oV) .ret) .skip)) (.seq (.reg oW) .ret)))⟩
/-! slices.Clone[[]uint32,uint32] -/
@[go_sem] def oX:=k 0x8694
@[go_sem] def oY:=k 0x2706b1bfec
@[go_sem] def oZ:=k 0x8694
@[go_sem] def pA:=k 0x250723440fcc091fc9e4
def Ko:TF:=⟨8,[.t 2],(.seq (.reg oX) (.seq (.seq (.reg oY) (.cond (.t 4) (.seq (.reg oZ) .ret) .skip)) (.seq (.reg pA) .ret)))⟩
/-! horarium/health.New -/
@[go_sem] def pB:=k 0x2c128d00
@[go_sem] def pC:=k 0x1a8ebe49429e650af304
def Kp:TF:=⟨6,[.t 2],(.seq (.reg pB) (.seq (.reg pC) .ret))⟩
/-! horarium/proc.New -/
@[go_sem] def pD:=k 0x8714
@[go_sem] def pE:=k 0x100f116352296635efeab49fe08e65ad92cf96c9c
@[go_sem] def pF:=k 0x8714
@[go_sem] def pG:=k 0x15fa9b6a662cc14
@[go_sem] def pH:=k 0xc226125ac3c
@[go_sem] def pI:=k 0x10af2b18
@[go_sem] def pJ:=k 0x3b7198dd7a4a82b3216f0
@[go_sem] def pK:=kd 0x45d72b7a0f36fa8d0ee2dd24ecce5ac2ad446a024475fd8bcf736f5f9bc253fe7111af607e19
@[go_sem] def pL:=k 0x6ef18de0981c81
def YW:TC:=(.seq (.reg pI) (.seq (.cond (.t 19) .skip (.exit 0)) (.seq (.block 1 (.seq (.reg pJ) (.dreg pK))) (.reg pL))))
@[go_sem] def Z6:=k 0x1c57b4b721ded
def Kq:TF:=⟨36,[.t 2],(.seq (.reg pD) (.seq (.seq (.reg pE) (.cond (.t 13) (.seq (.reg pF) .ret) .skip)) (.seq (.reg pG) (.seq (.seq (.reg pH) (.block 0 (.loop YW))) (.seq (.reg Z6) .ret)))))⟩
/-! (*horarium/part.Part).begin -/
@[go_sem] def pM:=k 0x426bdf5343e42198ba2a797c
@[go_sem] def pN:=k 0x3d3b5e30e488d7e0994c
@[go_sem] def pO:=kd 0x4aa866755d4379949916cceead0bf0b5cb0d3f230b357a7b32261db746a32fed38
@[go_sem] def pP:=k 0x172edc08
@[go_sem] def pQ:=k 0x28cb24d2b33425491c7e0
@[go_sem] def pR:=kd 0x54aa12dc7af305705e0729d35e333df2baabad8de47ab0e918db6c936b2ee70ba7c73359efe9
@[go_sem] def pS:=k 0x85f2add0c8af71
def PE:TC:=(.seq (.reg pP) (.seq (.cond (.t 26) .skip (.exit 0)) (.seq (.block 1 (.seq (.reg pQ) (.dreg pR))) (.reg pS))))
@[go_sem] def pT:=k 0x6b8d0cb0fd1370ae9f89c984dd
def Kr:TF:=⟨46,[],(.seq (.reg pM) (.seq (.reg pN) (.seq (.seq (.dreg pO) (.block 0 (.loop PE))) (.reg pT))))⟩
/-! (*horarium/proc.Table).Pick -/
@[go_sem] def pU:=k 0xf98c
@[go_sem] def pV:=k 0x3226ccf1641e7672dd96a8595831ef5fbc
@[go_sem] def pW:=k 0x8dd8c86de2bf41bb47596b91c
@[go_sem] def pX:=k 0x119cd6a8
@[go_sem] def pY:=k 0x20c766858e679ca0308b11cc1a6820c
@[go_sem] def pZ:=k 0x2a57dc069d311587b39a2cad471424a2ed212e4a449edc34c1
@[go_sem] def qA:=k 0x515f34400976a1a3ea355172cd
@[go_sem] def qB:=k 0x7beff0553202c1
def PF:TC:=(.seq (.reg pX) (.seq (.cond (.t 20) .skip (.exit 0)) (.seq (.block 1 (.seq (.reg pY) (.seq (.reg pZ) (.cond (.t 32) (.reg qA) .skip)))) (.reg qB))))
@[go_sem] def qC:=k 0x7469969cafbb1cc2d
@[go_sem] def Z7:=k 0xfa00
@[go_sem] def Z8:=k 0x6a1a234f147b749398f83778dd
def Ks:TF:=⟨46,[.t 4],(.seq (.reg pU) (.seq (.reg pV) (.seq (.seq (.reg pW) (.block 0 (.loop PF))) (.seq (.seq (.reg qC) (.cond (.t 41) (.seq (.reg Z7) .ret) .skip)) (.seq (.reg Z8) .ret)))))⟩
/-! horarium/isa.Fetch -/
@[go_sem] def qD:=k 0x48ef10
@[go_sem] def qE:=k 0x6262964bc10ebccb37df2903dac201d43b13f5a3de622817ccee770cef3820f463abde9c
@[go_sem] def qF:=k 0x7c3cbe090b59b0
@[go_sem] def qG:=kd 0x95d0018e1cd28a3a3c04ff9535034a2015e1166869c0ae6692ed1d055ea0e4512ada4a092c0169b7bcb179edf8d85e5f8c35c0bb8fc32cfceacd28dd92fe3c60900d373db269
def Kt:TF:=⟨45,[.cell 4 4 true,.t 5],(.seq (.reg qD) (.seq (.seq (.reg qE) (.cond (.t 19) (.seq (.reg qF) .ret) .skip)) (.seq (.dreg qG) .ret)))⟩
/-! horarium/isa.Right -/
@[go_sem] def qH:=k 0x8fecd00
@[go_sem] def qI:=k 0x4284479fe470f5761e1f9ae301ebad09f8252fe111ad0d830
@[go_sem] def qJ:=k 0x8b16abb234b3fe96e7899d60f52b7d443f2123c18920a8dc761d4355c08f6d88f07124bc9a28cb0d385df9a0a3fafbe70dcd8b80135d641171b1f01a5d733ac9a981259ac95e6313c516391
def Ku:TF:=⟨39,[.t 2],(.seq (.reg qH) (.seq (.reg qI) (.seq (.reg qJ) .ret)))⟩
/-! (*horarium/part.Part).do -/
@[go_sem] def qK:=k 0xbd91a165ed0
@[go_sem] def qL:=k 0x8c0f2cc0298c0984834f947b91bafa57f8c
@[go_sem] def qM:=k 0x1ebdfc7784f0
@[go_sem] def qN:=k 0x49583186137b4
@[go_sem] def qO:=k 0x4c948dc68a344
@[go_sem] def qP:=k 0x4fd0ea0700ed4
@[go_sem] def qQ:=k 0x530d464777a64
@[go_sem] def qR:=k 0x5649a287ee5f4
@[go_sem] def qS:=k 0x5985fecb8af84
@[go_sem] def qT:=k 0x5cc25b0c01b14
@[go_sem] def Z9:=k 0xd7b1870dfb9f0589d64bdbf2e11176dba66e671c4051988d
@[go_sem] def aA:=k 0x798f9c9a12bd25
@[go_sem] def aB:=k 0x7ccbf8da215ab5
@[go_sem] def aC:=k 0x12d7b204fc482ba118747b145ebc4cd27164053d82d
@[go_sem] def aD:=k 0x972357d3318b35
@[go_sem] def aE:=k 0x1922a105fa08ce5e675c4815f40c3300254ad
@[go_sem] def aF:=k 0xb16dc55b41bbb5
@[go_sem] def aG:=kd 0x1f5788e21d4a7cbafa92c8f8df14ea043f52d5f36c7c9
@[go_sem] def aH:=k 0x413f9d996f1b44a8c01edccd429f8c686939dae
@[go_sem] def aI:=k 0xe441ece36ffa0b6
@[go_sem] def aJ:=kd 0x2362c2a2c972f2d3b30d7ecc7f2da98193e59e4163e19a0af076a351b3cfa2bc28e7db26cdcd28dc3ca9ad4e70211a41432ca
@[go_sem] def aK:=k 0x12237bb54fcd5e66
@[go_sem] def aL:=k 0xc67b25a0dfbb7a46fd6c23b912f20c4fde
@[go_sem] def aM:=k 0x13c4e6318f227ae6
@[go_sem] def aN:=k 0x13f8abf58f3f7c76
@[go_sem] def aO:=k 0x142c71b98f960e06
@[go_sem] def aP:=k 0x1460377d8fb30f96
@[go_sem] def aQ:=k 0x526c9c43c19f2f18f4cc5d0e84e0b8204f765bfaf57d0d42c90e
@[go_sem] def aR:=k 0x34b13c
def BR:TF:=⟨108,[.t 10,.t 11],(.seq (.reg qK) (.seq (.reg qL) (.seq (.seq (.reg qM) (.block 0 (.seq (.seq (.reg qN) (.cond (.t 21) .skip (.seq (.reg qO) (.cond (.t 21) .skip (.seq (.reg qP) (.cond (.t 21) .skip (.seq (.reg qQ) (.cond (.t 21) .skip (.seq (.reg qR) (.cond (.t 21) .skip (.seq (.reg qS) (.cond (.t 21) .skip (.reg qT))))))))))))) (.cond (.t 21) (.seq (.reg Z9) .ret) (.seq (.seq (.reg aA) (.cond (.t 36) .skip (.reg aB))) (.cond (.t 36) (.seq (.reg aC) .ret) (.seq (.reg aD) (.cond (.t 45) (.reg aE) (.seq (.reg aF) (.cond (.t 53) (.seq (.dreg aG) (.cond (.t 62) (.reg aH) .skip)) (.seq (.reg aI) (.cond (.t 69) (.dreg aJ) (.seq (.reg aK) (.cond (.t 88) (.reg aL) (.seq (.seq (.reg aM) (.cond (.t 96) .skip (.seq (.reg aN) (.cond (.t 96) .skip (.seq (.reg aO) (.cond (.t 96) .skip (.reg aP))))))) (.cond (.t 96) (.seq (.reg aQ) .ret) .skip)))))))))))))))) (.seq (.reg aR) .ret))))⟩
/-! (*horarium/part.Part).fails -/
@[go_sem] def qU:=k 0x82bb0
@[go_sem] def qV:=kd 0xe580220ae71f3211a6ac77b36ce7c1b925d940b60d0bc8517fbf18
@[go_sem] def qW:=kd 0x252844d6d90ef034a50066f46ff28b6e671b7d9b4238691fb4080448
@[go_sem] def qX:=k 0x56b12e473ebf4
@[go_sem] def qY:=kd 0x105f9f74ed18db76ece5f372dda462d9fdaccf1ee67e005fe548053f83584e089
@[go_sem] def qZ:=k 0x7cd8ea592f02b5
@[go_sem] def rA:=k 0x7e49373d82d
def Kv:TF:=⟨41,[],(.seq (.reg qU) (.seq (.dreg qV) (.seq (.dreg qW) (.block 0 (.seq (.reg qX) (.cond (.t 25) (.dreg qY) (.seq (.reg qZ) (.cond (.t 37) (.reg rA) .skip))))))))⟩
/-! (*horarium/health.Log).Stopped -/
@[go_sem] def rB:=k 0x8678
@[go_sem] def rC:=k 0x72611c5ca77ed713404393fec
def Kw:TF:=⟨7,[.t 2],(.seq (.reg rB) (.seq (.reg rC) .ret))⟩
/-! slices.Equal[[]horarium/part.state,horarium/part.state] -/
@[go_sem] def rD:=k 0xf998
@[go_sem] def rE:=k 0x44927ce52a27fb967eb96c9c
@[go_sem] def rF:=k 0xf998
@[go_sem] def rG:=k 0xbe1a9ef8c6c
@[go_sem] def rH:=k 0xc0ad148
@[go_sem] def rI:=k 0x1889bea3bcac
@[go_sem] def rJ:=kd 0x246f4b41120c753239d6f7b2c64f78ba1cfffed232cbf8
@[go_sem] def rK:=k 0xf998
@[go_sem] def rL:=k 0x523e2ed162470
def YX:TC:=(.seq (.reg rH) (.seq (.cond (.t 14) .skip (.exit 0)) (.seq (.block 1 (.seq (.reg rI) (.seq (.dreg rJ) (.cond (.t 24) (.seq (.reg rK) .ret) .skip)))) (.reg rL))))
@[go_sem] def aS:=k 0xf9e8
def Kx:TF:=⟨26,[.t 4],(.seq (.reg rD) (.seq (.seq (.reg rE) (.cond (.t 10) (.seq (.reg rF) .ret) .skip)) (.seq (.seq (.reg rG) (.block 0 (.loop YX))) (.seq (.reg aS) .ret))))⟩
/-! (*horarium/proc.Table).Same -/
@[go_sem] def rM:=k 0xf998
@[go_sem] def rN:=kd 0x574f2640ef72cb1cd6785e2b628188e3b73f8096e715137b768
def Ky:TF:=⟨14,[.t 4],(.seq (.reg rM) (.seq (.dreg rN) .ret))⟩
/-! slices.Equal[[]horarium/health.Fault,horarium/health.Fault] -/
@[go_sem] def rO:=k 0xf998
@[go_sem] def rP:=k 0x44927ce52a27fb967eb96c9c
@[go_sem] def rQ:=k 0xf998
@[go_sem] def rR:=k 0xbe1a9ef8c6c
@[go_sem] def rS:=k 0xc0ad148
@[go_sem] def rT:=k 0x1889bea3bcac
@[go_sem] def rU:=kd 0x246f4d4eba475488334dad11bda0f06f7c51247bd2cbf8
@[go_sem] def rV:=k 0xf998
@[go_sem] def rX:=k 0x523e2ed162470
def YY:TC:=(.seq (.reg rS) (.seq (.cond (.t 14) .skip (.exit 0)) (.seq (.block 1 (.seq (.reg rT) (.seq (.dreg rU) (.cond (.t 24) (.seq (.reg rV) .ret) .skip)))) (.reg rX))))
@[go_sem] def aU:=k 0xf9e8
def Kz:TF:=⟨26,[.t 4],(.seq (.reg rO) (.seq (.seq (.reg rP) (.cond (.t 10) (.seq (.reg rQ) .ret) .skip)) (.seq (.seq (.reg rR) (.block 0 (.loop YY))) (.seq (.reg aU) .ret))))⟩
/-! (*horarium/part.Part).Faults -/
@[go_sem] def rY:=k 0x8694
@[go_sem] def rZ:=k 0xefa0dc48933c254ee82ae24393fec
def KA:TF:=⟨8,[.t 2],(.seq (.reg rY) (.seq (.reg rZ) .ret))⟩
/-! horarium/config.Where -/
@[go_sem] def sC:=k 0xb53492c0d00
@[go_sem] def sD:=k 0x6e6f73612eff5d2ccf2097bbdebbda29eae6466750941e8c6f294528f533272a3ce89b423379bd7c832891b049b317067f2049bf6e24eda8a83d2d0f79bfd804734a130eee8e669bf25a50f071
@[go_sem] def sE:=k 0x661dc6c
@[go_sem] def sF:=k 0x58c3cbf8d6b6573c31
@[go_sem] def sG:=k 0x9971c299
@[go_sem] def sH:=k 0x30873ed571c740d724bfb709f90705ffd
@[go_sem] def sI:=k 0x3a2a5eda1bd2ef6fc150f56ce7761d0a8e9a89b4edbe92b04f2755b87be9298b1
@[go_sem] def sJ:=k 0xabb5f3c4645e9e76d
@[go_sem] def sK:=k 0x2c62cd2e0d5785cd
@[go_sem] def sL:=k 0xb75a1c75bb6eacdad
@[go_sem] def aV:=k 0xd0290801a933f62
def PH:TC:=(.seq (.reg sG) (.seq (.cond (.t 43) .skip (.exit 0)) (.seq (.block 1 (.seq (.reg sH) (.seq (.seq (.reg sI) (.cond (.t 58) (.seq (.reg sJ) .ret) .skip)) (.seq (.reg sK) (.cond (.t 62) (.seq (.reg sL) .ret) .skip))))) (.reg aV))))
@[go_sem] def aW:=k 0xaefb93085d1908f78d2
@[go_sem] def aX:=k 0x3da27ef3a
@[go_sem] def aY:=k 0x80324f4c78ae6e17c2ccb8b91c9bf88f09e
@[go_sem] def aZ:=k 0x622a6224b07eb28aad94592
@[go_sem] def bA:=k 0xe018a1f6c3a34a138e
@[go_sem] def bB:=k 0xfe1e56560be6542
def PI:TC:=(.seq (.reg aX) (.seq (.cond (.t 69) .skip (.exit 2)) (.seq (.block 3 (.seq (.reg aY) (.seq (.reg aZ) (.cond (.t 76) (.seq (.reg bA) .ret) .skip)))) (.reg bB))))
@[go_sem] def bC:=k 0xb1877c1c7530ef69eb2
@[go_sem] def bD:=k 0x4a536051a
@[go_sem] def bE:=k 0x194f0e9814a6c303b23a956293067e
@[go_sem] def bF:=k 0x3a4b379c8b07e0b601aec6b72
@[go_sem] def bG:=k 0x24670fe5a81fde
@[go_sem] def bH:=k 0x79b7eb38f37e20e1ce092fe
@[go_sem] def bI:=k 0x1323eb479a39fe42
def PJ:TC:=(.seq (.reg bD) (.seq (.cond (.t 83) .skip (.exit 4)) (.seq (.block 5 (.seq (.reg bE) (.seq (.reg bF) (.seq (.reg bG) (.cond (.t 91) (.seq (.reg bH) .ret) .skip))))) (.reg bI))))
@[go_sem] def bJ:=k 0x2061866c
def KB:TF:=⟨95,[.t 2,.t 3],(.seq (.reg sC) (.seq (.seq (.reg sD) (.cond (.t 38) (.seq (.reg sE) .ret) .skip)) (.seq (.seq (.reg sF) (.block 0 (.loop PH))) (.seq (.seq (.reg aW) (.block 2 (.loop PI))) (.seq (.seq (.reg bC) (.block 4 (.loop PJ))) (.seq (.reg bJ) .ret))))))⟩
/-! slices.Clip[[]horarium/api.Proc,horarium/api.Proc] -/
@[go_sem] def sM:=k 0x8694
@[go_sem] def sN:=k 0x3d7fcca2db63323f1e161077b1a35b37fec
def Hz:TF:=⟨9,[.t 2],(.seq (.reg sM) (.seq (.reg sN) .ret))⟩
/-! slices.Clone[[]horarium/api.Proc,horarium/api.Proc] -/
@[go_sem] def sO:=k 0x8694
@[go_sem] def sP:=k 0x2706b1bfec
@[go_sem] def sQ:=k 0x8694
@[go_sem] def sR:=k 0x250723440f23c662c9e4
def HA:TF:=⟨8,[.t 2],(.seq (.reg sO) (.seq (.seq (.reg sP) (.cond (.t 4) (.seq (.reg sQ) .ret) .skip)) (.seq (.reg sR) .ret)))⟩
/-! slices.Clip[[]horarium/api.Chan,horarium/api.Chan] -/
@[go_sem] def sS:=k 0x8694
@[go_sem] def sT:=k 0x3d7fcca2dba64b1549d23ff031a35b37fec
def KC:TF:=⟨9,[.t 2],(.seq (.reg sS) (.seq (.reg sT) .ret))⟩
/-! slices.Clone[[]horarium/api.Chan,horarium/api.Chan] -/
@[go_sem] def sU:=k 0x8694
@[go_sem] def sV:=k 0x2706b1bfec
@[go_sem] def sW:=k 0x8694
@[go_sem] def sX:=k 0x25072344126022a2c9e4
def KD:TF:=⟨8,[.t 2],(.seq (.reg sU) (.seq (.seq (.reg sV) (.cond (.t 4) (.seq (.reg sW) .ret) .skip)) (.seq (.reg sX) .ret)))⟩
/-! slices.Clip[[]horarium/api.Node,horarium/api.Node] -/
@[go_sem] def sY:=k 0x8694
@[go_sem] def sZ:=k 0x3d7fcca2dba6e1c1d56ed90e71a35b37fec
def HB:TF:=⟨9,[.t 2],(.seq (.reg sY) (.seq (.reg sZ) .ret))⟩
/-! slices.Clone[[]horarium/api.Node,horarium/api.Node] -/
@[go_sem] def tA:=k 0x8694
@[go_sem] def tB:=k 0x2706b1bfec
@[go_sem] def tC:=k 0x8694
@[go_sem] def tD:=k 0x250723440fd8fa90c9e4
def HC:TF:=⟨8,[.t 2],(.seq (.reg tA) (.seq (.seq (.reg tB) (.cond (.t 4) (.seq (.reg tC) .ret) .skip)) (.seq (.reg tD) .ret)))⟩
/-! (*horarium/proc.Table).Reset -/
@[go_sem] def tE:=k 0x875f5ad4c56e35e60a4393fec
@[go_sem] def tF:=k 0x7667778
@[go_sem] def tG:=k 0x104c038ba2dc
@[go_sem] def tH:=kd 0x12c21a5bec3e2a60a76be34e470cd1045f207be20e33cfb2a0792d4ef5a606ab9d1465a8a0c4d1672e7e588
@[go_sem] def tI:=k 0x51bcc01f6e470
def YZ:TC:=(.seq (.reg tF) (.seq (.cond (.t 9) .skip (.exit 0)) (.seq (.block 1 (.seq (.reg tG) (.dreg tH))) (.reg tI))))
def KE:TF:=⟨26,[],(.seq (.reg tE) (.block 0 (.loop YZ)))⟩
/-! container/heap.Push -/
@[go_sem] def tJ:=k 0xc1a08d7d7a4b97c
@[go_sem] def tK:=k 0x89c34225711d9027c2b54662c
def KF:TF:=⟨12,[],(.seq (.reg tJ) (.reg tK))⟩
/-! (*horarium/proc.ready).Len -/
@[go_sem] def tL:=k 0x866c
@[go_sem] def tM:=k 0xefa0dc3fdd103332b5e60a4393fec
def KG:TF:=⟨8,[.t 2],(.seq (.reg tL) (.seq (.reg tM) .ret))⟩
/-! container/heap.Pop -/
@[go_sem] def tN:=k 0x8828
@[go_sem] def tO:=k 0x3fe9a4c8903c22fe0397c
@[go_sem] def tP:=k 0x28ca476b92447662c
@[go_sem] def tQ:=k 0x3a44e0e7c9fe812dc
@[go_sem] def tR:=k 0x28f4e4804be2ff8c
def KH:TF:=⟨15,[.t 2],(.seq (.reg tN) (.seq (.reg tO) (.seq (.reg tP) (.seq (.reg tQ) (.seq (.reg tR) .ret)))))⟩
/-! horarium/isa.regs -/
@[go_sem] def tS:=k 0x40bbbca78
@[go_sem] def tT:=k 0x1330c
@[go_sem] def tU:=k 0x174a7db001844
@[go_sem] def tV:=k 0x1a86d9f39e1d4
@[go_sem] def tW:=k 0x1dc3363414d64
@[go_sem] def tX:=k 0x20ff927571cf4
@[go_sem] def tY:=k 0x243beeb5e8884
@[go_sem] def tZ:=k 0x27784af65f414
@[go_sem] def uA:=k 0x40bbbcac8
@[go_sem] def uB:=k 0x2ea6379e8dd34
@[go_sem] def bK:=k 0x31e293df048c4
@[go_sem] def bL:=k 0x351ef01f7b454
@[go_sem] def bM:=k 0x385b4c5ff1fe4
@[go_sem] def bN:=k 0xc233252c8
@[go_sem] def bO:=k 0x3f55734a6c504
@[go_sem] def bP:=k 0x4291cf8ae3094
@[go_sem] def bQ:=k 0x40c4bb2c8
@[go_sem] def bR:=k 0x495830b2b6bb4
@[go_sem] def bS:=k 0x4c948cf32d744
@[go_sem] def bT:=k 0x40c4bb278
@[go_sem] def bU:=k 0x40bbbca78
def KI:TF:=⟨24,[.t 2,.t 3,.t 4],(.seq (.reg tS) (.seq (.seq (.reg tT) (.block 0 (.seq (.seq (.reg tU) (.cond (.t 6) .skip (.seq (.reg tV) (.cond (.t 6) .skip (.seq (.reg tW) (.cond (.t 6) .skip (.seq (.reg tX) (.cond (.t 6) .skip (.seq (.reg tY) (.cond (.t 6) .skip (.reg tZ))))))))))) (.cond (.t 6) (.seq (.reg uA) .ret) (.seq (.seq (.reg uB) (.cond (.t 13) .skip (.seq (.reg bK) (.cond (.t 13) .skip (.seq (.reg bL) (.cond (.t 13) .skip (.reg bM))))))) (.cond (.t 13) (.seq (.reg bN) .ret) (.seq (.seq (.reg bO) (.cond (.t 18) .skip (.reg bP))) (.cond (.t 18) (.seq (.reg bQ) .ret) (.seq (.seq (.reg bR) (.cond (.t 21) .skip (.reg bS))) (.cond (.t 21) (.seq (.reg bT) .ret) .skip)))))))))) (.seq (.reg bU) .ret)))⟩
/-! horarium/isa.field -/
@[go_sem] def uC:=k 0xf998
@[go_sem] def uD:=k 0x1d94be77b08fb2a26c3df6ba9494d86ef3d59eb05168a0497150db78d2aceb70dfc76fb69b330c
def HD:TF:=⟨19,[.t 4],(.seq (.reg uC) (.seq (.reg uD) .ret))⟩
/-! (*horarium/part.Part).count -/
@[go_sem] def uE:=k 0xbbf37342540
@[go_sem] def uF:=k 0x23dd12f2e2a2070c
@[go_sem] def uG:=k 0x1508e7aef990
@[go_sem] def uH:=k 0x3552b66419054
@[go_sem] def uI:=kd 0x1b8dae305b72ca04599c0754df018b11a5ed441620fafcdae4c2dea6e7268bc8dc33ca84e557b87fa8
@[go_sem] def uJ:=k 0x6c6a65c050aae5
@[go_sem] def uK:=kd 0x2a5d954ee713b2ba66217ee0a75d1744eb9e3c6fb39482cdb9d162c60fba30421ec9687cd03b427a05edee59
@[go_sem] def uL:=k 0xa4488e8162e175
@[go_sem] def uM:=kd 0x393faadfaf1a407059815531425cd1399f1cc239bb6a50ad0eb950c7f1a893d6baaef82a260cfbf73368a4d37f490a
@[go_sem] def uN:=k 0xda796df48170c06
@[go_sem] def bV:=kd 0x13024b5ab1d72622b6f98ef71d71238aed3654a8f014cbba
@[go_sem] def bW:=k 0x19e625e1c
@[go_sem] def bX:=kd 0x4f3d785063a231bcad42b84ec232845bd45cb500a400f8fa4cf3db87b02393c7ee65406e0cf1ec5135cdd4da3d093a
@[go_sem] def bZ:=k 0x12c003a39102eb16
@[go_sem] def cA:=k 0x2533c
@[go_sem] def cB:=k 0x5949a4fccf1a487802bbd4d496a61cf1b97548e
@[go_sem] def cC:=k 0x16b6a7759d4f467a63571748c784dfac67d00518ae8f7e
@[go_sem] def cD:=k 0x1602d89c11234c16
@[go_sem] def cE:=k 0x1405e6fd56fc30eed8e
@[go_sem] def cF:=kd 0x1226c9677d7816130e9c49ea7073221f863842afad90cbad164a
@[go_sem] def cG:=k 0x19a296a9c966b9e
def BS:TF:=⟨119,[.t 8,.t 9],(.seq (.reg uE) (.seq (.reg uF) (.seq (.seq (.reg uG) (.block 0 (.seq (.reg uH) (.cond (.t 15) (.dreg uI) (.seq (.reg uJ) (.cond (.t 32) (.dreg uK) (.seq (.reg uL) (.cond (.t 49) (.dreg uM) (.seq (.reg uN) (.cond (.t 66) (.seq (.seq (.dreg bV) (.cond (.t 75) (.seq (.reg bW) .ret) .skip)) (.dreg bX)) (.seq (.reg bZ) (.cond (.t 91) (.seq (.reg cA) (.seq (.reg cB) (.cond (.t 99) (.reg cC) .skip))) (.seq (.reg cD) (.cond (.t 107) (.reg cE) .skip)))))))))))))) (.seq (.dreg cF) (.seq (.reg cG) .ret)))))⟩
/-! (*horarium/part.Part).word -/
@[go_sem] def vB:=k 0xba55451ebb0
@[go_sem] def vC:=kd 0xc3f66be4cb142650da73c9771745b71df84171695b3810b7419391b7fa4b0d4228
@[go_sem] def vD:=k 0x110a5791c0c
@[go_sem] def vE:=k 0x136d662fc
@[go_sem] def vF:=k 0x8cc961cadf8ea0730
@[go_sem] def vG:=kd 0xd9b96697e16b21fa103d5540065f5d8df8b56871775b1ae80db2412ab8128364156b9b0d9
@[go_sem] def vH:=kd 0x12067eca29b19223692b71dda3d8d0c4eca953fb599a3172c12424d2eb0e3241442d273519
@[go_sem] def vI:=k 0x3be251060d60eb002075661836138dde6f6515d
def FC:TF:=⟨56,[.t 6,.t 7],(.seq (.reg vB) (.seq (.dreg vC) (.seq (.seq (.reg vD) (.cond (.t 22) (.seq (.reg vE) .ret) .skip)) (.seq (.seq (.reg vF) (.cond (.t 25) (.dreg vG) (.dreg vH))) (.seq (.reg vI) .ret)))))⟩
/-! horarium/isa.Imm -/
@[go_sem] def vJ:=k 0x18490d00
@[go_sem] def vK:=k 0x1f098a449d9c3dde149a087a6d0f0c2b54da9ac1c71f0
def KJ:TF:=⟨11,[.t 2],(.seq (.reg vJ) (.seq (.reg vK) .ret))⟩
/-! (*horarium/proc.Table).Sleep -/
@[go_sem] def vL:=k 0x16cb8
@[go_sem] def vM:=k 0x1519f4bd1a85662c
@[go_sem] def vN:=k 0x35e3dfcba736d38965307f10487e29b48d9219dd1d2dc
@[go_sem] def vO:=k 0xd37a74ea71396bc07df5c
def KK:TF:=⟨21,[.t 6],(.seq (.reg vL) (.seq (.seq (.reg vM) (.cond (.t 9) (.reg vN) .skip)) (.seq (.reg vO) .ret)))⟩
/-! (*horarium/proc.Table).End -/
@[go_sem] def vP:=k 0xf998
@[go_sem] def vQ:=k 0xf19502c7184f30c
@[go_sem] def vR:=k 0xc9e12589ac9d39bdb6ee83d42458a5831ef5fbc
@[go_sem] def vS:=k 0xb369bf6eb3badbe8732ac
def KL:TF:=⟨18,[.t 4],(.seq (.reg vP) (.seq (.seq (.reg vQ) (.cond (.t 7) (.reg vR) .skip)) (.seq (.reg vS) .ret)))⟩
/-! (*horarium/part.Part).call -/
@[go_sem] def vT:=k 0xbbf37342540
@[go_sem] def vU:=k 0x1508e7aef990
@[go_sem] def vV:=k 0x3552b669f1a54
@[go_sem] def vW:=kd 0x2c4bc80c3e5cebd40b7f09a838a0d793eeada94884341a0895395d1224d5d2cf2e03f4ba57984cf9b29e7e62177c56ba9
@[go_sem] def vX:=k 0x100d0085105d9de9fcceb2ef3f31ffe46cd
@[go_sem] def vY:=k 0x802237e70d1845
@[go_sem] def vZ:=kd 0xb3e00a3c5215cdb8c25d7904b1445ffd777525daf91c79
@[go_sem] def wA:=k 0x107b1c550116066f9e0d67f96fbfef5331d
@[go_sem] def wB:=k 0x18694bd48477e059dd3b1be0bfe192f3a391959c438aed
@[go_sem] def wC:=k 0x205ede61c
@[go_sem] def cH:=k 0x2bc79affccaca954b71
@[go_sem] def cI:=kd 0x8bd96638d7dd8e36fc209b360f0fc48c1e15d6c34d6769d9a
@[go_sem] def cJ:=kd 0xde5737b8ea818aca29b4c5f4d0c00eb5402e6c7f001f2c751b3e8de29a0d560dd36a
@[go_sem] def cK:=k 0x189fb9d5c8d6d1e
@[go_sem] def cL:=k 0x20bd199c860d93ef6fa90910cac7095068b04ccd56a5fb3548683e
@[go_sem] def cM:=k 0x459fb1acc99e
@[go_sem] def cN:=kd 0xe952cc0649847b41f845841257566462e0026c15e14dd79657a
@[go_sem] def cO:=k 0x699d5301d52b6eb294943d29cff5503affae
@[go_sem] def cP:=k 0x192e19b0caf277e
def KM:TF:=⟨101,[.t 8,.t 9],(.seq (.reg vT) (.seq (.seq (.reg vU) (.block 0 (.seq (.reg vV) (.cond (.t 15) (.seq (.dreg vW) (.seq (.reg vX) .ret)) (.seq (.reg vY) (.cond (.t 38) (.seq (.dreg vZ) (.seq (.reg wA) .ret)) .skip)))))) (.seq (.seq (.reg wB) (.cond (.t 58) (.seq (.reg wC) .ret) .skip)) (.seq (.seq (.reg cH) (.cond (.t 61) (.seq (.dreg cI) (.seq (.dreg cJ) (.seq (.reg cK) .ret))) .skip)) (.seq (.reg cL) (.seq (.seq (.reg cM) (.cond (.t 87) (.dreg cN) .skip)) (.seq (.reg cO) (.seq (.reg cP) .ret))))))))⟩
/-! (*horarium/health.Log).Tell -/
@[go_sem] def wD:=k 0x1dfcc
@[go_sem] def wE:=k 0x3ed441580df4fdd1d2dc
@[go_sem] def wF:=k 0x1e040
@[go_sem] def wG:=k 0x184665fc17ab15d72055d53a86d4a32aa726938d7ac703cc7f1fabef261efdaf5f91c
@[go_sem] def wH:=k 0x132b14be8ce666904be56c
@[go_sem] def wI:=k 0x1244cd1afc710647840d75f8623fb5d21d
@[go_sem] def wJ:=k 0x1c6b1ee6075ed
def KN:TF:=⟨36,[.t 8],(.seq (.reg wD) (.seq (.seq (.reg wE) (.cond (.t 13) (.seq (.reg wF) .ret) .skip)) (.seq (.reg wG) (.seq (.reg wH) (.seq (.reg wI) (.seq (.reg wJ) .ret))))))⟩
/-! slices.Equal[[]horarium/proc.proc,horarium/proc.proc] -/
@[go_sem] def wK:=k 0xf998
@[go_sem] def wL:=k 0x44927ce52a27fb967eb96c9c
@[go_sem] def wM:=k 0xf998
@[go_sem] def wN:=k 0xbe1a9ef8c6c
@[go_sem] def wO:=k 0xc0ad148
@[go_sem] def wP:=k 0x1889bea3bcac
@[go_sem] def wQ:=kd 0x246f6d25a9c07ec26d8ce4b6697af06f7c51247bd2cbf8
@[go_sem] def wR:=k 0xf998
@[go_sem] def wS:=k 0x523e2ed162470
def Y0:TC:=(.seq (.reg wO) (.seq (.cond (.t 14) .skip (.exit 0)) (.seq (.block 1 (.seq (.reg wP) (.seq (.dreg wQ) (.cond (.t 24) (.seq (.reg wR) .ret) .skip)))) (.reg wS))))
@[go_sem] def cQ:=k 0xf9e8
def KO:TF:=⟨26,[.t 4],(.seq (.reg wK) (.seq (.seq (.reg wL) (.cond (.t 10) (.seq (.reg wM) .ret) .skip)) (.seq (.seq (.reg wN) (.block 0 (.loop Y0))) (.seq (.reg cQ) .ret))))⟩
/-! (*horarium/health.Log).All -/
@[go_sem] def wT:=k 0x8694
@[go_sem] def wU:=k 0xefa0dc49d7d058e2b043b74393fec
def KP:TF:=⟨8,[.t 2],(.seq (.reg wT) (.seq (.reg wU) .ret))⟩
/-! horarium/config.Name -/
@[go_sem] def wV:=k 0x8678
@[go_sem] def wW:=k 0xba138e0ec9c
@[go_sem] def wX:=k 0x7667778
@[go_sem] def wY:=k 0x1058f4fca2dc
@[go_sem] def wZ:=k 0x89882b31b9b93d2a84c6c
@[go_sem] def xA:=k 0x9202c36ad14e793b6b0f60a528786a1811c
@[go_sem] def xB:=k 0xd636139675dc23631da7ceb18168ad838d6dd1e8479b99e962d0f59476ae49ee432964e36d02ec374a0ce020e3e6fb5e867d
@[go_sem] def xC:=k 0x8678
@[go_sem] def xD:=k 0x7b6190529f02c1
def Y1:TC:=(.seq (.reg wX) (.seq (.cond (.t 9) .skip (.exit 0)) (.seq (.block 1 (.seq (.reg wY) (.seq (.reg wZ) (.seq (.reg xA) (.seq (.reg xB) (.cond (.t 37) (.seq (.reg xC) .ret) .skip)))))) (.reg xD))))
@[go_sem] def cR:=k 0x46ecca3d6a56e424b581010b148408143db3176d44224ad82d
def KQ:TF:=⟨47,[.t 2],(.seq (.reg wV) (.seq (.seq (.reg wW) (.block 0 (.loop Y1))) (.seq (.reg cR) .ret)))⟩
/-! slices.ContainsFunc[[]horarium/api.Part,horarium/api.Part] -/
@[go_sem] def xE:=k 0xf998
@[go_sem] def xF:=k 0x132733204ecba47689f0984f30c
def KR:TF:=⟨9,[.t 4],(.seq (.reg xE) (.seq (.reg xF) .ret))⟩
/-! horarium/config.Where$1 -/
@[go_sem] def xG:=k 0x8ff0690
@[go_sem] def xH:=k 0x44a44453da2c6657d43590c8e8775d80
def KT:TF:=⟨9,[.t 3],(.seq (.reg xG) (.seq (.reg xH) .ret))⟩
/-! horarium/config.part -/
@[go_sem] def xI:=k 0x8fecd00
@[go_sem] def xJ:=k 0x17425ab361ea0
@[go_sem] def xK:=k 0x7581394
@[go_sem] def xL:=k 0x20cbcccbfa6e0
@[go_sem] def xM:=k 0x72147b5575d2ebadaa0e719e1a62946c
@[go_sem] def xN:=k 0x8678
@[go_sem] def xO:=k 0x37d9de1f517f0
def Y2:TC:=(.seq (.reg xK) (.seq (.cond (.t 9) .skip (.exit 0)) (.seq (.block 1 (.seq (.reg xL) (.seq (.reg xM) (.cond (.t 16) (.seq (.reg xN) .ret) .skip)))) (.reg xO))))
@[go_sem] def xP:=k 0x26c5bf8ad9af227640618562dac6383a861013829b3199160
@[go_sem] def xQ:=k 0x9ce2e770e6c5884cfa5c04dfbd4e73b10fbe4750a6dc8c46c61021f7c9f8bebef982a9a724fcadc9334b91b5bd88cef681464ce9a01c486cd8eca5bcf0db0706ebf6a1dc342b0d04ce2c77017770ca4b514fe1
def KU:TF:=⟨54,[.t 2],(.seq (.reg xI) (.seq (.seq (.reg xJ) (.block 0 (.loop Y2))) (.seq (.reg xP) (.seq (.reg xQ) .ret))))⟩
/-! horarium/config.channel -/
@[go_sem] def xR:=k 0x103acd158690
@[go_sem] def xS:=k 0x64cf31c
@[go_sem] def xU:=k 0xcf202cbf5c0
@[go_sem] def xV:=k 0x6791dc251c
@[go_sem] def xW:=k 0x1f252ef192bdc305568ad38b6e0
@[go_sem] def xX:=k 0x49b440ff17683aa8e098e274be2b83e0b8f1d0540f6742e673b244e816c4841126ebd371386c331504dd36f35d067a4c156b024a8efa32382548e55589f7d72b22ee690ee978fc83f13e32dba4b96a86c684f4961027ba16d3b12874c6d6e6521
def KV:TF:=⟨48,[.t 4],(.seq (.reg xR) (.seq (.reg xS) (.seq (.seq (.reg xU) (.cond (.t 9) (.reg xV) .skip)) (.seq (.reg xW) (.seq (.reg xX) .ret)))))⟩
/-! horarium/config.table -/
@[go_sem] def xY:=k 0x381c8b4690
@[go_sem] def xZ:=k 0x53cde1fa88dc534e42d00b7cf27b37cd1bc
@[go_sem] def yA:=k 0x136a4af531fc
@[go_sem] def yB:=k 0x16de9ee0251c
@[go_sem] def yC:=k 0x2d1dc765479b6cac
@[go_sem] def yD:=k 0x74198c
@[go_sem] def yE:=k 0xd2d2ee9c917b05cba43a0
def KW:TF:=⟨21,[.t 4],(.seq (.reg xY) (.seq (.reg xZ) (.seq (.seq (.reg yA) (.cond (.t 13) (.seq (.reg yB) .ret) .skip)) (.seq (.seq (.reg yC) (.cond (.t 17) (.seq (.reg yD) .ret) .skip)) (.seq (.reg yE) .ret)))))⟩
/-! container/heap.up -/
@[go_sem] def yF:=k 0x956b99fdcceb847530250c
@[go_sem] def yG:=k 0x7f7b70bcbc30dab860a234d55c06e94b79c10fa2554a4267bc
@[go_sem] def yH:=k 0xc2e303c1a70cfb75adf5c
@[go_sem] def yI:=k 0x23a93b808d9c
def MR:TC:=(.block 1 (.seq (.reg yF) (.seq (.seq (.reg yG) (.cond (.t 17) (.exit 0) .skip)) (.seq (.reg yH) (.reg yI)))))
def HE:TF:=⟨23,[],(.block 0 (.loop MR))⟩
/-! container/heap.down -/
@[go_sem] def yJ:=k 0x16cb8
@[go_sem] def yK:=k 0x122ae8ae7e6c
@[go_sem] def yL:=k 0x12a9f39f3cd68c05ecc23fc
@[go_sem] def yM:=k 0x11bc537822be0240d571935e245df7691c2ac
@[go_sem] def yN:=k 0x2410c725559c
@[go_sem] def yO:=k 0x8d93166a23d5acf2c
@[go_sem] def yP:=k 0x2be86c0d69c0ad9524f57cc81019c201c257ecec8c6ce89a4d
@[go_sem] def yQ:=k 0x1b9f44332a05d
@[go_sem] def yR:=k 0x165e5f021d6392bc33454db6f1ed
@[go_sem] def yS:=k 0x6a681945d799aa00a3011bd
@[go_sem] def cS:=k 0x23afb219e7bfd
def GM:TC:=(.block 1 (.seq (.reg yL) (.seq (.seq (.reg yM) (.cond (.t 21) (.exit 0) .skip)) (.seq (.reg yN) (.seq (.seq (.reg yO) (.seq (.reg yP) (.cond (.t 33) (.reg yQ) .skip))) (.seq (.seq (.reg yR) (.cond (.t 39) (.exit 0) .skip)) (.seq (.reg yS) (.reg cS))))))))
@[go_sem] def cT:=k 0x7b48f3c71fae466e2fded8d
def FD:TF:=⟨48,[.t 6],(.seq (.reg yJ) (.seq (.reg yK) (.seq (.block 0 (.loop GM)) (.seq (.reg cT) .ret))))⟩
/-! (*horarium/proc.Table).is -/
@[go_sem] def yT:=k 0xf998
@[go_sem] def yU:=k 0x43dcdaeb36a9c5eacfc6acdd5b775503a507d10ccac40eba686fb6a2650c
def KX:TF:=⟨16,[.t 4],(.seq (.reg yT) (.seq (.reg yU) .ret))⟩
/-! (*horarium/part.Part).channel -/
@[go_sem] def yV:=k 0x16cb8
@[go_sem] def yW:=k 0x73a06bbfed1ca1caf3a8e0d28596e17bffbd1bc
@[go_sem] def yX:=k 0x16cb8
@[go_sem] def yY:=k 0x2ae631c792d33ca632fd836332a2a05b0f5b8006be1792c3c
@[go_sem] def yZ:=kd 0x115d8311aabe9c1e3d5ffaef0224bd513a1866a98c87116f5cefb2077858474996e4dd2fa9bd5d4cad6207a622fbb525eda979fcad0ed26739efaaabee508f4a4a179
def KY:TF:=⟨47,[.t 6],(.seq (.reg yV) (.seq (.seq (.reg yW) (.cond (.t 15) (.seq (.reg yX) .ret) .skip)) (.seq (.reg yY) (.seq (.dreg yZ) .ret))))⟩
/-! (*horarium/health.Log).action -/
@[go_sem] def zA:=k 0xf98c
@[go_sem] def zB:=k 0x466837b5ba768f1391266101551cde9c
@[go_sem] def zC:=k 0xf5d8c
@[go_sem] def zD:=k 0x1f1e3d136515c957a92211ccd071bb785750685fc
@[go_sem] def zE:=k 0xb7f4e78cb2ad8bbc53b0021400a092ec
@[go_sem] def zF:=k 0x28aa9a3b6c4c
@[go_sem] def zG:=k 0xf5d8c
def CJ:TF:=⟨26,[.t 4],(.seq (.reg zA) (.seq (.seq (.reg zB) (.cond (.t 11) (.seq (.reg zC) .ret) .skip)) (.seq (.seq (.reg zD) (.seq (.reg zE) (.cond (.t 24) (.seq (.reg zF) .ret) .skip))) (.seq (.reg zG) .ret))))⟩
/-! slices.Clone[[]horarium/health.Fault,horarium/health.Fault] -/
@[go_sem] def zH:=k 0x8694
@[go_sem] def zI:=k 0x2706b1bfec
@[go_sem] def zJ:=k 0x8694
@[go_sem] def zK:=k 0x250723440fd8fa90c9e4
def FE:TF:=⟨8,[.t 2],(.seq (.reg zH) (.seq (.seq (.reg zI) (.cond (.t 4) (.seq (.reg zJ) .ret) .skip)) (.seq (.reg zK) .ret)))⟩
/-! slices.IndexFunc[[]horarium/api.Part,horarium/api.Part] -/
@[go_sem] def zL:=k 0xf98c
@[go_sem] def zM:=k 0xba0f2b96c9c
@[go_sem] def zN:=k 0x7667778
@[go_sem] def zO:=k 0x1072d7dea2dc
@[go_sem] def zP:=k 0x18497871e09f5266607cf0c39c7e6c
@[go_sem] def zQ:=k 0x1bb929399fcc
@[go_sem] def zR:=k 0x3b163a5f55180
def Y3:TC:=(.seq (.reg zN) (.seq (.cond (.t 9) .skip (.exit 0)) (.seq (.block 1 (.seq (.reg zO) (.seq (.reg zP) (.cond (.t 16) (.seq (.reg zQ) .ret) .skip)))) (.reg zR))))
@[go_sem] def zS:=k 0xfa00
def KZ:TF:=⟨19,[.t 4],(.seq (.reg zL) (.seq (.seq (.reg zM) (.block 0 (.loop Y3))) (.seq (.reg zS) .ret)))⟩
/-! horarium/config.procs -/
@[go_sem] def zT:=k 0x8678
@[go_sem] def zU:=k 0xb940148330c
@[go_sem] def zV:=k 0x678cbe8
@[go_sem] def zW:=k 0x2d5fd122ed28b959bb7c0
@[go_sem] def zX:=k 0x566e689e072f3ccf82c68038f897f32c6f731c1b403675470
@[go_sem] def zY:=k 0x8678
@[go_sem] def zZ:=k 0x44b16c2efbe30
def Y4:TC:=(.seq (.reg zV) (.seq (.cond (.t 8) .skip (.exit 0)) (.seq (.block 1 (.seq (.reg zW) (.seq (.reg zX) (.cond (.t 20) (.seq (.reg zY) .ret) .skip)))) (.reg zZ))))
@[go_sem] def aAa:=k 0xb3297f04f6c45b5a95dcc363f897d71caef76eb06d059c
def K0:TF:=⟨30,[.t 2],(.seq (.reg zT) (.seq (.seq (.reg zU) (.block 0 (.loop Y4))) (.seq (.reg aAa) .ret)))⟩
/-! horarium/config.within -/
@[go_sem] def aAb:=k 0xf998
@[go_sem] def aAc:=k 0x2625f569f7ab4e2d7e156b6f337a13076fb69b330c
def K1:TF:=⟨12,[.t 4],(.seq (.reg aAb) (.seq (.reg aAc) .ret))⟩
/-! horarium/runs.Of -/
@[go_sem] def aAd:=k 0x32e494
@[go_sem] def aAe:=k 0x1d7f4d096a62194c
@[go_sem] def aAf:=k 0x11cc1cc6946c
@[go_sem] def aAg:=k 0x12eb105c7a7078c
@[go_sem] def aAh:=k 0x13344
@[go_sem] def aAi:=k 0x2c3b0fc4ffb5391c
@[go_sem] def aAj:=k 0x1121455bdbf25888e29ae846dddab46f321a51cc
@[go_sem] def aAk:=k 0x10fdeb3dc0c
@[go_sem] def aAl:=k 0x1ecd4852c10aa8f9b4edae792c
def Y5:TC:=(.block 1 (.seq (.reg aAj) (.seq (.seq (.reg aAk) (.cond (.t 22) (.exit 0) .skip)) (.reg aAl))))
@[go_sem] def cU:=k 0x51f949bccfe59f6c
@[go_sem] def cV:=k 0x2bc37bbf489928c
@[go_sem] def cW:=k 0x136d57c94
@[go_sem] def cX:=k 0x18452cb88e393d
def K2:TF:=⟨33,[.t 2,.t 3],(.seq (.reg aAd) (.seq (.seq (.reg aAe) (.seq (.reg aAf) (.cond (.t 12) (.seq (.reg aAg) .ret) .skip))) (.seq (.reg aAh) (.seq (.reg aAi) (.seq (.block 0 (.loop Y5)) (.seq (.seq (.reg cU) (.seq (.reg cV) (.cond (.t 31) (.seq (.reg cW) .ret) .skip))) (.seq (.reg cX) .ret)))))))⟩
/-! slices.ContainsFunc[[]horarium/api.Run,horarium/api.Run] -/
@[go_sem] def aAm:=k 0xf998
@[go_sem] def aAn:=k 0x132733204ecba47842019a4f30c
def K3:TF:=⟨9,[.t 4],(.seq (.reg aAm) (.seq (.reg aAn) .ret))⟩
/-! horarium/config.table$1 -/
@[go_sem] def aAo:=k 0x8ff0690
@[go_sem] def aAp:=k 0x8ab5dfe4d19a2b4afb6b485110c8e8775d80
def K4:TF:=⟨10,[.t 3],(.seq (.reg aAo) (.seq (.reg aAp) .ret))⟩
/-! horarium/bound.Holds -/
@[go_sem] def aAq:=k 0x381c8b4690
@[go_sem] def aAr:=k 0x2abedd588ae1ef6e0
@[go_sem] def aAs:=k 0xc0ad148
@[go_sem] def aAt:=k 0x44471cb2c64413c9dbd54
@[go_sem] def aAu:=k 0x2a55cec743f33671e7de90bab0ee1ca04a17cc
@[go_sem] def aAv:=k 0x1abf88ce6d9dadd8acda8ed20ec38ca9e08b91ece9ca304b40e8791d3c29242628f8989731
@[go_sem] def aAw:=k 0x89af8c
@[go_sem] def aAx:=k 0x75298f199b8fa1
def Y6:TC:=(.seq (.reg aAs) (.seq (.cond (.t 14) .skip (.exit 0)) (.seq (.block 1 (.seq (.reg aAt) (.seq (.reg aAu) (.seq (.reg aAv) (.cond (.t 35) (.seq (.reg aAw) .ret) .skip))))) (.reg aAx))))
@[go_sem] def aAy:=k 0x5866aa9fe1d4652d11
@[go_sem] def cY:=k 0x92228779
@[go_sem] def cZ:=k 0x5224a88f5044044b9fc0d9b4322cb24dd
@[go_sem] def dA:=kd 0x3b174c1612e018556e3db6b659044c1fd2022168098275ba26ec1cbf1db1daf6d97858c5bbb5
@[go_sem] def dB:=k 0x90e18c
@[go_sem] def dC:=k 0xbdb6f3e5c38201
def PK:TC:=(.seq (.reg cY) (.seq (.cond (.t 41) .skip (.exit 2)) (.seq (.block 3 (.seq (.reg cZ) (.seq (.dreg dA) (.cond (.t 57) (.seq (.reg dB) .ret) .skip)))) (.reg dC))))
@[go_sem] def dD:=k 0xf98c
def K5:TF:=⟨59,[.t 4],(.seq (.reg aAq) (.seq (.seq (.reg aAr) (.block 0 (.loop Y6))) (.seq (.seq (.reg aAy) (.block 2 (.loop PK))) (.seq (.reg dD) .ret))))⟩
/-! horarium/node.Right -/
@[go_sem] def aAz:=k 0x866c
@[go_sem] def aAA:=k 0x449176449ce1e59cbbcdcf72a6d35f72c9c
@[go_sem] def aAB:=k 0x45bf5f1e10a5000f8c6c
@[go_sem] def aAC:=k 0x161c6c
@[go_sem] def aAD:=k 0x5b57af85fa35ebeeb2ac
@[go_sem] def aAE:=k 0x56de6c
@[go_sem] def aAF:=k 0xe1dffff626767a9c398ec
@[go_sem] def aAG:=k 0x65426c
@[go_sem] def aAH:=k 0x47e0eef1f059872c
@[go_sem] def aAI:=k 0x820a6c
@[go_sem] def dE:=k 0x866c
def K6:TF:=⟨25,[.t 2],(.seq (.reg aAz) (.seq (.reg aAA) (.seq (.block 0 (.seq (.reg aAB) (.cond (.t 10) (.seq (.reg aAC) .ret) (.seq (.reg aAD) (.cond (.t 14) (.seq (.reg aAE) .ret) (.seq (.reg aAF) (.cond (.t 18) (.seq (.reg aAG) .ret) (.seq (.reg aAH) (.cond (.t 22) (.seq (.reg aAI) .ret) .skip))))))))) (.seq (.reg dE) .ret))))⟩
/-! horarium/cursor.New -/
@[go_sem] def aAJ:=k 0x8714
@[go_sem] def aAK:=k 0xe8d6debafebf97c
@[go_sem] def aAL:=k 0x8714
@[go_sem] def aAM:=k 0x5f270802eed25c332e7ba62c
@[go_sem] def aAN:=k 0x8f5e7be26c
@[go_sem] def aAO:=k 0x15268dc8558c
def K7:TF:=⟨14,[.t 2],(.seq (.reg aAJ) (.seq (.seq (.reg aAK) (.cond (.t 6) (.seq (.reg aAL) .ret) .skip)) (.seq (.reg aAM) (.seq (.reg aAN) (.seq (.reg aAO) .ret)))))⟩
/-! (*horarium/cursor.Cursor).Next -/
@[go_sem] def aAP:=k 0x487adc
@[go_sem] def aAQ:=kd 0x1bf04673dcadf3cc66ac6af200ac57f2ae3902ec9ab137b768
@[go_sem] def aAR:=k 0x4dac02964ebfb4
@[go_sem] def aAS:=kd 0x47a9e3fbd77fb09494f6d34a6bf835e43d12d973b9cb0ca7bec47619e585e73073ec229e6da46cea574dd89901fdac74227969a9edcde89a13b80a1b223ac5234ca8015333efcc9a3cfe80098bf9
@[go_sem] def aAT:=kd 0x1a4cdb395a8af2912203042ef2dffad0fdb65abe22d3dfed427f0e66339
@[go_sem] def aAU:=k 0xabbf2f4fe0d
@[go_sem] def aAV:=k 0x9b98a112dd8c01a5
def HF:TF:=⟨56,[.cell 2 2 true,.t 3],(.seq (.reg aAP) (.seq (.seq (.dreg aAQ) (.cond (.t 14) (.seq (.reg aAR) .ret) .skip)) (.seq (.dreg aAS) (.seq (.dreg aAT) (.seq (.reg aAU) (.seq (.reg aAV) .ret))))))⟩
/-! horarium/runs.Tidy -/
@[go_sem] def aAX:=k 0x8694
@[go_sem] def aAY:=k 0xc024
@[go_sem] def aAZ:=k 0xbade42aa62c
@[go_sem] def aA0:=k 0x8542308
@[go_sem] def aA1:=k 0x387fbc7eafed083b70ee0
@[go_sem] def aA2:=k 0x295205be90e7958c
@[go_sem] def aA3:=k 0x1d958502a34fac7cf76cc80
@[go_sem] def aA4:=kd 0x9e2c4fec869ee6ad8239a42c008f9b953c56a21126d161e1686865c910968c7e7da28c2f140a5179
@[go_sem] def aA5:=kd 0x3b89248b0a55327029eac1a7ed4abb8c45ad1997d2e538956929f6bc8f26dc18ed0cc5d8beddd81108ff169
@[go_sem] def aA6:=k 0x154fa9dc5344ce0f1ae6bc48ac
@[go_sem] def dF:=k 0xa57f31073aef11
def PL:TC:=(.seq (.reg aA0) (.seq (.cond (.t 10) .skip (.exit 0)) (.seq (.block 1 (.seq (.reg aA1) (.seq (.reg aA2) (.block 2 (.seq (.reg aA3) (.cond (.t 19) .skip (.seq (.dreg aA4) (.cond (.t 23) (.dreg aA5) (.reg aA6))))))))) (.reg dF))))
@[go_sem] def dG:=k 0x9a5a3d3dfd7f4f07d
def K8:TF:=⟨54,[.t 2],(.seq (.reg aAX) (.seq (.reg aAY) (.seq (.seq (.reg aAZ) (.block 0 (.loop PL))) (.seq (.reg dG) .ret))))⟩
/-! slices.IndexFunc[[]horarium/api.Run,horarium/api.Run] -/
@[go_sem] def aA7:=k 0xf98c
@[go_sem] def aA8:=k 0xba0f2b96c9c
@[go_sem] def aA9:=k 0x7667778
@[go_sem] def aBa:=k 0x1072d7dea2dc
@[go_sem] def aBb:=k 0x18497871d239c77f087376a39c7e6c
@[go_sem] def aBc:=k 0x1bb929399fcc
@[go_sem] def aBd:=k 0x3b163a5f55180
def Y7:TC:=(.seq (.reg aA9) (.seq (.cond (.t 9) .skip (.exit 0)) (.seq (.block 1 (.seq (.reg aBa) (.seq (.reg aBb) (.cond (.t 16) (.seq (.reg aBc) .ret) .skip)))) (.reg aBd))))
@[go_sem] def aBe:=k 0xfa00
def K9:TF:=⟨19,[.t 4],(.seq (.reg aA7) (.seq (.seq (.reg aA8) (.block 0 (.loop Y7))) (.seq (.reg aBe) .ret)))⟩
/-! horarium/bound.Late -/
@[go_sem] def aBf:=k 0x16cac
@[go_sem] def aBg:=k 0x112149efb8928b6f4409585649c3d7a83fa732ac
@[go_sem] def aBh:=k 0x10244787d36037563f639c
@[go_sem] def aBi:=k 0x16cac
@[go_sem] def aBj:=k 0x12d7519505886d5c0b7bdc
@[go_sem] def aBk:=k 0x16d20
@[go_sem] def aBl:=k 0x58287f065ea0d88c
@[go_sem] def aBm:=k 0x252ec
@[go_sem] def aBn:=k 0x60df26efc7ad
@[go_sem] def aBo:=k 0x788d3889
@[go_sem] def dH:=k 0x20e9309bc9d512c52a9d661
@[go_sem] def dI:=k 0xe94cf4719c059cf4d1da2634481abd06d4f51511
@[go_sem] def dJ:=k 0xa0c0fdb9
@[go_sem] def dK:=k 0x225beccd63d26dd9b79
@[go_sem] def dL:=k 0x54fbb0eb5e308d603835076a88c940a67c9f33a0978485c63d
@[go_sem] def dM:=k 0xb7720138270ee1
def Iz:TC:=(.seq (.reg dJ) (.seq (.cond (.t 45) .skip (.exit 3)) (.seq (.block 4 (.seq (.reg dK) (.reg dL))) (.reg dM))))
@[go_sem] def dN:=k 0xba1ffd75944871
def PM:TC:=(.seq (.reg aBo) (.seq (.cond (.t 34) .skip (.exit 1)) (.seq (.block 2 (.seq (.reg dH) (.seq (.reg dI) (.block 3 (.loop Iz))))) (.reg dN))))
@[go_sem] def dP:=k 0x2effb89ec05dd
def La:TF:=⟨59,[.t 6],(.seq (.reg aBf) (.seq (.reg aBg) (.seq (.block 0 (.seq (.reg aBh) (.cond (.t 21) (.seq (.reg aBi) .ret) (.seq (.reg aBj) (.cond (.t 25) (.seq (.reg aBk) .ret) .skip))))) (.seq (.reg aBl) (.seq (.reg aBm) (.seq (.seq (.reg aBn) (.block 1 (.loop PM))) (.seq (.reg dP) .ret)))))))⟩
/-! horarium/bound.Budget -/
@[go_sem] def aBp:=k 0x16cac
@[go_sem] def aBq:=k 0x2c5258143ffe791c
@[go_sem] def aBr:=k 0x19923bb052e4305dd72bbbdf5d3b2a362de1154d0a12c9e13808254c266503c
@[go_sem] def aBs:=k 0x16d20
@[go_sem] def aBt:=k 0x13cd5edd107aec8a2a1efc
@[go_sem] def aBu:=k 0x32a0661c2fac
@[go_sem] def aBv:=k 0x252ec
@[go_sem] def aBw:=k 0x5ea173a0145be2d3d
@[go_sem] def aBx:=k 0x28c7c
@[go_sem] def aBy:=k 0x62498f5bbe9d
@[go_sem] def dQ:=k 0x92228779
@[go_sem] def dR:=k 0x23d094989d1b24f833f2551
@[go_sem] def dS:=k 0x2ea19aaf9af48eaf5b754a30e39fdde6315992998457e878265538014bf1e9d074fa6557934cb0043fd
@[go_sem] def dT:=k 0xbdb6f3e5c38201
def PO:TC:=(.seq (.reg dQ) (.seq (.cond (.t 41) .skip (.exit 2)) (.seq (.block 3 (.seq (.reg dR) (.reg dS))) (.reg dT))))
@[go_sem] def dU:=k 0xa00dbe2c785e2e409c5db6d
@[go_sem] def dV:=k 0x6145d90ef29900802ead9ed
def PP:TC:=(.seq (.seq (.reg aBw) (.cond (.t 34) .skip (.exit 0))) (.seq (.block 1 (.seq (.reg aBx) (.seq (.seq (.reg aBy) (.block 2 (.loop PO))) (.reg dU)))) (.reg dV)))
@[go_sem] def dW:=k 0x323c14dde881d
def Lb:TF:=⟨63,[.t 6],(.seq (.reg aBp) (.seq (.reg aBq) (.seq (.seq (.reg aBr) (.cond (.t 27) (.seq (.reg aBs) .ret) .skip)) (.seq (.reg aBt) (.seq (.reg aBu) (.seq (.seq (.reg aBv) (.block 0 (.loop PP))) (.seq (.reg dW) .ret)))))))⟩
/-! horarium/node.Length -/
@[go_sem] def aBz:=k 0x8ff066c
@[go_sem] def aBA:=k 0xa3179b9673ac9c
@[go_sem] def aBB:=k 0x8ff066c
@[go_sem] def aBC:=k 0x630a4d4ad15253cd403a7b873e1c5ec52dc
@[go_sem] def aBD:=k 0xb58294f31c
@[go_sem] def aBE:=k 0x62b2e1037663c
@[go_sem] def aBF:=k 0x8ff066c
def Lc:TF:=⟨17,[.t 2,.t 3],(.seq (.reg aBz) (.seq (.seq (.reg aBA) (.cond (.t 8) (.seq (.reg aBB) .ret) .skip)) (.seq (.seq (.reg aBC) (.seq (.reg aBD) (.cond (.t 15) (.seq (.reg aBE) .ret) .skip))) (.seq (.reg aBF) .ret))))⟩
/-! horarium/node.whole -/
@[go_sem] def aBG:=k 0x8678
@[go_sem] def aBH:=k 0x1e17b4026f65d549cb3b462d7a9ec00d3f9dad01c6bc6d525525bfec
def Ld:TF:=⟨13,[.t 2],(.seq (.reg aBG) (.seq (.reg aBH) .ret))⟩
/-! horarium/node.Depth -/
@[go_sem] def aBI:=k 0x866c
@[go_sem] def aBJ:=k 0x8bcf3ee082730c
@[go_sem] def aBK:=k 0x866c
@[go_sem] def aBL:=k 0x5b6c176fdb551cf47cb95d821847ffb194c
@[go_sem] def aBM:=k 0x15268dc8558c
def Le:TF:=⟨14,[.t 2],(.seq (.reg aBI) (.seq (.seq (.reg aBJ) (.cond (.t 7) (.seq (.reg aBK) .ret) .skip)) (.seq (.reg aBL) (.seq (.reg aBM) .ret))))⟩
/-! (*horarium/cursor.Cursor).Reset -/
@[go_sem] def aBN:=k 0x16775985d43233b3785434f87de53ba4fe1cde62c7b93e6e65e6d13465c
@[go_sem] def aBO:=k 0x11ccff50cc6c
def Lf:TF:=⟨13,[],(.seq (.reg aBN) (.reg aBO))⟩
/-! horarium/cursor.part -/
@[go_sem] def aBP:=k 0x64c0d00
@[go_sem] def aBQ:=k 0x17a58e7081e4ff1f0
@[go_sem] def aBR:=k 0x86e0
@[go_sem] def aBS:=k 0x292b3cb1e4196dea0
def Lg:TF:=⟨8,[.t 2],(.seq (.reg aBP) (.seq (.seq (.reg aBQ) (.cond (.t 5) (.seq (.reg aBR) .ret) .skip)) (.seq (.reg aBS) .ret)))⟩
/-! (*horarium/cursor.Cursor).step -/
@[go_sem] def aBT:=k 0x2230411fea789a2dd2269b67a2a797c
@[go_sem] def aBU:=k 0x736567f17057097e0994c
@[go_sem] def aBV:=k 0x21e14ed4c517b9cbde8ee399b445fc
@[go_sem] def aBW:=kd 0x4b8ea299a34c2cee2480bae61ef181c996964490e1fe4ff3b5a9674e01b58
@[go_sem] def aBX:=k 0x3cda78ad5d7fed86fdee47f0b07efc9a0e3478fbc48d
@[go_sem] def aBY:=k 0x16f44e1c4732d4568811dd59577d
@[go_sem] def aBZ:=kd 0x1128f4d14c1c23c45c44d0b3ee9492dfbe86544ed17096d3b08db363e9edf34c29
@[go_sem] def aB0:=k 0x1e317cb8d47e76df45e993075963612a0d
@[go_sem] def aB1:=k 0xab7c02205e4601ddd
@[go_sem] def aB2:=kd 0x2bbab5b852cfc0112635fb9de71a54697fd5cc466387327eee1824b3f4dd452b1b2df0daddb5ee31a64de5ea
def PQ:TC:=(.seq (.seq (.reg aBV) (.cond (.t 17) .skip (.exit 0))) (.block 1 (.seq (.dreg aBW) (.seq (.seq (.reg aBX) (.seq (.reg aBY) (.cond (.t 40) (.seq (.seq (.dreg aBZ) (.cond (.t 52) (.reg aB0) .skip)) (.seq (.reg aB1) .ret)) .skip))) (.dreg aB2)))))
@[go_sem] def dX:=k 0x7f4d5f9d0d4c63aa8b7ee2c59ec20351e2a8eee65adb3cf06e
def Lh:TF:=⟨83,[],(.seq (.reg aBT) (.seq (.reg aBU) (.seq (.block 0 (.loop PQ)) (.reg dX))))⟩
/-! horarium/runs.Add -/
@[go_sem] def aB3:=k 0xf98c
@[go_sem] def aB4:=k 0x21e21c4dafcf5f6f348c84ce6db730c
@[go_sem] def aB5:=k 0x30eb20f9e3da9da5d94c
@[go_sem] def aB6:=k 0xfe04
@[go_sem] def aB7:=k 0x9e78f550296040ea6bf8c
def Li:TF:=⟨16,[.t 4],(.seq (.reg aB3) (.seq (.reg aB4) (.seq (.seq (.reg aB5) (.cond (.t 12) (.seq (.reg aB6) .ret) .skip)) (.seq (.reg aB7) .ret))))⟩
/-! slices.Clip[[]horarium/api.Run,horarium/api.Run] -/
@[go_sem] def aB8:=k 0x8694
@[go_sem] def aB9:=k 0x3d7fcca2db63323f1e161077b1a35b37fec
def Lj:TF:=⟨9,[.t 2],(.seq (.reg aB8) (.seq (.reg aB9) .ret))⟩
/-! horarium/bound.spans -/
@[go_sem] def aCa:=k 0xf9b4
@[go_sem] def aCb:=k 0x13344
@[go_sem] def aCc:=k 0x16cac
@[go_sem] def aCd:=k 0xbd4b87e52dc
@[go_sem] def aCe:=k 0xb1d25b8
@[go_sem] def aCf:=k 0x58e4351d0a1acc0e01190
@[go_sem] def aCg:=k 0x2d6b075a9b6c211b85a216fd83c
@[go_sem] def aCh:=k 0x9919ab0b84b9e53044159a256a6e4d907d9c6e06a62280
@[go_sem] def aCi:=k 0x40e94782eee32ae7583f766f7693a044b18c8d
@[go_sem] def aCj:=k 0x1c64a62d875ed
@[go_sem] def dY:=k 0x751c9da5028fa1
def PT:TC:=(.seq (.reg aCe) (.seq (.cond (.t 13) .skip (.exit 0)) (.seq (.block 1 (.seq (.reg aCf) (.seq (.reg aCg) (.seq (.seq (.reg aCh) (.cond (.t 28) (.reg aCi) .skip)) (.reg aCj))))) (.reg dY))))
@[go_sem] def dZ:=k 0x1dfc5b917590d
def Lk:TF:=⟨38,[.t 4],(.seq (.reg aCa) (.seq (.reg aCb) (.seq (.reg aCc) (.seq (.seq (.reg aCd) (.block 0 (.loop PT))) (.seq (.reg dZ) .ret)))))⟩
/-! horarium/runs.Length -/
@[go_sem] def aCk:=k 0x866c
@[go_sem] def aCl:=k 0xbffc
@[go_sem] def aCm:=k 0xba0f2b96c9c
@[go_sem] def aCn:=k 0x7667778
@[go_sem] def aCo:=k 0x382bf957b5e2a54a96350
@[go_sem] def aCp:=k 0x238f3d0cebc693490310d065bfc
@[go_sem] def aCq:=k 0x349d81df4de60
def Y8:TC:=(.seq (.reg aCn) (.seq (.cond (.t 9) .skip (.exit 0)) (.seq (.block 1 (.seq (.reg aCo) (.reg aCp))) (.reg aCq))))
@[go_sem] def aCr:=k 0x1b9f46493bcc
def Ll:TF:=⟨18,[.t 2],(.seq (.reg aCk) (.seq (.reg aCl) (.seq (.seq (.reg aCm) (.block 0 (.loop Y8))) (.seq (.reg aCr) .ret))))⟩
/-! horarium/bound.next -/
@[go_sem] def aCs:=k 0x16cac
@[go_sem] def aCt:=k 0xbc7c70d194c
@[go_sem] def aCu:=k 0xa2f7a28
@[go_sem] def aCv:=k 0x589071f61010691d26600
@[go_sem] def aCw:=k 0x26fe3a25f98426e927f4026a4ac
@[go_sem] def aCx:=k 0xccf43e5bd709dfddd83e008426c7c47c
@[go_sem] def aCy:=k 0x520a68f09a470
def Y9:TC:=(.seq (.reg aCu) (.seq (.cond (.t 12) .skip (.exit 0)) (.seq (.block 1 (.seq (.reg aCv) (.seq (.reg aCw) (.cond (.t 19) (.seq (.reg aCx) .ret) .skip)))) (.reg aCy))))
@[go_sem] def aCz:=k 0x1db541062e1db20016afa33d76a082b870fdc
def Lm:TF:=⟨32,[.t 6],(.seq (.reg aCs) (.seq (.seq (.reg aCt) (.block 0 (.loop Y9))) (.seq (.reg aCz) .ret)))⟩
/-! horarium/node.measure -/
@[go_sem] def aCA:=k 0x64c466c
@[go_sem] def aCB:=k 0x2068570ef059c96c
@[go_sem] def aCC:=k 0xbee9b60c5fc
@[go_sem] def aCD:=k 0xcf87cd8
@[go_sem] def aCE:=k 0x449b88a8b3d7b5cd36890
@[go_sem] def aCF:=kd 0x23a65d78180b15c5aac4f41ecf8c8c256400dd816e7358
@[go_sem] def aCG:=k 0x11d18fb866c7556c3d7a4c
@[go_sem] def aCH:=k 0x10f09777766ae230164719ea216466eefd
@[go_sem] def aCI:=k 0x458d44e0749349138ad9e1373835bd7652770f68485d
@[go_sem] def aCJ:=k 0x2d2dcab489fc5780a1ca00b2826f5bb23ad10fe967dced8ec9a901ca2c5e05cba6edb4d
@[go_sem] def eD:=kd 0xc82c5d87bc73ee560c92b80e32464c8fcf712b3ddc785fd43d5df365c06d930a52f1205d0eb5f3a101a
@[go_sem] def eE:=k 0x4916b4aebb3bc0341717df932eb307edd0ce
@[go_sem] def eF:=k 0x1791817ebdf0b06b243f8f610a2
@[go_sem] def eG:=k 0x2286640e31816436851ab7ac3ca9f615f2688ecfbfa18f6f6e2
@[go_sem] def eH:=k 0x962bac54b9291dca0706c5fe717a67b2d05f4a1037d51ce
@[go_sem] def eI:=kd 0x27cc9083101cff5c64e723ff01ec5b19e477807ac071a35a83185fa2c9f9078bedede84d7a
@[go_sem] def eJ:=kd 0xc3102b705aa73749cdc87a53a053a2d936e205fb81331a3a648cde1bff510dfa20a
def LC:TC:=(.seq (.seq (.reg aCJ) (.cond (.t 53) .skip (.exit 2))) (.block 3 (.seq (.dreg eD) (.seq (.reg eE) (.seq (.seq (.reg eF) (.cond (.t 73) (.reg eG) .skip)) (.seq (.reg eH) (.seq (.dreg eI) (.dreg eJ))))))))
@[go_sem] def eK:=k 0x161100afa7ad5db2
def PU:TC:=(.seq (.reg aCD) (.seq (.cond (.t 15) .skip (.exit 0)) (.seq (.block 1 (.seq (.reg aCE) (.seq (.dreg aCF) (.seq (.seq (.reg aCG) (.seq (.reg aCH) (.cond (.t 33) (.reg aCI) .skip))) (.block 2 (.loop LC)))))) (.reg eK))))
@[go_sem] def eL:=kd 0x184d7f353e068a524478ae9ec2d84d9ac38f80eef920912fd1577b393be9a
def Ln:TF:=⟨118,[.t 2,.t 3],(.seq (.reg aCA) (.seq (.reg aCB) (.seq (.seq (.reg aCC) (.block 0 (.loop PU))) (.seq (.dreg eL) .ret))))⟩
/-! horarium/node.Size -/
@[go_sem] def aCK:=k 0xf98c
@[go_sem] def aCL:=k 0x11e0fb8665c24d85dd7386b8f74a3ccd1dfec51bc
@[go_sem] def aCM:=k 0xf98c
@[go_sem] def aCN:=k 0x8651c
@[go_sem] def aCO:=k 0x1a34ddde9e3c
@[go_sem] def aCP:=k 0x5c1b41bd8419e4e1d1cc
@[go_sem] def aCQ:=k 0x39a8389c807709016133215a5dff2c
@[go_sem] def aCR:=k 0x2d4d1e9bfcfc
@[go_sem] def aCS:=k 0xf98c
@[go_sem] def aCT:=k 0x4de333c706d10925eea6afa75c61d
@[go_sem] def eM:=k 0x1b81122b0ac5d
@[go_sem] def eO:=k 0x5bf9f6278cf36701b38c5954e837d
@[go_sem] def eP:=k 0x8134abd5fa10bf80c
def PV:TC:=(.seq (.seq (.reg aCP) (.cond (.t 20) .skip (.exit 0))) (.seq (.block 1 (.seq (.reg aCQ) (.seq (.seq (.reg aCR) (.cond (.t 29) (.seq (.reg aCS) .ret) .skip)) (.seq (.reg aCT) (.seq (.reg eM) (.cond (.t 35) (.seq (.reg eO) .ret) .skip)))))) (.reg eP)))
@[go_sem] def eQ:=k 0xf98c
def Lo:TF:=⟨40,[.t 4],(.seq (.reg aCK) (.seq (.seq (.reg aCL) (.cond (.t 15) (.seq (.reg aCM) .ret) .skip)) (.seq (.reg aCN) (.seq (.seq (.reg aCO) (.block 0 (.loop PV))) (.seq (.reg eQ) .ret)))))⟩
/-! (*horarium/cursor.Cursor).down -/
@[go_sem] def aCU:=k 0x1a47ef47138edbee880f7f805fc0bd642a9132d923d949296e1d427164d7a188165d3c955a850fd6cfceca1ecc55a2a797c
@[go_sem] def aCV:=kd 0x2a53baab614fdbba6457ec180e8137ae8a542803f3968c91614ed13b3fdfe692c40015c7f11178799bd68e9bb4500bcab181baf15600c979
@[go_sem] def aCW:=k 0x20074fceee2ac08226d
def Za:TC:=(.seq (.seq (.reg aCU) (.cond (.t 23) .skip (.exit 0))) (.block 1 (.seq (.dreg aCV) (.reg aCW))))
@[go_sem] def aCX:=k 0x1cae3a2012cc18269768ca99318d
def Lp:TF:=⟨49,[],(.seq (.block 0 (.loop Za)) (.reg aCX))⟩
/-! horarium/node.kids -/
@[go_sem] def aCY:=k 0x64c0d00
@[go_sem] def aCZ:=k 0x3a69353e7e9ded4dd8cbf295d262edf74e2a0c109d6a566ef765b97b4fda53da37c4ee3cab80
@[go_sem] def aC0:=k 0x86e0
@[go_sem] def aC1:=k 0x37636c73fe9a2a3928da97e33200d1e347f05ca8d1469d1345bc474f8bf71ea422242335160
@[go_sem] def aC2:=k 0x15c5afb9e2104e7916e556fb1
@[go_sem] def aC3:=k 0x866c
@[go_sem] def aC4:=k 0x106218ee295f797c9da5cc893a094f1798dc992783e0325655f1
@[go_sem] def aC5:=k 0x200a38d8e3c418a2271
@[go_sem] def aC6:=k 0x1fdfd91836a942a890d58cf21
@[go_sem] def aC7:=k 0x7b86c
@[go_sem] def eR:=k 0x86e0
def Lq:TF:=⟨49,[.t 2],(.seq (.reg aCY) (.seq (.block 0 (.seq (.reg aCZ) (.cond (.t 3) (.seq (.reg aC0) .ret) (.seq (.seq (.reg aC1) (.cond (.t 17) .skip (.reg aC2))) (.cond (.t 17) (.seq (.reg aC3) .ret) (.seq (.reg aC4) (.cond (.t 34) (.seq (.reg aC5) .ret) (.seq (.reg aC6) (.cond (.t 45) (.seq (.reg aC7) .ret) .skip))))))))) (.seq (.reg eR) .ret)))⟩
/-! horarium/node.times -/
@[go_sem] def aC8:=k 0xf98c
@[go_sem] def aC9:=k 0x13581487a7438f557051efecf3730c
def Lr:TF:=⟨10,[.t 4],(.seq (.reg aC8) (.seq (.reg aC9) .ret))⟩
/-! horarium/node.add -/
@[go_sem] def aDa:=k 0xf98c
@[go_sem] def aDb:=k 0x13581487a73e521a9eeebe0cc4f30c
def Ls:TF:=⟨10,[.t 4],(.seq (.reg aDa) (.seq (.reg aDb) .ret))⟩
/-! (horarium/part.none).Change -/
@[go_sem] def aDc:=k 0x382e884690
@[go_sem] def aDd:=k 0xfb80
def Zw:TF:=⟨5,[.t 4],(.seq (.reg aDc) (.seq (.reg aDd) .ret))⟩
/-! (horarium/part.none).Recv -/
@[go_sem] def aDe:=k 0x2be70be84690
@[go_sem] def aDf:=k 0x88527dc
def Zx:TF:=⟨6,[.t 4,.t 5],(.seq (.reg aDe) (.seq (.reg aDf) .ret))⟩
/-! (horarium/part.none).Send -/
@[go_sem] def aDg:=k 0x52116a8020
@[go_sem] def aDh:=k 0x17150
def Zy:TF:=⟨7,[.t 6],(.seq (.reg aDg) (.seq (.reg aDh) .ret))⟩
/-! (horarium/part.none).StopAll -/
@[go_sem] def aDi:=k 0x18490d00
@[go_sem] def aDj:=k 0x8860
def Zz:TF:=⟨3,[.t 2],(.seq (.reg aDi) (.seq (.reg aDj) .ret))⟩
/-! (*horarium/proc.ready).Less -/
@[go_sem] def aDk:=k 0x16cb8
@[go_sem] def aDl:=kd 0x26b4e08eee085e04103b3e8082efbcd2b4559ad0d97b16289c0868ed6dc3b5bb4d658a1257d628
@[go_sem] def aDm:=kd 0x43f44fd752b3d9dd2a7bf3de628d5e78dd486ce1edae1efa7104cc28b6af23dd71f70a7e8bc48a4e0a9852a111fa9bf18043429359488e66fa1832c8dc40c1c9
def Lt:TF:=⟨46,[.t 6],(.seq (.reg aDk) (.seq (.dreg aDl) (.seq (.dreg aDm) .ret)))⟩
/-! (*horarium/proc.ready).Pop -/
@[go_sem] def aDn:=k 0x8828
@[go_sem] def aDo:=k 0x4cf921ef72106c39c0d66ccf52a101bb30c
@[go_sem] def aDp:=k 0xead037d8d0a9beb5cbf946c021d088653c30c6c
@[go_sem] def aDq:=k 0x9461b865dbaf8b288926abbf2d17a0305debaebe7ecf6df5c
@[go_sem] def aDr:=k 0x51b370ccefc3ad6c
def Lu:TF:=⟨29,[.t 2],(.seq (.reg aDn) (.seq (.reg aDo) (.seq (.reg aDp) (.seq (.reg aDq) (.seq (.reg aDr) .ret)))))⟩
/-! (*horarium/proc.ready).Push -/
@[go_sem] def aDs:=kd 0x215fc67aa4c992060f2f645d6361a1a047a62b3653a725678ed6aad4059b476fb8
def Lv:TF:=⟨15,[],(.dreg aDs)⟩
/-! (*horarium/proc.ready).Swap -/
@[go_sem] def aDt:=kd 0x364b0d6fdbddb252e4687674e24c67fb9046364707096a752aa074e2fec0be3897f6320b1422e068c9f84d404815b5ee9ab6e73f533ff59aaafedb2375847c2326c37817fbf18
def Lw:TF:=⟨32,[],(.dreg aDt)⟩
/-! cmp.Or[int] -/
@[go_sem] def aDu:=k 0x866c
@[go_sem] def aDv:=k 0xbffc
@[go_sem] def aDw:=k 0xba0f2b96c9c
@[go_sem] def aDx:=k 0x7667778
@[go_sem] def aDy:=k 0x40ff3ebc8aec96338
@[go_sem] def aDz:=k 0x241b6fe5098c7ffc
@[go_sem] def aDA:=k 0x1862ea172cac
@[go_sem] def aDB:=k 0x349d81df4de60
def MS:TC:=(.seq (.reg aDx) (.seq (.cond (.t 9) .skip (.exit 0)) (.seq (.block 1 (.seq (.reg aDy) (.seq (.reg aDz) (.cond (.t 14) (.seq (.reg aDA) .ret) .skip)))) (.reg aDB))))
@[go_sem] def aDC:=k 0x1b9f46493bcc
def Lx:TF:=⟨18,[.t 2],(.seq (.reg aDu) (.seq (.reg aDv) (.seq (.seq (.reg aDw) (.block 0 (.loop MS))) (.seq (.reg aDC) .ret))))⟩
/-! cmp.Compare[int] -/
@[go_sem] def ZL:=k 0xf98c
@[go_sem] def ZM:=k 0x17c4814e34fe262c
@[go_sem] def ZN:=k 0x1daddda8fc67cb4c
@[go_sem] def ZO:=k 0x26866c
@[go_sem] def ZP:=k 0x2df1fc
@[go_sem] def ZR:=k 0xf98c
@[go_sem] def ZT:=k 0xfa00
@[go_sem] def ZU:=k 0x2e2b8c
@[go_sem] def ZV:=k 0x82b8c
@[go_sem] def ZW:=k 0x2a1bdef7dd66f91c
@[go_sem] def Up:=k 0xfa00
@[go_sem] def Uq:=k 0x331d1d00c867a5cc
@[go_sem] def Ur:=k 0x82b8c
@[go_sem] def Us:=k 0xf98c
def Hx:TF:=⟨20,[.t 4],(.seq (.reg ZL) (.seq (.reg ZM) (.seq (.reg ZN) (.seq (.seq (.reg ZO) (.cond (.t 11) (.seq (.seq (.reg ZP) (.cond (.t 12) (.seq (.reg ZR) .ret) .skip)) (.seq (.reg ZT) .ret)) .skip)) (.seq (.seq (.reg ZU) (.cond (.t 13) (.seq (.reg ZV) .ret) .skip)) (.seq (.seq (.reg ZW) (.cond (.t 16) (.seq (.reg Up) .ret) .skip)) (.seq (.seq (.reg Uq) (.cond (.t 19) (.seq (.reg Ur) .ret) .skip)) (.seq (.reg Us) .ret))))))))⟩
/-! cmp.isNaN[int] -/
@[go_sem] def ZX:=k 0x8678
@[go_sem] def ZY:=k 0x351d7c69975d13c937fec
def Hy:TF:=⟨6,[.t 2],(.seq (.reg ZX) (.seq (.reg ZY) .ret))⟩
def nE:Nat→Option TF
 | 4=>some TM
 | 12=>some TN
 | 13=>some Je
 | 14=>some ME
 | 15=>some MF
 | 16=>some MG
 | 17=>some TQ
 | 18=>some TR
 | 22=>some TS
 | 27=>some TT
 | 28=>some Hw
 | 29=>some Kn
 | 30=>some Ko
 | 31=>some Kp
 | 32=>some Kq
 | 33=>some Kr
 | 34=>some Ks
 | 35=>some Kt
 | 36=>some Ku
 | 37=>some BR
 | 38=>some Kv
 | 39=>some Kw
 | 40=>some Kx
 | 41=>some Ky
 | 42=>some Kz
 | 43=>some KA
 | 57=>some KB
 | 58=>some Hz
 | 59=>some HA
 | 60=>some KC
 | 61=>some KD
 | 62=>some HB
 | 63=>some HC
 | 64=>some KE
 | 65=>some KF
 | 66=>some KG
 | 67=>some KH
 | 68=>some KI
 | 69=>some HD
 | 70=>some BS
 | 71=>some FC
 | 72=>some KJ
 | 73=>some KK
 | 74=>some KL
 | 75=>some KM
 | 76=>some KN
 | 77=>some KO
 | 78=>some KP
 | 92=>some KQ
 | 93=>some KR
 | 94=>some KT
 | 95=>some KU
 | 96=>some KV
 | 97=>some KW
 | 98=>some HE
 | 99=>some FD
 | 100=>some KX
 | 101=>some KY
 | 102=>some CJ
 | 103=>some FE
 | 114=>some KZ
 | 115=>some K0
 | 116=>some K1
 | 117=>some K2
 | 118=>some K3
 | 119=>some K4
 | 120=>some K5
 | 127=>some K6
 | 128=>some K7
 | 129=>some HF
 | 130=>some K8
 | 131=>some K9
 | 132=>some La
 | 133=>some Lb
 | 135=>some Lc
 | 136=>some Ld
 | 137=>some Le
 | 138=>some Lf
 | 139=>some Lg
 | 140=>some Lh
 | 141=>some Li
 | 142=>some Lj
 | 143=>some Lk
 | 144=>some Ll
 | 145=>some Lm
 | 146=>some Ln
 | 147=>some Lo
 | 148=>some Lp
 | 149=>some Lq
 | 150=>some Lr
 | 151=>some Ls
 | 169=>some Zw
 | 170=>some Zx
 | 171=>some Zy
 | 172=>some Zz
 | 177=>some Lt
 | 178=>some Lu
 | 179=>some Lv
 | 180=>some Lw
 | 181=>some Lx
 | 182=>some Hx
 | 183=>some Hy
 | _=>none
def MK:Nat→String→Option Uo
 | 149,"Push"=>some ⟨JP,none⟩
 | 149,"Len"=>some ⟨JM,none⟩
 | 149,"Less"=>some ⟨Np,none⟩
 | 149,"Swap"=>some ⟨JQ,none⟩
 | 149,"Pop"=>some ⟨JO,none⟩
 | 91,"Change"=>some ⟨Zm,none⟩
 | 91,"StopAll"=>some ⟨Zp,none⟩
 | 91,"Send"=>some ⟨Zo,none⟩
 | 91,"Recv"=>some ⟨Zn,none⟩
 | _,_=>none
def tp:TP:=⟨nE,MK⟩
theorem aD9:tp.fn aEf=some TM:=rfl
theorem aEa:tp.fn lD=some TN:=rfl
theorem Q8:tp.fn Ox=some Je:=rfl
theorem Zj:tp.fn RF=some ME:=rfl
theorem Zk:tp.fn V4=some MF:=rfl
theorem Zl:tp.fn RO=some MG:=rfl
theorem aEb:tp.fn lE=some TQ:=rfl
theorem aEc:tp.fn lF=some TR:=rfl
theorem aEd:tp.fn lG=some TS:=rfl
theorem aEe:tp.fn lH=some TT:=rfl
theorem hZ:tp.fn Ro=some Hw:=rfl
theorem iA:tp.fn Rp=some Kn:=rfl
theorem iB:tp.fn Rq=some Ko:=rfl
theorem iC:tp.fn Rr=some Kp:=rfl
theorem iD:tp.fn Rt=some Kq:=rfl
theorem iE:tp.fn M3=some Kr:=rfl
theorem iG:tp.fn Ru=some Ks:=rfl
theorem iH:tp.fn Rv=some Kt:=rfl
theorem iI:tp.fn Rx=some Ku:=rfl
theorem DP:tp.fn M4=some BR:=rfl
theorem iJ:tp.fn M5=some Kv:=rfl
theorem iK:tp.fn Ry=some Kw:=rfl
theorem iL:tp.fn Rz=some Kx:=rfl
theorem iM:tp.fn RA=some Ky:=rfl
theorem iO:tp.fn RC=some Kz:=rfl
theorem iP:tp.fn M6=some KA:=rfl
theorem iQ:tp.fn RD=some KB:=rfl
theorem Q9:tp.fn M7=some Hz:=rfl
theorem Ra:tp.fn M8=some HA:=rfl
theorem iR:tp.fn RE=some KC:=rfl
theorem iS:tp.fn RG=some KD:=rfl
theorem Rb:tp.fn M9=some HB:=rfl
theorem Rd:tp.fn Na=some HC:=rfl
theorem iT:tp.fn Nb=some KE:=rfl
theorem iU:tp.fn Nc=some KF:=rfl
theorem iV:tp.fn JM=some KG:=rfl
theorem iW:tp.fn Nd=some KH:=rfl
theorem iX:tp.fn RH=some KI:=rfl
theorem Re:tp.fn RI=some HD:=rfl
theorem DQ:tp.fn Nf=some BS:=rfl
theorem L3:tp.fn Ng=some FC:=rfl
theorem iY:tp.fn RJ=some KJ:=rfl
theorem iZ:tp.fn Nh=some KK:=rfl
theorem jA:tp.fn Ni=some KL:=rfl
theorem jB:tp.fn Nj=some KM:=rfl
theorem jC:tp.fn Nk=some KN:=rfl
theorem jD:tp.fn RK=some KO:=rfl
theorem jE:tp.fn RL=some KP:=rfl
theorem jF:tp.fn RM=some KQ:=rfl
theorem jG:tp.fn RN=some KR:=rfl
theorem jH:tp.fn RP=some KT:=rfl
theorem jI:tp.fn RQ=some KU:=rfl
theorem jJ:tp.fn RR=some KV:=rfl
theorem jK:tp.fn RS=some KW:=rfl
theorem Rf:tp.fn Nl=some HE:=rfl
theorem L4:tp.fn Nm=some FD:=rfl
theorem jL:tp.fn RU=some KX:=rfl
theorem jM:tp.fn RX=some KY:=rfl
theorem EO:tp.fn RY=some CJ:=rfl
theorem L5:tp.fn RZ=some FE:=rfl
theorem jN:tp.fn R0=some KZ:=rfl
theorem jO:tp.fn R1=some K0:=rfl
theorem jQ:tp.fn H7=some K1:=rfl
theorem jR:tp.fn R3=some K2:=rfl
theorem jS:tp.fn R5=some K3:=rfl
theorem jT:tp.fn R6=some K4:=rfl
theorem jU:tp.fn R7=some K5:=rfl
theorem jV:tp.fn R8=some K6:=rfl
theorem jW:tp.fn R9=some K7:=rfl
theorem Rg:tp.fn G8=some HF:=rfl
theorem jX:tp.fn Sa=some K8:=rfl
theorem jY:tp.fn Sb=some K9:=rfl
theorem jZ:tp.fn Sc=some La:=rfl
theorem kB:tp.fn Sd=some Lb:=rfl
theorem kC:tp.fn Se=some Lc:=rfl
theorem kD:tp.fn Sf=some Ld:=rfl
theorem kE:tp.fn Sg=some Le:=rfl
theorem kF:tp.fn Nn=some Lf:=rfl
theorem kG:tp.fn Si=some Lg:=rfl
theorem kH:tp.fn No=some Lh:=rfl
theorem kI:tp.fn Sj=some Li:=rfl
theorem kJ:tp.fn Sk=some Lj:=rfl
theorem kK:tp.fn Sm=some Lk:=rfl
theorem kL:tp.fn Sn=some Ll:=rfl
theorem kM:tp.fn So=some Lm:=rfl
theorem kN:tp.fn Sp=some Ln:=rfl
theorem kO:tp.fn Sq=some Lo:=rfl
theorem kQ:tp.fn JN=some Lp:=rfl
theorem kR:tp.fn Sr=some Lq:=rfl
theorem kS:tp.fn Ss=some Lr:=rfl
theorem kT:tp.fn St=some Ls:=rfl
theorem kU:tp.fn Np=some Lt:=rfl
theorem kV:tp.fn JO=some Lu:=rfl
theorem kW:tp.fn JP=some Lv:=rfl
theorem kX:tp.fn JQ=some Lw:=rfl
theorem kY:tp.fn Su=some Lx:=rfl
theorem VY:tp.fn L9=some Hx:=rfl
theorem VZ:tp.fn Ma=some Hy:=rfl
@[go_sem] theorem Uh:tp.meth 149 "Push"=some ⟨JP,none⟩:=by kernel_rfl
@[go_sem] theorem Wl:tp.meth 149 "Len"=some ⟨JM,none⟩:=by kernel_rfl
@[go_sem] theorem Ug:tp.meth 149 "Less"=some ⟨Np,none⟩:=by kernel_rfl
@[go_sem] theorem Ui:tp.meth 149 "Swap"=some ⟨JQ,none⟩:=by kernel_rfl
@[go_sem] theorem Wm:tp.meth 149 "Pop"=some ⟨JO,none⟩:=by kernel_rfl
@[go_sem] theorem SR:tp.meth 91 "Change"=some ⟨Zm,none⟩:=by kernel_rfl
@[go_sem] theorem Pr:tp.meth 91 "StopAll"=some ⟨Zp,none⟩:=by kernel_rfl
@[go_sem] theorem Wp:tp.meth 91 "Send"=some ⟨Zo,none⟩:=by kernel_rfl
@[go_sem] theorem Wn:tp.meth 91 "Recv"=some ⟨Zn,none⟩:=by kernel_rfl
end Go.Ab.T
