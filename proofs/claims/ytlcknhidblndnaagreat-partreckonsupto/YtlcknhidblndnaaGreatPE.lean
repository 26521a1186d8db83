/- Part of a proof that a law returns true for every input of the second form's bound (no other condition). -/
import Derived.Test.YtlcknhidblndnaaGreatPD
set_option linter.all false
/- The abstract machine's text of the functions, its regions as numbers. Written by a tool. -/
namespace Go.Ab.T
open Go Go.Ab
set_option maxRecDepth 100000
abbrev aEr:Nat:=9
abbrev lX:Nat:=12
abbrev Mq:Nat:=13
abbrev RS:Nat:=14
abbrev Wj:Nat:=15
abbrev R6:Nat:=16
abbrev lY:Nat:=17
abbrev lZ:Nat:=18
abbrev mA:Nat:=21
abbrev mB:Nat:=22
abbrev RE:Nat:=27
abbrev RF:Nat:=28
abbrev RG:Nat:=29
abbrev RH:Nat:=30
abbrev RI:Nat:=31
abbrev RJ:Nat:=32
abbrev Nl:Nat:=33
abbrev RK:Nat:=34
abbrev RL:Nat:=35
abbrev RM:Nat:=36
abbrev Nm:Nat:=37
abbrev Nn:Nat:=38
abbrev RN:Nat:=39
abbrev RO:Nat:=40
abbrev RP:Nat:=41
abbrev RQ:Nat:=42
abbrev No:Nat:=43
abbrev RR:Nat:=57
abbrev Np:Nat:=58
abbrev Nq:Nat:=59
abbrev RU:Nat:=60
abbrev RX:Nat:=61
abbrev Nr:Nat:=62
abbrev Ns:Nat:=63
abbrev Nt:Nat:=64
abbrev Nu:Nat:=65
abbrev J0:Nat:=66
abbrev Nv:Nat:=67
abbrev RY:Nat:=68
abbrev RZ:Nat:=69
abbrev Nw:Nat:=70
abbrev Nx:Nat:=71
abbrev R0:Nat:=72
abbrev Ny:Nat:=73
abbrev Nz:Nat:=74
abbrev NA:Nat:=75
abbrev NB:Nat:=76
abbrev R1:Nat:=77
abbrev R3:Nat:=78
abbrev R5:Nat:=92
abbrev R7:Nat:=93
abbrev R8:Nat:=94
abbrev R9:Nat:=95
abbrev Sa:Nat:=96
abbrev Sb:Nat:=97
abbrev NC:Nat:=98
abbrev ND:Nat:=99
abbrev Sc:Nat:=100
abbrev Sd:Nat:=101
abbrev Se:Nat:=102
abbrev Sf:Nat:=103
abbrev Sg:Nat:=114
abbrev Si:Nat:=115
abbrev Ik:Nat:=116
abbrev Sj:Nat:=117
abbrev Sk:Nat:=118
abbrev Sm:Nat:=119
abbrev Sn:Nat:=120
abbrev So:Nat:=127
abbrev Sp:Nat:=128
abbrev Hk:Nat:=129
abbrev Sq:Nat:=130
abbrev Sr:Nat:=131
abbrev Ss:Nat:=132
abbrev St:Nat:=133
abbrev Su:Nat:=135
abbrev Sv:Nat:=136
abbrev Sw:Nat:=137
abbrev NE:Nat:=138
abbrev Sx:Nat:=139
abbrev NF:Nat:=140
abbrev Sy:Nat:=141
abbrev Sz:Nat:=142
abbrev SA:Nat:=143
abbrev SB:Nat:=144
abbrev SC:Nat:=145
abbrev SD:Nat:=146
abbrev SF:Nat:=147
abbrev J1:Nat:=148
abbrev SG:Nat:=149
abbrev SH:Nat:=150
abbrev SI:Nat:=151
abbrev Zz:Nat:=169
abbrev ZA:Nat:=170
abbrev ZB:Nat:=171
abbrev ZD:Nat:=172
abbrev NG:Nat:=177
abbrev J2:Nat:=178
abbrev J3:Nat:=179
abbrev J4:Nat:=180
abbrev Mm:Nat:=181
abbrev Mn:Nat:=182
abbrev Mo:Nat:=183
def wrs:List Nat:=[J1,NF,Hk,NE,Nl,RS,Nn,Nm,Nw,Nx,NA,Ny,Nz,Nt,NB,Nu,Nv,NC,ND,J4,J3,J2]
def ZP {α:Type} (z:α):List α→Nat→α
 | [],_=>z
 | x::_,0=>x
 | _::l,n+1=>ZP z l n
def C3:Nat→Int:=ZP 0 [0,1,2,3,4,5,6,7,8,9,10,11,12,13,14,15,16,17,18,19,20,21,22,23,24,25,26,27,28,29,30,31]
def aGg:List ((Nat→Nat)→O):=[fun p=>.mv (.t (p 0)),
fun p=>.fad (p 0) (.t (p 1)),
fun p=>.load 1 false (.t (p 0)),
fun p=>.nck (.t (p 0)),
fun p=>.mv (.c (.i .i64 (C3 (p 0)))),
fun p=>.len (.t (p 0)),
fun p=>.bin .eql (.t (p 0)) (.c (.i .i64 (C3 (p 1)))),
fun p=>.pick (.t (p 0)) (.t (p 1)) (.c (.b false)),
fun p=>.mv (.c (.b false)),
fun p=>.bin .add (.t (p 0)) (.c (.i .i64 (C3 (p 1)))),
fun p=>.store 1 (.t (p 0)) (.t (p 1)),
fun p=>.bin .lss (.t (p 0)) (.t (p 1)),
fun p=>.box (.t (p 0)),
fun p=>.pick (.t (p 0)) (.c (.b true)) (.t (p 1)),
fun p=>.mv (.c .ns),
fun p=>.un .not (.t (p 0)),
fun p=>.bin .lss (.t (p 0)) (.c (.i .i64 (C3 (p 1)))),
fun p=>.bin .sub (.t (p 0)) (.c (.i .i64 (C3 (p 1)))),
fun p=>.load 3 true (.t (p 0)),
fun p=>.ext (.t (p 0)) 0,
fun p=>.ext (.t (p 0)) 1,
fun p=>.iad 3 (.t (p 0)) (.t (p 1)),
fun p=>.iad 1 (.t (p 0)) (.t (p 1)),
fun p=>.iada 1 8 (.t (p 0)) (.t (p 1))]
def aGh:List ((Nat→Nat)→O):=[fun p=>.mv (.c (.i .u32 0)),
fun p=>.store 6 (.t (p 0)) (.t (p 1)),
fun p=>.bin .add (.t (p 0)) (.t (p 1)),
fun p=>.mv (.c (.b true)),
fun p=>.bin .gtr (.t (p 0)) (.c (.i .i64 (C3 (p 1)))),
fun p=>.iad 2 (.t (p 0)) (.t (p 1)),
fun p=>.load 2 true (.t (p 0)),
fun p=>.store 2 (.t (p 0)) (.t (p 1)),
fun p=>.bin .eql (.t (p 0)) (.t (p 1)),
fun p=>.alloc [(.i .i64 0),(.i .i64 0)],
fun p=>.mv (.c (.i .i64 (-1))),
fun p=>.load 6 true (.t (p 0)),
fun p=>.bin .geq (.t (p 0)) (.t (p 1)),
fun p=>.bin .neq (.t (p 0)) (.c (.i .i64 (C3 (p 1)))),
fun p=>.bin .geq (.t (p 0)) (.c (.i .i64 (C3 (p 1)))),
fun p=>.alloc [(.i .i64 0),(.i .i64 0),(.i .i64 0),(.i .i64 0),(.i .i64 0),(.i .u32 0)],
fun p=>.iad 9 (.t (p 0)) (.t (p 1)),
fun p=>.bin .sub (.t (p 0)) (.t (p 1)),
fun p=>.load 4 true (.t (p 0)),
fun p=>.iad 6 (.t (p 0)) (.t (p 1)),
fun p=>.mv (.c .np),
fun p=>.iad 11 (.t (p 0)) (.t (p 1)),
fun p=>.conv .i64 (.t (p 0)),
fun p=>.bsl 2 [(.i .i64 0),(.i .i64 0)] 1 [(0,(.t (p 0)))]]
def aGi:List ((Nat→Nat)→O):=[fun p=>.call (.fn RS) [(.t (p 0)),(.c .ni)],
fun p=>.store 1 (.t (p 0)) (.c (.i .i64 (C3 (p 1)))),
fun p=>.load 11 true (.t (p 0)),
fun p=>.eq false .sl (.t (p 0)) (.c .ns),
fun p=>.e0,
fun p=>.bin .gtr (.t (p 0)) (.t (p 1)),
fun p=>.bin .neq (.t (p 0)) (.t (p 1)),
fun p=>.iada 1 8 (.t (p 0)) (.c (.i .i64 (C3 (p 1)))),
fun p=>.store 3 (.t (p 0)) (.t (p 1)),
fun p=>.app 2 (.t (p 0)) (.t (p 1)),
fun p=>.mn [(.c (.i .i64 4097)),(.t (p 0))],
fun p=>.alloc [.ns,.ns,.ns],
fun p=>.bin .eql (.t (p 0)) (.c (.i .u32 0)),
fun p=>.call (.fn mB) [(.t (p 0)),(.c (.i .i64 (C3 (p 1))))],
fun p=>.idx 1 8 false (.t (p 0)) (.c (.i .i64 (C3 (p 1)))),
fun p=>.bin .leq (.t (p 0)) (.t (p 1)),
fun p=>.call (.fn Wj) [(.t (p 0))],
fun p=>.app 1 (.t (p 0)) (.t (p 1)),
fun p=>.app 3 (.t (p 0)) (.t (p 1)),
fun p=>.call (.fn Sc) [(.t (p 0)),(.t (p 1))],
fun p=>.mx [(.t (p 0)),(.t (p 1))],
fun p=>.build [(.i .i64 0),(.i .i64 0)] [],
fun p=>.bsl 11 [(.s ⟨#[]⟩),(.i .i64 0),(.i .i64 0),(.b false),(.b false),.ns,(.i .i64 0),(.i .i64 0),(.i .i64 0),(.i .i64 0),(.i .i64 0)] 1 [(0,(.t (p 0)))],
fun p=>.bsl 3 [(.i .i64 0),(.i .i64 0),(.i .i64 0)] 1 [(0,(.t (p 0)))]]
def aGj:List ((Nat→Nat)→O):=[fun p=>.bsl 1 [.ns] 1 [(0,(.t (p 0)))],
fun p=>.bin .mul (.t (p 0)) (.t (p 1)),
fun p=>.load 5 true (.t (p 0)),
fun p=>.store 4 (.t (p 0)) (.t (p 1)),
fun p=>.eq true .ptr (.t (p 0)) (.c .np),
fun p=>.load 16 true (.t (p 0)),
fun p=>.call (.fn No) [(.t (p 0))],
fun p=>.eq false (.agg [.i,.i,.i,.i,.i,.i]) (.t (p 0)) (.t (p 1)),
fun p=>.alloc [(.s ⟨#[]⟩),(.i .i64 0),(.i .i64 0),(.b false),(.b false),.ns,(.i .i64 0),(.i .i64 0),(.i .i64 0),(.i .i64 0),(.i .i64 0)],
fun p=>.store 11 (.t (p 0)) (.t (p 1)),
fun p=>.bin .leq (.t (p 0)) (.c (.i .i64 (C3 (p 1)))),
fun p=>.call (.fn RZ) [(.t (p 0)),(.t (p 1))],
fun p=>.call (.fn R0) [(.t (p 0))],
fun p=>.alloc [(.i .i64 0),(.i .i64 0),(.b false),(.i .i64 0),(.i .u32 0),(.i .i64 0)],
fun p=>.conv .u32 (.t (p 0)),
fun p=>.iada 1 16 (.t (p 0)) (.t (p 1)),
fun p=>.slen (.t (p 0)),
fun p=>.bin .leq (.t (p 0)) (.c (.i .i64 4096)),
fun p=>.inv (.t (p 0)) "Less" [(.t (p 1)),(.t (p 2))],
fun p=>.call (.fn Sv) [(.t (p 0))],
fun p=>.build [(.i .i64 0),(.i .i64 0)] [(0,1,(.t (p 0))),(1,1,(.t (p 1)))],
fun p=>.call (.fn Sy) [(.t (p 0)),(.t (p 1))],
fun p=>.call (.fn SA) [(.t (p 0)),(.t (p 1))],
fun p=>.mx [(.c (.i .i64 (C3 (p 0)))),(.t (p 1))]]
def aGk:List ((Nat→Nat)→O):=[fun p=>.build [(.i .i64 0),(.i .i64 0),(.i .i64 0)] [(0,1,(.c (.i .i64 (C3 (p 0))))),(2,1,(.c (.i .i64 (C3 (p 1)))))],
fun p=>.build [.ns,.ns,.ns] [(0,1,(.t (p 0))),(2,1,(.t (p 1)))],
fun p=>.call (.fn lX) [(.t (p 0)),(.c (.i .i64 (C3 (p 1)))),(.c (.i .i64 (C3 (p 2))))],
fun p=>.eq false .ptr (.t (p 0)) (.c .np),
fun p=>.call (.fn lY) [],
fun p=>.bin .quo (.t (p 0)) (.t (p 1)),
fun p=>.bin .rem (.t (p 0)) (.t (p 1)),
fun p=>.slice 1 (.t (p 0)) none (some (.t (p 1))) none,
fun p=>.call (.fn Nl) [(.t (p 0))],
fun p=>.alloc [(.i .i64 0),(.i .i64 0),(.i .i64 0),(.i .i64 0)],
fun p=>.call (.fn Mq) [(.t (p 0)),(.c (.i .i64 (C3 (p 1)))),(.c .ns),(.c .ns)],
fun p=>.store 16 (.t (p 0)) (.t (p 1)),
fun p=>.store 8 (.t (p 0)) (.t (p 1)),
fun p=>.call (.fn Ns) [(.t (p 0))],
fun p=>.store 1 (.t (p 0)) (.c .ns),
fun p=>.mkif 149 (.t (p 0)),
fun p=>.mkif 3 (.t (p 0)),
fun p=>.tas 3 false (.i .i64 0) (.t (p 0)),
fun p=>.load 9 true (.t (p 0)),
fun p=>.slice 2 (.t (p 0)) none (some (.t (p 1))) (some (.t (p 2))),
fun p=>.app 6 (.t (p 0)) (.t (p 1)),
fun p=>.inv (.t (p 0)) "Len" [],
fun p=>.mv (.c .ni),
fun p=>.conv .u64 (.t (p 0))]
def aGl:List ((Nat→Nat)→O):=[fun p=>.call (.fn Ik) [(.t (p 0)),(.t (p 1))],
fun p=>.inv (.t (p 0)) "Swap" [(.t (p 1)),(.t (p 2))],
fun p=>.call (.t (p 0)) [(.t (p 1))],
fun p=>.call (.fn So) [(.t (p 0))],
fun p=>.call (.fn SB) [(.t (p 0))],
fun p=>.bsl 1 [(.i .i64 0)] 2 [(0,(.t (p 0))),(1,(.t (p 1)))],
fun p=>.mn [(.t (p 0)),(.t (p 1))],
fun p=>.call (.fn SD) [(.t (p 0))],
fun p=>.bsl 6 [(.i .i64 0),(.i .i64 0),(.i .i64 0),(.i .i64 0),(.i .i64 0),(.i .i64 0)] 1 [(0,(.t (p 0)))],
fun p=>.call (.fn SG) [(.t (p 0))],
fun p=>.iad 6 (.t (p 0)) (.c (.i .i64 (C3 (p 1)))),
fun p=>.mv (.c (.i .u32 4)),
fun p=>.call (.fn Mn) [(.t (p 0)),(.t (p 1))],
fun p=>.call (.fn Mo) [(.t (p 0))],
fun p=>.build [(.s ⟨#[]⟩),(.i .i64 0),(.i .i64 0),(.b false),(.b false),.ns,(.i .i64 0),(.i .i64 0),(.i .i64 0),(.i .i64 0),(.i .i64 0)] [(0,1,(.c (.s ⟨#[97]⟩))),(5,1,(.t (p 0)))],
fun p=>.bsl 1 [(.i .i64 0)] 4 [(0,(.c (.i .i64 (C3 (p 0))))),(1,(.c (.i .i64 (C3 (p 1))))),(2,(.c (.i .i64 (C3 (p 2))))),(3,(.c (.i .i64 (C3 (p 3)))))],
fun p=>.conv .u8 (.t (p 0)),
fun p=>.bsl 1 [(.i .u8 0)] 20 [(0,(.c (.i .u8 13))),(1,(.c (.i .u8 1))),(2,(.c (.i .u8 0))),(3,(.c (.i .u8 0))),(4,(.c (.i .u8 13))),(5,(.c (.i .u8 2))),(6,(.c (.i .u8 0))),(7,(.c (.i .u8 0))),(8,(.t (p 0))),(9,(.c (.i .u8 3))),(10,(.c (.i .u8 1))),(11,(.c (.i .u8 2))),(12,(.c (.i .u8 7))),(13,(.c (.i .u8 3))),(14,(.c (.i .u8 4))),(15,(.c (.i .u8 15))),(16,(.c (.i .u8 6))),(17,(.c (.i .u8 5))),(18,(.c (.i .u8 4))),(19,(.c (.i .u8 15)))],
fun p=>.bsl 1 [(.i .u32 0)] 2 [(0,(.t (p 0))),(1,(.t (p 1)))],
fun p=>.call (.fn Mq) [(.t (p 0)),(.c (.i .i64 (C3 (p 1)))),(.t (p 2)),(.t (p 3))],
fun p=>.bsl 1 [(.i .u32 0)] 4 [(0,(.t (p 0))),(1,(.t (p 1))),(2,(.t (p 2))),(3,(.c (.i .u32 0)))],
fun p=>.call (.fn mA) [(.t (p 0))],
fun p=>.idx 1 16 false (.t (p 0)) (.c (.i .i64 (C3 (p 1)))),
fun p=>.call (.fn RE) [(.t (p 0))]]
def aGm:List ((Nat→Nat)→O):=[fun p=>.call (.fn RF) [(.t (p 0))],
fun p=>.mn [(.t (p 0)),(.c (.i .i64 512))],
fun p=>.call (.fn RG) [(.t (p 0))],
fun p=>.call (.fn RH) [(.t (p 0))],
fun p=>.call (.fn RI) [(.t (p 0))],
fun p=>.build [.ns,.ns,.ns,(.i .i64 0),.ns,.ns,.np,.ns,(.i .u32 0),(.i .u32 0),(.i .u32 0),(.i .u32 0),(.i .u32 0),(.i .u32 0),(.i .u32 0),(.i .u32 0),(.i .u32 0),(.i .u32 0),(.i .u32 0),(.i .u32 0),(.i .u32 0),(.i .u32 0),(.i .u32 0),(.i .u32 0),.np,(.i .i64 0)] [(0,3,(.t (p 0))),(3,1,(.t (p 1))),(4,1,(.t (p 2))),(5,1,(.t (p 3))),(24,1,(.t (p 4)))],
fun p=>.call (.fn RJ) [(.t (p 0))],
fun p=>.build [(.i .i64 0),(.i .i64 0),(.i .i64 0),(.i .i64 0),(.i .i64 0),(.i .u32 0)] [],
fun p=>.eq false .ifc (.t (p 0)) (.c .ni),
fun p=>.build [] [],
fun p=>.mkif 91 (.t (p 0)),
fun p=>.call (.fn RK) [(.t (p 0)),(.t (p 1))],
fun p=>.build [(.i .i64 0),(.i .i64 0),(.i .i64 0),(.i .i64 0),(.i .i64 0),(.i .u32 0)] [(0,1,(.t (p 0))),(1,1,(.c (.i .i64 (-1))))],
fun p=>.build [(.i .i64 0),(.i .i64 0),(.i .i64 0),(.i .i64 0),(.i .i64 0),(.i .u32 0)] [(0,1,(.t (p 0))),(1,1,(.t (p 1))),(2,1,(.t (p 2)))],
fun p=>.call (.fn RL) [(.t (p 0)),(.t (p 1))],
fun p=>.call (.fn RM) [(.t (p 0))],
fun p=>.call (.fn Nm) [(.t (p 0)),(.t (p 1)),(.t (p 2)),(.t (p 3)),(.t (p 4))],
fun p=>.store 1 (.t (p 0)) (.c (.i .u32 0)),
fun p=>.call (.fn Nn) [(.t (p 0)),(.t (p 1)),(.t (p 2))],
fun p=>.call (.fn RN) [(.t (p 0))],
fun p=>.eq false (.agg [.i,.i,.i,.i,.i,.i,.i,.i,.i,.i,.i,.i,.i,.i,.i,.i]) (.t (p 0)) (.t (p 1)),
fun p=>.call (.fn RO) [(.t (p 0)),(.t (p 1))],
fun p=>.call (.fn RP) [(.t (p 0)),(.t (p 1))],
fun p=>.eq false .b (.t (p 0)) (.t (p 1))]
def aGn:List ((Nat→Nat)→O):=[fun p=>.call (.fn RQ) [(.t (p 0)),(.t (p 1))],
fun p=>.build [(.i .i64 0),(.i .i64 0),(.i .i64 0),(.i .i64 0),(.i .i64 0)] [(0,1,(.c (.i .i64 (C3 (p 0))))),(1,1,(.c (.i .i64 (C3 (p 1))))),(2,1,(.c (.i .i64 (C3 (p 2))))),(3,1,(.c (.i .i64 (C3 (p 3))))),(4,1,(.c (.i .i64 (C3 (p 4)))))],
fun p=>.build [(.s ⟨#[]⟩),(.i .i64 0),(.i .i64 0),(.b false),(.b false),.ns,(.i .i64 0),(.i .i64 0),(.i .i64 0),(.i .i64 0),(.i .i64 0)] [(0,1,(.c (.s ⟨#[97]⟩))),(5,1,(.t (p 0))),(6,5,(.t (p 1)))],
fun p=>.bsl 1 [(.i .u8 0)] 12 [(0,(.c (.i .u8 1))),(1,(.c (.i .u8 1))),(2,(.c (.i .u8 0))),(3,(.c (.i .u8 7))),(4,(.c (.i .u8 5))),(5,(.c (.i .u8 2))),(6,(.c (.i .u8 1))),(7,(.c (.i .u8 3))),(8,(.c (.i .u8 11))),(9,(.c (.i .u8 0))),(10,(.c (.i .u8 1))),(11,(.c (.i .u8 0)))],
fun p=>.call (.fn Mq) [(.t (p 0)),(.c (.i .i64 (C3 (p 1)))),(.t (p 2)),(.c .ns)],
fun p=>.build [.ns,.ns,.ns] [],
fun p=>.build [(.i .i64 0),(.i .i64 0),(.i .i64 0),(.i .i64 0),(.i .i64 0),(.i .u32 0)] [(3,1,(.c (.i .i64 (C3 (p 0))))),(5,1,(.c (.i .u32 7)))],
fun p=>.build [(.i .i64 0),(.i .i64 0),(.i .i64 0),(.i .i64 0),(.i .i64 0),(.i .u32 0)] [(0,1,(.c (.i .i64 (C3 (p 0))))),(2,1,(.c (.i .i64 (C3 (p 1))))),(3,1,(.c (.i .i64 (C3 (p 2))))),(4,1,(.c (.i .i64 (C3 (p 3)))))],
fun p=>.build [(.i .i64 0),(.i .i64 0),(.i .i64 0),(.i .i64 0),(.i .i64 0),(.i .u32 0)] [(0,1,(.c (.i .i64 (C3 (p 0))))),(2,1,(.c (.i .i64 (C3 (p 1))))),(4,1,(.c (.i .i64 (C3 (p 2)))))],
fun p=>.call (.fn lZ) [(.t (p 0))],
fun p=>.bin .eql (.t (p 0)) (.c (.i .u32 7)),
fun p=>.call (.fn R6) [(.t (p 0)),(.t (p 1))],
fun p=>.call (.fn R6) [(.t (p 0)),(.c .np)],
fun p=>.alloc [(.i .u32 0),(.i .u32 0),(.i .u32 0),(.i .u32 0),(.i .u32 0),(.i .u32 0),(.i .u32 0),(.i .u32 0),(.i .u32 0),(.i .u32 0),(.i .u32 0),(.i .u32 0),(.i .u32 0),(.i .u32 0),(.i .u32 0),(.i .u32 0)],
fun p=>.alloc [(.i .u32 0),(.i .u32 0),(.i .u32 0),(.i .u32 0),(.i .u32 0),(.i .u32 0),(.i .u32 0),(.i .u32 0)],
fun p=>.build [(.i .u32 0),(.i .u32 0),(.i .u32 0),(.i .u32 0),(.i .u32 0),(.i .u32 0),(.i .u32 0),(.i .u32 0)] [],
fun p=>.load 8 true (.t (p 0)),
fun p=>.call (.fn RR) [(.t (p 0))],
fun p=>.call (.fn Nq) [(.t (p 0))],
fun p=>.call (.fn Np) [(.t (p 0))],
fun p=>.app 11 (.t (p 0)) (.t (p 1)),
fun p=>.call (.fn RX) [(.t (p 0))],
fun p=>.call (.fn RU) [(.t (p 0))],
fun p=>.call (.fn Nr) [(.t (p 0))]]
def aGo:List ((Nat→Nat)→O):=[fun p=>.build [(.i .i64 0),(.i .i64 0),(.i .i64 0),(.i .i64 0),(.i .i64 0),.ns,(.b false)] [(0,5,(.t (p 0)))],
fun p=>.build [.ns] [],
fun p=>.build [(.i .i64 0),(.i .i64 0),(.b false)] [(0,1,(.t (p 0)))],
fun p=>.bsl 3 [(.i .i64 0),(.i .i64 0),(.b false)] 1 [(0,(.t (p 0)))],
fun p=>.call (.fn Nt) [(.t (p 0))],
fun p=>.build [(.i .u32 0),(.i .u32 0),(.i .u32 0),(.i .u32 0),(.i .u32 0),(.i .u32 0),(.i .u32 0),(.i .u32 0),(.i .i64 0)] [(8,1,(.t (p 0)))],
fun p=>.bsl 9 [(.i .u32 0),(.i .u32 0),(.i .u32 0),(.i .u32 0),(.i .u32 0),(.i .u32 0),(.i .u32 0),(.i .u32 0),(.i .i64 0)] 1 [(0,(.t (p 0)))],
fun p=>.app 9 (.t (p 0)) (.t (p 1)),
fun p=>.build [(.i .u32 0),(.i .u32 0),(.i .u32 0),(.i .u32 0),(.i .u32 0),(.i .u32 0),(.i .u32 0),(.i .u32 0),(.i .u32 0),(.i .u32 0),(.i .u32 0),(.i .u32 0),(.i .u32 0),(.i .u32 0),(.i .u32 0),(.i .u32 0)] [],
fun p=>.build [.ns,.ns] [(1,1,(.t (p 0)))],
fun p=>.alloc [(.i .i64 0),(.i .i64 0),(.b false)],
fun p=>.call (.fn Nu) [(.t (p 0)),(.t (p 1))],
fun p=>.call (.fn J0) [(.t (p 0))],
fun p=>.call (.fn Nv) [(.t (p 0))],
fun p=>.bin .rem (.t (p 0)) (.c (.i .i64 (C3 (p 1)))),
fun p=>.build [(.i .i64 0),(.i .i64 0),(.i .i64 0),(.i .i64 0)] [],
fun p=>.build [(.i .i64 0),(.i .i64 0),(.i .i64 0),(.i .i64 0)] [(0,1,(.t (p 0))),(1,1,(.t (p 1))),(2,1,(.t (p 2))),(3,1,(.t (p 3)))],
fun p=>.call (.fn RY) [(.t (p 0))],
fun p=>.ext (.t (p 0)) 2,
fun p=>.call (.fn Nw) [(.t (p 0)),(.t (p 1)),(.t (p 2)),(.t (p 3))],
fun p=>.call (.fn Nx) [(.t (p 0)),(.t (p 1)),(.t (p 2))],
fun p=>.call (.fn Ny) [(.t (p 0)),(.t (p 1)),(.t (p 2))],
fun p=>.call (.fn Nz) [(.t (p 0)),(.t (p 1))],
fun p=>.call (.fn NA) [(.t (p 0)),(.t (p 1)),(.t (p 2)),(.t (p 3))]]
def aGp:List ((Nat→Nat)→O):=[fun p=>.call (.fn NB) [(.t (p 0)),(.t (p 1)),(.t (p 2)),(.t (p 3))],
fun p=>.eq true (.agg [.i,.i,.i,.i,.i,.i,.i,.i,.i]) (.t (p 0)) (.t (p 1)),
fun p=>.call (.fn R1) [(.t (p 0)),(.t (p 1))],
fun p=>.eq true (.agg [.i,.i,.i]) (.t (p 0)) (.t (p 1)),
fun p=>.call (.fn R3) [(.t (p 0))],
fun p=>.call (.fn R5) [(.t (p 0))],
fun p=>.slice 11 (.t (p 0)) none (some (.t (p 1))) none,
fun p=>.mkfn (.func R8) [] [(.t (p 0))],
fun p=>.call (.fn R7) [(.t (p 0)),(.t (p 1))],
fun p=>.call (.fn R9) [(.t (p 0))],
fun p=>.call (.fn Sa) [(.t (p 0)),(.t (p 1))],
fun p=>.call (.fn Sb) [(.t (p 0)),(.t (p 1))],
fun p=>.slice 6 (.t (p 0)) none (some (.t (p 1))) (some (.t (p 2))),
fun p=>.slice 3 (.t (p 0)) none (some (.t (p 1))) (some (.t (p 2))),
fun p=>.store 1 (.t (p 0)) (.c (.b false)),
fun p=>.inv (.t (p 0)) "Push" [(.t (p 1))],
fun p=>.call (.fn NC) [(.t (p 0)),(.t (p 1))],
fun p=>.inv (.t (p 0)) "Swap" [(.c (.i .i64 (C3 (p 1)))),(.t (p 2))],
fun p=>.call (.fn ND) [(.t (p 0)),(.c (.i .i64 (C3 (p 1)))),(.t (p 2))],
fun p=>.inv (.t (p 0)) "Pop" [],
fun p=>.bin .leq (.t (p 0)) (.c (.i .i64 255)),
fun p=>.bin .geq (.t (p 0)) (.c (.i .u64 16)),
fun p=>.bin .mul (.t (p 0)) (.c (.i .u32 256)),
fun p=>.store 1 (.t (p 0)) (.c (.b true))]
def aEL:List ((Nat→Nat)→O):=[fun p=>.mkfn (.method "Change") [(.t (p 0))] [],
fun p=>.inv (.t (p 0)) "Change" [(.t (p 1))],
fun p=>.inv (.t (p 0)) "StopAll" [],
fun p=>.call (.fn Sd) [(.t (p 0)),(.t (p 1)),(.t (p 2))],
fun p=>.inv (.t (p 0)) "Send" [(.t (p 1)),(.t (p 2))],
fun p=>.inv (.t (p 0)) "Recv" [(.t (p 1))],
fun p=>.bin .neq (.t (p 0)) (.c (.i .u32 2)),
fun p=>.build [(.i .i64 0),(.i .i64 0),(.i .i64 0)] [(0,1,(.t (p 0))),(1,1,(.t (p 1))),(2,1,(.t (p 2)))],
fun p=>.call (.fn Se) [(.t (p 0)),(.t (p 1))],
fun p=>.eq true (.agg [.i,.i,.b]) (.t (p 0)) (.t (p 1)),
fun p=>.call (.fn Sf) [(.t (p 0))],
fun p=>.sidx (.t (p 0)) (.t (p 1)),
fun p=>.bin .geq (.t (p 0)) (.c (.i .u8 97)),
fun p=>.bin .leq (.t (p 0)) (.c (.i .u8 122)),
fun p=>.bin .lss (.t (p 0)) (.c (.i .u8 48)),
fun p=>.bin .gtr (.t (p 0)) (.c (.i .u8 57)),
fun p=>.bin .neq (.t (p 0)) (.c (.i .u8 95)),
fun p=>.call (.fn Sg) [(.t (p 0)),(.t (p 1))],
fun p=>.idx 1 5 false (.t (p 0)) (.t (p 1)),
fun p=>.call (.fn Si) [(.t (p 0))],
fun p=>.call (.fn Ik) [(.t (p 0)),(.c (.i .i64 4096))],
fun p=>.call (.fn Sj) [(.t (p 0))],
fun p=>.mkfn (.func Sm) [] [(.t (p 0))],
fun p=>.call (.fn Sk) [(.t (p 0)),(.t (p 1))]]
def aEM:List ((Nat→Nat)→O):=[fun p=>.call (.fn Sn) [(.t (p 0)),(.t (p 1))],
fun p=>.bin .quo (.t (p 0)) (.c (.i .i64 (C3 (p 1)))),
fun p=>.bin .mul (.c (.i .i64 (C3 (p 0)))) (.t (p 1)),
fun p=>.iada 1 5 (.t (p 0)) (.t (p 1)),
fun p=>.call (.fn Ik) [(.t (p 0)),(.c (.i .i64 511))],
fun p=>.call (.fn Ik) [(.t (p 0)),(.c (.i .i64 255))],
fun p=>.call (.fn Sp) [(.t (p 0))],
fun p=>.call (.fn Hk) [(.t (p 0))],
fun p=>.call (.fn Sq) [(.t (p 0))],
fun p=>.bin .gtr (.t (p 0)) (.c (.i .i64 96)),
fun p=>.call (.fn Sr) [(.t (p 0)),(.t (p 1))],
fun p=>.call (.fn Ss) [(.t (p 0)),(.t (p 1)),(.t (p 2))],
fun p=>.bin .eql (.t (p 0)) (.c (.i .i64 (-1))),
fun p=>.call (.fn St) [(.t (p 0)),(.t (p 1)),(.t (p 2))],
fun p=>.call (.fn Su) [(.t (p 0))],
fun p=>.bin .gtr (.t (p 0)) (.c (.i .i64 128)),
fun p=>.call (.fn Sw) [(.t (p 0))],
fun p=>.build [.ns,.ns,(.i .i64 0),(.i .i64 0),(.i .i64 0)] [(0,1,(.t (p 0)))],
fun p=>.call (.fn NE) [(.t (p 0))],
fun p=>.call (.fn Sx) [(.t (p 0))],
fun p=>.call (.fn NF) [(.t (p 0))],
fun p=>.call (.fn Sz) [(.t (p 0))],
fun p=>.call (.fn SC) [(.t (p 0)),(.t (p 1)),(.t (p 2))],
fun p=>.call (.fn SF) [(.t (p 0)),(.c (.i .i64 (C3 (p 1))))]]
def aEN:List ((Nat→Nat)→O):=[fun p=>.call (.fn J1) [(.t (p 0)),(.c (.i .i64 (C3 (p 1))))],
fun p=>.call (.fn J1) [(.t (p 0)),(.t (p 1))],
fun p=>.slice 2 (.t (p 0)) none (some (.t (p 1))) none,
fun p=>.bin .sub (.c (.i .i64 9223372036854775807)) (.t (p 0)),
fun p=>.mv (.c (.i .i64 9223372036854775807)),
fun p=>.iad 2 (.t (p 0)) (.c (.i .i64 (C3 (p 1)))),
fun p=>.build [(.i .i64 0),(.i .i64 0),(.i .i64 0),(.i .i64 0),(.i .i64 0),(.i .i64 0)] [(3,1,(.c (.i .i64 (C3 (p 0)))))],
fun p=>.alloc [(.i .i64 0),(.i .i64 0),(.i .i64 0)],
fun p=>.build [(.i .i64 0),(.i .i64 0),(.i .i64 0),(.i .i64 0),(.i .i64 0),(.i .i64 0)] [(0,3,(.t (p 0))),(3,1,(.t (p 1)))],
fun p=>.alloc [(.i .i64 0),(.i .i64 0),(.i .i64 0),(.i .i64 0),(.i .i64 0),(.i .i64 0)],
fun p=>.slice 6 (.t (p 0)) none (some (.t (p 1))) none,
fun p=>.call (.fn SH) [(.t (p 0)),(.t (p 1))],
fun p=>.call (.fn SI) [(.t (p 0)),(.t (p 1))],
fun p=>.bin .leq (.t (p 0)) (.c (.i .i64 128)),
fun p=>.mv (.c (.i .u32 2)),
fun p=>.mv (.c (.i .u32 3)),
fun p=>.call (.fn Mm) [(.t (p 0))],
fun p=>.bsl 1 [(.i .i64 0)] 1 [(0,(.t (p 0)))]]
def aGq:Nat→List ((Nat→Nat)→O)
 | 0=>aGg
 | 1=>aGh
 | 2=>aGi
 | 3=>aGj
 | 4=>aGk
 | 5=>aGl
 | 6=>aGm
 | 7=>aGn
 | 8=>aGo
 | 9=>aGp
 | 10=>aEL
 | 11=>aEM
 | _=>aEN
def shp (s:Nat) (p:Nat→Nat):O:=ZP (fun _=>.e0) (aGq (s / 24)) (s % 24) p
def nps:List Nat:=[1,2,1,1,1,1,2,2,0,2,2,2,1,2,0,1,2,2,1,1,1,2,2,2,0,2,2,0,2,2,1,2,2,0,0,1,2,2,2,0,2,2,1,2,0,2,1,1,1,2,1,1,0,2,2,2,2,2,1,0,1,2,2,2,1,2,2,2,2,0,1,1,1,2,1,2,1,1,1,2,0,2,2,2,1,0,1,2,1,1,3,1,2,2,2,2,2,2,3,1,0,2,2,2,1,0,2,2,2,1,1,1,1,1,1,3,2,1,0,1,2,3,2,1,1,2,2,1,1,1,2,0,2,1,1,4,1,1,2,4,3,1,2,1,1,1,1,1,1,5,1,0,1,0,1,2,1,3,2,1,5,1,3,1,2,2,2,2,2,5,2,0,3,0,1,4,3,1,1,2,1,0,0,0,1,1,1,1,2,1,1,1,1,0,1,1,1,1,1,2,0,1,0,2,1,1,2,0,4,1,1,4,3,3,2,4,4,2,2,2,1,1,2,1,2,1,2,2,3,3,1,2,2,3,3,1,1,1,1,1,1,2,1,3,3,2,1,3,2,2,1,2,1,1,1,1,1,2,2,1,1,1,1,2,2,2,2,2,1,1,1,1,1,1,2,3,1,3,1,1,1,1,1,1,1,1,3,2,2,2,2,1,0,2,1,0,2,0,2,2,2,1,0,0,1,1]
abbrev Rs:=List TO×List (Bool×List TO)
abbrev Rc:=Nat→Nat→Nat→Bool→Rs
def oI (s:Nat) (d:Option Nat) (g:Option (Nat×Bool)) (l:List Nat) (r:Rs):Rs:=(⟨d,shp s (fun i=>ZP 0 l i),g⟩::r.1,r.2)
def Y4 (R:Nat) (rc:Nat→List Nat→Rs):Nat→Nat→List Nat→Rs
 | 0,n,l=>rc n l
 | f+1,n,l=>Y4 R rc f (n / R) (n % R::l)
def Y3 (R s:Nat) (rc:Rc) (g:Option (Nat×Bool)) (gn:Nat) (gb:Bool) (p:Nat):Nat→Nat→Rs
 | 0,n=>Y4 R (fun n l=>oI s (some (p+1)) g l (rc n (p+1) gn gb)) (ZP 0 nps s) n []
 | 1,n=>Y4 R (fun m l=>oI s (some (n % R)) g l (rc m (n % R) gn gb)) (ZP 0 nps s) (n / R) []
 | _+2,n=>Y4 R (fun n l=>oI s none g l (rc n p gn gb)) (ZP 0 nps s) n []
def aGf (R s:Nat) (rc:Rc) (p gn:Nat) (gb:Bool):Nat→Nat→Rs
 | 0,n=>Y3 R s rc none gn gb p (n % 3) (n / 3)
 | 1,n=>Y3 R s rc (some (n % R,true)) (n % R) true p (n / R % 3) (n / R / 3)
 | 2,n=>Y3 R s rc (some (n % R,false)) (n % R) false p (n / R % 3) (n / R / 3)
 | _+3,n=>Y3 R s rc (some (gn,gb)) gn gb p (n % 3) (n / 3)
def aEK (b:Bool) (r:Rs):Rs:=([],(b,r.1)::r.2)
def aGr (R:Nat) (rc:Rc) (p gn:Nat) (gb:Bool):Nat→Nat→Rs
 | 0,_=>([],[])
 | 1,n=>aEK true (rc n p gn gb)
 | 2,n=>aEK false (rc n p gn gb)
 | s+3,n=>aGf R s rc p gn gb (n % 4) (n / 4)
def oH (R:Nat):Nat→Rc
 | 0=>fun _ _ _ _=>([],[])
 | f+1=>fun n p gn gb=>aGr R (oH R f) p gn gb (n % 309) (n / 309)
def aEJ (n:Nat):Nat:=ZP 0 [32,64,128,512] (n % 4)
@[go_sem ↓] def k (n:Nat) {l:List TO} (h:(oH (aEJ n) 400 (n / 4) 511 0 true).1=l:=by conv=>lhs;cbv):List TO:=l
@[go_sem ↓] def kd (n:Nat) {l:List (Bool×List TO)} (h:(oH (aEJ n) 400 (n / 4) 511 0 true).2=l:=by conv=>lhs;cbv):List (Bool×List TO):=l
/-! horarium/horariumlaw19.PartReckons -/
@[go_sem] def aET:=k 0x16f1c
@[go_sem] def aEU:=k 0xb6601cff8ef08a183b2ccd58a6fd10326da7b3ef710d80
@[go_sem] def aEV:=k 0x780884ac332fad8fdb298971c7b438b08008
@[go_sem] def aEW:=k 0x3967c1eed13703195742f0ff3769de98325f5bc3a97a68cde5
@[go_sem] def aEX:=k 0x7619e74951d
@[go_sem] def aEY:=k 0x16f1c
@[go_sem] def aEZ:=k 0x25758
@[go_sem] def aE0:=k 0x290bc
@[go_sem] def aE1:=k 0x1f34b2a8900fd
@[go_sem] def aE2:=k 0x14bfd475f2611133d5dafb8ec9dc424bc1079e52aad
@[go_sem] def oT:=k 0x9a15fb1026d
@[go_sem] def oU:=k 0x16f1c
@[go_sem] def oV:=k 0x282e9f8497e4d
@[go_sem] def oW:=k 0x8db5d1416eb9
@[go_sem] def oX:=k 0x1e8c826588d872074dd
def Nb:TC:=(.seq (.seq (.reg aE1) (.cond (.t 39) .skip (.exit 0))) (.seq (.block 1 (.seq (.reg aE2) (.seq (.seq (.reg oT) (.cond (.t 48) (.seq (.reg oU) .ret) .skip)) (.seq (.reg oV) (.cond (.t 50) (.reg oW) .skip))))) (.reg oX)))
@[go_sem] def oY:=k 0x3a890738e2637321f7c9d495798bc4e95bc52ab5d4840950e213332dd01f9eeefeb1422e5e594cc263f8fd81e
@[go_sem] def oZ:=k 0x1b0f678fa2c33e
@[go_sem] def pA:=k 0x37bdc4f06f1e
@[go_sem] def pB:=k 0x2c74652184a5d52d26a22518f8e739a8cf39964408509ce591829c08fbac42a42f39eea1219b02
@[go_sem] def pC:=k 0x387d9ee729cf23d6ed796a23e
@[go_sem] def pD:=k 0xfe222d5807b2a58768f46acd3bd0baa382384bc3ef1f0abf9c1f4c8baf240685aab15c93021a88610dcfc58382de9ae4a1ae85f94ba1a88670e3ba25e1b7c209aeeff9cd4e4a6acd2772d1052a757533a9254b2b036c231569d554c84ccd62fa919250012
def Ge:TF:=⟨118,[.t 6],(.seq (.reg aET) (.seq (.reg aEU) (.seq (.reg aEV) (.seq (.reg aEW) (.seq (.seq (.reg aEX) (.cond (.t 37) (.seq (.reg aEY) .ret) .skip)) (.seq (.reg aEZ) (.seq (.seq (.reg aE0) (.block 0 (.loop Nb))) (.seq (.reg oY) (.seq (.seq (.reg oZ) (.cond (.t 67) (.seq (.seq (.reg pA) (.cond (.t 69) (.seq (.reg pB) .ret) .skip)) (.reg pC)) .skip)) (.seq (.reg pD) .ret))))))))))⟩
/-! horarium/horariumbook.Within -/
@[go_sem] def aE3:=k 0x16f0c
@[go_sem] def aE4:=k 0x12c69431bbaafddf290beecb84710ef785859e8ec
@[go_sem] def aE5:=k 0x18e8f80bb86c
@[go_sem] def aE6:=k 0x14effc7fe6e5ddf52115a2723f6c6341cf25c
@[go_sem] def aE7:=k 0x240f23f84dfc
@[go_sem] def aE8:=k 0x1ce8df155ebce8167c3707e8da634db5ec1dc
@[go_sem] def aE9:=k 0x563b7b828ca1597ebf2597d
def T0:TF:=⟨33,[.t 6],(.seq (.reg aE3) (.seq (.seq (.reg aE4) (.cond (.t 14) (.seq (.reg aE5) .ret) .skip)) (.seq (.reg aE6) (.seq (.seq (.reg aE7) (.cond (.t 23) (.reg aE8) .skip)) (.seq (.reg aE9) .ret)))))⟩
/-! horarium/part.New -/
@[go_sem] def aFa:=k 0x6d6f803b4c
@[go_sem] def aFb:=k 0x464280968a9b337d194338c028f0ea54e96f65465a703ad70d648f65f9561e6b8d4cf04
@[go_sem] def aFc:=k 0x1e38c
@[go_sem] def aFd:=kd 0x19c4cad892844b4c3062d41492d249c8c8b72c5862fbccd92a330bb215ee6490e2d0796af1e20878c4cc21f22c330ed991efe43b3465c579
@[go_sem] def aFe:=k 0x4806395aeaae178bbf8a29be412b1a8cf75c00191a69c127a361b18649d
@[go_sem] def aFf:=k 0xb11c6dba7fd
@[go_sem] def aFg:=k 0x2dfff57381bdd
def Jr:TF:=⟨57,[.t 8],(.seq (.reg aFa) (.seq (.seq (.reg aFb) (.cond (.t 23) (.seq (.reg aFc) .ret) .skip)) (.seq (.dreg aFd) (.seq (.reg aFe) (.seq (.reg aFf) (.seq (.reg aFg) .ret))))))⟩
/-! (*horarium/part.Part).Tick -/
@[go_sem] def aFh:=k 0x50a5b8
@[go_sem] def aFi:=k 0x9078f4d0ac
@[go_sem] def aFj:=k 0x7eafe93ecee6e8
@[go_sem] def aFk:=k 0xb81ee9bc7c
@[go_sem] def aFl:=k 0x19493ef9fe83ac0
@[go_sem] def aFm:=k 0x19c6c3cfc749385db22204a63c
@[go_sem] def aFn:=k 0x3405dece2c2e4e7e81b839c471676cd4453098dfc
@[go_sem] def aFo:=k 0x43fdfcb61366b2290b85b00ecc9fd6a934a38d
@[go_sem] def aFp:=k 0x1caeea83a632d
@[go_sem] def aFq:=k 0x3965eba37e2b40bb45b0d
@[go_sem] def vB:=k 0x26824a49eeeb83b2ce47797369cd6290667554ff2e5f35be81eac209754a37358ceed
@[go_sem] def vC:=kd 0x1c7458ad3d209eaa879a787520e8a13fe7dd9425b43e3967912a17c84101bb0a5da13ec3eb21
@[go_sem] def vD:=k 0x2a498414117ba3dbac35003a1
@[go_sem] def vE:=k 0x10427effc5dab4d39fe
@[go_sem] def vF:=k 0x1208a29392ebbde2
@[go_sem] def vG:=k 0x7c83a6ff615b3f019312a66
@[go_sem] def vH:=k 0x130e78c18aecdf92
@[go_sem] def vI:=k 0xb246345d02e89cd1075d6eaf94f1f22231efc8e09ed19fa243f223a023347c1aee6556e
@[go_sem] def vJ:=k 0xb9b57d59fa4d2fd315db3e77879cc77c1b2acaf2dad104565e5eab432a05972ab6eb0e867f06d0cae
@[go_sem] def vK:=k 0x8cf58bfe853b60ed1982
@[go_sem] def vL:=k 0x2809bbb969c752
@[go_sem] def vM:=k 0x425774f180aa550f5befe413e
@[go_sem] def vN:=k 0xfd9dc6734e24ee98a
def MV:TF:=⟨103,[.cell 4 6 true,.t 5],(.seq (.reg aFh) (.seq (.seq (.reg aFi) (.cond (.t 12) (.seq (.reg aFj) .ret) .skip)) (.seq (.seq (.reg aFk) (.cond (.t 15) (.reg aFl) .skip)) (.seq (.reg aFm) (.seq (.reg aFn) (.seq (.reg aFo) (.seq (.seq (.reg aFp) (.cond (.t 36) (.seq (.reg aFq) .ret) .skip)) (.seq (.reg vB) (.seq (.dreg vC) (.seq (.reg vD) (.seq (.block 0 (.seq (.reg vE) (.cond (.t 85) (.reg vF) (.seq (.reg vG) (.cond (.t 89) (.reg vH) (.seq (.reg vI) (.reg vJ))))))) (.seq (.seq (.reg vK) (.cond (.t 96) (.seq (.reg vL) (.reg vM)) .skip)) (.seq (.reg vN) .ret)))))))))))))⟩
/-! (*horarium/part.Part).Stopped -/
@[go_sem] def aFr:=k 0x875c
@[go_sem] def aFs:=k 0xf92618e8fb2762f0b6a1ffa32412c
def MW:TF:=⟨8,[.t 2],(.seq (.reg aFr) (.seq (.reg aFs) .ret))⟩
/-! (*horarium/part.Part).Same -/
@[go_sem] def aFt:=k 0xfb3c
@[go_sem] def aFu:=kd 0xb6cec85968786af198f8bc7f43d6da3c809a4225cbe3929230e0c4576c7ca7620f2fcb8fea95e6c7a7358e71e69ee565c852ba15c529ceea23fd575df0cbf3fbe418a6b8c0b22d63f64c4d29722c227c2421afbe00ee6202b6fd4056c6e8362af4a3ad5ab54467066c399a02996310629e6cac6aac8d9d2eef4b1127a3646ad848478136ef4ec71a866ca9c75859bda8608c2e78cbe4998ad9496a6fb2db26bd000e7c4dda513105f82
def MX:TF:=⟨65,[.t 4],(.seq (.reg aFt) (.seq (.dreg aFu) .ret))⟩
/-! horarium/horariumlaw19.known -/
@[go_sem] def aFv:=k 0x137c
@[go_sem] def aFw:=k 0x8fb6f25697c93c3d74310d224fee50e99cd5b3ec6f5bfc50a6c789a0
@[go_sem] def aFx:=k 0x102aeebb4fe64afda3cc44
@[go_sem] def aFy:=k 0x9dc1b08e1de45253453586fbc219dca35c58e092395d13bc2f416c687e0b3cd
@[go_sem] def aFz:=k 0x137c
@[go_sem] def aFA:=k 0x127e76a90911bf255e281aa0a81c876bd45ce6aa4fd
@[go_sem] def aFB:=k 0x14bfd396b99d3fb129d1b5a11ac0424bc10797fc6ad
@[go_sem] def aFC:=k 0x170130846a28c03cf57b50a18d63fd2badb2494e85d
@[go_sem] def aFD:=k 0x19428d721ab440c8c124eba20007b80b9a5cfaa0a0d
@[go_sem] def aFE:=k 0x1b83ea5fcb3fc1548cce86a272ab72eb8707abf2bbd
@[go_sem] def aBc:=k 0x338162875469a0e2bdf23c669449e00cdc109791b22a7415afe374e76bc8fbc6d34676d56690773507ce7f42efea38aa9a24cf4319f4f65e2fa71285576cbccf65500095da63103d8906f284ae235f1509dc2914405606026331cd0bf8089c80b65addad2110e1be2bb49e51e312742597d39b1eb935f262cbaefb840f026b240b129cd3475ddc843f85fe454bd09a32f41271e4d888ae8349340bdbf49bad5fc37554fd75cfd5fb7e
def T3:TF:=⟨118,[.t 0],(.seq (.reg aFv) (.seq (.reg aFw) (.seq (.reg aFx) (.seq (.seq (.reg aFy) (.cond (.t 36) (.seq (.reg aFz) .ret) .skip)) (.seq (.reg aFA) (.seq (.reg aFB) (.seq (.reg aFC) (.seq (.reg aFD) (.seq (.reg aFE) (.seq (.reg aBc) .ret))))))))))⟩
/-! (*horarium/part.Part).Clock -/
@[go_sem] def aFF:=k 0x874c
@[go_sem] def aFG:=k 0x7627667fc7d8b5d0dea32412c
def T4:TF:=⟨7,[.t 2],(.seq (.reg aFF) (.seq (.reg aFG) .ret))⟩
/-! (*horarium/part.Part).Memory -/
@[go_sem] def aFH:=k 0x8a10
@[go_sem] def aFI:=k 0x2afba164370bc51eafa32412c
def T5:TF:=⟨7,[.cell 2 16 true],(.seq (.reg aFH) (.seq (.reg aFI) .ret))⟩
/-! (*horarium/part.Part).Registers -/
@[go_sem] def aFJ:=k 0xfdf4
@[go_sem] def aFK:=k 0x9f4a9d7f6e985f603dc8d2515ec85bc4060dab46df096cb5dbb30c
@[go_sem] def aFL:=k 0x3b4a7ac738
@[go_sem] def aFM:=k 0xf96815e1dc749414ea8bb84e521bc9e19152b5c36c4c
def T6:TF:=⟨25,[.cell 4 8 true],(.seq (.reg aFJ) (.seq (.seq (.reg aFK) (.cond (.t 15) (.seq (.reg aFL) .ret) .skip)) (.seq (.reg aFM) .ret)))⟩
/-! horarium/config.Right -/
@[go_sem] def pE:=k 0x6568d7c
@[go_sem] def pF:=k 0x47c1bfe189c109ab10436622d4f571fad44
@[go_sem] def pG:=k 0x10828c7c50bc
def KB:TF:=⟨11,[.t 2],(.seq (.reg pE) (.seq (.reg pF) (.seq (.reg pG) .ret)))⟩
/-! horarium/config.Copy -/
@[go_sem] def pH:=k 0x3820cd7c
@[go_sem] def pI:=k 0xc218
@[go_sem] def pJ:=k 0x2b372a244e1e120e0
@[go_sem] def pK:=k 0xa4076c8
@[go_sem] def pL:=k 0x3aa96d77cee0c0d706f40
@[go_sem] def pM:=k 0x563ad8b79a6845a245cbfeb73666e70
@[go_sem] def pN:=k 0x19ae706e85f8b6691cd1fd3a37d1bf7725420
@[go_sem] def pO:=k 0x566422faa73e0
def PU:TC:=(.seq (.reg pK) (.seq (.cond (.t 12) .skip (.exit 0)) (.seq (.block 1 (.seq (.reg pL) (.seq (.reg pM) (.reg pN)))) (.reg pO))))
@[go_sem] def pP:=k 0x8cb830ce4b79890961919b0dd2d2db0
@[go_sem] def aK:=k 0x593670de1dae13cd61
@[go_sem] def aL:=k 0x80b1b149
@[go_sem] def aM:=k 0x1c46de28e4ba5426765
@[go_sem] def aN:=kd 0x287d24c469bd790d8346d91a07b66fe7da8168fc59e1414f5b5c7c3b5
@[go_sem] def aO:=k 0x9be12c44163291
def LO:TC:=(.seq (.reg aL) (.seq (.cond (.t 36) .skip (.exit 2)) (.seq (.block 3 (.seq (.reg aM) (.dreg aN))) (.reg aO))))
@[go_sem] def aP:=k 0x2432dff364a5
def HK:TF:=⟨49,[.cell 2 3 true],(.seq (.reg pH) (.seq (.reg pI) (.seq (.seq (.reg pJ) (.block 0 (.loop PU))) (.seq (.reg pP) (.seq (.seq (.reg aK) (.block 2 (.loop LO))) (.seq (.reg aP) .ret))))))⟩
/-! slices.Clone[[]byte,byte] -/
@[go_sem] def pQ:=k 0x8774
@[go_sem] def pR:=k 0x278726412c
@[go_sem] def pS:=k 0x8774
@[go_sem] def pT:=k 0x2600933fca60c5c2efdc
def KC:TF:=⟨8,[.t 2],(.seq (.reg pQ) (.seq (.seq (.reg pR) (.cond (.t 4) (.seq (.reg pS) .ret) .skip)) (.seq (.reg pT) .ret)))⟩
/-! slices.Clone[[]uint32,uint32] -/
@[go_sem] def pU:=k 0x8774
@[go_sem] def pV:=k 0x278726412c
@[go_sem] def pW:=k 0x8774
@[go_sem] def pX:=k 0x2600933fca60c5c2efdc
def KD:TF:=⟨8,[.t 2],(.seq (.reg pU) (.seq (.seq (.reg pV) (.cond (.t 4) (.seq (.reg pW) .ret) .skip)) (.seq (.reg pX) .ret)))⟩
/-! horarium/health.New -/
@[go_sem] def pY:=k 0x2a8c8d7c
@[go_sem] def pZ:=k 0x1b41a5d71678beb24054
def KE:TF:=⟨6,[.t 2],(.seq (.reg pY) (.seq (.reg pZ) .ret))⟩
/-! horarium/proc.New -/
@[go_sem] def qA:=k 0x87ec
@[go_sem] def qB:=k 0x10ea474fee0401bceacf73373fdca34fdfda56efc
@[go_sem] def qC:=k 0x87ec
@[go_sem] def qD:=k 0x16694a8e20f5380
@[go_sem] def qE:=k 0xc4afc31b25c
@[go_sem] def qF:=k 0x10cafe58
@[go_sem] def qG:=k 0x3d02089e75d813d7af690
@[go_sem] def qH:=kd 0x4dfde8fef1f7a5cd1a660c957a37a37e30aaaa3871411cdf909194e942b2ec776ce704c9e531
@[go_sem] def qI:=k 0x7064cff5844161
def Y9:TC:=(.seq (.reg qF) (.seq (.cond (.t 19) .skip (.exit 0)) (.seq (.block 1 (.seq (.reg qG) (.dreg qH))) (.reg qI))))
@[go_sem] def aQ:=k 0x1cb68cfc4732d
def KF:TF:=⟨36,[.t 2],(.seq (.reg qA) (.seq (.seq (.reg qB) (.cond (.t 13) (.seq (.reg qC) .ret) .skip)) (.seq (.reg qD) (.seq (.seq (.reg qE) (.block 0 (.loop Y9))) (.seq (.reg aQ) .ret)))))⟩
/-! (*horarium/part.Part).begin -/
@[go_sem] def qJ:=k 0x449e2a24bc388e09a6737b1c
@[go_sem] def qK:=k 0x3ed9134e040653b99ccc
@[go_sem] def qL:=kd 0x51c3527193e6188ff1ec58780772ee275e72ba8de324bb7aeab6bca80a1f3b0e50
@[go_sem] def qM:=k 0x175585e8
@[go_sem] def qN:=k 0x29ddf18f117568ce57e20
@[go_sem] def qO:=kd 0x5e8bbb023b96a21f61a242ca5860339156510a5dec044b19e3ab5c5b98db0d2fed1f0ac46801
@[go_sem] def qP:=k 0x87b2eb15ded6f1
def PV:TC:=(.seq (.reg qM) (.seq (.cond (.t 26) .skip (.exit 0)) (.seq (.block 1 (.seq (.reg qN) (.dreg qO))) (.reg qP))))
@[go_sem] def qQ:=k 0x6f196938758cf19a9f4a9694bd
def KG:TF:=⟨46,[],(.seq (.reg qJ) (.seq (.reg qK) (.seq (.seq (.dreg qL) (.block 0 (.loop PV))) (.reg qQ))))⟩
/-! (*horarium/proc.Table).Pick -/
@[go_sem] def qR:=k 0xfb2c
@[go_sem] def qS:=k 0x347bd9d0f8248e8a8e7ab47e08377862dc
@[go_sem] def qT:=k 0x92871e9b74180dbe380ffbe7c
@[go_sem] def qU:=k 0x11ba3648
@[go_sem] def qV:=k 0x2214c74e3c29ed41af3126e46bb6e0c
@[go_sem] def qW:=k 0x2ce43c4843e8ed953cd154e2a6f43ac1631515c1222668e5e1
@[go_sem] def qX:=k 0x540ea53996f71607b89ba1f74d
@[go_sem] def qY:=k 0x7d8eadba242921
def PW:TC:=(.seq (.reg qU) (.seq (.cond (.t 20) .skip (.exit 0)) (.seq (.block 1 (.seq (.reg qV) (.seq (.reg qW) (.cond (.t 32) (.reg qX) .skip)))) (.reg qY))))
@[go_sem] def qZ:=k 0x76b3d50db3c7e52ed
@[go_sem] def aR:=k 0xfba4
@[go_sem] def aS:=k 0x6d9a804ff8f35a35731fc800bd
def KH:TF:=⟨46,[.t 4],(.seq (.reg qR) (.seq (.reg qS) (.seq (.seq (.reg qT) (.block 0 (.loop PW))) (.seq (.seq (.reg qZ) (.cond (.t 41) (.seq (.reg aR) .ret) .skip)) (.seq (.reg aS) .ret)))))⟩
/-! horarium/isa.Fetch -/
@[go_sem] def rA:=k 0x50a6c0
@[go_sem] def rB:=k 0x6bbf9acdf6f944d63dc38c32cb51c315736b23d383459307c2ddffac293096563dfbecfc
@[go_sem] def rC:=k 0x7eafec1e84d158
@[go_sem] def rD:=kd 0xb4da7d1281e16c8771662f281d69ba1d5d4f3324e4cabc1725ca60840a206b40544272c2cd3b5e5b45fb5b0b662d8079c6471cab7b068b7a042595f393710f189e65ab68f281
def KI:TF:=⟨45,[.cell 4 4 true,.t 5],(.seq (.reg rA) (.seq (.seq (.reg rB) (.cond (.t 19) (.seq (.reg rC) .ret) .skip)) (.seq (.dreg rD) .ret)))⟩
/-! horarium/isa.Right -/
@[go_sem] def rE:=k 0x9f58d7c
@[go_sem] def rF:=k 0x46fab29eee1688af308eac1154327af999b616dea89c0e6f0
@[go_sem] def rG:=k 0xa5be1c8de998a72e364f4c730d15761a203b5ea2a6ff2ba5ef7c97f30b29bb0a3a3be47b1c155bcbcff2aa9f10a16758b52ec19df720504aa86c059a4b30af9e18ac355e870adb493d18091
def KJ:TF:=⟨39,[.t 2],(.seq (.reg rE) (.seq (.reg rF) (.seq (.reg rG) .ret)))⟩
/-! (*horarium/part.Part).do -/
@[go_sem] def rH:=k 0xc00bfceed2c
@[go_sem] def rI:=k 0x929291b75eab6e09daf6a89e6c084be848c
@[go_sem] def rJ:=k 0x1f24db67d430
@[go_sem] def rK:=k 0x4a4da190f4c14
@[go_sem] def rL:=k 0x4d94d1d16c404
@[go_sem] def rM:=k 0x50dc0211e3bf4
@[go_sem] def rN:=k 0x542332525b3e4
@[go_sem] def rO:=k 0x576a6292d2bd4
@[go_sem] def rP:=k 0x5ab192d6755c4
@[go_sem] def rQ:=k 0x5df8c316ecdb4
@[go_sem] def aU:=k 0xe4acafe21480d8af2b9ff904243243b4311463046811a38d
@[go_sem] def aV:=k 0x7b26664f0b5b25
@[go_sem] def aW:=k 0x7e6d968f1a1115
@[go_sem] def aX:=k 0x13d8e662b9295eced277cdc716f3ca52a486813e6ed
@[go_sem] def aY:=k 0x991d1b582a5c95
@[go_sem] def aZ:=k 0x1a4ddcc4e81ee7667ccd4270bc69b2cc3866d
@[go_sem] def bA:=k 0xb3bf83603aa815
@[go_sem] def bB:=kd 0x2138827bea817f67d7023995be2214c8f46ba888db5e1
@[go_sem] def bC:=k 0x444864d502c96ec59baa89f0ec6dd420d95f56e
@[go_sem] def bD:=k 0xe73dc265ce19b16
@[go_sem] def bE:=kd 0x2808463ba90bb4bec2afa7337a71ca86f058a429e33eaefa92bdd471c05297c84c7c66808a2b6065cf51bf0ba971d98b490e2
@[go_sem] def bF:=k 0x12602e84f5b0afe6
@[go_sem] def bG:=k 0xce5de166ba4e698080ec145822d49c71be
@[go_sem] def bH:=k 0x14070dd53504af66
@[go_sem] def bI:=k 0x143b80d93521e156
@[go_sem] def bJ:=k 0x146ff3dd35790346
@[go_sem] def bK:=k 0x14a466e135963536
@[go_sem] def bL:=k 0x5762831d1d358322beb251cbfc91ae8201dce2a078bdec42ef0e
@[go_sem] def bM:=k 0x35091c
def BW:TF:=⟨108,[.t 10,.t 11],(.seq (.reg rH) (.seq (.reg rI) (.seq (.seq (.reg rJ) (.block 0 (.seq (.seq (.reg rK) (.cond (.t 21) .skip (.seq (.reg rL) (.cond (.t 21) .skip (.seq (.reg rM) (.cond (.t 21) .skip (.seq (.reg rN) (.cond (.t 21) .skip (.seq (.reg rO) (.cond (.t 21) .skip (.seq (.reg rP) (.cond (.t 21) .skip (.reg rQ))))))))))))) (.cond (.t 21) (.seq (.reg aU) .ret) (.seq (.seq (.reg aV) (.cond (.t 36) .skip (.reg aW))) (.cond (.t 36) (.seq (.reg aX) .ret) (.seq (.reg aY) (.cond (.t 45) (.reg aZ) (.seq (.reg bA) (.cond (.t 53) (.seq (.dreg bB) (.cond (.t 62) (.reg bC) .skip)) (.seq (.reg bD) (.cond (.t 69) (.dreg bE) (.seq (.reg bF) (.cond (.t 88) (.reg bG) (.seq (.seq (.reg bH) (.cond (.t 96) .skip (.seq (.reg bI) (.cond (.t 96) .skip (.seq (.reg bJ) (.cond (.t 96) .skip (.reg bK))))))) (.cond (.t 96) (.seq (.reg bL) .ret) .skip)))))))))))))))) (.seq (.reg bM) .ret))))⟩
/-! (*horarium/part.Part).fails -/
@[go_sem] def rR:=k 0x8394c
@[go_sem] def rS:=kd 0xf81953c1085fac1bca7def6c36b2d98cdc4f509abf8d132ed97630
@[go_sem] def rT:=kd 0x282b218601d5af73e6dc9e05248f44752289edff77ea61f87f6bda60
@[go_sem] def rU:=k 0x57d348d27f5d4
@[go_sem] def rV:=kd 0x11d0d393f2ebddee66e82d2f83060c979c5e8ba75eab0cf75fd7e668e3c558aa1
@[go_sem] def rX:=k 0x7e7ab35e3f2915
@[go_sem] def rY:=k 0x7ff0919e6ed
def KK:TF:=⟨41,[],(.seq (.reg rR) (.seq (.dreg rS) (.seq (.dreg rT) (.block 0 (.seq (.reg rU) (.cond (.t 25) (.dreg rV) (.seq (.reg rX) (.cond (.t 37) (.reg rY) .skip))))))))⟩
/-! (*horarium/health.Log).Stopped -/
@[go_sem] def rZ:=k 0x875c
@[go_sem] def sC:=k 0x7627667fc452928651a32412c
def KL:TF:=⟨7,[.t 2],(.seq (.reg rZ) (.seq (.reg sC) .ret))⟩
/-! slices.Equal[[]horarium/part.state,horarium/part.state] -/
@[go_sem] def sD:=k 0xfb3c
@[go_sem] def sE:=k 0x46d5ff67158099e26ba56efc
@[go_sem] def sF:=k 0xfb3c
@[go_sem] def sG:=k 0xc096c6b90ac
@[go_sem] def sH:=k 0xc1ee6a8
@[go_sem] def sI:=k 0x18dbdba8de6c
@[go_sem] def sJ:=kd 0x26e11077340a7f0a35f49bd400f4f52475ea9666cf8910
@[go_sem] def sK:=k 0xfb3c
@[go_sem] def sL:=k 0x535165db9b9f0
def Za:TC:=(.seq (.reg sH) (.seq (.cond (.t 14) .skip (.exit 0)) (.seq (.block 1 (.seq (.reg sI) (.seq (.dreg sJ) (.cond (.t 24) (.seq (.reg sK) .ret) .skip)))) (.reg sL))))
@[go_sem] def bN:=k 0xfb88
def KM:TF:=⟨26,[.t 4],(.seq (.reg sD) (.seq (.seq (.reg sE) (.cond (.t 10) (.seq (.reg sF) .ret) .skip)) (.seq (.seq (.reg sG) (.block 0 (.loop Za))) (.seq (.reg bN) .ret))))⟩
/-! (*horarium/proc.Table).Same -/
@[go_sem] def sM:=k 0xfb3c
@[go_sem] def sN:=kd 0x5dc610f3038654fafe26ebd900f96424de52fa8e013141e8780
def KN:TF:=⟨14,[.t 4],(.seq (.reg sM) (.seq (.dreg sN) .ret))⟩
/-! slices.Equal[[]horarium/health.Fault,horarium/health.Fault] -/
@[go_sem] def sO:=k 0xfb3c
@[go_sem] def sP:=k 0x46d5ff67158099e26ba56efc
@[go_sem] def sQ:=k 0xfb3c
@[go_sem] def sR:=k 0xc096c6b90ac
@[go_sem] def sS:=k 0xc1ee6a8
@[go_sem] def sT:=k 0x18dbdba8de6c
@[go_sem] def sU:=kd 0x26e112a47e305b4aa1fa5d422ac65e435df388a0ef8910
@[go_sem] def sV:=k 0xfb3c
@[go_sem] def sW:=k 0x535165db9b9f0
def Zb:TC:=(.seq (.reg sS) (.seq (.cond (.t 14) .skip (.exit 0)) (.seq (.block 1 (.seq (.reg sT) (.seq (.dreg sU) (.cond (.t 24) (.seq (.reg sV) .ret) .skip)))) (.reg sW))))
@[go_sem] def bO:=k 0xfb88
def KO:TF:=⟨26,[.t 4],(.seq (.reg sO) (.seq (.seq (.reg sP) (.cond (.t 10) (.seq (.reg sQ) .ret) .skip)) (.seq (.seq (.reg sR) (.block 0 (.loop Zb))) (.seq (.reg bO) .ret))))⟩
/-! (*horarium/part.Part).Faults -/
@[go_sem] def sX:=k 0x8774
@[go_sem] def sY:=k 0xf92618eb5faa38fe9231ffa32412c
def KP:TF:=⟨8,[.t 2],(.seq (.reg sX) (.seq (.reg sY) .ret))⟩
/-! horarium/config.Where -/
@[go_sem] def sZ:=k 0xb792f368d7c
@[go_sem] def tA:=k 0x8474b17958352de8b3be4aeb571ad0292d83cb0259c2b6fc0741edee65abb4f709a2dedaffccf23ae97e7abb2a3f2e1f6a43bede8cee7288b4434cac8b1b47f098e2387215bb0fa076d1d10cb1
@[go_sem] def tB:=k 0x66c814c
@[go_sem] def tC:=k 0x5a82cf11ffedd762f1
@[go_sem] def tD:=k 0x9a71aad9
@[go_sem] def tE:=k 0x3274dd707d202884be5994289f6e2609d
@[go_sem] def tF:=k 0x3ee11173e0bb75bd3fa1700926794b6e65a96a74c674cd4a08541d8d3f6132271
@[go_sem] def tG:=k 0xaf16ab81f8a545dad
@[go_sem] def tH:=k 0x2d4251c04ce21465
@[go_sem] def tI:=k 0xbaf5740b84b55456d
@[go_sem] def bP:=k 0xd2e19ccc2838782
def PX:TC:=(.seq (.reg tD) (.seq (.cond (.t 43) .skip (.exit 0)) (.seq (.block 1 (.seq (.reg tE) (.seq (.seq (.reg tF) (.cond (.t 58) (.seq (.reg tG) .ret) .skip)) (.seq (.reg tH) (.cond (.t 62) (.seq (.reg tI) .ret) .skip))))) (.reg bP))))
@[go_sem] def bQ:=k 0xb26cc5e5a8c4ca7c152
@[go_sem] def bR:=k 0x3e094993a
@[go_sem] def bS:=k 0x854a2791e9257fbd2d56bc8d332e649cafe
@[go_sem] def bT:=k 0x64bfa9a7bc46282a3059116
@[go_sem] def bU:=k 0xe48128e36c74f3508e
@[go_sem] def bV:=k 0x10170b630b1eb2a2
def PY:TC:=(.seq (.reg bR) (.seq (.cond (.t 69) .skip (.exit 2)) (.seq (.block 3 (.seq (.reg bS) (.seq (.reg bT) (.cond (.t 76) (.seq (.reg bU) .ret) .skip)))) (.reg bV))))
@[go_sem] def bW:=k 0xb50581f1a40cb26ec72
@[go_sem] def bX:=k 0x4acf5545a
@[go_sem] def bZ:=k 0x1a24de5259d30b594692db5096861e
@[go_sem] def cA:=k 0x3bd3e999624dbfe308834bc36
@[go_sem] def cB:=k 0x24e0e1149621be
@[go_sem] def cC:=k 0x7cebdee432c89d7052a959e
@[go_sem] def cD:=k 0x1363f83845ea51a2
def PZ:TC:=(.seq (.reg bX) (.seq (.cond (.t 83) .skip (.exit 4)) (.seq (.block 5 (.seq (.reg bZ) (.seq (.reg cA) (.seq (.reg cB) (.cond (.t 91) (.seq (.reg cC) .ret) .skip))))) (.reg cD))))
@[go_sem] def cE:=k 0x217f474c
def KQ:TF:=⟨95,[.t 2,.t 3],(.seq (.reg sZ) (.seq (.seq (.reg tA) (.cond (.t 38) (.seq (.reg tB) .ret) .skip)) (.seq (.seq (.reg tC) (.block 0 (.loop PX))) (.seq (.seq (.reg bQ) (.block 2 (.loop PY))) (.seq (.seq (.reg bW) (.block 4 (.loop PZ))) (.seq (.reg cE) .ret))))))⟩
/-! slices.Clip[[]horarium/api.Proc,horarium/api.Proc] -/
@[go_sem] def tJ:=k 0x8774
@[go_sem] def tK:=k 0x405bf140f74c3052bf24e67a8a451b8012c
def HL:TF:=⟨9,[.t 2],(.seq (.reg tJ) (.seq (.reg tK) .ret))⟩
/-! slices.Clone[[]horarium/api.Proc,horarium/api.Proc] -/
@[go_sem] def tL:=k 0x8774
@[go_sem] def tM:=k 0x278726412c
@[go_sem] def tN:=k 0x8774
@[go_sem] def tO:=k 0x2600933fc9f7dfbaefdc
def HM:TF:=⟨8,[.t 2],(.seq (.reg tL) (.seq (.seq (.reg tM) (.cond (.t 4) (.seq (.reg tN) .ret) .skip)) (.seq (.reg tO) .ret)))⟩
/-! slices.Clip[[]horarium/api.Chan,horarium/api.Chan] -/
@[go_sem] def tP:=k 0x8774
@[go_sem] def tQ:=k 0x405bf140f790e45b72e4ec664a451b8012c
def KR:TF:=⟨9,[.t 2],(.seq (.reg tP) (.seq (.reg tQ) .ret))⟩
/-! slices.Clone[[]horarium/api.Chan,horarium/api.Chan] -/
@[go_sem] def tR:=k 0x8774
@[go_sem] def tS:=k 0x278726412c
@[go_sem] def tT:=k 0x8774
@[go_sem] def tU:=k 0x2600933fccfd8035efdc
def KT:TF:=⟨8,[.t 2],(.seq (.reg tR) (.seq (.seq (.reg tS) (.cond (.t 4) (.seq (.reg tT) .ret) .skip)) (.seq (.reg tU) .ret)))⟩
/-! slices.Clip[[]horarium/api.Node,horarium/api.Node] -/
@[go_sem] def tV:=k 0x8774
@[go_sem] def tW:=k 0x405bf140f7918000e80656ee0a451b8012c
def HN:TF:=⟨9,[.t 2],(.seq (.reg tV) (.seq (.reg tW) .ret))⟩
/-! slices.Clone[[]horarium/api.Node,horarium/api.Node] -/
@[go_sem] def tX:=k 0x8774
@[go_sem] def tY:=k 0x278726412c
@[go_sem] def tZ:=k 0x8774
@[go_sem] def uA:=k 0x2600933fca6de283efdc
def HO:TF:=⟨8,[.t 2],(.seq (.reg tX) (.seq (.seq (.reg tY) (.cond (.t 4) (.seq (.reg tZ) .ret) .skip)) (.seq (.reg uA) .ret)))⟩
/-! (*horarium/proc.Table).Reset -/
@[go_sem] def uB:=k 0x8bd6fee162e191dd17a32412c
@[go_sem] def uC:=k 0x772cef8
@[go_sem] def uD:=k 0x10828ca086bc
@[go_sem] def uE:=kd 0x155c17ce02715350289a24fce5a42d294b1c9f16026107caf978a0c0ea80b9b1b45c8595675e1c2d4801fa0
@[go_sem] def uF:=k 0x52ce46092f9f0
def Zc:TC:=(.seq (.reg uC) (.seq (.cond (.t 9) .skip (.exit 0)) (.seq (.block 1 (.seq (.reg uD) (.dreg uE))) (.reg uF))))
def KU:TF:=⟨26,[],(.seq (.reg uB) (.block 0 (.loop Zc)))⟩
/-! container/heap.Push -/
@[go_sem] def uG:=k 0xc56fb1b1a393b1c
@[go_sem] def uH:=k 0x8e4f1d5cc6ea13969cdb8e8ec
def KV:TF:=⟨12,[],(.seq (.reg uG) (.reg uH))⟩
/-! (*horarium/proc.ready).Len -/
@[go_sem] def uI:=k 0x874c
@[go_sem] def uJ:=k 0xf92618e25950e93751dd17a32412c
def KW:TF:=⟨8,[.t 2],(.seq (.reg uI) (.seq (.reg uJ) .ret))⟩
/-! container/heap.Pop -/
@[go_sem] def uK:=k 0x8914
@[go_sem] def uL:=k 0x41983095f14dbe1a6fb1c
@[go_sem] def uM:=k 0x2997b1fa5127be8ec
@[go_sem] def uN:=k 0x3b6a51330f91c96bc
@[go_sem] def uO:=k 0x29c325928f24848c
def KX:TF:=⟨15,[.t 2],(.seq (.reg uK) (.seq (.reg uL) (.seq (.reg uM) (.seq (.reg uN) (.seq (.reg uO) .ret)))))⟩
/-! horarium/isa.regs -/
@[go_sem] def uP:=k 0x48232895c
@[go_sem] def uQ:=k 0x1350c
@[go_sem] def uR:=k 0x17986e597a704
@[go_sem] def uS:=k 0x1adf9e9d1d0f4
@[go_sem] def uT:=k 0x1e26cedd948e4
@[go_sem] def uU:=k 0x216dff1ef3cd4
@[go_sem] def uV:=k 0x24b52f5f6b4c4
@[go_sem] def uW:=k 0x27fc5f9fe2cb4
@[go_sem] def uX:=k 0x4823289a8
@[go_sem] def uY:=k 0x2f4252a807a94
@[go_sem] def cF:=k 0x328982e87f284
@[go_sem] def cG:=k 0x35d0b328f6a74
@[go_sem] def cH:=k 0x3917e3696e264
@[go_sem] def cI:=k 0xc4bcebba8
@[go_sem] def cJ:=k 0x40296373e9444
@[go_sem] def cK:=k 0x437093b460c34
@[go_sem] def cL:=k 0x482bc23a8
@[go_sem] def cM:=k 0x4a4da0bc37814
@[go_sem] def cN:=k 0x4d94d0fcaf004
@[go_sem] def cO:=k 0x482bc235c
@[go_sem] def cP:=k 0x48232895c
def KY:TF:=⟨24,[.t 2,.t 3,.t 4],(.seq (.reg uP) (.seq (.seq (.reg uQ) (.block 0 (.seq (.seq (.reg uR) (.cond (.t 6) .skip (.seq (.reg uS) (.cond (.t 6) .skip (.seq (.reg uT) (.cond (.t 6) .skip (.seq (.reg uU) (.cond (.t 6) .skip (.seq (.reg uV) (.cond (.t 6) .skip (.reg uW))))))))))) (.cond (.t 6) (.seq (.reg uX) .ret) (.seq (.seq (.reg uY) (.cond (.t 13) .skip (.seq (.reg cF) (.cond (.t 13) .skip (.seq (.reg cG) (.cond (.t 13) .skip (.reg cH))))))) (.cond (.t 13) (.seq (.reg cI) .ret) (.seq (.seq (.reg cJ) (.cond (.t 18) .skip (.reg cK))) (.cond (.t 18) (.seq (.reg cL) .ret) (.seq (.seq (.reg cM) (.cond (.t 21) .skip (.reg cN))) (.cond (.t 21) (.seq (.reg cO) .ret) .skip)))))))))) (.seq (.reg cP) .ret)))⟩
/-! horarium/isa.field -/
@[go_sem] def uZ:=k 0xfb3c
@[go_sem] def vA:=k 0x209b7824db55db32e1631905f91c949bfe6661c3add9f064abe240e6addc0b37668216c9bef50c
def HP:TF:=⟨19,[.t 4],(.seq (.reg uZ) (.seq (.reg vA) .ret))⟩
/-! (*horarium/part.Part).count -/
@[go_sem] def vO:=k 0xbe6864cb33c
@[go_sem] def vP:=k 0x2491ae1769140754
@[go_sem] def vQ:=k 0x154f4a9f3a90
@[go_sem] def vR:=k 0x360526ae6ae74
@[go_sem] def vS:=kd 0x1ec4f0ab8691dc684d51165ccc7d67eb8a0f17d735161f027716d343567bb83ebb324e23f3bf2be3c0
@[go_sem] def vT:=k 0x6dd5323524ff65
@[go_sem] def vU:=kd 0x2f4f68c1f46037af19efb005f77d3dc52ab4008c455179d1445ce5d8a5360b9472aaa992b15f7f98f5286971
@[go_sem] def vV:=k 0xa66e4f46375455
@[go_sem] def vW:=kd 0x3fee2e8656a30a22db90c980799376d4caaafd1b7db7da98833de3648744f3968cb31df4ab1c57a1408ca21f349b22
@[go_sem] def vX:=k 0xdd54867ed681546
@[go_sem] def cQ:=kd 0x142635c975399e9e332f8b7b4f2f0ff9170727f9cbd974d2
@[go_sem] def cR:=k 0x1a3ccb53c
@[go_sem] def cS:=kd 0x587d0ee65bbebdfe26ed2122ea2e135ab429fe2b436f064dfcb5c5ad6c785a682cb400814f0a26f35f1fd22608ea52
@[go_sem] def cT:=k 0x12fec242b6557db6
@[go_sem] def cU:=k 0x2571c
@[go_sem] def cV:=k 0x5d709b741acc5e038e0ae1ca8a32fa09be0078e
@[go_sem] def cW:=k 0x17ecb2d4e6414119ddcf34e9f07b4fb35d98fb8d3eb51e
@[go_sem] def cX:=k 0x164c80e3367614b6
@[go_sem] def cY:=k 0x146abca2e60645ba68e
@[go_sem] def cZ:=kd 0x135e8a1e9a535a7af9d829b09224d9ac2dde4d32283a87988c62
@[go_sem] def dA:=k 0x19f85f82be077fe
def BX:TF:=⟨119,[.t 8,.t 9],(.seq (.reg vO) (.seq (.reg vP) (.seq (.seq (.reg vQ) (.block 0 (.seq (.reg vR) (.cond (.t 15) (.dreg vS) (.seq (.reg vT) (.cond (.t 32) (.dreg vU) (.seq (.reg vV) (.cond (.t 49) (.dreg vW) (.seq (.reg vX) (.cond (.t 66) (.seq (.seq (.dreg cQ) (.cond (.t 75) (.seq (.reg cR) .ret) .skip)) (.dreg cS)) (.seq (.reg cT) (.cond (.t 91) (.seq (.reg cU) (.seq (.reg cV) (.cond (.t 99) (.reg cW) .skip))) (.seq (.reg cX) (.cond (.t 107) (.reg cY) .skip)))))))))))))) (.seq (.dreg cZ) (.seq (.reg dA) .ret)))))⟩
/-! (*horarium/part.Part).word -/
@[go_sem] def vY:=k 0xbcc4cca794c
@[go_sem] def vZ:=kd 0xd69cbfabebaa9fbc2035a7c647e50b1b46f44116dbf5ed670bdfc4654a88076e40
@[go_sem] def wA:=k 0x1143557c40c
@[go_sem] def wB:=k 0x13ae6395c
@[go_sem] def wC:=k 0x8f8e5f321ffda3ff0
@[go_sem] def wD:=kd 0xefff95872fb0d05e5bb3707d1690d26464eda7d709539532da47dcc71b5e6a8fd2a24f3f1
@[go_sem] def wE:=kd 0x13de94206a10f92763c69c6f30e0c44806edb40a831c72704aeccb0da6bd50e4b7fcd9cc31
@[go_sem] def wF:=k 0x3eab3b3f7c39d01b9552c137af83cba6108643d
def FL:TF:=⟨56,[.t 6,.t 7],(.seq (.reg vY) (.seq (.dreg vZ) (.seq (.seq (.reg wA) (.cond (.t 22) (.seq (.reg wB) .ret) .skip)) (.seq (.seq (.reg wC) (.cond (.t 25) (.dreg wD) (.dreg wE))) (.seq (.reg wF) .ret)))))⟩
/-! horarium/isa.Imm -/
@[go_sem] def wG:=k 0x18718d7c
@[go_sem] def wH:=k 0x20e7ba74031ee548fa245a0cdca7c8f6da4a57f0f7f30
def KZ:TF:=⟨11,[.t 2],(.seq (.reg wG) (.seq (.reg wH) .ret))⟩
/-! (*horarium/proc.Table).Sleep -/
@[go_sem] def wI:=k 0x16f1c
@[go_sem] def wJ:=k 0x15843cc5c439e8ec
@[go_sem] def wK:=k 0x3922276fcad3a01c0010615c68549b0d770514ffad6bc
@[go_sem] def wL:=k 0xd90b13896b5eadebc663c
def K0:TF:=⟨21,[.t 6],(.seq (.reg wI) (.seq (.seq (.reg wJ) (.cond (.t 9) (.reg wK) .skip)) (.seq (.reg wL) .ret)))⟩
/-! (*horarium/proc.Table).End -/
@[go_sem] def wM:=k 0xfb3c
@[go_sem] def wN:=k 0xf655dcb0539750c
@[go_sem] def wO:=k 0xd4a44796aaef12b889237335574dd08377862dc
@[go_sem] def wP:=k 0xb8225c3bf4c62c03bb86c
def K1:TF:=⟨18,[.t 4],(.seq (.reg wM) (.seq (.seq (.reg wN) (.cond (.t 7) (.reg wO) .skip)) (.seq (.reg wP) .ret)))⟩
/-! (*horarium/part.Part).call -/
@[go_sem] def wQ:=k 0xbe6864cb33c
@[go_sem] def wR:=k 0x154f4a9f3a90
@[go_sem] def wS:=k 0x360526b44d474
@[go_sem] def wT:=kd 0x32c483748ff074ff41a604e111755b379b6c30765bdbb72a06a88f90ec5d359c7c8a2fefdce18ad2213e58b01f6f08fc1
@[go_sem] def wU:=k 0x10b040cef3c74f6068314f2051c6562834d
@[go_sem] def wV:=k 0x81cf003be2a705
@[go_sem] def wW:=kd 0xc13183c80a80e64a80f287a462bc2d154f0190b9390191
@[go_sem] def wX:=k 0x1122bc86958e08c95ef923a4a0b8899747d
@[go_sem] def wY:=k 0x19b68330e340b9bdba4eb6bcee632f12f11b604e9b9e2d
@[go_sem] def wZ:=k 0x20cb2bd3c
@[go_sem] def dB:=k 0x2ca4139eaec4215d9b1
@[go_sem] def dC:=kd 0x94440b287d211dcfa5d02066f89971456b0e79a322235dcb2
@[go_sem] def dD:=kd 0xf380351e9195f7ca9fbe16240f22b245d5ae8e6d1921c187a5c3dcb8633039d36382
@[go_sem] def dE:=k 0x18f2206ebd76a7e
@[go_sem] def dF:=k 0x22b5804b8470aa67796eebd9dfcdf89c54639bfdfd75033ea9165e
@[go_sem] def dG:=k 0x4688a56b29fe
@[go_sem] def dH:=kd 0xf8fa226cad05b9aa11ef9067b8ef974449e9ce6d81229501a92
@[go_sem] def dI:=k 0x6dcf852db4d2e877d773ee56bdd20c83836e
@[go_sem] def dJ:=k 0x19825cb9bf95d1e
def K2:TF:=⟨101,[.t 8,.t 9],(.seq (.reg wQ) (.seq (.seq (.reg wR) (.block 0 (.seq (.reg wS) (.cond (.t 15) (.seq (.dreg wT) (.seq (.reg wU) .ret)) (.seq (.reg wV) (.cond (.t 38) (.seq (.dreg wW) (.seq (.reg wX) .ret)) .skip)))))) (.seq (.seq (.reg wY) (.cond (.t 58) (.seq (.reg wZ) .ret) .skip)) (.seq (.seq (.reg dB) (.cond (.t 61) (.seq (.dreg dC) (.seq (.dreg dD) (.seq (.reg dE) .ret))) .skip)) (.seq (.reg dF) (.seq (.seq (.reg dG) (.cond (.t 87) (.dreg dH) .skip)) (.seq (.reg dI) (.seq (.reg dJ) .ret))))))))⟩
/-! (*horarium/health.Log).Tell -/
@[go_sem] def xA:=k 0x1e2ec
@[go_sem] def xB:=k 0x407b7d6e1ce4effad6bc
@[go_sem] def xC:=k 0x1e364
@[go_sem] def xD:=k 0x1a95d238e660add79ac4abb32560a0bff1269a4ac45b6fa88baeddd65d020dbfa7e7c
@[go_sem] def xE:=k 0x13ac35332b373002606fac
@[go_sem] def xF:=k 0x12fe9c6a5328ac84ef7fb07a52d707dd7d
@[go_sem] def xG:=k 0x1cca382335b2d
def K3:TF:=⟨36,[.t 8],(.seq (.reg xA) (.seq (.seq (.reg xB) (.cond (.t 13) (.seq (.reg xC) .ret) .skip)) (.seq (.reg xD) (.seq (.reg xE) (.seq (.reg xF) (.seq (.reg xG) .ret))))))⟩
/-! slices.Equal[[]horarium/proc.proc,horarium/proc.proc] -/
@[go_sem] def xH:=k 0xfb3c
@[go_sem] def xI:=k 0x46d5ff67158099e26ba56efc
@[go_sem] def xJ:=k 0xfb3c
@[go_sem] def xK:=k 0xc096c6b90ac
@[go_sem] def xL:=k 0xc1ee6a8
@[go_sem] def xM:=k 0x18dbdba8de6c
@[go_sem] def xN:=kd 0x26e1334f38734727dc652d3777325e435df388a0ef8910
@[go_sem] def xO:=k 0xfb3c
@[go_sem] def xP:=k 0x535165db9b9f0
def Zd:TC:=(.seq (.reg xL) (.seq (.cond (.t 14) .skip (.exit 0)) (.seq (.block 1 (.seq (.reg xM) (.seq (.dreg xN) (.cond (.t 24) (.seq (.reg xO) .ret) .skip)))) (.reg xP))))
@[go_sem] def dK:=k 0xfb88
def K4:TF:=⟨26,[.t 4],(.seq (.reg xH) (.seq (.seq (.reg xI) (.cond (.t 10) (.seq (.reg xJ) .ret) .skip)) (.seq (.seq (.reg xK) (.block 0 (.loop Zd))) (.seq (.reg dK) .ret))))⟩
/-! (*horarium/health.Log).All -/
@[go_sem] def xQ:=k 0x8774
@[go_sem] def xR:=k 0xf92618eca20a047240c772a32412c
def K5:TF:=⟨8,[.t 2],(.seq (.reg xQ) (.seq (.reg xR) .ret))⟩
/-! horarium/config.Name -/
@[go_sem] def xS:=k 0x875c
@[go_sem] def xU:=k 0xbc827c8aefc
@[go_sem] def xV:=k 0x772cef8
@[go_sem] def xW:=k 0x108fa96186bc
@[go_sem] def xX:=k 0x8d26a645cb81cd2bcd0ac
@[go_sem] def xY:=k 0x98cd0295ff82c8e5459d86992d34a66767c
@[go_sem] def xZ:=k 0xf0c55aff657cee93742c79943f4a7875464179ee9a6f0f62823d0366f42636e1d9e918683ab3026422ac0bdfcb20accb061d
@[go_sem] def yA:=k 0x875c
@[go_sem] def yB:=k 0x7cfe71474f2921
def Ze:TC:=(.seq (.reg xV) (.seq (.cond (.t 9) .skip (.exit 0)) (.seq (.block 1 (.seq (.reg xW) (.seq (.reg xX) (.seq (.reg xY) (.seq (.reg xZ) (.cond (.t 37) (.seq (.reg yA) .ret) .skip)))))) (.reg yB))))
@[go_sem] def dL:=k 0x4b318642f8ef90efbef2220344d131c4feef99b12d3429e6ed
def K6:TF:=⟨47,[.t 2],(.seq (.reg xS) (.seq (.seq (.reg xU) (.block 0 (.loop Ze))) (.seq (.reg dL) .ret)))⟩
/-! slices.ContainsFunc[[]horarium/api.Part,horarium/api.Part] -/
@[go_sem] def yC:=k 0xfb3c
@[go_sem] def yD:=k 0x13c901ebc72e201dfa3ecf9750c
def K7:TF:=⟨9,[.t 4],(.seq (.reg yC) (.seq (.reg yD) .ret))⟩
/-! horarium/config.Where$1 -/
@[go_sem] def yE:=k 0x9f5c76c
@[go_sem] def yF:=k 0x475e6a2b11915da672490708f1677720
def K8:TF:=⟨9,[.t 3],(.seq (.reg yE) (.seq (.reg yF) .ret))⟩
/-! horarium/config.part -/
@[go_sem] def yG:=k 0x9f58d7c
@[go_sem] def yH:=k 0x1790368cf2d00
@[go_sem] def yI:=k 0x764530c
@[go_sem] def yJ:=k 0x21398c35a8ac4
@[go_sem] def yK:=k 0x769ccbdb7058faed48e8d9e5e6b2c8ac
@[go_sem] def yL:=k 0x875c
@[go_sem] def yM:=k 0x3894c40912a70
def Zf:TC:=(.seq (.reg yI) (.seq (.cond (.t 9) .skip (.exit 0)) (.seq (.block 1 (.seq (.reg yJ) (.seq (.reg yK) (.cond (.t 16) (.seq (.reg yL) .ret) .skip)))) (.reg yM))))
@[go_sem] def yN:=k 0x291b1ca1bf7e7b77e4bd7425aecbababc859165e6680b2440
@[go_sem] def yO:=k 0xbd65149fe0b96bd54fa46205ed98817ea4d044ed2411dd2e3a8a93a6c748916a0b0013c12a8a34ebe53ae97cc7a43e7284646d2764a7953eebbffaf1089db2b8d0b660db16b7dbf727c964c048b516b2ef71c1
def K9:TF:=⟨54,[.t 2],(.seq (.reg yG) (.seq (.seq (.reg yH) (.block 0 (.loop Zf))) (.seq (.reg yN) (.seq (.reg yO) .ret))))⟩
/-! horarium/config.channel -/
@[go_sem] def yP:=k 0x1214b3b5c76c
@[go_sem] def yQ:=k 0x657751c
@[go_sem] def yR:=k 0xd1d53bf1ce0
@[go_sem] def yS:=k 0x68ec66b31c
@[go_sem] def yT:=k 0x202c4d546027082e415f228d2c0
@[go_sem] def yU:=k 0x5c82eced503108181d4e10c313d87b3e32d7f1d2bdf728c7d9615dc44bd19a0ab10da6f201e10331bf8b1f1372c76efe36db14e72253085efbe5d47728c72301cca891d5579771fd20a160fabbefbc964f202ba8c28910dc952897e80d4eeb281
def La:TF:=⟨48,[.t 4],(.seq (.reg yP) (.seq (.reg yQ) (.seq (.seq (.reg yR) (.cond (.t 9) (.reg yS) .skip)) (.seq (.reg yT) (.seq (.reg yU) .ret)))))⟩
/-! horarium/config.table -/
@[go_sem] def yV:=k 0x38d845c76c
@[go_sem] def yW:=k 0x57b38dbcecb66174505adffa674946f20dc
@[go_sem] def yX:=k 0x13ab45e43e9c
@[go_sem] def yY:=k 0x172b2694f27c
@[go_sem] def yZ:=k 0x2e00f9ff42cf6e6c
@[go_sem] def zA:=k 0x74db2c
@[go_sem] def zB:=k 0xd85f24b4b60f3626ee284
def Lb:TF:=⟨21,[.t 4],(.seq (.reg yV) (.seq (.reg yW) (.seq (.seq (.reg yX) (.cond (.t 13) (.seq (.reg yY) .ret) .skip)) (.seq (.seq (.reg yZ) (.cond (.t 17) (.seq (.reg zA) .ret) .skip)) (.seq (.reg zB) .ret)))))⟩
/-! container/heap.up -/
@[go_sem] def zC:=k 0x995a2afbfcfd373784730c
@[go_sem] def zD:=k 0x8808f963a33e19c0df1258e96426b06fa56ca22d6f57771adc
@[go_sem] def zE:=k 0xc803ddebc980bed9f663c
@[go_sem] def zF:=k 0x2420914545fc
def Nc:TC:=(.block 1 (.seq (.reg zC) (.seq (.seq (.reg zD) (.cond (.t 17) (.exit 0) .skip)) (.seq (.reg zE) (.reg zF)))))
def HQ:TF:=⟨23,[],(.block 0 (.loop Nc))⟩
/-! container/heap.down -/
@[go_sem] def zG:=k 0x16f1c
@[go_sem] def zH:=k 0x1267b4530eac
@[go_sem] def zI:=k 0x1327ae31503681d9d063c9c
@[go_sem] def zJ:=k 0x128f7831323f9c3b25f168a0a20b07156a86c
@[go_sem] def zK:=k 0x2489776a3dfc
@[go_sem] def zL:=k 0x905c0bb838ebd37ec
@[go_sem] def zM:=k 0x2e8ce7bdab7b3b1468ac8a98efeec7b6c4bd02828d177b93cd
@[go_sem] def zN:=k 0x1bfbb34459d3d
@[go_sem] def zO:=k 0x171b56c8a005ff0f3a25bd08ff2d
@[go_sem] def zP:=k 0x6d34e7bb54452c8cf0220dd
@[go_sem] def dM:=k 0x24271d831649d
def GY:TC:=(.block 1 (.seq (.reg zI) (.seq (.seq (.reg zJ) (.cond (.t 21) (.exit 0) .skip)) (.seq (.reg zK) (.seq (.seq (.reg zL) (.seq (.reg zM) (.cond (.t 33) (.reg zN) .skip))) (.seq (.seq (.reg zO) (.cond (.t 39) (.exit 0) .skip)) (.seq (.reg zP) (.reg dM))))))))
@[go_sem] def dN:=k 0x7e87758efc6e221fe50a68d
def FM:TF:=⟨48,[.t 6],(.seq (.reg zG) (.seq (.reg zH) (.seq (.block 0 (.loop GY)) (.seq (.reg dN) .ret))))⟩
/-! (*horarium/proc.Table).is -/
@[go_sem] def zQ:=k 0xfb3c
@[go_sem] def zR:=k 0x495cba91776ab56a75b221489ab732f7c142607ff6d4a7a68316c9c6330c
def Lc:TF:=⟨16,[.t 4],(.seq (.reg zQ) (.seq (.reg zR) .ret))⟩
/-! (*horarium/part.Part).channel -/
@[go_sem] def zS:=k 0x16f1c
@[go_sem] def zT:=k 0x79cac6507561f81479ff4198feb4b5abf0060dc
@[go_sem] def zU:=k 0x16f1c
@[go_sem] def zV:=k 0x2dc6f2df018e3ea1d0b0ba2428f4d9079be0e8e6e9982325c
@[go_sem] def zW:=kd 0x146d11b29f0a7c52f3cae6da046bb5791dcb649f8406f93ce195225cdc17a4d84ebb23236bdea4c614d09b184a6a7eb8296b55e004c74736d699078c48bf1f33e1691
def Ld:TF:=⟨47,[.t 6],(.seq (.reg zS) (.seq (.seq (.reg zT) (.cond (.t 15) (.seq (.reg zU) .ret) .skip)) (.seq (.reg zV) (.seq (.dreg zW) .ret))))⟩
/-! (*horarium/health.Log).action -/
@[go_sem] def zX:=k 0xfb2c
@[go_sem] def zY:=k 0x493456c7c0d5aaf078c9d6635abcecfc
@[go_sem] def zZ:=k 0xf772c
@[go_sem] def aAa:=k 0x20c7020cfc19b005ad582e654c5e2324da17b0a9c
@[go_sem] def aAb:=k 0xbf43ed99263930916cce82321eae562c
@[go_sem] def aAc:=k 0x2932aff031cc
@[go_sem] def aAd:=k 0xf772c
def CQ:TF:=⟨26,[.t 4],(.seq (.reg zX) (.seq (.seq (.reg zY) (.cond (.t 11) (.seq (.reg zZ) .ret) .skip)) (.seq (.seq (.reg aAa) (.seq (.reg aAb) (.cond (.t 24) (.seq (.reg aAc) .ret) .skip))) (.seq (.reg aAd) .ret))))⟩
/-! slices.Clone[[]horarium/health.Fault,horarium/health.Fault] -/
@[go_sem] def aAe:=k 0x8774
@[go_sem] def aAf:=k 0x278726412c
@[go_sem] def aAg:=k 0x8774
@[go_sem] def aAh:=k 0x2600933fca6de283efdc
def FN:TF:=⟨8,[.t 2],(.seq (.reg aAe) (.seq (.seq (.reg aAf) (.cond (.t 4) (.seq (.reg aAg) .ret) .skip)) (.seq (.reg aAh) .ret)))⟩
/-! slices.IndexFunc[[]horarium/api.Part,horarium/api.Part] -/
@[go_sem] def aAi:=k 0xfb2c
@[go_sem] def aAj:=k 0xbc7dca56efc
@[go_sem] def aAk:=k 0x772cef8
@[go_sem] def aAl:=k 0x10a9e2e386bc
@[go_sem] def aAm:=k 0x19407f3aedece628c5319838a10eac
@[go_sem] def aAn:=k 0x1c15eeee624c
@[go_sem] def aAo:=k 0x3bdbf44916460
def Zg:TC:=(.seq (.reg aAk) (.seq (.cond (.t 9) .skip (.exit 0)) (.seq (.block 1 (.seq (.reg aAl) (.seq (.reg aAm) (.cond (.t 16) (.seq (.reg aAn) .ret) .skip)))) (.reg aAo))))
@[go_sem] def aAp:=k 0xfba4
def Le:TF:=⟨19,[.t 4],(.seq (.reg aAi) (.seq (.seq (.reg aAj) (.block 0 (.loop Zg))) (.seq (.reg aAp) .ret)))⟩
/-! horarium/config.procs -/
@[go_sem] def aAq:=k 0x875c
@[go_sem] def aAr:=k 0xbbabfe4350c
@[go_sem] def aAs:=k 0x6839708
@[go_sem] def aAt:=k 0x2e9179900d433b9d38f40
@[go_sem] def aAu:=k 0x5c3ae15c0cdaf92bd5ba76b824ed670c5c65c6db4965788b0
@[go_sem] def aAv:=k 0x875c
@[go_sem] def aAw:=k 0x45974b78a5230
def Zh:TC:=(.seq (.reg aAs) (.seq (.cond (.t 8) .skip (.exit 0)) (.seq (.block 1 (.seq (.reg aAt) (.seq (.reg aAu) (.cond (.t 20) (.seq (.reg aAv) .ret) .skip)))) (.reg aAw))))
@[go_sem] def aAx:=k 0xbdf1d4825af75bfc142661f0245541429ec43ddc790dfc
def Lf:TF:=⟨30,[.t 2],(.seq (.reg aAq) (.seq (.seq (.reg aAr) (.block 0 (.loop Zh))) (.seq (.reg aAx) .ret)))⟩
/-! horarium/config.within -/
@[go_sem] def aAy:=k 0xfb3c
@[go_sem] def aAz:=k 0x282eb0f700ce24587ff4b10d2f042c8216c9bef50c
def Lg:TF:=⟨12,[.t 4],(.seq (.reg aAy) (.seq (.reg aAz) .ret))⟩
/-! horarium/runs.Of -/
@[go_sem] def aAA:=k 0x333974
@[go_sem] def aAB:=k 0x1e13d8c4d5bb9ccc
@[go_sem] def aAC:=k 0x1207adb588ac
@[go_sem] def aAD:=k 0x134a55219d0bc8c
@[go_sem] def aAE:=k 0x13544
@[go_sem] def aAF:=k 0x2d19cdcb7994fe7c
@[go_sem] def aAG:=k 0x120b18fbfd0798463f2970ae8e74479afbebe04c
@[go_sem] def aAH:=k 0x1136c5f440c
@[go_sem] def aAI:=k 0x1fd1802012e2074ea491903dec
def Zi:TC:=(.block 1 (.seq (.reg aAG) (.seq (.seq (.reg aAH) (.cond (.t 22) (.exit 0) .skip)) (.reg aAI))))
@[go_sem] def dP:=k 0x539619fbb1d8a5ac
@[go_sem] def dQ:=k 0x2c9fcab5cc5d98c
@[go_sem] def dR:=k 0x13ae55174
@[go_sem] def dS:=k 0x1896644ce0bd5d
def Lh:TF:=⟨33,[.t 2,.t 3],(.seq (.reg aAA) (.seq (.seq (.reg aAB) (.seq (.reg aAC) (.cond (.t 12) (.seq (.reg aAD) .ret) .skip))) (.seq (.reg aAE) (.seq (.reg aAF) (.seq (.block 0 (.loop Zi)) (.seq (.seq (.reg dP) (.seq (.reg dQ) (.cond (.t 31) (.seq (.reg dR) .ret) .skip))) (.seq (.reg dS) .ret)))))))⟩
/-! slices.ContainsFunc[[]horarium/api.Run,horarium/api.Run] -/
@[go_sem] def aAJ:=k 0xfb3c
@[go_sem] def aAK:=k 0x13c901ebc72e201fb810719750c
def Li:TF:=⟨9,[.t 4],(.seq (.reg aAJ) (.seq (.reg aAK) .ret))⟩
/-! horarium/config.table$1 -/
@[go_sem] def aAL:=k 0x9f5c76c
@[go_sem] def aAM:=k 0x91293601ad452b0a13dd4c15a708f1677720
def Lj:TF:=⟨10,[.t 3],(.seq (.reg aAL) (.seq (.reg aAM) .ret))⟩
/-! horarium/bound.Holds -/
@[go_sem] def aAN:=k 0x38d845c76c
@[go_sem] def aAO:=k 0x2b9620967f31092c0
@[go_sem] def aAP:=k 0xc1ee6a8
@[go_sem] def aAQ:=k 0x4612fd6ae40fe9106df18
@[go_sem] def aAR:=k 0x2c4dce02bf7c2ed1ca665f38fa6970a4302a4c
@[go_sem] def aAS:=k 0x1d1aac45f677f66f241a35691f642dfb8ed868ffe898b35e0bba64ecc160501671b0372ff1
@[go_sem] def aAT:=k 0x8a952c
@[go_sem] def aAU:=k 0x76b1a09e69b541
def Zj:TC:=(.seq (.reg aAP) (.seq (.cond (.t 14) .skip (.exit 0)) (.seq (.block 1 (.seq (.reg aAQ) (.seq (.reg aAR) (.seq (.reg aAS) (.cond (.t 35) (.seq (.reg aAT) .ret) .skip))))) (.reg aAU))))
@[go_sem] def aAV:=k 0x5a23d8ba086be56b11
@[go_sem] def dT:=k 0x93163ef9
@[go_sem] def dU:=k 0x55682c0b7fa325467f2c4ee298ebcf4bd
@[go_sem] def dV:=kd 0x40b6f5160f7daa555a5f063d096d254c0d86aa89682f7ac0d748d4dda7604edc35357f6663d5
@[go_sem] def dW:=k 0x91d32c
@[go_sem] def dX:=k 0xc031cedb33afe1
def P0:TC:=(.seq (.reg dT) (.seq (.cond (.t 41) .skip (.exit 2)) (.seq (.block 3 (.seq (.reg dU) (.seq (.dreg dV) (.cond (.t 57) (.seq (.reg dW) .ret) .skip)))) (.reg dX))))
@[go_sem] def dY:=k 0xfb2c
def Lk:TF:=⟨59,[.t 4],(.seq (.reg aAN) (.seq (.seq (.reg aAO) (.block 0 (.loop Zj))) (.seq (.seq (.reg aAV) (.block 2 (.loop P0))) (.seq (.reg dY) .ret))))⟩
/-! horarium/node.Right -/
@[go_sem] def aAW:=k 0x874c
@[go_sem] def aAX:=k 0x47c1bfe189c109ab10436622d4fab492efc
@[go_sem] def aAY:=k 0x47953972ac3e20cb90ac
@[go_sem] def aAZ:=k 0x16414c
@[go_sem] def aA0:=k 0x5dbf033deb9cbeaaf86c
@[go_sem] def aA1:=k 0x576f4c
@[go_sem] def aA2:=k 0xe7d19a2d3b3794668a02c
@[go_sem] def aA3:=k 0x65eb4c
@[go_sem] def aA4:=k 0x494ae894fda4bfec
@[go_sem] def aA5:=k 0x82e34c
@[go_sem] def dZ:=k 0x874c
def Ll:TF:=⟨25,[.t 2],(.seq (.reg aAW) (.seq (.reg aAX) (.seq (.block 0 (.seq (.reg aAY) (.cond (.t 10) (.seq (.reg aAZ) .ret) (.seq (.reg aA0) (.cond (.t 14) (.seq (.reg aA1) .ret) (.seq (.reg aA2) (.cond (.t 18) (.seq (.reg aA3) .ret) (.seq (.reg aA4) (.cond (.t 22) (.seq (.reg aA5) .ret) .skip))))))))) (.seq (.reg dZ) .ret))))⟩
/-! horarium/cursor.New -/
@[go_sem] def aA6:=k 0x87ec
@[go_sem] def aA7:=k 0xed6bb6a5a157b1c
@[go_sem] def aA8:=k 0x87ec
@[go_sem] def aA9:=k 0x624ae3eeda308effbe2ca8ec
@[go_sem] def aBa:=k 0x913e640aac
@[go_sem] def aBb:=k 0x156d54dcfe8c
def Lm:TF:=⟨14,[.t 2],(.seq (.reg aA6) (.seq (.seq (.reg aA7) (.cond (.t 6) (.seq (.reg aA8) .ret) .skip)) (.seq (.reg aA9) (.seq (.reg aBa) (.seq (.reg aBb) .ret)))))⟩
/-! (*horarium/cursor.Cursor).Next -/
@[go_sem] def aBd:=k 0x5031c0
@[go_sem] def aBe:=kd 0x1e01d8fc35aae1282a53f017cabab7b5d7003ebc78741e8780
@[go_sem] def aBf:=k 0x4f34b0f844dd80
@[go_sem] def aBg:=kd 0x5837055fad828453766c6adadc4933d03261dd495c8cfef8ea38c23ddc314ca7cd1961dd435950092edbfcf8ecdb7fb127c82cb290440b7379ada015fff9967722aade665b478dc13572bb384911
@[go_sem] def aBh:=kd 0x1c6e7a731484fa5f3e65106ea08ca22c6f821f2accf9b5a9820be0e6451
@[go_sem] def aBi:=k 0xadfdf21120d
@[go_sem] def aBj:=k 0x9ea78edb2a987665
def HR:TF:=⟨56,[.cell 2 2 true,.t 3],(.seq (.reg aBd) (.seq (.seq (.dreg aBe) (.cond (.t 14) (.seq (.reg aBf) .ret) .skip)) (.seq (.dreg aBg) (.seq (.dreg aBh) (.seq (.reg aBi) (.seq (.reg aBj) .ret))))))⟩
/-! horarium/runs.Tidy -/
@[go_sem] def aBk:=k 0x8774
@[go_sem] def aBl:=k 0xc164
@[go_sem] def aBm:=k 0xbd4f966a8ec
@[go_sem] def aBn:=k 0x86206e8
@[go_sem] def aBo:=k 0x39fc55e0ea278dbf1ff20
@[go_sem] def aBp:=k 0x2a221bcf7d03be8c
@[go_sem] def aBq:=k 0x1e5ccfdfae06d15b0689020
@[go_sem] def aBr:=kd 0xae5adb0d1090800a4881bef422c7e26bb734c9032ef9e742b8d5b77cdc34068f57a78069a600c691
@[go_sem] def aBs:=kd 0x427bfd61897fed11136de2d79fb86ce355d3b3939a2e4967ab27fcb5796fb1bfecdc1eb3594aeb8225ee181
@[go_sem] def aBt:=k 0x1603b3f30478a076ccdbfdf26c
@[go_sem] def eD:=k 0xa7a9014bf11a51
def P1:TC:=(.seq (.reg aBn) (.seq (.cond (.t 10) .skip (.exit 0)) (.seq (.block 1 (.seq (.reg aBo) (.seq (.reg aBp) (.block 2 (.seq (.reg aBq) (.cond (.t 19) .skip (.seq (.dreg aBr) (.cond (.t 23) (.dreg aBs) (.reg aBt))))))))) (.reg eD))))
@[go_sem] def eE:=k 0x9d638bdf77ee74c1d
def Ln:TF:=⟨54,[.t 2],(.seq (.reg aBk) (.seq (.reg aBl) (.seq (.seq (.reg aBm) (.block 0 (.loop P1))) (.seq (.reg eE) .ret))))⟩
/-! slices.IndexFunc[[]horarium/api.Run,horarium/api.Run] -/
@[go_sem] def aBu:=k 0xfb2c
@[go_sem] def aBv:=k 0xbc7dca56efc
@[go_sem] def aBw:=k 0x772cef8
@[go_sem] def aBx:=k 0x10a9e2e386bc
@[go_sem] def aBy:=k 0x19407f3ae07e3d598bfeb938a10eac
@[go_sem] def aBz:=k 0x1c15eeee624c
@[go_sem] def aBA:=k 0x3bdbf44916460
def Zk:TC:=(.seq (.reg aBw) (.seq (.cond (.t 9) .skip (.exit 0)) (.seq (.block 1 (.seq (.reg aBx) (.seq (.reg aBy) (.cond (.t 16) (.seq (.reg aBz) .ret) .skip)))) (.reg aBA))))
@[go_sem] def aBB:=k 0xfba4
def Lo:TF:=⟨19,[.t 4],(.seq (.reg aBu) (.seq (.seq (.reg aBv) (.block 0 (.loop Zk))) (.seq (.reg aBB) .ret)))⟩
/-! horarium/bound.Late -/
@[go_sem] def aBC:=k 0x16f0c
@[go_sem] def aBD:=k 0x120b1dc658a2598d16f152679b95992bcb9bb86c
@[go_sem] def aBE:=k 0x1091048c8e337b692bbffc
@[go_sem] def aBF:=k 0x16f0c
@[go_sem] def aBG:=k 0x13563dc62c2f879c37e5bc
@[go_sem] def aBH:=k 0x16f84
@[go_sem] def aBI:=k 0x59e4742f033be38c
@[go_sem] def aBJ:=k 0x256cc
@[go_sem] def aBK:=k 0x622351e07b6d
@[go_sem] def aBL:=k 0x79564569
@[go_sem] def eF:=k 0x21c6e4961f6d6beb4e6fba1
@[go_sem] def eG:=k 0xf42660e421d0f7f1466518c327eb9c216c764311
@[go_sem] def eH:=k 0xa1cd16b9
@[go_sem] def eI:=k 0x2308f4652278f5dccd5
@[go_sem] def eJ:=k 0x5a1904e2fc289a2d91fa30b2d29c4d40ef6f9a1f7bae98c85d
@[go_sem] def eK:=k 0xb9d7e16daf3c01
def IR:TC:=(.seq (.reg eH) (.seq (.cond (.t 45) .skip (.exit 3)) (.seq (.block 4 (.seq (.reg eI) (.reg eJ))) (.reg eK))))
@[go_sem] def eL:=k 0xbc8ed53ada75f1
def P2:TC:=(.seq (.reg aBL) (.seq (.cond (.t 34) .skip (.exit 1)) (.seq (.block 2 (.seq (.reg eF) (.seq (.reg eG) (.block 3 (.loop IR))))) (.reg eL))))
@[go_sem] def eM:=k 0x2f9cff33f0bbd
def Lp:TF:=⟨59,[.t 6],(.seq (.reg aBC) (.seq (.reg aBD) (.seq (.block 0 (.seq (.reg aBE) (.cond (.t 21) (.seq (.reg aBF) .ret) (.seq (.reg aBG) (.cond (.t 25) (.seq (.reg aBH) .ret) .skip))))) (.seq (.reg aBI) (.seq (.reg aBJ) (.seq (.seq (.reg aBK) (.block 1 (.loop P2))) (.seq (.reg eM) .ret)))))))⟩
/-! horarium/bound.Budget -/
@[go_sem] def aBM:=k 0x16f0c
@[go_sem] def aBN:=k 0x2d318b5a64e97e7c
@[go_sem] def aBO:=k 0x1ba4bbdbffa5a54a46e18b4e95e654f57a88a0ef194d243c3f49d82ac066e5c
@[go_sem] def aBP:=k 0x16f84
@[go_sem] def aBQ:=k 0x1452c4945cdf21a51ea99c
@[go_sem] def aBR:=k 0x3349d060d36c
@[go_sem] def aBS:=k 0x256cc
@[go_sem] def aBT:=k 0x607e010ccba91295d
@[go_sem] def aBU:=k 0x290bc
@[go_sem] def aBV:=k 0x6392770c8cfd
@[go_sem] def eO:=k 0x93163ef9
@[go_sem] def eP:=k 0x24c1d869555186715a6f531
@[go_sem] def eQ:=k 0x3366dfcc4bd715cdb6181a7341561dc200e5e65d7504a593ec463108a2b16598f348109d22ae7595c9d
@[go_sem] def eR:=k 0xc031cedb33afe1
def P3:TC:=(.seq (.reg eO) (.seq (.cond (.t 41) .skip (.exit 2)) (.seq (.block 3 (.seq (.reg eP) (.reg eQ))) (.reg eR))))
@[go_sem] def eS:=k 0xa443f10d28943544d98c9ad
@[go_sem] def eT:=k 0x63d51fe68ee92c53e7dd72d
def P4:TC:=(.seq (.seq (.reg aBT) (.cond (.t 34) .skip (.exit 0))) (.seq (.block 1 (.seq (.reg aBU) (.seq (.seq (.reg aBV) (.block 2 (.loop P3))) (.reg eS)))) (.reg eT)))
@[go_sem] def eU:=k 0x32e42f731777d
def Lq:TF:=⟨63,[.t 6],(.seq (.reg aBM) (.seq (.reg aBN) (.seq (.seq (.reg aBO) (.cond (.t 27) (.seq (.reg aBP) .ret) .skip)) (.seq (.reg aBQ) (.seq (.reg aBR) (.seq (.seq (.reg aBS) (.block 0 (.loop P4))) (.seq (.reg eU) .ret)))))))⟩
/-! horarium/node.Length -/
@[go_sem] def aBW:=k 0x9f5c74c
@[go_sem] def aBX:=k 0xa64cbbc05feefc
@[go_sem] def aBY:=k 0x9f5c74c
@[go_sem] def aBZ:=k 0x67a55b2ea265227d6c274dd1f99139bd6bc
@[go_sem] def aB0:=k 0xb7e5fe747c
@[go_sem] def aB1:=k 0x63fd2954c285c
@[go_sem] def aB2:=k 0x9f5c74c
def Lr:TF:=⟨17,[.t 2,.t 3],(.seq (.reg aBW) (.seq (.seq (.reg aBX) (.cond (.t 8) (.seq (.reg aBY) .ret) .skip)) (.seq (.seq (.reg aBZ) (.seq (.reg aB0) (.cond (.t 15) (.seq (.reg aB1) .ret) .skip))) (.seq (.reg aB2) .ret))))⟩
/-! horarium/node.whole -/
@[go_sem] def aB3:=k 0x875c
@[go_sem] def aB4:=k 0x2052192ba8eefd6fccc5d32a2b37a336a0343b720ad760108961c12c
def Ls:TF:=⟨13,[.t 2],(.seq (.reg aB3) (.seq (.reg aB4) .ret))⟩
/-! horarium/node.Depth -/
@[go_sem] def aB5:=k 0x874c
@[go_sem] def aB6:=k 0x8e8f1f341eb50c
@[go_sem] def aB7:=k 0x874c
@[go_sem] def aB8:=k 0x5fac7440f0ea7698cc1b90e6306975a9ccc
@[go_sem] def aB9:=k 0x156d54dcfe8c
def Lt:TF:=⟨14,[.t 2],(.seq (.reg aB5) (.seq (.seq (.reg aB6) (.cond (.t 7) (.seq (.reg aB7) .ret) .skip)) (.seq (.reg aB8) (.seq (.reg aB9) .ret))))⟩
/-! (*horarium/cursor.Cursor).Reset -/
@[go_sem] def aCa:=k 0x18496b5cbb62665cfa0edb3cb44eb1a855266a924a5011414beeb17c73c
@[go_sem] def aCb:=k 0x120890d1d0ac
def Lu:TF:=⟨13,[],(.seq (.reg aCa) (.reg aCb))⟩
/-! horarium/cursor.part -/
@[go_sem] def aCc:=k 0x6568d7c
@[go_sem] def aCd:=k 0x181ca37ca5d3fff30
@[go_sem] def aCe:=k 0x87c4
@[go_sem] def aCf:=k 0x29fa8f68c5e886d00
def Lv:TF:=⟨8,[.t 2],(.seq (.reg aCc) (.seq (.seq (.reg aCd) (.cond (.t 5) (.seq (.reg aCe) .ret) .skip)) (.seq (.reg aCf) .ret)))⟩
/-! (*horarium/cursor.Cursor).step -/
@[go_sem] def aCg:=k 0x238bfb76990e04fadb22351e6737b1c
@[go_sem] def aCh:=k 0x766eb7245ccb093b99ccc
@[go_sem] def aCi:=k 0x2339e8764332b1271f8288587d4a9c
@[go_sem] def aCj:=kd 0x52365c149fe93b4b870541a956d2f1b33ec405ccd2020fa1c47428f9ca670
@[go_sem] def aCk:=k 0x4019225ec9f27cd731eb8143b308d5ae457ba960178d
@[go_sem] def aCl:=k 0x17b63a2617db02a6054b327dad1d
@[go_sem] def aCm:=kd 0x12abe4c64062177133c7c1e260881479a800c3298e51d5033668ab1b623dc09841
@[go_sem] def aCn:=k 0x1f6494a2886e54514e01e36f1b11c5860d
@[go_sem] def aCo:=k 0xaedb97430a8f233bd
@[go_sem] def aCp:=kd 0x30d5489a2a035a1c3d7c99a2220779fa0e4823c7cf98aab2e4a964dc4fa7cad7a15a3a874067482fb3c53e02
def P5:TC:=(.seq (.seq (.reg aCi) (.cond (.t 17) .skip (.exit 0))) (.block 1 (.seq (.dreg aCj) (.seq (.seq (.reg aCk) (.seq (.reg aCl) (.cond (.t 40) (.seq (.seq (.dreg aCm) (.cond (.t 52) (.reg aCn) .skip)) (.seq (.reg aCo) .ret)) .skip))) (.dreg aCp)))))
@[go_sem] def eV:=k 0x86f6b524e93b119a52945017c365d1165df6d2c5aadb850cae
def Lw:TF:=⟨83,[],(.seq (.reg aCg) (.seq (.reg aCh) (.seq (.block 0 (.loop P5)) (.reg eV))))⟩
/-! horarium/runs.Add -/
@[go_sem] def aCq:=k 0xfb2c
@[go_sem] def aCr:=k 0x233aba4872fd868c952e67ce47db50c
@[go_sem] def aCs:=k 0x3234a3c00bff6f3a5ccc
@[go_sem] def aCt:=k 0xffac
@[go_sem] def aCu:=k 0xa2a48140d2834a41b448c
def Lx:TF:=⟨16,[.t 4],(.seq (.reg aCq) (.seq (.reg aCr) (.seq (.seq (.reg aCs) (.cond (.t 12) (.seq (.reg aCt) .ret) .skip)) (.seq (.reg aCu) .ret))))⟩
/-! slices.Clip[[]horarium/api.Run,horarium/api.Run] -/
@[go_sem] def aCv:=k 0x8774
@[go_sem] def aCw:=k 0x405bf140f74c3052bf24e67a8a451b8012c
def Ly:TF:=⟨9,[.t 2],(.seq (.reg aCv) (.seq (.reg aCw) .ret))⟩
/-! horarium/bound.spans -/
@[go_sem] def aCx:=k 0xfb54
@[go_sem] def aCy:=k 0x13544
@[go_sem] def aCz:=k 0x16f0c
@[go_sem] def aCA:=k 0xbfc4faa56bc
@[go_sem] def aCB:=k 0xb2faeb8
@[go_sem] def aCC:=k 0x5b3b049452445771fa6f0
@[go_sem] def aCD:=k 0x2eeab9dd7d65d5ac8e885f6265c
@[go_sem] def aCE:=k 0xa250747bb44d44421c6721d3c1b637bbe9deb96f968a20
@[go_sem] def aCF:=k 0x43ee0aeab1d8352f7b39bcd0b926255c440f8d
@[go_sem] def aCG:=k 0x1cc3a9c2b5b2d
@[go_sem] def eW:=k 0x76a483d9cab541
def P6:TC:=(.seq (.reg aCB) (.seq (.cond (.t 13) .skip (.exit 0)) (.seq (.block 1 (.seq (.reg aCC) (.seq (.reg aCD) (.seq (.seq (.reg aCE) (.cond (.t 28) (.reg aCF) .skip)) (.reg aCG))))) (.reg eW))))
@[go_sem] def eY:=k 0x1e60b37e9df0d
def Lz:TF:=⟨38,[.t 4],(.seq (.reg aCx) (.seq (.reg aCy) (.seq (.reg aCz) (.seq (.seq (.reg aCA) (.block 0 (.loop P6))) (.seq (.reg eY) .ret)))))⟩
/-! horarium/runs.Length -/
@[go_sem] def aCH:=k 0x874c
@[go_sem] def aCI:=k 0xc13c
@[go_sem] def aCJ:=k 0xbc7dca56efc
@[go_sem] def aCK:=k 0x772cef8
@[go_sem] def aCL:=k 0x39a65e76854cd42e2c730
@[go_sem] def aCM:=k 0x24bba6473a19d9fcce96f9c849c
@[go_sem] def aCN:=k 0x354d93c90f080
def Zl:TC:=(.seq (.reg aCK) (.seq (.cond (.t 9) .skip (.exit 0)) (.seq (.block 1 (.seq (.reg aCL) (.reg aCM))) (.reg aCN))))
@[go_sem] def aCO:=k 0x1bfbb55de64c
def LA:TF:=⟨18,[.t 2],(.seq (.reg aCH) (.seq (.reg aCI) (.seq (.seq (.reg aCJ) (.block 0 (.loop Zl))) (.seq (.reg aCO) .ret))))⟩
/-! horarium/bound.next -/
@[go_sem] def aCP:=k 0x16f0c
@[go_sem] def aCQ:=k 0xbef32e91ccc
@[go_sem] def aCR:=k 0xa4076c8
@[go_sem] def aCS:=k 0x5ae50d29ed699de106f00
@[go_sem] def aCT:=k 0x2847a514b696cb59f5ca188b66c
@[go_sem] def aCU:=k 0xd518d0034cd5a5cee6638ed09a29d81c
@[go_sem] def aCV:=k 0x531cf2baa39f0
def Zm:TC:=(.seq (.reg aCR) (.seq (.cond (.t 12) .skip (.exit 0)) (.seq (.block 1 (.seq (.reg aCS) (.seq (.reg aCT) (.cond (.t 19) (.seq (.reg aCU) .ret) .skip)))) (.reg aCV))))
@[go_sem] def aCW:=k 0x1f16ecf7b154c4cb25950f68d111837cbb1bc
def LB:TF:=⟨32,[.t 6],(.seq (.reg aCP) (.seq (.seq (.reg aCQ) (.block 0 (.loop Zm))) (.seq (.reg aCW) .ret)))⟩
/-! horarium/node.measure -/
@[go_sem] def aCX:=k 0x656c74c
@[go_sem] def aCY:=k 0x210b8abfe70ad954
@[go_sem] def aCZ:=k 0xc16892cca9c
@[go_sem] def aC0:=k 0xd0e1e98
@[go_sem] def aC1:=k 0x4669acd510f03859e16b0
@[go_sem] def aC2:=kd 0x264a18bd3520c8eea1dd0192584b338be59d559c293e70
@[go_sem] def aC3:=k 0x12499896d173938839b3cc
@[go_sem] def aC4:=k 0x119ce28a2d8d167968216a43faea39599d
@[go_sem] def aC5:=k 0x4942aadf5031f2b314a57bdb9df80890f9451c3ab53d
@[go_sem] def aC6:=k 0x3128854a18a2c4aebf4942e3617bd748a93215f4311811f50b2ea41488c6e3363df4acd
@[go_sem] def eZ:=kd 0xdf89451c2c3c658fe1ecd3463d4a98044fa4aaac4df310f7ce9c754995a0dcbc0b4ca8053272af91732
@[go_sem] def fA:=k 0x4bfe159445094194a695683c60275c36a94e
@[go_sem] def fB:=k 0x1830461913ea757010328f7ab02
@[go_sem] def fC:=k 0x245daa20c6ebf2d6785483bba98666cd41fea716aa348f892c2
@[go_sem] def fD:=k 0x9e2d8955996c7f064b2abcfdb86eae19e32e437c90f204e
@[go_sem] def fE:=kd 0x2b963540d6e106304e7b0969057b24e2dd7f97bbce61d87fb5750b1a07016237b7dfa78292
@[go_sem] def fF:=kd 0xd43e9ce9baece410e18cec13b09921830aa0f931d39897501e3ec0ba5d302a8c422
def LP:TC:=(.seq (.seq (.reg aC6) (.cond (.t 53) .skip (.exit 2))) (.block 3 (.seq (.dreg eZ) (.seq (.reg fA) (.seq (.seq (.reg fB) (.cond (.t 73) (.reg fC) .skip)) (.seq (.reg fD) (.seq (.dreg fE) (.dreg fF))))))))
@[go_sem] def fG:=k 0x165ad8564cfdb6b2
def P7:TC:=(.seq (.reg aC0) (.seq (.cond (.t 15) .skip (.exit 0)) (.seq (.block 1 (.seq (.reg aC1) (.seq (.dreg aC2) (.seq (.seq (.reg aC3) (.seq (.reg aC4) (.cond (.t 33) (.reg aC5) .skip))) (.block 2 (.loop LP)))))) (.reg fG))))
@[go_sem] def fH:=kd 0x1a1a258fd291959dcd56c48841ee2dd8eaa11497c14c5b27670c01a5d4db2
def LC:TF:=⟨118,[.t 2,.t 3],(.seq (.reg aCX) (.seq (.reg aCY) (.seq (.seq (.reg aCZ) (.block 0 (.loop P7))) (.seq (.dreg fH) .ret))))⟩
/-! horarium/node.Size -/
@[go_sem] def aC7:=k 0xfb2c
@[go_sem] def aC8:=k 0x12d5094a877839e59244078cf730c70294e3c60dc
@[go_sem] def aC9:=k 0xfb2c
@[go_sem] def aDa:=k 0x8731c
@[go_sem] def aDb:=k 0x1a8c9033305c
@[go_sem] def aDc:=k 0x5e87bab4e5e27ae6a04c
@[go_sem] def aDd:=k 0x3bf2a57555c9e0684102d5f64287ec
@[go_sem] def aDe:=k 0x2de4b4ec5b9c
@[go_sem] def aDf:=k 0xfb2c
@[go_sem] def aDg:=k 0x5075348cad21d09ef21eac048497d
@[go_sem] def fI:=k 0x1bdd1c2e7313d
@[go_sem] def fJ:=k 0x5f02fd438bab7fc1cc7af82d7211d
@[go_sem] def fK:=k 0x83bf575089e6e480c
def P8:TC:=(.seq (.seq (.reg aDc) (.cond (.t 20) .skip (.exit 0))) (.seq (.block 1 (.seq (.reg aDd) (.seq (.seq (.reg aDe) (.cond (.t 29) (.seq (.reg aDf) .ret) .skip)) (.seq (.reg aDg) (.seq (.reg fI) (.cond (.t 35) (.seq (.reg fJ) .ret) .skip)))))) (.reg fK)))
@[go_sem] def fL:=k 0xfb2c
def LD:TF:=⟨40,[.t 4],(.seq (.reg aC7) (.seq (.seq (.reg aC8) (.cond (.t 15) (.seq (.reg aC9) .ret) .skip)) (.seq (.reg aDa) (.seq (.seq (.reg aDb) (.block 0 (.loop P8))) (.seq (.reg fL) .ret)))))⟩
/-! (*horarium/cursor.Cursor).down -/
@[go_sem] def aDh:=k 0x1decf9c81179c7bb415bb4d3de67f824c993dd46a172f48cbd493370f0e33b1cfc5b62725657cb2b36f8774b67606737b1c
@[go_sem] def aDi:=kd 0x31771e0d9aa1f642f99376000a0237bbc8618c99c444fd7f125038d529792c5e9f668efa44bdf03bb06bbf0c4f6c470544fc0bbbad66be91
@[go_sem] def aDj:=k 0x20a89ae726dc9904aad
def Zn:TC:=(.seq (.seq (.reg aDh) (.cond (.t 23) .skip (.exit 0))) (.block 1 (.seq (.dreg aDi) (.reg aDj))))
@[go_sem] def aDk:=k 0x1da08621a001f30598cdcfeb428d
def LE:TF:=⟨49,[],(.seq (.block 0 (.loop Zn)) (.reg aDk))⟩
/-! horarium/node.kids -/
@[go_sem] def aDl:=k 0x6568d7c
@[go_sem] def aDm:=k 0x3ff84d2cbb1200598ed575c89cacca55afd49b1eadeaa5b6364721aaa9c992323efc2f2fb920
@[go_sem] def aDn:=k 0x87c4
@[go_sem] def aDo:=k 0x3ca8e0557a0abfcbc08309aba4b5991cbdd7e7dadbc62f6eb594d2ab3684a8917d457236440
@[go_sem] def aDp:=k 0x16585ac3251151cf025d59371
@[go_sem] def aDq:=k 0x874c
@[go_sem] def aDr:=k 0x115e830262021c79d93571cb792bef54ae9dd3698f4229d67b31
@[go_sem] def aDs:=k 0x20ab929911cb9164ab1
@[go_sem] def aDt:=k 0x20b691c332936e39d74d8f881
@[go_sem] def aDu:=k 0x7c54c
@[go_sem] def fM:=k 0x87c4
def LF:TF:=⟨49,[.t 2],(.seq (.reg aDl) (.seq (.block 0 (.seq (.reg aDm) (.cond (.t 3) (.seq (.reg aDn) .ret) (.seq (.seq (.reg aDo) (.cond (.t 17) .skip (.reg aDp))) (.cond (.t 17) (.seq (.reg aDq) .ret) (.seq (.reg aDr) (.cond (.t 34) (.seq (.reg aDs) .ret) (.seq (.reg aDt) (.cond (.t 45) (.seq (.reg aDu) .ret) .skip))))))))) (.seq (.reg fM) .ret)))⟩
/-! horarium/node.times -/
@[go_sem] def aDv:=k 0xfb2c
@[go_sem] def aDw:=k 0x141cd3aa38243f670edb30fedef50c
def LG:TF:=⟨10,[.t 4],(.seq (.reg aDv) (.seq (.reg aDw) .ret))⟩
/-! horarium/node.add -/
@[go_sem] def aDx:=k 0xfb2c
@[go_sem] def aDy:=k 0x141cd3aa381edf6565f722ec19750c
def LH:TF:=⟨10,[.t 4],(.seq (.reg aDx) (.seq (.reg aDy) .ret))⟩
/-! (horarium/part.none).Change -/
@[go_sem] def aDz:=k 0x38ea60c76c
@[go_sem] def aDA:=k 0xfd28
def ZI:TF:=⟨5,[.t 4],(.seq (.reg aDz) (.seq (.reg aDA) .ret))⟩
/-! (horarium/part.none).Recv -/
@[go_sem] def aDB:=k 0x2c79f5c0c76c
@[go_sem] def aDC:=k 0x8a1d97c
def ZJ:TF:=⟨6,[.t 4,.t 5],(.seq (.reg aDB) (.seq (.reg aDC) .ret))⟩
/-! (horarium/part.none).Send -/
@[go_sem] def aDD:=k 0x5323e3015c
@[go_sem] def aDE:=k 0x173b8
def ZK:TF:=⟨7,[.t 6],(.seq (.reg aDD) (.seq (.reg aDE) .ret))⟩
/-! (horarium/part.none).StopAll -/
@[go_sem] def aDF:=k 0x18718d7c
@[go_sem] def aDG:=k 0x8948
def ZL:TF:=⟨3,[.t 2],(.seq (.reg aDF) (.seq (.reg aDG) .ret))⟩
/-! (*horarium/proc.ready).Less -/
@[go_sem] def aDH:=k 0x16f1c
@[go_sem] def aDI:=kd 0x2b395fb59e94c2cf0ad893d1afb4bf3a39befd18d26b8cd2ea2390023ba850e34fee883f0a4240
@[go_sem] def aDJ:=kd 0x4fee8d26d14ff29b7f4cca74d76036a6c2043ff42d342d2de9ffd38329a2c8b1c3b78d64ab63f500172302a8341896817bc68f0e7b5a8a707d0e3e1e3bedcfe1
def LI:TF:=⟨46,[.t 6],(.seq (.reg aDH) (.seq (.dreg aDI) (.seq (.dreg aDJ) .ret)))⟩
/-! (*horarium/proc.ready).Pop -/
@[go_sem] def aDK:=k 0x8914
@[go_sem] def aDL:=k 0x508d7de946f693202b29171a91a92b4b50c
@[go_sem] def aDM:=k 0xf755795652af129e42b3c313a5571f5dc3c10ac
@[go_sem] def aDN:=k 0x9e562e225c9690fdce8e6e26b9aa4046ae3c003b799fb663c
@[go_sem] def aDO:=k 0x534ee14cd27967ac
def LJ:TF:=⟨29,[.t 2],(.seq (.reg aDK) (.seq (.reg aDL) (.seq (.reg aDM) (.seq (.reg aDN) (.seq (.reg aDO) .ret)))))⟩
/-! (*horarium/proc.ready).Push -/
@[go_sem] def aDP:=kd 0x250731ef4685bfb055e13c072ef869e193944e3bd4f4810d62d332884d2b9f58d0
def LK:TF:=⟨15,[],(.dreg aDP)⟩
/-! (*horarium/proc.ready).Swap -/
@[go_sem] def aDQ:=kd 0x42d5272f0538be460579e860b2d2ddfa3335033301f4f887c23ec904901e775ceffbbf5694cddbed1583c91b7e535ab8bd3169f984a1b25dfa12d088a9391853003b05ed97630
def LL:TF:=⟨32,[],(.dreg aDQ)⟩
/-! cmp.Or[int] -/
@[go_sem] def ZY:=k 0x874c
@[go_sem] def ZZ:=k 0xc13c
@[go_sem] def Z0:=k 0xbc7dca56efc
@[go_sem] def Z2:=k 0x772cef8
@[go_sem] def Z3:=k 0x4246909dc93c2c714
@[go_sem] def Z4:=k 0x24d1550421c1409c
@[go_sem] def Z5:=k 0x18b4852bee6c
@[go_sem] def Z6:=k 0x354d93c90f080
def IQ:TC:=(.seq (.reg Z2) (.seq (.cond (.t 9) .skip (.exit 0)) (.seq (.block 1 (.seq (.reg Z3) (.seq (.reg Z4) (.cond (.t 14) (.seq (.reg Z5) .ret) .skip)))) (.reg Z6))))
@[go_sem] def Z7:=k 0x1bfbb55de64c
def HH:TF:=⟨18,[.t 2],(.seq (.reg ZY) (.seq (.reg ZZ) (.seq (.seq (.reg Z0) (.block 0 (.loop IQ))) (.seq (.reg Z7) .ret))))⟩
/-! cmp.Compare[int] -/
@[go_sem] def Z8:=k 0xfb2c
@[go_sem] def Z9:=k 0x183c325e34c6a8ec
@[go_sem] def aA:=k 0x1e4353e3bdd05acc
@[go_sem] def aB:=k 0x26c6ac
@[go_sem] def aC:=k 0x2e3e9c
@[go_sem] def aD:=k 0xfb2c
@[go_sem] def aE:=k 0xfba4
@[go_sem] def aF:=k 0x2e788c
@[go_sem] def aG:=k 0x8392c
@[go_sem] def aH:=k 0x2aefed6a19bb7e7c
@[go_sem] def Uz:=k 0xfba4
@[go_sem] def UA:=k 0x341e80b92d7c2c4c
@[go_sem] def UB:=k 0x8392c
@[go_sem] def UC:=k 0xfb2c
def HI:TF:=⟨20,[.t 4],(.seq (.reg Z8) (.seq (.reg Z9) (.seq (.reg aA) (.seq (.seq (.reg aB) (.cond (.t 11) (.seq (.seq (.reg aC) (.cond (.t 12) (.seq (.reg aD) .ret) .skip)) (.seq (.reg aE) .ret)) .skip)) (.seq (.seq (.reg aF) (.cond (.t 13) (.seq (.reg aG) .ret) .skip)) (.seq (.seq (.reg aH) (.cond (.t 16) (.seq (.reg Uz) .ret) .skip)) (.seq (.seq (.reg UA) (.cond (.t 19) (.seq (.reg UB) .ret) .skip)) (.seq (.reg UC) .ret))))))))⟩
/-! cmp.isNaN[int] -/
@[go_sem] def aI:=k 0x875c
@[go_sem] def aJ:=k 0x36834b84759166fd8012c
def HJ:TF:=⟨6,[.t 2],(.seq (.reg aI) (.seq (.reg aJ) .ret))⟩
def oA:Nat→Option TF
 | 9=>some Ge
 | 12=>some T0
 | 13=>some Jr
 | 14=>some MV
 | 15=>some MW
 | 16=>some MX
 | 17=>some T3
 | 18=>some T4
 | 21=>some T5
 | 22=>some T6
 | 27=>some KB
 | 28=>some HK
 | 29=>some KC
 | 30=>some KD
 | 31=>some KE
 | 32=>some KF
 | 33=>some KG
 | 34=>some KH
 | 35=>some KI
 | 36=>some KJ
 | 37=>some BW
 | 38=>some KK
 | 39=>some KL
 | 40=>some KM
 | 41=>some KN
 | 42=>some KO
 | 43=>some KP
 | 57=>some KQ
 | 58=>some HL
 | 59=>some HM
 | 60=>some KR
 | 61=>some KT
 | 62=>some HN
 | 63=>some HO
 | 64=>some KU
 | 65=>some KV
 | 66=>some KW
 | 67=>some KX
 | 68=>some KY
 | 69=>some HP
 | 70=>some BX
 | 71=>some FL
 | 72=>some KZ
 | 73=>some K0
 | 74=>some K1
 | 75=>some K2
 | 76=>some K3
 | 77=>some K4
 | 78=>some K5
 | 92=>some K6
 | 93=>some K7
 | 94=>some K8
 | 95=>some K9
 | 96=>some La
 | 97=>some Lb
 | 98=>some HQ
 | 99=>some FM
 | 100=>some Lc
 | 101=>some Ld
 | 102=>some CQ
 | 103=>some FN
 | 114=>some Le
 | 115=>some Lf
 | 116=>some Lg
 | 117=>some Lh
 | 118=>some Li
 | 119=>some Lj
 | 120=>some Lk
 | 127=>some Ll
 | 128=>some Lm
 | 129=>some HR
 | 130=>some Ln
 | 131=>some Lo
 | 132=>some Lp
 | 133=>some Lq
 | 135=>some Lr
 | 136=>some Ls
 | 137=>some Lt
 | 138=>some Lu
 | 139=>some Lv
 | 140=>some Lw
 | 141=>some Lx
 | 142=>some Ly
 | 143=>some Lz
 | 144=>some LA
 | 145=>some LB
 | 146=>some LC
 | 147=>some LD
 | 148=>some LE
 | 149=>some LF
 | 150=>some LG
 | 151=>some LH
 | 169=>some ZI
 | 170=>some ZJ
 | 171=>some ZK
 | 172=>some ZL
 | 177=>some LI
 | 178=>some LJ
 | 179=>some LK
 | 180=>some LL
 | 181=>some HH
 | 182=>some HI
 | 183=>some HJ
 | _=>none
def M3:Nat→String→Option PT
 | 149,"Push"=>some ⟨J3,none⟩
 | 149,"Len"=>some ⟨J0,none⟩
 | 149,"Less"=>some ⟨NG,none⟩
 | 149,"Swap"=>some ⟨J4,none⟩
 | 149,"Pop"=>some ⟨J2,none⟩
 | 91,"Change"=>some ⟨Zz,none⟩
 | 91,"StopAll"=>some ⟨ZD,none⟩
 | 91,"Send"=>some ⟨ZB,none⟩
 | 91,"Recv"=>some ⟨ZA,none⟩
 | _,_=>none
def tp:TP:=⟨oA,M3⟩
theorem JW:tp.fn aEr=some Ge:=rfl
theorem aEm:tp.fn lX=some T0:=rfl
theorem Rm:tp.fn Mq=some Jr:=rfl
theorem Zw:tp.fn RS=some MV:=rfl
theorem Zx:tp.fn Wj=some MW:=rfl
theorem Zy:tp.fn R6=some MX:=rfl
theorem aEn:tp.fn lY=some T3:=rfl
theorem aEo:tp.fn lZ=some T4:=rfl
theorem aEp:tp.fn mA=some T5:=rfl
theorem aEq:tp.fn mB=some T6:=rfl
theorem iV:tp.fn RE=some KB:=rfl
theorem iW:tp.fn RF=some HK:=rfl
theorem iX:tp.fn RG=some KC:=rfl
theorem iY:tp.fn RH=some KD:=rfl
theorem iZ:tp.fn RI=some KE:=rfl
theorem jA:tp.fn RJ=some KF:=rfl
theorem jB:tp.fn Nl=some KG:=rfl
theorem jC:tp.fn RK=some KH:=rfl
theorem jD:tp.fn RL=some KI:=rfl
theorem jE:tp.fn RM=some KJ:=rfl
theorem DU:tp.fn Nm=some BW:=rfl
theorem jF:tp.fn Nn=some KK:=rfl
theorem jG:tp.fn RN=some KL:=rfl
theorem jH:tp.fn RO=some KM:=rfl
theorem jI:tp.fn RP=some KN:=rfl
theorem jJ:tp.fn RQ=some KO:=rfl
theorem jK:tp.fn No=some KP:=rfl
theorem jL:tp.fn RR=some KQ:=rfl
theorem Rn:tp.fn Np=some HL:=rfl
theorem Ro:tp.fn Nq=some HM:=rfl
theorem jM:tp.fn RU=some KR:=rfl
theorem jN:tp.fn RX=some KT:=rfl
theorem Rp:tp.fn Nr=some HN:=rfl
theorem Rq:tp.fn Ns=some HO:=rfl
theorem jO:tp.fn Nt=some KU:=rfl
theorem jQ:tp.fn Nu=some KV:=rfl
theorem jR:tp.fn J0=some KW:=rfl
theorem jS:tp.fn Nv=some KX:=rfl
theorem jT:tp.fn RY=some KY:=rfl
theorem Rr:tp.fn RZ=some HP:=rfl
theorem DW:tp.fn Nw=some BX:=rfl
theorem Mg:tp.fn Nx=some FL:=rfl
theorem jU:tp.fn R0=some KZ:=rfl
theorem jV:tp.fn Ny=some K0:=rfl
theorem jW:tp.fn Nz=some K1:=rfl
theorem jX:tp.fn NA=some K2:=rfl
theorem jY:tp.fn NB=some K3:=rfl
theorem jZ:tp.fn R1=some K4:=rfl
theorem kB:tp.fn R3=some K5:=rfl
theorem kC:tp.fn R5=some K6:=rfl
theorem kD:tp.fn R7=some K7:=rfl
theorem kE:tp.fn R8=some K8:=rfl
theorem kF:tp.fn R9=some K9:=rfl
theorem kG:tp.fn Sa=some La:=rfl
theorem kH:tp.fn Sb=some Lb:=rfl
theorem Rt:tp.fn NC=some HQ:=rfl
theorem Mh:tp.fn ND=some FM:=rfl
theorem kI:tp.fn Sc=some Lc:=rfl
theorem kJ:tp.fn Sd=some Ld:=rfl
theorem EX:tp.fn Se=some CQ:=rfl
theorem Mi:tp.fn Sf=some FN:=rfl
theorem kK:tp.fn Sg=some Le:=rfl
theorem kL:tp.fn Si=some Lf:=rfl
theorem kM:tp.fn Ik=some Lg:=rfl
theorem kN:tp.fn Sj=some Lh:=rfl
theorem kO:tp.fn Sk=some Li:=rfl
theorem kQ:tp.fn Sm=some Lj:=rfl
theorem kR:tp.fn Sn=some Lk:=rfl
theorem kS:tp.fn So=some Ll:=rfl
theorem kT:tp.fn Sp=some Lm:=rfl
theorem Ru:tp.fn Hk=some HR:=rfl
theorem kU:tp.fn Sq=some Ln:=rfl
theorem kV:tp.fn Sr=some Lo:=rfl
theorem kW:tp.fn Ss=some Lp:=rfl
theorem kX:tp.fn St=some Lq:=rfl
theorem kY:tp.fn Su=some Lr:=rfl
theorem kZ:tp.fn Sv=some Ls:=rfl
theorem lA:tp.fn Sw=some Lt:=rfl
theorem lB:tp.fn NE=some Lu:=rfl
theorem lC:tp.fn Sx=some Lv:=rfl
theorem lD:tp.fn NF=some Lw:=rfl
theorem lE:tp.fn Sy=some Lx:=rfl
theorem lF:tp.fn Sz=some Ly:=rfl
theorem lG:tp.fn SA=some Lz:=rfl
theorem lH:tp.fn SB=some LA:=rfl
theorem lI:tp.fn SC=some LB:=rfl
theorem lJ:tp.fn SD=some LC:=rfl
theorem lK:tp.fn SF=some LD:=rfl
theorem lL:tp.fn J1=some LE:=rfl
theorem lM:tp.fn SG=some LF:=rfl
theorem lN:tp.fn SH=some LG:=rfl
theorem lO:tp.fn SI=some LH:=rfl
theorem lP:tp.fn NG=some LI:=rfl
theorem lQ:tp.fn J2=some LJ:=rfl
theorem lR:tp.fn J3=some LK:=rfl
theorem lS:tp.fn J4=some LL:=rfl
theorem V9:tp.fn Mm=some HH:=rfl
theorem Wa:tp.fn Mn=some HI:=rfl
theorem Wc:tp.fn Mo=some HJ:=rfl
@[go_sem] theorem Ut:tp.meth 149 "Push"=some ⟨J3,none⟩:=by kernel_rfl
@[go_sem] theorem WB:tp.meth 149 "Len"=some ⟨J0,none⟩:=by kernel_rfl
@[go_sem] theorem Us:tp.meth 149 "Less"=some ⟨NG,none⟩:=by kernel_rfl
@[go_sem] theorem Uu:tp.meth 149 "Swap"=some ⟨J4,none⟩:=by kernel_rfl
@[go_sem] theorem WD:tp.meth 149 "Pop"=some ⟨J2,none⟩:=by kernel_rfl
@[go_sem] theorem S6:tp.meth 91 "Change"=some ⟨Zz,none⟩:=by kernel_rfl
@[go_sem] theorem PJ:tp.meth 91 "StopAll"=some ⟨ZD,none⟩:=by kernel_rfl
@[go_sem] theorem WF:tp.meth 91 "Send"=some ⟨ZB,none⟩:=by kernel_rfl
@[go_sem] theorem WE:tp.meth 91 "Recv"=some ⟨ZA,none⟩:=by kernel_rfl
end Go.Ab.T
