/- Part of a proof that a law returns true for every input of the second form's bound (no other condition). -/
import Derived.Test.YtlcknhidblndnaaGreatPD
set_option linter.all false
/- The abstract machine's text of the functions, its regions as numbers. Written by a tool. -/
namespace Go.Ab.T
open Go Go.Ab
set_option maxRecDepth 100000
abbrev aYX:Nat:=6
abbrev sU:Nat:=10
abbrev sV:Nat:=11
abbrev sW:Nat:=12
abbrev SQ:Nat:=13
abbrev SR:Nat:=14
abbrev sY:Nat:=15
abbrev VX:Nat:=16
abbrev aNr:Nat:=17
abbrev sZ:Nat:=18
abbrev Uk:Nat:=19
abbrev Zx:Nat:=20
abbrev Kp:Nat:=21
abbrev MA:Nat:=22
abbrev Ul:Nat:=23
abbrev Um:Nat:=24
abbrev Un:Nat:=25
abbrev Zy:Nat:=26
abbrev Zz:Nat:=27
abbrev ZA:Nat:=28
abbrev ZB:Nat:=29
abbrev ZD:Nat:=30
abbrev ZE:Nat:=31
abbrev Uo:Nat:=32
abbrev ZF:Nat:=33
abbrev ZG:Nat:=34
abbrev ZH:Nat:=35
abbrev Up:Nat:=36
abbrev Uq:Nat:=37
abbrev ZI:Nat:=38
abbrev ZJ:Nat:=39
abbrev ZK:Nat:=40
abbrev ZL:Nat:=41
abbrev Ur:Nat:=42
abbrev ZM:Nat:=43
abbrev ZN:Nat:=44
abbrev Us:Nat:=45
abbrev Ut:Nat:=46
abbrev Uu:Nat:=47
abbrev ZO:Nat:=48
abbrev ZP:Nat:=49
abbrev O2:Nat:=50
abbrev ZR:Nat:=51
abbrev ZT:Nat:=52
abbrev ZU:Nat:=53
abbrev ZV:Nat:=54
abbrev ZW:Nat:=55
abbrev ZX:Nat:=56
abbrev Uv:Nat:=57
abbrev Uw:Nat:=58
abbrev ZY:Nat:=59
abbrev ZZ:Nat:=60
abbrev Ux:Nat:=61
abbrev Uy:Nat:=62
abbrev Uz:Nat:=63
abbrev UA:Nat:=64
abbrev O3:Nat:=65
abbrev UB:Nat:=66
abbrev Z0:Nat:=67
abbrev Z2:Nat:=68
abbrev UC:Nat:=69
abbrev UD:Nat:=70
abbrev Z3:Nat:=71
abbrev UE:Nat:=72
abbrev UF:Nat:=73
abbrev UG:Nat:=74
abbrev UH:Nat:=75
abbrev Z4:Nat:=76
abbrev Z5:Nat:=77
abbrev UI:Nat:=78
abbrev Z6:Nat:=79
abbrev Z7:Nat:=80
abbrev Z8:Nat:=81
abbrev UJ:Nat:=82
abbrev UK:Nat:=83
abbrev Z9:Nat:=84
abbrev aA:Nat:=85
abbrev aB:Nat:=86
abbrev aC:Nat:=87
abbrev aD:Nat:=88
abbrev aE:Nat:=89
abbrev aF:Nat:=90
abbrev aG:Nat:=91
abbrev aH:Nat:=92
abbrev aI:Nat:=93
abbrev aJ:Nat:=94
abbrev aK:Nat:=95
abbrev aL:Nat:=96
abbrev UL:Nat:=97
abbrev UM:Nat:=98
abbrev aM:Nat:=99
abbrev aN:Nat:=100
abbrev aO:Nat:=101
abbrev aP:Nat:=102
abbrev aQ:Nat:=103
abbrev aR:Nat:=104
abbrev O4:Nat:=105
abbrev aS:Nat:=106
abbrev aU:Nat:=107
abbrev Ku:Nat:=108
abbrev R9:Nat:=109
abbrev Sa:Nat:=110
abbrev Sb:Nat:=111
abbrev Sc:Nat:=112
abbrev Sd:Nat:=113
abbrev Se:Nat:=114
abbrev IC:Nat:=115
abbrev Sf:Nat:=116
abbrev Sg:Nat:=117
abbrev Si:Nat:=118
abbrev Sj:Nat:=119
abbrev NC:Nat:=120
abbrev ND:Nat:=121
abbrev NE:Nat:=122
abbrev Km:Nat:=123
abbrev Ko:Nat:=124
abbrev Sk:Nat:=125
abbrev Sm:Nat:=126
abbrev Sn:Nat:=127
abbrev Hd:Nat:=128
abbrev So:Nat:=129
abbrev Sp:Nat:=130
abbrev Sq:Nat:=131
abbrev Sr:Nat:=132
abbrev Ss:Nat:=133
abbrev St:Nat:=134
abbrev Su:Nat:=135
abbrev Sv:Nat:=136
abbrev NF:Nat:=137
abbrev Sw:Nat:=138
abbrev NG:Nat:=139
abbrev Sx:Nat:=140
abbrev Sy:Nat:=141
abbrev Sz:Nat:=142
abbrev SA:Nat:=143
abbrev SB:Nat:=144
abbrev SC:Nat:=145
abbrev SD:Nat:=146
abbrev Kq:Nat:=147
abbrev SF:Nat:=148
abbrev SG:Nat:=149
abbrev SH:Nat:=150
abbrev SI:Nat:=151
abbrev SJ:Nat:=169
abbrev SK:Nat:=170
abbrev SL:Nat:=171
abbrev NH:Nat:=172
abbrev NI:Nat:=173
abbrev NJ:Nat:=174
abbrev NK:Nat:=175
abbrev NL:Nat:=176
abbrev Kr:Nat:=177
abbrev Ks:Nat:=178
abbrev Kt:Nat:=179
abbrev SM:Nat:=180
abbrev SN:Nat:=181
abbrev SO:Nat:=182
abbrev aOw:Nat:=183
def wrs:List Nat:=[Ul,ZR,Um,Un,sU,Zy,sV,SF,Sx,So,Sw,ZF,SR,ZI,Uq,UD,Z3,UH,UF,UG,UA,Z4,O3,Z0,UM,aM,SM,Kt,Ks,Ut,Uu,Z6,ZO,Z9,UK,aS,ND,NE,NK,NJ,NI,NL]
def xgt {α:Type} (z:α):List α→Nat→α
 | [],_=>z
 | x::_,0=>x
 | _::l,n+1=>xgt z l n
def CD:Nat→Int:=xgt 0 [0,1,2,3,4,5,6,7,8,9,10,11,12,13,14,15,16,17,18,19,20,21,22,23,24,25,26,27,28,29,30,31]
def bA4:List ((Nat→Nat)→O):=[fun p=>.mv (.t (p 0)),
fun p=>.fad (p 0) (.t (p 1)),
fun p=>.load 1 false (.t (p 0)),
fun p=>.nck (.t (p 0)),
fun p=>.mv (.c (.i .i64 (CD (p 0)))),
fun p=>.len (.t (p 0)),
fun p=>.bin .eql (.t (p 0)) (.c (.i .i64 (CD (p 1)))),
fun p=>.bin .add (.t (p 0)) (.c (.i .i64 (CD (p 1)))),
fun p=>.mv (.c (.b false)),
fun p=>.pick (.t (p 0)) (.t (p 1)) (.c (.b false)),
fun p=>.pick (.t (p 0)) (.c (.b true)) (.t (p 1)),
fun p=>.bin .lss (.t (p 0)) (.t (p 1)),
fun p=>.store 1 (.t (p 0)) (.t (p 1)),
fun p=>.box (.t (p 0)),
fun p=>.iad 1 (.t (p 0)) (.t (p 1)),
fun p=>.bin .lss (.t (p 0)) (.c (.i .i64 (CD (p 1)))),
fun p=>.mv (.c (.i .u32 0)),
fun p=>.un .not (.t (p 0)),
fun p=>.mv (.c .ns),
fun p=>.bin .sub (.t (p 0)) (.c (.i .i64 (CD (p 1)))),
fun p=>.iad 3 (.t (p 0)) (.t (p 1)),
fun p=>.call (.fn Ul) [(.t (p 0)),(.c (.i .i64 (CD (p 1))))],
fun p=>.bin .gtr (.t (p 0)) (.c (.i .i64 (CD (p 1)))),
fun p=>.load 3 true (.t (p 0))]
def bA5:List ((Nat→Nat)→O):=[fun p=>.ext (.t (p 0)) 0,
fun p=>.ext (.t (p 0)) 1,
fun p=>.bin .add (.t (p 0)) (.t (p 1)),
fun p=>.mv (.c (.b true)),
fun p=>.iad 11 (.t (p 0)) (.t (p 1)),
fun p=>.iad 2 (.t (p 0)) (.t (p 1)),
fun p=>.iada 1 8 (.t (p 0)) (.t (p 1)),
fun p=>.bin .geq (.t (p 0)) (.c (.i .i64 (CD (p 1)))),
fun p=>.bin .geq (.t (p 0)) (.t (p 1)),
fun p=>.store 2 (.t (p 0)) (.t (p 1)),
fun p=>.store 6 (.t (p 0)) (.t (p 1)),
fun p=>.load 2 true (.t (p 0)),
fun p=>.iad 6 (.t (p 0)) (.t (p 1)),
fun p=>.app 1 (.t (p 0)) (.t (p 1)),
fun p=>.bin .neq (.t (p 0)) (.c (.i .i64 (CD (p 1)))),
fun p=>.bin .neq (.t (p 0)) (.t (p 1)),
fun p=>.load 6 true (.t (p 0)),
fun p=>.mv (.c (.i .i64 (-1))),
fun p=>.alloc [(.i .i64 0),(.i .i64 0)],
fun p=>.conv .i64 (.t (p 0)),
fun p=>.bin .eql (.t (p 0)) (.t (p 1)),
fun p=>.load 4 true (.t (p 0)),
fun p=>.bin .sub (.t (p 0)) (.t (p 1)),
fun p=>.e0]
def bA6:List ((Nat→Nat)→O):=[fun p=>.iada 1 8 (.t (p 0)) (.c (.i .i64 (CD (p 1)))),
fun p=>.load 11 true (.t (p 0)),
fun p=>.alloc [(.i .i64 0),(.i .i64 0),(.i .i64 0),(.i .i64 0),(.i .i64 0),(.i .u32 0)],
fun p=>.chk 1 false (.t (p 0)) (.t (p 1)),
fun p=>.store 1 (.t (p 0)) (.c (.i .i64 (CD (p 1)))),
fun p=>.bin .gtr (.t (p 0)) (.t (p 1)),
fun p=>.bsl 2 [(.i .i64 0),(.i .i64 0)] 1 [(0,(.t (p 0)))],
fun p=>.app 2 (.t (p 0)) (.t (p 1)),
fun p=>.mv (.c .np),
fun p=>.iad 9 (.t (p 0)) (.t (p 1)),
fun p=>.bin .add (.c (.i .i64 (CD (p 0)))) (.t (p 1)),
fun p=>.fload 1 false (.t (p 0)),
fun p=>.conv .u32 (.t (p 0)),
fun p=>.app 3 (.t (p 0)) (.t (p 1)),
fun p=>.alloc [.ns,.ns,.ns],
fun p=>.store 3 (.t (p 0)) (.t (p 1)),
fun p=>.store 11 (.t (p 0)) (.t (p 1)),
fun p=>.bin .rem (.t (p 0)) (.t (p 1)),
fun p=>.bsl 3 [(.i .i64 0),(.i .i64 0),(.i .i64 0)] 1 [(0,(.t (p 0)))],
fun p=>.mx [(.t (p 0)),(.t (p 1))],
fun p=>.alloc [(.s ⟨#[]⟩),(.i .i64 0),(.i .i64 0),(.b false),(.b false),.ns,(.i .i64 0),(.i .i64 0),(.i .i64 0),(.i .i64 0),(.i .i64 0)],
fun p=>.bsl 1 [.ns] 1 [(0,(.t (p 0)))],
fun p=>.store 4 (.t (p 0)) (.t (p 1)),
fun p=>.bin .mul (.t (p 0)) (.t (p 1))]
def bA7:List ((Nat→Nat)→O):=[fun p=>.eq false .sl (.t (p 0)) (.c .ns),
fun p=>.bin .leq (.t (p 0)) (.c (.i .i64 (CD (p 1)))),
fun p=>.slen (.t (p 0)),
fun p=>.sidx (.t (p 0)) (.t (p 1)),
fun p=>.mv (.c (.i .u32 4)),
fun p=>.bin .mul (.c (.i .i64 (CD (p 0)))) (.t (p 1)),
fun p=>.build [(.i .i64 0),(.i .i64 0)] [(0,1,(.t (p 0))),(1,1,(.t (p 1)))],
fun p=>.call (.fn Ul) [(.t (p 0)),(.t (p 1))],
fun p=>.bin .leq (.t (p 0)) (.t (p 1)),
fun p=>.call (.fn sY) [(.t (p 0))],
fun p=>.call (.fn SR) [(.t (p 0)),(.c .ni)],
fun p=>.bin .eql (.t (p 0)) (.c (.i .u32 0)),
fun p=>.alloc [(.i .i64 0),(.i .i64 0),(.b false),(.i .i64 0),(.i .u32 0),(.i .i64 0)],
fun p=>.iada 1 16 (.t (p 0)) (.t (p 1)),
fun p=>.bin .leq (.t (p 0)) (.c (.i .i64 4096)),
fun p=>.mn [(.c (.i .i64 4097)),(.t (p 0))],
fun p=>.app 6 (.t (p 0)) (.t (p 1)),
fun p=>.load 5 true (.t (p 0)),
fun p=>.alloc [(.i .i64 0),(.i .i64 0),(.i .i64 0),(.i .i64 0)],
fun p=>.load 16 true (.t (p 0)),
fun p=>.call (.fn ZM) [(.t (p 0))],
fun p=>.eq false .ptr (.t (p 0)) (.c .np),
fun p=>.bsl 1 [(.i .i64 0)] 1 [(0,(.t (p 0)))],
fun p=>.call (.fn Ut) [(.t (p 0)),(.t (p 1)),(.t (p 2))]]
def bA8:List ((Nat→Nat)→O):=[fun p=>.call (.fn Uu) [(.t (p 0)),(.t (p 1))],
fun p=>.mn [(.t (p 0)),(.t (p 1))],
fun p=>.conv .u8 (.t (p 0)),
fun p=>.mv (.c (.i .u32 3)),
fun p=>.call (.fn aN) [(.t (p 0)),(.t (p 1))],
fun p=>.store 1 (.t (p 0)) (.c (.b true)),
fun p=>.mn [(.t (p 0)),(.c (.i .i64 4097))],
fun p=>.alloc [.ns,.ns],
fun p=>.iada 1 5 (.t (p 0)) (.t (p 1)),
fun p=>.bsl 11 [(.s ⟨#[]⟩),(.i .i64 0),(.i .i64 0),(.b false),(.b false),.ns,(.i .i64 0),(.i .i64 0),(.i .i64 0),(.i .i64 0),(.i .i64 0)] 1 [(0,(.t (p 0)))],
fun p=>.app 11 (.t (p 0)) (.t (p 1)),
fun p=>.chkb 1 [(.i .u32 0)] 3 [(0,(.c (.i .u32 4294967295))),(1,(.c (.i .u32 200))),(2,(.c (.i .u32 3)))] (.t (p 0)),
fun p=>.chka [(.i .i64 0),(.i .i64 0),(.b false),(.i .i64 0),(.i .u32 0),(.i .i64 0)] (.t (p 0)),
fun p=>.bsl 1 [(.i .u32 0)] 1 [(0,(.t (p 0)))],
fun p=>.slice 1 (.t (p 0)) none (some (.t (p 1))) none,
fun p=>.eq true .ptr (.t (p 0)) (.c .np),
fun p=>.build [(.i .i64 0),(.i .i64 0),(.i .i64 0)] [(0,1,(.c (.i .i64 (CD (p 0))))),(2,1,(.c (.i .i64 (CD (p 1)))))],
fun p=>.eq false (.agg [.i,.i,.i,.i,.i,.i]) (.t (p 0)) (.t (p 1)),
fun p=>.call (.fn VX) [(.t (p 0)),(.t (p 1))],
fun p=>.store 16 (.t (p 0)) (.t (p 1)),
fun p=>.build [(.i .u32 0),(.i .u32 0),(.i .u32 0),(.i .u32 0),(.i .u32 0),(.i .u32 0),(.i .u32 0),(.i .u32 0)] [],
fun p=>.call (.fn ZT) [(.t (p 0))],
fun p=>.bin .quo (.t (p 0)) (.t (p 1)),
fun p=>.mx [(.t (p 0)),(.c (.i .i64 (CD (p 1))))]]
def bA9:List ((Nat→Nat)→O):=[fun p=>.store 1 (.t (p 0)) (.c .ns),
fun p=>.ext (.t (p 0)) 2,
fun p=>.call (.fn UC) [(.t (p 0)),(.t (p 1))],
fun p=>.call (.fn UE) [(.t (p 0))],
fun p=>.build [(.i .i64 0),(.i .i64 0),(.i .i64 0)] [(0,1,(.c (.i .i64 (CD (p 0))))),(2,1,(.t (p 1)))],
fun p=>.call (.fn O4) [(.t (p 0))],
fun p=>.call (.fn aU) [(.t (p 0))],
fun p=>.inv (.t (p 0)) "Less" [(.t (p 1)),(.t (p 2))],
fun p=>.call (.fn Sm) [(.t (p 0)),(.t (p 1))],
fun p=>.call (.fn Sv) [(.t (p 0))],
fun p=>.call (.fn Sy) [(.t (p 0)),(.t (p 1))],
fun p=>.call (.fn SA) [(.t (p 0)),(.t (p 1))],
fun p=>.mx [(.c (.i .i64 (CD (p 0)))),(.t (p 1))],
fun p=>.call (.fn Uk) [(.t (p 0))],
fun p=>.mn [(.t (p 0)),(.c (.i .i64 512))],
fun p=>.call (.fn ZF) [(.t (p 0))],
fun p=>.build [(.i .i64 0),(.i .i64 0),(.i .i64 0),(.i .i64 0),(.i .i64 0),(.i .u32 0)] [],
fun p=>.store 1 (.t (p 0)) (.c (.i .u32 0)),
fun p=>.eq false .b (.t (p 0)) (.t (p 1)),
fun p=>.build [(.i .i64 0),(.i .i64 0)] [],
fun p=>.call (.fn SQ) [(.t (p 0)),(.c (.i .i64 (CD (p 1)))),(.c .ns),(.c .ns)],
fun p=>.call (.fn sZ) [(.t (p 0))],
fun p=>.call (.fn ZN) [(.t (p 0))],
fun p=>.build [.ns,.ns,.ns,.np,(.i .i64 0),(.i .i64 0),(.b false)] [(0,3,(.t (p 0))),(3,1,(.t (p 1))),(4,1,(.c (.i .i64 (-1))))]]
def bBa:List ((Nat→Nat)→O):=[fun p=>.call (.fn SQ) [(.t (p 0)),(.t (p 1)),(.t (p 2)),(.t (p 3))],
fun p=>.eq true .b (.t (p 0)) (.t (p 1)),
fun p=>.store 8 (.t (p 0)) (.t (p 1)),
fun p=>.load 8 true (.t (p 0)),
fun p=>.call (.fn ZU) [(.t (p 0))],
fun p=>.call (.fn ZV) [(.t (p 0)),(.t (p 1)),(.t (p 2))],
fun p=>.iad 1 (.t (p 0)) (.c (.i .i64 (CD (p 1)))),
fun p=>.call (.fn ZW) [(.t (p 0)),(.t (p 1)),(.t (p 2))],
fun p=>.call (.fn Uz) [(.t (p 0))],
fun p=>.build [(.i .u32 0),(.i .u32 0),(.i .u32 0),(.i .u32 0),(.i .u32 0),(.i .u32 0),(.i .u32 0),(.i .u32 0),(.i .u32 0),(.i .u32 0),(.i .u32 0),(.i .u32 0),(.i .u32 0),(.i .u32 0),(.i .u32 0),(.i .u32 0)] [],
fun p=>.mkif 149 (.t (p 0)),
fun p=>.mkif 3 (.t (p 0)),
fun p=>.tas 3 false (.i .i64 0) (.t (p 0)),
fun p=>.bin .rem (.t (p 0)) (.c (.i .i64 (CD (p 1)))),
fun p=>.build [(.i .i64 0),(.i .i64 0),(.i .i64 0),(.i .i64 0)] [],
fun p=>.build [(.i .i64 0),(.i .i64 0),(.i .i64 0),(.i .i64 0)] [(0,1,(.t (p 0))),(1,1,(.t (p 1))),(2,1,(.t (p 2))),(3,1,(.t (p 3)))],
fun p=>.load 9 true (.t (p 0)),
fun p=>.call (.fn Z6) [(.t (p 0))],
fun p=>.mv (.c (.i .u32 2)),
fun p=>.call (.fn MA) [(.t (p 0)),(.t (p 1))],
fun p=>.eq false (.agg [.i,.i,.i,.i,.i,.i,.i,.i]) (.t (p 0)) (.t (p 1)),
fun p=>.call (.fn ZR) [(.t (p 0)),(.t (p 1)),(.t (p 2))],
fun p=>.bin .gtr (.t (p 0)) (.c (.i .i64 96)),
fun p=>.call (.fn aE) [(.t (p 0)),(.t (p 1))]]
def bBb:List ((Nat→Nat)→O):=[fun p=>.call (.fn aF) [(.t (p 0))],
fun p=>.slice 2 (.t (p 0)) none (some (.t (p 1))) (some (.t (p 2))),
fun p=>.inv (.t (p 0)) "Len" [],
fun p=>.mv (.c .ni),
fun p=>.conv .u64 (.t (p 0)),
fun p=>.build [(.i .i64 0),(.i .i64 0),(.i .i64 0)] [(0,1,(.t (p 0))),(1,1,(.t (p 1))),(2,1,(.t (p 2)))],
fun p=>.bin .gtr (.t (p 0)) (.c (.i .i64 255)),
fun p=>.call (.fn aR) [(.t (p 0))],
fun p=>.bin .gtr (.t (p 0)) (.c (.i .i64 128)),
fun p=>.bin .sub (.c (.i .i64 9223372036854775807)) (.t (p 0)),
fun p=>.mv (.c (.i .i64 9223372036854775807)),
fun p=>.idx 1 5 false (.t (p 0)) (.t (p 1)),
fun p=>.call (.fn Sf) [(.t (p 0)),(.t (p 1))],
fun p=>.inv (.t (p 0)) "Swap" [(.t (p 1)),(.t (p 2))],
fun p=>.bin .gtr (.t (p 0)) (.c (.i .i64 4096)),
fun p=>.call (.fn R9) [(.t (p 0)),(.t (p 1)),(.t (p 2))],
fun p=>.call (.t (p 0)) [(.t (p 1))],
fun p=>.call (.fn Sn) [(.t (p 0))],
fun p=>.call (.fn Km) [(.t (p 0)),(.t (p 1))],
fun p=>.call (.fn SB) [(.t (p 0))],
fun p=>.bsl 1 [(.i .i64 0)] 2 [(0,(.t (p 0))),(1,(.t (p 1)))],
fun p=>.bin .leq (.t (p 0)) (.c (.i .i64 128)),
fun p=>.call (.fn SD) [(.t (p 0))],
fun p=>.bsl 6 [(.i .i64 0),(.i .i64 0),(.i .i64 0),(.i .i64 0),(.i .i64 0),(.i .i64 0)] 1 [(0,(.t (p 0)))]]
def bBc:List ((Nat→Nat)→O):=[fun p=>.call (.fn SG) [(.t (p 0))],
fun p=>.iad 6 (.t (p 0)) (.c (.i .i64 (CD (p 1)))),
fun p=>.call (.fn SO) [(.t (p 0)),(.t (p 1))],
fun p=>.call (.fn aOw) [(.t (p 0))],
fun p=>.bin .lss (.t (p 0)) (.c (.i .i64 40)),
fun p=>.build [.ns,(.i .i64 0)] [(0,1,(.t (p 0)))],
fun p=>.call (.fn sU) [(.t (p 0))],
fun p=>.call (.fn sV) [(.t (p 0)),(.t (p 1))],
fun p=>.call (.fn Zx) [(.t (p 0)),(.t (p 1)),(.t (p 2)),(.t (p 3)),(.t (p 4))],
fun p=>.call (.fn aNr) [],
fun p=>.bin .add (.c (.i .i64 97)) (.t (p 0)),
fun p=>.conv .i32 (.t (p 0)),
fun p=>.i2s (.t (p 0)),
fun p=>.bin .add (.c (.s ⟨#[112]⟩)) (.t (p 0)),
fun p=>.build [(.s ⟨#[]⟩),(.i .i64 0),(.i .i64 0),(.b false),(.b false),.ns,(.i .i64 0),(.i .i64 0),(.i .i64 0),(.i .i64 0),(.i .i64 0)] [(0,1,(.t (p 0))),(3,1,(.t (p 1))),(4,1,(.t (p 2)))],
fun p=>.bsl 1 [(.i .i64 0)] 5 [(0,(.c (.i .i64 (CD (p 0))))),(1,(.c (.i .i64 (CD (p 1))))),(2,(.c (.i .i64 (CD (p 2))))),(3,(.c (.i .i64 (CD (p 3))))),(4,(.c (.i .i64 (CD (p 4)))))],
fun p=>.bslc 1 [(.i .u32 0)] 3 [(0,(.c (.i .u32 4294967295))),(1,(.c (.i .u32 200))),(2,(.c (.i .u32 3)))],
fun p=>.alc [(.i .i64 0),(.i .i64 0),(.b false),(.i .i64 0),(.i .u32 0),(.i .i64 0)],
fun p=>.build [(.i .i64 0),(.i .i64 0),(.b false),(.i .i64 0),(.i .u32 0),(.i .i64 0)] [(0,1,(.t (p 0))),(1,1,(.t (p 1))),(2,1,(.t (p 2))),(4,1,(.t (p 3)))],
fun p=>.bsl 6 [(.i .i64 0),(.i .i64 0),(.b false),(.i .i64 0),(.i .u32 0),(.i .i64 0)] 1 [(0,(.t (p 0)))],
fun p=>.call (.fn Um) [(.t (p 0)),(.t (p 1))],
fun p=>.call (.fn Un) [(.t (p 0)),(.t (p 1))],
fun p=>.call (.fn Zy) [(.t (p 0)),(.t (p 1)),(.t (p 2))],
fun p=>.call (.fn Ul) [(.t (p 0)),(.c (.i .i64 300))]]
def bBd:List ((Nat→Nat)→O):=[fun p=>.call (.fn Zz) [(.t (p 0))],
fun p=>.call (.fn ZA) [(.t (p 0))],
fun p=>.call (.fn ZB) [(.t (p 0))],
fun p=>.call (.fn ZD) [(.t (p 0))],
fun p=>.call (.fn ZE) [(.t (p 0))],
fun p=>.build [.ns,.ns,.ns,(.i .i64 0),.ns,.ns,.np,.ns,(.i .u32 0),(.i .u32 0),(.i .u32 0),(.i .u32 0),(.i .u32 0),(.i .u32 0),(.i .u32 0),(.i .u32 0),(.i .u32 0),(.i .u32 0),(.i .u32 0),(.i .u32 0),(.i .u32 0),(.i .u32 0),(.i .u32 0),(.i .u32 0),.np,(.i .i64 0)] [(0,3,(.t (p 0))),(3,1,(.t (p 1))),(4,1,(.t (p 2))),(5,1,(.t (p 3))),(24,1,(.t (p 4)))],
fun p=>.call (.fn Uo) [(.t (p 0))],
fun p=>.eq false .ifc (.t (p 0)) (.c .ni),
fun p=>.build [] [],
fun p=>.mkif 91 (.t (p 0)),
fun p=>.call (.fn ZG) [(.t (p 0)),(.t (p 1))],
fun p=>.build [(.i .i64 0),(.i .i64 0),(.i .i64 0),(.i .i64 0),(.i .i64 0),(.i .u32 0)] [(0,1,(.t (p 0))),(1,1,(.c (.i .i64 (-1))))],
fun p=>.build [(.i .i64 0),(.i .i64 0),(.i .i64 0),(.i .i64 0),(.i .i64 0),(.i .u32 0)] [(0,1,(.t (p 0))),(1,1,(.t (p 1))),(2,1,(.t (p 2)))],
fun p=>.call (.fn ZH) [(.t (p 0)),(.t (p 1))],
fun p=>.call (.fn Up) [(.t (p 0))],
fun p=>.call (.fn Uq) [(.t (p 0)),(.t (p 1)),(.t (p 2)),(.t (p 3)),(.t (p 4))],
fun p=>.call (.fn ZI) [(.t (p 0)),(.t (p 1)),(.t (p 2))],
fun p=>.call (.fn ZJ) [(.t (p 0))],
fun p=>.eq false (.agg [.i,.i,.i,.i,.i,.i,.i,.i,.i,.i,.i,.i,.i,.i,.i,.i]) (.t (p 0)) (.t (p 1)),
fun p=>.call (.fn ZK) [(.t (p 0)),(.t (p 1))],
fun p=>.call (.fn ZL) [(.t (p 0)),(.t (p 1))],
fun p=>.call (.fn Ur) [(.t (p 0)),(.t (p 1))],
fun p=>.build [(.i .i64 0),(.i .i64 0),(.i .i64 0),(.i .i64 0),(.i .i64 0)] [(0,1,(.c (.i .i64 (CD (p 0))))),(1,1,(.c (.i .i64 (CD (p 1))))),(2,1,(.c (.i .i64 (CD (p 2))))),(3,1,(.c (.i .i64 (CD (p 3))))),(4,1,(.c (.i .i64 (CD (p 4)))))],
fun p=>.build [(.s ⟨#[]⟩),(.i .i64 0),(.i .i64 0),(.b false),(.b false),.ns,(.i .i64 0),(.i .i64 0),(.i .i64 0),(.i .i64 0),(.i .i64 0)] [(0,1,(.c (.s ⟨#[97]⟩))),(5,1,(.t (p 0))),(6,5,(.t (p 1)))]]
def aZp:List ((Nat→Nat)→O):=[fun p=>.build [.ns,.ns,.ns] [(0,1,(.t (p 0))),(2,1,(.t (p 1)))],
fun p=>.bsl 1 [(.i .u8 0)] 12 [(0,(.c (.i .u8 1))),(1,(.c (.i .u8 1))),(2,(.c (.i .u8 0))),(3,(.c (.i .u8 7))),(4,(.c (.i .u8 5))),(5,(.c (.i .u8 2))),(6,(.c (.i .u8 1))),(7,(.c (.i .u8 3))),(8,(.c (.i .u8 11))),(9,(.c (.i .u8 0))),(10,(.c (.i .u8 1))),(11,(.c (.i .u8 0)))],
fun p=>.call (.fn SQ) [(.t (p 0)),(.c (.i .i64 (CD (p 1)))),(.t (p 2)),(.c .ns)],
fun p=>.build [.ns,.ns,.ns] [],
fun p=>.build [(.i .i64 0),(.i .i64 0),(.i .i64 0),(.i .i64 0),(.i .i64 0),(.i .u32 0)] [(3,1,(.c (.i .i64 (CD (p 0))))),(5,1,(.c (.i .u32 7)))],
fun p=>.build [(.i .i64 0),(.i .i64 0),(.i .i64 0),(.i .i64 0),(.i .i64 0),(.i .u32 0)] [(0,1,(.c (.i .i64 (CD (p 0))))),(2,1,(.c (.i .i64 (CD (p 1))))),(3,1,(.c (.i .i64 (CD (p 2))))),(4,1,(.c (.i .i64 (CD (p 3)))))],
fun p=>.build [(.i .i64 0),(.i .i64 0),(.i .i64 0),(.i .i64 0),(.i .i64 0),(.i .u32 0)] [(0,1,(.c (.i .i64 (CD (p 0))))),(2,1,(.c (.i .i64 (CD (p 1))))),(4,1,(.c (.i .i64 (CD (p 2)))))],
fun p=>.call (.fn MA) [(.t (p 0)),(.c (.i .i64 (CD (p 1))))],
fun p=>.idx 1 8 false (.t (p 0)) (.c (.i .i64 (CD (p 1)))),
fun p=>.bin .eql (.t (p 0)) (.c (.i .u32 7)),
fun p=>.call (.fn VX) [(.t (p 0)),(.c .np)],
fun p=>.bin .lss (.t (p 0)) (.c (.i .i64 400)),
fun p=>.bin .mul (.t (p 0)) (.c (.i .i64 (CD (p 1)))),
fun p=>.bin .mul (.t (p 0)) (.c (.i .i64 73)),
fun p=>.bin .rem (.t (p 0)) (.c (.i .i64 211)),
fun p=>.call (.fn Us) [(.t (p 0)),(.t (p 1)),(.t (p 2)),(.t (p 3))],
fun p=>.bin .lss (.t (p 0)) (.c (.i .i64 70)),
fun p=>.call (.fn sW) [(.t (p 0)),(.c (.i .i64 (CD (p 1)))),(.t (p 2))],
fun p=>.build [.np,(.i .i64 0)] [(0,1,(.t (p 0))),(1,1,(.t (p 1)))],
fun p=>.mkif 121 (.t (p 0)),
fun p=>.call (.fn SR) [(.t (p 0)),(.t (p 1))],
fun p=>.call (.fn ZO) [(.t (p 0)),(.t (p 1))],
fun p=>.eq true (.agg [.i,.i,.i,.i,.i,.i]) (.t (p 0)) (.t (p 1)),
fun p=>.call (.fn ZP) [(.t (p 0)),(.t (p 1))]]
def aZq:List ((Nat→Nat)→O):=[fun p=>.call (.fn O2) [(.t (p 0)),(.t (p 1))],
fun p=>.alloc [(.i .u32 0),(.i .u32 0),(.i .u32 0),(.i .u32 0),(.i .u32 0),(.i .u32 0),(.i .u32 0),(.i .u32 0),(.i .u32 0),(.i .u32 0),(.i .u32 0),(.i .u32 0),(.i .u32 0),(.i .u32 0),(.i .u32 0),(.i .u32 0)],
fun p=>.alloc [(.i .u32 0),(.i .u32 0),(.i .u32 0),(.i .u32 0),(.i .u32 0),(.i .u32 0),(.i .u32 0),(.i .u32 0)],
fun p=>.call (.fn sW) [(.t (p 0)),(.c (.i .i64 (CD (p 1)))),(.c (.i .i64 1073741824))],
fun p=>.call (.fn ZR) [(.t (p 0)),(.t (p 1)),(.c (.i .i64 (CD (p 2))))],
fun p=>.bin .gtr (.t (p 0)) (.c (.i .i64 90)),
fun p=>.build [(.i .i64 0),(.i .i64 0),(.i .i64 0)] [(0,1,(.c (.i .i64 (CD (p 0))))),(1,1,(.t (p 1))),(2,1,(.c (.i .i64 (CD (p 2)))))],
fun p=>.bsl 3 [(.i .i64 0),(.i .i64 0),(.i .i64 0)] 3 [(0,(.t (p 0))),(1,(.t (p 1))),(2,(.t (p 2)))],
fun p=>.mn [(.t (p 0)),(.c (.i .i64 4096))],
fun p=>.mv (.c (.i .i64 4096)),
fun p=>.call (.fn ZX) [(.t (p 0))],
fun p=>.bslc 1 [(.i .i64 0)] 5 [(0,(.c (.i .i64 (CD (p 0))))),(1,(.c (.i .i64 (CD (p 1))))),(2,(.c (.i .i64 (CD (p 2))))),(3,(.c (.i .i64 (CD (p 3))))),(4,(.c (.i .i64 200)))],
fun p=>.chkb 1 [(.i .i64 0)] 5 [(0,(.c (.i .i64 (CD (p 0))))),(1,(.c (.i .i64 (CD (p 1))))),(2,(.c (.i .i64 (CD (p 2))))),(3,(.c (.i .i64 (CD (p 3))))),(4,(.c (.i .i64 200)))] (.t (p 4)),
fun p=>.bsl 1 [(.i .u8 0)] 4 [(0,(.t (p 0))),(1,(.t (p 1))),(2,(.t (p 2))),(3,(.t (p 3)))],
fun p=>.bsl 1 [(.i .u8 0)] 4 [(0,(.c (.i .u8 8))),(1,(.c (.i .u8 0))),(2,(.c (.i .u8 0))),(3,(.c (.i .u8 0)))],
fun p=>.call (.fn Uv) [(.t (p 0))],
fun p=>.call (.fn ZY) [(.t (p 0))],
fun p=>.call (.fn Uw) [(.t (p 0))],
fun p=>.call (.fn Ux) [(.t (p 0))],
fun p=>.call (.fn ZZ) [(.t (p 0))],
fun p=>.call (.fn Uy) [(.t (p 0))],
fun p=>.build [(.i .i64 0),(.i .i64 0),(.i .i64 0),(.i .i64 0),(.i .i64 0),.ns,(.b false)] [(0,5,(.t (p 0)))],
fun p=>.build [.ns] [],
fun p=>.build [(.i .i64 0),(.i .i64 0),(.b false)] [(0,1,(.t (p 0)))]]
def aZr:List ((Nat→Nat)→O):=[fun p=>.bsl 3 [(.i .i64 0),(.i .i64 0),(.b false)] 1 [(0,(.t (p 0)))],
fun p=>.call (.fn UA) [(.t (p 0))],
fun p=>.build [(.i .u32 0),(.i .u32 0),(.i .u32 0),(.i .u32 0),(.i .u32 0),(.i .u32 0),(.i .u32 0),(.i .u32 0),(.i .i64 0)] [(8,1,(.t (p 0)))],
fun p=>.bsl 9 [(.i .u32 0),(.i .u32 0),(.i .u32 0),(.i .u32 0),(.i .u32 0),(.i .u32 0),(.i .u32 0),(.i .u32 0),(.i .i64 0)] 1 [(0,(.t (p 0)))],
fun p=>.app 9 (.t (p 0)) (.t (p 1)),
fun p=>.build [.ns,.ns] [(1,1,(.t (p 0)))],
fun p=>.alloc [(.i .i64 0),(.i .i64 0),(.b false)],
fun p=>.call (.fn O3) [(.t (p 0)),(.t (p 1))],
fun p=>.call (.fn UB) [(.t (p 0))],
fun p=>.call (.fn Z0) [(.t (p 0))],
fun p=>.call (.fn Z2) [(.t (p 0))],
fun p=>.call (.fn UD) [(.t (p 0)),(.t (p 1)),(.t (p 2)),(.t (p 3))],
fun p=>.call (.fn Z3) [(.t (p 0)),(.t (p 1)),(.t (p 2))],
fun p=>.call (.fn UF) [(.t (p 0)),(.t (p 1)),(.t (p 2))],
fun p=>.call (.fn UG) [(.t (p 0)),(.t (p 1))],
fun p=>.call (.fn UH) [(.t (p 0)),(.t (p 1)),(.t (p 2)),(.t (p 3))],
fun p=>.call (.fn Z4) [(.t (p 0)),(.t (p 1)),(.t (p 2)),(.t (p 3))],
fun p=>.eq true (.agg [.i,.i,.i,.i,.i,.i,.i,.i,.i]) (.t (p 0)) (.t (p 1)),
fun p=>.call (.fn Z5) [(.t (p 0)),(.t (p 1))],
fun p=>.eq true (.agg [.i,.i,.i]) (.t (p 0)) (.t (p 1)),
fun p=>.call (.fn UI) [(.t (p 0))],
fun p=>.mksl [.ns] (.t (p 0)) (.t (p 1)),
fun p=>.build [.ns,.ns] [(0,1,(.t (p 0))),(1,1,(.t (p 1)))],
fun p=>.build [.ns,.ns,.ns,(.i .i64 0),.ns,.ns,.ns,(.i .u32 0),(.i .u32 0),(.i .u32 0),(.i .u32 0),(.i .u32 0),(.i .u32 0),(.i .u32 0),(.i .u32 0),(.i .u32 0),(.i .u32 0),(.i .u32 0),(.i .u32 0),(.i .u32 0),(.i .u32 0),(.i .u32 0),(.i .u32 0),(.i .i64 0),.ns,(.b false)] [(0,3,(.t (p 0))),(3,1,(.t (p 1))),(4,1,(.t (p 2))),(5,1,(.t (p 3)))]]
def aZs:List ((Nat→Nat)→O):=[fun p=>.mv (.c (.i .u32 1)),
fun p=>.slice 1 (.t (p 0)) (some (.c (.i .i64 (CD (p 1))))) none none,
fun p=>.call (.fn Z7) [(.t (p 0))],
fun p=>.build [(.i .i64 0),(.i .i64 0),(.i .i64 0),(.i .i64 0),(.i .i64 0),(.i .u32 0)] [(0,1,(.t (p 0))),(1,1,(.t (p 1)))],
fun p=>.call (.fn Z8) [(.t (p 0)),(.t (p 1))],
fun p=>.call (.fn UJ) [(.t (p 0))],
fun p=>.call (.fn UK) [(.t (p 0)),(.t (p 1)),(.t (p 2)),(.t (p 3))],
fun p=>.call (.fn Z9) [(.t (p 0)),(.t (p 1))],
fun p=>.call (.fn Kp) [(.t (p 0))],
fun p=>.eq true (.agg [.i,.i,.i,.i,.i,.i,.i,.i,.i,.i,.i,.i,.i,.i,.i,.i]) (.t (p 0)) (.t (p 1)),
fun p=>.call (.fn aA) [(.t (p 0)),(.t (p 1))],
fun p=>.eq true (.agg [.i,.i,.i,.i,.i,.i,.i,.i]) (.t (p 0)) (.t (p 1)),
fun p=>.call (.fn MA) [(.t (p 0)),(.c (.i .i64 (-1)))],
fun p=>.build [(.i .i64 0),(.i .i64 0),(.i .i64 0)] [(0,1,(.c (.i .i64 (CD (p 0))))),(1,1,(.t (p 1))),(2,1,(.t (p 2)))],
fun p=>.call (.fn aB) [(.t (p 0))],
fun p=>.call (.fn aD) [(.t (p 0))],
fun p=>.call (.fn aC) [(.t (p 0))],
fun p=>.slice 1 (.t (p 0)) (some (.t (p 1))) (some (.t (p 2))) none,
fun p=>.call (.fn aG) [(.t (p 0))],
fun p=>.call (.fn aH) [(.t (p 0))],
fun p=>.slice 11 (.t (p 0)) none (some (.t (p 1))) none,
fun p=>.mkfn (.func aJ) [] [(.t (p 0))],
fun p=>.call (.fn aI) [(.t (p 0)),(.t (p 1))],
fun p=>.call (.fn aK) [(.t (p 0))]]
def aZt:List ((Nat→Nat)→O):=[fun p=>.call (.fn aL) [(.t (p 0)),(.t (p 1))],
fun p=>.call (.fn UL) [(.t (p 0)),(.t (p 1))],
fun p=>.slice 6 (.t (p 0)) none (some (.t (p 1))) (some (.t (p 2))),
fun p=>.slice 3 (.t (p 0)) none (some (.t (p 1))) (some (.t (p 2))),
fun p=>.store 1 (.t (p 0)) (.c (.b false)),
fun p=>.inv (.t (p 0)) "Push" [(.t (p 1))],
fun p=>.call (.fn UM) [(.t (p 0)),(.t (p 1))],
fun p=>.inv (.t (p 0)) "Swap" [(.c (.i .i64 (CD (p 1)))),(.t (p 2))],
fun p=>.call (.fn aM) [(.t (p 0)),(.c (.i .i64 (CD (p 1)))),(.t (p 2))],
fun p=>.inv (.t (p 0)) "Pop" [],
fun p=>.bin .leq (.t (p 0)) (.c (.i .i64 255)),
fun p=>.bin .geq (.t (p 0)) (.c (.i .u64 16)),
fun p=>.bin .mul (.t (p 0)) (.c (.i .u32 256)),
fun p=>.mkfn (.method "Change") [(.t (p 0))] [],
fun p=>.inv (.t (p 0)) "Change" [(.t (p 1))],
fun p=>.inv (.t (p 0)) "StopAll" [],
fun p=>.call (.fn aO) [(.t (p 0)),(.t (p 1)),(.t (p 2))],
fun p=>.inv (.t (p 0)) "Send" [(.t (p 1)),(.t (p 2))],
fun p=>.inv (.t (p 0)) "Recv" [(.t (p 1))],
fun p=>.bin .neq (.t (p 0)) (.c (.i .u32 2)),
fun p=>.call (.fn aP) [(.t (p 0)),(.t (p 1))],
fun p=>.eq true (.agg [.i,.i,.b]) (.t (p 0)) (.t (p 1)),
fun p=>.call (.fn aQ) [(.t (p 0))],
fun p=>.build [(.i .i64 0),(.i .u32 0),(.i .u32 0),(.i .u32 0),(.i .u32 0),(.i .u32 0),(.i .u32 0),(.i .u32 0),(.i .u32 0),(.i .i64 0),(.b false)] [(0,1,(.t (p 0)))]]
def aZu:List ((Nat→Nat)→O):=[fun p=>.bsl 11 [(.i .i64 0),(.i .u32 0),(.i .u32 0),(.i .u32 0),(.i .u32 0),(.i .u32 0),(.i .u32 0),(.i .u32 0),(.i .u32 0),(.i .i64 0),(.b false)] 1 [(0,(.t (p 0)))],
fun p=>.alloc [(.i .i64 0),(.i .u32 0),(.i .u32 0),(.i .u32 0),(.i .u32 0),(.i .u32 0),(.i .u32 0),(.i .u32 0),(.i .u32 0),(.i .i64 0),(.b false)],
fun p=>.bsl 1 [(.i .i64 0)] 3 [(0,(.t (p 0))),(1,(.t (p 1))),(2,(.t (p 2)))],
fun p=>.call (.fn aS) [(.t (p 0)),(.t (p 1)),(.t (p 2)),(.t (p 3))],
fun p=>.call (.fn Ku) [(.t (p 0))],
fun p=>.call (.fn R9) [(.t (p 0)),(.c (.i .i64 (CD (p 1)))),(.c .ns)],
fun p=>.bin .lss (.t (p 0)) (.c (.i .i64 8192)),
fun p=>.call (.fn Sa) [(.t (p 0))],
fun p=>.call (.fn Sb) [(.t (p 0))],
fun p=>.call (.fn Sc) [(.t (p 0)),(.t (p 1))],
fun p=>.call (.fn Sd) [(.t (p 0)),(.t (p 1))],
fun p=>.bin .geq (.t (p 0)) (.c (.i .u8 97)),
fun p=>.bin .leq (.t (p 0)) (.c (.i .u8 122)),
fun p=>.bin .lss (.t (p 0)) (.c (.i .u8 48)),
fun p=>.bin .gtr (.t (p 0)) (.c (.i .u8 57)),
fun p=>.bin .neq (.t (p 0)) (.c (.i .u8 95)),
fun p=>.call (.fn Se) [(.t (p 0)),(.t (p 1))],
fun p=>.call (.fn IC) [(.t (p 0))],
fun p=>.call (.fn Sf) [(.t (p 0)),(.c (.i .i64 4096))],
fun p=>.call (.fn Sg) [(.t (p 0))],
fun p=>.mkfn (.func Sj) [] [(.t (p 0))],
fun p=>.call (.fn Si) [(.t (p 0)),(.t (p 1))],
fun p=>.call (.fn NC) [(.t (p 0)),(.t (p 1))],
fun p=>.bin .quo (.t (p 0)) (.c (.i .i64 (CD (p 1))))]
def aZv:List ((Nat→Nat)→O):=[fun p=>.bin .mul (.c (.i .i64 256)) (.t (p 0)),
fun p=>.call (.fn ND) [(.t (p 0)),(.t (p 1)),(.t (p 2))],
fun p=>.call (.fn NE) [(.t (p 0)),(.t (p 1))],
fun p=>.call (.fn Km) [(.t (p 0)),(.c (.i .i64 (CD (p 1))))],
fun p=>.call (.fn Ko) [(.t (p 0)),(.c (.i .i64 (CD (p 1))))],
fun p=>.call (.fn Sk) [(.t (p 0)),(.c (.i .i64 (CD (p 1))))],
fun p=>.build [(.i .i64 0),(.i .i64 0)] [(0,1,(.c (.i .i64 (-1)))),(1,1,(.t (p 0)))],
fun p=>.bin .geq (.t (p 0)) (.c (.i .u8 48)),
fun p=>.bin .leq (.t (p 0)) (.c (.i .u8 57)),
fun p=>.bin .eql (.t (p 0)) (.c (.i .u8 95)),
fun p=>.bin .lss (.t (p 0)) (.c (.i .u8 97)),
fun p=>.bin .gtr (.t (p 0)) (.c (.i .u8 122)),
fun p=>.bin .geq (.t (p 0)) (.c (.i .i64 512)),
fun p=>.call (.fn Sf) [(.t (p 0)),(.c (.i .i64 511))],
fun p=>.call (.fn Sf) [(.t (p 0)),(.c (.i .i64 255))],
fun p=>.call (.fn Hd) [(.t (p 0))],
fun p=>.call (.fn So) [(.t (p 0))],
fun p=>.call (.fn Sp) [(.t (p 0))],
fun p=>.call (.fn Sq) [(.t (p 0)),(.t (p 1))],
fun p=>.call (.fn Sr) [(.t (p 0)),(.t (p 1)),(.t (p 2))],
fun p=>.bin .eql (.t (p 0)) (.c (.i .i64 (-1))),
fun p=>.call (.fn Ss) [(.t (p 0)),(.t (p 1)),(.t (p 2))],
fun p=>.call (.fn St) [(.t (p 0))],
fun p=>.call (.fn Ko) [(.t (p 0)),(.t (p 1))]]
def aZw:List ((Nat→Nat)→O):=[fun p=>.call (.fn Sk) [(.t (p 0)),(.t (p 1))],
fun p=>.call (.fn Su) [(.t (p 0))],
fun p=>.call (.fn NF) [(.t (p 0))],
fun p=>.build [.ns,.ns,(.i .i64 0),(.i .i64 0),(.i .i64 0)] [(0,1,(.t (p 0)))],
fun p=>.call (.fn Sw) [(.t (p 0))],
fun p=>.call (.fn NG) [(.t (p 0))],
fun p=>.call (.fn Sx) [(.t (p 0))],
fun p=>.call (.fn Sz) [(.t (p 0))],
fun p=>.call (.fn SC) [(.t (p 0)),(.t (p 1)),(.t (p 2))],
fun p=>.call (.fn Kq) [(.t (p 0)),(.c (.i .i64 (CD (p 1))))],
fun p=>.call (.fn SF) [(.t (p 0)),(.c (.i .i64 (CD (p 1))))],
fun p=>.call (.fn SF) [(.t (p 0)),(.t (p 1))],
fun p=>.slice 2 (.t (p 0)) none (some (.t (p 1))) none,
fun p=>.iad 2 (.t (p 0)) (.c (.i .i64 (CD (p 1)))),
fun p=>.build [(.i .i64 0),(.i .i64 0),(.i .i64 0),(.i .i64 0),(.i .i64 0),(.i .i64 0)] [(3,1,(.c (.i .i64 (CD (p 0)))))],
fun p=>.alloc [(.i .i64 0),(.i .i64 0),(.i .i64 0)],
fun p=>.build [(.i .i64 0),(.i .i64 0),(.i .i64 0),(.i .i64 0),(.i .i64 0),(.i .i64 0)] [(0,3,(.t (p 0))),(3,1,(.t (p 1)))],
fun p=>.alloc [(.i .i64 0),(.i .i64 0),(.i .i64 0),(.i .i64 0),(.i .i64 0),(.i .i64 0)],
fun p=>.slice 6 (.t (p 0)) none (some (.t (p 1))) none,
fun p=>.call (.fn SH) [(.t (p 0)),(.t (p 1))],
fun p=>.call (.fn SI) [(.t (p 0)),(.t (p 1))],
fun p=>.call (.fn SN) [(.t (p 0))]]
def bBe:Nat→List ((Nat→Nat)→O)
 | 0=>bA4
 | 1=>bA5
 | 2=>bA6
 | 3=>bA7
 | 4=>bA8
 | 5=>bA9
 | 6=>bBa
 | 7=>bBb
 | 8=>bBc
 | 9=>bBd
 | 10=>aZp
 | 11=>aZq
 | 12=>aZr
 | 13=>aZs
 | 14=>aZt
 | 15=>aZu
 | 16=>aZv
 | _=>aZw
def shp (s:Nat) (p:Nat→Nat):O:=xgt (fun _=>.e0) (bBe (s / 24)) (s % 24) p
def nps:List Nat:=[1,2,1,1,1,1,2,2,0,2,2,2,2,1,2,2,0,1,0,2,2,2,2,1,1,1,2,0,2,2,2,2,2,2,2,1,2,2,2,2,1,0,0,1,2,1,2,0,2,1,0,2,2,2,1,2,0,2,2,1,1,2,0,2,2,2,1,2,0,1,2,2,1,2,1,2,0,2,2,2,2,1,1,1,0,2,1,1,2,1,0,1,1,1,1,3,2,2,1,0,2,1,1,0,2,1,2,1,1,1,2,1,2,2,2,2,0,1,2,2,1,1,2,1,2,1,1,3,2,1,2,2,2,1,1,1,0,1,2,0,2,1,1,2,4,2,2,1,1,3,2,3,1,0,1,1,1,2,0,4,1,1,0,2,2,3,1,2,1,3,1,0,1,3,1,1,1,1,0,2,2,3,1,3,2,1,2,1,2,1,1,1,1,2,2,1,1,1,1,2,5,0,1,1,1,1,3,5,0,0,4,1,2,2,3,1,1,1,1,1,1,5,1,1,0,1,2,1,3,2,1,5,3,1,2,2,2,2,5,2,2,0,3,0,1,4,3,2,2,1,1,1,2,1,1,4,1,3,2,1,2,2,2,2,2,0,0,2,3,1,3,3,1,0,1,4,5,4,0,1,1,1,1,1,1,1,0,1,1,1,1,1,2,1,0,2,1,1,1,4,3,3,2,4,4,2,2,2,1,2,2,4,0,2,1,2,2,1,4,2,1,2,2,2,1,3,1,1,1,3,1,1,2,1,2,1,2,2,3,3,1,2,2,3,3,1,1,1,1,1,2,1,3,3,2,1,2,2,1,1,1,0,3,4,1,2,1,1,1,2,2,1,1,1,1,1,2,1,1,1,1,2,2,2,1,3,2,2,2,2,1,1,1,1,1,1,1,1,1,1,1,1,2,3,1,3,1,2,2,1,1,1,1,1,1,1,3,2,2,2,2,2,1,0,2,0,2,2,2,1]
abbrev Rs:=List TO×List (Bool×List TO)
abbrev Rc:=Nat→Nat→Nat→Bool→Rs
def aOq (s:Nat) (d:Option Nat) (g:Option (Nat×Bool)) (l:List Nat) (r:Rs):Rs:=(⟨d,shp s (fun i=>xgt 0 l i),g⟩::r.1,r.2)
def zS (R:Nat) (rc:Nat→List Nat→Rs):Nat→Nat→List Nat→Rs
 | 0,n,l=>rc n l
 | f+1,n,l=>zS R rc f (n / R) (n % R::l)
def zR (R s:Nat) (rc:Rc) (g:Option (Nat×Bool)) (gn:Nat) (gb:Bool) (p:Nat):Nat→Nat→Rs
 | 0,n=>zS R (fun n l=>aOq s (some (p+1)) g l (rc n (p+1) gn gb)) (xgt 0 nps s) n []
 | 1,n=>zS R (fun m l=>aOq s (some (n % R)) g l (rc m (n % R) gn gb)) (xgt 0 nps s) (n / R) []
 | _+2,n=>zS R (fun n l=>aOq s none g l (rc n p gn gb)) (xgt 0 nps s) n []
def bA3 (R s:Nat) (rc:Rc) (p gn:Nat) (gb:Bool):Nat→Nat→Rs
 | 0,n=>zR R s rc none gn gb p (n % 3) (n / 3)
 | 1,n=>zR R s rc (some (n % R,true)) (n % R) true p (n / R % 3) (n / R / 3)
 | 2,n=>zR R s rc (some (n % R,false)) (n % R) false p (n / R % 3) (n / R / 3)
 | _+3,n=>zR R s rc (some (gn,gb)) gn gb p (n % 3) (n / 3)
def aZo (b:Bool) (r:Rs):Rs:=([],(b,r.1)::r.2)
def bBf (R:Nat) (rc:Rc) (p gn:Nat) (gb:Bool):Nat→Nat→Rs
 | 0,_=>([],[])
 | 1,n=>aZo true (rc n p gn gb)
 | 2,n=>aZo false (rc n p gn gb)
 | s+3,n=>bA3 R s rc p gn gb (n % 4) (n / 4)
def aOp (R:Nat):Nat→Rc
 | 0=>fun _ _ _ _=>([],[])
 | f+1=>fun n p gn gb=>bBf R (aOp R f) p gn gb (n % 433) (n / 433)
def aZn (n:Nat):Nat:=xgt 0 [32,64,128,512] (n % 4)
@[go_sem ↓] def k (n:Nat) {l:List TO} (h:(aOp (aZn n) 400 (n / 4) 511 0 true).1=l:=by conv=>lhs;cbv):List TO:=l
@[go_sem ↓] def kd (n:Nat) {l:List (Bool×List TO)} (h:(aOp (aZn n) 400 (n / 4) 511 0 true).2=l:=by conv=>lhs;cbv):List (Bool×List TO):=l
/-! horarium/horariumlaw19.PartNumbers -/
@[go_sem] def aZB:=k 0x1b3c
@[go_sem] def aZC:=k 0x6c5c
@[go_sem] def aZD:=k 0x9b78f3683c
@[go_sem] def aZE:=k 0x2af215da2d2b5e293442d6cfc
@[go_sem] def aZF:=k 0x484d4a76cd8a48f197bc
@[go_sem] def aZG:=k 0x1e1d5a89d48468767cb80ffa1c
@[go_sem] def bK1:=k 0x7c86ae06c447c93b0
@[go_sem] def bK2:=k 0x1cc50498
@[go_sem] def bK3:=k 0x4dc791e53b9c
@[go_sem] def bK4:=kd 0x139b401dce1c751dd17cd6328db7a592c3b0de11bbf30159feb7e61d68d0b28e2b0b2a8dec5afc369f6fdbeaa7b6153f220ad
@[go_sem] def bIs:=k 0x1b3c
@[go_sem] def bIt:=k 0x11708b527040a49
def bAL:TC:=(.seq (.reg bK2) (.seq (.cond (.t 23) .skip (.exit 2)) (.seq (.block 3 (.seq (.reg bK3) (.seq (.dreg bK4) (.cond (.t 42) (.seq (.reg bIs) .ret) .skip)))) (.reg bIt))))
@[go_sem] def bIu:=k 0x93a951f3e61254a9c
def bCM:TC:=(.seq (.seq (.reg aZD) (.cond (.t 7) .skip (.exit 0))) (.seq (.block 1 (.seq (.reg aZE) (.seq (.reg aZF) (.seq (.reg aZG) (.seq (.reg bK1) (.block 2 (.loop bAL))))))) (.reg bIu)))
@[go_sem] def bIv:=k 0x11b421cd2681
def eK:TF:=⟨45,[.t 0],(.seq (.reg aZB) (.seq (.seq (.reg aZC) (.block 0 (.loop bCM))) (.seq (.reg bIv) .ret)))⟩
/-! (*horarium/horariumkeep.Tape).Config -/
@[go_sem] def aZH:=k 0xbe74
@[go_sem] def aZI:=k 0x10fa4
@[go_sem] def aZJ:=k 0x4e63e30e0148915daba3a8c
@[go_sem] def aZK:=k 0x1b11c
@[go_sem] def aZL:=k 0x86fcf47036ea2c1c
@[go_sem] def aZM:=k 0xb5f3152af173fca697a484d56a9301841c85318cb03b7b802ce940d7e7d6b97f0c5c2517400d
@[go_sem] def aZN:=k 0x45a435e6cafbe1a924d
@[go_sem] def aZO:=k 0x3852c081f48ad
@[go_sem] def aZP:=kd 0x5af83c3ed9a7bd1b348cbcd65807c8340fddd197068486cdd576591838c40e385a3e962d29ebbec4452d6871c7d7a43ae75
@[go_sem] def aZQ:=k 0x4dce9a09e465adfeb0d
def Xw:TC:=(.seq (.seq (.reg aZO) (.cond (.t 36) .skip (.exit 2))) (.seq (.block 3 (.dreg aZP)) (.reg aZQ)))
@[go_sem] def aPE:=k 0xff68d
@[go_sem] def aPF:=k 0xfe2bc3e9
@[go_sem] def aPG:=k 0x53e3ba8ec70dd
@[go_sem] def aPH:=k 0x818e7741b4960e2f27855517c93f43128ead166549bd72a79f9ed4a0d
@[go_sem] def aPI:=k 0x18db6fdb11dbfa9
def Xx:TC:=(.seq (.reg aPF) (.seq (.cond (.t 51) .skip (.exit 4)) (.seq (.block 5 (.seq (.reg aPG) (.reg aPH))) (.reg aPI))))
@[go_sem] def aPJ:=k 0xb279109bd4d199c4e8bb7924c37de9b347e2e8d8cc2
@[go_sem] def aPK:=k 0x1495887a8a51b15fac
def Xy:TC:=(.seq (.seq (.reg aZL) (.cond (.t 18) .skip (.exit 0))) (.seq (.block 1 (.seq (.reg aZM) (.seq (.seq (.reg aZN) (.block 2 (.loop Xw))) (.seq (.seq (.reg aPE) (.block 4 (.loop Xx))) (.reg aPJ))))) (.reg aPK)))
@[go_sem] def aPL:=k 0x11a02b59a79dce175abde
@[go_sem] def aPM:=k 0x12e74868c5238c2bc9e582a93122073acefa63e
@[go_sem] def aPN:=k 0xcf6107b6d58783041c73cd7be
@[go_sem] def aPO:=kd 0x769883c56d13803467b5545045598af1e84923813f271f147f46cf0799cbb533594f421788cc1e55eeaf0fe6f0aea04985317e6946f7f2a9cfd21bb9495bb84a0c8476d73b52fe65d5a2e6eba19e3c6794256a2442937fd677fcb92
@[go_sem] def aPP:=k 0x50765b087659e2
@[go_sem] def aPQ:=k 0x2b73d4d218eb34ef9d499269d87af0743e
@[go_sem] def aPR:=k 0x127aef89b64014f6d7b0ae0e0c10c0c2305aa2e78102
@[go_sem] def aPS:=k 0x13aac4613a4e3169d8d5e
def Xz:TC:=(.seq (.seq (.reg aPM) (.cond (.t 75) .skip (.exit 6))) (.seq (.block 7 (.seq (.reg aPN) (.seq (.dreg aPO) (.seq (.seq (.reg aPP) (.cond (.t 101) (.reg aPQ) .skip)) (.reg aPR))))) (.reg aPS)))
@[go_sem] def aPT:=k 0x1cdbfcf6153e55463a01e
@[go_sem] def aPU:=k 0x5bb9e8c423627e
@[go_sem] def aPV:=kd 0x1f15ef62a5f853e24e2eca011a9219cac6949f76276d26bef35b8cd6854662d3de2da8d0b46
@[go_sem] def aPW:=k 0x1de14979dea36572404de
def XA:TC:=(.seq (.seq (.reg aPU) (.cond (.t 115) .skip (.exit 8))) (.seq (.block 9 (.dreg aPV)) (.reg aPW)))
@[go_sem] def aPX:=k 0x5d480dcc0315b270c3736a810bf
def eL:TF:=⟨129,[.cell 2 3 true],(.seq (.reg aZH) (.seq (.reg aZI) (.seq (.reg aZJ) (.seq (.seq (.reg aZK) (.block 0 (.loop Xy))) (.seq (.seq (.reg aPL) (.block 6 (.loop Xz))) (.seq (.seq (.reg aPT) (.block 8 (.loop XA))) (.seq (.reg aPX) .ret)))))))⟩
/-! (*horarium/horariumkeep.Tape).Script -/
@[go_sem] def aZR:=k 0x8682b4e0
@[go_sem] def aZS:=k 0x1b2a8
@[go_sem] def aZT:=k 0x776c2d71e213967d0
@[go_sem] def aZU:=k 0xfacdcb8
@[go_sem] def aZV:=k 0x2db20da593bc
@[go_sem] def aZW:=kd 0x1daf9c9871a899449436237237ecc134e66df8fd23d597c07df7ca0ae32a19259cbd0ff4
@[go_sem] def aZX:=k 0x253b4
@[go_sem] def aZY:=k 0x19c8864acf49adb79c
@[go_sem] def aZZ:=k 0x53ae355049fc
@[go_sem] def aZ0:=k 0xb9a1b3641a252b67828e99c532a52cdd0b2bd
@[go_sem] def aQU:=k 0x1dddb8641dc72bac5c
def Mm:TC:=(.seq (.seq (.reg aZZ) (.cond (.t 27) .skip (.exit 2))) (.seq (.block 3 (.reg aZ0)) (.reg aQU)))
@[go_sem] def aQV:=k 0xdc1a9981056fe491ce116886651a870ce14401e1
@[go_sem] def aQW:=k 0x10f97609a45b919
def zZ:TC:=(.seq (.reg aZU) (.seq (.cond (.t 13) .skip (.exit 0)) (.seq (.block 1 (.seq (.reg aZV) (.seq (.dreg aZW) (.seq (.reg aZX) (.seq (.seq (.reg aZY) (.block 2 (.loop Mm))) (.reg aQV)))))) (.reg aQW))))
@[go_sem] def aQX:=k 0x788f9ec33ab9
def eM:TF:=⟨44,[.cell 4 2 true],(.seq (.reg aZR) (.seq (.reg aZS) (.seq (.seq (.reg aZT) (.block 0 (.loop zZ))) (.seq (.reg aQX) .ret))))⟩
/-! horarium/horariumbook.Within -/
@[go_sem] def aZ1:=k 0x2024c
@[go_sem] def aZ2:=k 0x117254af31599a6e481e73dcfc8c457a192a99936c
@[go_sem] def aZ3:=k 0x30e9fa4c1cec
@[go_sem] def aZ4:=k 0xde2431469bfc1f4c44ffcc2955e4e5f856e1c
@[go_sem] def aZ5:=k 0x46ce779c953c
@[go_sem] def aZ6:=k 0x132b982519861ab2b0cb23501ab6ba48c7f79c
@[go_sem] def aZ7:=k 0x14c7f415485f41974856eabd
def eO:TF:=⟨33,[.t 6],(.seq (.reg aZ1) (.seq (.seq (.reg aZ2) (.cond (.t 14) (.seq (.reg aZ3) .ret) .skip)) (.seq (.reg aZ4) (.seq (.seq (.reg aZ5) (.cond (.t 23) (.reg aZ6) .skip)) (.seq (.reg aZ7) .ret)))))⟩
/-! horarium/part.New -/
@[go_sem] def aZ8:=k 0xd6db44a010
@[go_sem] def aZ9:=k 0x1ee4eb6e43bb87993d57b815037cc37836cbcd544190b6ee5d2a6610ec4bd2c551a361f58
@[go_sem] def bAa:=k 0x2a57c
@[go_sem] def bAb:=kd 0xa87614505dedbead81775752fe4aaf1962214c312430cf045a5bbe24bbefc58b9fb63206f394d98b1320c852db16f4fb5b299cb9a530d45a7d
@[go_sem] def bAc:=k 0xb82795f5b40dfa4f01a1896ab548f343a652c805b0bf73f4eace4ba0bb5d
@[go_sem] def bAd:=k 0x15bc3d9de73d
@[go_sem] def bAe:=k 0x5a53949ad899d
def Oh:TF:=⟨57,[.t 8],(.seq (.reg aZ8) (.seq (.seq (.reg aZ9) (.cond (.t 23) (.seq (.reg bAa) .ret) .skip)) (.seq (.dreg bAb) (.seq (.reg bAc) (.seq (.reg bAd) (.seq (.reg bAe) .ret))))))⟩
/-! (*horarium/part.Part).Tick -/
@[go_sem] def bAf:=k 0x7102a4
@[go_sem] def bAg:=k 0x11ba415982c
@[go_sem] def bAh:=k 0x15c89ddf69492ac
@[go_sem] def bAi:=k 0x169967e31bc
@[go_sem] def bAj:=k 0x4593e556e0e899c
@[go_sem] def bAk:=k 0x8b461b535767633c7b6a04507c
@[go_sem] def bAl:=k 0x3057219a6a87d3b5f77eb65b716708e285fda9953c
@[go_sem] def bAm:=k 0x2d16179cdd02d1c9499c721d75df901a60f4d8d
@[go_sem] def bAn:=k 0x3852bb6ef48ad
@[go_sem] def bAo:=k 0xdd3898cff0e52b54b9f0d
@[go_sem] def aTQ:=k 0xc157450958cf02e2989f5cc498495b7fcc078e57ab025bffab19d7f39a25b53a3b416d
@[go_sem] def aTR:=kd 0x18918cd8503ada985e951758871069587a3da643fdb55c9b1d531cdf492c518c05ba55684739f1
@[go_sem] def aTS:=k 0xa30d528ab64023ee3f489ce61
@[go_sem] def aTT:=k 0x2cbd9a0c7484401513e
@[go_sem] def aTU:=k 0x236957d73c90c3a2
@[go_sem] def aTV:=k 0x1e01b08b7f937bfde955feb2
@[go_sem] def aTW:=k 0x256b7e0ff4925992
@[go_sem] def aTX:=k 0x27ebc7c18972aa5738740b1b2598a7a00a929948825d7f387dbae4ba4e4544c77474c15ee
@[go_sem] def aTY:=k 0x3a4628900514ffddbbdec079b2ebd80ba64fb9b8af75f0c953d8570e5afdaa8f4b431cdc192f167e42e
@[go_sem] def aTZ:=k 0x183dda41ce9bb8092aac2
@[go_sem] def aT0:=k 0x4e9b15a6df9e52
@[go_sem] def aT1:=k 0xffcd4a6439ebf4ef695632f7e
@[go_sem] def aT2:=k 0x2b98d62f5ef22134de
def Tq:TF:=⟨103,[.cell 4 6 true,.t 5],(.seq (.reg bAf) (.seq (.seq (.reg bAg) (.cond (.t 12) (.seq (.reg bAh) .ret) .skip)) (.seq (.seq (.reg bAi) (.cond (.t 15) (.reg bAj) .skip)) (.seq (.reg bAk) (.seq (.reg bAl) (.seq (.reg bAm) (.seq (.seq (.reg bAn) (.cond (.t 36) (.seq (.reg bAo) .ret) .skip)) (.seq (.reg aTQ) (.seq (.dreg aTR) (.seq (.reg aTS) (.seq (.block 0 (.seq (.reg aTT) (.cond (.t 85) (.reg aTU) (.seq (.reg aTV) (.cond (.t 89) (.reg aTW) (.seq (.reg aTX) (.reg aTY))))))) (.seq (.seq (.reg aTZ) (.cond (.t 96) (.seq (.reg aT0) (.reg aT1)) .skip)) (.seq (.reg aT2) .ret)))))))))))))⟩
/-! (*horarium/part.Part).Stopped -/
@[go_sem] def bAp:=k 0xbd9c
@[go_sem] def bAq:=k 0x75e6797796093b555facf710588eac
def Tr:TF:=⟨8,[.t 2],(.seq (.reg bAp) (.seq (.reg bAq) .ret))⟩
/-! (*horarium/part.Part).Same -/
@[go_sem] def bAr:=k 0x15ffc
@[go_sem] def bAs:=kd 0x33be6b97330af363158849f3745f5172ddcf4a63bdd8ad63a684db43da61433839588bcd04a8563661f00b72d1e8d3193b44748cf182567378dc96b142d980a174144f1b13a6eec09ad4e8401e08b3f4f86634d26e14d0125c3636cf974abc7406ac79356e8030c7d3fde9df11a9474937912bf5533d5c37cab738beb30534923dd621479faa15b61109603aaf9309d4680a92d0ab67596374565fa5312b31ed6c87055e40736f9de98b5ad8d52
def Tt:TF:=⟨65,[.t 4],(.seq (.reg bAr) (.seq (.dreg bAs) .ret))⟩
/-! horarium/horariumlaw19.known -/
@[go_sem] def bAt:=k 0x1b3c
@[go_sem] def bAu:=k 0x16f6ef20876b8c5c94f3bcc12b837181ce4291645fc4e02f73a9e25ab8
@[go_sem] def bAv:=k 0x3e5701b3ba9d862a093b98
@[go_sem] def bAw:=k 0x235393414a62d52c09933ab060f412c5b9ab511f8c77fb489ad6838c15f54a0cd
@[go_sem] def bAx:=k 0x1b3c
@[go_sem] def bAy:=k 0x112f4cec7804c77e80adc9bc14e9d65710c250dbc03d
@[go_sem] def bAz:=k 0x1347cb23c726c0298c46a23aebf6701dede02111562d
@[go_sem] def bAA:=k 0x1560495b1648b8d497df7ab9c30309e4cafdf146ec1d
@[go_sem] def bAB:=k 0x1778c792656ab17fa37853389a0fa3aba81bc17c820d
@[go_sem] def bAC:=k 0x199145c9b48caa2aaf112bb7711c3d72853991b217fd
@[go_sem] def aXn:=k 0x2b2bb71e3fb122847350b02febf3e86ed6204c886d3b3e66201b1b4bfc36dfeb489101a1d74cdf879a44b249e109d142ee71f2ccb42fd792639038748f8369a80b6306a716c04ea25b288486b5acbc68835ba6732cf6fa0ea91243c148d0176c7026399c9eccec25dca661958a3ee5f6df7165f4858215052c8a94bab287c2fd79461376e55175f422271969a4e5e0eceae0eea43056908edf653534a5f793c9e63b5c5636d91b5c4b47a24be
def eP:TF:=⟨118,[.t 0],(.seq (.reg bAt) (.seq (.reg bAu) (.seq (.reg bAv) (.seq (.seq (.reg bAw) (.cond (.t 36) (.seq (.reg bAx) .ret) .skip)) (.seq (.reg bAy) (.seq (.reg bAz) (.seq (.reg bAA) (.seq (.reg bAB) (.seq (.reg bAC) (.seq (.reg aXn) .ret))))))))))⟩
/-! (*horarium/part.Part).Clock -/
@[go_sem] def bAD:=k 0xbd8c
@[go_sem] def bAE:=k 0x27e670f1ee2816ec13c0588eac
def Tu:TF:=⟨7,[.t 2],(.seq (.reg bAD) (.seq (.reg bAE) .ret))⟩
/-! horarium/horariumlaw19.tape -/
@[go_sem] def aOE:=k 0xbdc4
@[go_sem] def aOF:=k 0x10ef4
@[go_sem] def aOG:=k 0x15fec
@[go_sem] def aOH:=k 0x81ff6dc90c
@[go_sem] def aOI:=k 0x81e1b3fd0b65012237076944aee4230da5d81f4a6956935efc8a8e655012ef25396ef41bfef3a7cc
@[go_sem] def aOJ:=k 0x84dc7c4c684236b6c
def aOK:TC:=(.seq (.seq (.reg aOH) (.cond (.t 6) .skip (.exit 0))) (.seq (.block 1 (.reg aOI)) (.reg aOJ)))
@[go_sem] def aOL:=k 0x4d7a52e9699c
def PY:TF:=⟨25,[.t 2],(.seq (.reg aOE) (.seq (.reg aOF) (.seq (.seq (.reg aOG) (.block 0 (.loop aOK))) (.seq (.reg aOL) .ret))))⟩
/-! horarium/horariumlaw19.play -/
@[go_sem] def aOO:=k 0x10a1d32f140
@[go_sem] def aOP:=kd 0x617e8b4f22c83cde4c517f22a92edf6b701ffb9ec808ec0fc240174abbcbdc10df8ef122421d
@[go_sem] def bIw:=kd 0x4ef169ab01c904ffc25133c5cdff60fa62b673c0cde81b8dc776c5b4986bef22df1c5d
@[go_sem] def bIx:=k 0x3241dbe9974a6aaccda5e02268e0a0508bb9
@[go_sem] def bIy:=k 0x35fef53af257d4696cee201f8479b814d
@[go_sem] def bIz:=k 0x3471c
@[go_sem] def bIA:=k 0x52e2c
@[go_sem] def bIB:=k 0x1625a1cb4c6d
@[go_sem] def bIC:=k 0x156c3c2515e2d56519f56f0743b8a75955a6aae65f8c6d9a989cd9c0512e
@[go_sem] def bID:=kd 0x7113e5903278250af05555576b26f2fc6b47136b3ae394095a74279d87ad0656796152
@[go_sem] def bDr:=k 0x82d01dd0b21a0eb3eba13b6ccb40ee
@[go_sem] def bDs:=k 0x1260a9830fe7a35fa2db21779842f597305083762e146de
@[go_sem] def bDt:=k 0x14113c3dcdbdad8b2739488d9b6f8f9cebc56e2178c685e
@[go_sem] def bDu:=k 0x3483b99a540c4e68f75aaedce9bab6cd1e9de
@[go_sem] def bDv:=kd 0xd40ba5bb8f4d3303b58bdfa93d79c32298d258b096d95706640e315d35ea42
@[go_sem] def bDw:=kd 0xe77e058174c7e27391574ff90a3795d244e99a097035a0efb3209bc6dc3822
@[go_sem] def bDx:=k 0x48b8e28425079b6ab247ae00cfa665b0a34d93a0c58ad3789204f0680e79617f71560b59a741ef
@[go_sem] def bDy:=k 0x253804b5ffe39c91a6d27c594967061b7af0a5d6409791432aa4c34c7c9f
@[go_sem] def bDz:=kd 0x1f20f179501b1d761f70490da492169c08f49ea8175b04cf45d769bef386e6f18504a635bd99a3a154d0ffa52721f66e1ec3ff37ba9c9838493310c0f3a9fa0ce1327ce04da0904c19e927d68a600811bf4c79fed73
@[go_sem] def bDA:=k 0x3471c
@[go_sem] def bDB:=k 0x76ec0c3e85d52b8eecd
def aNd:TC:=(.seq (.seq (.reg bIB) (.cond (.t 56) .skip (.exit 0))) (.seq (.block 1 (.seq (.seq (.reg bIC) (.cond (.t 68) (.seq (.dreg bID) (.seq (.reg bDr) (.cond (.t 83) (.seq (.reg bDs) (.reg bDt)) (.seq (.reg bDu) (.cond (.t 105) (.seq (.dreg bDv) (.dreg bDw)) .skip))))) .skip)) (.seq (.reg bDx) (.seq (.reg bDy) (.seq (.dreg bDz) (.cond (.t 166) (.seq (.reg bDA) .ret) .skip)))))) (.reg bDB)))
@[go_sem] def bDC:=kd 0x5455397bcd862169b2d3d6ebf6dee1880345cc3474d3faf515458816a4260112043ab869bcdabae34c0b698226fe5dfeb5b57b3
def PZ:TF:=⟨181,[.t 10],(.seq (.reg aOO) (.seq (.dreg aOP) (.seq (.dreg bIw) (.seq (.reg bIx) (.seq (.seq (.reg bIy) (.cond (.t 54) (.seq (.reg bIz) .ret) .skip)) (.seq (.seq (.reg bIA) (.block 0 (.loop aNd))) (.seq (.dreg bDC) .ret)))))))⟩
/-! (*horarium/part.Part).Memory -/
@[go_sem] def aOQ:=k 0xc1a0
@[go_sem] def aOR:=k 0xe8386a03d8087dc5210588eac
def Gl:TF:=⟨7,[.cell 2 16 true],(.seq (.reg aOQ) (.seq (.reg aOR) .ret))⟩
/-! (*horarium/part.Part).Registers -/
@[go_sem] def aOU:=k 0x16404
@[go_sem] def aOV:=k 0x197479a91ce58e2a81d5b6a2246ccd7ceb9f242951b9eed2c481570c
@[go_sem] def aOW:=k 0x746c97fdec
@[go_sem] def aOX:=k 0x144bff562a40c4b6d04315471932a5a02c56b4651aff4c
def P1:TF:=⟨25,[.cell 4 8 true],(.seq (.reg aOU) (.seq (.seq (.reg aOV) (.cond (.t 15) (.seq (.reg aOW) .ret) .skip)) (.seq (.reg aOX) .ret)))⟩
/-! (*horarium/horariumkeep.Tape).Next -/
@[go_sem] def aOZ:=k 0x15fec
@[go_sem] def aO0:=kd 0xb789a84e19ce929a622608e6248bdc556e7de722390a182391d43cefa4b4ed51b30df550
@[go_sem] def aO1:=k 0x15fec
@[go_sem] def aO2:=k 0x2b274f8bb7538baf0efe1c27eaf6aaac8d8eeda1ac
@[go_sem] def aO3:=kd 0x249a863ea0ced9bc6f1eac7e302d8873cfc32fdc1883cab6f1be614a386e35d914547046acaa931a3341
def P5:TF:=⟨40,[.t 4],(.seq (.reg aOZ) (.seq (.seq (.dreg aO0) (.cond (.t 18) (.seq (.reg aO1) .ret) .skip)) (.seq (.reg aO2) (.seq (.dreg aO3) .ret))))⟩
/-! (*horarium/horariumkeep.Tape).frame -/
@[go_sem] def aO5:=k 0x16024
@[go_sem] def aO6:=k 0x34a7e2595769ec38e19e49c
@[go_sem] def aO7:=k 0x4f4ce03307e7fa7624e887864f3671bca75c
@[go_sem] def aO8:=k 0x19d8a12b91f02b4e0fd46e801a744820f329f3ce2f778fce11b3bda24ef81c
@[go_sem] def aO9:=k 0x391da81b50ef4c814a18fded72ff7613f48e87990dd9daa961d
@[go_sem] def aPa:=k 0x386e9b5c5b0ad
def P6:TF:=⟨36,[.t 4],(.seq (.reg aO5) (.seq (.reg aO6) (.seq (.seq (.reg aO7) (.seq (.reg aO8) (.cond (.t 27) (.seq (.reg aO9) .ret) .skip))) (.seq (.reg aPa) .ret))))⟩
/-! (*horarium/horariumkeep.Tape).asks -/
@[go_sem] def aPe:=k 0x527ff4e0
@[go_sem] def aPf:=k 0x1b154
@[go_sem] def aPg:=k 0x7e0ea166a1e670740
@[go_sem] def aPh:=k 0x20b2aa28
@[go_sem] def aPi:=k 0x1cd041791a378ba164
@[go_sem] def aPj:=k 0x2b9d3765e52e507006343ac59e5aef9b5b7b2bd
@[go_sem] def aPk:=k 0x79d25eb820c5c0cf905088c95f7d
@[go_sem] def aPl:=k 0xf726b0313b7459
def aPm:TC:=(.seq (.reg aPh) (.seq (.cond (.t 26) .skip (.exit 0)) (.seq (.block 1 (.seq (.reg aPi) (.seq (.reg aPj) (.reg aPk)))) (.reg aPl))))
@[go_sem] def aPn:=k 0xf90d24d5f95c1c5d71
@[go_sem] def aG7:=k 0xd86bea59
@[go_sem] def aG8:=k 0x4710e5b8f875d
@[go_sem] def aG9:=k 0x3983c
@[go_sem] def aHa:=k 0xc6569ddfdc8d
@[go_sem] def aHb:=k 0xf231fc49
@[go_sem] def aHc:=k 0x667ec4cbea118e09985
@[go_sem] def aHd:=kd 0x3c1179da34258ab5160b389147133903a9cef21ff27f9bec6c31c534d4f8fa1d89959782d918fca788ca9ceff71f2
@[go_sem] def aHe:=k 0x11974b48578724ca2a1a634fb93831ab7a5084e
@[go_sem] def aHf:=k 0x398d0
@[go_sem] def aHg:=k 0xbd459a378c11276306a99276e
@[go_sem] def aHh:=k 0x1deb67557c342b1a
def aHi:TC:=(.seq (.reg aHb) (.seq (.cond (.t 48) .skip (.exit 4)) (.seq (.block 5 (.seq (.reg aHc) (.seq (.dreg aHd) (.seq (.reg aHe) (.cond (.t 70) (.reg aHf) (.reg aHg)))))) (.reg aHh))))
@[go_sem] def aHj:=k 0x66971aa3413fa79d26ef6bfd4cfd6a80395cc15426c2e
@[go_sem] def aHk:=kd 0x1974f1980e613b042be5cc1ca762ce563eea63c3715f13d22d1e253763e397debdc264fdf452b17c86
@[go_sem] def aHl:=k 0x252536f4aebde07a
def aHm:TC:=(.seq (.reg aG7) (.seq (.cond (.t 43) .skip (.exit 2)) (.seq (.block 3 (.seq (.reg aG8) (.seq (.reg aG9) (.seq (.seq (.reg aHa) (.block 4 (.loop aHi))) (.seq (.reg aHj) (.cond (.t 81) (.dreg aHk) .skip)))))) (.reg aHl))))
@[go_sem] def aHn:=k 0x9de1704d2e389929e019294a54918e
@[go_sem] def aHo:=k 0x805a04e05cffb7c2c8012eede4e
@[go_sem] def aHp:=k 0x5077c614a551de
@[go_sem] def Xu:=k 0x112800eb14bec9af872865fe9e
@[go_sem] def aHq:=k 0x11d2b3df1f21cd18329067435e
@[go_sem] def bEu:=k 0x1a50c845a493867c1f43e
def aND:TC:=(.seq (.seq (.reg aHp) (.cond (.t 101) .skip (.exit 6))) (.seq (.block 7 (.seq (.reg Xu) (.cond (.t 107) (.seq (.reg aHq) (.exit 6)) .skip))) (.reg bEu)))
@[go_sem] def bEv:=k 0x2026edc23246f69d16f2
@[go_sem] def bEw:=k 0x91be7abda
@[go_sem] def bEx:=k 0x5d71c1a0dc94de
@[go_sem] def bEy:=k 0x5d4c0
@[go_sem] def bEz:=k 0x65e274b202e0e
@[go_sem] def bEA:=k 0x9823039ca
@[go_sem] def bEB:=k 0x1f2bfe50a8c3d1fc12306
@[go_sem] def bEC:=k 0x549b5e4d99a918af7a21d9c9c954e1580144543460dd1dd2f
@[go_sem] def bED:=k 0x33fdd0ca17760b646b
def aOs:TC:=(.seq (.reg bEA) (.seq (.cond (.t 120) .skip (.exit 10)) (.seq (.block 11 (.seq (.reg bEB) (.reg bEC))) (.reg bED))))
@[go_sem] def bEE:=k 0xaecd29f67cdb0714c1c9721ce9ce632355bb74d62c3c254157f
@[go_sem] def bEF:=kd 0x1013b1d206383902a854d10b1dd80f3518d8a1f38f02f0292b674435655fb1018e4c9925c4325c815b084e3df59f0229154aba03bec0ff531cda049013da62602df613d03db410fea2980f028197fcd7
@[go_sem] def bEG:=k 0x3da496aff71e5300eb
def aOt:TC:=(.seq (.reg bEw) (.seq (.cond (.t 115) .skip (.exit 8)) (.seq (.block 9 (.seq (.reg bEx) (.seq (.reg bEy) (.seq (.seq (.reg bEz) (.block 10 (.loop aOs))) (.seq (.reg bEE) (.cond (.t 136) (.dreg bEF) .skip)))))) (.reg bEG))))
@[go_sem] def bEH:=k 0x4f1aaa5ad5e268fd8125b
@[go_sem] def bEI:=k 0x775ba6b2d6937982190593
@[go_sem] def bEJ:=k 0xcb5d0cca7b
@[go_sem] def bEK:=k 0x20986630f3ef7b7f
@[go_sem] def bEL:=kd 0x7924f2765b9646499004d9f7975d58fd9422e58566e9fc5063e5b5549d0a7f78917f698e411e22dcebfd4cc5153b10f8a55b7
@[go_sem] def bEM:=k 0x45b9a849ed78d958ab
def aOu:TC:=(.seq (.reg bEJ) (.seq (.cond (.t 161) .skip (.exit 12)) (.seq (.block 13 (.seq (.reg bEK) (.dreg bEL))) (.reg bEM))))
@[go_sem] def bEN:=k 0xdf8cdf5f9e6a1b
def P7:TF:=⟨175,[.cell 4 3 true],(.seq (.reg aPe) (.seq (.reg aPf) (.seq (.seq (.reg aPg) (.block 0 (.loop aPm))) (.seq (.seq (.reg aPn) (.block 2 (.loop aHm))) (.seq (.reg aHn) (.seq (.seq (.reg aHo) (.block 6 (.loop aND))) (.seq (.seq (.reg bEv) (.block 8 (.loop aOt))) (.seq (.seq (.reg bEH) (.cond (.t 156) (.seq (.reg bEI) (.block 12 (.loop aOu))) .skip)) (.seq (.reg bEN) .ret)))))))))⟩
/-! (*horarium/horariumkeep.Tape).Program -/
@[go_sem] def aPo:=k 0xa32c484610
@[go_sem] def aPp:=k 0x253b4
@[go_sem] def aPq:=k 0x543782c6811d901f1f48bbc
@[go_sem] def bIE:=k 0x36b6df2d6f4c
@[go_sem] def bIF:=k 0x16c0cb1a6872e3c40c
@[go_sem] def bIG:=k 0x771a54997a9ba59be581d4135a5a4a633d231d53a1666c
@[go_sem] def bIH:=k 0x64a38c
@[go_sem] def bII:=k 0xcda57e8c5d604
@[go_sem] def bIJ:=kd 0x1240e74b98d2f645c9d0c4a5846e6b3f673071d6e24a3d03c97db300c20ed
@[go_sem] def bIK:=k 0xf85ba932158855
@[go_sem] def bEO:=k 0xfecb83722a2585
@[go_sem] def bEP:=k 0x227e6abfaf7881e4b7a373c584ca9d
@[go_sem] def bEQ:=k 0x11f954327eed775
@[go_sem] def bER:=k 0x126051d680374a5
@[go_sem] def bES:=k 0x6056cf4de8eed5eb1bd
@[go_sem] def bET:=k 0x140454374dc2165
@[go_sem] def bEU:=k 0x68813370a83b4c3f67d
@[go_sem] def bEV:=k 0x15a6baa1942e225
@[go_sem] def bEW:=k 0x709b42cb8eb58c53b3d
@[go_sem] def bEX:=k 0x25af374d32b3d72a55360da1
@[go_sem] def bEY:=k 0x221a003b2f4c012169fa1a8f941f4610cea3bcb3e8eebc74f5ea87b02793d84c5e7e5959592ed3d356928eeb17958e892e
@[go_sem] def bEZ:=k 0xc505413562954ab17f24b92fe
@[go_sem] def bE0:=k 0x7cbddc
@[go_sem] def bE1:=k 0x8a903c10a3565d95b362d1382f251c991bf354937b06e692
@[go_sem] def bE2:=k 0x7297dc
@[go_sem] def bE3:=k 0x73e8ddbd05dca47a91da92ed322334a669bd6ffc4680e
@[go_sem] def bE4:=k 0x2d21353db65dc
@[go_sem] def bE5:=k 0xdd8bd73be2d56d436d250d619e8ed80bedc6e49885922fdedf9eabb8e3007312d705e
@[go_sem] def bE6:=k 0x14ae07a6e07108d1ac
def bBi:TC:=(.seq (.seq (.reg bIE) (.cond (.t 18) .skip (.exit 0))) (.seq (.block 1 (.seq (.reg bIF) (.seq (.reg bIG) (.seq (.seq (.reg bIH) (.block 2 (.seq (.reg bII) (.cond (.t 30) (.dreg bIJ) (.seq (.seq (.reg bIK) (.cond (.t 37) .skip (.reg bEO))) (.cond (.t 37) (.reg bEP) (.seq (.seq (.reg bEQ) (.cond (.t 43) .skip (.reg bER))) (.cond (.t 43) (.reg bES) (.seq (.reg bET) (.cond (.t 48) (.reg bEU) (.seq (.reg bEV) (.cond (.t 52) (.reg bEW) .skip)))))))))))) (.seq (.seq (.reg bEX) (.seq (.reg bEY) (.cond (.t 73) (.seq (.reg bEZ) (.seq (.reg bE0) (.seq (.reg bE1) (.cond (.t 84) (.reg bE2) .skip)))) .skip))) (.seq (.seq (.reg bE3) (.cond (.t 91) (.reg bE4) .skip)) (.reg bE5))))))) (.reg bE6)))
@[go_sem] def bE7:=k 0x22013d1a5ca4d8890d28ed6e
def P8:TF:=⟨106,[.t 6],(.seq (.reg aPo) (.seq (.reg aPp) (.seq (.seq (.reg aPq) (.block 0 (.loop bBi))) (.seq (.reg bE7) .ret))))⟩
/-! horarium/config.Right -/
@[go_sem] def aPr:=k 0x8e1ac80
@[go_sem] def aPs:=k 0x2f94d5ab02578582cd420967e9fb419da898
@[go_sem] def aPt:=k 0x206b5b24f8fc
def LP:TF:=⟨11,[.t 2],(.seq (.reg aPr) (.seq (.reg aPs) (.seq (.reg aPt) .ret)))⟩
/-! horarium/config.Copy -/
@[go_sem] def aPA:=k 0x52752c80
@[go_sem] def aPB:=k 0x10fa4
@[go_sem] def aPC:=k 0x76e986fc98404caa0
@[go_sem] def aPD:=k 0xe5da588
@[go_sem] def bIL:=k 0xe22d61730bd32d15e9cfc
@[go_sem] def bIM:=k 0x28ce171c21863ce3fd1a97e702675af0
@[go_sem] def bIN:=k 0x110793a235c41453c2bfe143f5b06c119ce4e0
@[go_sem] def bIO:=k 0xa9a3d048ec018
def bBj:TC:=(.seq (.reg aPD) (.seq (.cond (.t 12) .skip (.exit 0)) (.seq (.block 1 (.seq (.reg bIL) (.seq (.reg bIM) (.reg bIN)))) (.reg bIO))))
@[go_sem] def bIP:=k 0x429719622951039d9a929365a2af9130
@[go_sem] def bE8:=k 0xf57a98553082048d21
@[go_sem] def bE9:=k 0xb4569e09
@[go_sem] def bFa:=k 0x4dce9a09de5ef053b45
@[go_sem] def bFb:=kd 0xcb480bc4a2097e100ce8d3e1dcbc8c0b98f86dc5e8b9f67653211d0a75
@[go_sem] def bFc:=k 0x13216d6bdfc4f09
def aOv:TC:=(.seq (.reg bE9) (.seq (.cond (.t 36) .skip (.exit 2)) (.seq (.block 3 (.seq (.reg bFa) (.dreg bFb))) (.reg bFc))))
@[go_sem] def bFd:=k 0x4714590a3879
def P9:TF:=⟨49,[.cell 2 3 true],(.seq (.reg aPA) (.seq (.reg aPB) (.seq (.seq (.reg aPC) (.block 0 (.loop bBj))) (.seq (.reg bIP) (.seq (.seq (.reg bE8) (.block 2 (.loop aOv))) (.seq (.reg bFd) .ret))))))⟩
/-! slices.Clone[[]byte,byte] -/
@[go_sem] def aPY:=k 0xbdc4
@[go_sem] def aPZ:=k 0x4d9d604eac
@[go_sem] def aP0:=k 0xbdc4
@[go_sem] def aP1:=k 0x9287ac66c9eddf1023c8
def Qa:TF:=⟨8,[.t 2],(.seq (.reg aPY) (.seq (.seq (.reg aPZ) (.cond (.t 4) (.seq (.reg aP0) .ret) .skip)) (.seq (.reg aP1) .ret)))⟩
/-! slices.Clone[[]uint32,uint32] -/
@[go_sem] def aP2:=k 0xbdc4
@[go_sem] def aP3:=k 0x4d9d604eac
@[go_sem] def bIQ:=k 0xbdc4
@[go_sem] def bIR:=k 0x9287ac66c9eddf1023c8
def Qb:TF:=⟨8,[.t 2],(.seq (.reg aP2) (.seq (.seq (.reg aP3) (.cond (.t 4) (.seq (.reg bIQ) .ret) .skip)) (.seq (.reg bIR) .ret)))⟩
/-! horarium/health.New -/
@[go_sem] def aP4:=k 0x4ad8ac80
@[go_sem] def aP5:=k 0x6918921bd5ee639e3610
def Qc:TF:=⟨6,[.t 2],(.seq (.reg aP4) (.seq (.reg aP5) .ret))⟩
/-! horarium/proc.New -/
@[go_sem] def aQd:=k 0xbe5c
@[go_sem] def aQe:=k 0xfb7ba271816e4fe99ed6cce1a89fbf274e85e023c
@[go_sem] def aQf:=k 0xbe5c
@[go_sem] def aQg:=k 0x3daad440d07e034
@[go_sem] def aQh:=k 0x18237c9b2e1c
@[go_sem] def aQi:=k 0x178827d8
@[go_sem] def aQj:=k 0xeb3bb4dd9ea8376191f50
@[go_sem] def XB:=kd 0x5e5d57004058f9fc32c2f3339a439afdef692011cdb302c0f4205f39945f6e74be0703838d8e81
@[go_sem] def aQk:=k 0xdcb30b2eb52f99
def bCN:TC:=(.seq (.reg aQi) (.seq (.cond (.t 19) .skip (.exit 0)) (.seq (.block 1 (.seq (.reg aQj) (.dreg XB))) (.reg aQk))))
@[go_sem] def bFe:=k 0x3861bba5518ad
def Qd:TF:=⟨36,[.t 2],(.seq (.reg aQd) (.seq (.seq (.reg aQe) (.cond (.t 13) (.seq (.reg aQf) .ret) .skip)) (.seq (.reg aQg) (.seq (.seq (.reg aQh) (.block 0 (.loop bCN))) (.seq (.reg bFe) .ret)))))⟩
/-! (*horarium/part.Part).begin -/
@[go_sem] def aQl:=k 0x172e27977d2b702b55541dfdc
@[go_sem] def aQm:=k 0xf23089c066733dd075cc
@[go_sem] def aQn:=kd 0x23f3cdc540f9692398ea86f755a7dfdce2ca3202e2761ed0bb4f4fea92a4897e34a0
@[go_sem] def aQo:=k 0x20b2aa28
@[go_sem] def aQp:=k 0xa16dcd8ca92899b23a1a0
@[go_sem] def aQq:=kd 0x7264cdec88d5e7168352c09b410c36b4a5436375cd16090e626c016b69277fcfcf38700d2529d1
@[go_sem] def aQr:=k 0x10a763ef13c67e9
def aQs:TC:=(.seq (.reg aQo) (.seq (.cond (.t 26) .skip (.exit 0)) (.seq (.block 1 (.seq (.reg aQp) (.dreg aQq))) (.reg aQr))))
@[go_sem] def XC:=k 0x25848dd76f7a20ff4052e596cfd
def Qe:TF:=⟨46,[],(.seq (.reg aQl) (.seq (.reg aQm) (.seq (.seq (.dreg aQn) (.block 0 (.loop aQs))) (.reg XC))))⟩
/-! (*horarium/proc.Table).Pick -/
@[go_sem] def aQu:=k 0x15fec
@[go_sem] def aQv:=k 0x22cd72eae447cbb4fa659618d13c8e7249c
@[go_sem] def aQw:=k 0x317b5ae8267f87dba3a65f0bbc
@[go_sem] def aQx:=k 0x18d75f08
@[go_sem] def bIS:=k 0x10209f742fc8a115f3b5af6fd9dfd60c
@[go_sem] def bIT:=k 0x3a740d12529190839c2d7e03ed5e0d1f798be98e6183a7bcba1
@[go_sem] def bIU:=k 0x1c62c93c792cf90bb49123b0e4d
@[go_sem] def bIV:=k 0xf68c339cc97459
def bBk:TC:=(.seq (.reg aQx) (.seq (.cond (.t 20) .skip (.exit 0)) (.seq (.block 1 (.seq (.reg bIS) (.seq (.reg bIT) (.cond (.t 32) (.reg bIU) .skip)))) (.reg bIV))))
@[go_sem] def bIW:=k 0x1469fb3f29429ef56d
@[go_sem] def bFf:=k 0x16080
@[go_sem] def bFg:=k 0x250344c0331830b71312a01e8fd
def Qf:TF:=⟨46,[.t 4],(.seq (.reg aQu) (.seq (.reg aQv) (.seq (.seq (.reg aQw) (.block 0 (.loop bBk))) (.seq (.seq (.reg bIW) (.cond (.t 41) (.seq (.reg bFf) .ret) .skip)) (.seq (.reg bFg) .ret)))))⟩
/-! horarium/isa.Fetch -/
@[go_sem] def aQy:=k 0x710344
@[go_sem] def aQz:=k 0x2f60e3bc3a81ba6aeb1b0cdeaa4c39121f64ae2ec246455e2c62682f8be6c238ff61a1a83c
@[go_sem] def aQA:=k 0x15c89e399e31b54
@[go_sem] def bIX:=kd 0x30faabd0306b5994f1268436eb037686733714bc9c97191af6acf13619a7f7563f86d23bf302744ae0d897fdc0c7c1dcf1c855c5a60bc9adad5a8de0082ddf9ff4d0902d3e3e9851
def Qg:TF:=⟨45,[.cell 4 4 true,.t 5],(.seq (.reg aQy) (.seq (.seq (.reg aQz) (.cond (.t 19) (.seq (.reg aQA) .ret) .skip)) (.seq (.dreg bIX) .ret)))⟩
/-! horarium/isa.Right -/
@[go_sem] def aQB:=k 0xdf4ac80
@[go_sem] def aQC:=k 0x81820a016a87f5f1b897f6a5f311592d09aedf49719ae47970
@[go_sem] def aQD:=k 0x16de7b4f5fa231b96e92f4d492a5d3806175397ada9ad6a9f0da1207fe03dcbf2ce740674cf252dc198c1a7fe6e089a9eb190cac79d026f01a8039136999f0f86e4df970de3b568403b2cd88691
def CV:TF:=⟨39,[.t 2],(.seq (.reg aQB) (.seq (.reg aQC) (.seq (.reg aQD) .ret)))⟩
/-! (*horarium/part.Part).do -/
@[go_sem] def aQL:=k 0x1791a3436870
@[go_sem] def aQM:=k 0x61319994530251aad14ebc28f3a9d175ba8c
@[go_sem] def aQN:=k 0x3d27649b05b0
@[go_sem] def aQO:=k 0x91e75c3383b54
@[go_sem] def aQP:=k 0x985736742b284
@[go_sem] def aQQ:=k 0x9ec710b4d29b4
@[go_sem] def aQR:=k 0xa536eaf57a0e4
@[go_sem] def bIY:=k 0xaba6c53621814
@[go_sem] def bIZ:=k 0xb2169f7b39944
@[go_sem] def bI0:=k 0xb88679bbe1074
@[go_sem] def bFh:=k 0x129c14f51e7b6de13c3eed838a1b2369cf5c40fc2c30714d8d
@[go_sem] def bFi:=k 0xf1d20f5b419f25
@[go_sem] def bFj:=k 0xf841e99b563c55
@[go_sem] def bFk:=k 0x1271356a4bd3cba5ff8532d3ea24502ed2283074796d
@[go_sem] def bFl:=k 0x12ca8764c6d11d5
@[go_sem] def bFm:=k 0x11714b59a3584c5b276eef2006fd76d46a92ed
@[go_sem] def bFn:=k 0x160f5439483e755
@[go_sem] def bFo:=kd 0x2b41a3e6ab3b517884f2c66f0a14e9f0df663df58912b1
@[go_sem] def bFp:=k 0x2d476ec72e0b1cc1435fdfc359a73591079b35ee
@[go_sem] def bFq:=k 0x1c61245b899c3e56
@[go_sem] def bFr:=kd 0x5f1c5bf2360879b71a73fe3664a98087bddf43fc9092e1946c36365c8e4fd4293ba6ab32150a406f181d2eb588cdecae87ba5b2
@[go_sem] def bFs:=k 0x2415412de2be6ce6
@[go_sem] def bFt:=k 0x61a7c72fc51b1a01d91bbbad9476884a5fe
@[go_sem] def bFu:=k 0x27539e2821cd6666
@[go_sem] def bFv:=k 0x27ba9bcc21f64f96
@[go_sem] def bFw:=k 0x28219970227068c6
@[go_sem] def bFx:=k 0x28889714229951f6
@[go_sem] def bFy:=k 0x71c8979fe831a2a81f3f85d19597049befa76d0a77d5dedc0230e
@[go_sem] def bFz:=k 0x4a513c
def Qh:TF:=⟨108,[.t 10,.t 11],(.seq (.reg aQL) (.seq (.reg aQM) (.seq (.seq (.reg aQN) (.block 0 (.seq (.seq (.reg aQO) (.cond (.t 21) .skip (.seq (.reg aQP) (.cond (.t 21) .skip (.seq (.reg aQQ) (.cond (.t 21) .skip (.seq (.reg aQR) (.cond (.t 21) .skip (.seq (.reg bIY) (.cond (.t 21) .skip (.seq (.reg bIZ) (.cond (.t 21) .skip (.reg bI0))))))))))))) (.cond (.t 21) (.seq (.reg bFh) .ret) (.seq (.seq (.reg bFi) (.cond (.t 36) .skip (.reg bFj))) (.cond (.t 36) (.seq (.reg bFk) .ret) (.seq (.reg bFl) (.cond (.t 45) (.reg bFm) (.seq (.reg bFn) (.cond (.t 53) (.seq (.dreg bFo) (.cond (.t 62) (.reg bFp) .skip)) (.seq (.reg bFq) (.cond (.t 69) (.dreg bFr) (.seq (.reg bFs) (.cond (.t 88) (.reg bFt) (.seq (.seq (.reg bFu) (.cond (.t 96) .skip (.seq (.reg bFv) (.cond (.t 96) .skip (.seq (.reg bFw) (.cond (.t 96) .skip (.reg bFx))))))) (.cond (.t 96) (.seq (.reg bFy) .ret) .skip)))))))))))))))) (.seq (.reg bFz) .ret))))⟩
/-! (*horarium/part.Part).fails -/
@[go_sem] def aQS:=k 0xb8610
@[go_sem] def aQT:=kd 0x378e8b869e76c12f05b6466a91836c19fb32e06f5c7d74acc1b04780
@[go_sem] def bI1:=kd 0x8feb49db790ac57676f3aa3dd2270e45436b879efc147008dd5652b30
@[go_sem] def bI2:=k 0xac74c0cc25a14
@[go_sem] def bI3:=kd 0x5972704e3630265d2bcd88baf9ba1c8c01b85a69219c2a6f6071f4eb7c02078571
@[go_sem] def bI4:=k 0xf85ba918287455
@[go_sem] def bI5:=k 0xfb36046796d
def Qi:TF:=⟨41,[],(.seq (.reg aQS) (.seq (.dreg aQT) (.seq (.dreg bI1) (.block 0 (.seq (.reg bI2) (.cond (.t 25) (.dreg bI3) (.seq (.reg bI4) (.cond (.t 37) (.reg bI5) .skip))))))))⟩
/-! (*horarium/health.Log).Stopped -/
@[go_sem] def aQY:=k 0xbd9c
@[go_sem] def aQZ:=k 0x27e670f1ed8cf17df2b0588eac
def Qj:TF:=⟨7,[.t 2],(.seq (.reg aQY) (.seq (.reg aQZ) .ret))⟩
/-! slices.Equal[[]horarium/part.state,horarium/part.state] -/
@[go_sem] def aQ7:=k 0x15ffc
@[go_sem] def aQ8:=k 0x17eb9a66608c3d61ab37e023c
@[go_sem] def bI6:=k 0x15ffc
@[go_sem] def bI7:=k 0x17a2bf8c982c
@[go_sem] def bI8:=k 0x10fc13e8
@[go_sem] def bI9:=k 0x30d03b670aec
@[go_sem] def bJa:=kd 0x46f0a16a30d5cec0512d66b70c08969d774761ebc9a3d60
@[go_sem] def bJb:=k 0x15ffc
@[go_sem] def bJc:=k 0xa39af3d57eee8
def bCO:TC:=(.seq (.reg bI8) (.seq (.cond (.t 14) .skip (.exit 0)) (.seq (.block 1 (.seq (.reg bI9) (.seq (.dreg bJa) (.cond (.t 24) (.seq (.reg bJb) .ret) .skip)))) (.reg bJc))))
@[go_sem] def bFA:=k 0x16048
def Qk:TF:=⟨26,[.t 4],(.seq (.reg aQ7) (.seq (.seq (.reg aQ8) (.cond (.t 10) (.seq (.reg bI6) .ret) .skip)) (.seq (.seq (.reg bI7) (.block 0 (.loop bCO))) (.seq (.reg bFA) .ret))))⟩
/-! (*horarium/proc.Table).Same -/
@[go_sem] def aQ9:=k 0x15ffc
@[go_sem] def aRa:=kd 0xefc3a40dc78b3b211ecc9e95388def27c64cbb4ae4cc030df550
def Ql:TF:=⟨14,[.t 4],(.seq (.reg aQ9) (.seq (.dreg aRa) .ret))⟩
/-! slices.Equal[[]horarium/health.Fault,horarium/health.Fault] -/
@[go_sem] def aRj:=k 0x15ffc
@[go_sem] def aRk:=k 0x17eb9a66608c3d61ab37e023c
@[go_sem] def bJd:=k 0x15ffc
@[go_sem] def bJe:=k 0x17a2bf8c982c
@[go_sem] def bJf:=k 0x10fc13e8
@[go_sem] def bJg:=k 0x30d03b670aec
@[go_sem] def bJh:=kd 0x46f0a43fd53a219b6ad0ade71cb4fa5bc6399bdf8fa3d60
@[go_sem] def bJi:=k 0x15ffc
@[go_sem] def bJj:=k 0xa39af3d57eee8
def bCP:TC:=(.seq (.reg bJf) (.seq (.cond (.t 14) .skip (.exit 0)) (.seq (.block 1 (.seq (.reg bJg) (.seq (.dreg bJh) (.cond (.t 24) (.seq (.reg bJi) .ret) .skip)))) (.reg bJj))))
@[go_sem] def bFB:=k 0x16048
def Qm:TF:=⟨26,[.t 4],(.seq (.reg aRj) (.seq (.seq (.reg aRk) (.cond (.t 10) (.seq (.reg bJd) .ret) .skip)) (.seq (.seq (.reg bJe) (.block 0 (.loop bCP))) (.seq (.reg bFB) .ret))))⟩
/-! (*horarium/part.Part).Faults -/
@[go_sem] def aRl:=k 0xbdc4
@[go_sem] def aRm:=k 0x75e6797858420529f7a7f710588eac
def Qn:TF:=⟨8,[.t 2],(.seq (.reg aRl) (.seq (.reg aRm) .ret))⟩
/-! horarium/horariumref15.NewPorts -/
@[go_sem] def aRn:=k 0xbe5c
@[go_sem] def aRo:=kd 0x243c20d8496a66d565f348fc2d97c5336ddba5ac9dce0ec
def Qo:TF:=⟨11,[.t 2],(.seq (.reg aRn) (.seq (.dreg aRo) .ret))⟩
/-! horarium/horariumref15.NewPart -/
@[go_sem] def aRr:=k 0xd6db44a010
@[go_sem] def aRs:=kd 0x15d2971a327280cf3b2c3338fc92776f9bb36a66db8bae4c7defd92ba5401f8126c1836803dc
@[go_sem] def aRt:=k 0x26ac2460d9c
@[go_sem] def aRu:=k 0x5484a9dceffc
def Fr:TF:=⟨27,[.t 8],(.seq (.reg aRr) (.seq (.dreg aRs) (.seq (.reg aRt) (.seq (.reg aRu) .ret))))⟩
/-! (*horarium/horariumref15.Ports).Send -/
@[go_sem] def aRB:=k 0x2027c
@[go_sem] def aRC:=k 0x11877509749efde48f2296542c50ba95ed9fe1fd12660d529e3332b9c7a8fd2dc91695dfe6efb21307b8431cf9095e567f3f51e3432bfec1f96c
@[go_sem] def aRD:=k 0x203c8
@[go_sem] def aRE:=k 0x4eb3060cdba78a2a383d6f5fe26a8c4d7d8d18adcfb39ebd
@[go_sem] def aRF:=k 0x63597d6bdd3ea57ea592adbc87fd380bf6345858467a796d
@[go_sem] def aRH:=k 0x2027c
@[go_sem] def aRI:=kd 0x14b83684122acb33c16b287811c804c6ead96929355db3d7174b0f2670f4ccffaf49ea2013157aa38ff2ac91f131
@[go_sem] def bJk:=k 0x2071c
@[go_sem] def bJl:=kd 0x97f836b4c92292b7bd773e270a6c62bbb4a1af4353f260b1a330bab551a7f3b58f815ca0520e731ddfacf6be8bde349cbed1d7a30f1dcd7701ca6662
@[go_sem] def bJm:=k 0x2027c
def Gm:TF:=⟨82,[.t 6],(.seq (.reg aRB) (.seq (.seq (.reg aRC) (.cond (.t 29) (.seq (.reg aRD) .ret) .skip)) (.seq (.seq (.reg aRE) (.cond (.t 38) (.seq (.reg aRF) (.seq (.reg aRH) .ret)) .skip)) (.seq (.seq (.dreg aRI) (.cond (.t 63) (.seq (.reg bJk) .ret) .skip)) (.seq (.dreg bJl) (.seq (.reg bJm) .ret))))))⟩
/-! (*horarium/horariumref15.Ports).Recv -/
@[go_sem] def aRJ:=k 0xc2321c
@[go_sem] def aRK:=k 0x372e668c577cb8194250e0cdd1129c93f30d6f2c8352ae0e565ccabe8eb38693a0ad39f07dbce3131cf9095e567f3f51e3432bfec1f96c
@[go_sem] def aRL:=k 0x68bde1c
@[go_sem] def aRM:=k 0x64173922705a36fd0821eb5364e1dbdd7aea4834cfb00aa60f4d8d
@[go_sem] def aRN:=k 0x12713ca4c667cd456a3878bd0d8454aa6c1f1cd6283d
@[go_sem] def aRO:=kd 0x277ea7122956704aad34aa63ca48f2718d8500a4b19eb42f05f6aeca90ea6e8e8890f34aafd903a5504b9e3da49f01
@[go_sem] def aRP:=k 0x808b4c88e28cbd
def LQ:TF:=⟨63,[.t 4,.t 5],(.seq (.reg aRJ) (.seq (.seq (.reg aRK) (.cond (.t 28) (.seq (.reg aRL) .ret) .skip)) (.seq (.reg aRM) (.seq (.seq (.reg aRN) (.cond (.t 45) (.dreg aRO) .skip)) (.seq (.reg aRP) .ret)))))⟩
/-! (*horarium/horariumref15.Part).Tick -/
@[go_sem] def aRT:=k 0x7102a4
@[go_sem] def aRU:=k 0xf8a085625f6642b9c6fc
@[go_sem] def aRV:=k 0x15c89dec4902bdc
@[go_sem] def aRW:=kd 0x28a0a2932078a9f6f81ffc6f354b17bb7dd923b0825652b30
@[go_sem] def aRX:=k 0x1779edc6f8f540b940
@[go_sem] def aRY:=kd 0x588e8e7bf8e7439d6be0130cf543213cb160c7bc6110
@[go_sem] def aRZ:=k 0x985874af299d36e4cd0027ad8a238a551d
@[go_sem] def aR0:=kd 0x202a54080ed4a9d78adc43ba3e5d67a9c71fb65f10009c2381c715aebda1c1e01455ec72248020bc63a0d81
@[go_sem] def aR1:=k 0x20e9304114d7ce16dee
@[go_sem] def aAc:=k 0x1a288e1b3c384852
@[go_sem] def aH4:=k 0x1680d5f120c4581a080a1b62
@[go_sem] def bFC:=k 0x982246d99e61a3b602ca59fa88bbfd986f5b0e42
@[go_sem] def bFD:=k 0x861eff24d8e15e01471720551
@[go_sem] def bFE:=k 0x4338b05cf87f3a361b377f4fb97cba37a0ac903c2c429ede158c1173ef9b9930ec5ea0d
@[go_sem] def bFF:=k 0x13235baedf219e03b2302
@[go_sem] def bFG:=k 0x3e837406881692
@[go_sem] def bFH:=k 0x281f5ada710603cd7be
@[go_sem] def bFI:=k 0x92fb2004a6a6fe560c8705b42a177b28ebe288775d71cb4e
@[go_sem] def bFJ:=k 0x2b98d618d775eb943e
def Qp:TF:=⟨89,[.cell 4 6 true,.t 5],(.seq (.reg aRT) (.seq (.seq (.reg aRU) (.cond (.t 13) (.seq (.reg aRV) .ret) .skip)) (.seq (.dreg aRW) (.seq (.seq (.reg aRX) (.cond (.t 24) (.seq (.dreg aRY) (.seq (.reg aRZ) (.seq (.dreg aR0) (.seq (.block 0 (.seq (.reg aR1) (.cond (.t 62) (.reg aAc) (.seq (.reg aH4) (.cond (.t 66) (.reg bFC) (.seq (.reg bFD) (.reg bFE))))))) (.seq (.reg bFF) (.cond (.t 76) (.seq (.reg bFG) (.reg bFH)) .skip)))))) .skip)) (.seq (.reg bFI) (.seq (.reg bFJ) .ret))))))⟩
/-! horarium/horariumlaw19.alike -/
@[go_sem] def aR2:=k 0x15ffc
@[go_sem] def aR3:=kd 0x9d7f4c73bc0e337bb3a3371c173e429cd5ba91ac9dfe9a2e575b2922d13ac8254b6b98c81842e8288e3bc72e5d5ebeca01918b735ca7e37cd43cc90de0a18bbe1e263b601d1adbcd30aaea742cce906331fcb824b87ee561c14879cdb2e680855ef2cdcbdddc781
@[go_sem] def aR4:=k 0x15ffc
@[go_sem] def aR5:=k 0x19759f02ed7e3a6bdfe44068ac8d
@[go_sem] def aR6:=k 0x101a8d3d9
@[go_sem] def aR7:=k 0x53d06b00070dd
@[go_sem] def aR8:=kd 0xcbc0c3234390ad834e99557254b1924ca68a2760c4c93992b41b55617ffc1533a0fde52
@[go_sem] def aR9:=k 0x15ffc
@[go_sem] def aSa:=k 0x1a4ee6839115506a
def aSb:TC:=(.seq (.reg aR6) (.seq (.cond (.t 51) .skip (.exit 0)) (.seq (.block 1 (.seq (.reg aR7) (.seq (.dreg aR8) (.cond (.t 64) (.seq (.reg aR9) .ret) .skip)))) (.reg aSa))))
@[go_sem] def aH5:=k 0x1c1ea5967691d8f72cffbf29e024741271f86ca0ab519af180a78c81c81e6d6414aecce4e624b588d9649097e
def Qq:TF:=⟨81,[.t 4],(.seq (.reg aR2) (.seq (.seq (.dreg aR3) (.cond (.t 44) (.seq (.reg aR4) .ret) .skip)) (.seq (.seq (.reg aR5) (.block 0 (.loop aSb))) (.seq (.reg aH5) .ret))))⟩
/-! horarium/horariumref15.SamePorts -/
@[go_sem] def aSc:=k 0x15ffc
@[go_sem] def aSd:=kd 0x10a4a81adcb605f9982242604f2c7319167fe53ee9a012c3905299b0
@[go_sem] def aSe:=k 0x15ffc
@[go_sem] def aSf:=k 0x324d99fbe663c6decaea04507c
@[go_sem] def aSg:=k 0x1e143bc8
@[go_sem] def aSh:=k 0x50ff7f0fb2cc
@[go_sem] def aSi:=kd 0x32b8a4081cc7d0da2fe8e5ef70aca62e095b41ea6e1193383a68a19e58a47f43a3e56549deeb5af505931a3341
@[go_sem] def aSj:=k 0x15ffc
@[go_sem] def aSk:=k 0x3413e15e0d265faaeb5ef8514d1f24f0210ed0bbe2d
@[go_sem] def aSl:=k 0x106d07109
@[go_sem] def aIb:=k 0x5572d16b90e0d
@[go_sem] def aIc:=kd 0xf835414e7a82064ed1001b89f354e78368f669fdde52ff488d86b47599deade1d8fa403ac94c09b3efa97565b2a159ee0a2305afeca30cdccd3082
@[go_sem] def aId:=k 0x15ffc
@[go_sem] def aIe:=k 0x1e559ce6ed647c4a
def XE:TC:=(.seq (.reg aSl) (.seq (.cond (.t 52) .skip (.exit 2)) (.seq (.block 3 (.seq (.reg aIb) (.seq (.dreg aIc) (.cond (.t 74) (.seq (.reg aId) .ret) .skip)))) (.reg aIe))))
@[go_sem] def aIf:=k 0x1ea6130cd514cd7a
def bBl:TC:=(.seq (.reg aSg) (.seq (.cond (.t 24) .skip (.exit 0)) (.seq (.block 1 (.seq (.reg aSh) (.seq (.seq (.dreg aSi) (.cond (.t 42) (.seq (.reg aSj) .ret) .skip)) (.seq (.reg aSk) (.block 2 (.loop XE)))))) (.reg aIf))))
@[go_sem] def bFK:=k 0x16048
def LR:TF:=⟨77,[.t 4],(.seq (.reg aSc) (.seq (.seq (.dreg aSd) (.cond (.t 17) (.seq (.reg aSe) .ret) .skip)) (.seq (.seq (.reg aSf) (.block 0 (.loop bBl))) (.seq (.reg bFK) .ret))))⟩
/-! (*horarium/horariumkeep.Tape).Table -/
@[go_sem] def aSm:=k 0x20284
@[go_sem] def aSn:=k 0xc7b790ceed6b4982c
@[go_sem] def aSo:=k 0x40b9496624b02feeb4fc886516cf7068c
@[go_sem] def aSp:=k 0x3d26a517ebac
@[go_sem] def aSq:=k 0x6901e97c99443b02cef4ba0bac3bcc40c
@[go_sem] def aSr:=k 0x11993b7d4783e38ea320fd61ae56966ea2df869ec6a5652e559fd
@[go_sem] def aSs:=k 0x36c3a1b8bf77d
@[go_sem] def aSt:=k 0xc824be6e39de14cc5affded24ee4d6b83caabb947606a2407e1ddadc10c3876bf85dd
@[go_sem] def bJn:=k 0x7f3a9344e1ee8fb91f76702ed
@[go_sem] def bJo:=k 0x21c27113df53eee28a27567d
@[go_sem] def bFL:=k 0x3470c
@[go_sem] def bFM:=k 0x1b7aa9523a0334e20d
@[go_sem] def bFN:=k 0x35b5da6e85768b59056a0a8dcd5fe7e7fb6ac050bb7663d7fe
@[go_sem] def bFO:=k 0x74b074dd11be93ed59d
def bBm:TC:=(.seq (.seq (.reg bFM) (.cond (.t 55) .skip (.exit 0))) (.seq (.block 1 (.reg bFN)) (.reg bFO)))
@[go_sem] def bFP:=k 0x3456fe9ff6104e
def Qr:TF:=⟨66,[.t 6],(.seq (.reg aSm) (.seq (.reg aSn) (.seq (.seq (.reg aSo) (.cond (.t 18) (.seq (.seq (.reg aSp) (.cond (.t 20) (.seq (.reg aSq) .ret) .skip)) (.seq (.reg aSr) .ret)) .skip)) (.seq (.seq (.reg aSs) (.cond (.t 35) (.seq (.reg aSt) .ret) .skip)) (.seq (.reg bJn) (.seq (.reg bJo) (.seq (.seq (.reg bFL) (.block 0 (.loop bBm))) (.seq (.reg bFP) .ret))))))))⟩
/-! horarium/horariumref3.Of -/
@[go_sem] def aSu:=k 0x47c7c4
@[go_sem] def aSv:=k 0x3a43d9f097b2c23c
@[go_sem] def aSw:=k 0x19bf9d2dfc9c
@[go_sem] def aSx:=k 0x28d492ced249efc
@[go_sem] def aSy:=k 0x110c631588ca14686182c
@[go_sem] def aSz:=k 0x3d600417ebb49bc
@[go_sem] def aSA:=k 0x26a399fc4
@[go_sem] def aAd:=k 0x307e2531b7d4c
def Qs:TF:=⟨18,[.t 2,.t 3],(.seq (.reg aSu) (.seq (.seq (.reg aSv) (.seq (.reg aSw) (.cond (.t 9) (.seq (.reg aSx) .ret) .skip))) (.seq (.reg aSy) (.seq (.seq (.reg aSz) (.cond (.t 16) (.seq (.reg aSA) .ret) .skip)) (.seq (.reg aAd) .ret)))))⟩
/-! horarium/horariumref3.Total -/
@[go_sem] def aSC:=k 0xbd8c
@[go_sem] def aSD:=k 0x10ebc
@[go_sem] def aSE:=k 0x1722027e023c
@[go_sem] def aSF:=k 0xa6ffff8
@[go_sem] def aSG:=k 0xde48fcbe5f50425c0f770
@[go_sem] def aSH:=k 0xc6794ef7648000fa12dd3625b5c
@[go_sem] def aSI:=k 0x68aacd15d5438
def aSJ:TC:=(.seq (.reg aSF) (.seq (.cond (.t 9) .skip (.exit 0)) (.seq (.block 1 (.seq (.reg aSG) (.reg aSH))) (.reg aSI))))
@[go_sem] def aAe:=k 0x36f2d707314c
def Qt:TF:=⟨18,[.t 2],(.seq (.reg aSC) (.seq (.reg aSD) (.seq (.seq (.reg aSE) (.block 0 (.loop aSJ))) (.seq (.reg aAe) .ret))))⟩
/-! horarium/horariumref7.Late -/
@[go_sem] def aSL:=k 0x2024c
@[go_sem] def aSM:=k 0x8cafbd72d9e16e1c
@[go_sem] def aSN:=k 0x11b4779e4ac
@[go_sem] def aSO:=k 0x1856fbb4da7c
@[go_sem] def aSP:=k 0x1a269638
@[go_sem] def aSQ:=k 0x17de96cba3ff5f8d74
@[go_sem] def aSR:=k 0x3d2262547a44528a06f142afbd26b22a02548de732303704aeb54c56085343de8bfa70857639d
@[go_sem] def aSS:=k 0xe9c63e8adbd1f9
def aST:TC:=(.seq (.reg aSP) (.seq (.cond (.t 21) .skip (.exit 0)) (.seq (.block 1 (.seq (.reg aSQ) (.reg aSR))) (.reg aSS))))
@[go_sem] def aSU:=k 0xee30f06cf0d
@[go_sem] def aIt:=k 0x2024c
@[go_sem] def aIu:=k 0xfb10a3b256d
@[go_sem] def aIv:=k 0x202e0
@[go_sem] def aIw:=k 0xc4baa7772fcd
@[go_sem] def XH:=k 0xdd938789
@[go_sem] def aIx:=k 0x9a66af37aaab9a7302f20546248d
@[go_sem] def aIy:=k 0x18e337da3db4087c1d
@[go_sem] def XI:=k 0xf02fc
@[go_sem] def aIz:=k 0x3348aaf9ba1a8526e5520df731df65e9bf4f94a1c377c8db3f7c02b5bad
@[go_sem] def bFQ:=k 0x8118df0650f5fa638bd
def bBn:TC:=(.seq (.seq (.reg aIz) (.cond (.t 61) .skip (.exit 4))) (.block 5 (.reg bFQ)))
@[go_sem] def bFR:=k 0xab15752b43d2dd56ac0ad271e
@[go_sem] def bFS:=k 0x1b173fec0b01f2ca
def bBo:TC:=(.seq (.reg XH) (.seq (.cond (.t 44) .skip (.exit 2)) (.seq (.block 3 (.seq (.reg aIx) (.seq (.seq (.reg aIy) (.cond (.t 50) (.exit 3) .skip)) (.seq (.reg XI) (.seq (.block 4 (.loop bBn)) (.reg bFR)))))) (.reg bFS))))
@[go_sem] def bFT:=k 0x36c0f077ce6bde
def Qu:TF:=⟨69,[.t 6],(.seq (.reg aSL) (.seq (.reg aSM) (.seq (.reg aSN) (.seq (.seq (.reg aSO) (.block 0 (.loop aST))) (.seq (.seq (.reg aSU) (.cond (.t 38) (.seq (.reg aIt) .ret) .skip)) (.seq (.seq (.reg aIu) (.cond (.t 40) (.seq (.reg aIv) .ret) .skip)) (.seq (.seq (.reg aIw) (.block 2 (.loop bBo))) (.seq (.reg bFT) .ret))))))))⟩
/-! horarium/horariumref7.Budget -/
@[go_sem] def aSV:=k 0x2024c
@[go_sem] def aSW:=k 0x743090cf8ba57a8c
@[go_sem] def aSX:=k 0x27e6836e80572c9795a5319e70e590b5f47bec5b122fe45716d98b0ad72749aaaa737a8ec
@[go_sem] def bJp:=k 0x202e0
@[go_sem] def bJq:=k 0x1ee304eaeba4d6198c
@[go_sem] def bJr:=k 0x2f5dc
@[go_sem] def bJs:=k 0x519d1e5820868fc7759bed
@[go_sem] def bJt:=k 0x3470c
@[go_sem] def bJu:=k 0x288ea0dc49ab95d80f9ebb5c38ef1906c1973c3d
@[go_sem] def bJv:=k 0xe7e2c1e9
@[go_sem] def bFU:=k 0x626168563d73c915f25
@[go_sem] def bFV:=k 0x1967e935ccece0354d
@[go_sem] def bFW:=k 0x6c8610b9f1e453d90dd
@[go_sem] def bFX:=k 0x1602748cabc8759
def bBp:TC:=(.seq (.reg bJv) (.seq (.cond (.t 46) .skip (.exit 2)) (.seq (.block 3 (.seq (.reg bFU) (.seq (.reg bFV) (.cond (.t 51) (.reg bFW) .skip)))) (.reg bFX))))
@[go_sem] def bFY:=k 0x24fc882c8a082a399c54ec6d
@[go_sem] def bFZ:=k 0x180c66f48eb3fb802042e0ad
def bBq:TC:=(.seq (.seq (.reg bJs) (.cond (.t 34) .skip (.exit 0))) (.seq (.block 1 (.seq (.reg bJt) (.seq (.seq (.reg bJu) (.block 2 (.loop bBp))) (.reg bFY)))) (.reg bFZ)))
@[go_sem] def bF0:=k 0x5d7ea2051dffd
def Qv:TF:=⟨59,[.t 6],(.seq (.reg aSV) (.seq (.reg aSW) (.seq (.seq (.reg aSX) (.cond (.t 28) (.seq (.reg bJp) .ret) .skip)) (.seq (.reg bJq) (.seq (.seq (.reg bJr) (.block 0 (.loop bBq))) (.seq (.reg bF0) .ret))))))⟩
/-! horarium/horariumref12.Right -/
@[go_sem] def aSY:=k 0x8e1ac80
@[go_sem] def aSZ:=k 0x2f94d5ab02578582cd420967e9fb824fe898
@[go_sem] def aS0:=k 0x206b5b24f8fc
def Qw:TF:=⟨11,[.t 2],(.seq (.reg aSY) (.seq (.reg aSZ) (.seq (.reg aS0) .ret)))⟩
/-! horarium/config.Where -/
@[go_sem] def aS8:=k 0x168784c1ac80
@[go_sem] def aS9:=k 0x199c3bcfd6718dd77e7537fc34fc5c683309ce237bcb6674cdbe0a16ed0868e89f509c52c35713dc886f40ef7cbb7042ec1453591c68579500a74e811082adf36f144154e4f7f2ab281215dad7e431
@[go_sem] def bJw:=k 0x9006f8c
@[go_sem] def bJx:=k 0xf90d24d5f956e0c571
@[go_sem] def bJy:=k 0xd86bea59
@[go_sem] def bJz:=k 0x17e04346148800022892bba312a597875d
@[go_sem] def bJA:=k 0xe149ee7ca246edc4f64e7792cd314f04fc2033db6e0c8d9a6696cef6fa1f347ef1
@[go_sem] def bJB:=k 0x1e1c65fc7f5abd012d
@[go_sem] def bJC:=k 0x7c8891d3d5fe9f21
@[go_sem] def bJD:=k 0x2026ff1d6ac3be45ed
@[go_sem] def bF1:=k 0x19e17904aeb4ff3a
def bBr:TC:=(.seq (.reg bJy) (.seq (.cond (.t 43) .skip (.exit 0)) (.seq (.block 1 (.seq (.reg bJz) (.seq (.seq (.reg bJA) (.cond (.t 58) (.seq (.reg bJB) .ret) .skip)) (.seq (.reg bJC) (.cond (.t 62) (.seq (.reg bJD) .ret) .skip))))) (.reg bF1))))
@[go_sem] def bF2:=k 0x1eaf4fa007801a895052
@[go_sem] def bF3:=k 0x56ee5c53a
@[go_sem] def bF4:=k 0x3f1308a3b1386ebd3af0a5103f9530b2ae3e
@[go_sem] def bF5:=k 0x18476d3b4c3d1dcd3ef3da2a
@[go_sem] def bF6:=k 0x274c15f4b4d9670168e
@[go_sem] def bF7:=k 0x1f9843840e716fda
def bBs:TC:=(.seq (.reg bF3) (.seq (.cond (.t 69) .skip (.exit 2)) (.seq (.block 3 (.seq (.reg bF4) (.seq (.reg bF5) (.cond (.t 76) (.seq (.reg bF6) .ret) .skip)))) (.reg bF7))))
@[go_sem] def bF8:=k 0x1f21a124dcde1ed9c0f2
@[go_sem] def bF9:=k 0x68d4a85da
@[go_sem] def bGa:=k 0x8d4275596a65199f08c520e0476ede
@[go_sem] def bGb:=k 0xe6af865a18357dbc088384aca
@[go_sem] def bGc:=k 0x486a5a91de95fe
@[go_sem] def bGd:=k 0x1e1ac81133a89697ab17385e
@[go_sem] def bGe:=k 0x261361831a9e82da
def bBt:TC:=(.seq (.reg bF9) (.seq (.cond (.t 83) .skip (.exit 4)) (.seq (.block 5 (.seq (.reg bGa) (.seq (.reg bGb) (.seq (.reg bGc) (.cond (.t 91) (.seq (.reg bGd) .ret) .skip))))) (.reg bGe))))
@[go_sem] def bGf:=k 0x37d1bd8c
def LS:TF:=⟨95,[.t 2,.t 3],(.seq (.reg aS8) (.seq (.seq (.reg aS9) (.cond (.t 38) (.seq (.reg bJw) .ret) .skip)) (.seq (.seq (.reg bJx) (.block 0 (.loop bBr))) (.seq (.seq (.reg bF2) (.block 2 (.loop bBs))) (.seq (.seq (.reg bF8) (.block 4 (.loop bBt))) (.seq (.reg bGf) .ret))))))⟩
/-! slices.Clip[[]horarium/api.Proc,horarium/api.Proc] -/
@[go_sem] def aTa:=k 0xbdc4
@[go_sem] def aTb:=k 0x2aad5c6e7cc3783e7b554e3ac91912cf4eac
def LT:TF:=⟨9,[.t 2],(.seq (.reg aTa) (.seq (.reg aTb) .ret))⟩
/-! slices.Clone[[]horarium/api.Proc,horarium/api.Proc] -/
@[go_sem] def aTe:=k 0xbdc4
@[go_sem] def aTf:=k 0x4d9d604eac
@[go_sem] def bJE:=k 0xbdc4
@[go_sem] def bJF:=k 0x9287ac66cbbd547223c8
def Qx:TF:=⟨8,[.t 2],(.seq (.reg aTe) (.seq (.seq (.reg aTf) (.cond (.t 4) (.seq (.reg bJE) .ret) .skip)) (.seq (.reg bJF) .ret)))⟩
/-! slices.Clip[[]horarium/api.Chan,horarium/api.Chan] -/
@[go_sem] def aTg:=k 0xbdc4
@[go_sem] def aTh:=k 0x2aad5c6e7ce62b19d093214fb51912cf4eac
def Qy:TF:=⟨9,[.t 2],(.seq (.reg aTg) (.seq (.reg aTh) .ret))⟩
/-! slices.Clone[[]horarium/api.Chan,horarium/api.Chan] -/
@[go_sem] def aTk:=k 0xbdc4
@[go_sem] def aTl:=k 0x4d9d604eac
@[go_sem] def bJG:=k 0xbdc4
@[go_sem] def bJH:=k 0x9287ac66cf0f00fb23c8
def LU:TF:=⟨8,[.t 2],(.seq (.reg aTk) (.seq (.seq (.reg aTl) (.cond (.t 4) (.seq (.reg bJG) .ret) .skip)) (.seq (.reg bJH) .ret)))⟩
/-! slices.Clip[[]horarium/api.Node,horarium/api.Node] -/
@[go_sem] def aTm:=k 0xbdc4
@[go_sem] def aTn:=k 0x2aad5c6e7ce65fa980cb8b14c11912cf4eac
def LV:TF:=⟨9,[.t 2],(.seq (.reg aTm) (.seq (.reg aTn) .ret))⟩
/-! slices.Clone[[]horarium/api.Node,horarium/api.Node] -/
@[go_sem] def aTq:=k 0xbdc4
@[go_sem] def aTr:=k 0x4d9d604eac
@[go_sem] def aTs:=k 0xbdc4
@[go_sem] def aTt:=k 0x9287ac66cc57d0e823c8
def Qz:TF:=⟨8,[.t 2],(.seq (.reg aTq) (.seq (.seq (.reg aTr) (.cond (.t 4) (.seq (.reg aTs) .ret) .skip)) (.seq (.reg aTt) .ret)))⟩
/-! (*horarium/proc.Table).Reset -/
@[go_sem] def aTv:=k 0x2f392d71d6e24f264690588eac
@[go_sem] def aTw:=k 0xa6ffff8
@[go_sem] def bJI:=k 0x206b5b57b6fc
@[go_sem] def bJJ:=kd 0x471f11567169f8da47b93fc0b62e91b4dce973c4e2437af8b5bb8b4f22e8218a3aefccb57ec4f6a219adbe270
@[go_sem] def bJK:=k 0xa299795602ee8
def bCQ:TC:=(.seq (.reg aTw) (.seq (.cond (.t 9) .skip (.exit 0)) (.seq (.block 1 (.seq (.reg bJI) (.dreg bJJ))) (.reg bJK))))
def QA:TF:=⟨26,[],(.seq (.reg aTv) (.block 0 (.loop bCQ)))⟩
/-! container/heap.Push -/
@[go_sem] def aTx:=k 0x21f48357a1b89fdc
@[go_sem] def aTy:=k 0x300ed53a4b80b34455ce70936c
def QB:TF:=⟨12,[],(.seq (.reg aTx) (.reg aTy))⟩
/-! (*horarium/proc.ready).Len -/
@[go_sem] def aTz:=k 0xbd8c
@[go_sem] def aTA:=k 0x75e67975479a083413264690588eac
def QC:TF:=⟨8,[.t 2],(.seq (.reg aTz) (.seq (.reg aTA) .ret))⟩
/-! container/heap.Pop -/
@[go_sem] def aTE:=k 0xc028
@[go_sem] def aTF:=k 0xfcebb78b81c188f5b1fdc
@[go_sem] def aTG:=k 0x727268c04eb4b936c
@[go_sem] def aTH:=k 0xa37d0136188ec86fc
@[go_sem] def aTI:=k 0x72e9f12bf0ae3a8c
def QD:TF:=⟨15,[.t 2],(.seq (.reg aTE) (.seq (.reg aTF) (.seq (.reg aTG) (.seq (.reg aTH) (.seq (.reg aTI) .ret)))))⟩
/-! horarium/isa.regs -/
@[go_sem] def aTO:=k 0x8da3c779c
@[go_sem] def aTP:=k 0x1b10c
@[go_sem] def bJL:=k 0x2e5522f4c3984
@[go_sem] def bJM:=k 0x34c4fd39dbab4
@[go_sem] def bJN:=k 0x3b34d77a831e4
@[go_sem] def bJO:=k 0x41a4b1bc6f514
@[go_sem] def bJP:=k 0x48148bfd16c44
@[go_sem] def bJQ:=k 0x4e84663dbe374
@[go_sem] def bJR:=k 0x8da3c77e8
@[go_sem] def bJS:=k 0x5ccc9273897d4
@[go_sem] def bGg:=k 0x633c6cb430f04
@[go_sem] def bGh:=k 0x69ac46f4d8634
@[go_sem] def bGi:=k 0x701c21357fd64
@[go_sem] def bGj:=k 0x1824a3a1e8
@[go_sem] def bGk:=k 0x7dfd4fd02c5c4
@[go_sem] def bGl:=k 0x846d2a10d3cf4
@[go_sem] def bGm:=k 0x8dafd49e8
@[go_sem] def bGn:=k 0x91e75b0967754
@[go_sem] def bGo:=k 0x9857354a0ee84
@[go_sem] def bGp:=k 0x8dafd499c
@[go_sem] def bGq:=k 0x8da3c779c
def LW:TF:=⟨24,[.t 2,.t 3,.t 4],(.seq (.reg aTO) (.seq (.seq (.reg aTP) (.block 0 (.seq (.seq (.reg bJL) (.cond (.t 6) .skip (.seq (.reg bJM) (.cond (.t 6) .skip (.seq (.reg bJN) (.cond (.t 6) .skip (.seq (.reg bJO) (.cond (.t 6) .skip (.seq (.reg bJP) (.cond (.t 6) .skip (.reg bJQ))))))))))) (.cond (.t 6) (.seq (.reg bJR) .ret) (.seq (.seq (.reg bJS) (.cond (.t 13) .skip (.seq (.reg bGg) (.cond (.t 13) .skip (.seq (.reg bGh) (.cond (.t 13) .skip (.reg bGi))))))) (.cond (.t 13) (.seq (.reg bGj) .ret) (.seq (.seq (.reg bGk) (.cond (.t 18) .skip (.reg bGl))) (.cond (.t 18) (.seq (.reg bGm) .ret) (.seq (.seq (.reg bGn) (.cond (.t 21) .skip (.reg bGo))) (.cond (.t 21) (.seq (.reg bGp) .ret) .skip)))))))))) (.seq (.reg bGq) .ret)))⟩
/-! horarium/isa.field -/
@[go_sem] def aT3:=k 0x15ffc
@[go_sem] def aT4:=k 0x1417777448f3202ac160043ff1bee0377de88849cf26b0d1d496d0d51cd169b8b6318d1cd8c3310c
def CW:TF:=⟨19,[.t 4],(.seq (.reg aT3) (.seq (.reg aT4) .ret))⟩
/-! (*horarium/part.Part).count -/
@[go_sem] def aUd:=k 0x175e24711740
@[go_sem] def aUe:=k 0x649fc1c5246fd6e0
@[go_sem] def aUf:=k 0x29d7d5cef890
@[go_sem] def aUg:=k 0x6a13454e3fa34
@[go_sem] def aUh:=kd 0x253a8a6c2003c947af8d8c7fa775ebf17e85dd057bd040d6e3f3c0d733aa9a8d9ae7bad31436fe00db90
@[go_sem] def aUi:=k 0xd7aba898917665
@[go_sem] def aUj:=kd 0x393df3add90ca35b48edd0c794b155f9aaba341e1f2e4fae926a534c9bba6bbd423529c0c65bc380532993dcc1
@[go_sem] def aUk:=k 0x146cedcd1ab2695
@[go_sem] def bJT:=kd 0x4d59ed944f5110de95c6823f9009f40a74cf9e5323a2378097cbed8df80bf3698c480294741e0676d5f00c43b6db69f2
@[go_sem] def bJU:=k 0x1b29c17d370852c6
@[go_sem] def bGr:=kd 0x1a3c77dbdca9191a0c13a4cea860a48d7b0e372f887f9df22
@[go_sem] def bGs:=k 0x33836cedc
@[go_sem] def bGt:=kd 0x6b109b3693ce0e3cf64b36caee75199be4c88e6107d68768c905ca68f99951a416063778232e2bd815ec3a73c44470a2
@[go_sem] def bGu:=k 0x254ca40b40550076
@[go_sem] def bGv:=k 0x3473c
@[go_sem] def bGw:=k 0x3df6016586e1500e7db5ed96c214bf752d7b618e
@[go_sem] def bGx:=k 0x163b26801853a9cc089a69a9e26861f54bbdeecca27d1de
@[go_sem] def bGy:=k 0x2bc95dffc082ab76
@[go_sem] def bGz:=k 0x382dfc8d74fb2a0748e
@[go_sem] def bGA:=kd 0x23577c91cfcd157084c7f3b8363d1824d116e32fd537f0f0aad32
@[go_sem] def bGB:=k 0x32feeb8754f773e
def Ia:TF:=⟨119,[.t 8,.t 9],(.seq (.reg aUd) (.seq (.reg aUe) (.seq (.seq (.reg aUf) (.block 0 (.seq (.reg aUg) (.cond (.t 15) (.dreg aUh) (.seq (.reg aUi) (.cond (.t 32) (.dreg aUj) (.seq (.reg aUk) (.cond (.t 49) (.dreg bJT) (.seq (.reg bJU) (.cond (.t 66) (.seq (.seq (.dreg bGr) (.cond (.t 75) (.seq (.reg bGs) .ret) .skip)) (.dreg bGt)) (.seq (.reg bGu) (.cond (.t 91) (.seq (.reg bGv) (.seq (.reg bGw) (.cond (.t 99) (.reg bGx) .skip))) (.seq (.reg bGy) (.cond (.t 107) (.reg bGz) .skip)))))))))))))) (.seq (.dreg bGA) (.seq (.reg bGB) .ret)))))⟩
/-! (*horarium/part.Part).word -/
@[go_sem] def aUl:=k 0x172aa59ec610
@[go_sem] def aUm:=kd 0x5e5e4b4746eec0465d6e80e0a076c5860f28908be6a4c33ef455a164743cb91d4a10
@[go_sem] def bJV:=k 0x21e6ff3740c
@[go_sem] def bJW:=k 0x26a3ae47c
@[go_sem] def bJX:=k 0x18b02e97adfd07fe70
@[go_sem] def bJY:=kd 0x93e1487e4399604e0da96cefa12ff1d899e3140429eda21a2a0083db92b6d9bdc4789e54b41
@[go_sem] def bJZ:=kd 0xc3e33adc60bcee8556f6be6dff50bcccaf8fb6a9115a4c33b0d7925439f2c3b40b28a190d81
@[go_sem] def bJ0:=k 0x298e6f96039a8e5c2e8b4e8820e36e170a68f67d
def QE:TF:=⟨56,[.t 6,.t 7],(.seq (.reg aUl) (.seq (.dreg aUm) (.seq (.seq (.reg bJV) (.cond (.t 22) (.seq (.reg bJW) .ret) .skip)) (.seq (.seq (.reg bJX) (.cond (.t 25) (.dreg bJY) (.dreg bJZ))) (.seq (.reg bJ0) .ret)))))⟩
/-! horarium/isa.Imm -/
@[go_sem] def aUn:=k 0x181aac80
@[go_sem] def aUo:=k 0x2ad88a0538800b0f49e2f38f1934a7896317d8b0ecb4b0
def QF:TF:=⟨11,[.t 2],(.seq (.reg aUn) (.seq (.reg aUo) .ret))⟩
/-! (*horarium/proc.Table).Sleep -/
@[go_sem] def aUr:=k 0x2025c
@[go_sem] def aUs:=k 0x3b34a16a2719936c
@[go_sem] def aUt:=k 0x4a64b67fe876891f2d35ee611cb5f03a17579912b9c6fc
@[go_sem] def aUu:=k 0x344e194c5355d9939d107c
def QG:TF:=⟨21,[.t 6],(.seq (.reg aUr) (.seq (.seq (.reg aUs) (.cond (.t 9) (.reg aUt) .skip)) (.seq (.reg aUu) .ret)))⟩
/-! (*horarium/proc.Table).End -/
@[go_sem] def aUv:=k 0x15ffc
@[go_sem] def aUw:=k 0x2a5d32eefc18f10c
@[go_sem] def aUx:=k 0xc4fb85efb3fed32fde5a04b552a92013c8e7249c
@[go_sem] def aUy:=k 0x2c5fd539876c10d31c1cec
def Gn:TF:=⟨18,[.t 4],(.seq (.reg aUv) (.seq (.seq (.reg aUw) (.cond (.t 7) (.reg aUx) .skip)) (.seq (.reg aUy) .ret)))⟩
/-! (*horarium/part.Part).call -/
@[go_sem] def aUF:=k 0x175e24711740
@[go_sem] def aUG:=k 0x29d7d5cef890
@[go_sem] def aUH:=k 0x6a1345567e834
@[go_sem] def aUI:=kd 0xecd85df2f565d644fae5c58d687e91058158d62c707a0a68a8fc0caa2d4f7b451d1e61d38d6d655929f8be170b7b78a6791
@[go_sem] def aUJ:=k 0x7e5af5de5aad76a5c3b38d463784cc92a4d
@[go_sem] def aUK:=k 0xfee5428f9b3985
@[go_sem] def aUL:=kd 0x1edf6f0b53a88a98578002681f184a97603303b5d0e0c9e1
@[go_sem] def bJ1:=k 0x81bdc2795c4c3576dc2ee956e106a2149bd
@[go_sem] def bJ2:=k 0x17e471513df6757685a7b6aff0d55149d34c841b19047ad
@[go_sem] def bJ3:=k 0x4063216dc
@[go_sem] def bGC:=k 0x7ad5b3f9688cb384d31
@[go_sem] def bGD:=kd 0xc10e9ca1405711d3f7d14ec133182f5e9762bb2ad3bcc1f202
@[go_sem] def bGE:=kd 0x6b1233781718bec5916164109eedfdafbb5d9e0e11a9eccb75ef0d5bdeadc7c8d73152
@[go_sem] def bGF:=k 0x30fbf753542c7be
@[go_sem] def bGG:=k 0x2d31c8b9bfdfe337a5b65b7f78d3adc2ecdd31f579fd5eb6a93421e
@[go_sem] def bGH:=k 0x8a8138aa813e
@[go_sem] def bGI:=kd 0x1c64a56d077e7ec6ebf59c58ccff7574c764fff39d6b3cab44ae2
@[go_sem] def bGJ:=k 0x33f6bb48df4fc0d28f5d2c38b837e1c136bee
@[go_sem] def bGK:=k 0x321730d657259de
def QH:TF:=⟨101,[.t 8,.t 9],(.seq (.reg aUF) (.seq (.seq (.reg aUG) (.block 0 (.seq (.reg aUH) (.cond (.t 15) (.seq (.dreg aUI) (.seq (.reg aUJ) .ret)) (.seq (.reg aUK) (.cond (.t 38) (.seq (.dreg aUL) (.seq (.reg bJ1) .ret)) .skip)))))) (.seq (.seq (.reg bJ2) (.cond (.t 58) (.seq (.reg bJ3) .ret) .skip)) (.seq (.seq (.reg bGC) (.cond (.t 61) (.seq (.dreg bGD) (.seq (.dreg bGE) (.seq (.reg bGF) .ret))) .skip)) (.seq (.reg bGG) (.seq (.seq (.reg bGH) (.cond (.t 87) (.dreg bGI) .skip)) (.seq (.reg bGJ) (.seq (.reg bGK) .ret))))))))⟩
/-! (*horarium/health.Log).Tell -/
@[go_sem] def aUM:=k 0x2a4ac
@[go_sem] def aUN:=k 0xf89fea3cf14532b9c6fc
@[go_sem] def aUO:=k 0x2a540
@[go_sem] def aUP:=k 0xbb09f9efac68c273e554e53d9283a98fab31569f5b064cbf244655b9e0729bc512cbbc
@[go_sem] def aUQ:=k 0x4bdabeddbdf1bc73f1eb2c
@[go_sem] def aUR:=k 0x8fd0c9ef25a167b817323ec37d03069ebd
@[go_sem] def aUS:=k 0x38885aca6e0ad
def QI:TF:=⟨36,[.t 8],(.seq (.reg aUM) (.seq (.seq (.reg aUN) (.cond (.t 13) (.seq (.reg aUO) .ret) .skip)) (.seq (.reg aUP) (.seq (.reg aUQ) (.seq (.reg aUR) (.seq (.reg aUS) .ret))))))⟩
/-! slices.Equal[[]horarium/proc.proc,horarium/proc.proc] -/
@[go_sem] def aUV:=k 0x15ffc
@[go_sem] def aUW:=k 0x17eb9a66608c3d61ab37e023c
@[go_sem] def bJ4:=k 0x15ffc
@[go_sem] def bJ5:=k 0x17a2bf8c982c
@[go_sem] def bJ6:=k 0x10fc13e8
@[go_sem] def bJ7:=k 0x30d03b670aec
@[go_sem] def bJ8:=kd 0x46f0eb245d129a960a6ede6fc44f3a5bc6399bdf8fa3d60
@[go_sem] def bJ9:=k 0x15ffc
@[go_sem] def bKa:=k 0xa39af3d57eee8
def bCR:TC:=(.seq (.reg bJ6) (.seq (.cond (.t 14) .skip (.exit 0)) (.seq (.block 1 (.seq (.reg bJ7) (.seq (.dreg bJ8) (.cond (.t 24) (.seq (.reg bJ9) .ret) .skip)))) (.reg bKa))))
@[go_sem] def bGL:=k 0x16048
def QJ:TF:=⟨26,[.t 4],(.seq (.reg aUV) (.seq (.seq (.reg aUW) (.cond (.t 10) (.seq (.reg bJ4) .ret) .skip)) (.seq (.seq (.reg bJ5) (.block 0 (.loop bCR))) (.seq (.reg bGL) .ret))))⟩
/-! (*horarium/health.Log).All -/
@[go_sem] def aUX:=k 0xbdc4
@[go_sem] def aUY:=k 0x75e67978d9bd35c7378bd600588eac
def QK:TF:=⟨8,[.t 2],(.seq (.reg aUX) (.seq (.reg aUY) .ret))⟩
/-! (*horarium/horariumref15.Part).begin -/
@[go_sem] def aU3:=k 0xadb2ff461bae97cf67263ceca475f9c6fc86c4f9fdc
@[go_sem] def aU4:=kd 0x23ce8a9cd74fc7eea43c91f79a2f1354f36e15548ac83dfa984b3d521e6b9adbe270
@[go_sem] def aU5:=k 0x1f6372f8
@[go_sem] def aU6:=k 0xa02254bcbc6c9acb46a70
@[go_sem] def aU7:=kd 0x6f884f387e7ae9c99c62c7d5934ca3ec5101912827e4ac1976cfe969116618adf10b4aa09bd7a1
@[go_sem] def aU8:=k 0x103eca5432916b9
def aU9:TC:=(.seq (.reg aU5) (.seq (.cond (.t 25) .skip (.exit 0)) (.seq (.block 1 (.seq (.reg aU6) (.dreg aU7))) (.reg aU8))))
def QL:TF:=⟨41,[],(.seq (.reg aU3) (.seq (.dreg aU4) (.block 0 (.loop aU9))))⟩
/-! (*horarium/horariumref15.Part).pick -/
@[go_sem] def aVc:=k 0xbd8c
@[go_sem] def aVd:=k 0x10f50
@[go_sem] def aVe:=k 0x300b6c8596ef621dfd43fdd36c
@[go_sem] def aVf:=k 0xfacdcb8
@[go_sem] def bKb:=k 0xb811c6f6a70ae14f41b986003fd93bc
@[go_sem] def bKc:=kd 0xc1962ca6de0e752bee03048a9435c4b060a510619609890013d3e8c8992b7139b8bf20bbf958d454c66ef2acc24f91
@[go_sem] def bKd:=kd 0x189d5bc12f548ed13ee5a7ffc5161f08c5472dee4c2b0864065d0dbdeb7a8c66ffc65a8b2cf0ff0526f4812fdd23eabf6fe371c9129b7102d28c3426b566513feb526f8488d7f1c2cec899e43c73ca69ef5637aa2b4f0675ac0f094e362eba083edeae7e6456f9dca6f156
@[go_sem] def bKe:=k 0x378a17db7c5d0e
@[go_sem] def bKf:=k 0x1c334767ddcee65a
def bAI:TC:=(.seq (.reg aVf) (.seq (.cond (.t 13) .skip (.exit 0)) (.seq (.block 1 (.seq (.reg bKb) (.seq (.dreg bKc) (.seq (.dreg bKd) (.cond (.t 68) (.reg bKe) .skip))))) (.reg bKf))))
@[go_sem] def bGM:=k 0x39247274c4676e
def QM:TF:=⟨72,[.t 2],(.seq (.reg aVc) (.seq (.reg aVd) (.seq (.seq (.reg aVe) (.block 0 (.loop bAI))) (.seq (.reg bGM) .ret))))⟩
/-! horarium/horariumref15.Fetch -/
@[go_sem] def aVg:=k 0x710344
@[go_sem] def aVh:=k 0x2f60e3bc3a81ba6aeb1b0cdeaa4c39121f64ae2ec246455e2c62682f8be6c238ff61a1a83c
@[go_sem] def aVi:=k 0x15c89e399e31b54
@[go_sem] def aVj:=kd 0x30faabd0306b5994f1268436eb037686733714bc9c97191af6acf13619a7f7563f86d23bf302744ae0d897fdc0c7c1dcf1c855c5a60bc9adad5a8de0082ddf9ff4d0902d3e3e9851
def QN:TF:=⟨45,[.cell 4 4 true,.t 5],(.seq (.reg aVg) (.seq (.seq (.reg aVh) (.cond (.t 19) (.seq (.reg aVi) .ret) .skip)) (.seq (.dreg aVj) .ret)))⟩
/-! horarium/horariumref15.Right -/
@[go_sem] def aVp:=k 0xdf4ac80
@[go_sem] def aVq:=k 0x31e09a9346e84e4ab4bd09c91a7300cc08bf75498aa0
@[go_sem] def aVr:=k 0x14e9b978
@[go_sem] def aVs:=k 0x1388118f86c5a2b0b4
@[go_sem] def aVt:=k 0x2f673b9ae339fc9fefef5a6ff9848adc
@[go_sem] def aVu:=k 0xbd9c
@[go_sem] def aVv:=k 0xaaa54ac868018
def aVw:TC:=(.seq (.reg aVr) (.seq (.cond (.t 17) .skip (.exit 0)) (.seq (.block 1 (.seq (.reg aVs) (.seq (.reg aVt) (.cond (.t 25) (.seq (.reg aVu) .ret) .skip)))) (.reg aVv))))
@[go_sem] def aVx:=k 0x5908a5130aa13feee33dc10cc39260751cafed4f6008f553dd4861
@[go_sem] def aVy:=k 0x15be6cdbf7de5c4c943ebbf280499157c2cb41a7eb2eb8eab8e9a83ecaa6fd6158c73ceda8082e4f527e750f5d0e94ca1c39001ee947bca2bf0825b64130de0c90b5503ba9ba37c1e8522d7b6b8a229f350051057bd54a6546848fe43f921db2bd2c7aec36d08fc5762983135a4e337b82
def A9:TF:=⟨69,[.t 2],(.seq (.reg aVp) (.seq (.seq (.reg aVq) (.block 0 (.loop aVw))) (.seq (.reg aVx) (.seq (.reg aVy) .ret))))⟩
/-! (*horarium/horariumref15.Part).do -/
@[go_sem] def aVz:=k 0x175e247b8e70
@[go_sem] def aVA:=k 0x36d90c42c2a75fa455643fb8cdb3bb3c
@[go_sem] def aVB:=k 0xf4a6ac26c
@[go_sem] def aVC:=k 0x5908a5130aa5059e914c902a47fb0737acafed4f6008f55442c461
@[go_sem] def aVD:=k 0x1270b7d
@[go_sem] def aVE:=kd 0x74c42677da7889f3384c50270165acb1c06ab20712ca2f1
@[go_sem] def aVF:=k 0x13de0fd
@[go_sem] def aVG:=kd 0x8b7f05eefba9709e3adca69f2d5b7cc79a282b90e773471
@[go_sem] def bKg:=k 0x154b67d
@[go_sem] def bKh:=kd 0xa239e5661cda57493d6cfd1759514cdd73e5a51abc1c5f1
@[go_sem] def bGN:=k 0x1c4078c
@[go_sem] def bGO:=k 0x5d564224c4801
@[go_sem] def bGP:=k 0x1d98873c77c3d9e6
@[go_sem] def bGQ:=kd 0x87afd4ae1a8940b321e1a211f482e2d775cb6
@[go_sem] def bGR:=k 0x20074cf827ee5906
@[go_sem] def bGS:=kd 0x2ef18776982660f8085d3cfcad088aec54eae4f8a962
@[go_sem] def bGT:=k 0x22ddde5320192956
@[go_sem] def bGU:=kd 0x32dafbaa39425abb416bbb634e808942946a28b9e8b2
@[go_sem] def bGV:=k 0x25b46fae1843f9a6
@[go_sem] def bGW:=kd 0x36c46fddda5e547e7a7a39c9eff88e66d201547b2802
@[go_sem] def bGX:=k 0x288b0109106ec9f6
@[go_sem] def bGY:=k 0xa28f1a87db0e
@[go_sem] def bGZ:=k 0x33836cedc
@[go_sem] def bG0:=kd 0x3bcc0544ce14959e0cfa932951dc16f23178714f0bb2
@[go_sem] def bG1:=k 0x2c3129a2989a3ca6
@[go_sem] def bG2:=k 0x2c98274698c325d6
@[go_sem] def bG3:=k 0x3bfbd225f3a1651288e8419d4c9f8f0226eee
@[go_sem] def bG4:=k 0x5d6f9ebe402cde
@[go_sem] def bG5:=k 0x26a3b86dc
@[go_sem] def bG6:=k 0x1e60b470170e9ef191742
@[go_sem] def bG7:=kd 0x9206cf7277be064d42e70e49a78e177844ee13502ec102165086dd397ff7655b313
@[go_sem] def bG8:=kd 0xcdbe38f52e07328175fddec488c3f9189e8b4438da4aef5d96d1bcab997aa04493
@[go_sem] def bG9:=k 0x37392955bd5d7e8de7
@[go_sem] def bHa:=k 0xb54cc26aee4e93c554fdfa1fb3
@[go_sem] def bHb:=k 0x393d1f03d75e2283d7
@[go_sem] def bHc:=k 0xe6258c6a794ef
@[go_sem] def bHd:=k 0xbe5d101a829e72ddf8dcfc5803
@[go_sem] def bHe:=k 0x3c0f76f7955ec71c27
@[go_sem] def bHf:=k 0x57001307879960f901ecd8a30f775dd9e96080622a33076e4ede9e384d588d8e342ed7cf120d3f
@[go_sem] def bHg:=k 0x414cf5bc3f60b25b97
@[go_sem] def bHh:=kd 0x5ee111a4c554fa00f8aae3793dad87edfda627d2e8c64cf606c9652a9771d2ef3
@[go_sem] def bHi:=kd 0x20ee122db9c326dbc449cb6acbeee0bd29b7fd7085dc192955ccc908fc28a0e9f767a64d3
@[go_sem] def bHj:=k 0xbbd859e6cd690cec8c86473
@[go_sem] def bHk:=k 0x4af990ffef615c5817
@[go_sem] def bHl:=kd 0x2b6458dc57ca65685b4863be1b33872a5a902f1ace85e4a1c8f7dbfce373
@[go_sem] def bHm:=k 0x4e9a4b3951634652c7
@[go_sem] def bHn:=k 0x101430ecc5d76859b940160a3df
@[go_sem] def bHo:=k 0xb4c37fae9c315fee49abfb0a540bde1e9e5d440bc689c6b9c34e1f387738e
@[go_sem] def bHp:=k 0x36b6c2639623de
@[go_sem] def bHq:=k 0x47731370ca3bec63e
@[go_sem] def bHr:=k 0x393c95e9e67f6e
@[go_sem] def bHs:=k 0x280795692d29f76f
@[go_sem] def bHt:=k 0x4431cb89c213c4374eb058d4904a02507319fc7312239cf
@[go_sem] def bHu:=k 0x5666950d0987d5a49dc2da9391e92420ef
@[go_sem] def bHv:=k 0x2fb61d9aa444b65af
def QO:TF:=⟨212,[.t 8,.t 9],(.seq (.reg aVz) (.seq (.reg aVA) (.seq (.reg aVB) (.seq (.reg aVC) (.seq (.seq (.reg aVD) (.cond (.t 34) (.dreg aVE) .skip)) (.seq (.seq (.reg aVF) (.cond (.t 42) (.dreg aVG) .skip)) (.seq (.seq (.reg bKg) (.cond (.t 50) (.dreg bKh) .skip)) (.seq (.reg bGN) (.seq (.seq (.reg bGO) (.block 0 (.seq (.reg bGP) (.cond (.t 72) (.dreg bGQ) (.seq (.reg bGR) (.cond (.t 78) (.dreg bGS) (.seq (.reg bGT) (.cond (.t 85) (.dreg bGU) (.seq (.reg bGV) (.cond (.t 92) (.dreg bGW) (.seq (.reg bGX) (.cond (.t 99) (.seq (.seq (.reg bGY) (.cond (.t 102) (.seq (.reg bGZ) .ret) .skip)) (.dreg bG0)) (.seq (.seq (.reg bG1) (.cond (.t 108) .skip (.reg bG2))) (.cond (.t 108) (.seq (.reg bG3) (.seq (.seq (.reg bG4) (.cond (.t 117) (.seq (.reg bG5) .ret) .skip)) (.seq (.reg bG6) (.cond (.t 120) (.dreg bG7) (.dreg bG8))))) (.seq (.reg bG9) (.cond (.t 136) (.reg bHa) (.seq (.reg bHb) (.cond (.t 141) (.seq (.reg bHc) (.cond (.t 144) (.reg bHd) .skip)) (.seq (.reg bHe) (.cond (.t 148) (.reg bHf) (.seq (.reg bHg) (.cond (.t 161) (.seq (.seq (.dreg bHh) (.cond (.t 172) (.dreg bHi) .skip)) (.reg bHj)) (.seq (.reg bHk) (.cond (.t 185) (.dreg bHl) (.seq (.reg bHm) (.cond (.t 194) (.reg bHn) (.seq (.reg bHo) (.seq (.seq (.reg bHp) (.cond (.t 69) (.seq (.reg bHq) .ret) .skip)) (.reg bHr))))))))))))))))))))))))))))) (.seq (.seq (.reg bHs) (.cond (.t 200) (.reg bHt) .skip)) (.seq (.reg bHu) (.seq (.reg bHv) .ret))))))))))))⟩
/-! (*horarium/horariumref15.Part).fault -/
@[go_sem] def aVH:=k 0xb34e0
@[go_sem] def aVI:=kd 0x6fd58f390754bc805bd86003d6375b13bd229b7951cf75bec6ce4af27295316096383af1c0978e701aefc9579786d3dc611eda7b5a953a320
@[go_sem] def aVJ:=kd 0x2d2a7a5b7b650062c3d8037e0a68ab2ec4bebedb3bd38eaceeaf29d5314e2942edff34d7b8248d4d41b53f8ee1
@[go_sem] def aVK:=k 0x11f95435a330f75
@[go_sem] def aVL:=kd 0xad637dab00ce54b0440bdd49c7e9985dd731eee7b798fd1ea6448f18a59db110ceb74cd1
@[go_sem] def aVM:=k 0x1749210ef4b7ae5
@[go_sem] def aVN:=k 0x1758b7667ffd
@[go_sem] def aVO:=k 0x6e8aec9ccb840e701eca9d
def QP:TF:=⟨60,[],(.seq (.reg aVH) (.seq (.dreg aVI) (.seq (.dreg aVJ) (.block 0 (.seq (.reg aVK) (.cond (.t 43) (.dreg aVL) (.seq (.reg aVM) (.cond (.t 56) (.reg aVN) (.reg aVO)))))))))⟩
/-! horarium/horariumlaw19.faults -/
@[go_sem] def aVQ:=k 0x15ffc
@[go_sem] def aVR:=k 0x17eb9a66608c3d61ab37e023c
@[go_sem] def aVS:=k 0x15ffc
@[go_sem] def aVT:=k 0x17a2bf8c982c
@[go_sem] def aVU:=k 0x10fc13e8
@[go_sem] def aVV:=k 0x30d03b670aec
@[go_sem] def aVW:=kd 0x1bfbab2acd94454432de8f622fd81f7751d2b8307ea247938e6b01e1e2704afbd9a829350513cf93593ddd609a08b97cdf015a26f22ad99ce6c504b7b841b21ca0a80db15f4a362dcc00222d22c799d2a5b44b6f4e1c9468001652b11e6e47ba64ebf1ffd61
@[go_sem] def aVX:=k 0x15ffc
@[go_sem] def aVY:=k 0x1567f80c85c3629
def aVZ:TC:=(.seq (.reg aVU) (.seq (.cond (.t 14) .skip (.exit 0)) (.seq (.block 1 (.seq (.reg aVV) (.seq (.dreg aVW) (.cond (.t 52) (.seq (.reg aVX) .ret) .skip)))) (.reg aVY))))
@[go_sem] def aJ6:=k 0x16048
def QQ:TF:=⟨54,[.t 4],(.seq (.reg aVQ) (.seq (.seq (.reg aVR) (.cond (.t 10) (.seq (.reg aVS) .ret) .skip)) (.seq (.seq (.reg aVT) (.block 0 (.loop aVZ))) (.seq (.reg aJ6) .ret))))⟩
/-! horarium/horariumref3.Right -/
@[go_sem] def aV0:=k 0xbd8c
@[go_sem] def aV1:=k 0x18a3360f594b10c
@[go_sem] def aV2:=k 0x1f2f8c
@[go_sem] def aV3:=k 0x497da2c8250f649c
@[go_sem] def aV4:=k 0x7a858c
@[go_sem] def aV5:=k 0x661234f89d4b582c
@[go_sem] def aV6:=k 0x8ed18c
@[go_sem] def aV7:=k 0x5f28e52c07c08fed9e6dee7581d5a99b1cec
@[go_sem] def aV8:=k 0x1e94e58b9ac
@[go_sem] def aV9:=k 0xb7698c
@[go_sem] def aJ7:=k 0xbd8c
def QR:TF:=⟨21,[.t 2],(.seq (.reg aV0) (.seq (.seq (.reg aV1) (.cond (.t 7) (.seq (.reg aV2) .ret) .skip)) (.seq (.seq (.reg aV3) (.cond (.t 10) (.seq (.reg aV4) .ret) .skip)) (.seq (.seq (.reg aV5) (.cond (.t 13) (.seq (.reg aV6) .ret) .skip)) (.seq (.seq (.reg aV7) (.seq (.reg aV8) (.cond (.t 20) (.seq (.reg aV9) .ret) .skip))) (.seq (.reg aJ7) .ret))))))⟩
/-! horarium/horariumref3.Tidy -/
@[go_sem] def aWa:=k 0xbdc4
@[go_sem] def aWb:=k 0x10ef4
@[go_sem] def bKi:=k 0x173bc1e7536c
@[go_sem] def bKj:=k 0xbbf3728
@[go_sem] def bKk:=k 0xdf94758e4c0c414302ea0
@[go_sem] def bKl:=k 0x73ef3dadd77dac8c
@[go_sem] def bKm:=k 0x105cfa0b99e9545af0
@[go_sem] def bKn:=kd 0x18581c734d064bcb4c5fc3a5afce421a80cc07eff9b36ceb749260d7ea487b2a92e05c0
@[go_sem] def bKo:=kd 0x46c8d0ea1ce2491570920ba66efbee4939441738370d6433227f5044f7bb2fae328317a141c82559ad78d7231
@[go_sem] def bKp:=k 0x9ddae023bba5027a4a65fe51448d
@[go_sem] def bHw:=k 0x13c591a100ef169
def bBu:TC:=(.seq (.reg bKj) (.seq (.cond (.t 10) .skip (.exit 0)) (.seq (.block 1 (.seq (.reg bKk) (.seq (.reg bKl) (.seq (.seq (.reg bKm) (.cond (.t 17) (.exit 1) .skip)) (.seq (.dreg bKn) (.cond (.t 30) (.dreg bKo) (.reg bKp))))))) (.reg bHw))))
@[go_sem] def bHx:=k 0x50852e159da7d
def QS:TF:=⟨51,[.t 2],(.seq (.reg aWa) (.seq (.reg aWb) (.seq (.seq (.reg bKi) (.block 0 (.loop bBu))) (.seq (.reg bHx) .ret))))⟩
/-! horarium/horariumref3.Leaves -/
@[go_sem] def aWc:=k 0xbdc4
@[go_sem] def aWd:=k 0x42840e13d76350eac
def QT:TF:=⟨5,[.t 2],(.seq (.reg aWc) (.seq (.reg aWd) .ret))⟩
/-! horarium/horariumref3.Sum -/
@[go_sem] def aWh:=k 0x15fec
@[go_sem] def aWi:=k 0x10aba57a169729b33cf8b5a9d865310c
@[go_sem] def aWj:=k 0xc194d9420ab2b4ba35cc
@[go_sem] def aWk:=k 0x162a4
@[go_sem] def aWl:=k 0x2731f1e8fced6b1cdb7a8c
def QU:TF:=⟨16,[.t 4],(.seq (.reg aWh) (.seq (.reg aWi) (.seq (.seq (.reg aWj) (.cond (.t 12) (.seq (.reg aWk) .ret) .skip)) (.seq (.reg aWl) .ret))))⟩
/-! horarium/horariumref7.words -/
@[go_sem] def aWq:=k 0xbdc4
@[go_sem] def aWr:=k 0x10ef4
@[go_sem] def aWs:=k 0x173bc1e7536c
@[go_sem] def aWt:=k 0xbbf3728
@[go_sem] def aWu:=k 0xdf94758e4c0c414302ea0
@[go_sem] def aWv:=k 0x2024c
@[go_sem] def aWw:=k 0x4af82758f283d0400b00808d34b2c33374af6a83811e8c
@[go_sem] def aWx:=k 0x3a8f3171beae84f67ceaefe82646299c
@[go_sem] def aWy:=k 0x17ad987310c91c793c
def aWz:TC:=(.seq (.seq (.reg aWw) (.cond (.t 21) .skip (.exit 2))) (.seq (.block 3 (.reg aWx)) (.reg aWy)))
@[go_sem] def aKb:=k 0xbc8c613c633a8
def aKc:TC:=(.seq (.reg aWt) (.seq (.cond (.t 10) .skip (.exit 0)) (.seq (.block 1 (.seq (.reg aWu) (.seq (.reg aWv) (.block 2 (.loop aWz))))) (.reg aKb))))
@[go_sem] def aKd:=k 0x60c9e1ab50bc
def QV:TF:=⟨31,[.t 2],(.seq (.reg aWq) (.seq (.reg aWr) (.seq (.seq (.reg aWs) (.block 0 (.loop aKc))) (.seq (.reg aKd) .ret))))⟩
/-! horarium/horariumref12.Where -/
@[go_sem] def aWA:=k 0x168784c1ac80
@[go_sem] def aWB:=k 0x1d7bc091f42f570b69f920cc8dc452a9e3979a459a00f54921a0ca7c12f90a33f2f8556f5b1f6c782a50393ade5d9ea33cad2ee1546cebaa1e018fb075b41a57797cda82373df25b7d1bc9e7d97a21
@[go_sem] def aWC:=k 0x9006f8c
@[go_sem] def aWD:=k 0xfb9a649fad63e25b61
@[go_sem] def aWE:=k 0xf231fc49
@[go_sem] def aWF:=k 0x18339beeffe34987eff3bb6ec9a732994d
@[go_sem] def aWG:=k 0x8bd9a00cd1105f2c3614e1
@[go_sem] def aWH:=k 0x1c9473371e5abc0d9d
@[go_sem] def aWI:=k 0x2024c
@[go_sem] def aAk:=k 0x1d8d6cbbe6bc54f6cd
@[go_sem] def aKE:=kd 0x3cbd21cc6a1f2b2098675946fcdba0fd0a71d257c87055c483418e0c6
@[go_sem] def bHy:=k 0x243c3050337061cff6e
@[go_sem] def bHz:=k 0x7cba2f6fbed8ceeea5d
def bBv:TC:=(.seq (.seq (.reg aAk) (.cond (.t 59) .skip (.exit 2))) (.seq (.block 3 (.seq (.dreg aKE) (.cond (.t 70) (.seq (.reg bHy) .ret) .skip))) (.reg bHz)))
@[go_sem] def bHA:=k 0x4a83da3f8c385e962
@[go_sem] def bHB:=k 0x2646c9643f24e1e442e
@[go_sem] def bHC:=k 0x1eb9629d7c34cd7a
def bBw:TC:=(.seq (.reg aWE) (.seq (.cond (.t 48) .skip (.exit 0)) (.seq (.block 1 (.seq (.reg aWF) (.seq (.seq (.reg aWG) (.cond (.t 55) (.seq (.reg aWH) .ret) .skip)) (.seq (.seq (.reg aWI) (.block 2 (.loop bBv))) (.seq (.reg bHA) (.cond (.t 74) (.seq (.reg bHB) .ret) .skip)))))) (.reg bHC))))
@[go_sem] def bHD:=k 0x1f114c5b07877a8d1e92
@[go_sem] def bHE:=k 0x66460b37a
@[go_sem] def bHF:=k 0x4830b9653f199c3f55076dad72ec215d9c7e
@[go_sem] def bHG:=k 0x5cba060d758349f5cac95f038f0491fd0ae
@[go_sem] def bHH:=k 0x2e712d8dced969d1f2e
@[go_sem] def bHI:=k 0x2543ca446205e07a
def bBx:TC:=(.seq (.reg bHE) (.seq (.cond (.t 81) .skip (.exit 4)) (.seq (.block 5 (.seq (.reg bHF) (.seq (.reg bHG) (.cond (.t 90) (.seq (.reg bHH) .ret) .skip)))) (.reg bHI))))
@[go_sem] def bHJ:=k 0x1f93f2a9b23c0ede3192
@[go_sem] def bHK:=k 0x7abaf467a
@[go_sem] def bHL:=k 0xa44154b67ef5d31a8fd1064e642f7e
@[go_sem] def bHM:=k 0x22b14d85918ea12c29047b490776ead7a59ab6643e
@[go_sem] def bHN:=k 0x554a0f1234d8fe
@[go_sem] def bHO:=k 0x2348abd38c0c6333a1fd7b5e
@[go_sem] def bHP:=k 0x652e38e2185be
@[go_sem] def bHQ:=k 0x8f2fdd97a
@[go_sem] def bHR:=k 0x269850f75380b6c747e8ec2f2
@[go_sem] def bHS:=k 0x3d6f6972f02e232b40b7f0d99694f605d34e2
@[go_sem] def bHT:=k 0x3e434f788424ef823fe
@[go_sem] def bHU:=k 0x31d6408beb8fb54a
def bBy:TC:=(.seq (.reg bHQ) (.seq (.cond (.t 113) .skip (.exit 8)) (.seq (.block 9 (.seq (.reg bHR) (.seq (.reg bHS) (.cond (.t 121) (.seq (.reg bHT) .ret) .skip)))) (.reg bHU))))
@[go_sem] def bHV:=k 0x1469a57f7bdf2622179d6406ba
@[go_sem] def bHW:=k 0x198bea620c6c01ef
@[go_sem] def bHX:=k 0xa8538eb1dbf6fa35ac88eca44f
@[go_sem] def bHY:=k 0x34c72bad1c48cc06cb
def bBz:TC:=(.seq (.reg bHK) (.seq (.cond (.t 97) .skip (.exit 6)) (.seq (.block 7 (.seq (.reg bHL) (.seq (.reg bHM) (.seq (.seq (.reg bHN) (.cond (.t 107) (.seq (.reg bHO) .ret) .skip)) (.seq (.seq (.reg bHP) (.block 8 (.loop bBy))) (.seq (.reg bHV) (.seq (.reg bHW) (.cond (.t 128) (.seq (.reg bHX) .ret) .skip)))))))) (.reg bHY))))
@[go_sem] def bHZ:=k 0x37d1bd8c
def QW:TF:=⟨132,[.t 2,.t 3],(.seq (.reg aWA) (.seq (.seq (.reg aWB) (.cond (.t 43) (.seq (.reg aWC) .ret) .skip)) (.seq (.seq (.reg aWD) (.block 0 (.loop bBw))) (.seq (.seq (.reg bHD) (.block 4 (.loop bBx))) (.seq (.seq (.reg bHJ) (.block 6 (.loop bBz))) (.seq (.reg bHZ) .ret))))))⟩
/-! horarium/config.Name -/
@[go_sem] def aWJ:=k 0xbd9c
@[go_sem] def aWK:=k 0x17225a05c23c
@[go_sem] def bKq:=k 0xa6ffff8
@[go_sem] def bKr:=k 0x20851ac0b6fc
@[go_sem] def bKs:=k 0x22040e9873fad7d3ccd82c
@[go_sem] def bKt:=k 0x6552e3f74f47f17c37dff2eba4674c3ba3bc
@[go_sem] def bKu:=k 0x198381e9bdd085837149083b6b8b30e9b95db0fb8bdbc936e07d2b7965abf8c03e807c8004a20c2ffd20b758dda02e50db7eedd
@[go_sem] def bKv:=k 0xbd9c
@[go_sem] def bKw:=k 0xf570f9e1f87459
def bCS:TC:=(.seq (.reg bKq) (.seq (.cond (.t 9) .skip (.exit 0)) (.seq (.block 1 (.seq (.reg bKr) (.seq (.reg bKs) (.seq (.reg bKt) (.seq (.reg bKu) (.cond (.t 37) (.seq (.reg bKv) .ret) .skip)))))) (.reg bKw))))
@[go_sem] def bH0:=k 0x61e8d408567c94198a60b718558c04d769160646d1d48bf796d
def QX:TF:=⟨47,[.t 2],(.seq (.reg aWJ) (.seq (.seq (.reg aWK) (.block 0 (.loop bCS))) (.seq (.reg bH0) .ret)))⟩
/-! slices.ContainsFunc[[]horarium/api.Part,horarium/api.Part] -/
@[go_sem] def aWL:=k 0x15ffc
@[go_sem] def aWM:=k 0x6ae6f913c76c5c67c26a298f10c
def QY:TF:=⟨9,[.t 4],(.seq (.reg aWL) (.seq (.reg aWM) .ret))⟩
/-! horarium/config.Where$1 -/
@[go_sem] def aWN:=k 0xdf4fdb0
@[go_sem] def aWO:=k 0x21c5c963284d943a1a5b310b3bf8dabe0
def QZ:TF:=⟨9,[.t 3],(.seq (.reg aWN) (.seq (.reg aWO) .ret))⟩
/-! horarium/config.part -/
@[go_sem] def aWW:=k 0xdf4ac80
@[go_sem] def aWX:=k 0x2e44da908a840
@[go_sem] def aWY:=k 0xa5bb408
@[go_sem] def aWZ:=k 0x413db43ddb9c8
@[go_sem] def aW0:=k 0x3820f32b9f6614302d222dede7361b02c
@[go_sem] def aW1:=k 0xbd9c
@[go_sem] def bKx:=k 0x6f1aa755da568
def bCT:TC:=(.seq (.reg aWY) (.seq (.cond (.t 9) .skip (.exit 0)) (.seq (.block 1 (.seq (.reg aWZ) (.seq (.reg aW0) (.cond (.t 16) (.seq (.reg aW1) .ret) .skip)))) (.reg bKx))))
@[go_sem] def bKy:=k 0x3586271686e97d0d7a5e525764d72563123c33693c3c8cb680
@[go_sem] def bKz:=k 0x33508c37183b5430687f3fe9e5cc0b4e81335b3e65e944fcc7b6217a23cf32a261a6ea07ced826fc5d9ce77cf65a50372e9572862fe4e8975732e53276033d539be426290082dcdeee745b50bc3062ca171b3ba601
def Q0:TF:=⟨54,[.t 2],(.seq (.reg aWW) (.seq (.seq (.reg aWX) (.block 0 (.loop bCT))) (.seq (.reg bKy) (.seq (.reg bKz) .ret))))⟩
/-! horarium/config.channel -/
@[go_sem] def aW2:=k 0x23810415bdb0
@[go_sem] def aW3:=k 0x8e2f11c
@[go_sem] def aW4:=k 0x19c036a296a0
@[go_sem] def aW5:=k 0xce0435171c
@[go_sem] def aW6:=k 0xadd5f44c14570b5e8c4be4f9300
@[go_sem] def aW7:=k 0xbdc712589e875df4d346f3eec5f661a76c331e319114365d75958f3fa5c4ecd1b6b2a04990b9c57cc241a045c4bb70ff0f8e2ccac2c992be6658e1a75a75a9bc84fbd31730e7374fb66742d27619beb22bcab18a2be3068f84983b4635bd9d6016fc1
def Q4:TF:=⟨48,[.t 4],(.seq (.reg aW2) (.seq (.reg aW3) (.seq (.seq (.reg aW4) (.cond (.t 9) (.reg aW5) .skip)) (.seq (.reg aW6) (.seq (.reg aW7) .ret)))))⟩
/-! horarium/config.table -/
@[go_sem] def aW9:=k 0x6f9ba8fdb0
@[go_sem] def aXa:=k 0x3a2783e904d95f62a051f1b20bba6a4b4a9c
@[go_sem] def aXb:=k 0x269f51c38d5c
@[go_sem] def aXc:=k 0x2d7e8e96afbc
@[go_sem] def TZ:=k 0x7e95e3d5bce4daec
@[go_sem] def bKA:=k 0xa3bfec
@[go_sem] def bKB:=k 0x3424aa325950cbc6955cd8
def LX:TF:=⟨21,[.t 4],(.seq (.reg aW9) (.seq (.reg aXa) (.seq (.seq (.reg aXb) (.cond (.t 13) (.seq (.reg aXc) .ret) .skip)) (.seq (.seq (.reg TZ) (.cond (.t 17) (.seq (.reg bKA) .ret) .skip)) (.seq (.reg bKB) .ret)))))⟩
/-! container/heap.up -/
@[go_sem] def aXd:=k 0x24f4c95c0080fa024fd570c
@[go_sem] def aXe:=k 0xf8364826e3dd1ffae22d1a6ac1d5cacdd21ba2ce57dddc27c9c
@[go_sem] def aXf:=k 0x3033954b04a33b2e58107c
@[go_sem] def aXg:=k 0x46f0b949ed3c
def aXh:TC:=(.block 1 (.seq (.reg aXd) (.seq (.seq (.reg aXe) (.cond (.t 17) (.exit 0) .skip)) (.seq (.reg aXf) (.reg aXg)))))
def Ib:TF:=⟨23,[],(.block 0 (.loop aXh))⟩
/-! container/heap.down -/
@[go_sem] def aXo:=k 0x2025c
@[go_sem] def aXp:=k 0x2424053dfe2c
@[go_sem] def bKC:=k 0x49dbbcf39b11b8850f2f35c
@[go_sem] def bKD:=k 0xc4ebd5dec6f49c9639d6779d3595f96564cec
@[go_sem] def bKE:=k 0x47beb4ba853c
@[go_sem] def bKF:=k 0x18d38e8a517651166c
@[go_sem] def bKG:=k 0x3c9d039c52f2b7cddd9d0771d04f02311c0fd408413415400cd
@[go_sem] def bKH:=k 0x36f2d415edb7d
@[go_sem] def bKI:=k 0x7cd8963b7eba8ebc8af9690834ad
@[go_sem] def bKJ:=k 0x1a51505d9f33275fc5c1ca9d
@[go_sem] def bH1:=k 0x46fd96005bb5d
def aAp:TC:=(.block 1 (.seq (.reg bKC) (.seq (.seq (.reg bKD) (.cond (.t 21) (.exit 0) .skip)) (.seq (.reg bKE) (.seq (.seq (.reg bKF) (.seq (.reg bKG) (.cond (.t 33) (.reg bKH) .skip))) (.seq (.seq (.reg bKI) (.cond (.t 39) (.exit 0) .skip)) (.seq (.reg bKJ) (.reg bH1))))))))
@[go_sem] def bH2:=k 0x1e7dfe347cbe8b7eed79748d
def Q5:TF:=⟨48,[.t 6],(.seq (.reg aXo) (.seq (.reg aXp) (.seq (.block 0 (.loop aAp)) (.seq (.reg bH2) .ret))))⟩
/-! (*horarium/proc.Table).is -/
@[go_sem] def aXq:=k 0x15ffc
@[go_sem] def aXr:=k 0x106d92e255ee098680c8902684f780ee076fb7acc2b8fb5b4f5e1cd8cd570c
def Gp:TF:=⟨16,[.t 4],(.seq (.reg aXq) (.seq (.reg aXr) .ret))⟩
/-! (*horarium/part.Part).channel -/
@[go_sem] def aXv:=k 0x2025c
@[go_sem] def aXw:=k 0x712b519236462c505bd92c6c32727694e41b0a9c
@[go_sem] def aXx:=k 0x2025c
@[go_sem] def aXy:=k 0x5386ad0b5649d270b079cd170eaaf278d211c2ec92f031ae1c
@[go_sem] def aXz:=kd 0x16f6f36147a3535b56b38db92c5e75417b7d8da36e0a15d82aee36fab6e4bd34406ba3df5ee87b865ba085ddea1789ae0763e401d8db3d2d2365882356a6843afb7fa6e1
def Ea:TF:=⟨47,[.t 6],(.seq (.reg aXv) (.seq (.seq (.reg aXw) (.cond (.t 15) (.seq (.reg aXx) .ret) .skip)) (.seq (.reg aXy) (.seq (.dreg aXz) .ret))))⟩
/-! (*horarium/health.Log).action -/
@[go_sem] def aXC:=k 0x15fec
@[go_sem] def aXD:=k 0x22a41b9a8d3107916e664d919210aa83c
@[go_sem] def aXE:=k 0x15abec
@[go_sem] def aXF:=k 0x1e75080b9e9fb3773fc011c0912fa52361f97b295c
@[go_sem] def bKK:=k 0x5a824c154bab819a5775dc14351039fac
@[go_sem] def bKL:=k 0x50e5bef006cc
@[go_sem] def bKM:=k 0x15abec
def Ic:TF:=⟨26,[.t 4],(.seq (.reg aXC) (.seq (.seq (.reg aXD) (.cond (.t 11) (.seq (.reg aXE) .ret) .skip)) (.seq (.seq (.reg aXF) (.seq (.reg bKK) (.cond (.t 24) (.seq (.reg bKL) .ret) .skip))) (.seq (.reg bKM) .ret))))⟩
/-! slices.Clone[[]horarium/health.Fault,horarium/health.Fault] -/
@[go_sem] def aXG:=k 0xbdc4
@[go_sem] def aXH:=k 0x4d9d604eac
@[go_sem] def aXI:=k 0xbdc4
@[go_sem] def aXJ:=k 0x9287ac66cc57d0e823c8
def Q6:TF:=⟨8,[.t 2],(.seq (.reg aXG) (.seq (.seq (.reg aXH) (.cond (.t 4) (.seq (.reg aXI) .ret) .skip)) (.seq (.reg aXJ) .ret)))⟩
/-! horarium/horariumref15.regs -/
@[go_sem] def aXQ:=k 0x8da3c779c
@[go_sem] def aXR:=k 0x1b10c
@[go_sem] def bKN:=k 0x2e5522f4c3984
@[go_sem] def bKO:=k 0x34c4fd39dbab4
@[go_sem] def bKP:=k 0x3b34d77a831e4
@[go_sem] def bKQ:=k 0x41a4b1bc6f514
@[go_sem] def bKR:=k 0x48148bfd16c44
@[go_sem] def bKS:=k 0x4e84663dbe374
@[go_sem] def bKT:=k 0x8da3c77e8
@[go_sem] def bKU:=k 0x5ccc9273897d4
@[go_sem] def bH3:=k 0x633c6cb430f04
@[go_sem] def bH4:=k 0x69ac46f4d8634
@[go_sem] def bH5:=k 0x701c21357fd64
@[go_sem] def bH6:=k 0x1824a3a1e8
@[go_sem] def bH7:=k 0x7dfd4fd02c5c4
@[go_sem] def bH8:=k 0x846d2a10d3cf4
@[go_sem] def bH9:=k 0x8dafd49e8
@[go_sem] def bIa:=k 0x91e75b0967754
@[go_sem] def bIb:=k 0x9857354a0ee84
@[go_sem] def bIc:=k 0x8dafd499c
@[go_sem] def bId:=k 0x8da3c779c
def Q7:TF:=⟨24,[.t 2,.t 3,.t 4],(.seq (.reg aXQ) (.seq (.seq (.reg aXR) (.block 0 (.seq (.seq (.reg bKN) (.cond (.t 6) .skip (.seq (.reg bKO) (.cond (.t 6) .skip (.seq (.reg bKP) (.cond (.t 6) .skip (.seq (.reg bKQ) (.cond (.t 6) .skip (.seq (.reg bKR) (.cond (.t 6) .skip (.reg bKS))))))))))) (.cond (.t 6) (.seq (.reg bKT) .ret) (.seq (.seq (.reg bKU) (.cond (.t 13) .skip (.seq (.reg bH3) (.cond (.t 13) .skip (.seq (.reg bH4) (.cond (.t 13) .skip (.reg bH5))))))) (.cond (.t 13) (.seq (.reg bH6) .ret) (.seq (.seq (.reg bH7) (.cond (.t 18) .skip (.reg bH8))) (.cond (.t 18) (.seq (.reg bH9) .ret) (.seq (.seq (.reg bIa) (.cond (.t 21) .skip (.reg bIb))) (.cond (.t 21) (.seq (.reg bIc) .ret) .skip)))))))))) (.seq (.reg bId) .ret)))⟩
/-! horarium/horariumref15.Imm -/
@[go_sem] def aXS:=k 0x181aac80
@[go_sem] def aXT:=k 0xf360c7c9dcc6816cb7c797ecf43a4f56a40ecb4b0
def CC:TF:=⟨10,[.t 2],(.seq (.reg aXS) (.seq (.reg aXT) .ret))⟩
/-! (*horarium/horariumref15.Part).call -/
@[go_sem] def aX2:=k 0x175e247b8e70
@[go_sem] def aX3:=k 0x29d7d5d91e90
@[go_sem] def aX4:=k 0x6a134553f5034
@[go_sem] def aX5:=kd 0x556d286e708d01ac15e54b05af55ccd0015f01c7193d16e8446305e22343cee89e8a710c8adc4cec9b417b286af785df4cfdef054d7dea1fb84b942168a1a168484cf80c12a9e55
@[go_sem] def bKV:=k 0x4063216dc
@[go_sem] def bKW:=kd 0x8b6856675a3b0bf045ae66698b5b7cc79a282b90e773471
@[go_sem] def bKX:=kd 0xae6fedca57bf32c190c60b8f5ef9b7c77b6ab50c6ebd3d5a7fe9c0adad62fe911205b1e1b1de973c1
@[go_sem] def bKY:=k 0x334ead7fc3bcbd
@[go_sem] def bKZ:=k 0x19f25e9f60238736
@[go_sem] def bK0:=kd 0x77c277f9694d83a22d209c8c04ad34e375ac3a87e9507a2b3ffae914b330b6008d8fb5815c6f765112942b8091b8062d62349b9aff1b9a628c0997cf4d1bab11240f4ce11d010b45a398e4f56
@[go_sem] def bIe:=k 0x4063216dc
@[go_sem] def bIf:=kd 0x20d371849812ca473d678f0fd1133bdf744150d2546d84b1c31f2ef3091969e45ef4676a8aaba2
@[go_sem] def bIg:=k 0xa28f1a5f430e
@[go_sem] def bIh:=kd 0x20ecc26ec1c8026d2fff1e2cc8153266de353b87064cf97a703b2
@[go_sem] def bIi:=k 0x3bd6aa32dc20726b8242f6b135e9abbef95be
@[go_sem] def bIj:=k 0x32d84c69d771bae
@[go_sem] def bIk:=k 0x2f6f869948ae1e26
@[go_sem] def bIl:=kd 0x26d46b697d67942877866a9a6c3e38fd06a1c9548bb5a3ae429f1c49b7f824fa8f4907171aa27ca1a727bfa58d5c0c5914cfaa39692ea7bf658f5048f75e1c83
@[go_sem] def bIm:=k 0x1e4d78534e26c836d6adc07b25215afddfffc4d4b6f
@[go_sem] def bIn:=k 0x38d5ede0cc4cd2d2a7
@[go_sem] def bIo:=kd 0x108dd60b5402858267506fbddad8fd65fd76815238bac55021a7d0edded6848f63d8155049043dd103
@[go_sem] def bIp:=k 0x1e70e460eabb115143373d0b4b87e04878df552af9f
@[go_sem] def bIq:=k 0x49aedc
def Q8:TF:=⟨157,[.t 8,.t 9],(.seq (.reg aX2) (.seq (.seq (.reg aX3) (.block 0 (.seq (.reg aX4) (.cond (.t 15) (.seq (.seq (.dreg aX5) (.cond (.t 42) (.seq (.reg bKV) .ret) .skip)) (.seq (.dreg bKW) (.seq (.dreg bKX) (.seq (.reg bKY) .ret)))) (.seq (.reg bKZ) (.cond (.t 63) (.seq (.seq (.dreg bK0) (.cond (.t 90) (.seq (.reg bIe) .ret) .skip)) (.seq (.dreg bIf) (.seq (.seq (.reg bIg) (.cond (.t 102) (.dreg bIh) .skip)) (.seq (.reg bIi) (.seq (.reg bIj) .ret))))) (.seq (.reg bIk) (.cond (.t 116) (.seq (.dreg bIl) (.seq (.reg bIm) .ret)) (.seq (.reg bIn) (.cond (.t 140) (.seq (.dreg bIo) (.seq (.reg bIp) .ret)) .skip)))))))))) (.seq (.reg bIq) .ret)))⟩
/-! horarium/horariumref3.Depth -/
@[go_sem] def aX6:=k 0xbd8c
@[go_sem] def aX7:=k 0x88ec0cd740d6f22da964114261ce06c5e7e0999f0215e820eac
@[go_sem] def aX8:=k 0xbd8c
@[go_sem] def aX9:=k 0xe5d3e2548d6a57a8c
def Q9:TF:=⟨15,[.t 2],(.seq (.reg aX6) (.seq (.seq (.reg aX7) (.cond (.t 12) (.seq (.reg aX8) .ret) .skip)) (.seq (.reg aX9) .ret)))⟩
/-! horarium/horariumref3.Length -/
@[go_sem] def aYd:=k 0xdf4fd8c
@[go_sem] def aYe:=k 0x30fe7624d6d3710c
@[go_sem] def aYf:=k 0xdf4fd8c
@[go_sem] def aYg:=k 0x953144b7c9648a49c
@[go_sem] def aYh:=k 0x10264f49efc
@[go_sem] def aYi:=k 0xdf4fd8c
@[go_sem] def aYj:=k 0xc38946d6fc15c
def Id:TF:=⟨13,[.t 2,.t 3],(.seq (.reg aYd) (.seq (.seq (.reg aYe) (.cond (.t 7) (.seq (.reg aYf) .ret) .skip)) (.seq (.reg aYg) (.seq (.seq (.reg aYh) (.cond (.t 11) (.seq (.reg aYi) .ret) .skip)) (.seq (.reg aYj) .ret)))))⟩
/-! horarium/horariumref3.leaves -/
@[go_sem] def aAM:=k 0x20284
@[go_sem] def aAN:=k 0x556b1dab4ecd785a60cd9a86fc
@[go_sem] def aAO:=k 0x6a13454d9d434
@[go_sem] def aAP:=kd 0x143c59235ea183c4a700de9e22bde1e14fc56e7d940310d67d0390fe15b06de3d0ee6496b5a925b1b90
@[go_sem] def aAQ:=k 0xd1220eef7cd935
@[go_sem] def aAR:=k 0x6ee1e95aa6149ea171592a33926694a91b95b3b536c6ce766c2a4d
@[go_sem] def aAS:=k 0x1190ba932a8ee45
@[go_sem] def Xf:=k 0x2537c
@[go_sem] def aAT:=k 0x3b29b3cd41dcdd9e58c4e66b8e4d0ba76d5235d
@[go_sem] def bCX:=k 0x3b6c0d1c37b45defc1e9caff75fa52edea0d
@[go_sem] def bBB:=k 0x6a62f884d3ddc005bad
def aOx:TC:=(.seq (.seq (.reg aAT) (.cond (.t 50) .skip (.exit 1))) (.seq (.block 2 (.reg bCX)) (.reg bBB)))
@[go_sem] def bBC:=k 0x5d7ea1fd817fd
@[go_sem] def bBD:=k 0x5261f8eb5f497d117efd12d
@[go_sem] def bBE:=k 0x5089d374a
@[go_sem] def bBF:=k 0x10dc31f6d01b0e62e2086
@[go_sem] def bBG:=k 0x3980fe2ba20c67651709c60080095aae
@[go_sem] def bBH:=k 0x1cc34e1f40f3378a
def aOC:TC:=(.seq (.reg bBE) (.seq (.cond (.t 64) .skip (.exit 3)) (.seq (.block 4 (.seq (.reg bBF) (.reg bBG))) (.reg bBH))))
@[go_sem] def bBI:=k 0x39f8dd96dc209e
def KY:TF:=⟨73,[.t 6],(.seq (.reg aAM) (.seq (.seq (.reg aAN) (.block 0 (.seq (.reg aAO) (.cond (.t 15) (.seq (.dreg aAP) .ret) (.seq (.reg aAQ) (.cond (.t 31) (.seq (.reg aAR) .ret) (.seq (.reg aAS) (.cond (.t 42) (.seq (.seq (.reg Xf) (.block 1 (.loop aOx))) (.seq (.reg bBC) .ret)) .skip)))))))) (.seq (.seq (.reg bBD) (.block 3 (.loop aOC))) (.seq (.reg bBI) .ret))))⟩
/-! horarium/horariumref12.Name -/
@[go_sem] def aAU:=k 0xbd9c
@[go_sem] def aAV:=k 0x10ebc
@[go_sem] def aAW:=k 0x6c1e5bac0aaf178e630c
@[go_sem] def aAX:=k 0x2e983b7846d1982a8695e593bfa9043afb4abaf980f39633e8d94b178dcee07f48a7d03eafbce1d3ccd82c
@[go_sem] def aAY:=k 0x2a9970773285727aee278b105866b5d2ef201f7f88ea8ea16f002e1c4e971fc68eebecd7eba27e93045b62b92778d62dab2d
@[go_sem] def aAZ:=k 0xbd9c
@[go_sem] def aA0:=k 0xa50366e45ae59e7cc
def aA1:TC:=(.seq (.seq (.reg aAW) (.cond (.t 8) .skip (.exit 0))) (.seq (.block 1 (.seq (.reg aAX) (.seq (.reg aAY) (.cond (.t 44) (.seq (.reg aAZ) .ret) .skip)))) (.reg aA0)))
@[go_sem] def aA2:=k 0x6eab905d5bfbb5498f7b12fe4f44f664ee891e660493a99608d
def KZ:TF:=⟨53,[.t 2],(.seq (.reg aAU) (.seq (.seq (.reg aAV) (.block 0 (.loop aA1))) (.seq (.reg aA2) .ret)))⟩
/-! horarium/horariumref12.partRight -/
@[go_sem] def aA3:=k 0xdf4ac80
@[go_sem] def aA4:=k 0x1ef1339a94a67cb558ca5a094bccadfe9d61ebb6d716eed3c3970
@[go_sem] def aA5:=k 0xbd9c
@[go_sem] def aA6:=k 0x7b81611c3107f6550
@[go_sem] def bCY:=k 0x1a269638
@[go_sem] def bCZ:=k 0xc4638bfd40ce6a2f78db0
@[go_sem] def bC0:=k 0x2a8bdede46f2034271280a44ebff75db80c1fb47538faaf962a17e39bd5c5f5fe6a15be6bcde511ba5621c951f60c10b018e7a1
@[go_sem] def bC1:=k 0xbd9c
@[go_sem] def bC2:=k 0x110655c0addb919
def bAM:TC:=(.seq (.reg bCY) (.seq (.cond (.t 21) .skip (.exit 0)) (.seq (.block 1 (.seq (.reg bCZ) (.seq (.reg bC0) (.cond (.t 41) (.seq (.reg bC1) .ret) .skip)))) (.reg bC2))))
@[go_sem] def bBJ:=k 0x31629336940a31
@[go_sem] def bBK:=k 0xe4cb2df9
@[go_sem] def bBL:=k 0x12f2c280a2461b9
@[go_sem] def bBM:=k 0x34f0154a54130f47f6fd373b870dcbdf1c1d
@[go_sem] def bBN:=k 0xbd9c
@[go_sem] def bBO:=k 0x1602748cabc8759
def aRg:TC:=(.seq (.reg bBK) (.seq (.cond (.t 46) .skip (.exit 2)) (.seq (.block 3 (.seq (.reg bBL) (.seq (.reg bBM) (.cond (.t 53) (.seq (.reg bBN) .ret) .skip)))) (.reg bBO))))
@[go_sem] def bBP:=k 0x62d656718664037bbebe7306a4094af25830e0d22bf8d871
@[go_sem] def bBQ:=k 0xbde8
@[go_sem] def bBR:=k 0x17aa9df8a93a1ef9d895dde3e14c6aac6beb463553025838188ba82af14b3e374ed8605ccde593b48b8bef5fecfe7d137f61995ea7cb58e7a0e6e7d818a88adf2
def K0:TF:=⟨83,[.t 2],(.seq (.reg aA3) (.seq (.seq (.reg aA4) (.cond (.t 16) (.seq (.reg aA5) .ret) .skip)) (.seq (.seq (.reg aA6) (.block 0 (.loop bAM))) (.seq (.seq (.reg bBJ) (.block 2 (.loop aRg))) (.seq (.seq (.reg bBP) (.cond (.t 62) (.seq (.reg bBQ) .ret) .skip)) (.seq (.reg bBR) .ret))))))⟩
/-! horarium/horariumref12.chanRight -/
@[go_sem] def aA7:=k 0x6fa0bbfdb0
@[go_sem] def aA8:=k 0x3d082db382e2717ff8f259c5f9421f4b46abf39a498753bd95d00831eff8f84b6dcebdb1a36c202290081510ed8918a3c1622deca35870f421534f83a098e94c629260b741f9d27bed835c3efe72695799b1f4120ae6c9a13c3e3080310e836ea49c06ade9be4ea4911
@[go_sem] def aA9:=k 0x15ffc
@[go_sem] def aBa:=k 0x3a9209af82bfd480460060a3f45caa04d2218af1d3cf4be58492cbe45a604f352cb00515c540dfdbc9eb55b231aad45a98595d6853a3da4138fae1ffdc09bd55c1c0501
def K2:TF:=⟨64,[.t 4],(.seq (.reg aA7) (.seq (.seq (.reg aA8) (.cond (.t 41) (.seq (.reg aA9) .ret) .skip)) (.seq (.reg aBa) .ret)))⟩
/-! horarium/horariumref7.Holds -/
@[go_sem] def aBg:=k 0x6f9ba8fdb0
@[go_sem] def aBh:=k 0x77eed3e72bf945300
@[go_sem] def aBi:=k 0x10fc13e8
@[go_sem] def aBj:=k 0x10e3183a40ce1430e50b7c
@[go_sem] def aBk:=k 0x1d60de10ca45a59e5c010d15a09801b1598a54c
@[go_sem] def aBl:=k 0x2487db45a163d1659de4f82af91b5e014028511f60dc97b45ae4e3b90fdcfe4ee4e8920a02e71
@[go_sem] def aBm:=k 0xc231ec
@[go_sem] def Xi:=k 0xe912028856d1f9
def aBn:TC:=(.seq (.reg aBi) (.seq (.cond (.t 14) .skip (.exit 0)) (.seq (.block 1 (.seq (.reg aBj) (.seq (.reg aBk) (.seq (.reg aBl) (.cond (.t 35) (.seq (.reg aBm) .ret) .skip))))) (.reg Xi))))
@[go_sem] def bC3:=k 0xf807d81ee484f46f11
@[go_sem] def bBS:=k 0xce1caff9
@[go_sem] def bBT:=k 0x286a3e4f3564caebe2b05f2f2fd8264cfd
@[go_sem] def bBU:=kd 0x1c74bf9e9ead14a38d4a1a40466f50b39c6e503d71b947488e1892e02c76f17d0462db732d3f95
@[go_sem] def bBV:=k 0xcc57ec
@[go_sem] def bBW:=k 0x17965f4a45ecc19
def aRG:TC:=(.seq (.reg bBS) (.seq (.cond (.t 41) .skip (.exit 2)) (.seq (.block 3 (.seq (.reg bBT) (.seq (.dreg bBU) (.cond (.t 57) (.seq (.reg bBV) .ret) .skip)))) (.reg bBW))))
@[go_sem] def bBX:=k 0x15fec
def K3:TF:=⟨59,[.t 4],(.seq (.reg aBg) (.seq (.seq (.reg aBh) (.block 0 (.loop aBn))) (.seq (.seq (.reg bC3) (.block 2 (.loop aRG))) (.seq (.reg bBX) .ret))))⟩
/-! slices.IndexFunc[[]horarium/api.Part,horarium/api.Part] -/
@[go_sem] def aBo:=k 0x15fec
@[go_sem] def aBp:=k 0x1722027e023c
@[go_sem] def aBq:=k 0xa6ffff8
@[go_sem] def aBr:=k 0x20b89992b6fc
@[go_sem] def aBs:=k 0xbf31a07ac1d40d68664c9cd6bbfe2c
@[go_sem] def aBt:=k 0x372655ed7d4c
@[go_sem] def aBu:=k 0x758a8195df698
def Xj:TC:=(.seq (.reg aBq) (.seq (.cond (.t 9) .skip (.exit 0)) (.seq (.block 1 (.seq (.reg aBr) (.seq (.reg aBs) (.cond (.t 16) (.seq (.reg aBt) .ret) .skip)))) (.reg aBu))))
@[go_sem] def aBv:=k 0x16080
def K4:TF:=⟨19,[.t 4],(.seq (.reg aBo) (.seq (.seq (.reg aBp) (.block 0 (.loop Xj))) (.seq (.reg aBv) .ret)))⟩
/-! horarium/config.procs -/
@[go_sem] def aBw:=k 0xbd9c
@[go_sem] def aBx:=k 0x17084314b10c
@[go_sem] def bC4:=k 0x920c8c8
@[go_sem] def bC5:=k 0xb38e696e3b4278751c040
@[go_sem] def bC6:=k 0xa848e5f45391269df9231b9159e1f28b85f96d12b07b843030
@[go_sem] def bC7:=k 0xbd9c
@[go_sem] def bC8:=k 0x88a6916fa2a28
def bAT:TC:=(.seq (.reg bC4) (.seq (.cond (.t 8) .skip (.exit 0)) (.seq (.block 1 (.seq (.reg bC5) (.seq (.reg bC6) (.cond (.t 20) (.seq (.reg bC7) .ret) .skip)))) (.reg bC8))))
@[go_sem] def bC9:=k 0xf753bc763b28bb0671cde62092c2e74c3d970dab0f3153c
def K5:TF:=⟨30,[.t 2],(.seq (.reg aBw) (.seq (.seq (.reg aBx) (.block 0 (.loop bAT))) (.seq (.reg bC9) .ret)))⟩
/-! horarium/config.within -/
@[go_sem] def aBy:=k 0x15ffc
@[go_sem] def aBz:=k 0x255685b0f13668765fd381861358e87cd1cd8c3310c
def K6:TF:=⟨12,[.t 4],(.seq (.reg aBy) (.seq (.reg aBz) .ret))⟩
/-! horarium/runs.Of -/
@[go_sem] def aBH:=k 0x47c7c4
@[go_sem] def aBI:=k 0x52c306933310f5cc
@[go_sem] def bDa:=k 0x2367648ef02c
@[go_sem] def bDb:=k 0x351428f9da5928c
@[go_sem] def bDc:=k 0x1b154
@[go_sem] def bDd:=k 0x7c19a1e63a980bbc
@[go_sem] def bDe:=k 0x10c41296fff9e39807c53695e4b1fa3948155a34c
@[go_sem] def bDf:=k 0x21ccd53f40c
@[go_sem] def bDg:=k 0xabeb5a14b31a28b59fdc6da46c
def bAW:TC:=(.block 1 (.seq (.reg bDe) (.seq (.seq (.reg bDf) (.cond (.t 22) (.exit 0) .skip)) (.reg bDg))))
@[go_sem] def bBY:=k 0xe5ff6589002d692c
@[go_sem] def bBZ:=k 0x7a9e0b128670b8c
@[go_sem] def bB0:=k 0x26a399fc4
@[go_sem] def bB1:=k 0x3047d53f7cbd1d
def K7:TF:=⟨33,[.t 2,.t 3],(.seq (.reg aBH) (.seq (.seq (.reg aBI) (.seq (.reg bDa) (.cond (.t 12) (.seq (.reg bDb) .ret) .skip))) (.seq (.reg bDc) (.seq (.reg bDd) (.seq (.block 0 (.loop bAW)) (.seq (.seq (.reg bBY) (.seq (.reg bBZ) (.cond (.t 31) (.seq (.reg bB0) .ret) .skip))) (.seq (.reg bB1) .ret)))))))⟩
/-! slices.ContainsFunc[[]horarium/api.Run,horarium/api.Run] -/
@[go_sem] def aBJ:=k 0x15ffc
@[go_sem] def aBK:=k 0x6ae6f913c76c5c6cfd4b7d8f10c
def K8:TF:=⟨9,[.t 4],(.seq (.reg aBJ) (.seq (.reg aBK) .ret))⟩
/-! horarium/config.table$1 -/
@[go_sem] def aBX:=k 0xdf4fdb0
@[go_sem] def aBY:=k 0x6041f863f43d40026e9f9192030b3bf8dabe0
def K9:TF:=⟨10,[.t 3],(.seq (.reg aBX) (.seq (.reg aBY) .ret))⟩
/-! horarium/bound.Holds -/
@[go_sem] def aB6:=k 0x6f9ba8fdb0
@[go_sem] def aB7:=k 0x77eed3e72bf945300
@[go_sem] def aB8:=k 0x10fc13e8
@[go_sem] def aB9:=k 0x10e3183a40ce1430e50b7c
@[go_sem] def aCa:=k 0x1d60de10ca52af4291ff49761a9801b1598a54c
@[go_sem] def aCb:=k 0x921f6d1f34762a8bf6e82fe1cb9d09e088b82a6fd565f614600bf993c87e4ee4e8920a02e71
@[go_sem] def aCc:=k 0xc231ec
@[go_sem] def bDh:=k 0xe912028856d1f9
def bBh:TC:=(.seq (.reg aB8) (.seq (.cond (.t 14) .skip (.exit 0)) (.seq (.block 1 (.seq (.reg aB9) (.seq (.reg aCa) (.seq (.reg aCb) (.cond (.t 35) (.seq (.reg aCc) .ret) .skip))))) (.reg bDh))))
@[go_sem] def bDi:=k 0xf807d81ee484f46f11
@[go_sem] def bB2:=k 0xce1caff9
@[go_sem] def bB3:=k 0x286a3e4f3564caebe2b05f2f2fd8264cfd
@[go_sem] def bB4:=kd 0x1c74bf9e9ead14a38d4a1a40466f5bf4b0b766016405e93a68b3f0e02c76f17d0462db732d3f95
@[go_sem] def bB5:=k 0xcc57ec
@[go_sem] def bB6:=k 0x17965f4a45ecc19
def aYn:TC:=(.seq (.reg bB2) (.seq (.cond (.t 41) .skip (.exit 2)) (.seq (.block 3 (.seq (.reg bB3) (.seq (.dreg bB4) (.cond (.t 57) (.seq (.reg bB5) .ret) .skip)))) (.reg bB6))))
@[go_sem] def bB7:=k 0x15fec
def FQ:TF:=⟨59,[.t 4],(.seq (.reg aB6) (.seq (.seq (.reg aB7) (.block 0 (.loop bBh))) (.seq (.seq (.reg bDi) (.block 2 (.loop aYn))) (.seq (.reg bB7) .ret))))⟩
/-! (*horarium/horariumref15.Kernel).change -/
@[go_sem] def aCd:=k 0x2027c
@[go_sem] def aCe:=k 0xa1eb316c5b19f3c77015f1c2c2b4bc94c0dcfb61bb23fdd36c
@[go_sem] def aCf:=k 0x2036c
@[go_sem] def aCg:=k 0x27e0aa5ae961612193355fa1030ae2eabf4ba97cd4b4c
@[go_sem] def aCh:=k 0x203c8
@[go_sem] def bDj:=k 0x20302c50b9c0a1942161952f2e899fc
@[go_sem] def bDk:=k 0x2027c
def Hu:TF:=⟨31,[.t 6],(.seq (.reg aCd) (.seq (.seq (.reg aCe) (.cond (.t 16) (.seq (.reg aCf) .ret) .skip)) (.seq (.seq (.reg aCg) (.cond (.t 25) (.seq (.reg aCh) .ret) .skip)) (.seq (.reg bDj) (.seq (.reg bDk) .ret)))))⟩
/-! (*horarium/horariumref15.Kernel).stop -/
@[go_sem] def aCi:=k 0x1601c
@[go_sem] def aCj:=k 0x8c55c87003381f1db8f5699f66ddaf710091382a35da2b310c
@[go_sem] def aCk:=k 0x1610c
@[go_sem] def aCl:=k 0x16e6a6c68e4c46b485cec
@[go_sem] def aCm:=k 0x1601c
def La:TF:=⟨18,[.t 4],(.seq (.reg aCi) (.seq (.seq (.reg aCj) (.cond (.t 14) (.seq (.reg aCk) .ret) .skip)) (.seq (.reg aCl) (.seq (.reg aCm) .ret))))⟩
/-! horarium/horariumref3.Size -/
@[go_sem] def aCs:=k 0x15fec
@[go_sem] def aCt:=k 0xfc523b06100b5c15e6db32a86b243432bfec1f96c
@[go_sem] def aCu:=k 0x15fec
@[go_sem] def aCv:=k 0xbd71c
@[go_sem] def aCw:=k 0x30e9fa5642ec
@[go_sem] def aCx:=k 0x1572085e3f1ccca90521c
@[go_sem] def aCy:=k 0xd8bbaeebf24f8c867dc088cab553c
@[go_sem] def Xm:=k 0x15fec
@[go_sem] def aCz:=k 0x1dc53937c7b70d3a5c
@[go_sem] def bDl:=k 0x8de2403648fe07f4f0de3a7b44c41a9ebd
@[go_sem] def bB8:=k 0x468dea02253bde3f9854cd2cc78a6063e23be52aa01dd
@[go_sem] def bB9:=k 0xc41fb53815c5b74d3b12fb74f1001ebe2d
@[go_sem] def bCa:=k 0x663d71ab0a909d7214d
@[go_sem] def bCb:=k 0x521221920c3ad
@[go_sem] def bCc:=k 0x2e0bf71101df07894421146e67b20d
@[go_sem] def bCd:=k 0x15a2ff6574eedbd6dc
def aY1:TC:=(.seq (.seq (.reg aCx) (.cond (.t 19) .skip (.exit 0))) (.seq (.block 1 (.seq (.seq (.reg aCy) (.cond (.t 27) (.seq (.reg Xm) .ret) .skip)) (.seq (.reg aCz) (.seq (.seq (.reg bDl) (.cond (.t 35) (.reg bB8) .skip)) (.seq (.seq (.reg bB9) (.cond (.t 48) (.reg bCa) .skip)) (.seq (.reg bCb) (.cond (.t 52) (.seq (.reg bCc) .ret) .skip))))))) (.reg bCd)))
@[go_sem] def bCe:=k 0x15fec
def Lb:TF:=⟨57,[.t 4],(.seq (.reg aCs) (.seq (.seq (.reg aCt) (.cond (.t 14) (.seq (.reg aCu) .ret) .skip)) (.seq (.reg aCv) (.seq (.seq (.reg aCw) (.block 0 (.loop aY1))) (.seq (.reg bCe) .ret)))))⟩
/-! horarium/horariumref3.depth -/
@[go_sem] def aCA:=k 0x15fec
@[go_sem] def aCB:=k 0x1b11c
@[go_sem] def aCC:=k 0x12efcf4ee81bc5ac19e49c
@[go_sem] def aCD:=k 0xfacdcb8
@[go_sem] def aCE:=k 0xf8b5ea0a51be5d3f4
@[go_sem] def aCF:=k 0x2a05362c0c8ab493f38ad15471e62c1c
@[go_sem] def aCG:=k 0x89a80bef1ea28
def Xn:TC:=(.seq (.reg aCD) (.seq (.cond (.t 13) .skip (.exit 0)) (.seq (.block 1 (.seq (.reg aCE) (.reg aCF))) (.reg aCG))))
@[go_sem] def aCH:=k 0x179d43aad76912533c
def Lc:TF:=⟨24,[.t 4],(.seq (.reg aCA) (.seq (.reg aCB) (.seq (.seq (.reg aCC) (.block 0 (.loop Xn))) (.seq (.reg aCH) .ret))))⟩
/-! horarium/horariumref3.length -/
@[go_sem] def aCJ:=k 0x15fec
@[go_sem] def aCK:=k 0x1b11c
@[go_sem] def aCL:=k 0x12efcf4ee81bc5ac19e49c
@[go_sem] def aCM:=k 0xfacdcb8
@[go_sem] def aCN:=k 0xf8b5ea0a51be5d3f4
@[go_sem] def aCO:=k 0x6fe58e22c9ebbd00db36b6117c7121e62c1c
@[go_sem] def aCP:=k 0x9017e62f23b58
def Xo:TC:=(.seq (.reg aCM) (.seq (.cond (.t 13) .skip (.exit 0)) (.seq (.block 1 (.seq (.reg aCN) (.reg aCO))) (.reg aCP))))
@[go_sem] def aCQ:=k 0xaad49d144d44145769651ea66c
@[go_sem] def bDm:=k 0xc05ecc40fffa4
@[go_sem] def bCf:=k 0x60fd60919cbc
@[go_sem] def bCg:=k 0xd1220f319c7135
@[go_sem] def bCh:=k 0x6ecc5407c56c31b983c3d096cb335a4f40c3b3b536c6ce76a90e4d
@[go_sem] def bCi:=k 0x3e348fd501e33aae9a339c50a3a071bdfea6cfd
def Ld:TF:=⟨48,[.t 4],(.seq (.reg aCJ) (.seq (.reg aCK) (.seq (.seq (.reg aCL) (.block 0 (.loop Xo))) (.seq (.seq (.reg aCQ) (.block 2 (.seq (.reg bDm) (.cond (.t 28) (.seq (.reg bCf) .ret) (.seq (.reg bCg) (.cond (.t 31) (.seq (.reg bCh) .ret) .skip)))))) (.seq (.reg bCi) .ret)))))⟩
/-! horarium/horariumref3.Kids -/
@[go_sem] def aCR:=k 0x16024
@[go_sem] def aCS:=k 0x1a53f12ca5cfb36559e49c
@[go_sem] def aCT:=k 0x20284
@[go_sem] def aCU:=k 0xc7b790c5448863e2c
@[go_sem] def aCV:=k 0x58b29ecc29e87d9415b662848c
@[go_sem] def aCW:=k 0xac1fe9c4eaf0f338585d118a6c
@[go_sem] def aCX:=k 0x2e516149b7f702eb3149412901fb1a7c
def aCY:TC:=(.seq (.seq (.reg aCV) (.cond (.t 17) .skip (.exit 0))) (.seq (.block 1 (.reg aCW)) (.reg aCX)))
@[go_sem] def aCZ:=k 0x5755993acf2c
def Le:TF:=⟨28,[.t 4],(.seq (.reg aCR) (.seq (.reg aCS) (.seq (.reg aCT) (.seq (.seq (.reg aCU) (.block 0 (.loop aCY))) (.seq (.reg aCZ) .ret)))))⟩
/-! horarium/node.Right -/
@[go_sem] def aC1:=k 0xbd8c
@[go_sem] def aC2:=k 0x2f94d5ab02578582cd420967e9fbe67d023c
@[go_sem] def aC3:=k 0x11402df5e72c0230c982c
@[go_sem] def aC4:=k 0x1f2f8c
@[go_sem] def aC5:=k 0x1697805fcbb200d1edcec
@[go_sem] def aC6:=k 0x7a858c
@[go_sem] def bDn:=k 0x37dda597ada2d780dae1ac
@[go_sem] def bDo:=k 0x8ed18c
@[go_sem] def bDp:=k 0xc9ac59dc98ddfe6c
@[go_sem] def bDq:=k 0xb7698c
@[go_sem] def bCj:=k 0xbd8c
def Lf:TF:=⟨25,[.t 2],(.seq (.reg aC1) (.seq (.reg aC2) (.seq (.block 0 (.seq (.reg aC3) (.cond (.t 10) (.seq (.reg aC4) .ret) (.seq (.reg aC5) (.cond (.t 14) (.seq (.reg aC6) .ret) (.seq (.reg bDn) (.cond (.t 18) (.seq (.reg bDo) .ret) (.seq (.reg bDp) (.cond (.t 22) (.seq (.reg bDq) .ret) .skip))))))))) (.seq (.reg bCj) .ret))))⟩
/-! horarium/cursor.New -/
@[go_sem] def aC7:=k 0xbe5c
@[go_sem] def aC8:=k 0x28d478ec56425fdc
@[go_sem] def aC9:=k 0xbe5c
@[go_sem] def aDa:=k 0x21316c88a22bbbb36e641936c
@[go_sem] def aDb:=k 0x11d48184a2c
@[go_sem] def aDc:=k 0x2a132285ec8c
def Hv:TF:=⟨14,[.t 2],(.seq (.reg aC7) (.seq (.seq (.reg aC8) (.cond (.t 6) (.seq (.reg aC9) .ret) .skip)) (.seq (.reg aDa) (.seq (.reg aDb) (.seq (.reg aDc) .ret)))))⟩
/-! (*horarium/cursor.Cursor).Next -/
@[go_sem] def aDe:=k 0x706024
@[go_sem] def aDf:=kd 0x4cb8fab406e190c5ba2189a4bfa61d43cfd746841d7630df550
@[go_sem] def aDg:=k 0xd9e36a48af9f18
@[go_sem] def aDh:=kd 0x41c40cbc58ee12d0960d64884c0b871bdb256b2ba455bf00e2e0269a9c7a61336da990df6ac48fe7748166869de9a0ebf102f5fc9ec505e9dbf36ab79a2672568507f3e01d120adaa186015e3dd4fd61
@[go_sem] def aDi:=kd 0x65ddf4823395520ba8a47f1dcc3e63b04cb0ad8e192b2f72dc065fc9faa1
@[go_sem] def aDj:=k 0x155ac6f7ea0d
@[go_sem] def aDk:=k 0x1b440eb723062bcf9
def Lg:TF:=⟨56,[.cell 2 2 true,.t 3],(.seq (.reg aDe) (.seq (.seq (.dreg aDf) (.cond (.t 14) (.seq (.reg aDg) .ret) .skip)) (.seq (.dreg aDh) (.seq (.dreg aDi) (.seq (.reg aDj) (.seq (.reg aDk) .ret))))))⟩
/-! horarium/runs.Tidy -/
@[go_sem] def aDo:=k 0xbdc4
@[go_sem] def aDp:=k 0x10ef4
@[go_sem] def aDq:=k 0x173bc1e7536c
@[go_sem] def aDr:=k 0xbbf3728
@[go_sem] def aDs:=k 0xdf94758e4c0c414302ea0
@[go_sem] def aDt:=k 0x73ef3dadd77dac8c
@[go_sem] def aDu:=k 0x75129d91b7d63df8af5f0e0
@[go_sem] def Xp:=kd 0x6b6eb3e40fb75df01f9f15975063e81c82086be0dfc16450f26a3ad7dd9bef9660cee4313b8373d6e1
@[go_sem] def aDv:=kd 0x5070fc89bb66eb13ce40e93803d0df3d813d1876e29e59f951d7bf6ac265962ff9051687f7fc207bcdac55f51
@[go_sem] def bDD:=k 0x76f289d0ee34520e033184ceec
@[go_sem] def bCk:=k 0x14938ce900f93c9
def aY2:TC:=(.seq (.reg aDr) (.seq (.cond (.t 10) .skip (.exit 0)) (.seq (.block 1 (.seq (.reg aDs) (.seq (.reg aDt) (.block 2 (.seq (.reg aDu) (.cond (.t 19) .skip (.seq (.dreg Xp) (.cond (.t 23) (.dreg aDv) (.reg bDD))))))))) (.reg bCk))))
@[go_sem] def bCl:=k 0x1b112f6649c5a37cdd
def Lh:TF:=⟨54,[.t 2],(.seq (.reg aDo) (.seq (.reg aDp) (.seq (.seq (.reg aDq) (.block 0 (.loop aY2))) (.seq (.reg bCl) .ret))))⟩
/-! slices.IndexFunc[[]horarium/api.Run,horarium/api.Run] -/
@[go_sem] def aDw:=k 0x15fec
@[go_sem] def aDx:=k 0x1722027e023c
@[go_sem] def aDy:=k 0xa6ffff8
@[go_sem] def aDz:=k 0x20b89992b6fc
@[go_sem] def aDA:=k 0xbf31a07a9d92d6b2b1c2b986bbfe2c
@[go_sem] def aDB:=k 0x372655ed7d4c
@[go_sem] def aDC:=k 0x758a8195df698
def aDD:TC:=(.seq (.reg aDy) (.seq (.cond (.t 9) .skip (.exit 0)) (.seq (.block 1 (.seq (.reg aDz) (.seq (.reg aDA) (.cond (.t 16) (.seq (.reg aDB) .ret) .skip)))) (.reg aDC))))
@[go_sem] def aDE:=k 0x16080
def Li:TF:=⟨19,[.t 4],(.seq (.reg aDw) (.seq (.seq (.reg aDx) (.block 0 (.loop aDD))) (.seq (.reg aDE) .ret)))⟩
/-! horarium/bound.Late -/
@[go_sem] def aDG:=k 0x2024c
@[go_sem] def aDH:=k 0x10c415c4374905f260c04cf13878c94de89fc1cec
@[go_sem] def aDI:=k 0x3fe0a1329ef683a39a1f3c
@[go_sem] def aDJ:=k 0x2024c
@[go_sem] def aDK:=k 0x4a8f4606a7ed7d614989fc
@[go_sem] def aDL:=k 0x202e0
@[go_sem] def aDM:=k 0xf7597a786554cd8c
@[go_sem] def aDN:=k 0x3470c
@[go_sem] def aDO:=k 0xc0b4bf0c03ed
@[go_sem] def aDP:=k 0xaa0763a9
@[go_sem] def lJ:=k 0x823cd6e951741d66f760121
@[go_sem] def lK:=k 0xa1e5ee21f3f077f3b6ab474638a8e305d85bf6711
@[go_sem] def lM:=k 0xe2bb24b9
@[go_sem] def lN:=k 0x60672415aedce69c1f5
@[go_sem] def TS:=k 0x7550fd19bb84b530c8efa2d253f026e38faf560319fa0334c1d
@[go_sem] def lO:=k 0x16ced3ddcaa29b9
def lP:TC:=(.seq (.reg lM) (.seq (.cond (.t 45) .skip (.exit 3)) (.seq (.block 4 (.seq (.reg lN) (.reg TS))) (.reg lO))))
@[go_sem] def TT:=k 0x17241de61d97ae9
def lQ:TC:=(.seq (.reg aDP) (.seq (.cond (.t 34) .skip (.exit 1)) (.seq (.block 2 (.seq (.reg lJ) (.seq (.reg lK) (.block 3 (.loop lP))))) (.reg TT))))
@[go_sem] def bCm:=k 0x5d7ea207a77fd
def Lj:TF:=⟨59,[.t 6],(.seq (.reg aDG) (.seq (.reg aDH) (.seq (.block 0 (.seq (.reg aDI) (.cond (.t 21) (.seq (.reg aDJ) .ret) (.seq (.reg aDK) (.cond (.t 25) (.seq (.reg aDL) .ret) .skip))))) (.seq (.reg aDM) (.seq (.reg aDN) (.seq (.seq (.reg aDO) (.block 1 (.loop lQ))) (.seq (.reg bCm) .ret)))))))⟩
/-! horarium/bound.Budget -/
@[go_sem] def aDQ:=k 0x2024c
@[go_sem] def aDR:=k 0x7c5af50613290bbc
@[go_sem] def aDS:=k 0x630b1137d19fb5e1472fcff607a6114f009506c93443499c446064d74457fa1c
@[go_sem] def aDT:=k 0x202e0
@[go_sem] def aDU:=k 0x4e5cf8f9011d1721803c5c
@[go_sem] def aDV:=k 0x64b60aa07bec
@[go_sem] def aDW:=k 0x3470c
@[go_sem] def aDX:=k 0x1098275e95698a391d
@[go_sem] def aDY:=k 0x3983c
@[go_sem] def aDZ:=k 0xc385ae9e883d
@[go_sem] def bCn:=k 0xce1caff9
@[go_sem] def bCo:=k 0x8dbaa726cf1eedd728b4d71
@[go_sem] def bCp:=k 0x1fac1ddf211c1c68688940df914498b6efd425d30e13ebea72530259a2b45b10696478d98a12c9f8d535d
@[go_sem] def bCq:=k 0x17965f4a45ecc19
def aY3:TC:=(.seq (.reg bCn) (.seq (.cond (.t 41) .skip (.exit 2)) (.seq (.block 3 (.seq (.reg bCo) (.reg bCp))) (.reg bCq))))
@[go_sem] def bCr:=k 0x279610c015b5a6e94a0e7d2d
@[go_sem] def bCs:=k 0x180efde62e8d0c8020572cad
def aZg:TC:=(.seq (.seq (.reg aDX) (.cond (.t 34) .skip (.exit 0))) (.seq (.block 1 (.seq (.reg aDY) (.seq (.seq (.reg aDZ) (.block 2 (.loop aY3))) (.reg bCr)))) (.reg bCs)))
@[go_sem] def bCt:=k 0x63ee7c46770bd
def Lk:TF:=⟨63,[.t 6],(.seq (.reg aDQ) (.seq (.reg aDR) (.seq (.seq (.reg aDS) (.cond (.t 27) (.seq (.reg aDT) .ret) .skip)) (.seq (.reg aDU) (.seq (.reg aDV) (.seq (.seq (.reg aDW) (.block 0 (.loop aZg))) (.seq (.reg bCt) .ret)))))))⟩
/-! horarium/horariumref3.fine -/
@[go_sem] def aD0:=k 0xdf4ac80
@[go_sem] def aD1:=k 0x9a8926334b0
@[go_sem] def aD2:=k 0x27b1c9ce72854
@[go_sem] def aD3:=k 0x10a830033a2dad6d1477bb33b1a154355994ba089653d8431affd8915c9a9cdfa722810293970
@[go_sem] def aD4:=k 0x8b4401dd61024
@[go_sem] def aD5:=k 0x91b3dc1eaad54
@[go_sem] def aD6:=k 0x3ff563db9b9071fd6004aa6ef91ee996b7d451e041de2e4c70
@[go_sem] def bDE:=k 0xd1220ebcd32535
@[go_sem] def bDF:=k 0x13aa7638406361e6795e7632feee55220cbb1790e99be99ccd2c52f539185df964f6674ddf25f1de51
@[go_sem] def bDG:=k 0xbd9c
def Ll:TF:=⟨46,[.t 2],(.seq (.reg aD0) (.seq (.seq (.reg aD1) (.block 0 (.seq (.reg aD2) (.cond (.t 5) (.seq (.reg aD3) .ret) (.seq (.seq (.reg aD4) (.cond (.t 20) .skip (.reg aD5))) (.cond (.t 20) (.seq (.reg aD6) .ret) (.seq (.reg bDE) (.cond (.t 31) (.seq (.reg bDF) .ret) .skip)))))))) (.seq (.reg bDG) .ret)))⟩
/-! horarium/node.Length -/
@[go_sem] def aD7:=k 0xdf4fd8c
@[go_sem] def aD8:=k 0x1c986dff0eb023c
@[go_sem] def bDH:=k 0xdf4fd8c
@[go_sem] def bDI:=k 0x44ba31f50566209651d89f3c2d78245206fc
@[go_sem] def bDJ:=k 0x168e8dc09bc
@[go_sem] def bDK:=k 0xc457421fb2c1c
@[go_sem] def bDL:=k 0xdf4fd8c
def Lm:TF:=⟨17,[.t 2,.t 3],(.seq (.reg aD7) (.seq (.seq (.reg aD8) (.cond (.t 8) (.seq (.reg bDH) .ret) .skip)) (.seq (.seq (.reg bDI) (.seq (.reg bDJ) (.cond (.t 15) (.seq (.reg bDK) .ret) .skip))) (.seq (.reg bDL) .ret))))⟩
/-! horarium/node.whole -/
@[go_sem] def aD9:=k 0xbd9c
@[go_sem] def aEa:=k 0x52a388d7e040bc85c6459db6755f8a7b5328ec163091462a030820eac
def Ln:TF:=⟨13,[.t 2],(.seq (.reg aD9) (.seq (.reg aEa) .ret))⟩
/-! horarium/node.Depth -/
@[go_sem] def aEe:=k 0xbd8c
@[go_sem] def aEf:=k 0x18833a54c01b10c
@[go_sem] def bDM:=k 0xbd8c
@[go_sem] def bDN:=k 0x3f70dad6042533a66850ab171c98cf68b5cc
@[go_sem] def bDO:=k 0x2a132285ec8c
def Lo:TF:=⟨14,[.t 2],(.seq (.reg aEe) (.seq (.seq (.reg aEf) (.cond (.t 7) (.seq (.reg bDM) .ret) .skip)) (.seq (.reg bDN) (.seq (.reg bDO) .ret))))⟩
/-! (*horarium/cursor.Cursor).Reset -/
@[go_sem] def aEg:=k 0x5704111c7adaf439609e1fd3a66408df860bf9a7688c1125c6dc6b2efd7c
@[go_sem] def aEh:=k 0x23694673582c
def Lp:TF:=⟨13,[],(.seq (.reg aEg) (.reg aEh))⟩
/-! horarium/cursor.part -/
@[go_sem] def aEk:=k 0x8e1ac80
@[go_sem] def aEl:=k 0x4258a7f24b66334b0
@[go_sem] def aEm:=k 0xbe20
@[go_sem] def aEn:=k 0x7382675a63708e840
def Lq:TF:=⟨8,[.t 2],(.seq (.reg aEk) (.seq (.seq (.reg aEl) (.cond (.t 5) (.seq (.reg aEm) .ret) .skip)) (.seq (.reg aEn) .ret)))⟩
/-! (*horarium/cursor.Cursor).step -/
@[go_sem] def aEu:=k 0x10d2396bc970dacb3c8cf0429541dfdc
@[go_sem] def aEv:=k 0x1c8a69d024ff507dd075cc
@[go_sem] def aEw:=k 0x10ab5c283c890107902f03b0c8c695c
@[go_sem] def aEx:=kd 0x19cc2fa73c15027d5490d96cfd7d1a82bcaa1e63f57a681f0815435d14c21c0
@[go_sem] def aEy:=k 0x3b8f945141576a7e80abe0fc777407e20700aa64c318d
@[go_sem] def bDP:=k 0x801e4e1b50793223d90dc9ca69dd
@[go_sem] def bDQ:=kd 0x5dbe4e1d04a8c75342b2bb2f468c1e0784d89a4f469baf55417dd60ad9d13020411
@[go_sem] def bDR:=k 0xedb03477e8b46ed7469f9f28938db3ce0d
@[go_sem] def bDS:=k 0x1e12469efa44937ffd
@[go_sem] def bDT:=kd 0x3b15ac3d9cc207203ca59e60d91bc31b20ed677cf3ddf9b97c38ccd2ffb570eafb5c483c155c342bc50e8a6fd2
def aZj:TC:=(.seq (.seq (.reg aEw) (.cond (.t 17) .skip (.exit 0))) (.block 1 (.seq (.dreg aEx) (.seq (.seq (.reg aEy) (.seq (.reg bDP) (.cond (.t 40) (.seq (.seq (.dreg bDQ) (.cond (.t 52) (.reg bDR) .skip)) (.seq (.reg bDS) .ret)) .skip))) (.dreg bDT)))))
@[go_sem] def bCu:=k 0xafbc84b241dc147d7bca800bcb9879a8a93b7a33eec6cfbe42e
def Lr:TF:=⟨83,[],(.seq (.reg aEu) (.seq (.reg aEv) (.seq (.block 0 (.loop aZj)) (.reg bCu))))⟩
/-! horarium/runs.Add -/
@[go_sem] def aEz:=k 0x15fec
@[go_sem] def aEA:=k 0x10aba57a16859a29fde35969044ff10c
@[go_sem] def bDU:=k 0xc194d9420ab2b4ba35cc
@[go_sem] def bDV:=k 0x162a4
@[go_sem] def bDW:=k 0x2731f1e8fced6b1cdb7a8c
def Ls:TF:=⟨16,[.t 4],(.seq (.reg aEz) (.seq (.reg aEA) (.seq (.seq (.reg bDU) (.cond (.t 12) (.seq (.reg bDV) .ret) .skip)) (.seq (.reg bDW) .ret))))⟩
/-! slices.Clip[[]horarium/api.Run,horarium/api.Run] -/
@[go_sem] def aEB:=k 0xbdc4
@[go_sem] def aEC:=k 0x2aad5c6e7cc3783e7b554e3ac91912cf4eac
def Lt:TF:=⟨9,[.t 2],(.seq (.reg aEB) (.seq (.reg aEC) .ret))⟩
/-! horarium/bound.spans -/
@[go_sem] def aEL:=k 0x16024
@[go_sem] def aEM:=k 0x1b154
@[go_sem] def aEN:=k 0x2024c
@[go_sem] def aEO:=k 0x1789002346fc
@[go_sem] def aEP:=k 0xfacdcb8
@[go_sem] def aEQ:=k 0x15fc42f7eb8359ef7dd430
@[go_sem] def aER:=k 0xfd7fbc1d5b2b492935fd1bd121c
@[go_sem] def Xq:=k 0xd35979883dc468c956f1a461091d6749f9482aeedcfa2e0
@[go_sem] def aES:=k 0x2d0b84efcae915093d26c48cfe9e45fc87fc98d
@[go_sem] def bDX:=k 0x387b7b15ee0ad
@[go_sem] def bCv:=k 0xe8f8431a43d1f9
def aZx:TC:=(.seq (.reg aEP) (.seq (.cond (.t 13) .skip (.exit 0)) (.seq (.block 1 (.seq (.reg aEQ) (.seq (.reg aER) (.seq (.seq (.reg Xq) (.cond (.t 28) (.reg aES) .skip)) (.reg bDX))))) (.reg bCv))))
@[go_sem] def bCw:=k 0x3ba6887c6530d
def Lu:TF:=⟨38,[.t 4],(.seq (.reg aEL) (.seq (.reg aEM) (.seq (.reg aEN) (.seq (.seq (.reg aEO) (.block 0 (.loop aZx))) (.seq (.reg bCw) .ret)))))⟩
/-! horarium/runs.Length -/
@[go_sem] def aET:=k 0xbd8c
@[go_sem] def aEU:=k 0x10ebc
@[go_sem] def aEV:=k 0x1722027e023c
@[go_sem] def aEW:=k 0xa6ffff8
@[go_sem] def aEX:=k 0xde48fcbe5f50425c0f770
@[go_sem] def aEY:=k 0xc6794ef76223c009c7fd3625b5c
@[go_sem] def aEZ:=k 0x68aacd15d5438
def Xr:TC:=(.seq (.reg aEW) (.seq (.cond (.t 9) .skip (.exit 0)) (.seq (.block 1 (.seq (.reg aEX) (.reg aEY))) (.reg aEZ))))
@[go_sem] def aE0:=k 0x36f2d707314c
def Lv:TF:=⟨18,[.t 2],(.seq (.reg aET) (.seq (.reg aEU) (.seq (.seq (.reg aEV) (.block 0 (.loop Xr))) (.seq (.reg aE0) .ret))))⟩
/-! horarium/bound.next -/
@[go_sem] def aE1:=k 0x2024c
@[go_sem] def aE2:=k 0x176f40b9f5cc
@[go_sem] def aE3:=k 0xe5da588
@[go_sem] def aE4:=k 0x15e78b6aecb79a010e9d00
@[go_sem] def aE5:=k 0xd9a340ec6e72e168f92c10782ec
@[go_sem] def aE6:=k 0x64d714f1bb032d5639195f11462a918dc
@[go_sem] def aE7:=k 0xa333f608e6ee8
def aE8:TC:=(.seq (.reg aE3) (.seq (.cond (.t 12) .skip (.exit 0)) (.seq (.block 1 (.seq (.reg aE4) (.seq (.reg aE5) (.cond (.t 19) (.seq (.reg aE6) .ret) .skip)))) (.reg aE7))))
@[go_sem] def aE9:=k 0x149da55ee29c58bb8c4326947400df50eae5fc
def Lw:TF:=⟨32,[.t 6],(.seq (.reg aE1) (.seq (.seq (.reg aE2) (.block 0 (.loop aE8))) (.seq (.reg aE9) .ret)))⟩
/-! horarium/node.measure -/
@[go_sem] def aFb:=k 0x8e1fd8c
@[go_sem] def aFc:=k 0x5aed6ac9aa20f394
@[go_sem] def aFd:=k 0x17bc7ef5e95c
@[go_sem] def aFe:=k 0x124b4b18
@[go_sem] def aFf:=k 0x10f7ed6172e3af993c426c
@[go_sem] def aFg:=kd 0x61e66361611df696d8c47f3359ebf654f87d2a1adb839c0
@[go_sem] def aFh:=k 0x46836c74fbdbaee1d7a0cc
@[go_sem] def aFi:=k 0x855a95612c583486b11674fffdfa0f2c5d
@[go_sem] def aFj:=k 0x44131464d13212e52d5eb3205d096a6d2a54fab11137d
@[go_sem] def aFk:=k 0xf6ced37bacbc651f000da52fcbbd37713eb582d3011f6df7bacbfd1193e42bc5353a4bcd
@[go_sem] def mD:=kd 0x10e764cd8b462ca601842cce72f478a84ef518d86b7cce8762c0636760bd291a15ac28f840529033ad9082
@[go_sem] def mE:=k 0x23f5ec13577d14e9a6010e731307517db184e
@[go_sem] def mF:=k 0x5d44577919fa878d4de495b0e42
@[go_sem] def TX:=k 0x21caa98e01e40bb764b2f2c66a9e29b13e35f9e76813695c5302
@[go_sem] def mG:=k 0x92fb1ffe0afcc72f6da88f7eb44cb26868d04ab75edf234e
@[go_sem] def bCx:=kd 0x132a70186f82c5101ea6cb3a32658cb39d146e653ae1321526de22d2ccec4607b5e6fd07f2e2
@[go_sem] def bCy:=kd 0x4299ca071a4905877543cdfbb7ad2fc6c1c2fd0d8effcb97d04fc8b50ec2422ee7af2
def aAK:TC:=(.seq (.seq (.reg aFk) (.cond (.t 53) .skip (.exit 2))) (.block 3 (.seq (.dreg mD) (.seq (.reg mE) (.seq (.seq (.reg mF) (.cond (.t 73) (.reg TX) .skip)) (.seq (.reg mG) (.seq (.dreg bCx) (.dreg bCy))))))))
@[go_sem] def bCz:=k 0x2be5875a967344aa
def aZz:TC:=(.seq (.reg aFe) (.seq (.cond (.t 15) .skip (.exit 0)) (.seq (.block 1 (.seq (.reg aFf) (.seq (.dreg aFg) (.seq (.seq (.reg aFh) (.seq (.reg aFi) (.cond (.t 33) (.reg aFj) .skip))) (.block 2 (.loop aAK)))))) (.reg bCz))))
@[go_sem] def bCA:=kd 0x42bd2365f569464cf7ad7c9098635a3c6b5aa6a8c7251e3f4d5137f9038b02
def Lx:TF:=⟨118,[.t 2,.t 3],(.seq (.reg aFb) (.seq (.reg aFc) (.seq (.seq (.reg aFd) (.block 0 (.loop aZz))) (.seq (.dreg bCA) .ret))))⟩
/-! horarium/node.Size -/
@[go_sem] def aFl:=k 0x15fec
@[go_sem] def aFm:=k 0x117fbee59b69ff51c54af412b7b257ed589be24a9c
@[go_sem] def aFn:=k 0x15fec
@[go_sem] def Xs:=k 0xbd71c
@[go_sem] def aFo:=k 0x3421e776941c
@[go_sem] def bDY:=k 0x16c7dcf8c03b9f010a34c
@[go_sem] def bDZ:=k 0x1c5e3a4502bc0af71d9b1ce222ba66c
@[go_sem] def bD0:=k 0x5a1e06a5865c
@[go_sem] def bD1:=k 0x15fec
@[go_sem] def bD2:=k 0x1b2b9ca7e0464fc7dd69a031241abd
@[go_sem] def bCB:=k 0x36b6c201b5f7d
@[go_sem] def bCC:=k 0x2015cc36be5d2bffe8ed6bb4e74ddd
@[go_sem] def bCD:=k 0x16a84bec42dbfc280c
def bAH:TC:=(.seq (.seq (.reg bDY) (.cond (.t 20) .skip (.exit 0))) (.seq (.block 1 (.seq (.reg bDZ) (.seq (.seq (.reg bD0) (.cond (.t 29) (.seq (.reg bD1) .ret) .skip)) (.seq (.reg bD2) (.seq (.reg bCB) (.cond (.t 35) (.seq (.reg bCC) .ret) .skip)))))) (.reg bCD)))
@[go_sem] def bCE:=k 0x15fec
def Ly:TF:=⟨40,[.t 4],(.seq (.reg aFl) (.seq (.seq (.reg aFm) (.cond (.t 15) (.seq (.reg aFn) .ret) .skip)) (.seq (.reg Xs) (.seq (.seq (.reg aFo) (.block 0 (.loop bAH))) (.seq (.reg bCE) .ret)))))⟩
/-! (*horarium/cursor.Cursor).down -/
@[go_sem] def aFp:=k 0x63a14f6adbe400d2bc241cf204279df685ce9e962845560eac4b99fac6cc45ab329207ba73762300c02a4ece0b1093541dfdc
@[go_sem] def aFq:=kd 0x27afd563428e014579561c2c4efe090982944b29bc4e9f05fb67e543e2aed16eb9e2fccc7c797d6d0db2e123487c5281ec0a19295b4ee768ee1
@[go_sem] def aFr:=k 0x59dd31e5e8093840a2d
def aFs:TC:=(.seq (.seq (.reg aFp) (.cond (.t 23) .skip (.exit 0))) (.block 1 (.seq (.dreg aFq) (.reg aFr))))
@[go_sem] def aFt:=k 0xa014516e43a24f17d2ce3eeb608d
def Lz:TF:=⟨49,[],(.seq (.block 0 (.loop aFs)) (.reg aFt))⟩
/-! horarium/node.kids -/
@[go_sem] def aFz:=k 0x8e1ac80
@[go_sem] def aFA:=k 0x1c20e965647008275fb04c784b08b54d817a85dda27011f28b6c69624ec242ecc43f00ba0d05e0
@[go_sem] def bD3:=k 0xbe20
@[go_sem] def bD4:=k 0x1aac497cbab4b427d032f33d57f2eaaba0b7d54740b146357bd150ac4f84fbe5dcd58eb47f680
@[go_sem] def bD5:=k 0x5628b37f9c39cf8764ede3bf1
@[go_sem] def bD6:=k 0xbd8c
@[go_sem] def bD7:=k 0x169dcee023aa783afe640c17121a1e15ae98a9e83ac3ef2df80b1
@[go_sem] def bD8:=k 0x59e55c49feac5080a31
@[go_sem] def bD9:=k 0x7e22e5b1f27c8b78375e2fdc1
@[go_sem] def bEa:=k 0xae38c
@[go_sem] def bCF:=k 0xbe20
def LA:TF:=⟨49,[.t 2],(.seq (.reg aFz) (.seq (.block 0 (.seq (.reg aFA) (.cond (.t 3) (.seq (.reg bD3) .ret) (.seq (.seq (.reg bD4) (.cond (.t 17) .skip (.reg bD5))) (.cond (.t 17) (.seq (.reg bD6) .ret) (.seq (.reg bD7) (.cond (.t 34) (.seq (.reg bD8) .ret) (.seq (.reg bD9) (.cond (.t 45) (.seq (.reg bEa) .ret) .skip))))))))) (.seq (.reg bCF) .ret)))⟩
/-! horarium/node.times -/
@[go_sem] def aFB:=k 0x15fec
@[go_sem] def aFC:=k 0x9847d26031c429885d96a27c1a310c
def LB:TF:=⟨10,[.t 4],(.seq (.reg aFB) (.seq (.reg aFC) .ret))⟩
/-! horarium/node.add -/
@[go_sem] def aFD:=k 0x15fec
@[go_sem] def aFE:=k 0x9847d26031af708d32ec4e3178f10c
def LC:TF:=⟨10,[.t 4],(.seq (.reg aFD) (.seq (.reg aFE) .ret))⟩
/-! (horarium/part.none).Change -/
@[go_sem] def aFF:=k 0x6faae1fdb0
@[go_sem] def aFG:=k 0x1610c
def LD:TF:=⟨5,[.t 4],(.seq (.reg aFF) (.seq (.reg aFG) .ret))⟩
/-! (horarium/part.none).Recv -/
@[go_sem] def aFH:=k 0x3d964441fdb0
@[go_sem] def aFI:=k 0x68bde1c
def LE:TF:=⟨6,[.t 4,.t 5],(.seq (.reg aFH) (.seq (.reg aFI) .ret))⟩
/-! (horarium/part.none).Send -/
@[go_sem] def aFJ:=k 0xa329b44ee0
@[go_sem] def aFK:=k 0x203c8
def LF:TF:=⟨7,[.t 6],(.seq (.reg aFJ) (.seq (.reg aFK) .ret))⟩
/-! (horarium/part.none).StopAll -/
@[go_sem] def aFL:=k 0x181aac80
@[go_sem] def aFM:=k 0xbeac
def FR:TF:=⟨3,[.t 2],(.seq (.reg aFL) (.seq (.reg aFM) .ret))⟩
/-! (horarium/horariumlaw19.calls).Change -/
@[go_sem] def aFR:=k 0x6faae1fdb0
@[go_sem] def aFS:=kd 0x9feab0977ead5c662a52bfe68ae20d21c6a3b9b679ed6c9db2b9696a6dfb60df25a44
@[go_sem] def bEb:=k 0x1610c
@[go_sem] def bEc:=k 0x61ca55317edd9caef5800217c1adeeedd395027c65312820eeb5c7ac
@[go_sem] def bEd:=k 0x16168
@[go_sem] def bEe:=k 0x1601c
def LG:TF:=⟨29,[.t 4],(.seq (.reg aFR) (.seq (.block 0 (.seq (.dreg aFS) (.cond (.t 5) (.seq (.reg bEb) .ret) (.seq (.reg bEc) (.cond (.t 18) (.seq (.reg bEd) .ret) .skip))))) (.seq (.reg bEe) .ret)))⟩
/-! (horarium/horariumlaw19.calls).Recv -/
@[go_sem] def aFT:=k 0x3d964441fdb0
@[go_sem] def aFU:=k 0x17f55ffb33cf86176f84d69543dc3f317dbf306ee06dfa301ce4e40
def LH:TF:=⟨15,[.t 4,.t 5],(.seq (.reg aFT) (.seq (.reg aFU) .ret))⟩
/-! (horarium/horariumlaw19.calls).Send -/
@[go_sem] def aFV:=k 0xa329b44ee0
@[go_sem] def aFW:=k 0x78c89a61212a572f715296e43ee41a65bd18f7f9ef8c570
def Hw:TF:=⟨15,[.t 6],(.seq (.reg aFV) (.seq (.reg aFW) .ret))⟩
/-! (horarium/horariumlaw19.calls).StopAll -/
@[go_sem] def aFZ:=k 0x181aac80
@[go_sem] def aF0:=kd 0x17df9128a364fd461ff9feaea464e692dd8d0fc3c6a89c3e832c8344b1cc1db4
@[go_sem] def aF1:=k 0xbeac
@[go_sem] def bEf:=k 0xbdbc
def LI:TF:=⟨15,[.t 2],(.seq (.reg aFZ) (.seq (.seq (.dreg aF0) (.cond (.t 14) (.seq (.reg aF1) .ret) .skip)) (.seq (.reg bEf) .ret)))⟩
/-! (*horarium/proc.ready).Less -/
@[go_sem] def aF2:=k 0x2025c
@[go_sem] def aF3:=kd 0x344c2920f0d2cfb825f77eb81246b9bad0282a2e8ba0cdfd590ac4f449e726c26b1735afbd973e10
@[go_sem] def aF4:=kd 0x59ddaffc5863eb1fa5d5f5d21977d6f90720599fe5ae8208ef4388ce5cb21392edaf8e4095bfb50e632b0c5ccdfa44343efbb0b55a6d0e72df4db47280846523cb1
def LJ:TF:=⟨46,[.t 6],(.seq (.reg aF2) (.seq (.dreg aF3) (.seq (.dreg aF4) .ret)))⟩
/-! (*horarium/proc.ready).Pop -/
@[go_sem] def aF7:=k 0xc028
@[go_sem] def bEg:=k 0x356a5169ed48a312b0c4d801f5cbda2b310c
@[go_sem] def bEh:=k 0xe5d366b473e83f349da548b4e6c08b5bb7a3182c
@[go_sem] def bEi:=k 0x120e7b8a5a7a43c4c32500560631518a09ce503dd885b14107c
@[go_sem] def bEj:=k 0xe53b6c251792c32c
def LK:TF:=⟨29,[.t 2],(.seq (.reg aF7) (.seq (.reg bEg) (.seq (.reg bEh) (.seq (.reg bEi) (.seq (.reg bEj) .ret)))))⟩
/-! (*horarium/proc.ready).Push -/
@[go_sem] def aF8:=kd 0x1ff8ad7c56ceef90060498ddc3347dcb90f343f62710811aded543bb9284086d6320
def LL:TF:=⟨15,[],(.dreg aF8)⟩
/-! (*horarium/proc.ready).Swap -/
@[go_sem] def aF9:=kd 0x31d345247d6f4d20ac4524f0945b9e61b602946879704febc5dacab509d3f8c83ea9fc2783eb9326a2720882ffabf964b67b1115c70457f59325bc0223049d8dfbfdb5904f1b04780
def LM:TF:=⟨32,[],(.dreg aF9)⟩
/-! cmp.Or[int] -/
@[go_sem] def aGi:=k 0xbd8c
@[go_sem] def aGj:=k 0x10ebc
@[go_sem] def aGk:=k 0x1722027e023c
@[go_sem] def aGl:=k 0xa6ffff8
@[go_sem] def aGm:=k 0xb65d7bd340228f734
@[go_sem] def aGn:=k 0x654e717e10ffe75c
@[go_sem] def aGo:=k 0x3082fcdadaec
@[go_sem] def aGp:=k 0x68aacd15d5438
def aGq:TC:=(.seq (.reg aGl) (.seq (.cond (.t 9) .skip (.exit 0)) (.seq (.block 1 (.seq (.reg aGm) (.seq (.reg aGn) (.cond (.t 14) (.seq (.reg aGo) .ret) .skip)))) (.reg aGp))))
@[go_sem] def aGr:=k 0x36f2d707314c
def LN:TF:=⟨18,[.t 2],(.seq (.reg aGi) (.seq (.reg aGj) (.seq (.seq (.reg aGk) (.block 0 (.loop aGq))) (.seq (.reg aGr) .ret))))⟩
/-! cmp.Compare[int] -/
@[go_sem] def aGs:=k 0x15fec
@[go_sem] def aGt:=k 0x42af9147466dd36c
@[go_sem] def bEk:=k 0x5345acd50aca9bcc
@[go_sem] def bEl:=k 0x36562c
@[go_sem] def bEm:=k 0x40cd5c
@[go_sem] def bEn:=k 0x15fec
@[go_sem] def bEo:=k 0x16080
@[go_sem] def bEp:=k 0x411e8c
@[go_sem] def bEq:=k 0xb85ec
@[go_sem] def bEr:=k 0x762585a7cd7bcbbc
@[go_sem] def bCG:=k 0x16080
@[go_sem] def bCH:=k 0x8f69328d753cbf4c
@[go_sem] def bCI:=k 0xb85ec
@[go_sem] def bCJ:=k 0x15fec
def LO:TF:=⟨20,[.t 4],(.seq (.reg aGs) (.seq (.reg aGt) (.seq (.reg bEk) (.seq (.seq (.reg bEl) (.cond (.t 11) (.seq (.seq (.reg bEm) (.cond (.t 12) (.seq (.reg bEn) .ret) .skip)) (.seq (.reg bEo) .ret)) .skip)) (.seq (.seq (.reg bEp) (.cond (.t 13) (.seq (.reg bEq) .ret) .skip)) (.seq (.seq (.reg bEr) (.cond (.t 16) (.seq (.reg bCG) .ret) .skip)) (.seq (.seq (.reg bCH) (.cond (.t 19) (.seq (.reg bCI) .ret) .skip)) (.seq (.reg bCJ) .ret))))))))⟩
/-! cmp.isNaN[int] -/
@[go_sem] def bEs:=k 0xbd9c
@[go_sem] def bEt:=k 0xd23123c4fb3b0910f4eac
def aAC:TF:=⟨6,[.t 2],(.seq (.reg bEs) (.seq (.reg bEt) .ret))⟩
def aOf:Nat→Option TF
 | 6=>some eK
 | 10=>some eL
 | 11=>some eM
 | 12=>some eO
 | 13=>some Oh
 | 14=>some Tq
 | 15=>some Tr
 | 16=>some Tt
 | 17=>some eP
 | 18=>some Tu
 | 19=>some PY
 | 20=>some PZ
 | 21=>some Gl
 | 22=>some P1
 | 23=>some P5
 | 24=>some P6
 | 25=>some P7
 | 26=>some P8
 | 27=>some LP
 | 28=>some P9
 | 29=>some Qa
 | 30=>some Qb
 | 31=>some Qc
 | 32=>some Qd
 | 33=>some Qe
 | 34=>some Qf
 | 35=>some Qg
 | 36=>some CV
 | 37=>some Qh
 | 38=>some Qi
 | 39=>some Qj
 | 40=>some Qk
 | 41=>some Ql
 | 42=>some Qm
 | 43=>some Qn
 | 44=>some Qo
 | 45=>some Fr
 | 46=>some Gm
 | 47=>some LQ
 | 48=>some Qp
 | 49=>some Qq
 | 50=>some LR
 | 51=>some Qr
 | 52=>some Qs
 | 53=>some Qt
 | 54=>some Qu
 | 55=>some Qv
 | 56=>some Qw
 | 57=>some LS
 | 58=>some LT
 | 59=>some Qx
 | 60=>some Qy
 | 61=>some LU
 | 62=>some LV
 | 63=>some Qz
 | 64=>some QA
 | 65=>some QB
 | 66=>some QC
 | 67=>some QD
 | 68=>some LW
 | 69=>some CW
 | 70=>some Ia
 | 71=>some QE
 | 72=>some QF
 | 73=>some QG
 | 74=>some Gn
 | 75=>some QH
 | 76=>some QI
 | 77=>some QJ
 | 78=>some QK
 | 79=>some QL
 | 80=>some QM
 | 81=>some QN
 | 82=>some A9
 | 83=>some QO
 | 84=>some QP
 | 85=>some QQ
 | 86=>some QR
 | 87=>some QS
 | 88=>some QT
 | 89=>some QU
 | 90=>some QV
 | 91=>some QW
 | 92=>some QX
 | 93=>some QY
 | 94=>some QZ
 | 95=>some Q0
 | 96=>some Q4
 | 97=>some LX
 | 98=>some Ib
 | 99=>some Q5
 | 100=>some Gp
 | 101=>some Ea
 | 102=>some Ic
 | 103=>some Q6
 | 104=>some Q7
 | 105=>some CC
 | 106=>some Q8
 | 107=>some Q9
 | 108=>some Id
 | 109=>some KY
 | 110=>some KZ
 | 111=>some K0
 | 112=>some K2
 | 113=>some K3
 | 114=>some K4
 | 115=>some K5
 | 116=>some K6
 | 117=>some K7
 | 118=>some K8
 | 119=>some K9
 | 120=>some FQ
 | 121=>some Hu
 | 122=>some La
 | 123=>some Lb
 | 124=>some Lc
 | 125=>some Ld
 | 126=>some Le
 | 127=>some Lf
 | 128=>some Hv
 | 129=>some Lg
 | 130=>some Lh
 | 131=>some Li
 | 132=>some Lj
 | 133=>some Lk
 | 134=>some Ll
 | 135=>some Lm
 | 136=>some Ln
 | 137=>some Lo
 | 138=>some Lp
 | 139=>some Lq
 | 140=>some Lr
 | 141=>some Ls
 | 142=>some Lt
 | 143=>some Lu
 | 144=>some Lv
 | 145=>some Lw
 | 146=>some Lx
 | 147=>some Ly
 | 148=>some Lz
 | 149=>some LA
 | 150=>some LB
 | 151=>some LC
 | 169=>some LD
 | 170=>some LE
 | 171=>some LF
 | 172=>some FR
 | 173=>some LG
 | 174=>some LH
 | 175=>some Hw
 | 176=>some LI
 | 177=>some LJ
 | 178=>some LK
 | 179=>some LL
 | 180=>some LM
 | 181=>some LN
 | 182=>some LO
 | 183=>some aAC
 | _=>none
def Tv:Nat→String→Option Xd
 | 149,"Push"=>some ⟨Kt,none⟩
 | 149,"Len"=>some ⟨UB,none⟩
 | 149,"Less"=>some ⟨Kr,none⟩
 | 149,"Swap"=>some ⟨SM,none⟩
 | 149,"Pop"=>some ⟨Ks,none⟩
 | 121,"Change"=>some ⟨NI,none⟩
 | 91,"Change"=>some ⟨SJ,none⟩
 | 121,"StopAll"=>some ⟨NL,none⟩
 | 91,"StopAll"=>some ⟨NH,none⟩
 | 121,"Send"=>some ⟨NK,none⟩
 | 91,"Send"=>some ⟨SL,none⟩
 | 121,"Recv"=>some ⟨NJ,none⟩
 | 91,"Recv"=>some ⟨SK,none⟩
 | _,_=>none
def tp:TP:=⟨aOf,Tv⟩
theorem aYS:tp.fn aYX=some eK:=rfl
theorem aYT:tp.fn sU=some eL:=rfl
theorem aYU:tp.fn sV=some eM:=rfl
theorem aYV:tp.fn sW=some eO:=rfl
theorem Zh:tp.fn SQ=some Oh:=rfl
theorem aAu:tp.fn SR=some Tq:=rfl
theorem aAv:tp.fn sY=some Tr:=rfl
theorem aAw:tp.fn VX=some Tt:=rfl
theorem aYW:tp.fn aNr=some eP:=rfl
theorem aAx:tp.fn sZ=some Tu:=rfl
theorem aMg:tp.fn Uk=some PY:=rfl
theorem aMh:tp.fn Zx=some PZ:=rfl
theorem Nt:tp.fn Kp=some Gl:=rfl
theorem aMi:tp.fn MA=some P1:=rfl
theorem aMj:tp.fn Ul=some P5:=rfl
theorem aMk:tp.fn Um=some P6:=rfl
theorem aMl:tp.fn Un=some P7:=rfl
theorem aMm:tp.fn Zy=some P8:=rfl
theorem aMn:tp.fn Zz=some LP:=rfl
theorem aMo:tp.fn ZA=some P9:=rfl
theorem aMp:tp.fn ZB=some Qa:=rfl
theorem aMq:tp.fn ZD=some Qb:=rfl
theorem aMr:tp.fn ZE=some Qc:=rfl
theorem aMs:tp.fn Uo=some Qd:=rfl
theorem aMt:tp.fn ZF=some Qe:=rfl
theorem aMu:tp.fn ZG=some Qf:=rfl
theorem aMv:tp.fn ZH=some Qg:=rfl
theorem FE:tp.fn Up=some CV:=rfl
theorem aMw:tp.fn Uq=some Qh:=rfl
theorem aMx:tp.fn ZI=some Qi:=rfl
theorem aMy:tp.fn ZJ=some Qj:=rfl
theorem aMz:tp.fn ZK=some Qk:=rfl
theorem aMA:tp.fn ZL=some Ql:=rfl
theorem aMB:tp.fn Ur=some Qm:=rfl
theorem aMC:tp.fn ZM=some Qn:=rfl
theorem aMD:tp.fn ZN=some Qo:=rfl
theorem Kj:tp.fn Us=some Fr:=rfl
theorem Nv:tp.fn Ut=some Gm:=rfl
theorem Zg:tp.fn Uu=some LQ:=rfl
theorem aME:tp.fn ZO=some Qp:=rfl
theorem aMF:tp.fn ZP=some Qq:=rfl
theorem Zi:tp.fn O2=some LR:=rfl
theorem aMG:tp.fn ZR=some Qr:=rfl
theorem aMH:tp.fn ZT=some Qs:=rfl
theorem aMI:tp.fn ZU=some Qt:=rfl
theorem aMJ:tp.fn ZV=some Qu:=rfl
theorem aMK:tp.fn ZW=some Qv:=rfl
theorem aML:tp.fn ZX=some Qw:=rfl
theorem Zj:tp.fn Uv=some LS:=rfl
theorem Zk:tp.fn Uw=some LT:=rfl
theorem aMM:tp.fn ZY=some Qx:=rfl
theorem aMN:tp.fn ZZ=some Qy:=rfl
theorem Zl:tp.fn Ux=some LU:=rfl
theorem Zm:tp.fn Uy=some LV:=rfl
theorem aMO:tp.fn Uz=some Qz:=rfl
theorem aMP:tp.fn UA=some QA:=rfl
theorem aMQ:tp.fn O3=some QB:=rfl
theorem aMR:tp.fn UB=some QC:=rfl
theorem aMS:tp.fn Z0=some QD:=rfl
theorem Zn:tp.fn Z2=some LW:=rfl
theorem FF:tp.fn UC=some CW:=rfl
theorem R1:tp.fn UD=some Ia:=rfl
theorem aMT:tp.fn Z3=some QE:=rfl
theorem aMU:tp.fn UE=some QF:=rfl
theorem aMV:tp.fn UF=some QG:=rfl
theorem Nw:tp.fn UG=some Gn:=rfl
theorem aMW:tp.fn UH=some QH:=rfl
theorem aMX:tp.fn Z4=some QI:=rfl
theorem aMY:tp.fn Z5=some QJ:=rfl
theorem aMZ:tp.fn UI=some QK:=rfl
theorem aM0:tp.fn Z6=some QL:=rfl
theorem aM1:tp.fn Z7=some QM:=rfl
theorem aM2:tp.fn Z8=some QN:=rfl
theorem BF:tp.fn UJ=some A9:=rfl
theorem aM3:tp.fn UK=some QO:=rfl
theorem aM4:tp.fn Z9=some QP:=rfl
theorem aM5:tp.fn aA=some QQ:=rfl
theorem aM6:tp.fn aB=some QR:=rfl
theorem aM7:tp.fn aC=some QS:=rfl
theorem aM8:tp.fn aD=some QT:=rfl
theorem aM9:tp.fn aE=some QU:=rfl
theorem aNa:tp.fn aF=some QV:=rfl
theorem aNb:tp.fn aG=some QW:=rfl
theorem aNc:tp.fn aH=some QX:=rfl
theorem aNe:tp.fn aI=some QY:=rfl
theorem aNf:tp.fn aJ=some QZ:=rfl
theorem aNg:tp.fn aK=some Q0:=rfl
theorem aNh:tp.fn aL=some Q4:=rfl
theorem Zo:tp.fn UL=some LX:=rfl
theorem R5:tp.fn UM=some Ib:=rfl
theorem aNi:tp.fn aM=some Q5:=rfl
theorem Nx:tp.fn aN=some Gp:=rfl
theorem Ha:tp.fn aO=some Ea:=rfl
theorem R6:tp.fn aP=some Ic:=rfl
theorem aNj:tp.fn aQ=some Q6:=rfl
theorem aNk:tp.fn aR=some Q7:=rfl
theorem Fc:tp.fn O4=some CC:=rfl
theorem aNl:tp.fn aS=some Q8:=rfl
theorem aNm:tp.fn aU=some Q9:=rfl
theorem R7:tp.fn Ku=some Id:=rfl
theorem qL:tp.fn R9=some KY:=rfl
theorem qM:tp.fn Sa=some KZ:=rfl
theorem qN:tp.fn Sb=some K0:=rfl
theorem qO:tp.fn Sc=some K2:=rfl
theorem qP:tp.fn Sd=some K3:=rfl
theorem qQ:tp.fn Se=some K4:=rfl
theorem qR:tp.fn IC=some K5:=rfl
theorem qS:tp.fn Sf=some K6:=rfl
theorem qT:tp.fn Sg=some K7:=rfl
theorem qU:tp.fn Si=some K8:=rfl
theorem qV:tp.fn Sj=some K9:=rfl
theorem Ns:tp.fn NC=some FQ:=rfl
theorem Ud:tp.fn ND=some Hu:=rfl
theorem qW:tp.fn NE=some La:=rfl
theorem qX:tp.fn Km=some Lb:=rfl
theorem qY:tp.fn Ko=some Lc:=rfl
theorem qZ:tp.fn Sk=some Ld:=rfl
theorem rA:tp.fn Sm=some Le:=rfl
theorem rB:tp.fn Sn=some Lf:=rfl
theorem Ue:tp.fn Hd=some Hv:=rfl
theorem rC:tp.fn So=some Lg:=rfl
theorem rD:tp.fn Sp=some Lh:=rfl
theorem rE:tp.fn Sq=some Li:=rfl
theorem rF:tp.fn Sr=some Lj:=rfl
theorem rG:tp.fn Ss=some Lk:=rfl
theorem rH:tp.fn St=some Ll:=rfl
theorem rI:tp.fn Su=some Lm:=rfl
theorem rJ:tp.fn Sv=some Ln:=rfl
theorem rK:tp.fn NF=some Lo:=rfl
theorem rL:tp.fn Sw=some Lp:=rfl
theorem rM:tp.fn NG=some Lq:=rfl
theorem rN:tp.fn Sx=some Lr:=rfl
theorem rO:tp.fn Sy=some Ls:=rfl
theorem rP:tp.fn Sz=some Lt:=rfl
theorem rQ:tp.fn SA=some Lu:=rfl
theorem rR:tp.fn SB=some Lv:=rfl
theorem rS:tp.fn SC=some Lw:=rfl
theorem rT:tp.fn SD=some Lx:=rfl
theorem rU:tp.fn Kq=some Ly:=rfl
theorem rV:tp.fn SF=some Lz:=rfl
theorem rX:tp.fn SG=some LA:=rfl
theorem rY:tp.fn SH=some LB:=rfl
theorem rZ:tp.fn SI=some LC:=rfl
theorem sC:tp.fn SJ=some LD:=rfl
theorem sD:tp.fn SK=some LE:=rfl
theorem sE:tp.fn SL=some LF:=rfl
theorem Nu:tp.fn NH=some FR:=rfl
theorem sF:tp.fn NI=some LG:=rfl
theorem sG:tp.fn NJ=some LH:=rfl
theorem Uf:tp.fn NK=some Hw:=rfl
theorem sH:tp.fn NL=some LI:=rfl
theorem sI:tp.fn Kr=some LJ:=rfl
theorem sJ:tp.fn Ks=some LK:=rfl
theorem sK:tp.fn Kt=some LL:=rfl
theorem sL:tp.fn SM=some LM:=rfl
theorem sM:tp.fn SN=some LN:=rfl
theorem sN:tp.fn SO=some LO:=rfl
theorem bCK:tp.fn aOw=some aAC:=rfl
@[go_sem] theorem iZ:tp.meth 149 "Push"=some ⟨Kt,none⟩:=by kernel_rfl
@[go_sem] theorem tR:tp.meth 149 "Len"=some ⟨UB,none⟩:=by kernel_rfl
@[go_sem] theorem iY:tp.meth 149 "Less"=some ⟨Kr,none⟩:=by kernel_rfl
@[go_sem] theorem jA:tp.meth 149 "Swap"=some ⟨SM,none⟩:=by kernel_rfl
@[go_sem] theorem tS:tp.meth 149 "Pop"=some ⟨Ks,none⟩:=by kernel_rfl
@[go_sem] theorem Jx:tp.meth 121 "Change"=some ⟨NI,none⟩:=by kernel_rfl
@[go_sem] theorem KD:tp.meth 91 "Change"=some ⟨SJ,none⟩:=by kernel_rfl
@[go_sem] theorem IK:tp.meth 121 "StopAll"=some ⟨NL,none⟩:=by kernel_rfl
@[go_sem] theorem Jy:tp.meth 91 "StopAll"=some ⟨NH,none⟩:=by kernel_rfl
@[go_sem] theorem Mf:tp.meth 121 "Send"=some ⟨NK,none⟩:=by kernel_rfl
@[go_sem] theorem NS:tp.meth 91 "Send"=some ⟨SL,none⟩:=by kernel_rfl
@[go_sem] theorem Me:tp.meth 121 "Recv"=some ⟨NJ,none⟩:=by kernel_rfl
@[go_sem] theorem NR:tp.meth 91 "Recv"=some ⟨SK,none⟩:=by kernel_rfl
end Go.Ab.T
