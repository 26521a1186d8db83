/- Part of a proof that a law returns true for every input of the second form's bound (no other condition). -/
import Derived.Test.YtlcknhidblndnaaGreatPD
set_option linter.all false
/- The abstract machine's text of the functions, its regions as numbers. Written by a tool. -/
namespace Go.Ab.T
open Go Go.Ab
set_option maxRecDepth 100000
abbrev aYX:Nat:=7
abbrev sU:Nat:=10
abbrev sV:Nat:=11
abbrev sW:Nat:=12
abbrev SQ:Nat:=13
abbrev SR:Nat:=14
abbrev sY:Nat:=15
abbrev VX:Nat:=16
abbrev aNr:Nat:=17
abbrev sZ:Nat:=18
abbrev Uk:Nat:=20
abbrev Zx:Nat:=21
abbrev Kp:Nat:=22
abbrev MA:Nat:=23
abbrev Ul:Nat:=24
abbrev Um:Nat:=25
abbrev Un:Nat:=26
abbrev Zy:Nat:=27
abbrev Zz:Nat:=28
abbrev ZA:Nat:=29
abbrev ZB:Nat:=30
abbrev ZD:Nat:=31
abbrev ZE:Nat:=32
abbrev Uo:Nat:=33
abbrev ZF:Nat:=34
abbrev ZG:Nat:=35
abbrev ZH:Nat:=36
abbrev Up:Nat:=37
abbrev Uq:Nat:=38
abbrev ZI:Nat:=39
abbrev ZJ:Nat:=40
abbrev ZK:Nat:=41
abbrev ZL:Nat:=42
abbrev Ur:Nat:=43
abbrev ZM:Nat:=44
abbrev ZN:Nat:=45
abbrev Us:Nat:=46
abbrev Ut:Nat:=47
abbrev Uu:Nat:=48
abbrev ZO:Nat:=49
abbrev ZP:Nat:=50
abbrev O2:Nat:=51
abbrev ZR:Nat:=52
abbrev ZT:Nat:=53
abbrev ZU:Nat:=54
abbrev ZV:Nat:=55
abbrev ZW:Nat:=56
abbrev ZX:Nat:=57
abbrev Uv:Nat:=58
abbrev Uw:Nat:=59
abbrev ZY:Nat:=60
abbrev ZZ:Nat:=61
abbrev Ux:Nat:=62
abbrev Uy:Nat:=63
abbrev Uz:Nat:=64
abbrev UA:Nat:=65
abbrev O3:Nat:=66
abbrev UB:Nat:=67
abbrev Z0:Nat:=68
abbrev Z2:Nat:=69
abbrev UC:Nat:=70
abbrev UD:Nat:=71
abbrev Z3:Nat:=72
abbrev UE:Nat:=73
abbrev UF:Nat:=74
abbrev UG:Nat:=75
abbrev UH:Nat:=76
abbrev Z4:Nat:=77
abbrev Z5:Nat:=78
abbrev UI:Nat:=79
abbrev Z6:Nat:=80
abbrev Z7:Nat:=81
abbrev Z8:Nat:=82
abbrev UJ:Nat:=83
abbrev UK:Nat:=84
abbrev Z9:Nat:=85
abbrev aA:Nat:=86
abbrev aB:Nat:=87
abbrev aC:Nat:=88
abbrev aD:Nat:=89
abbrev aE:Nat:=90
abbrev aF:Nat:=91
abbrev aG:Nat:=92
abbrev aH:Nat:=93
abbrev aI:Nat:=94
abbrev aJ:Nat:=95
abbrev aK:Nat:=96
abbrev aL:Nat:=97
abbrev UL:Nat:=98
abbrev UM:Nat:=99
abbrev aM:Nat:=100
abbrev aN:Nat:=101
abbrev aO:Nat:=102
abbrev aP:Nat:=103
abbrev aQ:Nat:=104
abbrev aR:Nat:=105
abbrev O4:Nat:=106
abbrev aS:Nat:=107
abbrev aU:Nat:=108
abbrev Ku:Nat:=109
abbrev R9:Nat:=110
abbrev Sa:Nat:=111
abbrev Sb:Nat:=112
abbrev Sc:Nat:=113
abbrev Sd:Nat:=114
abbrev Se:Nat:=115
abbrev IC:Nat:=116
abbrev Sf:Nat:=117
abbrev Sg:Nat:=118
abbrev Si:Nat:=119
abbrev Sj:Nat:=120
abbrev NC:Nat:=121
abbrev ND:Nat:=122
abbrev NE:Nat:=123
abbrev Km:Nat:=124
abbrev Ko:Nat:=125
abbrev Sk:Nat:=126
abbrev Sm:Nat:=127
abbrev Sn:Nat:=128
abbrev Hd:Nat:=129
abbrev So:Nat:=130
abbrev Sp:Nat:=131
abbrev Sq:Nat:=132
abbrev Sr:Nat:=133
abbrev Ss:Nat:=134
abbrev St:Nat:=135
abbrev Su:Nat:=136
abbrev Sv:Nat:=137
abbrev NF:Nat:=138
abbrev Sw:Nat:=139
abbrev NG:Nat:=140
abbrev Sx:Nat:=141
abbrev Sy:Nat:=142
abbrev Sz:Nat:=143
abbrev SA:Nat:=144
abbrev SB:Nat:=145
abbrev SC:Nat:=146
abbrev SD:Nat:=147
abbrev Kq:Nat:=148
abbrev SF:Nat:=149
abbrev SG:Nat:=150
abbrev SH:Nat:=151
abbrev SI:Nat:=169
abbrev SJ:Nat:=170
abbrev SK:Nat:=171
abbrev SL:Nat:=172
abbrev NH:Nat:=173
abbrev NI:Nat:=174
abbrev NJ:Nat:=175
abbrev NK:Nat:=176
abbrev NL:Nat:=177
abbrev Kr:Nat:=178
abbrev Ks:Nat:=179
abbrev Kt:Nat:=180
abbrev SM:Nat:=181
abbrev SN:Nat:=182
abbrev SO:Nat:=183
def wrs:List Nat:=[MA,O2,Ul,Um,sU,Un,sV,Kq,NG,Hd,NF,Uo,SR,Uq,Up,UC,UD,UG,UE,UF,Uz,UH,UA,UB,UL,UM,Kt,Ks,Kr,Us,Ut,UI,Uu,UK,UJ,O4,NC,ND,NJ,NI,NH,NK]
def xgt {α:Type} (z:α):List α→Nat→α
 | [],_=>z
 | x::_,0=>x
 | _::l,n+1=>xgt z l n
def CD:Nat→Int:=xgt 0 [0,1,2,3,4,5,6,7,8,9,10,11,12,13,14,15,16,17,18,19,20,21,22,23,24,25,26,27,28,29,30,31]
def bA4:List ((Nat→Nat)→O):=[fun p=>.mv (.t (p 0)),
fun p=>.fad (p 0) (.t (p 1)),
fun p=>.load 1 false (.t (p 0)),
fun p=>.nck (.t (p 0)),
fun p=>.mv (.c (.i .i64 (CD (p 0)))),
fun p=>.len (.t (p 0)),
fun p=>.bin .eql (.t (p 0)) (.c (.i .i64 (CD (p 1)))),
fun p=>.mv (.c (.b false)),
fun p=>.bin .add (.t (p 0)) (.c (.i .i64 (CD (p 1)))),
fun p=>.pick (.t (p 0)) (.t (p 1)) (.c (.b false)),
fun p=>.pick (.t (p 0)) (.c (.b true)) (.t (p 1)),
fun p=>.bin .lss (.t (p 0)) (.t (p 1)),
fun p=>.store 1 (.t (p 0)) (.t (p 1)),
fun p=>.iad 1 (.t (p 0)) (.t (p 1)),
fun p=>.box (.t (p 0)),
fun p=>.bin .lss (.t (p 0)) (.c (.i .i64 (CD (p 1)))),
fun p=>.mv (.c (.i .u32 0)),
fun p=>.un .not (.t (p 0)),
fun p=>.mv (.c .ns),
fun p=>.bin .sub (.t (p 0)) (.c (.i .i64 (CD (p 1)))),
fun p=>.iad 3 (.t (p 0)) (.t (p 1)),
fun p=>.load 3 true (.t (p 0)),
fun p=>.call (.fn MA) [(.t (p 0)),(.c (.i .i64 (CD (p 1))))],
fun p=>.bin .gtr (.t (p 0)) (.c (.i .i64 (CD (p 1))))]
def bA5:List ((Nat→Nat)→O):=[fun p=>.ext (.t (p 0)) 0,
fun p=>.ext (.t (p 0)) 1,
fun p=>.bin .add (.t (p 0)) (.t (p 1)),
fun p=>.mv (.c (.b true)),
fun p=>.iad 11 (.t (p 0)) (.t (p 1)),
fun p=>.iad 2 (.t (p 0)) (.t (p 1)),
fun p=>.iada 1 8 (.t (p 0)) (.t (p 1)),
fun p=>.bin .geq (.t (p 0)) (.c (.i .i64 (CD (p 1)))),
fun p=>.bin .geq (.t (p 0)) (.t (p 1)),
fun p=>.store 2 (.t (p 0)) (.t (p 1)),
fun p=>.store 6 (.t (p 0)) (.t (p 1)),
fun p=>.load 2 true (.t (p 0)),
fun p=>.app 1 (.t (p 0)) (.t (p 1)),
fun p=>.iad 6 (.t (p 0)) (.t (p 1)),
fun p=>.bin .neq (.t (p 0)) (.c (.i .i64 (CD (p 1)))),
fun p=>.bin .neq (.t (p 0)) (.t (p 1)),
fun p=>.load 6 true (.t (p 0)),
fun p=>.mv (.c (.i .i64 (-1))),
fun p=>.alloc [(.i .i64 0),(.i .i64 0)],
fun p=>.conv .i64 (.t (p 0)),
fun p=>.bin .eql (.t (p 0)) (.t (p 1)),
fun p=>.load 4 true (.t (p 0)),
fun p=>.e0,
fun p=>.bin .sub (.t (p 0)) (.t (p 1))]
def bA6:List ((Nat→Nat)→O):=[fun p=>.iada 1 8 (.t (p 0)) (.c (.i .i64 (CD (p 1)))),
fun p=>.load 11 true (.t (p 0)),
fun p=>.alloc [(.i .i64 0),(.i .i64 0),(.i .i64 0),(.i .i64 0),(.i .i64 0),(.i .u32 0)],
fun p=>.chk 1 false (.t (p 0)) (.t (p 1)),
fun p=>.store 1 (.t (p 0)) (.c (.i .i64 (CD (p 1)))),
fun p=>.bin .gtr (.t (p 0)) (.t (p 1)),
fun p=>.bsl 2 [(.i .i64 0),(.i .i64 0)] 1 [(0,(.t (p 0)))],
fun p=>.app 2 (.t (p 0)) (.t (p 1)),
fun p=>.mv (.c .np),
fun p=>.iad 9 (.t (p 0)) (.t (p 1)),
fun p=>.bin .add (.c (.i .i64 (CD (p 0)))) (.t (p 1)),
fun p=>.fload 1 false (.t (p 0)),
fun p=>.conv .u32 (.t (p 0)),
fun p=>.app 3 (.t (p 0)) (.t (p 1)),
fun p=>.alloc [.ns,.ns,.ns],
fun p=>.store 3 (.t (p 0)) (.t (p 1)),
fun p=>.store 11 (.t (p 0)) (.t (p 1)),
fun p=>.bin .rem (.t (p 0)) (.t (p 1)),
fun p=>.bsl 3 [(.i .i64 0),(.i .i64 0),(.i .i64 0)] 1 [(0,(.t (p 0)))],
fun p=>.mx [(.t (p 0)),(.t (p 1))],
fun p=>.alloc [(.s ⟨#[]⟩),(.i .i64 0),(.i .i64 0),(.b false),(.b false),.ns,(.i .i64 0),(.i .i64 0),(.i .i64 0),(.i .i64 0),(.i .i64 0)],
fun p=>.bsl 1 [.ns] 1 [(0,(.t (p 0)))],
fun p=>.store 4 (.t (p 0)) (.t (p 1)),
fun p=>.eq false .sl (.t (p 0)) (.c .ns)]
def bA7:List ((Nat→Nat)→O):=[fun p=>.bin .leq (.t (p 0)) (.c (.i .i64 (CD (p 1)))),
fun p=>.slen (.t (p 0)),
fun p=>.sidx (.t (p 0)) (.t (p 1)),
fun p=>.mv (.c (.i .u32 4)),
fun p=>.bin .mul (.c (.i .i64 (CD (p 0)))) (.t (p 1)),
fun p=>.build [(.i .i64 0),(.i .i64 0)] [(0,1,(.t (p 0))),(1,1,(.t (p 1)))],
fun p=>.call (.fn MA) [(.t (p 0)),(.t (p 1))],
fun p=>.bin .leq (.t (p 0)) (.t (p 1)),
fun p=>.call (.fn sY) [(.t (p 0))],
fun p=>.call (.fn SR) [(.t (p 0)),(.c .ni)],
fun p=>.bin .eql (.t (p 0)) (.c (.i .u32 0)),
fun p=>.alloc [(.i .i64 0),(.i .i64 0),(.b false),(.i .i64 0),(.i .u32 0),(.i .i64 0)],
fun p=>.iada 1 16 (.t (p 0)) (.t (p 1)),
fun p=>.bin .leq (.t (p 0)) (.c (.i .i64 4096)),
fun p=>.mn [(.c (.i .i64 4097)),(.t (p 0))],
fun p=>.app 6 (.t (p 0)) (.t (p 1)),
fun p=>.load 5 true (.t (p 0)),
fun p=>.alloc [(.i .i64 0),(.i .i64 0),(.i .i64 0),(.i .i64 0)],
fun p=>.load 16 true (.t (p 0)),
fun p=>.call (.fn Ur) [(.t (p 0))],
fun p=>.eq false .ptr (.t (p 0)) (.c .np),
fun p=>.call (.fn Us) [(.t (p 0)),(.t (p 1)),(.t (p 2))],
fun p=>.call (.fn Ut) [(.t (p 0)),(.t (p 1))],
fun p=>.mn [(.t (p 0)),(.t (p 1))]]
def bA8:List ((Nat→Nat)→O):=[fun p=>.conv .u8 (.t (p 0)),
fun p=>.mv (.c (.i .u32 3)),
fun p=>.bin .mul (.t (p 0)) (.t (p 1)),
fun p=>.call (.fn aM) [(.t (p 0)),(.t (p 1))],
fun p=>.store 1 (.t (p 0)) (.c (.b true)),
fun p=>.mn [(.t (p 0)),(.c (.i .i64 4097))],
fun p=>.alloc [.ns,.ns],
fun p=>.iada 1 5 (.t (p 0)) (.t (p 1)),
fun p=>.bsl 11 [(.s ⟨#[]⟩),(.i .i64 0),(.i .i64 0),(.b false),(.b false),.ns,(.i .i64 0),(.i .i64 0),(.i .i64 0),(.i .i64 0),(.i .i64 0)] 1 [(0,(.t (p 0)))],
fun p=>.app 11 (.t (p 0)) (.t (p 1)),
fun p=>.chkb 1 [(.i .u32 0)] 3 [(0,(.c (.i .u32 4294967295))),(1,(.c (.i .u32 200))),(2,(.c (.i .u32 3)))] (.t (p 0)),
fun p=>.chka [(.i .i64 0),(.i .i64 0),(.b false),(.i .i64 0),(.i .u32 0),(.i .i64 0)] (.t (p 0)),
fun p=>.bsl 1 [(.i .u32 0)] 1 [(0,(.t (p 0)))],
fun p=>.slice 1 (.t (p 0)) none (some (.t (p 1))) none,
fun p=>.eq true .ptr (.t (p 0)) (.c .np),
fun p=>.build [(.i .i64 0),(.i .i64 0),(.i .i64 0)] [(0,1,(.c (.i .i64 (CD (p 0))))),(2,1,(.c (.i .i64 (CD (p 1)))))],
fun p=>.eq false (.agg [.i,.i,.i,.i,.i,.i]) (.t (p 0)) (.t (p 1)),
fun p=>.call (.fn VX) [(.t (p 0)),(.t (p 1))],
fun p=>.store 16 (.t (p 0)) (.t (p 1)),
fun p=>.build [(.i .u32 0),(.i .u32 0),(.i .u32 0),(.i .u32 0),(.i .u32 0),(.i .u32 0),(.i .u32 0),(.i .u32 0)] [],
fun p=>.call (.fn ZR) [(.t (p 0))],
fun p=>.bin .quo (.t (p 0)) (.t (p 1)),
fun p=>.mx [(.t (p 0)),(.c (.i .i64 (CD (p 1))))],
fun p=>.store 1 (.t (p 0)) (.c .ns)]
def bA9:List ((Nat→Nat)→O):=[fun p=>.ext (.t (p 0)) 2,
fun p=>.call (.fn Z2) [(.t (p 0)),(.t (p 1))],
fun p=>.call (.fn Z3) [(.t (p 0))],
fun p=>.build [(.i .i64 0),(.i .i64 0),(.i .i64 0)] [(0,1,(.c (.i .i64 (CD (p 0))))),(2,1,(.t (p 1)))],
fun p=>.call (.fn aR) [(.t (p 0))],
fun p=>.call (.fn aS) [(.t (p 0))],
fun p=>.bsl 1 [(.i .i64 0)] 1 [(0,(.t (p 0)))],
fun p=>.inv (.t (p 0)) "Less" [(.t (p 1)),(.t (p 2))],
fun p=>.call (.fn Sk) [(.t (p 0)),(.t (p 1))],
fun p=>.call (.fn Su) [(.t (p 0))],
fun p=>.call (.fn Sx) [(.t (p 0)),(.t (p 1))],
fun p=>.call (.fn Sz) [(.t (p 0)),(.t (p 1))],
fun p=>.mx [(.c (.i .i64 (CD (p 0)))),(.t (p 1))],
fun p=>.call (.fn sW) [(.t (p 0)),(.c (.i .i64 (CD (p 1)))),(.t (p 2))],
fun p=>.call (.fn Uk) [(.t (p 0)),(.t (p 1)),(.t (p 2)),(.t (p 3)),(.t (p 4))],
fun p=>.mn [(.t (p 0)),(.c (.i .i64 512))],
fun p=>.call (.fn Uo) [(.t (p 0))],
fun p=>.build [(.i .i64 0),(.i .i64 0),(.i .i64 0),(.i .i64 0),(.i .i64 0),(.i .u32 0)] [],
fun p=>.store 1 (.t (p 0)) (.c (.i .u32 0)),
fun p=>.eq false .b (.t (p 0)) (.t (p 1)),
fun p=>.build [(.i .i64 0),(.i .i64 0)] [],
fun p=>.call (.fn SQ) [(.t (p 0)),(.c (.i .i64 (CD (p 1)))),(.c .ns),(.c .ns)],
fun p=>.call (.fn sZ) [(.t (p 0))],
fun p=>.call (.fn ZM) [(.t (p 0))]]
def bBa:List ((Nat→Nat)→O):=[fun p=>.build [.ns,.ns,.ns,.np,(.i .i64 0),(.i .i64 0),(.b false)] [(0,3,(.t (p 0))),(3,1,(.t (p 1))),(4,1,(.c (.i .i64 (-1))))],
fun p=>.call (.fn SQ) [(.t (p 0)),(.t (p 1)),(.t (p 2)),(.t (p 3))],
fun p=>.eq true .b (.t (p 0)) (.t (p 1)),
fun p=>.store 8 (.t (p 0)) (.t (p 1)),
fun p=>.load 8 true (.t (p 0)),
fun p=>.call (.fn ZT) [(.t (p 0))],
fun p=>.call (.fn ZU) [(.t (p 0)),(.t (p 1)),(.t (p 2))],
fun p=>.iad 1 (.t (p 0)) (.c (.i .i64 (CD (p 1)))),
fun p=>.call (.fn ZV) [(.t (p 0)),(.t (p 1)),(.t (p 2))],
fun p=>.call (.fn Uy) [(.t (p 0))],
fun p=>.build [(.i .u32 0),(.i .u32 0),(.i .u32 0),(.i .u32 0),(.i .u32 0),(.i .u32 0),(.i .u32 0),(.i .u32 0),(.i .u32 0),(.i .u32 0),(.i .u32 0),(.i .u32 0),(.i .u32 0),(.i .u32 0),(.i .u32 0),(.i .u32 0)] [],
fun p=>.mkif 149 (.t (p 0)),
fun p=>.mkif 3 (.t (p 0)),
fun p=>.tas 3 false (.i .i64 0) (.t (p 0)),
fun p=>.bin .rem (.t (p 0)) (.c (.i .i64 (CD (p 1)))),
fun p=>.build [(.i .i64 0),(.i .i64 0),(.i .i64 0),(.i .i64 0)] [],
fun p=>.build [(.i .i64 0),(.i .i64 0),(.i .i64 0),(.i .i64 0)] [(0,1,(.t (p 0))),(1,1,(.t (p 1))),(2,1,(.t (p 2))),(3,1,(.t (p 3)))],
fun p=>.load 9 true (.t (p 0)),
fun p=>.call (.fn UI) [(.t (p 0))],
fun p=>.mv (.c (.i .u32 2)),
fun p=>.call (.fn Kp) [(.t (p 0)),(.t (p 1))],
fun p=>.eq false (.agg [.i,.i,.i,.i,.i,.i,.i,.i]) (.t (p 0)) (.t (p 1)),
fun p=>.call (.fn O2) [(.t (p 0)),(.t (p 1)),(.t (p 2))],
fun p=>.bin .gtr (.t (p 0)) (.c (.i .i64 96))]
def bBb:List ((Nat→Nat)→O):=[fun p=>.call (.fn aD) [(.t (p 0)),(.t (p 1))],
fun p=>.call (.fn aE) [(.t (p 0))],
fun p=>.slice 2 (.t (p 0)) none (some (.t (p 1))) (some (.t (p 2))),
fun p=>.inv (.t (p 0)) "Len" [],
fun p=>.mv (.c .ni),
fun p=>.conv .u64 (.t (p 0)),
fun p=>.build [(.i .i64 0),(.i .i64 0),(.i .i64 0)] [(0,1,(.t (p 0))),(1,1,(.t (p 1))),(2,1,(.t (p 2)))],
fun p=>.bin .gtr (.t (p 0)) (.c (.i .i64 255)),
fun p=>.call (.fn aQ) [(.t (p 0))],
fun p=>.bin .gtr (.t (p 0)) (.c (.i .i64 128)),
fun p=>.bin .sub (.c (.i .i64 9223372036854775807)) (.t (p 0)),
fun p=>.mv (.c (.i .i64 9223372036854775807)),
fun p=>.idx 1 5 false (.t (p 0)) (.t (p 1)),
fun p=>.call (.fn IC) [(.t (p 0)),(.t (p 1))],
fun p=>.inv (.t (p 0)) "Swap" [(.t (p 1)),(.t (p 2))],
fun p=>.bin .gtr (.t (p 0)) (.c (.i .i64 4096)),
fun p=>.call (.fn Ku) [(.t (p 0)),(.t (p 1)),(.t (p 2))],
fun p=>.call (.t (p 0)) [(.t (p 1))],
fun p=>.call (.fn Sm) [(.t (p 0))],
fun p=>.call (.fn NE) [(.t (p 0)),(.t (p 1))],
fun p=>.call (.fn SA) [(.t (p 0))],
fun p=>.bsl 1 [(.i .i64 0)] 2 [(0,(.t (p 0))),(1,(.t (p 1)))],
fun p=>.bin .leq (.t (p 0)) (.c (.i .i64 128)),
fun p=>.call (.fn SC) [(.t (p 0))]]
def bBc:List ((Nat→Nat)→O):=[fun p=>.bsl 6 [(.i .i64 0),(.i .i64 0),(.i .i64 0),(.i .i64 0),(.i .i64 0),(.i .i64 0)] 1 [(0,(.t (p 0)))],
fun p=>.call (.fn SF) [(.t (p 0))],
fun p=>.iad 6 (.t (p 0)) (.c (.i .i64 (CD (p 1)))),
fun p=>.call (.fn SN) [(.t (p 0)),(.t (p 1))],
fun p=>.call (.fn SO) [(.t (p 0))],
fun p=>.build [.ns,(.i .i64 0)] [(0,1,(.t (p 0)))],
fun p=>.call (.fn sU) [(.t (p 0))],
fun p=>.call (.fn sV) [(.t (p 0)),(.t (p 1))],
fun p=>.fload 3 true (.t (p 0)),
fun p=>.chk 3 true (.t (p 0)) (.t (p 1)),
fun p=>.call (.fn Uk) [(.t (p 0)),(.t (p 1)),(.t (p 2)),(.t (p 3)),(.c .ns)],
fun p=>.call (.fn aNr) [],
fun p=>.bin .add (.c (.i .i64 97)) (.t (p 0)),
fun p=>.conv .i32 (.t (p 0)),
fun p=>.i2s (.t (p 0)),
fun p=>.bin .add (.c (.s ⟨#[112]⟩)) (.t (p 0)),
fun p=>.build [(.s ⟨#[]⟩),(.i .i64 0),(.i .i64 0),(.b false),(.b false),.ns,(.i .i64 0),(.i .i64 0),(.i .i64 0),(.i .i64 0),(.i .i64 0)] [(0,1,(.t (p 0))),(3,1,(.t (p 1))),(4,1,(.t (p 2)))],
fun p=>.bsl 1 [(.i .i64 0)] 5 [(0,(.c (.i .i64 (CD (p 0))))),(1,(.c (.i .i64 (CD (p 1))))),(2,(.c (.i .i64 (CD (p 2))))),(3,(.c (.i .i64 (CD (p 3))))),(4,(.c (.i .i64 (CD (p 4)))))],
fun p=>.bslc 1 [(.i .u32 0)] 3 [(0,(.c (.i .u32 4294967295))),(1,(.c (.i .u32 200))),(2,(.c (.i .u32 3)))],
fun p=>.alc [(.i .i64 0),(.i .i64 0),(.b false),(.i .i64 0),(.i .u32 0),(.i .i64 0)],
fun p=>.build [(.i .i64 0),(.i .i64 0),(.b false),(.i .i64 0),(.i .u32 0),(.i .i64 0)] [(0,1,(.t (p 0))),(1,1,(.t (p 1))),(2,1,(.t (p 2))),(4,1,(.t (p 3)))],
fun p=>.bsl 6 [(.i .i64 0),(.i .i64 0),(.b false),(.i .i64 0),(.i .u32 0),(.i .i64 0)] 1 [(0,(.t (p 0)))],
fun p=>.call (.fn Ul) [(.t (p 0)),(.t (p 1))],
fun p=>.call (.fn Um) [(.t (p 0)),(.t (p 1))]]
def bBd:List ((Nat→Nat)→O):=[fun p=>.call (.fn Un) [(.t (p 0)),(.t (p 1)),(.t (p 2))],
fun p=>.call (.fn MA) [(.t (p 0)),(.c (.i .i64 300))],
fun p=>.call (.fn Zy) [(.t (p 0))],
fun p=>.call (.fn Zz) [(.t (p 0))],
fun p=>.call (.fn ZA) [(.t (p 0))],
fun p=>.call (.fn ZB) [(.t (p 0))],
fun p=>.call (.fn ZD) [(.t (p 0))],
fun p=>.build [.ns,.ns,.ns,(.i .i64 0),.ns,.ns,.np,.ns,(.i .u32 0),(.i .u32 0),(.i .u32 0),(.i .u32 0),(.i .u32 0),(.i .u32 0),(.i .u32 0),(.i .u32 0),(.i .u32 0),(.i .u32 0),(.i .u32 0),(.i .u32 0),(.i .u32 0),(.i .u32 0),(.i .u32 0),(.i .u32 0),.np,(.i .i64 0)] [(0,3,(.t (p 0))),(3,1,(.t (p 1))),(4,1,(.t (p 2))),(5,1,(.t (p 3))),(24,1,(.t (p 4)))],
fun p=>.call (.fn ZE) [(.t (p 0))],
fun p=>.eq false .ifc (.t (p 0)) (.c .ni),
fun p=>.build [] [],
fun p=>.mkif 91 (.t (p 0)),
fun p=>.call (.fn ZF) [(.t (p 0)),(.t (p 1))],
fun p=>.build [(.i .i64 0),(.i .i64 0),(.i .i64 0),(.i .i64 0),(.i .i64 0),(.i .u32 0)] [(0,1,(.t (p 0))),(1,1,(.c (.i .i64 (-1))))],
fun p=>.build [(.i .i64 0),(.i .i64 0),(.i .i64 0),(.i .i64 0),(.i .i64 0),(.i .u32 0)] [(0,1,(.t (p 0))),(1,1,(.t (p 1))),(2,1,(.t (p 2)))],
fun p=>.call (.fn ZG) [(.t (p 0)),(.t (p 1))],
fun p=>.call (.fn ZH) [(.t (p 0))],
fun p=>.call (.fn Up) [(.t (p 0)),(.t (p 1)),(.t (p 2)),(.t (p 3)),(.t (p 4))],
fun p=>.call (.fn Uq) [(.t (p 0)),(.t (p 1)),(.t (p 2))],
fun p=>.call (.fn ZI) [(.t (p 0))],
fun p=>.eq false (.agg [.i,.i,.i,.i,.i,.i,.i,.i,.i,.i,.i,.i,.i,.i,.i,.i]) (.t (p 0)) (.t (p 1)),
fun p=>.call (.fn ZJ) [(.t (p 0)),(.t (p 1))],
fun p=>.call (.fn ZK) [(.t (p 0)),(.t (p 1))],
fun p=>.call (.fn ZL) [(.t (p 0)),(.t (p 1))]]
def aZp:List ((Nat→Nat)→O):=[fun p=>.build [(.i .i64 0),(.i .i64 0),(.i .i64 0),(.i .i64 0),(.i .i64 0)] [(0,1,(.c (.i .i64 (CD (p 0))))),(1,1,(.c (.i .i64 (CD (p 1))))),(2,1,(.c (.i .i64 (CD (p 2))))),(3,1,(.c (.i .i64 (CD (p 3))))),(4,1,(.c (.i .i64 (CD (p 4)))))],
fun p=>.build [(.s ⟨#[]⟩),(.i .i64 0),(.i .i64 0),(.b false),(.b false),.ns,(.i .i64 0),(.i .i64 0),(.i .i64 0),(.i .i64 0),(.i .i64 0)] [(0,1,(.c (.s ⟨#[97]⟩))),(5,1,(.t (p 0))),(6,5,(.t (p 1)))],
fun p=>.build [.ns,.ns,.ns] [(0,1,(.t (p 0))),(2,1,(.t (p 1)))],
fun p=>.bsl 1 [(.i .u8 0)] 12 [(0,(.c (.i .u8 1))),(1,(.c (.i .u8 1))),(2,(.c (.i .u8 0))),(3,(.c (.i .u8 7))),(4,(.c (.i .u8 5))),(5,(.c (.i .u8 2))),(6,(.c (.i .u8 1))),(7,(.c (.i .u8 3))),(8,(.c (.i .u8 11))),(9,(.c (.i .u8 0))),(10,(.c (.i .u8 1))),(11,(.c (.i .u8 0)))],
fun p=>.call (.fn SQ) [(.t (p 0)),(.c (.i .i64 (CD (p 1)))),(.t (p 2)),(.c .ns)],
fun p=>.build [.ns,.ns,.ns] [],
fun p=>.build [(.i .i64 0),(.i .i64 0),(.i .i64 0),(.i .i64 0),(.i .i64 0),(.i .u32 0)] [(3,1,(.c (.i .i64 (CD (p 0))))),(5,1,(.c (.i .u32 7)))],
fun p=>.build [(.i .i64 0),(.i .i64 0),(.i .i64 0),(.i .i64 0),(.i .i64 0),(.i .u32 0)] [(0,1,(.c (.i .i64 (CD (p 0))))),(2,1,(.c (.i .i64 (CD (p 1))))),(3,1,(.c (.i .i64 (CD (p 2))))),(4,1,(.c (.i .i64 (CD (p 3)))))],
fun p=>.build [(.i .i64 0),(.i .i64 0),(.i .i64 0),(.i .i64 0),(.i .i64 0),(.i .u32 0)] [(0,1,(.c (.i .i64 (CD (p 0))))),(2,1,(.c (.i .i64 (CD (p 1))))),(4,1,(.c (.i .i64 (CD (p 2)))))],
fun p=>.call (.fn Kp) [(.t (p 0)),(.c (.i .i64 (CD (p 1))))],
fun p=>.idx 1 8 false (.t (p 0)) (.c (.i .i64 (CD (p 1)))),
fun p=>.bin .eql (.t (p 0)) (.c (.i .u32 7)),
fun p=>.call (.fn VX) [(.t (p 0)),(.c .np)],
fun p=>.call (.fn ZN) [(.t (p 0)),(.t (p 1)),(.t (p 2)),(.t (p 3))],
fun p=>.bin .lss (.t (p 0)) (.c (.i .i64 70)),
fun p=>.build [.np,(.i .i64 0)] [(0,1,(.t (p 0))),(1,1,(.t (p 1)))],
fun p=>.mkif 121 (.t (p 0)),
fun p=>.call (.fn SR) [(.t (p 0)),(.t (p 1))],
fun p=>.call (.fn Uu) [(.t (p 0)),(.t (p 1))],
fun p=>.eq true (.agg [.i,.i,.i,.i,.i,.i]) (.t (p 0)) (.t (p 1)),
fun p=>.call (.fn ZO) [(.t (p 0)),(.t (p 1))],
fun p=>.call (.fn ZP) [(.t (p 0)),(.t (p 1))],
fun p=>.alloc [(.i .u32 0),(.i .u32 0),(.i .u32 0),(.i .u32 0),(.i .u32 0),(.i .u32 0),(.i .u32 0),(.i .u32 0),(.i .u32 0),(.i .u32 0),(.i .u32 0),(.i .u32 0),(.i .u32 0),(.i .u32 0),(.i .u32 0),(.i .u32 0)],
fun p=>.alloc [(.i .u32 0),(.i .u32 0),(.i .u32 0),(.i .u32 0),(.i .u32 0),(.i .u32 0),(.i .u32 0),(.i .u32 0)]]
def aZq:List ((Nat→Nat)→O):=[fun p=>.call (.fn sW) [(.t (p 0)),(.c (.i .i64 (CD (p 1)))),(.c (.i .i64 1073741824))],
fun p=>.call (.fn O2) [(.t (p 0)),(.t (p 1)),(.c (.i .i64 (CD (p 2))))],
fun p=>.bin .gtr (.t (p 0)) (.c (.i .i64 90)),
fun p=>.build [(.i .i64 0),(.i .i64 0),(.i .i64 0)] [(0,1,(.c (.i .i64 (CD (p 0))))),(1,1,(.t (p 1))),(2,1,(.c (.i .i64 (CD (p 2)))))],
fun p=>.bsl 3 [(.i .i64 0),(.i .i64 0),(.i .i64 0)] 3 [(0,(.t (p 0))),(1,(.t (p 1))),(2,(.t (p 2)))],
fun p=>.mn [(.t (p 0)),(.c (.i .i64 4096))],
fun p=>.mv (.c (.i .i64 4096)),
fun p=>.call (.fn ZW) [(.t (p 0))],
fun p=>.bslc 1 [(.i .i64 0)] 5 [(0,(.c (.i .i64 (CD (p 0))))),(1,(.c (.i .i64 (CD (p 1))))),(2,(.c (.i .i64 (CD (p 2))))),(3,(.c (.i .i64 (CD (p 3))))),(4,(.c (.i .i64 200)))],
fun p=>.chkb 1 [(.i .i64 0)] 5 [(0,(.c (.i .i64 (CD (p 0))))),(1,(.c (.i .i64 (CD (p 1))))),(2,(.c (.i .i64 (CD (p 2))))),(3,(.c (.i .i64 (CD (p 3))))),(4,(.c (.i .i64 200)))] (.t (p 4)),
fun p=>.bsl 1 [(.i .u8 0)] 4 [(0,(.t (p 0))),(1,(.t (p 1))),(2,(.t (p 2))),(3,(.t (p 3)))],
fun p=>.bsl 1 [(.i .u8 0)] 4 [(0,(.c (.i .u8 8))),(1,(.c (.i .u8 0))),(2,(.c (.i .u8 0))),(3,(.c (.i .u8 0)))],
fun p=>.call (.fn ZX) [(.t (p 0))],
fun p=>.call (.fn Uw) [(.t (p 0))],
fun p=>.call (.fn Uv) [(.t (p 0))],
fun p=>.call (.fn ZZ) [(.t (p 0))],
fun p=>.call (.fn ZY) [(.t (p 0))],
fun p=>.call (.fn Ux) [(.t (p 0))],
fun p=>.build [(.i .i64 0),(.i .i64 0),(.i .i64 0),(.i .i64 0),(.i .i64 0),.ns,(.b false)] [(0,5,(.t (p 0)))],
fun p=>.build [.ns] [],
fun p=>.build [(.i .i64 0),(.i .i64 0),(.b false)] [(0,1,(.t (p 0)))],
fun p=>.bsl 3 [(.i .i64 0),(.i .i64 0),(.b false)] 1 [(0,(.t (p 0)))],
fun p=>.call (.fn Uz) [(.t (p 0))],
fun p=>.build [(.i .u32 0),(.i .u32 0),(.i .u32 0),(.i .u32 0),(.i .u32 0),(.i .u32 0),(.i .u32 0),(.i .u32 0),(.i .i64 0)] [(8,1,(.t (p 0)))]]
def aZr:List ((Nat→Nat)→O):=[fun p=>.bsl 9 [(.i .u32 0),(.i .u32 0),(.i .u32 0),(.i .u32 0),(.i .u32 0),(.i .u32 0),(.i .u32 0),(.i .u32 0),(.i .i64 0)] 1 [(0,(.t (p 0)))],
fun p=>.app 9 (.t (p 0)) (.t (p 1)),
fun p=>.build [.ns,.ns] [(1,1,(.t (p 0)))],
fun p=>.alloc [(.i .i64 0),(.i .i64 0),(.b false)],
fun p=>.call (.fn UA) [(.t (p 0)),(.t (p 1))],
fun p=>.call (.fn O3) [(.t (p 0))],
fun p=>.call (.fn UB) [(.t (p 0))],
fun p=>.call (.fn Z0) [(.t (p 0))],
fun p=>.call (.fn UC) [(.t (p 0)),(.t (p 1)),(.t (p 2)),(.t (p 3))],
fun p=>.call (.fn UD) [(.t (p 0)),(.t (p 1)),(.t (p 2))],
fun p=>.call (.fn UE) [(.t (p 0)),(.t (p 1)),(.t (p 2))],
fun p=>.call (.fn UF) [(.t (p 0)),(.t (p 1))],
fun p=>.call (.fn UG) [(.t (p 0)),(.t (p 1)),(.t (p 2)),(.t (p 3))],
fun p=>.call (.fn UH) [(.t (p 0)),(.t (p 1)),(.t (p 2)),(.t (p 3))],
fun p=>.eq true (.agg [.i,.i,.i,.i,.i,.i,.i,.i,.i]) (.t (p 0)) (.t (p 1)),
fun p=>.call (.fn Z4) [(.t (p 0)),(.t (p 1))],
fun p=>.eq true (.agg [.i,.i,.i]) (.t (p 0)) (.t (p 1)),
fun p=>.call (.fn Z5) [(.t (p 0))],
fun p=>.mksl [.ns] (.t (p 0)) (.t (p 1)),
fun p=>.build [.ns,.ns] [(0,1,(.t (p 0))),(1,1,(.t (p 1)))],
fun p=>.build [.ns,.ns,.ns,(.i .i64 0),.ns,.ns,.ns,(.i .u32 0),(.i .u32 0),(.i .u32 0),(.i .u32 0),(.i .u32 0),(.i .u32 0),(.i .u32 0),(.i .u32 0),(.i .u32 0),(.i .u32 0),(.i .u32 0),(.i .u32 0),(.i .u32 0),(.i .u32 0),(.i .u32 0),(.i .u32 0),(.i .i64 0),.ns,(.b false)] [(0,3,(.t (p 0))),(3,1,(.t (p 1))),(4,1,(.t (p 2))),(5,1,(.t (p 3)))],
fun p=>.mv (.c (.i .u32 1)),
fun p=>.slice 1 (.t (p 0)) (some (.c (.i .i64 (CD (p 1))))) none none,
fun p=>.call (.fn Z6) [(.t (p 0))]]
def aZs:List ((Nat→Nat)→O):=[fun p=>.build [(.i .i64 0),(.i .i64 0),(.i .i64 0),(.i .i64 0),(.i .i64 0),(.i .u32 0)] [(0,1,(.t (p 0))),(1,1,(.t (p 1)))],
fun p=>.call (.fn Z7) [(.t (p 0)),(.t (p 1))],
fun p=>.call (.fn Z8) [(.t (p 0))],
fun p=>.call (.fn UJ) [(.t (p 0)),(.t (p 1)),(.t (p 2)),(.t (p 3))],
fun p=>.call (.fn UK) [(.t (p 0)),(.t (p 1))],
fun p=>.call (.fn Zx) [(.t (p 0))],
fun p=>.eq true (.agg [.i,.i,.i,.i,.i,.i,.i,.i,.i,.i,.i,.i,.i,.i,.i,.i]) (.t (p 0)) (.t (p 1)),
fun p=>.call (.fn Z9) [(.t (p 0)),(.t (p 1))],
fun p=>.eq true (.agg [.i,.i,.i,.i,.i,.i,.i,.i]) (.t (p 0)) (.t (p 1)),
fun p=>.call (.fn Kp) [(.t (p 0)),(.c (.i .i64 (-1)))],
fun p=>.build [(.i .i64 0),(.i .i64 0),(.i .i64 0)] [(0,1,(.c (.i .i64 (CD (p 0))))),(1,1,(.t (p 1))),(2,1,(.t (p 2)))],
fun p=>.call (.fn aA) [(.t (p 0))],
fun p=>.call (.fn aC) [(.t (p 0))],
fun p=>.call (.fn aB) [(.t (p 0))],
fun p=>.slice 1 (.t (p 0)) (some (.t (p 1))) (some (.t (p 2))) none,
fun p=>.call (.fn aF) [(.t (p 0))],
fun p=>.call (.fn aG) [(.t (p 0))],
fun p=>.slice 11 (.t (p 0)) none (some (.t (p 1))) none,
fun p=>.mkfn (.func aI) [] [(.t (p 0))],
fun p=>.call (.fn aH) [(.t (p 0)),(.t (p 1))],
fun p=>.call (.fn aJ) [(.t (p 0))],
fun p=>.call (.fn aK) [(.t (p 0)),(.t (p 1))],
fun p=>.call (.fn aL) [(.t (p 0)),(.t (p 1))],
fun p=>.slice 6 (.t (p 0)) none (some (.t (p 1))) (some (.t (p 2)))]
def aZt:List ((Nat→Nat)→O):=[fun p=>.slice 3 (.t (p 0)) none (some (.t (p 1))) (some (.t (p 2))),
fun p=>.store 1 (.t (p 0)) (.c (.b false)),
fun p=>.inv (.t (p 0)) "Push" [(.t (p 1))],
fun p=>.call (.fn UL) [(.t (p 0)),(.t (p 1))],
fun p=>.inv (.t (p 0)) "Swap" [(.c (.i .i64 (CD (p 1)))),(.t (p 2))],
fun p=>.call (.fn UM) [(.t (p 0)),(.c (.i .i64 (CD (p 1)))),(.t (p 2))],
fun p=>.inv (.t (p 0)) "Pop" [],
fun p=>.bin .leq (.t (p 0)) (.c (.i .i64 255)),
fun p=>.bin .geq (.t (p 0)) (.c (.i .u64 16)),
fun p=>.bin .mul (.t (p 0)) (.c (.i .u32 256)),
fun p=>.mkfn (.method "Change") [(.t (p 0))] [],
fun p=>.inv (.t (p 0)) "Change" [(.t (p 1))],
fun p=>.inv (.t (p 0)) "StopAll" [],
fun p=>.call (.fn aN) [(.t (p 0)),(.t (p 1)),(.t (p 2))],
fun p=>.inv (.t (p 0)) "Send" [(.t (p 1)),(.t (p 2))],
fun p=>.inv (.t (p 0)) "Recv" [(.t (p 1))],
fun p=>.bin .neq (.t (p 0)) (.c (.i .u32 2)),
fun p=>.call (.fn aO) [(.t (p 0)),(.t (p 1))],
fun p=>.eq true (.agg [.i,.i,.b]) (.t (p 0)) (.t (p 1)),
fun p=>.call (.fn aP) [(.t (p 0))],
fun p=>.build [(.i .i64 0),(.i .u32 0),(.i .u32 0),(.i .u32 0),(.i .u32 0),(.i .u32 0),(.i .u32 0),(.i .u32 0),(.i .u32 0),(.i .i64 0),(.b false)] [(0,1,(.t (p 0)))],
fun p=>.bsl 11 [(.i .i64 0),(.i .u32 0),(.i .u32 0),(.i .u32 0),(.i .u32 0),(.i .u32 0),(.i .u32 0),(.i .u32 0),(.i .u32 0),(.i .i64 0),(.b false)] 1 [(0,(.t (p 0)))],
fun p=>.alloc [(.i .i64 0),(.i .u32 0),(.i .u32 0),(.i .u32 0),(.i .u32 0),(.i .u32 0),(.i .u32 0),(.i .u32 0),(.i .u32 0),(.i .i64 0),(.b false)],
fun p=>.bsl 1 [(.i .i64 0)] 3 [(0,(.t (p 0))),(1,(.t (p 1))),(2,(.t (p 2)))]]
def aZu:List ((Nat→Nat)→O):=[fun p=>.call (.fn O4) [(.t (p 0)),(.t (p 1)),(.t (p 2)),(.t (p 3))],
fun p=>.call (.fn aU) [(.t (p 0))],
fun p=>.call (.fn Ku) [(.t (p 0)),(.c (.i .i64 (CD (p 1)))),(.c .ns)],
fun p=>.bin .lss (.t (p 0)) (.c (.i .i64 8192)),
fun p=>.call (.fn R9) [(.t (p 0))],
fun p=>.call (.fn Sa) [(.t (p 0))],
fun p=>.call (.fn Sb) [(.t (p 0)),(.t (p 1))],
fun p=>.call (.fn Sc) [(.t (p 0)),(.t (p 1))],
fun p=>.bin .geq (.t (p 0)) (.c (.i .u8 97)),
fun p=>.bin .leq (.t (p 0)) (.c (.i .u8 122)),
fun p=>.bin .lss (.t (p 0)) (.c (.i .u8 48)),
fun p=>.bin .gtr (.t (p 0)) (.c (.i .u8 57)),
fun p=>.bin .neq (.t (p 0)) (.c (.i .u8 95)),
fun p=>.call (.fn Sd) [(.t (p 0)),(.t (p 1))],
fun p=>.call (.fn Se) [(.t (p 0))],
fun p=>.call (.fn IC) [(.t (p 0)),(.c (.i .i64 4096))],
fun p=>.call (.fn Sf) [(.t (p 0))],
fun p=>.mkfn (.func Si) [] [(.t (p 0))],
fun p=>.call (.fn Sg) [(.t (p 0)),(.t (p 1))],
fun p=>.call (.fn Sj) [(.t (p 0)),(.t (p 1))],
fun p=>.bin .quo (.t (p 0)) (.c (.i .i64 (CD (p 1)))),
fun p=>.bin .mul (.c (.i .i64 256)) (.t (p 0)),
fun p=>.call (.fn NC) [(.t (p 0)),(.t (p 1)),(.t (p 2))],
fun p=>.call (.fn ND) [(.t (p 0)),(.t (p 1))]]
def aZv:List ((Nat→Nat)→O):=[fun p=>.call (.fn NE) [(.t (p 0)),(.c (.i .i64 (CD (p 1))))],
fun p=>.call (.fn Km) [(.t (p 0)),(.c (.i .i64 (CD (p 1))))],
fun p=>.call (.fn Ko) [(.t (p 0)),(.c (.i .i64 (CD (p 1))))],
fun p=>.build [(.i .i64 0),(.i .i64 0)] [(0,1,(.c (.i .i64 (-1)))),(1,1,(.t (p 0)))],
fun p=>.bin .geq (.t (p 0)) (.c (.i .u8 48)),
fun p=>.bin .leq (.t (p 0)) (.c (.i .u8 57)),
fun p=>.bin .eql (.t (p 0)) (.c (.i .u8 95)),
fun p=>.bin .lss (.t (p 0)) (.c (.i .u8 97)),
fun p=>.bin .gtr (.t (p 0)) (.c (.i .u8 122)),
fun p=>.bin .geq (.t (p 0)) (.c (.i .i64 512)),
fun p=>.call (.fn IC) [(.t (p 0)),(.c (.i .i64 511))],
fun p=>.call (.fn IC) [(.t (p 0)),(.c (.i .i64 255))],
fun p=>.call (.fn Sn) [(.t (p 0))],
fun p=>.call (.fn Hd) [(.t (p 0))],
fun p=>.call (.fn So) [(.t (p 0))],
fun p=>.call (.fn Sp) [(.t (p 0)),(.t (p 1))],
fun p=>.call (.fn Sq) [(.t (p 0)),(.t (p 1)),(.t (p 2))],
fun p=>.bin .eql (.t (p 0)) (.c (.i .i64 (-1))),
fun p=>.call (.fn Sr) [(.t (p 0)),(.t (p 1)),(.t (p 2))],
fun p=>.call (.fn Ss) [(.t (p 0))],
fun p=>.call (.fn Km) [(.t (p 0)),(.t (p 1))],
fun p=>.call (.fn Ko) [(.t (p 0)),(.t (p 1))],
fun p=>.call (.fn St) [(.t (p 0))],
fun p=>.call (.fn Sv) [(.t (p 0))]]
def aZw:List ((Nat→Nat)→O):=[fun p=>.build [.ns,.ns,(.i .i64 0),(.i .i64 0),(.i .i64 0)] [(0,1,(.t (p 0)))],
fun p=>.call (.fn NF) [(.t (p 0))],
fun p=>.call (.fn Sw) [(.t (p 0))],
fun p=>.call (.fn NG) [(.t (p 0))],
fun p=>.call (.fn Sy) [(.t (p 0))],
fun p=>.call (.fn SB) [(.t (p 0)),(.t (p 1)),(.t (p 2))],
fun p=>.call (.fn SD) [(.t (p 0)),(.c (.i .i64 (CD (p 1))))],
fun p=>.call (.fn Kq) [(.t (p 0)),(.c (.i .i64 (CD (p 1))))],
fun p=>.call (.fn Kq) [(.t (p 0)),(.t (p 1))],
fun p=>.slice 2 (.t (p 0)) none (some (.t (p 1))) none,
fun p=>.iad 2 (.t (p 0)) (.c (.i .i64 (CD (p 1)))),
fun p=>.build [(.i .i64 0),(.i .i64 0),(.i .i64 0),(.i .i64 0),(.i .i64 0),(.i .i64 0)] [(3,1,(.c (.i .i64 (CD (p 0)))))],
fun p=>.alloc [(.i .i64 0),(.i .i64 0),(.i .i64 0)],
fun p=>.build [(.i .i64 0),(.i .i64 0),(.i .i64 0),(.i .i64 0),(.i .i64 0),(.i .i64 0)] [(0,3,(.t (p 0))),(3,1,(.t (p 1)))],
fun p=>.alloc [(.i .i64 0),(.i .i64 0),(.i .i64 0),(.i .i64 0),(.i .i64 0),(.i .i64 0)],
fun p=>.slice 6 (.t (p 0)) none (some (.t (p 1))) none,
fun p=>.call (.fn SG) [(.t (p 0)),(.t (p 1))],
fun p=>.call (.fn SH) [(.t (p 0)),(.t (p 1))],
fun p=>.call (.fn SM) [(.t (p 0))]]
def bBe:Nat→List ((Nat→Nat)→O)
 | 0=>bA4
 | 1=>bA5
 | 2=>bA6
 | 3=>bA7
 | 4=>bA8
 | 5=>bA9
 | 6=>bBa
 | 7=>bBb
 | 8=>bBc
 | 9=>bBd
 | 10=>aZp
 | 11=>aZq
 | 12=>aZr
 | 13=>aZs
 | 14=>aZt
 | 15=>aZu
 | 16=>aZv
 | _=>aZw
def shp (s:Nat) (p:Nat→Nat):O:=xgt (fun _=>.e0) (bBe (s / 24)) (s % 24) p
def nps:List Nat:=[1,2,1,1,1,1,2,0,2,2,2,2,2,2,1,2,0,1,0,2,2,1,2,2,1,1,2,0,2,2,2,2,2,2,2,1,2,2,2,2,1,0,0,1,2,1,0,2,2,1,0,2,2,2,1,2,0,2,2,1,1,2,0,2,2,2,1,2,0,1,2,1,2,1,2,0,2,2,2,2,1,1,1,0,2,1,1,2,1,0,1,1,1,3,2,2,1,0,2,2,1,1,0,2,1,2,1,1,1,2,1,2,2,2,2,0,1,2,2,1,1,2,1,2,1,1,1,3,2,1,2,2,2,3,5,1,1,0,1,2,0,2,1,1,2,4,2,2,1,1,3,2,3,1,0,1,1,1,2,0,4,1,1,0,2,2,3,1,2,1,3,1,0,1,3,1,1,1,1,0,2,2,3,1,3,2,1,2,1,2,1,1,1,1,2,2,1,1,1,2,1,2,4,0,1,1,1,1,3,5,0,0,4,1,2,2,3,1,1,1,1,1,1,5,1,1,0,1,2,1,3,2,1,5,3,1,2,2,2,2,5,2,2,0,3,0,1,4,3,2,2,1,1,4,1,2,1,2,2,2,2,2,0,0,2,3,1,3,3,1,0,1,4,5,4,0,1,1,1,1,1,1,1,0,1,1,1,1,1,2,1,0,2,1,1,1,4,3,3,2,4,4,2,2,2,1,2,2,4,0,2,1,2,2,1,4,2,1,2,2,2,1,3,1,1,1,3,1,1,2,1,2,1,2,2,3,3,1,2,2,3,3,1,1,1,1,1,2,1,3,3,2,1,2,2,1,1,1,0,3,4,1,2,1,1,1,2,2,1,1,1,1,1,2,1,1,1,1,2,2,2,1,3,2,2,2,2,1,1,1,1,1,1,1,1,1,1,1,1,2,3,1,3,1,2,2,1,1,1,1,1,1,1,3,2,2,2,2,2,1,0,2,0,2,2,2,1]
abbrev Rs:=List TO×List (Bool×List TO)
abbrev Rc:=Nat→Nat→Nat→Bool→Rs
def aOq (s:Nat) (d:Option Nat) (g:Option (Nat×Bool)) (l:List Nat) (r:Rs):Rs:=(⟨d,shp s (fun i=>xgt 0 l i),g⟩::r.1,r.2)
def zS (R:Nat) (rc:Nat→List Nat→Rs):Nat→Nat→List Nat→Rs
 | 0,n,l=>rc n l
 | f+1,n,l=>zS R rc f (n / R) (n % R::l)
def zR (R s:Nat) (rc:Rc) (g:Option (Nat×Bool)) (gn:Nat) (gb:Bool) (p:Nat):Nat→Nat→Rs
 | 0,n=>zS R (fun n l=>aOq s (some (p+1)) g l (rc n (p+1) gn gb)) (xgt 0 nps s) n []
 | 1,n=>zS R (fun m l=>aOq s (some (n % R)) g l (rc m (n % R) gn gb)) (xgt 0 nps s) (n / R) []
 | _+2,n=>zS R (fun n l=>aOq s none g l (rc n p gn gb)) (xgt 0 nps s) n []
def bA3 (R s:Nat) (rc:Rc) (p gn:Nat) (gb:Bool):Nat→Nat→Rs
 | 0,n=>zR R s rc none gn gb p (n % 3) (n / 3)
 | 1,n=>zR R s rc (some (n % R,true)) (n % R) true p (n / R % 3) (n / R / 3)
 | 2,n=>zR R s rc (some (n % R,false)) (n % R) false p (n / R % 3) (n / R / 3)
 | _+3,n=>zR R s rc (some (gn,gb)) gn gb p (n % 3) (n / 3)
def aZo (b:Bool) (r:Rs):Rs:=([],(b,r.1)::r.2)
def bBf (R:Nat) (rc:Rc) (p gn:Nat) (gb:Bool):Nat→Nat→Rs
 | 0,_=>([],[])
 | 1,n=>aZo true (rc n p gn gb)
 | 2,n=>aZo false (rc n p gn gb)
 | s+3,n=>bA3 R s rc p gn gb (n % 4) (n / 4)
def aOp (R:Nat):Nat→Rc
 | 0=>fun _ _ _ _=>([],[])
 | f+1=>fun n p gn gb=>bBf R (aOp R f) p gn gb (n % 430) (n / 430)
def aZn (n:Nat):Nat:=xgt 0 [32,64,128,512] (n % 4)
@[go_sem ↓] def k (n:Nat) {l:List TO} (h:(aOp (aZn n) 400 (n / 4) 511 0 true).1=l:=by conv=>lhs;cbv):List TO:=l
@[go_sem ↓] def kd (n:Nat) {l:List (Bool×List TO)} (h:(aOp (aZn n) 400 (n / 4) 511 0 true).2=l:=by conv=>lhs;cbv):List (Bool×List TO):=l
/-! horarium/horariumlaw19.PartPlays -/
@[go_sem] def aZB:=k 0x34148
@[go_sem] def aZC:=k 0x15daa79351a45f254d44c
@[go_sem] def aZD:=k 0xfe2d3cd559aa2533222c
@[go_sem] def aZE:=k 0x56fd7ec5ae2d9a6338b461436c
@[go_sem] def aZF:=k 0x23cfabffaa817cbdf6caffcfbab2fe489cb6d4c
@[go_sem] def aZG:=kd 0x281eebd1e43ab7797cf7c0d8c92206a059c100569f0e0ede265ad842c2227d9a068419acecccb353ebc7deea55f137e12b2ee89cdc9416f789bdfb7b28b4b0f76e269f3733d792170c228a00c2af048621f11ce145901888cfed7f0bd483809c652c5e904c2437bcf112b17e1d76b173bf8804582735efe6a9f90cb1c6a19746
def eK:TF:=⟨69,[.t 10],(.seq (.reg aZB) (.seq (.reg aZC) (.seq (.reg aZD) (.seq (.reg aZE) (.seq (.reg aZF) (.seq (.dreg aZG) .ret))))))⟩
/-! (*horarium/horariumkeep.Tape).Config -/
@[go_sem] def aZH:=k 0xbd24
@[go_sem] def aZI:=k 0x10dc4
@[go_sem] def aZJ:=k 0x4c3d7c8674f5f132392b30c
@[go_sem] def aZK:=k 0x1ae1c
@[go_sem] def aZL:=k 0x8433a5ac788f08ec
@[go_sem] def aZM:=k 0xa512f6ff8e01a591b13e5652c3b2fddf32887c1173141fd87df8f6c941c4df92f50a0451800d
@[go_sem] def aZN:=k 0x4434357455785247f8d
@[go_sem] def aZO:=k 0x378ba57ec38cd
@[go_sem] def aZP:=kd 0x4e1137c587869ca0b1f57fe0df2efb801518fcd84d6ffd8f950b1d0bcf6008583ccb172ea647efce8e8bdc65db553edf065
@[go_sem] def aZQ:=k 0x4c3373792837504da0d
def Xw:TC:=(.seq (.seq (.reg aZO) (.cond (.t 36) .skip (.exit 2))) (.seq (.block 3 (.dreg aZP)) (.reg aZQ)))
@[go_sem] def aPE:=k 0xfda3d
@[go_sem] def aPF:=k 0xfc68f309
@[go_sem] def aPG:=k 0x52bb2cace4b6d
@[go_sem] def aPH:=k 0x79b2bf49a04621bde7a64108a88bbe9bcacb1532716c27972868a0c0d
@[go_sem] def aPI:=k 0x188390c179b792d
def Xx:TC:=(.seq (.reg aPF) (.seq (.cond (.t 51) .skip (.exit 4)) (.seq (.block 5 (.seq (.reg aPG) (.reg aPH))) (.reg aPI))))
@[go_sem] def aPJ:=k 0xa9feba29d9491b456f33e2459b511767af4248c91b2
@[go_sem] def aPK:=k 0x1428c309548ff7facc
def Xy:TC:=(.seq (.seq (.reg aZL) (.cond (.t 18) .skip (.exit 0))) (.seq (.block 1 (.seq (.reg aZM) (.seq (.seq (.reg aZN) (.block 2 (.loop Xw))) (.seq (.seq (.reg aPE) (.block 4 (.loop Xx))) (.reg aPJ))))) (.reg aPK)))
@[go_sem] def aPL:=k 0x114307fcae25f90fd856e
@[go_sem] def aPM:=k 0x1221907025704cc38636f1e528515cccd90f6ae
@[go_sem] def aPN:=k 0xc9b0f5eeafd73da897590abae
@[go_sem] def aPO:=kd 0x5cfad6336ca0ce9a9cdadc3b439d723e7a46cfc259b08caa6ace01a0224fb0d55686bbd6023db4e262f5343036a9f75341903028274bd81d9930da95c58654374bed28a1963f19c59ec99c0378f42d11da7c19be72a187f9cb6612e
@[go_sem] def aPP:=k 0x4f59eb0e2b0972
@[go_sem] def aPQ:=k 0x29f7c838220cc7ef2fc2f549938ac83aae
@[go_sem] def aPR:=k 0x119a34851c11220efd413e40adff31c37f6db8c26d32
@[go_sem] def aPS:=k 0x1342d77cb36b58332da6e
def Xz:TC:=(.seq (.seq (.reg aPM) (.cond (.t 75) .skip (.exit 6))) (.seq (.block 7 (.seq (.reg aPN) (.seq (.dreg aPO) (.seq (.seq (.reg aPP) (.cond (.t 101) (.reg aPQ) .skip)) (.reg aPR))))) (.reg aPS)))
@[go_sem] def aPT:=k 0x1c437d186c4bc848b60ee
@[go_sem] def aPU:=k 0x5a75a6ef57c22e
@[go_sem] def aPV:=kd 0x1bd0273b3d685662e65d2aa74b2c13a93290ff1e08d7e6854882880abea1dc28752101c7fa6
@[go_sem] def aPW:=k 0x1d4364d86efb283b8636e
def XA:TC:=(.seq (.seq (.reg aPU) (.cond (.t 115) .skip (.exit 8))) (.seq (.block 9 (.dreg aPV)) (.reg aPW)))
@[go_sem] def aPX:=k 0x5ab91954f8f6862e75b6827c9af
def eL:TF:=⟨129,[.cell 2 3 true],(.seq (.reg aZH) (.seq (.reg aZI) (.seq (.reg aZJ) (.seq (.seq (.reg aZK) (.block 0 (.loop Xy))) (.seq (.seq (.reg aPL) (.block 6 (.loop Xz))) (.seq (.seq (.reg aPT) (.block 8 (.loop XA))) (.seq (.reg aPX) .ret)))))))⟩
/-! (*horarium/horariumkeep.Tape).Script -/
@[go_sem] def aZR:=k 0x8451a104
@[go_sem] def aZS:=k 0x1afa4
@[go_sem] def aZT:=k 0x74f51f3bf3a312c90
@[go_sem] def aZU:=k 0xf910f38
@[go_sem] def aZV:=k 0x2d108468f3ac
@[go_sem] def aZW:=kd 0x1a607162a78277be300ef1fe3f4007732d22634a2c30cbb224f12573ce6d9e5219009664
@[go_sem] def aZX:=k 0x24f94
@[go_sem] def aZY:=k 0x1940479421535629ec
@[go_sem] def aZZ:=k 0x52866619eb2c
@[go_sem] def aZ0:=k 0xb0d04efdb196f171e3cbbbf1204d25fb4a5ad
@[go_sem] def aQU:=k 0x1d3fe69e310e748c6c
def Mm:TC:=(.seq (.seq (.reg aZZ) (.cond (.t 27) .skip (.exit 2))) (.seq (.block 3 (.reg aZ0)) (.reg aQU)))
@[go_sem] def aQV:=k 0xd1a6011cebae622f153234f0c3486cc761fa3971
@[go_sem] def aQW:=k 0x10bd74980197d4d
def zZ:TC:=(.seq (.reg aZU) (.seq (.cond (.t 13) .skip (.exit 0)) (.seq (.block 1 (.seq (.reg aZV) (.seq (.dreg aZW) (.seq (.reg aZX) (.seq (.seq (.reg aZY) (.block 2 (.loop Mm))) (.reg aQV)))))) (.reg aQW))))
@[go_sem] def aQX:=k 0x76e56f6a6e59
def eM:TF:=⟨44,[.cell 4 2 true],(.seq (.reg aZR) (.seq (.reg aZS) (.seq (.seq (.reg aZT) (.block 0 (.loop zZ))) (.seq (.reg aQX) .ret))))⟩
/-! horarium/horariumbook.Within -/
@[go_sem] def aZ1:=k 0x1febc
@[go_sem] def aZ2:=k 0x1080b1f8aa95381037ec1c83ced12b3c95bdadcf4c
@[go_sem] def aZ3:=k 0x303d1070544c
@[go_sem] def aZ4:=k 0xd396d1fef04fa4cc7811f33d44fa56614a4ec
@[go_sem] def aZ5:=k 0x45d429b408ac
@[go_sem] def aZ6:=k 0x124278db6a3c2c4e9a62d77ca3ac798b1729ec
@[go_sem] def aZ7:=k 0x14360b1e73bb3c03c33bb5ad
def eO:TF:=⟨33,[.t 6],(.seq (.reg aZ1) (.seq (.seq (.reg aZ2) (.cond (.t 14) (.seq (.reg aZ3) .ret) .skip)) (.seq (.reg aZ4) (.seq (.seq (.reg aZ5) (.cond (.t 23) (.reg aZ6) .skip)) (.seq (.reg aZ7) .ret)))))⟩
/-! horarium/part.New -/
@[go_sem] def aZ8:=k 0xd3e440dda4
@[go_sem] def aZ9:=k 0x1c0761b4e2c04750240c57e5294ca5ac6810456dfb19b9c67f179033aa9c6828102fc1180
@[go_sem] def bAa:=k 0x2a0cc
@[go_sem] def bAb:=kd 0x90916b926f7e505b445fbe7da7fe96addd91617e3c435504fd17a065caf5b20967316b314f4752a1a2280ba2303488fe03d59c50223e34b785
@[go_sem] def bAc:=k 0xaa9892597ee6b5edc29014dc9fce246a41dba3cb5e60594918db5b2b5e6d
@[go_sem] def bAd:=k 0x156f719484ad
@[go_sem] def bAe:=k 0x59144579525ed
def Oh:TF:=⟨57,[.t 8],(.seq (.reg aZ8) (.seq (.seq (.reg aZ9) (.cond (.t 23) (.seq (.reg bAa) .ret) .skip)) (.seq (.dreg bAb) (.seq (.reg bAc) (.seq (.reg bAd) (.seq (.reg bAe) .ret))))))⟩
/-! (*horarium/part.Part).Tick -/
@[go_sem] def bAf:=k 0x662634
@[go_sem] def bAg:=k 0x117b8df11cc
@[go_sem] def bAh:=k 0x155552da83e7930
@[go_sem] def bAi:=k 0x1649cc097ac
@[go_sem] def bAj:=k 0x44243b21bf12074
@[go_sem] def bAk:=k 0x8683f91b729c178234e49cc62c
@[go_sem] def bAl:=k 0x2db99dde24002a478777e727405e20cc5a462e08ac
@[go_sem] def bAm:=k 0x2af1d0d83c3de2f10c6359b2430d377eb953d0d
@[go_sem] def bAn:=k 0x378ba074c38cd
@[go_sem] def bAo:=k 0xd727c13ab87c68f64b20d
@[go_sem] def aTQ:=k 0xb0a1f6c5cef495568786c71f65b84717669bf06dd00e0fa69cd597799254a43693534d
@[go_sem] def aTR:=kd 0x15fb68fa61ccf8cfb4e05d5cda8f22f7a715a851ce6d005a11a339408e5c88b680a5793d8fe2ad
@[go_sem] def aTS:=k 0x9e947c6b4be1bc531bd486871
@[go_sem] def aTT:=k 0x2bd12e866668e4e50ae
@[go_sem] def aTU:=k 0x22ec295d9dfe51f2
@[go_sem] def aTV:=k 0x1d2f01214aab8c14b4bf43e2
@[go_sem] def aTW:=k 0x24e7360a7dffe512
@[go_sem] def aTX:=k 0x24b9bda15388633664415be57554d7348c8535179e0832082725b0fae01b2c54842c3f24e
@[go_sem] def aTY:=k 0x353cf3e83d3ba745cf0a9b5ae524d8985a4999cf45b76a31e5d26efaf173aa47c2ccd1267209fd7b9ce
@[go_sem] def aTZ:=k 0x17bdc1147a728760035b2
@[go_sem] def aT0:=k 0x4d85494a292792
@[go_sem] def aT1:=k 0xf8c93acc52ab2fe89f4d6f82e
@[go_sem] def aT2:=k 0x2ab28ad65e422abb4e
def Tq:TF:=⟨103,[.cell 4 6 true,.t 5],(.seq (.reg bAf) (.seq (.seq (.reg bAg) (.cond (.t 12) (.seq (.reg bAh) .ret) .skip)) (.seq (.seq (.reg bAi) (.cond (.t 15) (.reg bAj) .skip)) (.seq (.reg bAk) (.seq (.reg bAl) (.seq (.reg bAm) (.seq (.seq (.reg bAn) (.cond (.t 36) (.seq (.reg bAo) .ret) .skip)) (.seq (.reg aTQ) (.seq (.dreg aTR) (.seq (.reg aTS) (.seq (.block 0 (.seq (.reg aTT) (.cond (.t 85) (.reg aTU) (.seq (.reg aTV) (.cond (.t 89) (.reg aTW) (.seq (.reg aTX) (.reg aTY))))))) (.seq (.seq (.reg aTZ) (.cond (.t 96) (.seq (.reg aT0) (.reg aT1)) .skip)) (.seq (.reg aT2) .ret)))))))))))))⟩
/-! (*horarium/part.Part).Stopped -/
@[go_sem] def bAp:=k 0xbc48
@[go_sem] def bAq:=k 0x71154f2b4b3c52990f7e2a36bc0ccc
def Tr:TF:=⟨8,[.t 2],(.seq (.reg bAp) (.seq (.reg bAq) .ret))⟩
/-! (*horarium/part.Part).Same -/
@[go_sem] def bAr:=k 0x15d88
@[go_sem] def bAs:=kd 0x219fd20ca190ac2a747e2a6b772504f0d0216794037fbacbdf9019eb6bc33d9678e61b80b4bd87424190b3789eafe7cb7ef2e28274d581cf6601e0d88b27585fa93b2dd0e1d62cf9bcf9ff5c7e370467ed3e95d0b80e9cda4b6ac903879348fb051f971d577f8bf54a19b68d8af085510e72686d1fd5a9b0e1cf5b9e100dbc9d17632f9fa99e3533a2940b4ac5833d6f268b61caf6a3dac58460d237ca329200e1abb5430005e0876c74438b82e
def Tt:TF:=⟨65,[.t 4],(.seq (.reg bAr) (.seq (.dreg bAs) .ret))⟩
/-! horarium/horariumlaw19.known -/
@[go_sem] def bAt:=k 0x1b08
@[go_sem] def bAu:=k 0x1546191d3fbc9ab9379fe222830e6deee407bd9132b3d697c49df7493c
@[go_sem] def bAv:=k 0x3ca14cd1f355f489d41d00
@[go_sem] def bAw:=k 0x207faf4ab7fca072eb7b1b5340182e843e2c21fd6c0e9dfe1534da47081f64a8d
@[go_sem] def bAx:=k 0x1b08
@[go_sem] def bAy:=k 0x10414aa2763adf96d0b5b1d922c4c9789d8c6edc62ad
@[go_sem] def bAz:=k 0x123cc269beb85406d383a9ce49f1f3725c8e66adf5cd
@[go_sem] def bAA:=k 0x14383a310735c876d651a1c3711f1d6c1b905e7f88ed
@[go_sem] def bAB:=k 0x1633b1f84fb33ce6d91f99b8984c4765da9256511c0d
@[go_sem] def bAC:=k 0x182f29bf9830b156dbed91adbf79715f99944e22af2d
@[go_sem] def aXn:=k 0x1d0bb1e8b4a16eacde185c70c6c1875fe22c42070844c42ec0282b3aa1ba3b448f9fa3b49c6cfd74ae884c1b19905e4ebe9375dd87826458fa508bb89eb15a0740d78a3a9aced34080dbdb1d4db5c1b03980e133852aa41b09638e1483cceefece826c45db3116317937de965211361ff60ac678b0543e492c8ae6dc49d0c68fcaf1bbf52a127af28534079ca0a58518e1eefa7c99bd589f3d81294f767321d47994f465ec5719d8c60ace1ae
def eP:TF:=⟨118,[.t 0],(.seq (.reg bAt) (.seq (.reg bAu) (.seq (.reg bAv) (.seq (.seq (.reg bAw) (.cond (.t 36) (.seq (.reg bAx) .ret) .skip)) (.seq (.reg bAy) (.seq (.reg bAz) (.seq (.reg bAA) (.seq (.reg bAB) (.seq (.reg bAC) (.seq (.reg aXn) .ret))))))))))⟩
/-! (*horarium/part.Part).Clock -/
@[go_sem] def bAD:=k 0xbc3c
@[go_sem] def bAE:=k 0x2689763691714c8c28b6bc0ccc
def Tu:TF:=⟨7,[.t 2],(.seq (.reg bAD) (.seq (.reg bAE) .ret))⟩
/-! horarium/horariumlaw19.play -/
@[go_sem] def aOE:=k 0x1066f4eae44
@[go_sem] def aOF:=kd 0x57d6cd5871de1b756b7a1e92137a9d9198b3716222caede74e42a6a33ffed60bfc8d07a90e05
@[go_sem] def aOG:=kd 0x481ef25281f238cbfa1e6dbd710a6fcb0c44969128c70de0d19798516cd0e207b62705
@[go_sem] def aOH:=k 0x303432cf29019df0da966919a00a0d20bec1
@[go_sem] def aOI:=k 0x33ca317709dfa2e31fc4f85e5285b918d
@[go_sem] def aOJ:=k 0x34148
@[go_sem] def aOK:=k 0x524fc
@[go_sem] def aOL:=k 0x15d7564ded4d
@[go_sem] def aOM:=k 0x13fbe52fe2491138b5439b56e4c9a92ad10be7c935063be10dbe580fafce
@[go_sem] def aON:=kd 0x6806c525f7d663b2f2ab4d046e3c7f7596d185ab2b180636e0a5bf2245ed46bd17082e
@[go_sem] def aBL:=k 0x7e57fbff395b924ad832e2d2a64c4e
@[go_sem] def aBM:=k 0x116221d9dcbdbb3cba95536d07b39d05f25185d07c5ff6e
@[go_sem] def aBN:=k 0x12fb4d6f15dc57b9c945cc31db3fcb7262904f739f0d46e
@[go_sem] def aBO:=k 0x325e745ed9e80b440d88a2e781362d2ace96e
@[go_sem] def aBP:=kd 0xc31286c7c2cbd0d47ddd9a532732750d8b2b2d639799d617ef52830f365fee
@[go_sem] def aBQ:=kd 0xd4f6687139da500d2cd18b5f9ad4ad83eefc9f2456d160f2ac98435336ff6e
@[go_sem] def aBR:=k 0x42e6b3a8cca7c7f560ec69ceea4a68518b1441bcde925204fa259b24df08b6ee7970ec1bd85a4f
@[go_sem] def aBS:=k 0x22f618417ca74030398041ec789b7aaac647635b749976127de0807c6fef
@[go_sem] def aBT:=kd 0x19cd0bb9cec0ce6e7605460a93fc1619bf4116d8b7f89ea95dfb4c53570f4260d87861438dcf24b3ec16caf00170df90ec1d83d321dd1383a25f84109881bebee56c833d55e4e77f9a3f87c86ead26cec2fc7102aef
@[go_sem] def aBU:=k 0x34148
@[go_sem] def aBV:=k 0x7477a2bf5830e528e8d
def Rh:TC:=(.seq (.seq (.reg aOL) (.cond (.t 56) .skip (.exit 0))) (.seq (.block 1 (.seq (.seq (.reg aOM) (.cond (.t 68) (.seq (.dreg aON) (.seq (.reg aBL) (.cond (.t 83) (.seq (.reg aBM) (.reg aBN)) (.seq (.reg aBO) (.cond (.t 105) (.seq (.dreg aBP) (.dreg aBQ)) .skip))))) .skip)) (.seq (.reg aBR) (.seq (.reg aBS) (.seq (.dreg aBT) (.cond (.t 166) (.seq (.reg aBU) .ret) .skip)))))) (.reg aBV)))
@[go_sem] def aBW:=kd 0x4b7464220f6ea0067a06ca00ca5efa4e84129f47ad22d96d833817059a6d3a59e1baa4fd0a405e17ce0e1b86564d146ca90a9af
def PY:TF:=⟨181,[.t 10],(.seq (.reg aOE) (.seq (.dreg aOF) (.seq (.dreg aOG) (.seq (.reg aOH) (.seq (.seq (.reg aOI) (.cond (.t 54) (.seq (.reg aOJ) .ret) .skip)) (.seq (.seq (.reg aOK) (.block 0 (.loop Rh))) (.seq (.dreg aBW) .ret)))))))⟩
/-! (*horarium/part.Part).Memory -/
@[go_sem] def aOO:=k 0xc044
@[go_sem] def aOP:=k 0xe0494fc308e45fdc236bc0ccc
def PZ:TF:=⟨7,[.cell 2 16 true],(.seq (.reg aOO) (.seq (.reg aOP) .ret))⟩
/-! (*horarium/part.Part).Registers -/
@[go_sem] def aOQ:=k 0x16188
@[go_sem] def aOR:=k 0x1794b0d98d03653be1830080395baf321f71c7919d72913a8538c20c
@[go_sem] def aOS:=k 0x72d11b9eb8
@[go_sem] def aOT:=k 0x1310d88255d1f8dd207533edc06cc1752af3c68c38758c
def Gl:TF:=⟨25,[.cell 4 8 true],(.seq (.reg aOQ) (.seq (.seq (.reg aOR) (.cond (.t 15) (.seq (.reg aOS) .ret) .skip)) (.seq (.reg aOT) .ret)))⟩
/-! (*horarium/horariumkeep.Tape).Next -/
@[go_sem] def aOU:=k 0x15d7c
@[go_sem] def aOV:=kd 0xa55c7ae3f85941eeb4d943c505e94ef0e51a84fcb9404ba205edf615cfbb0e3fe0dc582c
@[go_sem] def aOW:=k 0x15d7c
@[go_sem] def aOX:=k 0x28d1a22596becc5381e893db4885ec64e23d0116cc
@[go_sem] def aOY:=kd 0x20c007c7d571b83a6fef8dd168eb6b84b58c7cc574b4d3bf8082981b360ea1c80b5a1a926c61f37643ed
def P1:TF:=⟨40,[.t 4],(.seq (.reg aOU) (.seq (.seq (.dreg aOV) (.cond (.t 18) (.seq (.reg aOW) .ret) .skip)) (.seq (.reg aOX) (.seq (.dreg aOY) .ret))))⟩
/-! (*horarium/horariumkeep.Tape).frame -/
@[go_sem] def aOZ:=k 0x15db4
@[go_sem] def aO0:=k 0x33362c2397154eece2e1fec
@[go_sem] def aO1:=k 0x4b888ae1e42217c5f52d324200b2e84fc66c
@[go_sem] def aO2:=k 0x17c700dd6d833b5e40352e18f7fb864248b54d478b1565efdfd2942bf230ec
@[go_sem] def aO3:=k 0x360699e3db4931cf52307453f34eca7fbd23004e536d6cf3e29
@[go_sem] def aO4:=k 0x37a71dcfde8cd
def P5:TF:=⟨36,[.t 4],(.seq (.reg aOZ) (.seq (.reg aO0) (.seq (.seq (.reg aO1) (.seq (.reg aO2) (.cond (.t 27) (.seq (.reg aO3) .ret) .skip))) (.seq (.reg aO4) .ret))))⟩
/-! (*horarium/horariumkeep.Tape).asks -/
@[go_sem] def aO5:=k 0x51eda104
@[go_sem] def aO6:=k 0x1ae54
@[go_sem] def aO7:=k 0x7b74842eedf3a44b0
@[go_sem] def aO8:=k 0x2078ab58
@[go_sem] def aO9:=k 0x1c37ff9d1d690e1000
@[go_sem] def aPa:=k 0x298ad80c61f9e9540cd3acbb9829f23931ca5ad
@[go_sem] def aPb:=k 0x75a8e0b716d7c66bbb339c0d982d
@[go_sem] def aPc:=k 0xf3bcfed59a3acd
def Xt:TC:=(.seq (.reg aO8) (.seq (.cond (.t 26) .skip (.exit 0)) (.seq (.block 1 (.seq (.reg aO9) (.seq (.reg aPa) (.reg aPb)))) (.reg aPc))))
@[go_sem] def aPd:=k 0xf3e91979598dd2db51
@[go_sem] def aGu:=k 0xd6ec0df9
@[go_sem] def aGv:=k 0x4615acd4a866d
@[go_sem] def aGw:=k 0x391dc
@[go_sem] def aGx:=k 0xc3997b130f0d
@[go_sem] def aGy:=k 0xf0846919
@[go_sem] def aGz:=k 0x646128fba495704e1c1
@[go_sem] def aGA:=kd 0x35be97a89e05a9845ee35f65a47ba46e45ad716ea315b9ee343f4980176fac41a071cb9dbe380db7f3028b6aac2ae
@[go_sem] def aGB:=k 0x10df4d8d12735ba1a5931352f3aa59c8d18f38e
@[go_sem] def aGC:=k 0x39270
@[go_sem] def aGD:=k 0xb814ab25044a5d67ad5c9e74e
@[go_sem] def aGE:=k 0x1d81a2eb2f97b94e
def Ri:TC:=(.seq (.reg aGy) (.seq (.cond (.t 48) .skip (.exit 4)) (.seq (.block 5 (.seq (.reg aGz) (.seq (.dreg aGA) (.seq (.reg aGB) (.cond (.t 70) (.reg aGC) (.reg aGD)))))) (.reg aGE))))
@[go_sem] def aGF:=k 0x61b78b87659274d99336e58896e69598d05fc6de329ce
@[go_sem] def aGG:=kd 0x16c6dd35816c1c2b38dd3ae2e8a1f294051d719078a90d23ab338aa35adfc64fe5ee59e13921e134a6
@[go_sem] def aGH:=k 0x24a1e75b2ad5648e
def Rj:TC:=(.seq (.reg aGu) (.seq (.cond (.t 43) .skip (.exit 2)) (.seq (.block 3 (.seq (.reg aGv) (.seq (.reg aGw) (.seq (.seq (.reg aGx) (.block 4 (.loop Ri))) (.seq (.reg aGF) (.cond (.t 81) (.dreg aGG) .skip)))))) (.reg aGH))))
@[go_sem] def aGI:=k 0x987c90642aaa7e1175169ec0f6f50e
@[go_sem] def aGJ:=k 0x7cd4d3016bf961a9963eac6a78e
@[go_sem] def aGK:=k 0x4f5b50d4f4996e
@[go_sem] def aGL:=k 0x10af8b5cd9a1bf8d7e22f58bee
@[go_sem] def aGM:=k 0x11558fc971f1133a94a2f6ce6e
@[go_sem] def aGN:=k 0x19c5b987e4dc6c4553aae
def Rk:TC:=(.seq (.seq (.reg aGK) (.cond (.t 101) .skip (.exit 6))) (.seq (.block 7 (.seq (.reg aGL) (.cond (.t 107) (.seq (.reg aGM) (.exit 6)) .skip))) (.reg aGN)))
@[go_sem] def aGO:=k 0x1f7d079eb8ed449c0052
@[go_sem] def aGP:=k 0x90bbfa2fa
@[go_sem] def aGQ:=k 0x5c276ce590436e
@[go_sem] def aGR:=k 0x5ca64
@[go_sem] def aGS:=k 0x647a49d6e840e
@[go_sem] def aGT:=k 0x97152c61a
@[go_sem] def aGU:=k 0x1e87462771a05cd2b66c2
@[go_sem] def aGV:=k 0x50967f5ff17af2f3de06e2f3ae9a3686a16a0c973a2fd57cf
@[go_sem] def aGW:=k 0x334605dab4ea49fbaf
def Rl:TC:=(.seq (.reg aGT) (.seq (.cond (.t 120) .skip (.exit 10)) (.seq (.block 11 (.seq (.reg aGU) (.reg aGV))) (.reg aGW))))
@[go_sem] def aGX:=k 0xa67f79412705af01b1b2d20555f7549b17050ba25b0cc7f8c2f
@[go_sem] def aGY:=kd 0xd53496fa746b78a065316b0573c2606387326bc29cb2871c43e6f2690f23998a7563c6a005e1a3f9ee558ac3e3d099624826c1e68ad5820c73ca0c287d676d2e2892cc433acdea0d8083a277532f1e7
@[go_sem] def aGZ:=k 0x3ccaad6ec69dd18aaf
def Rm:TC:=(.seq (.reg aGP) (.seq (.cond (.t 115) .skip (.exit 8)) (.seq (.block 9 (.seq (.reg aGQ) (.seq (.reg aGR) (.seq (.seq (.reg aGS) (.block 10 (.loop Rl))) (.seq (.reg aGX) (.cond (.t 136) (.dreg aGY) .skip)))))) (.reg aGZ))))
@[go_sem] def aG0:=k 0x4d78a9148efc557145b83
@[go_sem] def aG1:=k 0x74e4ef79c4af4102154d13
@[go_sem] def aG2:=k 0xc9f4598fbb
@[go_sem] def aG3:=k 0x20252c472c7b202f
@[go_sem] def aG4:=kd 0x6ba3c50885299675c843482d2ec9fe77eb801f5668b80d9cfea4b69ddb1b05d05da95797fcbe9547e999206db7ed182f3fd67
@[go_sem] def aG5:=k 0x44c32cc2f090d7d72f
def Rn:TC:=(.seq (.reg aG2) (.seq (.cond (.t 161) .skip (.exit 12)) (.seq (.block 13 (.seq (.reg aG3) (.dreg aG4))) (.reg aG5))))
@[go_sem] def aG6:=k 0xdc769cb71aa803
def P6:TF:=⟨175,[.cell 4 3 true],(.seq (.reg aO5) (.seq (.reg aO6) (.seq (.seq (.reg aO7) (.block 0 (.loop Xt))) (.seq (.seq (.reg aPd) (.block 2 (.loop Rj))) (.seq (.reg aGI) (.seq (.seq (.reg aGJ) (.block 6 (.loop Rk))) (.seq (.seq (.reg aGO) (.block 8 (.loop Rm))) (.seq (.seq (.reg aG0) (.cond (.t 156) (.seq (.reg aG1) (.block 12 (.loop Rn))) .skip)) (.seq (.reg aG6) .ret)))))))))⟩
/-! (*horarium/horariumkeep.Tape).Program -/
@[go_sem] def aPe:=k 0xa0eba3f1a4
@[go_sem] def aPf:=k 0x24f94
@[go_sem] def aPg:=k 0x51e8331d134a10c1bfb03ac
@[go_sem] def aPh:=k 0x35f57597158c
@[go_sem] def aPi:=k 0x16488f8910c971380c
@[go_sem] def aPj:=k 0x6fe0f03de1ea3178863ea810b2015668cb89d09225d94c
@[go_sem] def aPk:=k 0x63f10c
@[go_sem] def aPl:=k 0xcace85e0c7264
@[go_sem] def aPm:=kd 0x10e8dacffc63d6c88a7f33c2df58a604e1210b08d5398a0a793bf5b01e3ed
@[go_sem] def aPn:=k 0xf4edb39a4f52c5
@[go_sem] def aG7:=k 0xfb46cc9a63cb65
@[go_sem] def aG8:=k 0x2150b94ac75229af35bf51f0c6b3ed
@[go_sem] def aG9:=k 0x11b9ca3f228e685
@[go_sem] def aHa:=k 0x121f5bcf23d5f25
@[go_sem] def aHb:=k 0x5e59bb3a751b22897ad
@[go_sem] def aHc:=k 0x13bd916e61651a5
@[go_sem] def aHd:=k 0x6658f93eeefbab9da2d
@[go_sem] def aHe:=k 0x155a30c767c5c25
@[go_sem] def aHf:=k 0x6e4838c7cb14abb1cad
@[go_sem] def aHg:=k 0x24a69f58ce889f6c31ec5df1
@[go_sem] def aHh:=k 0x1eb96f0aec4db7baab364ba8bbe7ff0d4c3fc4254a395b1b8330554ba7bd7bab9a66c2046e2bd68b452f406bca6e2ebfce
@[go_sem] def aHi:=k 0xbf9dea538fc81feddedcf692e
@[go_sem] def aHj:=k 0x7be09c
@[go_sem] def aHk:=k 0x831120fd3033b70bc03d64b9ea98729f3d79bf7318e19b12
@[go_sem] def aHl:=k 0x71cc9c
@[go_sem] def aHm:=k 0x6e6755dfd3cfea2fc904142707c17ef9d0155012db00e
@[go_sem] def aHn:=k 0x2c81ac03d109c
@[go_sem] def aHo:=k 0xcbd0095899b444198b8c0e42c5174fa9ffe76cd280ab1a9fe4423a7434b4715ef446e
@[go_sem] def aHp:=k 0x1440c0c3501df1b6cc
def Xu:TC:=(.seq (.seq (.reg aPh) (.cond (.t 18) .skip (.exit 0))) (.seq (.block 1 (.seq (.reg aPi) (.seq (.reg aPj) (.seq (.seq (.reg aPk) (.block 2 (.seq (.reg aPl) (.cond (.t 30) (.dreg aPm) (.seq (.seq (.reg aPn) (.cond (.t 37) .skip (.reg aG7))) (.cond (.t 37) (.reg aG8) (.seq (.seq (.reg aG9) (.cond (.t 43) .skip (.reg aHa))) (.cond (.t 43) (.reg aHb) (.seq (.reg aHc) (.cond (.t 48) (.reg aHd) (.seq (.reg aHe) (.cond (.t 52) (.reg aHf) .skip)))))))))))) (.seq (.seq (.reg aHg) (.seq (.reg aHh) (.cond (.t 73) (.seq (.reg aHi) (.seq (.reg aHj) (.seq (.reg aHk) (.cond (.t 84) (.reg aHl) .skip)))) .skip))) (.seq (.seq (.reg aHm) (.cond (.t 91) (.reg aHn) .skip)) (.reg aHo))))))) (.reg aHp)))
@[go_sem] def aHq:=k 0x21127b0c20bf6503286abb4e
def P7:TF:=⟨106,[.t 6],(.seq (.reg aPe) (.seq (.reg aPf) (.seq (.seq (.reg aPg) (.block 0 (.loop Xu))) (.seq (.reg aHq) .ret))))⟩
/-! horarium/config.Right -/
@[go_sem] def aPo:=k 0x8d1ebc4
@[go_sem] def aPp:=k 0x2d5238d814b5e49a19a31c0efd849f5d9300
@[go_sem] def aPq:=k 0x1ff8c07cfd2c
def P8:TF:=⟨11,[.t 2],(.seq (.reg aPo) (.seq (.reg aPp) (.seq (.reg aPq) .ret)))⟩
/-! horarium/config.Copy -/
@[go_sem] def aPr:=k 0x51e2ebc4
@[go_sem] def aPs:=k 0x10dc4
@[go_sem] def aPt:=k 0x74752b2942d9cb3f0
@[go_sem] def aPu:=k 0xe442a98
@[go_sem] def aPv:=k 0xdbf95a2ae0a124e898f7c
@[go_sem] def aPw:=k 0x27234b6745c1552f218b328a8b93b850
@[go_sem] def aPx:=k 0x10387c96a82a3aa03714eac7eb5df583b4a370
@[go_sem] def aPy:=k 0xa74c209dddf4c
def Xv:TC:=(.seq (.reg aPu) (.seq (.cond (.t 12) .skip (.exit 0)) (.seq (.block 1 (.seq (.reg aPv) (.seq (.reg aPw) (.reg aPx)))) (.reg aPy))))
@[go_sem] def aPz:=k 0x3fde9b1d11ab303219b831523c652fd0
@[go_sem] def aHr:=k 0xf0696da842d6b256f1
@[go_sem] def aHs:=k 0xb316c199
@[go_sem] def aHt:=k 0x4c33737922469973a41
@[go_sem] def aHu:=kd 0xb9b6d2171ddc278b5579052656365237bbd9a0fe3fbd06baceaef86065
@[go_sem] def aHv:=k 0x12ddccbf001106d
def Ro:TC:=(.seq (.reg aHs) (.seq (.cond (.t 36) .skip (.exit 2)) (.seq (.block 3 (.seq (.reg aHt) (.dreg aHu))) (.reg aHv))))
@[go_sem] def aHw:=k 0x4619163fb141
def LP:TF:=⟨49,[.cell 2 3 true],(.seq (.reg aPr) (.seq (.reg aPs) (.seq (.seq (.reg aPt) (.block 0 (.loop Xv))) (.seq (.reg aPz) (.seq (.seq (.reg aHr) (.block 2 (.loop Ro))) (.seq (.reg aHw) .ret))))))⟩
/-! slices.Clone[[]byte,byte] -/
@[go_sem] def aPA:=k 0xbc74
@[go_sem] def aPB:=k 0x4c8a660ccc
@[go_sem] def aPC:=k 0xbc74
@[go_sem] def aPD:=k 0x8e82d804d35a8d1beac4
def P9:TF:=⟨8,[.t 2],(.seq (.reg aPA) (.seq (.seq (.reg aPB) (.cond (.t 4) (.seq (.reg aPC) .ret) .skip)) (.seq (.reg aPD) .ret)))⟩
/-! slices.Clone[[]uint32,uint32] -/
@[go_sem] def aPY:=k 0xbc74
@[go_sem] def aPZ:=k 0x4c8a660ccc
@[go_sem] def aP0:=k 0xbc74
@[go_sem] def aP1:=k 0x8e82d804d35a8d1beac4
def Qa:TF:=⟨8,[.t 2],(.seq (.reg aPY) (.seq (.seq (.reg aPZ) (.cond (.t 4) (.seq (.reg aP0) .ret) .skip)) (.seq (.reg aP1) .ret)))⟩
/-! horarium/health.New -/
@[go_sem] def aP2:=k 0x4a53ebc4
@[go_sem] def aP3:=k 0x6636a9549bf238bfa22c
def Qb:TF:=⟨6,[.t 2],(.seq (.reg aP2) (.seq (.reg aP3) .ret))⟩
/-! horarium/proc.New -/
@[go_sem] def aP4:=k 0xbd0c
@[go_sem] def aP5:=k 0xede09834d49902754812f56f7e822590fb96dfeac
@[go_sem] def aP6:=k 0xbd0c
@[go_sem] def aP7:=k 0x3c64f6f94879c18
@[go_sem] def aP8:=k 0x17ce27d924ec
@[go_sem] def aP9:=k 0x175e6af8
@[go_sem] def aQa:=k 0xe4c8147f320cf5ac3cfe0
@[go_sem] def aQb:=kd 0x53d864b7645b722f697a8161eecc19217803db10813cb1481553c06bbc7ba2ff535aec656620ed
@[go_sem] def aQc:=k 0xd9a6dbf652f84d
def zY:TC:=(.seq (.reg aP9) (.seq (.cond (.t 19) .skip (.exit 0)) (.seq (.block 1 (.seq (.reg aQa) (.dreg aQb))) (.reg aQc))))
@[go_sem] def aHx:=k 0x379a6b9b598cd
def Qc:TF:=⟨36,[.t 2],(.seq (.reg aP4) (.seq (.seq (.reg aP5) (.cond (.t 13) (.seq (.reg aP6) .ret) .skip)) (.seq (.reg aP7) (.seq (.seq (.reg aP8) (.block 0 (.loop zY))) (.seq (.reg aHx) .ret)))))⟩
/-! (*horarium/part.Part).begin -/
@[go_sem] def aQd:=k 0x16634240a6ca204ce8f205d6c
@[go_sem] def aQe:=k 0xeb8be835d48bc915f08c
@[go_sem] def aQf:=kd 0x209e2af307cb4975cf9b841fbde42e69a059465ff297ab1f4a8c8ec850462c58516c
@[go_sem] def aQg:=k 0x2078ab58
@[go_sem] def aQh:=k 0x9d0060dc6268a3b5e1040
@[go_sem] def aQi:=kd 0x65a445b7c295d8fbd51a13fcc7d842dda89a08689460d63f09e8d63a73c31f741f5e33c3e88a2d
@[go_sem] def aQj:=k 0x106c849d59b2cad
def XB:TC:=(.seq (.reg aQg) (.seq (.cond (.t 26) .skip (.exit 0)) (.seq (.block 1 (.seq (.reg aQh) (.dreg aQi))) (.reg aQj))))
@[go_sem] def aQk:=k 0x243c694b7def8c615fac18f552d
def Qd:TF:=⟨46,[],(.seq (.reg aQd) (.seq (.reg aQe) (.seq (.seq (.dreg aQf) (.block 0 (.loop XB))) (.reg aQk))))⟩
/-! (*horarium/proc.Table).Pick -/
@[go_sem] def aQl:=k 0x15d7c
@[go_sem] def aQm:=k 0x21263ab0e7fe0e90ecffb459afcf0b19fec
@[go_sem] def aQn:=k 0x2fca924b5f05d4fa35030b83ac
@[go_sem] def aQo:=k 0x18ab4f98
@[go_sem] def aQp:=k 0xf77f0ebb2c6f6043787533c65abb40c
@[go_sem] def aQq:=k 0x36e8675286ae27152c2b1b6571d470fa0d55b59c30bb728c1f1
@[go_sem] def aQr:=k 0x1b6a837127fa443941dcc2b478d
@[go_sem] def aQs:=k 0xf324a45f5e3acd
def XC:TC:=(.seq (.reg aQo) (.seq (.cond (.t 20) .skip (.exit 0)) (.seq (.block 1 (.seq (.reg aQp) (.seq (.reg aQq) (.cond (.t 32) (.reg aQr) .skip)))) (.reg aQs))))
@[go_sem] def aQt:=k 0x13fe1bf04684f12b4d
@[go_sem] def aHy:=k 0x15e10
@[go_sem] def aHz:=k 0x23bf8b0265e48a4dc94e23e1d2d
def Qe:TF:=⟨46,[.t 4],(.seq (.reg aQl) (.seq (.reg aQm) (.seq (.seq (.reg aQn) (.block 0 (.loop XC))) (.seq (.seq (.reg aQt) (.cond (.t 41) (.seq (.reg aHy) .ret) .skip)) (.seq (.reg aHz) .ret)))))⟩
/-! horarium/isa.Fetch -/
@[go_sem] def aQu:=k 0x6626d0
@[go_sem] def aQv:=k 0x2afbf506c2a7ef4792dc71bbfa713ab12c99229bfc05278ee2dffdf977f53e8fe591b912ac
@[go_sem] def aQw:=k 0x155553337a15de8
@[go_sem] def aQx:=kd 0x2809397a1070c89a932f93559063530e22473c94ad6191af0a64d9a0a3d6208702b122dfdf613b2d3d29484cfbabcaf858b69c18166b3ae41074516febe1f68955fc7a47ef8d242d
def Qf:TF:=⟨45,[.cell 4 4 true,.t 5],(.seq (.reg aQu) (.seq (.seq (.reg aQv) (.cond (.t 19) (.seq (.reg aQw) .ret) .skip)) (.seq (.dreg aQx) .ret)))⟩
/-! horarium/isa.Right -/
@[go_sem] def aQy:=k 0xc996bc4
@[go_sem] def aQz:=k 0x78cf505069d70284bb212b64348f6ba47a0c4b218e411c6350
@[go_sem] def aQA:=k 0x12f47a4cc83de131f9e5eef431f9afbc96d7b12b94f5e500c88cdfebf4ae43bc240b76ce41d93acb423a753d75650aa95acfefeda9b02f8f316e8b093f66a28ce50fc2649c22ce04b7160985b11
def Qg:TF:=⟨39,[.t 2],(.seq (.reg aQy) (.seq (.reg aQz) (.seq (.reg aQA) .ret)))⟩
/-! (*horarium/part.Part).do -/
@[go_sem] def aQB:=k 0x173e522f92e4
@[go_sem] def aQC:=k 0x5c93aa6daafb7ccccd264dbca9a12aa7330c
@[go_sem] def aQD:=k 0x3c4f37528ed0
@[go_sem] def aQE:=k 0x8fe3952331cc4
@[go_sem] def aQF:=k 0x963cae23d8164
@[go_sem] def aQG:=k 0x9c95c7247e604
@[go_sem] def aQH:=k 0xa2eee02524aa4
@[go_sem] def aQI:=k 0xa947f925caf44
@[go_sem] def aQJ:=k 0xafa1122ad9fe4
@[go_sem] def aQK:=k 0xb5fa2b2b80484
@[go_sem] def aHA:=k 0x117b1db9396beeaea7cecd5dd7daa6841b2854ad0307493d0d
@[go_sem] def aHB:=k 0xee7b3608ccb225
@[go_sem] def aHC:=k 0xf4d44f08e12ac5
@[go_sem] def aHD:=k 0x1171c8b69f8cb44140254494fe19904472ab074c634d
@[go_sem] def aHE:=k 0x128819e8cf7d7c5
@[go_sem] def aHF:=k 0x109d2eb210e20bf948c4fa29ebd4453040c84d
@[go_sem] def aHG:=k 0x15c1589ad0e84c5
@[go_sem] def aHH:=kd 0x28a1f403628d9fa30a3c5be52b75ee6d6bc4d885fbd5ad
@[go_sem] def aHI:=k 0x2b20d0001c158f3caa8e2cbed924b7f00ef7b24e
@[go_sem] def aHJ:=k 0x1bfcd1add0c946c6
@[go_sem] def aHK:=kd 0x5357608ddd033a125fc696c4032280f1368878bb8b8e6b5ce67ec0172736ba97838b56c70fdd84a1aba60a178bd4f60255c61ae
@[go_sem] def aHL:=k 0x2395b2f931e972a6
@[go_sem] def aHM:=k 0x5daa5c882b9c6ef219c9a220550ab8c732e
@[go_sem] def aHN:=k 0x26c8989230fa17a6
@[go_sem] def aHO:=k 0x272e2a223122b846
@[go_sem] def aHP:=k 0x2793bbb2319bf8e6
@[go_sem] def aHQ:=k 0x27f94d4231c49986
@[go_sem] def aHR:=k 0x6ae1caf8232aba8640c2ac2c42e79280feed897ef464ecd1fea0e
@[go_sem] def aHS:=k 0x49cd6c
def CV:TF:=⟨108,[.t 10,.t 11],(.seq (.reg aQB) (.seq (.reg aQC) (.seq (.seq (.reg aQD) (.block 0 (.seq (.seq (.reg aQE) (.cond (.t 21) .skip (.seq (.reg aQF) (.cond (.t 21) .skip (.seq (.reg aQG) (.cond (.t 21) .skip (.seq (.reg aQH) (.cond (.t 21) .skip (.seq (.reg aQI) (.cond (.t 21) .skip (.seq (.reg aQJ) (.cond (.t 21) .skip (.reg aQK))))))))))))) (.cond (.t 21) (.seq (.reg aHA) .ret) (.seq (.seq (.reg aHB) (.cond (.t 36) .skip (.reg aHC))) (.cond (.t 36) (.seq (.reg aHD) .ret) (.seq (.reg aHE) (.cond (.t 45) (.reg aHF) (.seq (.reg aHG) (.cond (.t 53) (.seq (.dreg aHH) (.cond (.t 62) (.reg aHI) .skip)) (.seq (.reg aHJ) (.cond (.t 69) (.dreg aHK) (.seq (.reg aHL) (.cond (.t 88) (.reg aHM) (.seq (.seq (.reg aHN) (.cond (.t 96) .skip (.seq (.reg aHO) (.cond (.t 96) .skip (.seq (.reg aHP) (.cond (.t 96) .skip (.reg aHQ))))))) (.cond (.t 96) (.seq (.reg aHR) .ret) .skip)))))))))))))))) (.seq (.reg aHS) .ret))))⟩
/-! (*horarium/part.Part).fails -/
@[go_sem] def aQL:=k 0xb71a4
@[go_sem] def aQM:=kd 0x331c1b1529ba49faade68563ab2584e113d024924e2eb9d4595bc4ec
@[go_sem] def aQN:=kd 0x84662d666ccb113d87b87326f0e123cbaa64764a7d2c5cb4595d697ac
@[go_sem] def aQO:=k 0xaa131c9344b44
@[go_sem] def aQP:=kd 0x51b796c0117978a14c4f4a730e4b74119997e5cbc3928c3e1d548d252b33ddb0ad
@[go_sem] def aQQ:=k 0xf4edb380903ac5
@[go_sem] def aQR:=k 0xf7be96a634d
def Qh:TF:=⟨41,[],(.seq (.reg aQL) (.seq (.dreg aQM) (.seq (.dreg aQN) (.block 0 (.seq (.reg aQO) (.cond (.t 25) (.dreg aQP) (.seq (.reg aQQ) (.cond (.t 37) (.reg aQR) .skip))))))))⟩
/-! (*horarium/health.Log).Stopped -/
@[go_sem] def aQS:=k 0xbc48
@[go_sem] def aQT:=k 0x2689763690d95af24536bc0ccc
def Qi:TF:=⟨7,[.t 2],(.seq (.reg aQS) (.seq (.reg aQT) .ret))⟩
/-! slices.Equal[[]horarium/part.state,horarium/part.state] -/
@[go_sem] def aQY:=k 0x15d88
@[go_sem] def aQZ:=k 0x171a63c443d16bb21fdedfeac
@[go_sem] def aQ0:=k 0x15d88
@[go_sem] def aQ1:=k 0x174f31e391cc
@[go_sem] def aQ2:=k 0x10ddf3d8
@[go_sem] def aQ3:=k 0x3023ac8f584c
@[go_sem] def aQ4:=kd 0x422ce59d80f43fc346dcb536e3c59190001e7f09d95046c
@[go_sem] def aQ5:=k 0x15d88
@[go_sem] def aQ6:=k 0xa158995628eac
def aAa:TC:=(.seq (.reg aQ2) (.seq (.cond (.t 14) .skip (.exit 0)) (.seq (.block 1 (.seq (.reg aQ3) (.seq (.dreg aQ4) (.cond (.t 24) (.seq (.reg aQ5) .ret) .skip)))) (.reg aQ6))))
@[go_sem] def aHT:=k 0x15dd8
def Qj:TF:=⟨26,[.t 4],(.seq (.reg aQY) (.seq (.seq (.reg aQZ) (.cond (.t 10) (.seq (.reg aQ0) .ret) .skip)) (.seq (.seq (.reg aQ1) (.block 0 (.loop aAa))) (.seq (.reg aHT) .ret))))⟩
/-! (*horarium/proc.Table).Same -/
@[go_sem] def aQ7:=k 0x15d88
@[go_sem] def aQ8:=kd 0xde1c7a1e3eb64567f7d3a372d5e29d3144bb6903ecc4e0dc582c
def Qk:TF:=⟨14,[.t 4],(.seq (.reg aQ7) (.seq (.dreg aQ8) .ret))⟩
/-! slices.Equal[[]horarium/health.Fault,horarium/health.Fault] -/
@[go_sem] def aQ9:=k 0x15d88
@[go_sem] def aRa:=k 0x171a63c443d16bb21fdedfeac
@[go_sem] def aRb:=k 0x15d88
@[go_sem] def aRc:=k 0x174f31e391cc
@[go_sem] def aRd:=k 0x10ddf3d8
@[go_sem] def aRe:=k 0x3023ac8f584c
@[go_sem] def aRf:=kd 0x422ce8471fae58c417994f0edc6a211e5f2bcccc295046c
@[go_sem] def aRh:=k 0x15d88
@[go_sem] def aRi:=k 0xa158995628eac
def aAb:TC:=(.seq (.reg aRd) (.seq (.cond (.t 14) .skip (.exit 0)) (.seq (.block 1 (.seq (.reg aRe) (.seq (.dreg aRf) (.cond (.t 24) (.seq (.reg aRh) .ret) .skip)))) (.reg aRi))))
@[go_sem] def aHU:=k 0x15dd8
def Ql:TF:=⟨26,[.t 4],(.seq (.reg aQ9) (.seq (.seq (.reg aRa) (.cond (.t 10) (.seq (.reg aRb) .ret) .skip)) (.seq (.seq (.reg aRc) (.block 0 (.loop aAb))) (.seq (.reg aHU) .ret))))⟩
/-! (*horarium/part.Part).Faults -/
@[go_sem] def aRj:=k 0xbc74
@[go_sem] def aRk:=k 0x71154f2bfb899d907dde2a36bc0ccc
def Qm:TF:=⟨8,[.t 2],(.seq (.reg aRj) (.seq (.reg aRk) .ret))⟩
/-! horarium/horariumref15.NewPorts -/
@[go_sem] def aRl:=k 0xbd0c
@[go_sem] def aRm:=kd 0x21cd1cc63d858578b397c34916047781c4c584a74bd7bbc
def Qn:TF:=⟨11,[.t 2],(.seq (.reg aRl) (.seq (.dreg aRm) .ret))⟩
/-! horarium/horariumref15.NewPart -/
@[go_sem] def aRn:=k 0xd3e440dda4
@[go_sem] def aRo:=kd 0x1386746da960c6c97abd101e7382bb7a6badb88edeb4f6fa5627e419b753fbe3cf00193f6504
@[go_sem] def aRp:=k 0x262399eddec
@[go_sem] def aRq:=k 0x5359e3167f2c
def Qo:TF:=⟨27,[.t 8],(.seq (.reg aRn) (.seq (.dreg aRo) (.seq (.reg aRp) (.seq (.reg aRq) .ret))))⟩
/-! (*horarium/horariumref15.Ports).Send -/
@[go_sem] def aRr:=k 0x1feec
@[go_sem] def aRs:=k 0xef04f97c8d8f87ab41d25fae544f487f70bffad20ab2b9099ca9bb8ac6f9b9db4d5733eff439893522dc8129ee619dd57a187928e909e39634c
@[go_sem] def aRt:=k 0x20030
@[go_sem] def aRu:=k 0x49ed0411c816c990518d7b71396a6b4a83a073ed1d258dad
@[go_sem] def aRv:=k 0x5d52d108a6e1208d701ef44d08e9646be61232e3db38634d
@[go_sem] def aRw:=k 0x1feec
@[go_sem] def aRx:=kd 0x124845709f4108d08c816f525b73987b74643ba205e9898d448b3b71526f66ee993325a1fd9f9af212843bf22fad
@[go_sem] def aRy:=k 0x20380
@[go_sem] def aRz:=kd 0x809d5314b3da45cd4d7efd3ad34da43c8eefd7eefaaa5f4b4ac161ff8e0fa149038c444220a885e51221f1ad1409daea2dc2315260c2eac02528686e
@[go_sem] def aRA:=k 0x1feec
def Fr:TF:=⟨82,[.t 6],(.seq (.reg aRr) (.seq (.seq (.reg aRs) (.cond (.t 29) (.seq (.reg aRt) .ret) .skip)) (.seq (.seq (.reg aRu) (.cond (.t 38) (.seq (.reg aRv) (.seq (.reg aRw) .ret)) .skip)) (.seq (.seq (.dreg aRx) (.cond (.t 63) (.seq (.reg aRy) .ret) .skip)) (.seq (.dreg aRz) (.seq (.reg aRA) .ret))))))⟩
/-! (*horarium/horariumref15.Ports).Recv -/
@[go_sem] def aRB:=k 0xc0d9ac
@[go_sem] def aRC:=k 0x2f5ad32efaeb2fa73aca021883d36811c1e5b04d6feb07aee8a942837463d0950937f00fae082dc8129ee619dd57a187928e909e39634c
@[go_sem] def aRD:=k 0x68a55ac
@[go_sem] def aRE:=k 0x5d5e4800c7c4f6739b3371308cc46e1e70576e1b4d73efeb953d0d
@[go_sem] def aRF:=k 0x1171cf993331a7acda252ce9c5f3c5d77316a9a812ad
@[go_sem] def aRH:=kd 0x229b8327e6172808d68d5e3dfe9937f37be243993b2d1afa3abdb8cfc3281700f392a17dd2559ba3e5ff8afb8ac2ed
@[go_sem] def aRI:=k 0x7ec4e3691a91ad
def Gm:TF:=⟨63,[.t 4,.t 5],(.seq (.reg aRB) (.seq (.seq (.reg aRC) (.cond (.t 28) (.seq (.reg aRD) .ret) .skip)) (.seq (.reg aRE) (.seq (.seq (.reg aRF) (.cond (.t 45) (.dreg aRH) .skip)) (.seq (.reg aRI) .ret)))))⟩
/-! (*horarium/horariumref15.Part).Tick -/
@[go_sem] def aRJ:=k 0x662634
@[go_sem] def aRK:=k 0xf1cee08e3dea217a412c
@[go_sem] def aRL:=k 0x155552e7361e9d0
@[go_sem] def aRM:=kd 0x25a2e0257b59d840083b2b3f5813816244f62c9ca95d697ac
@[go_sem] def aRN:=k 0x16fddffed9fe1600b0
@[go_sem] def aRO:=kd 0x532f782c286fa0ca82f0dbb3b7d1ac3e4b984ad0d72c
@[go_sem] def aRP:=k 0x921f0392ff4d43da06e71233b780d346ed
@[go_sem] def aRQ:=kd 0x1c61b6b1fb56d056be7cf6442b9bffc542acf2546baa85235deb93da0cb3822fddda1f7a2ebaed0f84f5ced
@[go_sem] def aRR:=k 0x203b47940ab3e5ec24e
@[go_sem] def aRS:=k 0x19cc156d9da67392
@[go_sem] def aHV:=k 0x15e2d5692267a7dfd99fb582
@[go_sem] def aHW:=k 0x91eb0c69bdb866e6c2236859a19f890d2558a6b2
@[go_sem] def aHX:=k 0x82714b0699fc6ee117130c991
@[go_sem] def aHY:=k 0x3dd7395f26a1c331c1d19c338691b6949badf10146b466ce61ce8bac7e9dd8eca1ecc0d
@[go_sem] def aHZ:=k 0x12be3a546c869f5a94932
@[go_sem] def aH0:=k 0x3da68ac9d23b12
@[go_sem] def aH1:=k 0x274b568f860e850abae
@[go_sem] def aH2:=k 0x8b076fa23a527ee8ed185aa3d60a8b36cd5b81a333499d8e
@[go_sem] def aH3:=k 0x2ab28ac0266a55b28e
def LQ:TF:=⟨89,[.cell 4 6 true,.t 5],(.seq (.reg aRJ) (.seq (.seq (.reg aRK) (.cond (.t 13) (.seq (.reg aRL) .ret) .skip)) (.seq (.dreg aRM) (.seq (.seq (.reg aRN) (.cond (.t 24) (.seq (.dreg aRO) (.seq (.reg aRP) (.seq (.dreg aRQ) (.seq (.block 0 (.seq (.reg aRR) (.cond (.t 62) (.reg aRS) (.seq (.reg aHV) (.cond (.t 66) (.reg aHW) (.seq (.reg aHX) (.reg aHY))))))) (.seq (.reg aHZ) (.cond (.t 76) (.seq (.reg aH0) (.reg aH1)) .skip)))))) .skip)) (.seq (.reg aH2) (.seq (.reg aH3) .ret))))))⟩
/-! horarium/horariumlaw19.alike -/
@[go_sem] def aRT:=k 0x15d88
@[go_sem] def aRU:=kd 0x774299a35cd4cf93f8c96d363824db68144e7aad26f39449bd32beaa888e557a25d8540fecee61cc54fd5b1f4dc9783376b05bd9f72b10f7c42779ffd8047598e387c00a83beff5c365889fc80c3794eda22dac4210a574a38cdaacf387e51d7fd8bf8a404dc4ed
@[go_sem] def aRV:=k 0x15d88
@[go_sem] def aRW:=k 0x1896f1d6e443f7b2d1cb04ae6f0d
@[go_sem] def aRX:=k 0xffdfd2f9
@[go_sem] def aRY:=k 0x52a82161e4b6d
@[go_sem] def aRZ:=kd 0xba251a81f889f87024a2a5fa1ec564d6c879f4066c51c4461cefdf60febfe31eb46bc2e
@[go_sem] def aR0:=k 0x15d88
@[go_sem] def aR1:=k 0x19f1e644cc0ce3ae
def aAc:TC:=(.seq (.reg aRX) (.seq (.cond (.t 51) .skip (.exit 0)) (.seq (.block 1 (.seq (.reg aRY) (.seq (.dreg aRZ) (.cond (.t 64) (.seq (.reg aR0) .ret) .skip)))) (.reg aR1))))
@[go_sem] def aH4:=k 0x1928ccce1c8d2c9185dcee5851a04ee06ce14383a4603ba7ec7dc08e43449262361c67801025125305f34e42e
def Qp:TF:=⟨81,[.t 4],(.seq (.reg aRT) (.seq (.seq (.dreg aRU) (.cond (.t 44) (.seq (.reg aRV) .ret) .skip)) (.seq (.seq (.reg aRW) (.block 0 (.loop aAc))) (.seq (.reg aH4) .ret))))⟩
/-! horarium/horariumref15.SamePorts -/
@[go_sem] def aR2:=k 0x15d88
@[go_sem] def aR3:=kd 0xf4f9d38be109028fa87566aff3328c11140a03f232b33a4d1db31ac
@[go_sem] def aR4:=k 0x15d88
@[go_sem] def aR5:=k 0x3095a27dbd8d070258e49cc62c
@[go_sem] def aR6:=k 0x1ddee218
@[go_sem] def aR7:=k 0x4fe129f7468c
@[go_sem] def aR8:=kd 0x2cc13d79f9566832aac1e02273d6bcf6063cef383af61014e88f27fc4d1d83cdea2fa9b2dce9f48411f37643ed
@[go_sem] def aR9:=k 0x15d88
@[go_sem] def aSa:=k 0x31429aa573c80e6d3173b77a79ea9adb278a179a5cd
@[go_sem] def aSb:=k 0x104fe4b99
@[go_sem] def aH5:=k 0x5444c0bc2c40d
@[go_sem] def aH6:=kd 0xd501120e5efa9b9f743b0b34077ad112704258fb90d258133734eb23e8b3b0849175a019c06f6bff00b70cec21fade195773378bd4250024de28ee
@[go_sem] def aH7:=k 0x15d88
@[go_sem] def aH8:=k 0x1dea6108003809ee
def Rp:TC:=(.seq (.reg aSb) (.seq (.cond (.t 52) .skip (.exit 2)) (.seq (.block 3 (.seq (.reg aH5) (.seq (.dreg aH6) (.cond (.t 74) (.seq (.reg aH7) .ret) .skip)))) (.reg aH8))))
@[go_sem] def aH9:=k 0x1e39babe4bd85a8e
def XD:TC:=(.seq (.reg aR6) (.seq (.cond (.t 24) .skip (.exit 0)) (.seq (.block 1 (.seq (.reg aR7) (.seq (.seq (.dreg aR8) (.cond (.t 42) (.seq (.reg aR9) .ret) .skip)) (.seq (.reg aSa) (.block 2 (.loop Rp)))))) (.reg aH9))))
@[go_sem] def aIa:=k 0x15dd8
def Qq:TF:=⟨77,[.t 4],(.seq (.reg aR2) (.seq (.seq (.dreg aR3) (.cond (.t 17) (.seq (.reg aR4) .ret) .skip)) (.seq (.seq (.reg aR5) (.block 0 (.loop XD))) (.seq (.reg aIa) .ret))))⟩
/-! (*horarium/horariumkeep.Tape).Table -/
@[go_sem] def aSc:=k 0x1fef4
@[go_sem] def aSd:=k 0xc39836e0597be11cc
@[go_sem] def aSe:=k 0x3e1450d2fd3484b3b377ae6ac4da95b0c
@[go_sem] def aSf:=k 0x3c4e792322cc
@[go_sem] def aSg:=k 0x64b798fa3753b969cc163066b8795380c
@[go_sem] def aSh:=k 0x1087f772b5fa774150c03ddefc893f8ac265aca53972f24b64b2d
@[go_sem] def aSi:=k 0x360209911e82d
@[go_sem] def aSj:=k 0xb81f83347d706c020fe179af3b4a0f20a073a4261deb0808d5033a71924cc42b5716d
@[go_sem] def aSk:=k 0x7bbd43a246b415b7a2048e84d
@[go_sem] def aSl:=k 0x20d567f0cc9b2cfb15bd1a2d
@[go_sem] def aIb:=k 0x3413c
@[go_sem] def aIc:=k 0x1ae974869dd4785c0d
@[go_sem] def aId:=k 0x32cdf6b41536b22f9a50d855cd276a6430d79a60e69df52f2e
@[go_sem] def aIe:=k 0x7247d7ca2aea9d94ded
def XE:TC:=(.seq (.seq (.reg aIc) (.cond (.t 55) .skip (.exit 0))) (.seq (.block 1 (.reg aId)) (.reg aIe)))
@[go_sem] def aIf:=k 0x339df87037638e
def LR:TF:=⟨66,[.t 6],(.seq (.reg aSc) (.seq (.reg aSd) (.seq (.seq (.reg aSe) (.cond (.t 18) (.seq (.seq (.reg aSf) (.cond (.t 20) (.seq (.reg aSg) .ret) .skip)) (.seq (.reg aSh) .ret)) .skip)) (.seq (.seq (.reg aSi) (.cond (.t 35) (.seq (.reg aSj) .ret) .skip)) (.seq (.reg aSk) (.seq (.reg aSl) (.seq (.seq (.reg aIb) (.block 0 (.loop XE))) (.seq (.reg aIf) .ret))))))))⟩
/-! horarium/horariumref3.Of -/
@[go_sem] def aSm:=k 0x474874
@[go_sem] def aSn:=k 0x390ff724e688feac
@[go_sem] def aSo:=k 0x196497d16fec
@[go_sem] def aSp:=k 0x27fcd2087b4112c
@[go_sem] def aSq:=k 0x1094af716c0a7e04111cc
@[go_sem] def aSr:=k 0x3c1c20820c2e7ac
@[go_sem] def aSs:=k 0x261b0a874
@[go_sem] def aSt:=k 0x2fd2b8813598c
def Qr:TF:=⟨18,[.t 2,.t 3],(.seq (.reg aSm) (.seq (.seq (.reg aSn) (.seq (.reg aSo) (.cond (.t 9) (.seq (.reg aSp) .ret) .skip))) (.seq (.reg aSq) (.seq (.seq (.reg aSr) (.cond (.t 16) (.seq (.reg aSs) .ret) .skip)) (.seq (.reg aSt) .ret)))))⟩
/-! horarium/horariumref3.Total -/
@[go_sem] def aSu:=k 0xbc3c
@[go_sem] def aSv:=k 0x10cdc
@[go_sem] def aSw:=k 0x16d03bedfeac
@[go_sem] def aSx:=k 0xa5d7cb8
@[go_sem] def aSy:=k 0xd83045ffccc11d0c2e1a0
@[go_sem] def aSz:=k 0xbfb164892e7c8df1c5fd7a01e6c
@[go_sem] def aSA:=k 0x6738cc093390c
def aAd:TC:=(.seq (.reg aSx) (.seq (.cond (.t 9) .skip (.exit 0)) (.seq (.block 1 (.seq (.reg aSy) (.reg aSz))) (.reg aSA))))
@[go_sem] def aSB:=k 0x363097ff318c
def Qs:TF:=⟨18,[.t 2],(.seq (.reg aSu) (.seq (.reg aSv) (.seq (.seq (.reg aSw) (.block 0 (.loop aAd))) (.seq (.reg aSB) .ret))))⟩
/-! horarium/horariumref7.Late -/
@[go_sem] def aSC:=k 0x1febc
@[go_sem] def aSD:=k 0x89c851e2ec7324ec
@[go_sem] def aSE:=k 0xfdf8839ffc
@[go_sem] def aSF:=k 0x1800f0e8522c
@[go_sem] def aSG:=k 0x19f83438
@[go_sem] def aSH:=k 0x1760750427240d98e0
@[go_sem] def aSI:=k 0x3776d739a2b3bf9c2e00f0eb0b6d730cc442d8138e9319ab23e7fa4eae65448f90a4fb15b11ed
@[go_sem] def aSJ:=k 0xe68bd6c867998d
def aAe:TC:=(.seq (.reg aSG) (.seq (.cond (.t 21) .skip (.exit 0)) (.seq (.block 1 (.seq (.reg aSH) (.reg aSI))) (.reg aSJ))))
@[go_sem] def aSK:=k 0xeae6f6d520d
@[go_sem] def aIg:=k 0x1febc
@[go_sem] def aIh:=k 0xf799279cb4d
@[go_sem] def aIi:=k 0x1ff50
@[go_sem] def aIj:=k 0xc20334fa1c8d
@[go_sem] def aIk:=k 0xdc0a8699
@[go_sem] def aIl:=k 0x95203f29319e13058950cb40ff0d
@[go_sem] def aIm:=k 0x185fb4ddcba9d768ed
@[go_sem] def aIn:=k 0xee85c
@[go_sem] def aIo:=k 0x2f820d0d384fd2dedbd7e69e1bff707e5c0c9fe075b1d6bf058000b42cd
@[go_sem] def aIp:=k 0x7e6eb107691023ff9ad
def XF:TC:=(.seq (.seq (.reg aIo) (.cond (.t 61) .skip (.exit 4))) (.block 5 (.reg aIp)))
@[go_sem] def aIq:=k 0xa6643a44268587ea61b8ec2ee
@[go_sem] def aIr:=k 0x1ab77b6e5ef584ee
def XG:TC:=(.seq (.reg aIk) (.seq (.cond (.t 44) .skip (.exit 2)) (.seq (.block 3 (.seq (.reg aIl) (.seq (.seq (.reg aIm) (.cond (.t 50) (.exit 3) .skip)) (.seq (.reg aIn) (.seq (.block 4 (.loop XF)) (.reg aIq)))))) (.reg aIr))))
@[go_sem] def aIs:=k 0x35ff61d010056e
def Qt:TF:=⟨69,[.t 6],(.seq (.reg aSC) (.seq (.reg aSD) (.seq (.reg aSE) (.seq (.seq (.reg aSF) (.block 0 (.loop aAe))) (.seq (.seq (.reg aSK) (.cond (.t 38) (.seq (.reg aIg) .ret) .skip)) (.seq (.seq (.reg aIh) (.cond (.t 40) (.seq (.reg aIi) .ret) .skip)) (.seq (.seq (.reg aIj) (.block 2 (.loop XG))) (.seq (.reg aIs) .ret))))))))⟩
/-! horarium/horariumref7.Budget -/
@[go_sem] def aSL:=k 0x1febc
@[go_sem] def aSM:=k 0x71ca979b3f46330c
@[go_sem] def aSN:=k 0x243322bdc67b5e7a89395defcf619099bfeb8f7412c3e1a0b17afeee8dbc6e40266a9fc4c
@[go_sem] def aSO:=k 0x1ff50
@[go_sem] def aSP:=k 0x1e3fce612d8cdce50c
@[go_sem] def aSQ:=k 0x2f09c
@[go_sem] def aSR:=k 0x4f6015a0a890ce2acd464d
@[go_sem] def aSS:=k 0x3413c
@[go_sem] def aST:=k 0x26a16dec4d5c2581ef3645d18697c373f9c72aad
@[go_sem] def aSU:=k 0xe64777d9
@[go_sem] def aIt:=k 0x60598abb39884c7f081
@[go_sem] def aIu:=k 0x18e1a90c293daf698d
@[go_sem] def aIv:=k 0x6a4899c551d19d80b6d
@[go_sem] def aIw:=k 0x15b4a670a6744cd
def XH:TC:=(.seq (.reg aSU) (.seq (.cond (.t 46) .skip (.exit 2)) (.seq (.block 3 (.seq (.reg aIt) (.seq (.reg aIu) (.cond (.t 51) (.reg aIv) .skip)))) (.reg aIw))))
@[go_sem] def aIx:=k 0x23f8d6d02d4059290770ad4d
@[go_sem] def aIy:=k 0x17638d098926d9d506fe88cd
def XI:TC:=(.seq (.seq (.reg aSR) (.cond (.t 34) .skip (.exit 0))) (.seq (.block 1 (.seq (.reg aSS) (.seq (.seq (.reg aST) (.block 2 (.loop XH))) (.reg aIx)))) (.reg aIy)))
@[go_sem] def aIz:=k 0x5c341fc619f2d
def Qu:TF:=⟨59,[.t 6],(.seq (.reg aSL) (.seq (.reg aSM) (.seq (.seq (.reg aSN) (.cond (.t 28) (.seq (.reg aSO) .ret) .skip)) (.seq (.reg aSP) (.seq (.seq (.reg aSQ) (.block 0 (.loop XI))) (.seq (.reg aIz) .ret))))))⟩
/-! horarium/horariumref12.Right -/
@[go_sem] def aSV:=k 0x8d1ebc4
@[go_sem] def aSW:=k 0x2d5238d814b5e49a19a31c0efd84df9d1300
@[go_sem] def aSX:=k 0x1ff8c07cfd2c
def Qv:TF:=⟨11,[.t 2],(.seq (.reg aSV) (.seq (.reg aSW) (.seq (.reg aSX) .ret)))⟩
/-! horarium/config.Where -/
@[go_sem] def aSY:=k 0x1637e051ebc4
@[go_sem] def aSZ:=k 0x15147953e1486d9d000e2401b0ed69295e5d54665cfeb3224e8d379b29a50f8692091d50d71b2d4df1590f4cea63dc94596d233f21bf0498d65c81ffa712e360aaf8a425224f81994d02fe9897b9d1
@[go_sem] def aS0:=k 0x8f0783c
@[go_sem] def aS1:=k 0xf3e919795988a08b51
@[go_sem] def aS2:=k 0xd6ec0df9
@[go_sem] def aS3:=k 0x16e689125c97629e271619d3362132866d
@[go_sem] def aS4:=k 0xcf416fff971d0b159636ba63a68d88da3f11696c20299673083d797047a8f3b051
@[go_sem] def aS5:=k 0x1d7d492391fdf94fcd
@[go_sem] def aS6:=k 0x79f68515a64dc931
@[go_sem] def aS7:=k 0x1f7d18bc9661fa924d
@[go_sem] def aIA:=k 0x1985fb9b2acc930e
def XJ:TC:=(.seq (.reg aS2) (.seq (.cond (.t 43) .skip (.exit 0)) (.seq (.block 1 (.seq (.reg aS3) (.seq (.seq (.reg aS4) (.cond (.t 58) (.seq (.reg aS5) .ret) .skip)) (.seq (.reg aS6) (.cond (.t 62) (.seq (.reg aS7) .ret) .skip))))) (.reg aIA))))
@[go_sem] def aIB:=k 0x1e0d2a567d9d9864e392
@[go_sem] def aIC:=k 0x56542c63a
@[go_sem] def aID:=k 0x3c7f50a2222e6286ab33815953ac1a0b66ae
@[go_sem] def aIE:=k 0x179cf573af6f12db4eb768e2
@[go_sem] def aIF:=k 0x267c6e3c239a7623b0e
@[go_sem] def aIG:=k 0x1f28930e76e0fbce
def XK:TC:=(.seq (.reg aIC) (.seq (.cond (.t 69) .skip (.exit 2)) (.seq (.block 3 (.seq (.reg aID) (.seq (.reg aIE) (.cond (.t 76) (.seq (.reg aIF) .ret) .skip)))) (.reg aIG))))
@[go_sem] def aIH:=k 0x1e7d1fc584896c914c52
@[go_sem] def aII:=k 0x681ab8efa
@[go_sem] def aIJ:=k 0x886ef55f02f1d7bcd5156dd0042f6e
@[go_sem] def aIK:=k 0xe05bd00bb805f53fdd4fbd1a2
@[go_sem] def aIL:=k 0x476a5c7c17932e
@[go_sem] def aIM:=k 0x1d476893b6b37014d028346e
@[go_sem] def aIN:=k 0x258cc7fb511605ce
def XL:TC:=(.seq (.reg aII) (.seq (.cond (.t 83) .skip (.exit 4)) (.seq (.block 5 (.seq (.reg aIJ) (.seq (.reg aIK) (.seq (.reg aIL) (.cond (.t 91) (.seq (.reg aIM) .ret) .skip))))) (.reg aIN))))
@[go_sem] def aIO:=k 0x376ebc3c
def Qw:TF:=⟨95,[.t 2,.t 3],(.seq (.reg aSY) (.seq (.seq (.reg aSZ) (.cond (.t 38) (.seq (.reg aS0) .ret) .skip)) (.seq (.seq (.reg aS1) (.block 0 (.loop XJ))) (.seq (.seq (.reg aIB) (.block 2 (.loop XK))) (.seq (.seq (.reg aIH) (.block 4 (.loop XL))) (.seq (.reg aIO) .ret))))))⟩
/-! slices.Clip[[]horarium/api.Proc,horarium/api.Proc] -/
@[go_sem] def aS8:=k 0xbc74
@[go_sem] def aS9:=k 0x28a661859a1b45233941a8c4f71fb7c88ccc
def LS:TF:=⟨9,[.t 2],(.seq (.reg aS8) (.seq (.reg aS9) .ret))⟩
/-! slices.Clone[[]horarium/api.Proc,horarium/api.Proc] -/
@[go_sem] def aTa:=k 0xbc74
@[go_sem] def aTb:=k 0x4c8a660ccc
@[go_sem] def aTc:=k 0xbc74
@[go_sem] def aTd:=k 0x8e82d804d53d0087eac4
def LT:TF:=⟨8,[.t 2],(.seq (.reg aTa) (.seq (.seq (.reg aTb) (.cond (.t 4) (.seq (.reg aTc) .ret) .skip)) (.seq (.reg aTd) .ret)))⟩
/-! slices.Clip[[]horarium/api.Chan,horarium/api.Chan] -/
@[go_sem] def aTe:=k 0xbc74
@[go_sem] def aTf:=k 0x28a661859a3bfd725a6e8b19771fb7c88ccc
def Qx:TF:=⟨9,[.t 2],(.seq (.reg aTe) (.seq (.reg aTf) .ret))⟩
/-! slices.Clone[[]horarium/api.Chan,horarium/api.Chan] -/
@[go_sem] def aTg:=k 0xbc74
@[go_sem] def aTh:=k 0x4c8a660ccc
@[go_sem] def aTi:=k 0xbc74
@[go_sem] def aTj:=k 0x8e82d804d8698d07eac4
def Qy:TF:=⟨8,[.t 2],(.seq (.reg aTg) (.seq (.seq (.reg aTh) (.cond (.t 4) (.seq (.reg aTi) .ret) .skip)) (.seq (.reg aTj) .ret)))⟩
/-! slices.Clip[[]horarium/api.Node,horarium/api.Node] -/
@[go_sem] def aTk:=k 0xbc74
@[go_sem] def aTl:=k 0x28a661859a3c303652e01373f71fb7c88ccc
def LU:TF:=⟨9,[.t 2],(.seq (.reg aTk) (.seq (.reg aTl) .ret))⟩
/-! slices.Clone[[]horarium/api.Node,horarium/api.Node] -/
@[go_sem] def aTm:=k 0xbc74
@[go_sem] def aTn:=k 0x4c8a660ccc
@[go_sem] def aTo:=k 0xbc74
@[go_sem] def aTp:=k 0x8e82d804d5d55adfeac4
def LV:TF:=⟨8,[.t 2],(.seq (.reg aTm) (.seq (.seq (.reg aTn) (.cond (.t 4) (.seq (.reg aTo) .ret) .skip)) (.seq (.reg aTp) .ret)))⟩
/-! (*horarium/proc.Table).Reset -/
@[go_sem] def aTq:=k 0x2d9c25c0db28094e4e36bc0ccc
@[go_sem] def aTr:=k 0xa5d7cb8
@[go_sem] def aTs:=k 0x1ff8c0af612c
@[go_sem] def aTt:=kd 0x3de36cc8532d239fb45ad64b0a8e1a1379bad1236ff30f434bce1b277d51d5fd5b6c9c3a973cc3cf3b3d8e4ac
@[go_sem] def aTu:=k 0xa05aad0960eac
def aAf:TC:=(.seq (.reg aTr) (.seq (.cond (.t 9) .skip (.exit 0)) (.seq (.block 1 (.seq (.reg aTs) (.dreg aTt))) (.reg aTu))))
def Qz:TF:=⟨26,[],(.seq (.reg aTq) (.block 0 (.loop aAf)))⟩
/-! container/heap.Push -/
@[go_sem] def aTv:=k 0x2141141a52acdd6c
@[go_sem] def aTw:=k 0x2e6a7f2a1ef91739ea22c9cf4c
def QA:TF:=⟨12,[],(.seq (.reg aTv) (.reg aTw))⟩
/-! (*horarium/proc.ready).Len -/
@[go_sem] def aTx:=k 0xbc3c
@[go_sem] def aTy:=k 0x71154f2907f536f5494e4e36bc0ccc
def QB:TF:=⟨8,[.t 2],(.seq (.reg aTx) (.seq (.reg aTy) .ret))⟩
/-! container/heap.Pop -/
@[go_sem] def aTz:=k 0xbedc
@[go_sem] def aTA:=k 0xf5fbe30457c92f3c45d6c
@[go_sem] def aTB:=k 0x7015a4f2c1075cf4c
@[go_sem] def aTC:=k 0xa01d17f9878f6c12c
@[go_sem] def aTD:=k 0x708ab5ec5536b30c
def QC:TF:=⟨15,[.t 2],(.seq (.reg aTz) (.seq (.reg aTA) (.seq (.reg aTB) (.seq (.reg aTC) (.seq (.reg aTD) .ret)))))⟩
/-! horarium/isa.regs -/
@[go_sem] def aTE:=k 0x7efc4c448
@[go_sem] def aTF:=k 0x1ae0c
@[go_sem] def aTG:=k 0x2db1593c8e364
@[go_sem] def aTH:=k 0x340a72419d404
@[go_sem] def aTI:=k 0x3a638b42438a4
@[go_sem] def aTJ:=k 0x40bca4442c544
@[go_sem] def aTK:=k 0x4715bd44d29e4
@[go_sem] def aTL:=k 0x4d6ed64578e84
@[go_sem] def aTM:=k 0x7efc4c498
@[go_sem] def aTN:=k 0x5b8485b552bc4
@[go_sem] def aIP:=k 0x61dd9eb5f9064
@[go_sem] def aIQ:=k 0x6836b7b69f504
@[go_sem] def aIR:=k 0x6e8fd0b7459a4
@[go_sem] def aIS:=k 0x17cf4cd498
@[go_sem] def aIT:=k 0x7c3fee9ff0ee4
@[go_sem] def aIU:=k 0x829907a097384
@[go_sem] def aIV:=k 0x7f08e5498
@[go_sem] def aIW:=k 0x8fe393fb264c4
@[go_sem] def aIX:=k 0x963cacfbcc964
@[go_sem] def aIY:=k 0x7f08e5448
@[go_sem] def aIZ:=k 0x7efc4c448
def QD:TF:=⟨24,[.t 2,.t 3,.t 4],(.seq (.reg aTE) (.seq (.seq (.reg aTF) (.block 0 (.seq (.seq (.reg aTG) (.cond (.t 6) .skip (.seq (.reg aTH) (.cond (.t 6) .skip (.seq (.reg aTI) (.cond (.t 6) .skip (.seq (.reg aTJ) (.cond (.t 6) .skip (.seq (.reg aTK) (.cond (.t 6) .skip (.reg aTL))))))))))) (.cond (.t 6) (.seq (.reg aTM) .ret) (.seq (.seq (.reg aTN) (.cond (.t 13) .skip (.seq (.reg aIP) (.cond (.t 13) .skip (.seq (.reg aIQ) (.cond (.t 13) .skip (.reg aIR))))))) (.cond (.t 13) (.seq (.reg aIS) .ret) (.seq (.seq (.reg aIT) (.cond (.t 18) .skip (.reg aIU))) (.cond (.t 18) (.seq (.reg aIV) .ret) (.seq (.seq (.reg aIW) (.cond (.t 21) .skip (.reg aIX))) (.cond (.t 21) (.seq (.reg aIY) .ret) .skip)))))))))) (.seq (.reg aIZ) .ret)))⟩
/-! horarium/isa.field -/
@[go_sem] def aTO:=k 0x15d88
@[go_sem] def aTP:=k 0x121a16a3989948aa9725f4471f406fdb7b9ed6cef686ec2b35fcb72c3b19d584b93551da9956ae0c
def LW:TF:=⟨19,[.t 4],(.seq (.reg aTO) (.seq (.reg aTP) .ret))⟩
/-! (*horarium/part.Part).count -/
@[go_sem] def aT3:=k 0x170b89674244
@[go_sem] def aT4:=k 0x628c093b177a7680
@[go_sem] def aT5:=k 0x2943ec469710
@[go_sem] def aT6:=k 0x689c49fac4d04
@[go_sem] def aT7:=kd 0x21141ef368c1cbe91b2ae5643d5f10c5aa5d0bc82b9ddf984abb863e8025e63c2fa82dc8d1571faaa12c
@[go_sem] def aT8:=k 0xd4b1405a52f7a5
@[go_sem] def aT9:=kd 0x32dc65f45d7185943348acc19387b7e68155c1dc47a4d08d9eeb0af5d8fd4fc790f4f4963c5aeb6f6ca07009ed
@[go_sem] def aUa:=k 0x1424b93fe6c7a45
@[go_sem] def aUb:=kd 0x44ba80938369bc6397ccddf02967b3198de3100327191a28101b4ddd7ab2a823b5d30ceb207fdce1530e39f98cd4a2ae
@[go_sem] def aUc:=k 0x1ac9bb93f70ec4e6
@[go_sem] def aI0:=kd 0x18a512a4ec32812cbf663c0dc2e7d832f05f899f955d2db6e
@[go_sem] def aI1:=k 0x32cd5ac2c
@[go_sem] def aI2:=kd 0x5f21394a858c433a3527ed1ffdc687028e0e62b82ee664bf6df9031b3f9a98c2f694a3f707e5d171b28f3cf99a0e416e
@[go_sem] def aI3:=k 0x24c8c91218592486
@[go_sem] def aI4:=k 0x3416c
@[go_sem] def aI5:=k 0x3b0485e3b0cd87b4e4ff48dfdaefffb8fd0e550e
@[go_sem] def aI6:=k 0x15073ff591050ba20f3afc33ff53022bba8ee916a0f996e
@[go_sem] def aI7:=k 0x2b2e944418867e86
@[go_sem] def aI8:=k 0x37051ec154b3fb35f0e
@[go_sem] def aI9:=kd 0x20f7d3b24908282bd1151f015a909bdff2081cf5d58f9ec921fae
@[go_sem] def aJa:=k 0x324aa5a9cf064ae
def CW:TF:=⟨119,[.t 8,.t 9],(.seq (.reg aT3) (.seq (.reg aT4) (.seq (.seq (.reg aT5) (.block 0 (.seq (.reg aT6) (.cond (.t 15) (.dreg aT7) (.seq (.reg aT8) (.cond (.t 32) (.dreg aT9) (.seq (.reg aUa) (.cond (.t 49) (.dreg aUb) (.seq (.reg aUc) (.cond (.t 66) (.seq (.seq (.dreg aI0) (.cond (.t 75) (.seq (.reg aI1) .ret) .skip)) (.dreg aI2)) (.seq (.reg aI3) (.cond (.t 91) (.seq (.reg aI4) (.seq (.reg aI5) (.cond (.t 99) (.reg aI6) .skip))) (.seq (.reg aI7) (.cond (.t 107) (.reg aI8) .skip)))))))))))))) (.seq (.dreg aI9) (.seq (.reg aJa) .ret)))))⟩
/-! (*horarium/part.Part).word -/
@[go_sem] def aUd:=k 0x16d8c09ef1a4
@[go_sem] def aUe:=kd 0x559da7cbeaaa3050b797266377f7c2b133752e1eba863cf3f85dc50862d87b773b2c
@[go_sem] def aUf:=k 0x216f1aed80c
@[go_sem] def aUg:=k 0x261b1eaec
@[go_sem] def aUh:=k 0x182db94a96793fa950
@[go_sem] def aUi:=kd 0x853c1fcb56399a768149f3eb6c4d9d9d85b47d3682abcca87ba788ad61ef4cfdcb22454a3ed
@[go_sem] def aUj:=kd 0xb07cf2b0917fe83bf82cdf63f9c4bd683d50f7bccb790f9879be9eccef49155664adfab5ced
@[go_sem] def aUk:=k 0x279515d0f89e8dd64b714db0c494df1433adda2d
def Ia:TF:=⟨56,[.t 6,.t 7],(.seq (.reg aUd) (.seq (.dreg aUe) (.seq (.seq (.reg aUf) (.cond (.t 22) (.seq (.reg aUg) .ret) .skip)) (.seq (.seq (.reg aUh) (.cond (.t 25) (.dreg aUi) (.dreg aUj))) (.seq (.reg aUk) .ret)))))⟩
/-! horarium/isa.Imm -/
@[go_sem] def aUl:=k 0x17efebc4
@[go_sem] def aUm:=k 0x283f3d8342e1aa43ecfc35e44e6243b8809992e1a020d0
def QE:TF:=⟨11,[.t 2],(.seq (.reg aUl) (.seq (.reg aUm) .ret))⟩
/-! (*horarium/proc.Table).Sleep -/
@[go_sem] def aUn:=k 0x1fec8
@[go_sem] def aUo:=k 0x39fbc54e832dcf4c
@[go_sem] def aUp:=k 0x45e18d74b255676182abf8d6c90a0b6ec0e00fa17a412c
@[go_sem] def aUq:=k 0x32ded97a35bc7d7f31462c
def QF:TF:=⟨21,[.t 6],(.seq (.reg aUn) (.seq (.seq (.reg aUo) (.cond (.t 9) (.reg aUp) .skip)) (.seq (.reg aUq) .ret)))⟩
/-! (*horarium/proc.Table).End -/
@[go_sem] def aUr:=k 0x15d88
@[go_sem] def aUs:=k 0x297d55719b2d2e0c
@[go_sem] def aUt:=k 0xba5322d5623103d9a5868e928f1c7afcf0b19fec
@[go_sem] def aUu:=k 0x2b2844803e73b22330544c
def QG:TF:=⟨18,[.t 4],(.seq (.reg aUr) (.seq (.seq (.reg aUs) (.cond (.t 7) (.reg aUt) .skip)) (.seq (.reg aUu) .ret)))⟩
/-! (*horarium/part.Part).call -/
@[go_sem] def aUv:=k 0x170b89674244
@[go_sem] def aUw:=k 0x2943ec469710
@[go_sem] def aUx:=k 0x689c4a02f5104
@[go_sem] def aUy:=kd 0xccabc6778d0bc69b527ac81aa4a15abcf701fc48664274c6b3a2c71f824581e8cc46e8b9a672681f4aa7cbf84c698e5d12d
@[go_sem] def aUz:=k 0x79315c3784295b9276e6c2ccf9cb1fecf8d
@[go_sem] def aUA:=k 0xfb6030b35ae365
@[go_sem] def aUB:=kd 0x1c998839ae82b0f4dcabe76b0e4387c9f3c0c9471d10966d
@[go_sem] def aUC:=k 0x7c70bea0576f0a6b3a4751e5e403652e7ad
@[go_sem] def aUD:=k 0x1699893223e59dfb8a7bb26df081b7a15ec8bfd50082acd
@[go_sem] def aUE:=k 0x3f7f8cc2c
@[go_sem] def aJb:=k 0x784c9d8330258f777d1
@[go_sem] def aJc:=kd 0xb558df8919479114595bfea8380b6f487d023282f992a64eee
@[go_sem] def aJd:=kd 0x6123f4296b05a91da25e087559584bd1e51456639babf7fea35e3688bb1d713c2a482e
@[go_sem] def aJe:=k 0x304ecdd9ce3cbae
@[go_sem] def aJf:=k 0x2a74045f72ba04af6c1e5de1b0b0ae6dbb0d6cec9f4b162d0723cee
@[go_sem] def aJg:=k 0x88978ef6f0ae
@[go_sem] def aJh:=kd 0x1a7c759e4feb634fcc853953ff9cab76b05a4334c80f9a0675a6e
@[go_sem] def aJi:=k 0x31d738c24c67acc1f7cc6bfa816c147e6a64e
@[go_sem] def aJj:=k 0x31661e25d13096e
def Gn:TF:=⟨101,[.t 8,.t 9],(.seq (.reg aUv) (.seq (.seq (.reg aUw) (.block 0 (.seq (.reg aUx) (.cond (.t 15) (.seq (.dreg aUy) (.seq (.reg aUz) .ret)) (.seq (.reg aUA) (.cond (.t 38) (.seq (.dreg aUB) (.seq (.reg aUC) .ret)) .skip)))))) (.seq (.seq (.reg aUD) (.cond (.t 58) (.seq (.reg aUE) .ret) .skip)) (.seq (.seq (.reg aJb) (.cond (.t 61) (.seq (.dreg aJc) (.seq (.dreg aJd) (.seq (.reg aJe) .ret))) .skip)) (.seq (.reg aJf) (.seq (.seq (.reg aJg) (.cond (.t 87) (.dreg aJh) .skip)) (.seq (.reg aJi) (.seq (.reg aJj) .ret))))))))⟩
/-! (*horarium/health.Log).Tell -/
@[go_sem] def aUF:=k 0x29ffc
@[go_sem] def aUG:=k 0xf1ce489ca406a17a412c
@[go_sem] def aUH:=k 0x2a090
@[go_sem] def aUI:=k 0xa9b1026138bd07b9bae21a344e6ac5ea40b57284e8449e73f122680726b6d49acc03ac
@[go_sem] def aUJ:=k 0x49c626228813c5c2fc1bcc
@[go_sem] def aUK:=k 0x89f090a949e8ae5de98e5c6030f1378dad
@[go_sem] def aUL:=k 0x37c08238e88cd
def QH:TF:=⟨36,[.t 8],(.seq (.reg aUF) (.seq (.seq (.reg aUG) (.cond (.t 13) (.seq (.reg aUH) .ret) .skip)) (.seq (.reg aUI) (.seq (.reg aUJ) (.seq (.reg aUK) (.seq (.reg aUL) .ret))))))⟩
/-! slices.Equal[[]horarium/proc.proc,horarium/proc.proc] -/
@[go_sem] def aUM:=k 0x15d88
@[go_sem] def aUN:=k 0x171a63c443d16bb21fdedfeac
@[go_sem] def aUO:=k 0x15d88
@[go_sem] def aUP:=k 0x174f31e391cc
@[go_sem] def aUQ:=k 0x10ddf3d8
@[go_sem] def aUR:=k 0x3023ac8f584c
@[go_sem] def aUS:=kd 0x422d2aded9fee887861c4c8c6bea211e5f2bcccc295046c
@[go_sem] def aUT:=k 0x15d88
@[go_sem] def aUU:=k 0xa158995628eac
def aAg:TC:=(.seq (.reg aUQ) (.seq (.cond (.t 14) .skip (.exit 0)) (.seq (.block 1 (.seq (.reg aUR) (.seq (.dreg aUS) (.cond (.t 24) (.seq (.reg aUT) .ret) .skip)))) (.reg aUU))))
@[go_sem] def aJk:=k 0x15dd8
def QI:TF:=⟨26,[.t 4],(.seq (.reg aUM) (.seq (.seq (.reg aUN) (.cond (.t 10) (.seq (.reg aUO) .ret) .skip)) (.seq (.seq (.reg aUP) (.block 0 (.loop aAg))) (.seq (.reg aJk) .ret))))⟩
/-! (*horarium/health.Log).All -/
@[go_sem] def aUV:=k 0xbc74
@[go_sem] def aUW:=k 0x71154f2c7977adf26d6446b6bc0ccc
def QJ:TF:=⟨8,[.t 2],(.seq (.reg aUV) (.seq (.reg aUW) .ret))⟩
/-! (*horarium/horariumref15.Part).begin -/
@[go_sem] def aUX:=k 0xa329d67c36adcc0f97aa080e5e2d617dd9a6648dd6c
@[go_sem] def aUY:=kd 0x207c5c87f0eb249ad47e887c49ce4f71d352ec3f5281c33a52d02c976d93b3d8e4ac
@[go_sem] def aUZ:=k 0x1f2bc6b8
@[go_sem] def aU0:=k 0x9bbdff693eaddad912ba0
@[go_sem] def aU1:=kd 0x63196eb7b51fca4c5803482fca134aa03c60e3292be0afdac0a54fce716afdd126825503611d6d
@[go_sem] def aU2:=k 0x10055cc6c90dc0d
def XM:TC:=(.seq (.reg aUZ) (.seq (.cond (.t 25) .skip (.exit 0)) (.seq (.block 1 (.seq (.reg aU0) (.dreg aU1))) (.reg aU2))))
def QK:TF:=⟨41,[],(.seq (.reg aUX) (.seq (.dreg aUY) (.block 0 (.loop XM))))⟩
/-! (*horarium/horariumref15.Part).pick -/
@[go_sem] def aU3:=k 0xbc3c
@[go_sem] def aU4:=k 0x10d70
@[go_sem] def aU5:=k 0x2e6735f339d7378c6a984d4f4c
@[go_sem] def aU6:=k 0xf910f38
@[go_sem] def aU7:=k 0xb08c8b969f7e539e4f568b9193af3ac
@[go_sem] def aU8:=kd 0xaad09447712ae948e1c4129835f3bcbaefb2a70c8d24172d8bb775bfc743f7267b88ccc13ae4e5f2f7d59eafd3712d
@[go_sem] def aU9:=kd 0x130815d05557a059b00a07166f094cb14e0ad1959b65c905300e5018a131d3ec51037e7057cfb146b9c4b69bb05dd2480becf52665c30a046c9c3aabd8ac912c8cbbff32ac83fc06cdaa69440c181afd6ec6927b831cd5e73af88c84b4d0dbe6486c449d0cfe6fac1223e6
@[go_sem] def aVa:=k 0x36c5c21caf160e
@[go_sem] def aVb:=k 0x1bcf96db0e1e76ce
def TY:TC:=(.seq (.reg aU6) (.seq (.cond (.t 13) .skip (.exit 0)) (.seq (.block 1 (.seq (.reg aU7) (.seq (.dreg aU8) (.seq (.dreg aU9) (.cond (.t 68) (.reg aVa) .skip))))) (.reg aVb))))
@[go_sem] def aJl:=k 0x385a721647674e
def QL:TF:=⟨72,[.t 2],(.seq (.reg aU3) (.seq (.reg aU4) (.seq (.seq (.reg aU5) (.block 0 (.loop TY))) (.seq (.reg aJl) .ret))))⟩
/-! horarium/horariumref15.Fetch -/
@[go_sem] def aVc:=k 0x6626d0
@[go_sem] def aVd:=k 0x2afbf506c2a7ef4792dc71bbfa713ab12c99229bfc05278ee2dffdf977f53e8fe591b912ac
@[go_sem] def aVe:=k 0x155553337a15de8
@[go_sem] def aVf:=kd 0x2809397a1070c89a932f93559063530e22473c94ad6191af0a64d9a0a3d6208702b122dfdf613b2d3d29484cfbabcaf858b69c18166b3ae41074516febe1f68955fc7a47ef8d242d
def QM:TF:=⟨45,[.cell 4 4 true,.t 5],(.seq (.reg aVc) (.seq (.seq (.reg aVd) (.cond (.t 19) (.seq (.reg aVe) .ret) .skip)) (.seq (.dreg aVf) .ret)))⟩
/-! horarium/horariumref15.Right -/
@[go_sem] def aVg:=k 0xc996bc4
@[go_sem] def aVh:=k 0x2f2dcd50322d66d6a9b791768881a446ef49eedf33f0
@[go_sem] def aVi:=k 0x14c4a1b8
@[go_sem] def aVj:=k 0x1320dc0840ecda0660
@[go_sem] def aVk:=k 0x2d776c7b068b79f0c4e5ad4040dbb76c
@[go_sem] def aVl:=k 0xbc48
@[go_sem] def aVm:=k 0xa84a0ceaa5f4c
def aAh:TC:=(.seq (.reg aVi) (.seq (.cond (.t 17) .skip (.exit 0)) (.seq (.block 1 (.seq (.reg aVj) (.seq (.reg aVk) (.cond (.t 25) (.seq (.reg aVl) .ret) .skip)))) (.reg aVm))))
@[go_sem] def aVn:=k 0x530dd12ab1606b495a9bbf77a14e2091a35573f589bec43c9d1471
@[go_sem] def aVo:=k 0x10ede055e64112145789ff8490a209d8ab2bfb9fdcd86c12b6825961a4918cfd5de94db6719f0e5929036a441937b8599e2ebf1bd54f21c179383d4e9052e428e93c7f708ebfa33ef481b25c2924deff23700ca97e294dd46d28dc78341fb9d765c6e8b9be401e2cd62d5e0ffca4332032
def QN:TF:=⟨69,[.t 2],(.seq (.reg aVg) (.seq (.seq (.reg aVh) (.block 0 (.loop aAh))) (.seq (.reg aVn) (.seq (.reg aVo) .ret))))⟩
/-! (*horarium/horariumref15.Part).do -/
@[go_sem] def aVp:=k 0x170b8971a6e4
@[go_sem] def aVq:=k 0x349b5f687ccef04561433e7fc6381cac
@[go_sem] def aVr:=k 0xf145e6e0c
@[go_sem] def aVs:=k 0x530dd12ab163fcba42c6e2d923d2af21a35573f589bec43d01dc71
@[go_sem] def aVt:=k 0x125002d
@[go_sem] def aVu:=kd 0x6daf092a56c47985814e8616980dd9442806b1706fc46ad
@[go_sem] def aVv:=k 0x13bad2d
@[go_sem] def aVw:=kd 0x8308f6ba864d56ab380f7224689945200a2cf370337acad
@[go_sem] def aVx:=k 0x1525a2d
@[go_sem] def aVy:=kd 0x9862e44ab5d633d0eed05e323924b0fbec53356ff7312ad
@[go_sem] def aJm:=k 0x1c0e5cc
@[go_sem] def aJn:=k 0x5c0c4f50b4f31
@[go_sem] def aJo:=k 0x1d2fe7ca417768a6
@[go_sem] def aJp:=kd 0x813dcca4e65c102255699e0f8b434556a1646
@[go_sem] def aJq:=k 0x1f9613fd01a19c66
@[go_sem] def aJr:=kd 0x2c675c9fd2db7163dbc7a921bea7f9a74899a21bb46e
@[go_sem] def aJs:=k 0x22629ce2e1cc20c6
@[go_sem] def aJt:=kd 0x301aa2ac36aa2432e768eedbde133abcd34e65cfadae
@[go_sem] def aJu:=k 0x252f25c8c1f6a526
@[go_sem] def aJv:=kd 0x33cde8b89a78d701f30a3495fd7ea3ce93fba983a6ee
@[go_sem] def aJw:=k 0x27fbaeaea2212986
@[go_sem] def aJx:=k 0xa0506ab3fa0e
@[go_sem] def aJy:=k 0x32cd5ac2c
@[go_sem] def aJz:=kd 0x388fd511ad14e179dd6bd760b82d1165309cee4679ae
@[go_sem] def aJA:=k 0x2b94f0fac24c4f26
@[go_sem] def aJB:=k 0x2bfa828ac274efc6
@[go_sem] def aJC:=k 0x39886d8b9bebb3b81dcb0c173002696f6d04e
@[go_sem] def aJD:=k 0x5c25519472936e
@[go_sem] def aJE:=k 0x261b28c2c
@[go_sem] def aJF:=k 0x1dc02e80a7773251724b2
@[go_sem] def aJG:=kd 0x874672c3dc78bfaf9f9386993b9b498df1f088fd3c57c075067fdb77558c12f9f2f
@[go_sem] def aJH:=kd 0xbe984d333ebf8f2662898e7e364038519f35f5b348fb1784e4f6a34888c56b052f
@[go_sem] def aJI:=k 0x3675f1afb158b540a7
@[go_sem] def aJJ:=k 0xb053ccb3c02611dc6de97311e3
@[go_sem] def aJK:=k 0x3872c76b99595813c7
@[go_sem] def aJL:=k 0xe2f7ef79ae44f
@[go_sem] def aJM:=k 0xb92476d9d4db6b88eca5754643
@[go_sem] def aJN:=k 0x3b3b25d91159fb8827
@[go_sem] def aJO:=k 0x50094fe70bbfba6d36a84d9e44be122d284f8c742f8399d53f76f3d4aae28884534373c85098af
@[go_sem] def aJP:=k 0x40661e5b395be36047
@[go_sem] def aJQ:=kd 0x57e4c052f1c1707934cf07db30e170be39d41a5a634af258f0f238a4d706776af
@[go_sem] def aJR:=kd 0x1e4b49c9dd8cf77598b27a11b71eaff2d9e0335c7bf6a33b8e9f79872b8cf738d25b1b62f
@[go_sem] def aJS:=k 0xb7f7bbbf2e6c39246813d53
@[go_sem] def aJT:=k 0x49f086adf95c8c2f47
@[go_sem] def aJU:=kd 0x287a45fa498bb98fc41666e08d5b10ca6e84f5c14d9a4cb4ed4cbd19a8af
@[go_sem] def aJV:=k 0x4d846dcd015e72c4e7
@[go_sem] def aJW:=k 0xfa34ba6681cd2a00441fdf156f
@[go_sem] def aJX:=k 0xa89f7bc33d1913de1dbbabbee36c95cbb56256d51f5ba8f02479a82cb510e
@[go_sem] def aJY:=k 0x35f557bdcc156e
@[go_sem] def aJZ:=k 0x45f9855d2811cb6ae
@[go_sem] def aJ0:=k 0x38724036b4b74e
@[go_sem] def aJ1:=k 0x277a13a2e095474f
@[go_sem] def aJ2:=k 0x40f48243e35ab30b3ec4b9326feed10010416aad060a88f
@[go_sem] def aJ3:=k 0x5372e4d1e2d8b583a8abc0175fb0628c4f
@[go_sem] def aJ4:=k 0x2f0d74075be77cecf
def A9:TF:=⟨212,[.t 8,.t 9],(.seq (.reg aVp) (.seq (.reg aVq) (.seq (.reg aVr) (.seq (.reg aVs) (.seq (.seq (.reg aVt) (.cond (.t 34) (.dreg aVu) .skip)) (.seq (.seq (.reg aVv) (.cond (.t 42) (.dreg aVw) .skip)) (.seq (.seq (.reg aVx) (.cond (.t 50) (.dreg aVy) .skip)) (.seq (.reg aJm) (.seq (.seq (.reg aJn) (.block 0 (.seq (.reg aJo) (.cond (.t 72) (.dreg aJp) (.seq (.reg aJq) (.cond (.t 78) (.dreg aJr) (.seq (.reg aJs) (.cond (.t 85) (.dreg aJt) (.seq (.reg aJu) (.cond (.t 92) (.dreg aJv) (.seq (.reg aJw) (.cond (.t 99) (.seq (.seq (.reg aJx) (.cond (.t 102) (.seq (.reg aJy) .ret) .skip)) (.dreg aJz)) (.seq (.seq (.reg aJA) (.cond (.t 108) .skip (.reg aJB))) (.cond (.t 108) (.seq (.reg aJC) (.seq (.seq (.reg aJD) (.cond (.t 117) (.seq (.reg aJE) .ret) .skip)) (.seq (.reg aJF) (.cond (.t 120) (.dreg aJG) (.dreg aJH))))) (.seq (.reg aJI) (.cond (.t 136) (.reg aJJ) (.seq (.reg aJK) (.cond (.t 141) (.seq (.reg aJL) (.cond (.t 144) (.reg aJM) .skip)) (.seq (.reg aJN) (.cond (.t 148) (.reg aJO) (.seq (.reg aJP) (.cond (.t 161) (.seq (.seq (.dreg aJQ) (.cond (.t 172) (.dreg aJR) .skip)) (.reg aJS)) (.seq (.reg aJT) (.cond (.t 185) (.dreg aJU) (.seq (.reg aJV) (.cond (.t 194) (.reg aJW) (.seq (.reg aJX) (.seq (.seq (.reg aJY) (.cond (.t 69) (.seq (.reg aJZ) .ret) .skip)) (.reg aJ0))))))))))))))))))))))))))))) (.seq (.seq (.reg aJ1) (.cond (.t 200) (.reg aJ2) .skip)) (.seq (.reg aJ3) (.seq (.reg aJ4) .ret))))))))))))⟩
/-! (*horarium/horariumref15.Part).fault -/
@[go_sem] def aVz:=k 0xb2104
@[go_sem] def aVA:=kd 0x5dfdd4877f96178e8eebfd79548cf756dd8c8a6c580c308c7eb0a72cbe9078cb330d7b934ed8870eae78093baad1996c8bf1f911d2175eb6c
@[go_sem] def aVB:=kd 0x28218ca09e1e92b59863d07cfba6724808e4e7c0de03047d9881bf7b2b384633e9a3897416544c5a6f72a76a6d
@[go_sem] def aVC:=k 0x11b9ca42413f685
@[go_sem] def aVD:=kd 0x9d4ea15fc8da616656b4b19d6d6ad535fa3dcd5942031bbbbc85965f6fbc6301bb23562d
@[go_sem] def aVE:=k 0x16f6d02382c36a5
@[go_sem] def aVF:=k 0x17063a245f2d
@[go_sem] def aVG:=k 0x6b82bca46724890cc8b3ed
def QO:TF:=⟨60,[],(.seq (.reg aVz) (.seq (.dreg aVA) (.seq (.dreg aVB) (.block 0 (.seq (.reg aVC) (.cond (.t 43) (.dreg aVD) (.seq (.reg aVE) (.cond (.t 56) (.reg aVF) (.reg aVG)))))))))⟩
/-! horarium/horariumlaw19.faults -/
@[go_sem] def aVH:=k 0x15d88
@[go_sem] def aVI:=k 0x171a63c443d16bb21fdedfeac
@[go_sem] def aVJ:=k 0x15d88
@[go_sem] def aVK:=k 0x174f31e391cc
@[go_sem] def aVL:=k 0x10ddf3d8
@[go_sem] def aVM:=k 0x3023ac8f584c
@[go_sem] def aVN:=kd 0x157c6e67197f9f351f4c6fa59d21cf294b776b3448e22339b1eb65a3e696b3a4259ae9764cf773db31ff5cfeb2bdb21f15d935f318fa54023edf2aa76000d67fdf6904836c4dbece733d472b55aebc7c7d2ecbea327454f3cf909968c52593046c7f468046d
@[go_sem] def aVO:=k 0x15d88
@[go_sem] def aVP:=k 0x151c4c0e926f42d
def aAi:TC:=(.seq (.reg aVL) (.seq (.cond (.t 14) .skip (.exit 0)) (.seq (.block 1 (.seq (.reg aVM) (.seq (.dreg aVN) (.cond (.t 52) (.seq (.reg aVO) .ret) .skip)))) (.reg aVP))))
@[go_sem] def aJ5:=k 0x15dd8
def QP:TF:=⟨54,[.t 4],(.seq (.reg aVH) (.seq (.seq (.reg aVI) (.cond (.t 10) (.seq (.reg aVJ) .ret) .skip)) (.seq (.seq (.reg aVK) (.block 0 (.loop aAi))) (.seq (.reg aJ5) .ret))))⟩
/-! horarium/horariumref3.Right -/
@[go_sem] def aVQ:=k 0xbc3c
@[go_sem] def aVR:=k 0x18217718209ae0c
@[go_sem] def aVS:=k 0x1ef83c
@[go_sem] def aVT:=k 0x47f94b4f34e29fec
@[go_sem] def aVU:=k 0x79ac3c
@[go_sem] def aVV:=k 0x63f6da8b768f91cc
@[go_sem] def aVW:=k 0x8dd43c
@[go_sem] def aVX:=k 0x5aa3b39ed97ba6f4d42fb55b824ba5eed44c
@[go_sem] def aVY:=k 0x1e28ccc66cc
@[go_sem] def aVZ:=k 0xb6243c
@[go_sem] def aJ6:=k 0xbc3c
def QQ:TF:=⟨21,[.t 2],(.seq (.reg aVQ) (.seq (.seq (.reg aVR) (.cond (.t 7) (.seq (.reg aVS) .ret) .skip)) (.seq (.seq (.reg aVT) (.cond (.t 10) (.seq (.reg aVU) .ret) .skip)) (.seq (.seq (.reg aVV) (.cond (.t 13) (.seq (.reg aVW) .ret) .skip)) (.seq (.seq (.reg aVX) (.seq (.reg aVY) (.cond (.t 20) (.seq (.reg aVZ) .ret) .skip))) (.seq (.reg aJ6) .ret))))))⟩
/-! horarium/horariumref3.Tidy -/
@[go_sem] def aV0:=k 0xbc74
@[go_sem] def aV1:=k 0x10d14
@[go_sem] def aV2:=k 0x16e9a0524f4c
@[go_sem] def aV3:=k 0xbaa6158
@[go_sem] def aV4:=k 0xd972a772f07be5e8fc640
@[go_sem] def aV5:=k 0x718a9daa7cca6f0c
@[go_sem] def aV6:=k 0x1006828ed7a689b850
@[go_sem] def aV7:=kd 0x16161814ddadb8efbbf39cefef6a79accbda7f18f7d54a7908a47c50625082001726dec
@[go_sem] def aV8:=kd 0x3ee4caf77516682f8b16ded56e17d49ad38930cde81c765a7a0fd57914a59c8198b29223e197033d6e9c8f3ad
@[go_sem] def aV9:=k 0x987639a50f0ccae3ac959b96bf0d
@[go_sem] def aJ7:=k 0x137facb44fdb1ad
def XN:TC:=(.seq (.reg aV3) (.seq (.cond (.t 10) .skip (.exit 0)) (.seq (.block 1 (.seq (.reg aV4) (.seq (.reg aV5) (.seq (.seq (.reg aV6) (.cond (.t 17) (.exit 1) .skip)) (.seq (.dreg aV7) (.cond (.t 30) (.dreg aV8) (.reg aV9))))))) (.reg aJ7))))
@[go_sem] def aJ8:=k 0x4f68895ba522d
def QR:TF:=⟨51,[.t 2],(.seq (.reg aV0) (.seq (.reg aV1) (.seq (.seq (.reg aV2) (.block 0 (.loop XN))) (.seq (.reg aJ8) .ret))))⟩
/-! horarium/horariumref3.Leaves -/
@[go_sem] def aWa:=k 0xbc74
@[go_sem] def aWb:=k 0x412491f78a1518ccc
def QS:TF:=⟨5,[.t 2],(.seq (.reg aWa) (.seq (.reg aWb) .ret))⟩
/-! horarium/horariumref3.Sum -/
@[go_sem] def aWc:=k 0x15d7c
@[go_sem] def aWd:=k 0xffd490934098c298d9197e286f02e0c
@[go_sem] def aWe:=k 0xbc45ab14d19046ae708c
@[go_sem] def aWf:=k 0x16038
@[go_sem] def aWg:=k 0x261ebea330fc212aafb30c
def QT:TF:=⟨16,[.t 4],(.seq (.reg aWc) (.seq (.reg aWd) (.seq (.seq (.reg aWe) (.cond (.t 12) (.seq (.reg aWf) .ret) .skip)) (.seq (.reg aWg) .ret))))⟩
/-! horarium/horariumref7.words -/
@[go_sem] def aWh:=k 0xbc74
@[go_sem] def aWi:=k 0x10d14
@[go_sem] def aWj:=k 0x16e9a0524f4c
@[go_sem] def aWk:=k 0xbaa6158
@[go_sem] def aWl:=k 0xd972a772f07be5e8fc640
@[go_sem] def aWm:=k 0x1febc
@[go_sem] def aWn:=k 0x466c0cdaf595620a942dd4574d3c1405d7004e57beab0c
@[go_sem] def aWo:=k 0x382ab2a58d4b4801baaf5f014b23e5ec
@[go_sem] def aWp:=k 0x1730799048b58300ac
def aAj:TC:=(.seq (.seq (.reg aWn) (.cond (.t 21) .skip (.exit 2))) (.seq (.block 3 (.reg aWo)) (.reg aWp)))
@[go_sem] def aJ9:=k 0xb9f1d9e59d12c
def XO:TC:=(.seq (.reg aWk) (.seq (.cond (.t 10) .skip (.exit 0)) (.seq (.block 1 (.seq (.reg aWl) (.seq (.reg aWm) (.block 2 (.loop aAj))))) (.reg aJ9))))
@[go_sem] def aKa:=k 0x5f73ba8349ac
def QU:TF:=⟨31,[.t 2],(.seq (.reg aWh) (.seq (.reg aWi) (.seq (.seq (.reg aWj) (.block 0 (.loop XO))) (.seq (.reg aKa) .ret))))⟩
/-! horarium/horariumref12.Where -/
@[go_sem] def aWq:=k 0x1637e051ebc4
@[go_sem] def aWr:=k 0x1844993fc66a058d79c848061520faeac3a35db57c0c60711d8ca6f337e095c31ba42cd106e3519e3023acaa7475163e61865b6317140787fcf74847de2961052c6b30bfde3eb039e4e17c8c994cf1
@[go_sem] def aWs:=k 0x8f0783c
@[go_sem] def aWt:=k 0xf668dd57d77ca21e71
@[go_sem] def aWu:=k 0xf0846919
@[go_sem] def aWv:=k 0x173679fad39cdd9b95ddddb3afed68e18d
@[go_sem] def aWw:=k 0x8803b6dcf926499cf54371
@[go_sem] def aWx:=k 0x1bfd6d83d9fdf85ded
@[go_sem] def aWy:=k 0x1febc
@[go_sem] def aWz:=k 0x1cf14342a60de8fe8d
@[go_sem] def aKb:=kd 0x38a8ccd079e0bf15728bc4b015497f8540bd06dac4f2e0c34dcaff5a6
@[go_sem] def aKc:=k 0x237cb6e34f3670fb74e
@[go_sem] def aKd:=k 0x7a2718d70a03989f06d
def XP:TC:=(.seq (.seq (.reg aWz) (.cond (.t 59) .skip (.exit 2))) (.seq (.block 3 (.seq (.dreg aKb) (.cond (.t 70) (.seq (.reg aKc) .ret) .skip))) (.reg aKd)))
@[go_sem] def aKe:=k 0x48fa1ac443c6058b2
@[go_sem] def aKf:=k 0x257c866fa168710f9ce
@[go_sem] def aKg:=k 0x1e4cc60b2f985a8e
def XQ:TC:=(.seq (.reg aWu) (.seq (.cond (.t 48) .skip (.exit 0)) (.seq (.block 1 (.seq (.reg aWv) (.seq (.seq (.reg aWw) (.cond (.t 55) (.seq (.reg aWx) .ret) .skip)) (.seq (.seq (.reg aWy) (.block 2 (.loop XP))) (.seq (.reg aKe) (.cond (.t 74) (.seq (.reg aKf) .ret) .skip)))))) (.reg aKg))))
@[go_sem] def aKh:=k 0x1e6d2147f1431868ab12
@[go_sem] def aKi:=k 0x6590a4dba
@[go_sem] def aKj:=k 0x453da86600b35f403e65e92cda5ce6f2ee2e
@[go_sem] def aKk:=k 0x58f02a7deeb0583bf519e975866983d60ae
@[go_sem] def aKl:=k 0x2d7bc47ad39a78ef3ce
@[go_sem] def aKm:=k 0x24c00e94e8c5648e
def XR:TC:=(.seq (.reg aKi) (.seq (.cond (.t 81) .skip (.exit 4)) (.seq (.block 5 (.seq (.reg aKj) (.seq (.reg aKk) (.cond (.t 90) (.seq (.reg aKl) .ret) .skip)))) (.reg aKm))))
@[go_sem] def aKn:=k 0x1eed15348b752c95b512
@[go_sem] def aKo:=k 0x79e1457ba
@[go_sem] def aKp:=k 0x9ea4b44529bbbaa926329169bcf82e
@[go_sem] def aKq:=k 0x210b6ba692d0a162fb4471f9cc3f61e7a2bdcb5aae
@[go_sem] def aKr:=k 0x541c8e7c6d3d2e
@[go_sem] def aKs:=k 0x2250eee038b359ab16bdde6e
@[go_sem] def aKt:=k 0x63c88b29e2fae
@[go_sem] def aKu:=k 0x8e31e61ba
@[go_sem] def aKv:=k 0x258954679ff59f7fbf2f702a2
@[go_sem] def aKw:=k 0x3aecd63d59bd1d5d101b1955050dce6590372
@[go_sem] def aKx:=k 0x3cfa4c8b39687e9572e
@[go_sem] def aKy:=k 0x3126136b6dcf27ee
def XS:TC:=(.seq (.reg aKu) (.seq (.cond (.t 113) .skip (.exit 8)) (.seq (.block 9 (.seq (.reg aKv) (.seq (.reg aKw) (.cond (.t 121) (.seq (.reg aKx) .ret) .skip)))) (.reg aKy))))
@[go_sem] def aKz:=k 0x13da52b039f5a13ac2818778c2
@[go_sem] def aKA:=k 0x19319b6bb01ada4f
@[go_sem] def aKB:=k 0xa3b5b07b26994abd23551b7b8f
@[go_sem] def aKC:=k 0x340c98f09ff0ca9cef
def XT:TC:=(.seq (.reg aKo) (.seq (.cond (.t 97) .skip (.exit 6)) (.seq (.block 7 (.seq (.reg aKp) (.seq (.reg aKq) (.seq (.seq (.reg aKr) (.cond (.t 107) (.seq (.reg aKs) .ret) .skip)) (.seq (.seq (.reg aKt) (.block 8 (.loop XS))) (.seq (.reg aKz) (.seq (.reg aKA) (.cond (.t 128) (.seq (.reg aKB) .ret) .skip)))))))) (.reg aKC))))
@[go_sem] def aKD:=k 0x376ebc3c
def QV:TF:=⟨132,[.t 2,.t 3],(.seq (.reg aWq) (.seq (.seq (.reg aWr) (.cond (.t 43) (.seq (.reg aWs) .ret) .skip)) (.seq (.seq (.reg aWt) (.block 0 (.loop XQ))) (.seq (.seq (.reg aKh) (.block 4 (.loop XR))) (.seq (.seq (.reg aKn) (.block 6 (.loop XT))) (.seq (.reg aKD) .ret))))))⟩
/-! horarium/config.Name -/
@[go_sem] def aWA:=k 0xbc48
@[go_sem] def aWB:=k 0x16d09197feac
@[go_sem] def aWC:=k 0xa5d7cb8
@[go_sem] def aWD:=k 0x20122513612c
@[go_sem] def aWE:=k 0x211538c62504d1637711cc
@[go_sem] def aWF:=k 0x6082bb86d2fc39ac2e427de52c30c28453ac
@[go_sem] def aWG:=k 0x1683328c3b7cea1f8e14e6f39a4abf67282a32e619a52ce68ceb3c60317a3e37a7831a91b876693d2c858850593657d10732f6d
@[go_sem] def aWH:=k 0xbc48
@[go_sem] def aWI:=k 0xf20d53dbf03acd
def aAk:TC:=(.seq (.reg aWC) (.seq (.cond (.t 9) .skip (.exit 0)) (.seq (.block 1 (.seq (.reg aWD) (.seq (.reg aWE) (.seq (.reg aWF) (.seq (.reg aWG) (.cond (.t 37) (.seq (.reg aWH) .ret) .skip)))))) (.reg aWI))))
@[go_sem] def aKE:=k 0x5bf884178b2a43e0e9d3cab0eeeba1a92b3a1abb88f93f4634d
def QW:TF:=⟨47,[.t 2],(.seq (.reg aWA) (.seq (.seq (.reg aWB) (.block 0 (.loop aAk))) (.seq (.reg aKE) .ret)))⟩
/-! slices.ContainsFunc[[]horarium/api.Part,horarium/api.Part] -/
@[go_sem] def aWJ:=k 0x15d88
@[go_sem] def aWK:=k 0x673ff8d83c1f88fa4bffc2d2e0c
def QX:TF:=⟨9,[.t 4],(.seq (.reg aWJ) (.seq (.reg aWK) .ret))⟩
/-! horarium/config.Where$1 -/
@[go_sem] def aWL:=k 0xc99bc64
@[go_sem] def aWM:=k 0x20648bb84169456fc613122f7bba58570
def QY:TF:=⟨9,[.t 3],(.seq (.reg aWL) (.seq (.reg aWM) .ret))⟩
/-! horarium/config.part -/
@[go_sem] def aWN:=k 0xc996bc4
@[go_sem] def aWO:=k 0x2da14970b12b0
@[go_sem] def aWP:=k 0xa4954c8
@[go_sem] def aWQ:=k 0x405712d9563fc
@[go_sem] def aWR:=k 0x35d5e0c9bf91181832d95b93cd058e1cc
@[go_sem] def aWS:=k 0xbc48
@[go_sem] def aWT:=k 0x6d91e509389ac
def aAl:TC:=(.seq (.reg aWP) (.seq (.cond (.t 9) .skip (.exit 0)) (.seq (.block 1 (.seq (.reg aWQ) (.seq (.reg aWR) (.cond (.t 16) (.seq (.reg aWS) .ret) .skip)))) (.reg aWT))))
@[go_sem] def aWU:=k 0x32470bbecaf6f745df2beabf11fbb70524bb0035b0bbe25a30
@[go_sem] def aWV:=k 0x29f1da70f5bc634de8d58b627f218e8ded6581c9d5585b04ce6b2e6b2e69f74248139fcb1c2f134086d330f701d7121771a400827082a7cf17c434822f9bcec3fd8c09d3205df9a1a36e6a9c8608a615818dce7331
def QZ:TF:=⟨54,[.t 2],(.seq (.reg aWN) (.seq (.seq (.reg aWO) (.block 0 (.loop aAl))) (.seq (.reg aWU) (.seq (.reg aWV) .ret))))⟩
/-! horarium/config.channel -/
@[go_sem] def aWW:=k 0x1fd6f6cf3c64
@[go_sem] def aWX:=k 0x8d32e1c
@[go_sem] def aWY:=k 0x19653035dbf0
@[go_sem] def aWZ:=k 0xcb2bfd421c
@[go_sem] def aW0:=k 0xa7e588038e4f2b26a9a46a76930
@[go_sem] def aW1:=k 0x94c96fa4ced52eee9a71c84a95ab2e123b9846b4e3e63d9a4dcfa1f612a88bfd5e6a62289af5212c475d308a771e319dfb2a98bba65bff87ac36d0efa3100bcb93dc817d76461fb777a9a30c8bba2d139939105518093daae7f30bbe83e26c4c0fbb1
def Q0:TF:=⟨48,[.t 4],(.seq (.reg aWW) (.seq (.reg aWX) (.seq (.seq (.reg aWY) (.cond (.t 9) (.reg aWZ) .skip)) (.seq (.reg aW0) (.seq (.reg aW1) .ret)))))⟩
/-! horarium/config.table -/
@[go_sem] def aW2:=k 0x6e112e3c64
@[go_sem] def aW3:=k 0x37645440ac2769bf9efc5e1ffe94ce2033ec
@[go_sem] def aW4:=k 0x2616c9e6da6c
@[go_sem] def aW5:=k 0x2cddbb647bac
@[go_sem] def aW6:=k 0x7bf8fa6a8235384c
@[go_sem] def aW7:=k 0xa29d7c
@[go_sem] def aW8:=k 0x32b68d4bd4c49cbcd56e80
def Q4:TF:=⟨21,[.t 4],(.seq (.reg aW2) (.seq (.reg aW3) (.seq (.seq (.reg aW4) (.cond (.t 13) (.seq (.reg aW5) .ret) .skip)) (.seq (.seq (.reg aW6) (.cond (.t 17) (.seq (.reg aW7) .ret) .skip)) (.seq (.reg aW8) .ret)))))⟩
/-! container/heap.up -/
@[go_sem] def aW9:=k 0x23f14e6c04edd9baea6c20c
@[go_sem] def aXa:=k 0xe78a923388a0fbddac4c4bba6f401e81140596d331ac7d66fec
@[go_sem] def aXb:=k 0x2ee1257fec8595aedd462c
@[go_sem] def aXc:=k 0x45f5f226d8ac
def TZ:TC:=(.block 1 (.seq (.reg aW9) (.seq (.seq (.reg aXa) (.cond (.t 17) (.exit 0) .skip)) (.seq (.reg aXb) (.reg aXc)))))
def LX:TF:=⟨23,[],(.block 0 (.loop TZ))⟩
/-! container/heap.down -/
@[go_sem] def aXd:=k 0x1fec8
@[go_sem] def aXe:=k 0x23a442dd25cc
@[go_sem] def aXf:=k 0x47d5282ce5c7e59e17fee6c
@[go_sem] def aXg:=k 0xbb91280c85605803cb112742fa022c264f44c
@[go_sem] def aXh:=k 0x46c1156f28ac
@[go_sem] def aXi:=k 0x18505e4b3f4217794c
@[go_sem] def aXj:=k 0x38efd39962dfadbc02c6bd5694c9f1e671aa837f2e6eb0f8a8d
@[go_sem] def aXk:=k 0x363095132602d
@[go_sem] def aXl:=k 0x7894aa670d78c8c2054cb93920cd
@[go_sem] def aXm:=k 0x199887b2185b9b98d61ab3ed
@[go_sem] def aKF:=k 0x4602a16015e6d
def JT:TC:=(.block 1 (.seq (.reg aXf) (.seq (.seq (.reg aXg) (.cond (.t 21) (.exit 0) .skip)) (.seq (.reg aXh) (.seq (.seq (.reg aXi) (.seq (.reg aXj) (.cond (.t 33) (.reg aXk) .skip))) (.seq (.seq (.reg aXl) (.cond (.t 39) (.exit 0) .skip)) (.seq (.reg aXm) (.reg aKF))))))))
@[go_sem] def aKG:=k 0x1da7e6059b81311241495f0d
def Ib:TF:=⟨48,[.t 6],(.seq (.reg aXd) (.seq (.reg aXe) (.seq (.block 0 (.loop JT)) (.seq (.reg aKG) .ret))))⟩
/-! (*horarium/proc.Table).is -/
@[go_sem] def aXo:=k 0x15d88
@[go_sem] def aXp:=k 0xf1cf0952a4a23a768ade0545f9d244ca5f0c2b9a44fe3c62e61da9960c20c
def Q5:TF:=⟨16,[.t 4],(.seq (.reg aXo) (.seq (.reg aXp) .ret))⟩
/-! (*horarium/part.Part).channel -/
@[go_sem] def aXq:=k 0x1fec8
@[go_sem] def aXr:=k 0x6b0bed7d6321325f6d7e20375bcc461ce2d433ec
@[go_sem] def aXs:=k 0x1fec8
@[go_sem] def aXt:=k 0x4dea8c256ce31eaf3df3ac03472d0968ad1d07af77b3d424ec
@[go_sem] def aXu:=kd 0x134cfcee1c27a8c69a45b17182fd67d00dba91f6b86eadbdada151cc3f924275d1eddc0c19283d4d022f646dd9a69653aff1ccf972b4a8e1ae2aa13764b5e55861f9ca6d
def Gp:TF:=⟨47,[.t 6],(.seq (.reg aXq) (.seq (.seq (.reg aXr) (.cond (.t 15) (.seq (.reg aXs) .ret) .skip)) (.seq (.reg aXt) (.seq (.dreg aXu) .ret))))⟩
/-! (*horarium/health.Log).action -/
@[go_sem] def aXv:=k 0x15d7c
@[go_sem] def aXw:=k 0x2139c8b3d5ac521f791608ffef61d12ac
@[go_sem] def aXx:=k 0x15857c
@[go_sem] def aXy:=k 0x1ccf3306cd987ecad58bee58bfd8694aa9ef2f626c
@[go_sem] def aXz:=k 0x56cfa0ee50e0ad3422a0abe95290efacc
@[go_sem] def aXA:=k 0x4fc7c4ddde8c
@[go_sem] def aXB:=k 0x15857c
def Ea:TF:=⟨26,[.t 4],(.seq (.reg aXv) (.seq (.seq (.reg aXw) (.cond (.t 11) (.seq (.reg aXx) .ret) .skip)) (.seq (.seq (.reg aXy) (.seq (.reg aXz) (.cond (.t 24) (.seq (.reg aXA) .ret) .skip))) (.seq (.reg aXB) .ret))))⟩
/-! slices.Clone[[]horarium/health.Fault,horarium/health.Fault] -/
@[go_sem] def aXC:=k 0xbc74
@[go_sem] def aXD:=k 0x4c8a660ccc
@[go_sem] def aXE:=k 0xbc74
@[go_sem] def aXF:=k 0x8e82d804d5d55adfeac4
def Ic:TF:=⟨8,[.t 2],(.seq (.reg aXC) (.seq (.seq (.reg aXD) (.cond (.t 4) (.seq (.reg aXE) .ret) .skip)) (.seq (.reg aXF) .ret)))⟩
/-! horarium/horariumref15.regs -/
@[go_sem] def aXG:=k 0x7efc4c448
@[go_sem] def aXH:=k 0x1ae0c
@[go_sem] def aXI:=k 0x2db1593c8e364
@[go_sem] def aXJ:=k 0x340a72419d404
@[go_sem] def aXK:=k 0x3a638b42438a4
@[go_sem] def aXL:=k 0x40bca4442c544
@[go_sem] def aXM:=k 0x4715bd44d29e4
@[go_sem] def aXN:=k 0x4d6ed64578e84
@[go_sem] def aXO:=k 0x7efc4c498
@[go_sem] def aXP:=k 0x5b8485b552bc4
@[go_sem] def aKH:=k 0x61dd9eb5f9064
@[go_sem] def aKI:=k 0x6836b7b69f504
@[go_sem] def aKJ:=k 0x6e8fd0b7459a4
@[go_sem] def aKK:=k 0x17cf4cd498
@[go_sem] def aKL:=k 0x7c3fee9ff0ee4
@[go_sem] def aKM:=k 0x829907a097384
@[go_sem] def aKN:=k 0x7f08e5498
@[go_sem] def aKO:=k 0x8fe393fb264c4
@[go_sem] def aKP:=k 0x963cacfbcc964
@[go_sem] def aKQ:=k 0x7f08e5448
@[go_sem] def aKR:=k 0x7efc4c448
def Q6:TF:=⟨24,[.t 2,.t 3,.t 4],(.seq (.reg aXG) (.seq (.seq (.reg aXH) (.block 0 (.seq (.seq (.reg aXI) (.cond (.t 6) .skip (.seq (.reg aXJ) (.cond (.t 6) .skip (.seq (.reg aXK) (.cond (.t 6) .skip (.seq (.reg aXL) (.cond (.t 6) .skip (.seq (.reg aXM) (.cond (.t 6) .skip (.reg aXN))))))))))) (.cond (.t 6) (.seq (.reg aXO) .ret) (.seq (.seq (.reg aXP) (.cond (.t 13) .skip (.seq (.reg aKH) (.cond (.t 13) .skip (.seq (.reg aKI) (.cond (.t 13) .skip (.reg aKJ))))))) (.cond (.t 13) (.seq (.reg aKK) .ret) (.seq (.seq (.reg aKL) (.cond (.t 18) .skip (.reg aKM))) (.cond (.t 18) (.seq (.reg aKN) .ret) (.seq (.seq (.reg aKO) (.cond (.t 21) .skip (.reg aKP))) (.cond (.t 21) (.seq (.reg aKQ) .ret) .skip)))))))))) (.seq (.reg aKR) .ret)))⟩
/-! horarium/horariumref15.Imm -/
@[go_sem] def aXQ:=k 0x17efebc4
@[go_sem] def aXR:=k 0xe635fd9dc3cdf623a08ef6bd00c85c39871a020d0
def Q7:TF:=⟨10,[.t 2],(.seq (.reg aXQ) (.seq (.reg aXR) .ret))⟩
/-! (*horarium/horariumref15.Part).call -/
@[go_sem] def aXS:=k 0x170b8971a6e4
@[go_sem] def aXT:=k 0x2943ec50ab10
@[go_sem] def aXU:=k 0x689c4a0070104
@[go_sem] def aXV:=kd 0x46ce37718bfe93dc6e999240a7a2b4df3f21c12387793c6a7bbaebce743c9d5d0d960730baa2f16c90aeaae5fee3b8951af7235834311ebcb5bb1559daae3ee19ba3b37421a97e5
@[go_sem] def aXW:=k 0x3f7f8cc2c
@[go_sem] def aXX:=kd 0x82f3a774a9f65fcf89060248689945200a2cf370337acad
@[go_sem] def aXY:=kd 0x9afde56a3ce7abc39e840a2ffd3c235e29f9d555d834235b95908b23db2c4c6d676798749307fa5ed
@[go_sem] def aXZ:=k 0x32994dafab31ad
@[go_sem] def aX0:=k 0x1996a57a98280306
@[go_sem] def aX1:=kd 0x634338f485cb601c783bf2acca535d1bd132b9d0cbf245abbcfcfc3d19bb1b2863211fdaa50028c3e9888e0f9a58b1e0d1d0f3900968b11604ad54c13da40009cb8352afbdcb749574c061be6
@[go_sem] def aKS:=k 0x3f7f8cc2c
@[go_sem] def aKT:=kd 0x1d93378a6ba00b5248c385fc76c4ce536031afdc053f2831d8710cfda1b2a5d6e65740f11b6d6e
@[go_sem] def aKU:=k 0xa0506a8baa0e
@[go_sem] def aKV:=kd 0x1eb6a7d7dc1f8aa7a4a7033b06321b197dee3eb456063642059ae
@[go_sem] def aKW:=k 0x3964ca3ad0b720c71e16b57fdd69447c30fae
@[go_sem] def aKX:=k 0x32248f13d17c2ce
@[go_sem] def aKY:=k 0x2ec7d69038b1a426
@[go_sem] def aKZ:=kd 0x21528cbb326b769359dbdcf820a5146fb541efe7f39eec2fc60995c3cc21a5152cd5cadbe67ada2f51cbcb1639b9368257a9a606ade0b8a1eb89ba0a4e72d8ef
@[go_sem] def aK0:=k 0x1d1085e0d3db410ce593ec46462724ea1184bcbdf4f
@[go_sem] def aK1:=k 0x380d031298ad408327
@[go_sem] def aK2:=kd 0xeea2568af7512bbeb00137e6c72c67130dd83d4b75b907d5a5a27b22cb6c1518a18c9ba0a5b250aef
@[go_sem] def aK3:=k 0x1d327f7015a276b0b5e4c141cb66bdf4402efd139ef
@[go_sem] def aK4:=k 0x492c2c
def CC:TF:=⟨157,[.t 8,.t 9],(.seq (.reg aXS) (.seq (.seq (.reg aXT) (.block 0 (.seq (.reg aXU) (.cond (.t 15) (.seq (.seq (.dreg aXV) (.cond (.t 42) (.seq (.reg aXW) .ret) .skip)) (.seq (.dreg aXX) (.seq (.dreg aXY) (.seq (.reg aXZ) .ret)))) (.seq (.reg aX0) (.cond (.t 63) (.seq (.seq (.dreg aX1) (.cond (.t 90) (.seq (.reg aKS) .ret) .skip)) (.seq (.dreg aKT) (.seq (.seq (.reg aKU) (.cond (.t 102) (.dreg aKV) .skip)) (.seq (.reg aKW) (.seq (.reg aKX) .ret))))) (.seq (.reg aKY) (.cond (.t 116) (.seq (.dreg aKZ) (.seq (.reg aK0) .ret)) (.seq (.reg aK1) (.cond (.t 140) (.seq (.dreg aK2) (.seq (.reg aK3) .ret)) .skip)))))))))) (.seq (.reg aK4) .ret)))⟩
/-! horarium/horariumref3.Depth -/
@[go_sem] def aX2:=k 0xbc3c
@[go_sem] def aX3:=k 0x7fb9d6db42867df37c4d1d525208e19f94c4ff35ec727c10ccc
@[go_sem] def aX4:=k 0xbc3c
@[go_sem] def aX5:=k 0xe1156bd563b4e330c
def Q8:TF:=⟨15,[.t 2],(.seq (.reg aX2) (.seq (.seq (.reg aX3) (.cond (.t 12) (.seq (.reg aX4) .ret) .skip)) (.seq (.reg aX5) .ret)))⟩
/-! horarium/horariumref3.Length -/
@[go_sem] def aX6:=k 0xc99bc3c
@[go_sem] def aX7:=k 0x2ffb910787b5ae0c
@[go_sem] def aX8:=k 0xc99bc3c
@[go_sem] def aX9:=k 0x921ce6a647e0f1fec
@[go_sem] def aYa:=k 0xfed664912c
@[go_sem] def aYb:=k 0xc99bc3c
@[go_sem] def aYc:=k 0xc0d60b987b26c
def Q9:TF:=⟨13,[.t 2,.t 3],(.seq (.reg aX6) (.seq (.seq (.reg aX7) (.cond (.t 7) (.seq (.reg aX8) .ret) .skip)) (.seq (.reg aX9) (.seq (.seq (.reg aYa) (.cond (.t 11) (.seq (.reg aYb) .ret) .skip)) (.seq (.reg aYc) .ret)))))⟩
/-! horarium/horariumref3.leaves -/
@[go_sem] def aYd:=k 0x1fef4
@[go_sem] def aYe:=k 0x528007a41ae82c179a83aec12c
@[go_sem] def aYf:=k 0x689c49fa23904
@[go_sem] def aYg:=kd 0x11dafa11596c1cce367a8f0c763835c8a64adb87b8334157acfc81580e306363b1c1cf888c3591fa12c
@[go_sem] def aYh:=k 0xce3ec2f63e7f05
@[go_sem] def aYi:=k 0x676f6b0ccffe250fab27cbd1551e6b2ea0c82771d83644db50cf8d
@[go_sem] def aYj:=k 0x1152a26426a45e5
@[go_sem] def aYk:=k 0x24f5c
@[go_sem] def aYl:=k 0x385a3efd5fe7f4ae9d9a9bfcf5a1d04dbb90e6d
@[go_sem] def aYm:=k 0x38fe884155add4df6a2c481430258cbecc0d
@[go_sem] def aK5:=k 0x6830cc8a200b59b42cd
def XU:TC:=(.seq (.seq (.reg aYl) (.cond (.t 50) .skip (.exit 1))) (.seq (.block 2 (.reg aYm)) (.reg aK5)))
@[go_sem] def aK6:=k 0x5c341fbe8af2d
@[go_sem] def aK7:=k 0x501f8a1b840db264cc0afcd
@[go_sem] def aK8:=k 0x4ffafa31a
@[go_sem] def aK9:=k 0x10831a2cabad25b8843c2
@[go_sem] def aLa:=k 0x378a0ba2b3de98d6059a232c14cd34ce
@[go_sem] def aLb:=k 0x1c5da06e7216c76e
def XV:TC:=(.seq (.reg aK8) (.seq (.cond (.t 64) .skip (.exit 3)) (.seq (.block 4 (.seq (.reg aK9) (.reg aLa))) (.reg aLb))))
@[go_sem] def aLc:=k 0x392bee4f1f67ee
def Id:TF:=⟨73,[.t 6],(.seq (.reg aYd) (.seq (.seq (.reg aYe) (.block 0 (.seq (.reg aYf) (.cond (.t 15) (.seq (.dreg aYg) .ret) (.seq (.reg aYh) (.cond (.t 31) (.seq (.reg aYi) .ret) (.seq (.reg aYj) (.cond (.t 42) (.seq (.seq (.reg aYk) (.block 1 (.loop XU))) (.seq (.reg aK6) .ret)) .skip)))))))) (.seq (.seq (.reg aK7) (.block 3 (.loop XV))) (.seq (.reg aLc) .ret))))⟩
/-! horarium/horariumref12.Name -/
@[go_sem] def aAM:=k 0xbc48
@[go_sem] def aAN:=k 0x10cdc
@[go_sem] def aAO:=k 0x69273a8447a071e76a0c
@[go_sem] def aAP:=k 0x2966877530a7f83f96981a9f5c2ae51b9c2c80830378aa0ec01e4c7a3407e142979cfec4135b11637711cc
@[go_sem] def aAQ:=k 0x25969e2598ff5c2c80573489a5971b46a9020b7a5e9c7042f7a2b1ef0f42aed0b5b072be9c6187f9fdb1167a87d057d69bcd
@[go_sem] def aAR:=k 0xbc48
@[go_sem] def aAS:=k 0xa19b6ef7a12e0ac8c
def Xf:TC:=(.seq (.seq (.reg aAO) (.cond (.t 8) .skip (.exit 0))) (.seq (.block 1 (.seq (.reg aAP) (.seq (.reg aAQ) (.cond (.t 44) (.seq (.reg aAR) .ret) .skip)))) (.reg aAS)))
@[go_sem] def aAT:=k 0x67f51b6d25fc4675c5c7d3b1557c5feeb6c344d5a60fd56470d
def KY:TF:=⟨53,[.t 2],(.seq (.reg aAM) (.seq (.seq (.reg aAN) (.block 0 (.loop Xf))) (.seq (.reg aAT) .ret)))⟩
/-! horarium/horariumref12.partRight -/
@[go_sem] def aAU:=k 0xc996bc4
@[go_sem] def aAV:=k 0x1cdd2ff71a6022b9ad3156b1c786a42ea4fad09c077d92768e350
@[go_sem] def aAW:=k 0xbc48
@[go_sem] def aAX:=k 0x78f4bfd17a46c0990
@[go_sem] def aAY:=k 0x19f83438
@[go_sem] def aAZ:=k 0xbf00a88114a29f65d9920
@[go_sem] def aA0:=k 0x258aa527a335ba53040bd6f9cda2c97a2a3fe996dbd349117f30867c749182aeb7d11fa203da4eb2943634e848f8f31acd849f1
@[go_sem] def aA1:=k 0xbc48
@[go_sem] def aA2:=k 0x10ca26cc8697d4d
def Xg:TC:=(.seq (.reg aAY) (.seq (.cond (.t 21) .skip (.exit 0)) (.seq (.block 1 (.seq (.reg aAZ) (.seq (.reg aA0) (.cond (.t 41) (.seq (.reg aA1) .ret) .skip)))) (.reg aA2))))
@[go_sem] def jH:=k 0x30b3fe8dddcdd1
@[go_sem] def jI:=k 0xe3355fe9
@[go_sem] def jJ:=k 0x12afc6cccd1f31d
@[go_sem] def jK:=k 0x32c662b61baa7e4cc84b8cf1cf861b3c28ed
@[go_sem] def jM:=k 0xbc48
@[go_sem] def jN:=k 0x15b4a670a6744cd
def TK:TC:=(.seq (.reg jI) (.seq (.cond (.t 46) .skip (.exit 2)) (.seq (.block 3 (.seq (.reg jJ) (.seq (.reg jK) (.cond (.t 53) (.seq (.reg jM) .ret) .skip)))) (.reg jN))))
@[go_sem] def jO:=k 0x5d7d709c914c27ff964c19fcd60659c2c71cc678cdaf9551
@[go_sem] def jQ:=k 0xbc98
@[go_sem] def jR:=k 0x147395dd2f6ce29a3d9d69541cfed358cb9d08c8495457801457aa0715ef261eeb98d83fea8dbf802d196fc46e5d3a338ae55dfc1ad1612dffc9d517758644252
def KZ:TF:=⟨83,[.t 2],(.seq (.reg aAU) (.seq (.seq (.reg aAV) (.cond (.t 16) (.seq (.reg aAW) .ret) .skip)) (.seq (.seq (.reg aAX) (.block 0 (.loop Xg))) (.seq (.seq (.reg jH) (.block 2 (.loop TK))) (.seq (.seq (.reg jO) (.cond (.t 62) (.seq (.reg jQ) .ret) .skip)) (.seq (.reg jR) .ret))))))⟩
/-! horarium/horariumref12.chanRight -/
@[go_sem] def aA3:=k 0x6e14f5bc64
@[go_sem] def aA4:=k 0x2f304dfe468225fb5b34d2f19ecbbefebce58b7a9cc35f7acf1ce97550662d1df53336e5e9ab9e541d88d57ed63a216d3acbbc9496ef2202c0e124f8e601b09a566d5b8d5d3387a6cfb78284bdf1aa04fa9c257a047cb31114afb8c37ab07d33a5bc49a1ebe40a9fe11
@[go_sem] def aA5:=k 0x15d88
@[go_sem] def aA6:=k 0x31ea40a2ec945804bf720cdd9cbf212a9bc28be55faaae6d63c63edf8195f2726d09e9555b675f2bf6ba4e8f6da6cb60372f6559c57c34905fdaafa6d0de5c1bec9a531
def K0:TF:=⟨64,[.t 4],(.seq (.reg aA3) (.seq (.seq (.reg aA4) (.cond (.t 41) (.seq (.reg aA5) .ret) .skip)) (.seq (.reg aA6) .ret)))⟩
/-! horarium/horariumref7.Holds -/
@[go_sem] def aA7:=k 0x6e112e3c64
@[go_sem] def aA8:=k 0x7575134ea47e9e930
@[go_sem] def aA9:=k 0x10ddf3d8
@[go_sem] def aBa:=k 0x106c86c236488fef5358e0
@[go_sem] def aBb:=k 0x1bfb9bcfff6e7485c767c6af9b1ba952f71898c
@[go_sem] def aBc:=k 0x215faec404bcfc736186851116e43e156bd56ebdca82668ae81a133cccec17f06449562324951
@[go_sem] def aBd:=k 0xc0d97c
@[go_sem] def aBe:=k 0xe5da17e921998d
def Xh:TC:=(.seq (.reg aA9) (.seq (.cond (.t 14) .skip (.exit 0)) (.seq (.block 1 (.seq (.reg aBa) (.seq (.reg aBb) (.seq (.reg aBc) (.cond (.t 35) (.seq (.reg aBd) .ret) .skip))))) (.reg aBe))))
@[go_sem] def aBf:=k 0xf2e93186c0c0b41211
@[go_sem] def jS:=k 0xccaf1cb9
@[go_sem] def jT:=k 0x26c3873abaeab4808eb9ce1fd235e9952d
@[go_sem] def jU:=kd 0x19d119e16e87bf70613ce453f5262fdceeec638aef0d39def960bce50dfc2b3a83cc88d67c0ce5
@[go_sem] def jV:=k 0xcaed7c
@[go_sem] def jW:=k 0x1742fd4fd36874d
def TL:TC:=(.seq (.reg jS) (.seq (.cond (.t 41) .skip (.exit 2)) (.seq (.block 3 (.seq (.reg jT) (.seq (.dreg jU) (.cond (.t 57) (.seq (.reg jV) .ret) .skip)))) (.reg jW))))
@[go_sem] def jX:=k 0x15d7c
def K2:TF:=⟨59,[.t 4],(.seq (.reg aA7) (.seq (.seq (.reg aA8) (.block 0 (.loop Xh))) (.seq (.seq (.reg aBf) (.block 2 (.loop TL))) (.seq (.reg jX) .ret))))⟩
/-! slices.IndexFunc[[]horarium/api.Part,horarium/api.Part] -/
@[go_sem] def aBg:=k 0x15d7c
@[go_sem] def aBh:=k 0x16d03bedfeac
@[go_sem] def aBi:=k 0xa5d7cb8
@[go_sem] def aBj:=k 0x2044eddb612c
@[go_sem] def aBk:=k 0xb761e96545f0848691b9faed5525cc
@[go_sem] def aBl:=k 0x366360db598c
@[go_sem] def aBm:=k 0x73eafe093da4c
def Xi:TC:=(.seq (.reg aBi) (.seq (.cond (.t 9) .skip (.exit 0)) (.seq (.block 1 (.seq (.reg aBj) (.seq (.reg aBk) (.cond (.t 16) (.seq (.reg aBl) .ret) .skip)))) (.reg aBm))))
@[go_sem] def aBn:=k 0x15e10
def K3:TF:=⟨19,[.t 4],(.seq (.reg aBg) (.seq (.seq (.reg aBh) (.block 0 (.loop Xi))) (.seq (.reg aBn) .ret)))⟩
/-! horarium/config.procs -/
@[go_sem] def aBo:=k 0xbc48
@[go_sem] def aBp:=k 0x16b6d789ae0c
@[go_sem] def aBq:=k 0x9109818
@[go_sem] def aBr:=k 0xaea1b5a844266c2f5fd00
@[go_sem] def aBs:=k 0x9cfb7106594e15f91bf5c02123a621c69838849855233be1d0
@[go_sem] def aBt:=k 0xbc48
@[go_sem] def aBu:=k 0x86c3802d24c2c
def Xj:TC:=(.seq (.reg aBq) (.seq (.cond (.t 8) .skip (.exit 0)) (.seq (.block 1 (.seq (.reg aBr) (.seq (.reg aBs) (.cond (.t 20) (.seq (.reg aBt) .ret) .skip)))) (.reg aBu))))
@[go_sem] def aBv:=k 0xe8534eb9998607af03c1188bfb41d28e7151556c7b308ac
def K4:TF:=⟨30,[.t 2],(.seq (.reg aBo) (.seq (.seq (.reg aBp) (.block 0 (.loop Xj))) (.seq (.reg aBv) .ret)))⟩
/-! horarium/config.within -/
@[go_sem] def aBw:=k 0x15d88
@[go_sem] def aBx:=k 0x23516400fbc20a5b12bd406a3b1633751da9956ae0c
def K5:TF:=⟨12,[.t 4],(.seq (.reg aBw) (.seq (.reg aBx) .ret))⟩
/-! horarium/runs.Of -/
@[go_sem] def aBy:=k 0x474874
@[go_sem] def aBz:=k 0x510db16be71f708c
@[go_sem] def aBA:=k 0x22ea3d5261cc
@[go_sem] def aBB:=k 0x33fbaf063b5030c
@[go_sem] def aBC:=k 0x1ae54
@[go_sem] def aBD:=k 0x7989dbc44da203ac
@[go_sem] def aBE:=k 0xfdbdd872d7c2bed62196b5c77b6c835b844ded8c
@[go_sem] def aBF:=k 0x21555bd580c
@[go_sem] def aBG:=k 0xa60bb0b6225da3af691754bd4c
def Xk:TC:=(.block 1 (.seq (.reg aBE) (.seq (.seq (.reg aBF) (.cond (.t 22) (.exit 0) .skip)) (.reg aBG))))
@[go_sem] def jY:=k 0xe140090af5717fcc
@[go_sem] def jZ:=k 0x78168944ea3a10c
@[go_sem] def kB:=k 0x261b0a874
@[go_sem] def kE:=k 0x2f9d288ddcf6ed
def K6:TF:=⟨33,[.t 2,.t 3],(.seq (.reg aBy) (.seq (.seq (.reg aBz) (.seq (.reg aBA) (.cond (.t 12) (.seq (.reg aBB) .ret) .skip))) (.seq (.reg aBC) (.seq (.reg aBD) (.seq (.block 0 (.loop Xk)) (.seq (.seq (.reg jY) (.seq (.reg jZ) (.cond (.t 31) (.seq (.reg kB) .ret) .skip))) (.seq (.reg kE) .ret)))))))⟩
/-! slices.ContainsFunc[[]horarium/api.Run,horarium/api.Run] -/
@[go_sem] def aBH:=k 0x15d88
@[go_sem] def aBI:=k 0x673ff8d83c1f88ff746412d2e0c
def K7:TF:=⟨9,[.t 4],(.seq (.reg aBH) (.seq (.reg aBI) .ret))⟩
/-! horarium/config.table$1 -/
@[go_sem] def aBJ:=k 0xc99bc64
@[go_sem] def aBK:=k 0x5baf6b519b72bdc81491ef2c322f7bba58570
def K8:TF:=⟨10,[.t 3],(.seq (.reg aBJ) (.seq (.reg aBK) .ret))⟩
/-! horarium/bound.Holds -/
@[go_sem] def aBX:=k 0x6e112e3c64
@[go_sem] def aBY:=k 0x7575134ea47e9e930
@[go_sem] def aBZ:=k 0x10ddf3d8
@[go_sem] def aB0:=k 0x106c86c236488fef5358e0
@[go_sem] def aB1:=k 0x1bfb9bcfff7ad95def1f90c7db1ba952f71898c
@[go_sem] def aB2:=k 0x857ebb180fec5a226699ccf3504f19da03851cd93e6bda0a2bccc52b3c17f06449562324951
@[go_sem] def aB3:=k 0xc0d97c
@[go_sem] def aB4:=k 0xe5da17e921998d
def Xl:TC:=(.seq (.reg aBZ) (.seq (.cond (.t 14) .skip (.exit 0)) (.seq (.block 1 (.seq (.reg aB0) (.seq (.reg aB1) (.seq (.reg aB2) (.cond (.t 35) (.seq (.reg aB3) .ret) .skip))))) (.reg aB4))))
@[go_sem] def aB5:=k 0xf2e93186c0c0b41211
@[go_sem] def kF:=k 0xccaf1cb9
@[go_sem] def kG:=k 0x26c3873abaeab4808eb9ce1fd235e9952d
@[go_sem] def kI:=kd 0x19d119e16e87bf70613ce453f5263a44a408fa017851b17a97ccbce50dfc2b3a83cc88d67c0ce5
@[go_sem] def kJ:=k 0xcaed7c
@[go_sem] def kK:=k 0x1742fd4fd36874d
def TM:TC:=(.seq (.reg kF) (.seq (.cond (.t 41) .skip (.exit 2)) (.seq (.block 3 (.seq (.reg kG) (.seq (.dreg kI) (.cond (.t 57) (.seq (.reg kJ) .ret) .skip)))) (.reg kK))))
@[go_sem] def kL:=k 0x15d7c
def K9:TF:=⟨59,[.t 4],(.seq (.reg aBX) (.seq (.seq (.reg aBY) (.block 0 (.loop Xl))) (.seq (.seq (.reg aB5) (.block 2 (.loop TM))) (.seq (.reg kL) .ret))))⟩
/-! (*horarium/horariumref15.Kernel).change -/
@[go_sem] def aB6:=k 0x1feec
@[go_sem] def aB7:=k 0x970b431587cc7ab20c65742c6150b9d2e7fdecd8a3984d4f4c
@[go_sem] def aB8:=k 0x1ffd8
@[go_sem] def aB9:=k 0x2575751fc3ccae87792caa2ac9951cb82c2b88a309d8c
@[go_sem] def aCa:=k 0x20030
@[go_sem] def aCb:=k 0x1edf812096ad02d96091661c797cb2c
@[go_sem] def aCc:=k 0x1feec
def FQ:TF:=⟨31,[.t 6],(.seq (.reg aB6) (.seq (.seq (.reg aB7) (.cond (.t 16) (.seq (.reg aB8) .ret) .skip)) (.seq (.seq (.reg aB9) (.cond (.t 25) (.seq (.reg aCa) .ret) .skip)) (.seq (.reg aCb) (.seq (.reg aCc) .ret)))))⟩
/-! (*horarium/horariumref15.Kernel).stop -/
@[go_sem] def aCd:=k 0x15dac
@[go_sem] def aCe:=k 0x82e8f4f6406bf6f1284aa59c86630b0499b8687390e784ae0c
@[go_sem] def aCf:=k 0x15e98
@[go_sem] def aCg:=k 0x1645d6eb089555b6fd44c
@[go_sem] def aCh:=k 0x15dac
def Hu:TF:=⟨18,[.t 4],(.seq (.reg aCd) (.seq (.seq (.reg aCe) (.cond (.t 14) (.seq (.reg aCf) .ret) .skip)) (.seq (.reg aCg) (.seq (.reg aCh) .ret))))⟩
/-! horarium/horariumref3.Size -/
@[go_sem] def aCi:=k 0x15d7c
@[go_sem] def aCj:=k 0xeeab94a04c9f50d2e0103ba125b928e909e39634c
@[go_sem] def aCk:=k 0x15d7c
@[go_sem] def aCl:=k 0xbc21c
@[go_sem] def aCm:=k 0x303d107a684c
@[go_sem] def aCn:=k 0x14db75464de069c091cec
@[go_sem] def aCo:=k 0xcfe0d7c0e15e7bce83986e9a688ac
@[go_sem] def aCp:=k 0x15d7c
@[go_sem] def aCq:=k 0x1d27e8e4358e56506c
@[go_sem] def aCr:=k 0x88163b7a0d83a82086d652900ad4878dad
@[go_sem] def kM:=k 0x42bcbc2931cd9d1d4aff30afd677f9557c882fb8e396d
@[go_sem] def kN:=k 0xbc1c5eff60981871cca94e484df48ba5cd
@[go_sem] def kO:=k 0x64212f0bb67ed72518d
@[go_sem] def kQ:=k 0x50f0019cef2cd
@[go_sem] def kR:=k 0x2c7939bcd3ed672a82e3f4e937bc0d
@[go_sem] def kS:=k 0x1530aa0a4f9c825f6c
def TN:TC:=(.seq (.seq (.reg aCn) (.cond (.t 19) .skip (.exit 0))) (.seq (.block 1 (.seq (.seq (.reg aCo) (.cond (.t 27) (.seq (.reg aCp) .ret) .skip)) (.seq (.reg aCq) (.seq (.seq (.reg aCr) (.cond (.t 35) (.reg kM) .skip)) (.seq (.seq (.reg kN) (.cond (.t 48) (.reg kO) .skip)) (.seq (.reg kQ) (.cond (.t 52) (.seq (.reg kR) .ret) .skip))))))) (.reg kS)))
@[go_sem] def kT:=k 0x15d7c
def La:TF:=⟨57,[.t 4],(.seq (.reg aCi) (.seq (.seq (.reg aCj) (.cond (.t 14) (.seq (.reg aCk) .ret) .skip)) (.seq (.reg aCl) (.seq (.seq (.reg aCm) (.block 0 (.loop TN))) (.seq (.reg kT) .ret)))))⟩
/-! horarium/horariumref3.depth -/
@[go_sem] def aCs:=k 0x15d7c
@[go_sem] def aCt:=k 0x1ae1c
@[go_sem] def aCu:=k 0x126ad97560fcc8e1ae1fec
@[go_sem] def aCv:=k 0xf910f38
@[go_sem] def aCw:=k 0xf393ab64a35a673e0
@[go_sem] def aCx:=k 0x284db442af721e81b9134efad57f08ec
@[go_sem] def aCy:=k 0x87c16c79ecc2c
def Xm:TC:=(.seq (.reg aCv) (.seq (.cond (.t 13) .skip (.exit 0)) (.seq (.block 1 (.seq (.reg aCw) (.reg aCx))) (.reg aCy))))
@[go_sem] def aCz:=k 0x17207b144bb578ecac
def Lb:TF:=⟨24,[.t 4],(.seq (.reg aCs) (.seq (.reg aCt) (.seq (.seq (.reg aCu) (.block 0 (.loop Xm))) (.seq (.reg aCz) .ret))))⟩
/-! horarium/horariumref3.length -/
@[go_sem] def aCA:=k 0x15d7c
@[go_sem] def aCB:=k 0x1ae1c
@[go_sem] def aCC:=k 0x126ad97560fcc8e1ae1fec
@[go_sem] def aCD:=k 0xf910f38
@[go_sem] def aCE:=k 0xf393ab64a35a673e0
@[go_sem] def aCF:=k 0x6a94d3077a9634cd1c4ff1b0fcf9557f08ec
@[go_sem] def aCG:=k 0x8e1a8579f1ccc
def Xn:TC:=(.seq (.reg aCD) (.seq (.cond (.t 13) .skip (.exit 0)) (.seq (.block 1 (.seq (.reg aCE) (.reg aCF))) (.reg aCG))))
@[go_sem] def aCH:=k 0xa4fe7c628813fecd3667b2d94c
@[go_sem] def aCI:=k 0xbdb6c229af924
@[go_sem] def kU:=k 0x5fa6835f71ac
@[go_sem] def kV:=k 0xce3ec337e8cf05
@[go_sem] def kW:=k 0x675b48d37515265609b5873d3c602ba918902771d83644db8d478d
@[go_sem] def kX:=k 0x3b401b9a07b4d1c5f10e3ecbc9b86ea7cbb552d
def Lc:TF:=⟨48,[.t 4],(.seq (.reg aCA) (.seq (.reg aCB) (.seq (.seq (.reg aCC) (.block 0 (.loop Xn))) (.seq (.seq (.reg aCH) (.block 2 (.seq (.reg aCI) (.cond (.t 28) (.seq (.reg kU) .ret) (.seq (.reg kV) (.cond (.t 31) (.seq (.reg kW) .ret) .skip)))))) (.seq (.reg kX) .ret)))))⟩
/-! horarium/horariumref3.Kids -/
@[go_sem] def aCJ:=k 0x15db4
@[go_sem] def aCK:=k 0x199b1611c5cbfd432e1fec
@[go_sem] def aCL:=k 0x1fef4
@[go_sem] def aCM:=k 0xc39836d6d2bcd25cc
@[go_sem] def aCN:=k 0x55aad7a5c6b963729f51f63f0c
@[go_sem] def aCO:=k 0xa63e74ae934e0d7a0cef47514c
@[go_sem] def aCP:=k 0x2c6cec47b378953ce782c6c85593d22c
def Xo:TC:=(.seq (.seq (.reg aCN) (.cond (.t 17) .skip (.exit 0))) (.seq (.block 1 (.reg aCO)) (.reg aCP)))
@[go_sem] def aCQ:=k 0x5620dde893cc
def Ld:TF:=⟨28,[.t 4],(.seq (.reg aCJ) (.seq (.reg aCK) (.seq (.reg aCL) (.seq (.seq (.reg aCM) (.block 0 (.loop Xo))) (.seq (.reg aCQ) .ret)))))⟩
/-! horarium/node.Right -/
@[go_sem] def aCR:=k 0xbc3c
@[go_sem] def aCS:=k 0x2d5238d814b5e49a19a31c0efd8543187eac
@[go_sem] def aCT:=k 0x10c70eab4c3b9146391cc
@[go_sem] def aCU:=k 0x1ef83c
@[go_sem] def aCV:=k 0x15f8e0b61d917422ad44c
@[go_sem] def aCW:=k 0x79ac3c
@[go_sem] def aCX:=k 0x3655658615113bfcf316cc
@[go_sem] def aCY:=k 0x8dd43c
@[go_sem] def aCZ:=k 0xc582a998b7dda94c
@[go_sem] def aC0:=k 0xb6243c
@[go_sem] def kY:=k 0xbc3c
def Le:TF:=⟨25,[.t 2],(.seq (.reg aCR) (.seq (.reg aCS) (.seq (.block 0 (.seq (.reg aCT) (.cond (.t 10) (.seq (.reg aCU) .ret) (.seq (.reg aCV) (.cond (.t 14) (.seq (.reg aCW) .ret) (.seq (.reg aCX) (.cond (.t 18) (.seq (.reg aCY) .ret) (.seq (.reg aCZ) (.cond (.t 22) (.seq (.reg aC0) .ret) .skip))))))))) (.seq (.reg kY) .ret))))⟩
/-! horarium/cursor.New -/
@[go_sem] def aC1:=k 0xbd0c
@[go_sem] def aC2:=k 0x27fcb8818029dd6c
@[go_sem] def aC3:=k 0xbd0c
@[go_sem] def aC4:=k 0x200f1b5c357d1e80234c44f4c
@[go_sem] def aC5:=k 0x1195773cdcc
@[go_sem] def aC6:=k 0x297e65fdef0c
def Lf:TF:=⟨14,[.t 2],(.seq (.reg aC1) (.seq (.seq (.reg aC2) (.cond (.t 6) (.seq (.reg aC3) .ret) .skip)) (.seq (.reg aC4) (.seq (.reg aC5) (.seq (.reg aC6) .ret)))))⟩
/-! (*horarium/cursor.Cursor).Next -/
@[go_sem] def aC7:=k 0x6584d4
@[go_sem] def aC8:=kd 0x4712e31c455f40d9bdcf364b52205edf6233e752fbae0dc582c
@[go_sem] def aC9:=k 0xd5611c8db3467c
@[go_sem] def aDa:=kd 0x34a5c61cb6247cb09af4f687d83115f8e6025f884f7f5fff394dc998ada67b05c8b3e7268254f81fc2ff3ffed024d8bfbe1232988b982172bc01570f44a8f4fa8a82360167abf5b99419aea56f6c046d
@[go_sem] def aDb:=kd 0x5db68d656ace96d131d4263c5c2eec496020aaae8831722c20a87abbe96d
@[go_sem] def aDc:=k 0x150f490ccc0d
@[go_sem] def aDd:=k 0x1ab40f97d7a1a0dd9
def Hv:TF:=⟨56,[.cell 2 2 true,.t 3],(.seq (.reg aC7) (.seq (.seq (.dreg aC8) (.cond (.t 14) (.seq (.reg aC9) .ret) .skip)) (.seq (.dreg aDa) (.seq (.dreg aDb) (.seq (.reg aDc) (.seq (.reg aDd) .ret))))))⟩
/-! horarium/runs.Tidy -/
@[go_sem] def aDe:=k 0xbc74
@[go_sem] def aDf:=k 0x10d14
@[go_sem] def aDg:=k 0x16e9a0524f4c
@[go_sem] def aDh:=k 0xbaa6158
@[go_sem] def aDi:=k 0xd972a772f07be5e8fc640
@[go_sem] def aDj:=k 0x718a9daa7cca6f0c
@[go_sem] def aDk:=k 0x71dc9d0f9bb2bc6650b4b70
@[go_sem] def aDl:=kd 0x60caffd22cbc5b62fccd927c7b23d0a8f5d369d7eed02ffe404c50f08e5ae77c666f77540628ba8a6d
@[go_sem] def aDm:=kd 0x477960979e86be67c2b97153ffa36e6501135af5d07ce8d99f2e580d2a7b7ef9b129d52879f3cc1f6ecf5802d
@[go_sem] def aDn:=k 0x72e22fad7cb1108d96ae76104c
@[go_sem] def kZ:=k 0x144acfd44fe52ed
def TQ:TC:=(.seq (.reg aDh) (.seq (.cond (.t 10) .skip (.exit 0)) (.seq (.block 1 (.seq (.reg aDi) (.seq (.reg aDj) (.block 2 (.seq (.reg aDk) (.cond (.t 19) .skip (.seq (.dreg aDl) (.cond (.t 23) (.dreg aDm) (.reg aDn))))))))) (.reg kZ))))
@[go_sem] def lA:=k 0x1a8227f55e08c2f36d
def Lg:TF:=⟨54,[.t 2],(.seq (.reg aDe) (.seq (.reg aDf) (.seq (.seq (.reg aDg) (.block 0 (.loop TQ))) (.seq (.reg lA) .ret))))⟩
/-! slices.IndexFunc[[]horarium/api.Run,horarium/api.Run] -/
@[go_sem] def aDo:=k 0x15d7c
@[go_sem] def aDp:=k 0x16d03bedfeac
@[go_sem] def aDq:=k 0xa5d7cb8
@[go_sem] def aDr:=k 0x2044eddb612c
@[go_sem] def aDs:=k 0xb761e96522addbf6ae17f96d5525cc
@[go_sem] def aDt:=k 0x366360db598c
@[go_sem] def aDu:=k 0x73eafe093da4c
def Xp:TC:=(.seq (.reg aDq) (.seq (.cond (.t 9) .skip (.exit 0)) (.seq (.block 1 (.seq (.reg aDr) (.seq (.reg aDs) (.cond (.t 16) (.seq (.reg aDt) .ret) .skip)))) (.reg aDu))))
@[go_sem] def aDv:=k 0x15e10
def Lh:TF:=⟨19,[.t 4],(.seq (.reg aDo) (.seq (.seq (.reg aDp) (.block 0 (.loop Xp))) (.seq (.reg aDv) .ret)))⟩
/-! horarium/bound.Late -/
@[go_sem] def aDw:=k 0x1febc
@[go_sem] def aDx:=k 0xfdbe08dc391fe0841204c51fa09759c3b330544c
@[go_sem] def aDy:=k 0x3e2020927ed00d1b7994ac
@[go_sem] def aDz:=k 0x1febc
@[go_sem] def aDA:=k 0x4883c4a860ea6cad14eb2c
@[go_sem] def aDB:=k 0x1ff50
@[go_sem] def aDC:=k 0xf23e6cf9857abd0c
@[go_sem] def aDD:=k 0x3413c
@[go_sem] def aDE:=k 0xbe0b8556f64d
@[go_sem] def aDF:=k 0xa8d9d059
@[go_sem] def lB:=k 0x7eaa6783973092729da4941
@[go_sem] def lC:=k 0x9a3526f742b7b87583696861ec55808ccc17da211
@[go_sem] def lD:=k 0xe128ff39
@[go_sem] def lE:=k 0x5e69b9b60041ba977e1
@[go_sem] def lF:=k 0x6e3354e4c6908c6ed8a55794451d80866dcf4fcc64c8876c8ed
@[go_sem] def lG:=k 0x167e334a15de60d
def JE:TC:=(.seq (.reg lD) (.seq (.cond (.t 45) .skip (.exit 3)) (.seq (.block 4 (.seq (.reg lE) (.reg lF))) (.reg lG))))
@[go_sem] def lH:=k 0x16d24fd1df036ad
def TR:TC:=(.seq (.reg aDF) (.seq (.cond (.t 34) .skip (.exit 1)) (.seq (.block 2 (.seq (.reg lB) (.seq (.reg lC) (.block 3 (.loop JE))))) (.reg lH))))
@[go_sem] def lI:=k 0x5c341fc89ef2d
def Li:TF:=⟨59,[.t 6],(.seq (.reg aDw) (.seq (.reg aDx) (.seq (.block 0 (.seq (.reg aDy) (.cond (.t 21) (.seq (.reg aDz) .ret) (.seq (.reg aDA) (.cond (.t 25) (.seq (.reg aDB) .ret) .skip))))) (.seq (.reg aDC) (.seq (.reg aDD) (.seq (.seq (.reg aDE) (.block 1 (.loop TR))) (.seq (.reg lI) .ret)))))))⟩
/-! horarium/bound.Budget -/
@[go_sem] def aDG:=k 0x1febc
@[go_sem] def aDH:=k 0x79c9d5b33b9a03ac
@[go_sem] def aDI:=k 0x5b1d873ddbfd3f4cdedb5540fe40fcc14af2e5418fe7e9167e18e2ad732a4cec
@[go_sem] def aDJ:=k 0x1ff50
@[go_sem] def aDK:=k 0x4c36c2f9d9625f97346c6c
@[go_sem] def aDL:=k 0x635205b5864c
@[go_sem] def aDM:=k 0x3413c
@[go_sem] def aDN:=k 0x10407722b822e1beed
@[go_sem] def aDO:=k 0x391dc
@[go_sem] def aDP:=k 0xc0d2805d52ad
@[go_sem] def lJ:=k 0xccaf1cb9
@[go_sem] def lK:=k 0x89d7886971d0ace09af95a1
@[go_sem] def lM:=k 0x1c892321e2029428ae7a6e94944e126a8f604b8609908a66bbb39f745a359788be5045e38c5d1dd63ae6d
@[go_sem] def lN:=k 0x1742fd4fd36874d
def TS:TC:=(.seq (.reg lJ) (.seq (.cond (.t 41) .skip (.exit 2)) (.seq (.block 3 (.seq (.reg lK) (.reg lM))) (.reg lN))))
@[go_sem] def lO:=k 0x26801e7b6266272d191617cd
@[go_sem] def lP:=k 0x176611cc6f6de9d50712b0cd
def TT:TC:=(.seq (.seq (.reg aDN) (.cond (.t 34) .skip (.exit 0))) (.seq (.block 1 (.seq (.reg aDO) (.seq (.seq (.reg aDP) (.block 2 (.loop TS))) (.reg lO)))) (.reg lP)))
@[go_sem] def lQ:=k 0x628d38c7709ad
def Lj:TF:=⟨63,[.t 6],(.seq (.reg aDG) (.seq (.reg aDH) (.seq (.seq (.reg aDI) (.cond (.t 27) (.seq (.reg aDJ) .ret) .skip)) (.seq (.reg aDK) (.seq (.reg aDL) (.seq (.seq (.reg aDM) (.block 0 (.loop TT))) (.seq (.reg lQ) .ret)))))))⟩
/-! horarium/horariumref3.fine -/
@[go_sem] def aDQ:=k 0xc996bc4
@[go_sem] def aDR:=k 0x9866f1b20d0
@[go_sem] def aDS:=k 0x27257760612c4
@[go_sem] def aDT:=k 0xf1cb1183a84d857987a7169bba81df23a2ffb5935a151b19e7337731f26e1837100dc25ee350
@[go_sem] def aDU:=k 0x8957b2194e024
@[go_sem] def aDV:=k 0x8fb0cb1a958c4
@[go_sem] def aDW:=k 0x3c144241992d0db3e42d265f34201a5d34a21a549f7a63ed50
@[go_sem] def aDX:=k 0xce3ec2c3eea705
@[go_sem] def aDY:=k 0x11d786416b1b3a23dee539295e065b04527a58b580dd6e4340eec3d114cd1cc891b2f31bd835a8a791
@[go_sem] def aDZ:=k 0xbc48
def Lk:TF:=⟨46,[.t 2],(.seq (.reg aDQ) (.seq (.seq (.reg aDR) (.block 0 (.seq (.reg aDS) (.cond (.t 5) (.seq (.reg aDT) .ret) (.seq (.seq (.reg aDU) (.cond (.t 20) .skip (.reg aDV))) (.cond (.t 20) (.seq (.reg aDW) .ret) (.seq (.reg aDX) (.cond (.t 31) (.seq (.reg aDY) .ret) .skip)))))))) (.seq (.reg aDZ) .ret)))⟩
/-! horarium/node.Length -/
@[go_sem] def aD0:=k 0xc99bc3c
@[go_sem] def aD1:=k 0x1c015a3a6a3feac
@[go_sem] def aD2:=k 0xc99bc3c
@[go_sem] def aD3:=k 0x41766f794cb092a06fd3f030ffa395d0412c
@[go_sem] def aD4:=k 0x163ec8ae7ac
@[go_sem] def aD5:=k 0xc1a12eb9308ec
@[go_sem] def aD6:=k 0xc99bc3c
def Ll:TF:=⟨17,[.t 2,.t 3],(.seq (.reg aD0) (.seq (.seq (.reg aD1) (.cond (.t 8) (.seq (.reg aD2) .ret) .skip)) (.seq (.seq (.reg aD3) (.seq (.reg aD4) (.cond (.t 15) (.seq (.reg aD5) .ret) .skip))) (.seq (.reg aD6) .ret))))⟩
/-! horarium/node.whole -/
@[go_sem] def aD7:=k 0xbc48
@[go_sem] def aD8:=k 0x4c8ded96b2107e04a04ec8ec75c7da35cbf9431d7f096b4bc7c410ccc
def Lm:TF:=⟨13,[.t 2],(.seq (.reg aD7) (.seq (.reg aD8) .ret))⟩
/-! horarium/node.Depth -/
@[go_sem] def aD9:=k 0xbc3c
@[go_sem] def aEa:=k 0x1801b9a4e3fae0c
@[go_sem] def aEb:=k 0xbc3c
@[go_sem] def aEc:=k 0x3c6d61c500f7d00dad274f287f1bbd6bf08c
@[go_sem] def aEd:=k 0x297e65fdef0c
def Ln:TF:=⟨14,[.t 2],(.seq (.reg aD9) (.seq (.seq (.reg aEa) (.cond (.t 7) (.seq (.reg aEb) .ret) .skip)) (.seq (.reg aEc) (.seq (.reg aEd) .ret))))⟩
/-! (*horarium/cursor.Cursor).Reset -/
@[go_sem] def aEe:=k 0x500cfd61c438d9690629ffebbbb24c20534ffc28d89496002704a9483c2c
@[go_sem] def aEf:=k 0x22ec181891cc
def Lo:TF:=⟨13,[],(.seq (.reg aEe) (.reg aEf))⟩
/-! horarium/cursor.part -/
@[go_sem] def aEg:=k 0x8d1ebc4
@[go_sem] def aEh:=k 0x40fa116e17f1b20d0
@[go_sem] def aEi:=k 0xbcd0
@[go_sem] def aEj:=k 0x71200686d45de92b0
def Lp:TF:=⟨8,[.t 2],(.seq (.reg aEg) (.seq (.seq (.reg aEh) (.cond (.t 5) (.seq (.reg aEi) .ret) .skip)) (.seq (.reg aEj) .ret)))⟩
/-! (*horarium/cursor.Cursor).step -/
@[go_sem] def aEk:=k 0x102248ef81feaf87e68aacd48f205d6c
@[go_sem] def aEl:=k 0x1bc205b476eba1c915f08c
@[go_sem] def aEm:=k 0xffd029e29157dca52ad320d242e26c
@[go_sem] def aEn:=kd 0x17917642466f7024f567dc86fd492df0b59cea2ccf06b730a56914fff54ddec
@[go_sem] def aEo:=k 0x3856a915adf3914b11b4043719a102cd973efebd1b50d
@[go_sem] def aEp:=k 0x7bbdbe5364c44f39933446c3e96d
@[go_sem] def aEq:=kd 0x55a468062438d5d6ad36e0ebe8ae516a82abe8a30ee63d69210e68788fcb985a32d
@[go_sem] def aEr:=k 0xe3fa210c230b1101a5f01e91849159440d
@[go_sem] def aEs:=k 0x1d735f1d14be505f2d
@[go_sem] def aEt:=kd 0x347f88b2dd3a8e82a9ebe15a175804a87fecd331a02a5e2bd1ca6874682b2e2a1bdc651e0c074029f83202222e
def TU:TC:=(.seq (.seq (.reg aEm) (.cond (.t 17) .skip (.exit 0))) (.block 1 (.seq (.dreg aEn) (.seq (.seq (.reg aEo) (.seq (.reg aEp) (.cond (.t 40) (.seq (.seq (.dreg aEq) (.cond (.t 52) (.reg aEr) .skip)) (.seq (.reg aEs) .ret)) .skip))) (.dreg aEt)))))
@[go_sem] def lR:=k 0xa513bb08bfcff660128bd7932de97612bfbf2617feefc8fb9ce
def Lq:TF:=⟨83,[],(.seq (.reg aEk) (.seq (.reg aEl) (.seq (.block 0 (.loop TU)) (.reg lR))))⟩
/-! horarium/runs.Add -/
@[go_sem] def aEu:=k 0x15d7c
@[go_sem] def aEv:=k 0xffd490933f877ede2ac2162d0072e0c
@[go_sem] def aEw:=k 0xbc45ab14d19046ae708c
@[go_sem] def aEx:=k 0x16038
@[go_sem] def aEy:=k 0x261ebea330fc212aafb30c
def Lr:TF:=⟨16,[.t 4],(.seq (.reg aEu) (.seq (.reg aEv) (.seq (.seq (.reg aEw) (.cond (.t 12) (.seq (.reg aEx) .ret) .skip)) (.seq (.reg aEy) .ret))))⟩
/-! slices.Clip[[]horarium/api.Run,horarium/api.Run] -/
@[go_sem] def aEz:=k 0xbc74
@[go_sem] def aEA:=k 0x28a661859a1b45233941a8c4f71fb7c88ccc
def Ls:TF:=⟨9,[.t 2],(.seq (.reg aEz) (.seq (.reg aEA) .ret))⟩
/-! horarium/bound.spans -/
@[go_sem] def aEB:=k 0x15db4
@[go_sem] def aEC:=k 0x1ae54
@[go_sem] def aED:=k 0x1febc
@[go_sem] def aEE:=k 0x1735cd7f412c
@[go_sem] def aEF:=k 0xf910f38
@[go_sem] def aEG:=k 0x1561e58798a4bf87f67420
@[go_sem] def aEH:=k 0xf4d68d46411ce3abdc604eb9cec
@[go_sem] def aEI:=k 0xc687b2784d564b16d7ec8596de7035b0e88105ef3e70770
@[go_sem] def aEJ:=k 0x2ae7bebdf34db6795e8bdc40ab6de4b44ec050d
@[go_sem] def aEK:=k 0x37b3d006e88cd
@[go_sem] def lS:=k 0xe5c0b38017998d
def TV:TC:=(.seq (.reg aEF) (.seq (.cond (.t 13) .skip (.exit 0)) (.seq (.block 1 (.seq (.reg aEG) (.seq (.reg aEH) (.seq (.seq (.reg aEI) (.cond (.t 28) (.reg aEJ) .skip)) (.reg aEK))))) (.reg lS))))
@[go_sem] def lT:=k 0x3ad3aa4fe8a0d
def Lt:TF:=⟨38,[.t 4],(.seq (.reg aEB) (.seq (.reg aEC) (.seq (.reg aED) (.seq (.seq (.reg aEE) (.block 0 (.loop TV))) (.seq (.reg lT) .ret)))))⟩
/-! horarium/runs.Length -/
@[go_sem] def aEL:=k 0xbc3c
@[go_sem] def aEM:=k 0x10cdc
@[go_sem] def aEN:=k 0x16d03bedfeac
@[go_sem] def aEO:=k 0xa5d7cb8
@[go_sem] def aEP:=k 0xd83045ffccc11d0c2e1a0
@[go_sem] def aEQ:=k 0xbfb164892c1cc78a37fd7a01e6c
@[go_sem] def aER:=k 0x6738cc093390c
def Xq:TC:=(.seq (.reg aEO) (.seq (.cond (.t 9) .skip (.exit 0)) (.seq (.block 1 (.seq (.reg aEP) (.reg aEQ))) (.reg aER))))
@[go_sem] def aES:=k 0x363097ff318c
def Lu:TF:=⟨18,[.t 2],(.seq (.reg aEL) (.seq (.reg aEM) (.seq (.seq (.reg aEN) (.block 0 (.loop Xq))) (.seq (.reg aES) .ret))))⟩
/-! horarium/bound.next -/
@[go_sem] def aET:=k 0x1febc
@[go_sem] def aEU:=k 0x171c691af08c
@[go_sem] def aEV:=k 0xe442a98
@[go_sem] def aEW:=k 0x154dbf70666912fa298f80
@[go_sem] def aEX:=k 0xd233b9e882ee36f67bfedce684c
@[go_sem] def aEY:=k 0x60b85ad5690fe4cde5eeb07ceac4ffb6c
@[go_sem] def aEZ:=k 0xa0f3079dd8eac
def Xr:TC:=(.seq (.reg aEV) (.seq (.cond (.t 12) .skip (.exit 0)) (.seq (.block 1 (.seq (.reg aEW) (.seq (.reg aEX) (.cond (.t 19) (.seq (.reg aEY) .ret) .skip)))) (.reg aEZ))))
@[go_sem] def aE0:=k 0x13a2f20842c07861f32afb7787ef5a9263f32c
def Lv:TF:=⟨32,[.t 6],(.seq (.reg aET) (.seq (.seq (.reg aEU) (.block 0 (.loop Xr))) (.seq (.reg aE0) .ret)))⟩
/-! horarium/node.measure -/
@[go_sem] def aE1:=k 0x8d23c3c
@[go_sem] def aE2:=k 0x590cef83d31cdbb8
@[go_sem] def aE3:=k 0x17689647e26c
@[go_sem] def aE4:=k 0x122ad878
@[go_sem] def aE5:=k 0x1080c9d72ef3680f303d3c
@[go_sem] def aE6:=kd 0x5ab12248a12d6855f136e31d4a85c6514e7dccdce013dec
@[go_sem] def aE7:=k 0x44945418d2c687df084a8c
@[go_sem] def aE8:=k 0x7fe7c87bf7f903ae716b2ac14bca678c6d
@[go_sem] def aE9:=k 0x40643f0a5c336c7a8e036bb7d210b510127265a69702d
@[go_sem] def aFa:=k 0xe17aa8696bc575e7cdbcd0905ced5f9556e6ec62928346cb902672bdc7e0ce0640bda48d
@[go_sem] def lU:=kd 0xf04ff1aa71c3aba2ca7fe57f75ba9df1dfe586b5e07b68c393383547c444b55f296b3ba867ee6bb27a8ee
@[go_sem] def lV:=k 0x227dcbb216bc746abdea605adf9ac562dd38e
@[go_sem] def lW:=k 0x5ab57c9f3a7578e33c31158a6b2
@[go_sem] def lX:=k 0x1ff6a5b86b51d1f1dda678e72ce7f6c008a09a39836f9159e932
@[go_sem] def lY:=k 0x8b076f9bef03f10d490875f5115088e7b7839fa334b46d8e
@[go_sem] def lZ:=kd 0x11635fdf6d4bbeebd2b1726d00d938930b8a3d78c0a2f714c99d0ccedbca92221fa69d33fa6e
@[go_sem] def mA:=kd 0x3cd85efc14e5ffd141697ee787c77d9b98ea45e4662d2a85dfc9240fc6838a305a6ae
def M7:TC:=(.seq (.seq (.reg aFa) (.cond (.t 53) .skip (.exit 2))) (.block 3 (.seq (.dreg lU) (.seq (.reg lV) (.seq (.seq (.reg lW) (.cond (.t 73) (.reg lX) .skip)) (.seq (.reg lY) (.seq (.dreg lZ) (.dreg mA))))))))
@[go_sem] def mB:=k 0x2b4a5a11767abf2e
def TW:TC:=(.seq (.reg aE4) (.seq (.cond (.t 15) .skip (.exit 0)) (.seq (.block 1 (.seq (.reg aE5) (.seq (.dreg aE6) (.seq (.seq (.reg aE7) (.seq (.reg aE8) (.cond (.t 33) (.reg aE9) .skip))) (.block 2 (.loop M7)))))) (.reg mB))))
@[go_sem] def mC:=kd 0x3dd33898e09a4fe310353dc825a1903e5f3efee34ff5c32e413473752772ee
def Lw:TF:=⟨118,[.t 2,.t 3],(.seq (.reg aE1) (.seq (.reg aE2) (.seq (.seq (.reg aE3) (.block 0 (.loop TW))) (.seq (.dreg mC) .ret))))⟩
/-! horarium/node.Size -/
@[go_sem] def aFb:=k 0x15d7c
@[go_sem] def aFc:=k 0x108d626449e3939081b27d971a50a28d3baab9b3ec
@[go_sem] def aFd:=k 0x15d7c
@[go_sem] def aFe:=k 0xbc21c
@[go_sem] def aFf:=k 0x33699cfab8ec
@[go_sem] def aFg:=k 0x1627e9c90a23a90096d8c
@[go_sem] def aFh:=k 0x1b3583c4e200d0b9a1909f55da6d94c
@[go_sem] def aFi:=k 0x58df74fc786c
@[go_sem] def aFj:=k 0x15d7c
@[go_sem] def aFk:=k 0x1a3df8a41e5915d97b6fff427c55ad
@[go_sem] def mD:=k 0x35f5575c9982d
@[go_sem] def mE:=k 0x1efd2bb3b37d415359b1b6d982616d
@[go_sem] def mF:=k 0x163091cd4c2902b00c
def TX:TC:=(.seq (.seq (.reg aFg) (.cond (.t 20) .skip (.exit 0))) (.seq (.block 1 (.seq (.reg aFh) (.seq (.seq (.reg aFi) (.cond (.t 29) (.seq (.reg aFj) .ret) .skip)) (.seq (.reg aFk) (.seq (.reg mD) (.cond (.t 35) (.seq (.reg mE) .ret) .skip)))))) (.reg mF)))
@[go_sem] def mG:=k 0x15d7c
def Lx:TF:=⟨40,[.t 4],(.seq (.reg aFb) (.seq (.seq (.reg aFc) (.cond (.t 15) (.seq (.reg aFd) .ret) .skip)) (.seq (.reg aFe) (.seq (.seq (.reg aFf) (.block 0 (.loop TX))) (.seq (.reg mG) .ret)))))⟩
/-! (*horarium/cursor.Cursor).down -/
@[go_sem] def aFl:=k 0x56b2518582aa1b7b31134320b75cfd20f82109428f0a372edf4e4c7af62ed734877813a18562c8686e687df53b0d78f205d6c
@[go_sem] def aFm:=kd 0x2196726ce74e20499bcf80b65c12f9e82cd3b422710929459506e017c246386c8a9064e328a3c02ff62163798764b56e8a949e632da01436a6d
@[go_sem] def aFn:=k 0x5802550c76d951fcdcd
def Xs:TC:=(.seq (.seq (.reg aFl) (.cond (.t 23) .skip (.exit 0))) (.block 1 (.seq (.dreg aFm) (.reg aFn))))
@[go_sem] def aFo:=k 0x9a9c36752e2d1c6de18f18bc470d
def Ly:TF:=⟨49,[],(.seq (.block 0 (.loop Xs)) (.reg aFo))⟩
/-! horarium/node.kids -/
@[go_sem] def aFp:=k 0x8d1ebc4
@[go_sem] def aFq:=k 0x19850a3ead579a6f95fa6bb7d8652782120c84b35cbbaa70e14a51e2b6aedd8def7bfd9e207170
@[go_sem] def aFr:=k 0xbcd0
@[go_sem] def aFs:=k 0x1832f9c28dac7b07fea055546800d459a5eef848e334677e3b3239a4548f782ff73af3a9fda30
@[go_sem] def aFt:=k 0x53cbc0e2c1e0eb4df689e0651
@[go_sem] def aFu:=k 0xbc3c
@[go_sem] def aFv:=k 0x153ea04933571fcf87369032fcb3399e08ff4c046e258f89f48d1
@[go_sem] def aFw:=k 0x580a544a6f622b5cdd1
@[go_sem] def aFx:=k 0x7aad41c3b80ef979144a2bfb1
@[go_sem] def aFy:=k 0xad03c
@[go_sem] def mH:=k 0xbcd0
def Lz:TF:=⟨49,[.t 2],(.seq (.reg aFp) (.seq (.block 0 (.seq (.reg aFq) (.cond (.t 3) (.seq (.reg aFr) .ret) (.seq (.seq (.reg aFs) (.cond (.t 17) .skip (.reg aFt))) (.cond (.t 17) (.seq (.reg aFu) .ret) (.seq (.reg aFv) (.cond (.t 34) (.seq (.reg aFw) .ret) (.seq (.reg aFx) (.cond (.t 45) (.seq (.reg aFy) .ret) .skip))))))))) (.seq (.reg mH) .ret)))⟩
/-! horarium/node.times -/
@[go_sem] def aFz:=k 0x15d7c
@[go_sem] def aFA:=k 0x920f0f4ecb3c6a9f2c58b97f942e0c
def LA:TF:=⟨10,[.t 4],(.seq (.reg aFz) (.seq (.reg aFA) .ret))⟩
/-! horarium/node.add -/
@[go_sem] def aFB:=k 0x15d7c
@[go_sem] def aFC:=k 0x920f0f4ecb28424971a2e678ad2e0c
def LB:TF:=⟨10,[.t 4],(.seq (.reg aFB) (.seq (.reg aFC) .ret))⟩
/-! (horarium/part.none).Change -/
@[go_sem] def aFD:=k 0x6e204c3c64
@[go_sem] def aFE:=k 0x15e98
def LC:TF:=⟨5,[.t 4],(.seq (.reg aFD) (.seq (.reg aFE) .ret))⟩
/-! (horarium/part.none).Recv -/
@[go_sem] def aFF:=k 0x3cbc8dcc3c64
@[go_sem] def aFG:=k 0x68a55ac
def LD:TF:=⟨6,[.t 4,.t 5],(.seq (.reg aFF) (.seq (.reg aFG) .ret))⟩
/-! (horarium/part.none).Send -/
@[go_sem] def aFH:=k 0xa0e9148d04
@[go_sem] def aFI:=k 0x20030
def LE:TF:=⟨7,[.t 6],(.seq (.reg aFH) (.seq (.reg aFI) .ret))⟩
/-! (horarium/part.none).StopAll -/
@[go_sem] def aFJ:=k 0x17efebc4
@[go_sem] def aFK:=k 0xbd58
def LF:TF:=⟨3,[.t 2],(.seq (.reg aFJ) (.seq (.reg aFK) .ret))⟩
/-! (horarium/horariumlaw19.calls).Change -/
@[go_sem] def aFL:=k 0x6e204c3c64
@[go_sem] def aFM:=kd 0x9115b314ff901add789c63d208c767b121ed76bff5abbc714f81b4cee7d26ef14fba4
@[go_sem] def aFN:=k 0x15e98
@[go_sem] def aFO:=k 0x5a9724e572b9f6309a4f663c377a7ab4f8a32e989956c404c76f2acc
@[go_sem] def aFP:=k 0x15ef0
@[go_sem] def aFQ:=k 0x15dac
def FR:TF:=⟨29,[.t 4],(.seq (.reg aFL) (.seq (.block 0 (.seq (.dreg aFM) (.cond (.t 5) (.seq (.reg aFN) .ret) (.seq (.reg aFO) (.cond (.t 18) (.seq (.reg aFP) .ret) .skip))))) (.seq (.reg aFQ) .ret)))⟩
/-! (horarium/horariumlaw19.calls).Recv -/
@[go_sem] def aFR:=k 0x3cbc8dcc3c64
@[go_sem] def aFS:=k 0x1631cc58acf89a8c74c51e196e1458add5d1eadc43d19aaf4a626b0
def LG:TF:=⟨15,[.t 4,.t 5],(.seq (.reg aFR) (.seq (.reg aFS) .ret))⟩
/-! (horarium/horariumlaw19.calls).Send -/
@[go_sem] def aFT:=k 0xa0e9148d04
@[go_sem] def aFU:=k 0x71751b98ec94c82287be4bb72a1a518eebe935601308b50
def LH:TF:=⟨15,[.t 6],(.seq (.reg aFT) (.seq (.reg aFU) .ret))⟩
/-! (horarium/horariumlaw19.calls).StopAll -/
@[go_sem] def aFV:=k 0x17efebc4
@[go_sem] def aFW:=kd 0x15cf6d0cc011bd1651308a775c6fb8ec8fe2c9d69bbe862b1c7f6539df911d64
@[go_sem] def aFX:=k 0xbd58
@[go_sem] def aFY:=k 0xbc6c
def Hw:TF:=⟨15,[.t 2],(.seq (.reg aFV) (.seq (.seq (.dreg aFW) (.cond (.t 14) (.seq (.reg aFX) .ret) .skip)) (.seq (.reg aFY) .ret)))⟩
/-! (*horarium/proc.ready).Less -/
@[go_sem] def aFZ:=k 0x1fec8
@[go_sem] def aF0:=kd 0x2e77b6c8c8b05005552d0e7b689d0263df7b542ab1558fe98470783288c1c23e3007778ec2da0b2c
@[go_sem] def aF1:=kd 0x4b8739375b0d2ddf796d6cebc205b2dc7528aef9afb2cffff13ac763625238997e52ba5e105447d725d25022ed8102f237b7f4045ef24cb0cc546504b26323ffdad
def LI:TF:=⟨46,[.t 6],(.seq (.reg aFZ) (.seq (.dreg aF0) (.seq (.dreg aF1) .ret)))⟩
/-! (*horarium/proc.ready).Pop -/
@[go_sem] def aF2:=k 0xbedc
@[go_sem] def aF3:=k 0x32e0c189f1a7ba9da69125d2b360e784ae0c
@[go_sem] def aF4:=k 0xd9644f65861aef0ca4b6ad3854781298f9de91cc
@[go_sem] def aF5:=k 0x10d8056c3c5ead64eb29fca49b1140e50d2517bcb246acd462c
@[go_sem] def aF6:=k 0xe0801b39e88a6bcc
def LJ:TF:=⟨29,[.t 2],(.seq (.reg aF2) (.seq (.reg aF3) (.seq (.reg aF4) (.seq (.reg aF5) (.seq (.reg aF6) .ret)))))⟩
/-! (*horarium/proc.ready).Push -/
@[go_sem] def aF7:=kd 0x1c9b0688980603e51cbec4945f06683daca7b8c553f809f076f7a38c03758d63eb6c
def LK:TF:=⟨15,[],(.dreg aF7)⟩
/-! (*horarium/proc.ready).Swap -/
@[go_sem] def aF8:=kd 0x27e2fbb4df840f70ae7f6fd84d550005b0157829930b53ae3ecca6ed96380158546e5f119b628e73cb61ace3f7b2e6c3228bd3cd027f2bb2e6bac5a96be97499682b4cf77595bc4ec
def LL:TF:=⟨32,[],(.dreg aF8)⟩
/-! cmp.Or[int] -/
@[go_sem] def aF9:=k 0xbc3c
@[go_sem] def aGa:=k 0x10cdc
@[go_sem] def aGb:=k 0x16d03bedfeac
@[go_sem] def aGc:=k 0xa5d7cb8
@[go_sem] def aGd:=k 0xb299d2e5afe72e160
@[go_sem] def aGe:=k 0x63371eb8a229c66c
@[go_sem] def aGf:=k 0x2fd77f12b84c
@[go_sem] def aGg:=k 0x6738cc093390c
def M8:TC:=(.seq (.reg aGc) (.seq (.cond (.t 9) .skip (.exit 0)) (.seq (.block 1 (.seq (.reg aGd) (.seq (.reg aGe) (.cond (.t 14) (.seq (.reg aGf) .ret) .skip)))) (.reg aGg))))
@[go_sem] def aGh:=k 0x363097ff318c
def LM:TF:=⟨18,[.t 2],(.seq (.reg aF9) (.seq (.reg aGa) (.seq (.seq (.reg aGb) (.block 0 (.loop M8))) (.seq (.reg aGh) .ret))))⟩
/-! cmp.Compare[int] -/
@[go_sem] def aGi:=k 0x15d7c
@[go_sem] def aGj:=k 0x414f2f2c1eefcf4c
@[go_sem] def aGk:=k 0x518da54bdbc2848c
@[go_sem] def aGl:=k 0x35f5cc
@[go_sem] def aGm:=k 0x405a6c
@[go_sem] def aGn:=k 0x15d7c
@[go_sem] def aGo:=k 0x15e10
@[go_sem] def aGp:=k 0x40ab0c
@[go_sem] def aGq:=k 0xb717c
@[go_sem] def aGr:=k 0x73b53583633003ac
@[go_sem] def mI:=k 0x15e10
@[go_sem] def mJ:=k 0x8c73629dcc30f58c
@[go_sem] def mK:=k 0xb717c
@[go_sem] def mL:=k 0x15d7c
def LN:TF:=⟨20,[.t 4],(.seq (.reg aGi) (.seq (.reg aGj) (.seq (.reg aGk) (.seq (.seq (.reg aGl) (.cond (.t 11) (.seq (.seq (.reg aGm) (.cond (.t 12) (.seq (.reg aGn) .ret) .skip)) (.seq (.reg aGo) .ret)) .skip)) (.seq (.seq (.reg aGp) (.cond (.t 13) (.seq (.reg aGq) .ret) .skip)) (.seq (.seq (.reg aGr) (.cond (.t 16) (.seq (.reg mI) .ret) .skip)) (.seq (.seq (.reg mJ) (.cond (.t 19) (.seq (.reg mK) .ret) .skip)) (.seq (.reg mL) .ret))))))))⟩
/-! cmp.isNaN[int] -/
@[go_sem] def aGs:=k 0xbc48
@[go_sem] def aGt:=k 0xcc6d5238de4fa60c88ccc
def LO:TF:=⟨6,[.t 2],(.seq (.reg aGs) (.seq (.reg aGt) .ret))⟩
def aOf:Nat→Option TF
 | 7=>some eK
 | 10=>some eL
 | 11=>some eM
 | 12=>some eO
 | 13=>some Oh
 | 14=>some Tq
 | 15=>some Tr
 | 16=>some Tt
 | 17=>some eP
 | 18=>some Tu
 | 20=>some PY
 | 21=>some PZ
 | 22=>some Gl
 | 23=>some P1
 | 24=>some P5
 | 25=>some P6
 | 26=>some P7
 | 27=>some P8
 | 28=>some LP
 | 29=>some P9
 | 30=>some Qa
 | 31=>some Qb
 | 32=>some Qc
 | 33=>some Qd
 | 34=>some Qe
 | 35=>some Qf
 | 36=>some Qg
 | 37=>some CV
 | 38=>some Qh
 | 39=>some Qi
 | 40=>some Qj
 | 41=>some Qk
 | 42=>some Ql
 | 43=>some Qm
 | 44=>some Qn
 | 45=>some Qo
 | 46=>some Fr
 | 47=>some Gm
 | 48=>some LQ
 | 49=>some Qp
 | 50=>some Qq
 | 51=>some LR
 | 52=>some Qr
 | 53=>some Qs
 | 54=>some Qt
 | 55=>some Qu
 | 56=>some Qv
 | 57=>some Qw
 | 58=>some LS
 | 59=>some LT
 | 60=>some Qx
 | 61=>some Qy
 | 62=>some LU
 | 63=>some LV
 | 64=>some Qz
 | 65=>some QA
 | 66=>some QB
 | 67=>some QC
 | 68=>some QD
 | 69=>some LW
 | 70=>some CW
 | 71=>some Ia
 | 72=>some QE
 | 73=>some QF
 | 74=>some QG
 | 75=>some Gn
 | 76=>some QH
 | 77=>some QI
 | 78=>some QJ
 | 79=>some QK
 | 80=>some QL
 | 81=>some QM
 | 82=>some QN
 | 83=>some A9
 | 84=>some QO
 | 85=>some QP
 | 86=>some QQ
 | 87=>some QR
 | 88=>some QS
 | 89=>some QT
 | 90=>some QU
 | 91=>some QV
 | 92=>some QW
 | 93=>some QX
 | 94=>some QY
 | 95=>some QZ
 | 96=>some Q0
 | 97=>some Q4
 | 98=>some LX
 | 99=>some Ib
 | 100=>some Q5
 | 101=>some Gp
 | 102=>some Ea
 | 103=>some Ic
 | 104=>some Q6
 | 105=>some Q7
 | 106=>some CC
 | 107=>some Q8
 | 108=>some Q9
 | 109=>some Id
 | 110=>some KY
 | 111=>some KZ
 | 112=>some K0
 | 113=>some K2
 | 114=>some K3
 | 115=>some K4
 | 116=>some K5
 | 117=>some K6
 | 118=>some K7
 | 119=>some K8
 | 120=>some K9
 | 121=>some FQ
 | 122=>some Hu
 | 123=>some La
 | 124=>some Lb
 | 125=>some Lc
 | 126=>some Ld
 | 127=>some Le
 | 128=>some Lf
 | 129=>some Hv
 | 130=>some Lg
 | 131=>some Lh
 | 132=>some Li
 | 133=>some Lj
 | 134=>some Lk
 | 135=>some Ll
 | 136=>some Lm
 | 137=>some Ln
 | 138=>some Lo
 | 139=>some Lp
 | 140=>some Lq
 | 141=>some Lr
 | 142=>some Ls
 | 143=>some Lt
 | 144=>some Lu
 | 145=>some Lv
 | 146=>some Lw
 | 147=>some Lx
 | 148=>some Ly
 | 149=>some Lz
 | 150=>some LA
 | 151=>some LB
 | 169=>some LC
 | 170=>some LD
 | 171=>some LE
 | 172=>some LF
 | 173=>some FR
 | 174=>some LG
 | 175=>some LH
 | 176=>some Hw
 | 177=>some LI
 | 178=>some LJ
 | 179=>some LK
 | 180=>some LL
 | 181=>some LM
 | 182=>some LN
 | 183=>some LO
 | _=>none
def Tv:Nat→String→Option Xd
 | 149,"Push"=>some ⟨Ks,none⟩
 | 149,"Len"=>some ⟨O3,none⟩
 | 149,"Less"=>some ⟨NL,none⟩
 | 149,"Swap"=>some ⟨Kt,none⟩
 | 149,"Pop"=>some ⟨Kr,none⟩
 | 121,"Change"=>some ⟨NH,none⟩
 | 91,"Change"=>some ⟨SI,none⟩
 | 121,"StopAll"=>some ⟨NK,none⟩
 | 91,"StopAll"=>some ⟨SL,none⟩
 | 121,"Send"=>some ⟨NJ,none⟩
 | 91,"Send"=>some ⟨SK,none⟩
 | 121,"Recv"=>some ⟨NI,none⟩
 | 91,"Recv"=>some ⟨SJ,none⟩
 | _,_=>none
def tp:TP:=⟨aOf,Tv⟩
theorem aYS:tp.fn aYX=some eK:=rfl
theorem aYT:tp.fn sU=some eL:=rfl
theorem aYU:tp.fn sV=some eM:=rfl
theorem aYV:tp.fn sW=some eO:=rfl
theorem Zh:tp.fn SQ=some Oh:=rfl
theorem aAu:tp.fn SR=some Tq:=rfl
theorem aAv:tp.fn sY=some Tr:=rfl
theorem aAw:tp.fn VX=some Tt:=rfl
theorem aYW:tp.fn aNr=some eP:=rfl
theorem aAx:tp.fn sZ=some Tu:=rfl
theorem aMg:tp.fn Uk=some PY:=rfl
theorem aMh:tp.fn Zx=some PZ:=rfl
theorem Nt:tp.fn Kp=some Gl:=rfl
theorem aMi:tp.fn MA=some P1:=rfl
theorem aMj:tp.fn Ul=some P5:=rfl
theorem aMk:tp.fn Um=some P6:=rfl
theorem aMl:tp.fn Un=some P7:=rfl
theorem aMm:tp.fn Zy=some P8:=rfl
theorem aMn:tp.fn Zz=some LP:=rfl
theorem aMo:tp.fn ZA=some P9:=rfl
theorem aMp:tp.fn ZB=some Qa:=rfl
theorem aMq:tp.fn ZD=some Qb:=rfl
theorem aMr:tp.fn ZE=some Qc:=rfl
theorem aMs:tp.fn Uo=some Qd:=rfl
theorem aMt:tp.fn ZF=some Qe:=rfl
theorem aMu:tp.fn ZG=some Qf:=rfl
theorem aMv:tp.fn ZH=some Qg:=rfl
theorem FE:tp.fn Up=some CV:=rfl
theorem aMw:tp.fn Uq=some Qh:=rfl
theorem aMx:tp.fn ZI=some Qi:=rfl
theorem aMy:tp.fn ZJ=some Qj:=rfl
theorem aMz:tp.fn ZK=some Qk:=rfl
theorem aMA:tp.fn ZL=some Ql:=rfl
theorem aMB:tp.fn Ur=some Qm:=rfl
theorem aMC:tp.fn ZM=some Qn:=rfl
theorem aMD:tp.fn ZN=some Qo:=rfl
theorem Kj:tp.fn Us=some Fr:=rfl
theorem Nv:tp.fn Ut=some Gm:=rfl
theorem Zg:tp.fn Uu=some LQ:=rfl
theorem aME:tp.fn ZO=some Qp:=rfl
theorem aMF:tp.fn ZP=some Qq:=rfl
theorem Zi:tp.fn O2=some LR:=rfl
theorem aMG:tp.fn ZR=some Qr:=rfl
theorem aMH:tp.fn ZT=some Qs:=rfl
theorem aMI:tp.fn ZU=some Qt:=rfl
theorem aMJ:tp.fn ZV=some Qu:=rfl
theorem aMK:tp.fn ZW=some Qv:=rfl
theorem aML:tp.fn ZX=some Qw:=rfl
theorem Zj:tp.fn Uv=some LS:=rfl
theorem Zk:tp.fn Uw=some LT:=rfl
theorem aMM:tp.fn ZY=some Qx:=rfl
theorem aMN:tp.fn ZZ=some Qy:=rfl
theorem Zl:tp.fn Ux=some LU:=rfl
theorem Zm:tp.fn Uy=some LV:=rfl
theorem aMO:tp.fn Uz=some Qz:=rfl
theorem aMP:tp.fn UA=some QA:=rfl
theorem aMQ:tp.fn O3=some QB:=rfl
theorem aMR:tp.fn UB=some QC:=rfl
theorem aMS:tp.fn Z0=some QD:=rfl
theorem Zn:tp.fn Z2=some LW:=rfl
theorem FF:tp.fn UC=some CW:=rfl
theorem R1:tp.fn UD=some Ia:=rfl
theorem aMT:tp.fn Z3=some QE:=rfl
theorem aMU:tp.fn UE=some QF:=rfl
theorem aMV:tp.fn UF=some QG:=rfl
theorem Nw:tp.fn UG=some Gn:=rfl
theorem aMW:tp.fn UH=some QH:=rfl
theorem aMX:tp.fn Z4=some QI:=rfl
theorem aMY:tp.fn Z5=some QJ:=rfl
theorem aMZ:tp.fn UI=some QK:=rfl
theorem aM0:tp.fn Z6=some QL:=rfl
theorem aM1:tp.fn Z7=some QM:=rfl
theorem aM2:tp.fn Z8=some QN:=rfl
theorem BF:tp.fn UJ=some A9:=rfl
theorem aM3:tp.fn UK=some QO:=rfl
theorem aM4:tp.fn Z9=some QP:=rfl
theorem aM5:tp.fn aA=some QQ:=rfl
theorem aM6:tp.fn aB=some QR:=rfl
theorem aM7:tp.fn aC=some QS:=rfl
theorem aM8:tp.fn aD=some QT:=rfl
theorem aM9:tp.fn aE=some QU:=rfl
theorem aNa:tp.fn aF=some QV:=rfl
theorem aNb:tp.fn aG=some QW:=rfl
theorem aNc:tp.fn aH=some QX:=rfl
theorem aNe:tp.fn aI=some QY:=rfl
theorem aNf:tp.fn aJ=some QZ:=rfl
theorem aNg:tp.fn aK=some Q0:=rfl
theorem aNh:tp.fn aL=some Q4:=rfl
theorem Zo:tp.fn UL=some LX:=rfl
theorem R5:tp.fn UM=some Ib:=rfl
theorem aNi:tp.fn aM=some Q5:=rfl
theorem Nx:tp.fn aN=some Gp:=rfl
theorem Ha:tp.fn aO=some Ea:=rfl
theorem R6:tp.fn aP=some Ic:=rfl
theorem aNj:tp.fn aQ=some Q6:=rfl
theorem aNk:tp.fn aR=some Q7:=rfl
theorem Fc:tp.fn O4=some CC:=rfl
theorem aNl:tp.fn aS=some Q8:=rfl
theorem aNm:tp.fn aU=some Q9:=rfl
theorem R7:tp.fn Ku=some Id:=rfl
theorem qL:tp.fn R9=some KY:=rfl
theorem qM:tp.fn Sa=some KZ:=rfl
theorem qN:tp.fn Sb=some K0:=rfl
theorem qO:tp.fn Sc=some K2:=rfl
theorem qP:tp.fn Sd=some K3:=rfl
theorem qQ:tp.fn Se=some K4:=rfl
theorem qR:tp.fn IC=some K5:=rfl
theorem qS:tp.fn Sf=some K6:=rfl
theorem qT:tp.fn Sg=some K7:=rfl
theorem qU:tp.fn Si=some K8:=rfl
theorem qV:tp.fn Sj=some K9:=rfl
theorem Ns:tp.fn NC=some FQ:=rfl
theorem Ud:tp.fn ND=some Hu:=rfl
theorem qW:tp.fn NE=some La:=rfl
theorem qX:tp.fn Km=some Lb:=rfl
theorem qY:tp.fn Ko=some Lc:=rfl
theorem qZ:tp.fn Sk=some Ld:=rfl
theorem rA:tp.fn Sm=some Le:=rfl
theorem rB:tp.fn Sn=some Lf:=rfl
theorem Ue:tp.fn Hd=some Hv:=rfl
theorem rC:tp.fn So=some Lg:=rfl
theorem rD:tp.fn Sp=some Lh:=rfl
theorem rE:tp.fn Sq=some Li:=rfl
theorem rF:tp.fn Sr=some Lj:=rfl
theorem rG:tp.fn Ss=some Lk:=rfl
theorem rH:tp.fn St=some Ll:=rfl
theorem rI:tp.fn Su=some Lm:=rfl
theorem rJ:tp.fn Sv=some Ln:=rfl
theorem rK:tp.fn NF=some Lo:=rfl
theorem rL:tp.fn Sw=some Lp:=rfl
theorem rM:tp.fn NG=some Lq:=rfl
theorem rN:tp.fn Sx=some Lr:=rfl
theorem rO:tp.fn Sy=some Ls:=rfl
theorem rP:tp.fn Sz=some Lt:=rfl
theorem rQ:tp.fn SA=some Lu:=rfl
theorem rR:tp.fn SB=some Lv:=rfl
theorem rS:tp.fn SC=some Lw:=rfl
theorem rT:tp.fn SD=some Lx:=rfl
theorem rU:tp.fn Kq=some Ly:=rfl
theorem rV:tp.fn SF=some Lz:=rfl
theorem rX:tp.fn SG=some LA:=rfl
theorem rY:tp.fn SH=some LB:=rfl
theorem rZ:tp.fn SI=some LC:=rfl
theorem sC:tp.fn SJ=some LD:=rfl
theorem sD:tp.fn SK=some LE:=rfl
theorem sE:tp.fn SL=some LF:=rfl
theorem Nu:tp.fn NH=some FR:=rfl
theorem sF:tp.fn NI=some LG:=rfl
theorem sG:tp.fn NJ=some LH:=rfl
theorem Uf:tp.fn NK=some Hw:=rfl
theorem sH:tp.fn NL=some LI:=rfl
theorem sI:tp.fn Kr=some LJ:=rfl
theorem sJ:tp.fn Ks=some LK:=rfl
theorem sK:tp.fn Kt=some LL:=rfl
theorem sL:tp.fn SM=some LM:=rfl
theorem sM:tp.fn SN=some LN:=rfl
theorem sN:tp.fn SO=some LO:=rfl
@[go_sem] theorem iZ:tp.meth 149 "Push"=some ⟨Ks,none⟩:=by kernel_rfl
@[go_sem] theorem tR:tp.meth 149 "Len"=some ⟨O3,none⟩:=by kernel_rfl
@[go_sem] theorem iY:tp.meth 149 "Less"=some ⟨NL,none⟩:=by kernel_rfl
@[go_sem] theorem jA:tp.meth 149 "Swap"=some ⟨Kt,none⟩:=by kernel_rfl
@[go_sem] theorem tS:tp.meth 149 "Pop"=some ⟨Kr,none⟩:=by kernel_rfl
@[go_sem] theorem Jx:tp.meth 121 "Change"=some ⟨NH,none⟩:=by kernel_rfl
@[go_sem] theorem KD:tp.meth 91 "Change"=some ⟨SI,none⟩:=by kernel_rfl
@[go_sem] theorem IK:tp.meth 121 "StopAll"=some ⟨NK,none⟩:=by kernel_rfl
@[go_sem] theorem Jy:tp.meth 91 "StopAll"=some ⟨SL,none⟩:=by kernel_rfl
@[go_sem] theorem Mf:tp.meth 121 "Send"=some ⟨NJ,none⟩:=by kernel_rfl
@[go_sem] theorem NS:tp.meth 91 "Send"=some ⟨SK,none⟩:=by kernel_rfl
@[go_sem] theorem Me:tp.meth 121 "Recv"=some ⟨NI,none⟩:=by kernel_rfl
@[go_sem] theorem NR:tp.meth 91 "Recv"=some ⟨SJ,none⟩:=by kernel_rfl
end Go.Ab.T
