/- Part of a proof that a law returns true for every input of the second form's bound (no other condition). -/
import Derived.Test.YtcjjajphbamjlaaGreatPE
set_option linter.all false
/- The abstract machine's text of the functions, its regions as numbers. Written by a tool. -/
namespace Go.Ab.T
open Go Go.Ab
set_option maxRecDepth 100000
abbrev i_Q0:Nat:=3
abbrev i_Q1:Nat:=12
abbrev i_Q2:Nat:=13
abbrev i_Q3:Nat:=14
abbrev i_Q4:Nat:=15
abbrev i_Q5:Nat:=16
abbrev i_Q6:Nat:=17
abbrev i_Q7:Nat:=18
abbrev i_Q8:Nat:=19
abbrev i_Q9:Nat:=20
abbrev i_Q10:Nat:=21
abbrev i_Q11:Nat:=22
abbrev i_Q12:Nat:=23
abbrev i_Q13:Nat:=29
abbrev i_Q14:Nat:=31
abbrev i_Q15:Nat:=32
abbrev i_Q16:Nat:=33
abbrev i_Q17:Nat:=41
abbrev i_Q18:Nat:=47
abbrev i_Q19:Nat:=48
abbrev i_Q20:Nat:=49
abbrev i_Q21:Nat:=50
abbrev i_Q22:Nat:=51
abbrev i_Q23:Nat:=52
abbrev i_Q24:Nat:=53
abbrev i_Q25:Nat:=54
abbrev i_Q26:Nat:=55
abbrev i_Q27:Nat:=56
abbrev i_Q28:Nat:=57
abbrev i_Q29:Nat:=58
abbrev i_Q30:Nat:=59
abbrev i_Q31:Nat:=60
abbrev i_Q32:Nat:=61
abbrev i_Q33:Nat:=62
abbrev i_Q34:Nat:=63
abbrev i_Q35:Nat:=64
abbrev i_Q36:Nat:=65
abbrev i_Q37:Nat:=66
abbrev i_Q38:Nat:=67
abbrev i_Q39:Nat:=72
abbrev i_Q40:Nat:=73
abbrev i_Q41:Nat:=74
abbrev i_Q42:Nat:=75
abbrev i_Q43:Nat:=76
abbrev i_Q44:Nat:=77
abbrev i_Q45:Nat:=78
abbrev i_Q46:Nat:=79
abbrev i_Q47:Nat:=80
abbrev i_Q48:Nat:=94
abbrev i_Q49:Nat:=95
abbrev i_Q50:Nat:=96
abbrev i_Q51:Nat:=97
abbrev i_Q52:Nat:=98
abbrev i_Q53:Nat:=99
abbrev i_Q54:Nat:=100
abbrev i_Q55:Nat:=101
abbrev i_Q56:Nat:=102
abbrev i_Q57:Nat:=103
abbrev i_Q58:Nat:=104
abbrev i_Q59:Nat:=105
abbrev i_Q60:Nat:=106
abbrev i_Q61:Nat:=107
abbrev i_Q62:Nat:=108
abbrev i_Q63:Nat:=109
abbrev i_Q64:Nat:=110
abbrev i_Q65:Nat:=111
abbrev i_Q66:Nat:=112
abbrev i_Q67:Nat:=113
abbrev i_Q68:Nat:=114
abbrev i_Q69:Nat:=115
abbrev i_Q70:Nat:=116
abbrev i_Q71:Nat:=117
abbrev i_Q72:Nat:=118
abbrev i_Q73:Nat:=119
abbrev i_Q74:Nat:=122
abbrev i_Q75:Nat:=123
abbrev i_Q76:Nat:=124
abbrev i_Q77:Nat:=125
abbrev i_Q78:Nat:=126
abbrev i_Q79:Nat:=127
abbrev i_Q80:Nat:=128
abbrev i_Q81:Nat:=129
abbrev i_Q82:Nat:=150
abbrev i_Q83:Nat:=151
abbrev i_Q84:Nat:=152
abbrev i_Q85:Nat:=153
abbrev i_Q86:Nat:=154
abbrev i_Q87:Nat:=155
abbrev i_Q88:Nat:=156
abbrev i_Q89:Nat:=157
abbrev i_Q90:Nat:=158
abbrev i_Q91:Nat:=159
abbrev i_Q92:Nat:=160
abbrev i_Q93:Nat:=161
abbrev i_Q94:Nat:=162
abbrev i_Q95:Nat:=163
abbrev i_Q96:Nat:=164
abbrev i_Q97:Nat:=165
abbrev i_Q98:Nat:=166
abbrev i_Q99:Nat:=167
abbrev i_Q100:Nat:=168
abbrev i_Q101:Nat:=169
abbrev i_Q102:Nat:=170
abbrev i_Q103:Nat:=171
abbrev i_Q104:Nat:=172
abbrev i_Q105:Nat:=173
abbrev i_Q106:Nat:=177
abbrev i_Q107:Nat:=178
abbrev i_Q108:Nat:=179
abbrev i_Q109:Nat:=180
abbrev i_Q110:Nat:=181
abbrev i_Q111:Nat:=182
abbrev i_Q112:Nat:=183
abbrev i_Q113:Nat:=184
abbrev i_Q114:Nat:=185
abbrev i_Q115:Nat:=186
abbrev i_Q116:Nat:=201
abbrev i_Q117:Nat:=202
abbrev i_Q118:Nat:=203
abbrev i_Q119:Nat:=204
abbrev i_Q120:Nat:=205
abbrev i_Q121:Nat:=206
abbrev i_Q122:Nat:=209
abbrev i_Q123:Nat:=210
def wrs:List Nat:=[i_Q18,i_Q13,i_Q19,i_Q20,i_Q1,i_Q116,i_Q84,i_Q49,i_Q82]
def xgt {α:Type} (z:α):List α→Nat→α
 | [],_=>z
 | x::_,0=>x
 | _::l,n+1=>xgt z l n
def xgi:Nat→Int:=xgt 0 [0,1,2,3,4,5,6,7,8,9,10,11,12,13,14,15,16,17,18,19,20,21,22,23,24,25,26,27,28,29,30,31]
def sh0:List ((Nat→Nat)→O):=[fun p=>.mv (.t (p 0)),
fun p=>.load 1 false (.t (p 0)),
fun p=>.fad (p 0) (.t (p 1)),
fun p=>.mv (.c (.i .i64 (xgi (p 0)))),
fun p=>.len (.t (p 0)),
fun p=>.bin .add (.t (p 0)) (.c (.i .i64 (xgi (p 1)))),
fun p=>.bin .lss (.t (p 0)) (.t (p 1)),
fun p=>.pick (.t (p 0)) (.t (p 1)) (.c (.b false)),
fun p=>.mv (.c (.b false)),
fun p=>.pick (.t (p 0)) (.c (.b true)) (.t (p 1)),
fun p=>.mv (.c .ns),
fun p=>.load 3 true (.t (p 0)),
fun p=>.bin .eql (.t (p 0)) (.c (.i .i64 (xgi (p 1)))),
fun p=>.iad 1 (.t (p 0)) (.t (p 1)),
fun p=>.iad 2 (.t (p 0)) (.t (p 1)),
fun p=>.nck (.t (p 0)),
fun p=>.box (.t (p 0)),
fun p=>.bin .lss (.t (p 0)) (.c (.i .i64 (xgi (p 1)))),
fun p=>.un .not (.t (p 0)),
fun p=>.bin .add (.t (p 0)) (.t (p 1)),
fun p=>.store 1 (.t (p 0)) (.t (p 1)),
fun p=>.load 2 true (.t (p 0)),
fun p=>.bin .sub (.t (p 0)) (.c (.i .i64 (xgi (p 1)))),
fun p=>.bin .gtr (.t (p 0)) (.c (.i .i64 (xgi (p 1))))]
def sh1:List ((Nat→Nat)→O):=[fun p=>.iad 3 (.t (p 0)) (.t (p 1)),
fun p=>.ext (.t (p 0)) 0,
fun p=>.ext (.t (p 0)) 1,
fun p=>.store 2 (.t (p 0)) (.t (p 1)),
fun p=>.call (.fn i_Q18) [(.t (p 0)),(.c (.i .i64 (xgi (p 1))))],
fun p=>.alloc [(.i .i64 0),(.i .i64 0)],
fun p=>.bin .eql (.t (p 0)) (.t (p 1)),
fun p=>.bin .neq (.t (p 0)) (.t (p 1)),
fun p=>.bin .geq (.t (p 0)) (.c (.i .i64 (xgi (p 1)))),
fun p=>.bin .neq (.t (p 0)) (.c (.i .i64 (xgi (p 1)))),
fun p=>.mv (.c (.i .i64 (-1))),
fun p=>.mv (.c (.b true)),
fun p=>.store 6 (.t (p 0)) (.t (p 1)),
fun p=>.app 2 (.t (p 0)) (.t (p 1)),
fun p=>.iad 6 (.t (p 0)) (.t (p 1)),
fun p=>.chk 1 false (.t (p 0)) (.t (p 1)),
fun p=>.iad 11 (.t (p 0)) (.t (p 1)),
fun p=>.bin .sub (.t (p 0)) (.t (p 1)),
fun p=>.store 3 (.t (p 0)) (.t (p 1)),
fun p=>.bin .geq (.t (p 0)) (.t (p 1)),
fun p=>.bin .gtr (.t (p 0)) (.t (p 1)),
fun p=>.fload 1 false (.t (p 0)),
fun p=>.bsl 2 [(.i .i64 0),(.i .i64 0)] 1 [(0,(.t (p 0)))],
fun p=>.load 6 true (.t (p 0))]
def sh2:List ((Nat→Nat)→O):=[fun p=>.app 1 (.t (p 0)) (.t (p 1)),
fun p=>.bsl 3 [(.i .i64 0),(.i .i64 0),(.i .i64 0)] 1 [(0,(.t (p 0)))],
fun p=>.store 1 (.t (p 0)) (.c (.i .i64 (xgi (p 1)))),
fun p=>.bin .add (.c (.i .i64 (xgi (p 0)))) (.t (p 1)),
fun p=>.bin .rem (.t (p 0)) (.t (p 1)),
fun p=>.mx [(.t (p 0)),(.t (p 1))],
fun p=>.bin .mul (.t (p 0)) (.t (p 1)),
fun p=>.build [(.i .i64 0),(.i .i64 0),(.i .i64 0)] [(0,1,(.c (.i .i64 (xgi (p 0))))),(2,1,(.t (p 1)))],
fun p=>.app 3 (.t (p 0)) (.t (p 1)),
fun p=>.alloc [.ns,.ns,.ns],
fun p=>.ext (.t (p 0)) 2,
fun p=>.alloc [(.i .i64 0),(.i .i64 0),(.i .i64 0),(.i .i64 0),(.i .i64 0),(.b false)],
fun p=>.call (.fn i_Q3) [(.t (p 0))],
fun p=>.build [(.i .i64 0),(.i .i64 0)] [(0,1,(.t (p 0))),(1,1,(.t (p 1)))],
fun p=>.load 11 true (.t (p 0)),
fun p=>.bsl 1 [.ns] 1 [(0,(.t (p 0)))],
fun p=>.call (.fn i_Q30) [(.t (p 0)),(.t (p 1))],
fun p=>.bin .neq (.t (p 0)) (.c (.i .i64 (-1))),
fun p=>.alloc [(.i .i64 0),(.i .i64 0),(.b false),(.i .i64 0),(.i .u32 0),(.i .i64 0)],
fun p=>.store 1 (.t (p 0)) (.c (.b true)),
fun p=>.bin .leq (.t (p 0)) (.t (p 1)),
fun p=>.call (.fn i_Q85) [(.t (p 0)),(.t (p 1))],
fun p=>.mn [(.c (.i .i64 4097)),(.t (p 0))],
fun p=>.sidx (.t (p 0)) (.t (p 1))]
def sh3:List ((Nat→Nat)→O):=[fun p=>.call (.fn i_Q4) [(.t (p 0))],
fun p=>.alloc [(.s ⟨#[]⟩),(.i .i64 0),(.i .i64 0),(.b false),(.b false),.ns,(.i .i64 0),(.i .i64 0),(.i .i64 0),(.i .i64 0),(.i .i64 0)],
fun p=>.store 11 (.t (p 0)) (.t (p 1)),
fun p=>.call (.fn i_Q18) [(.t (p 0)),(.t (p 1))],
fun p=>.call (.fn i_Q28) [(.t (p 0))],
fun p=>.call (.fn i_Q42) [(.t (p 0))],
fun p=>.mn [(.t (p 0)),(.t (p 1))],
fun p=>.call (.fn i_Q50) [(.t (p 0))],
fun p=>.slice 1 (.t (p 0)) (some (.t (p 1))) (some (.t (p 2))) none,
fun p=>.e0,
fun p=>.alloc [(.i .i64 0),(.i .i64 0),(.b false)],
fun p=>.bin .leq (.t (p 0)) (.c (.i .i64 4096)),
fun p=>.bsl 1 [(.i .i64 0)] 1 [(0,(.t (p 0)))],
fun p=>.nck (.c .np),
fun p=>.cap (.t (p 0)),
fun p=>.mn [(.t (p 0)),(.c (.i .i64 4097))],
fun p=>.call (.fn i_Q6) [(.t (p 0)),(.t (p 1))],
fun p=>.chkb 1 [(.i .u32 0)] 3 [(0,(.c (.i .u32 4294967295))),(1,(.c (.i .u32 200))),(2,(.c (.i .u32 3)))] (.t (p 0)),
fun p=>.chka [(.i .i64 0),(.i .i64 0),(.b false),(.i .i64 0),(.i .u32 0),(.i .i64 0)] (.t (p 0)),
fun p=>.call (.fn i_Q22) [(.t (p 0)),(.t (p 1))],
fun p=>.call (.fn i_Q25) [(.t (p 0))],
fun p=>.build [(.i .i64 0),(.i .i64 0),(.i .i64 0)] [(0,1,(.c (.i .i64 (xgi (p 0))))),(2,1,(.c (.i .i64 (xgi (p 1)))))],
fun p=>.mx [(.t (p 0)),(.c (.i .i64 (xgi (p 1))))],
fun p=>.call (.fn i_Q53) [(.t (p 0))]]
def sh4:List ((Nat→Nat)→O):=[fun p=>.call (.t (p 0)) [(.t (p 1)),(.t (p 2))],
fun p=>.alloc [(.i .i64 0),(.i .i64 0),(.i .i64 0),(.i .i64 0)],
fun p=>.store 4 (.t (p 0)) (.t (p 1)),
fun p=>.call (.fn i_Q59) [(.t (p 0))],
fun p=>.slice 1 (.t (p 0)) none (some (.t (p 1))) none,
fun p=>.call (.fn i_Q62) [(.t (p 0))],
fun p=>.call (.fn i_Q64) [(.t (p 0))],
fun p=>.bin .gtr (.t (p 0)) (.c (.i .i64 4096)),
fun p=>.call (.fn i_Q87) [(.t (p 0)),(.t (p 1))],
fun p=>.mx [(.c (.i .i64 (xgi (p 0)))),(.t (p 1))],
fun p=>.call (.fn i_Q102) [(.t (p 0)),(.t (p 1))],
fun p=>.call (.t (p 0)) [(.t (p 1))],
fun p=>.slen (.t (p 0)),
fun p=>.call (.fn i_Q2) [(.t (p 0)),(.t (p 1))],
fun p=>.call (.fn i_Q5) [(.t (p 0))],
fun p=>.call (.fn i_Q8) [(.t (p 0))],
fun p=>.call (.fn i_Q9) [(.t (p 0)),(.t (p 1))],
fun p=>.bin .mul (.c (.i .i64 (xgi (p 0)))) (.t (p 1)),
fun p=>.app 6 (.t (p 0)) (.t (p 1)),
fun p=>.call (.fn i_Q23) [(.t (p 0)),(.t (p 1))],
fun p=>.call (.fn i_Q26) [(.t (p 0))],
fun p=>.bin .gtr (.t (p 0)) (.c (.i .i64 96)),
fun p=>.call (.fn i_Q31) [(.t (p 0)),(.t (p 1)),(.t (p 2))],
fun p=>.call (.fn i_Q32) [(.t (p 0)),(.t (p 1)),(.t (p 2))]]
def sh5:List ((Nat→Nat)→O):=[fun p=>.call (.fn i_Q35) [(.t (p 0)),(.t (p 1))],
fun p=>.eq true (.agg [.i,.i,.i]) (.t (p 0)) (.t (p 1)),
fun p=>.build [(.i .i64 0),(.i .i64 0)] [(1,1,(.c (.i .i64 (xgi (p 0)))))],
fun p=>.call (.fn i_Q14) [(.t (p 0)),(.t (p 1))],
fun p=>.call (.fn i_Q16) [(.t (p 0)),(.t (p 1)),(.t (p 2))],
fun p=>.call (.fn i_Q38) [],
fun p=>.build [(.i .i64 0),(.i .i64 0),(.i .i64 0)] [(0,1,(.c (.i .i64 (xgi (p 0))))),(1,1,(.t (p 1))),(2,1,(.t (p 2)))],
fun p=>.call (.fn i_Q13) [(.t (p 0)),(.t (p 1)),(.t (p 2))],
fun p=>.call (.fn i_Q41) [(.t (p 0)),(.t (p 1))],
fun p=>.eq true (.agg [.i,.i]) (.t (p 0)) (.t (p 1)),
fun p=>.call (.fn i_Q46) [(.t (p 0))],
fun p=>.bin .eql (.t (p 0)) (.c (.i .i64 (-1))),
fun p=>.call (.fn i_Q58) [(.t (p 0))],
fun p=>.bsl 1 [.ns] 2 [(0,(.t (p 0))),(1,(.t (p 1)))],
fun p=>.bin .gtr (.t (p 0)) (.c (.i .i64 128)),
fun p=>.eq false .sl (.t (p 0)) (.c .ns),
fun p=>.bin .sub (.c (.i .i64 9223372036854775807)) (.t (p 0)),
fun p=>.mv (.c (.i .i64 9223372036854775807)),
fun p=>.call (.fn i_Q67) [(.t (p 0))],
fun p=>.call (.fn i_Q68) [(.t (p 0)),(.t (p 1)),(.t (p 2))],
fun p=>.call (.fn i_Q69) [(.t (p 0)),(.t (p 1)),(.t (p 2))],
fun p=>.call (.fn i_Q9) [(.t (p 0)),(.c (.i .i64 (-1)))],
fun p=>.mksl [(.b false)] (.t (p 0)) (.t (p 1)),
fun p=>.call (.fn i_Q44) [(.t (p 0)),(.t (p 1)),(.t (p 2))]]
def sh6:List ((Nat→Nat)→O):=[fun p=>.call (.fn i_Q74) [(.t (p 0)),(.t (p 1))],
fun p=>.build [(.i .i64 0),(.i .i64 0),(.b false)] [(0,1,(.t (p 0))),(1,1,(.t (p 1)))],
fun p=>.call (.fn i_Q76) [(.t (p 0)),(.t (p 1)),(.t (p 2))],
fun p=>.build [(.i .i64 0),(.i .i64 0),(.b false)] [(0,1,(.t (p 0))),(1,1,(.t (p 1))),(2,1,(.c (.b true)))],
fun p=>.bsl 3 [(.i .i64 0),(.i .i64 0),(.b false)] 2 [(0,(.t (p 0))),(1,(.t (p 1)))],
fun p=>.call (.fn i_Q78) [(.t (p 0)),(.t (p 1))],
fun p=>.mv (.c .np),
fun p=>.call (.fn i_Q88) [(.t (p 0))],
fun p=>.mkif 9 (.c (.s ⟨#[108,101,110,32,111,117,116,32,111,102,32,114,97,110,103,101]⟩)),
fun p=>.call (.fn i_Q97) [(.t (p 0))],
fun p=>.call (.fn i_Q66) [(.t (p 0)),(.t (p 1)),(.t (p 2))],
fun p=>.call (.fn i_Q106) [(.t (p 0)),(.t (p 1))],
fun p=>.slice 2 (.t (p 0)) (some (.t (p 1))) (some (.t (p 2))) none,
fun p=>.call (.fn i_Q109) [(.t (p 0)),(.t (p 1)),(.t (p 2))],
fun p=>.call (.fn i_Q111) [(.t (p 0)),(.t (p 1)),(.t (p 2))],
fun p=>.call (.fn i_Q110) [(.t (p 0)),(.t (p 1))],
fun p=>.call (.fn i_Q112) [(.t (p 0)),(.c (.i .i64 (-1)))],
fun p=>.alloc [(.i .i64 0),(.i .i64 0),(.i .i64 0)],
fun p=>.mkif 9 (.c (.s ⟨#[99,97,110,110,111,116,32,98,101,32,110,101,103,97,116,105,118,101]⟩)),
fun p=>.slice 3 (.t (p 0)) none (some (.t (p 1))) none,
fun p=>.bsl 6 [(.i .i64 0),(.i .i64 0),(.i .i64 0),(.i .i64 0),(.i .i64 0),(.i .i64 0)] 1 [(0,(.t (p 0)))],
fun p=>.call (.fn i_Q118) [(.t (p 0))],
fun p=>.iad 6 (.t (p 0)) (.c (.i .i64 (xgi (p 1)))),
fun p=>.call (.fn i_Q99) [(.t (p 0)),(.t (p 1))]]
def sh7:List ((Nat→Nat)→O):=[fun p=>.call (.fn i_Q123) [(.t (p 0)),(.t (p 1)),(.t (p 2))],
fun p=>.bin .leq (.t (p 0)) (.c (.i .i64 (xgi (p 1)))),
fun p=>.bin .leq (.t (p 0)) (.c (.i .i64 128)),
fun p=>.build [.ns,(.i .i64 0)] [(0,1,(.t (p 0)))],
fun p=>.call (.fn i_Q1) [(.t (p 0))],
fun p=>.call (.fn i_Q7) [(.t (p 0)),(.t (p 1)),(.t (p 2))],
fun p=>.call (.fn i_Q10) [(.t (p 0)),(.t (p 1))],
fun p=>.call (.fn i_Q11) [(.t (p 0)),(.t (p 1))],
fun p=>.call (.fn i_Q12) [],
fun p=>.bin .add (.c (.i .i64 97)) (.t (p 0)),
fun p=>.conv .i32 (.t (p 0)),
fun p=>.i2s (.t (p 0)),
fun p=>.bin .add (.c (.s ⟨#[112]⟩)) (.t (p 0)),
fun p=>.build [(.s ⟨#[]⟩),(.i .i64 0),(.i .i64 0),(.b false),(.b false),.ns,(.i .i64 0),(.i .i64 0),(.i .i64 0),(.i .i64 0),(.i .i64 0)] [(0,1,(.t (p 0))),(3,1,(.t (p 1))),(4,1,(.t (p 2)))],
fun p=>.bsl 1 [(.i .i64 0)] 5 [(0,(.c (.i .i64 (xgi (p 0))))),(1,(.c (.i .i64 (xgi (p 1))))),(2,(.c (.i .i64 (xgi (p 2))))),(3,(.c (.i .i64 (xgi (p 3))))),(4,(.c (.i .i64 (xgi (p 4)))))],
fun p=>.iada 1 5 (.t (p 0)) (.t (p 1)),
fun p=>.bsl 11 [(.s ⟨#[]⟩),(.i .i64 0),(.i .i64 0),(.b false),(.b false),.ns,(.i .i64 0),(.i .i64 0),(.i .i64 0),(.i .i64 0),(.i .i64 0)] 1 [(0,(.t (p 0)))],
fun p=>.app 11 (.t (p 0)) (.t (p 1)),
fun p=>.bslc 1 [(.i .u32 0)] 3 [(0,(.c (.i .u32 4294967295))),(1,(.c (.i .u32 200))),(2,(.c (.i .u32 3)))],
fun p=>.alc [(.i .i64 0),(.i .i64 0),(.b false),(.i .i64 0),(.i .u32 0),(.i .i64 0)],
fun p=>.build [(.i .i64 0),(.i .i64 0),(.b false),(.i .i64 0),(.i .u32 0),(.i .i64 0)] [(0,1,(.t (p 0))),(1,1,(.t (p 1))),(2,1,(.t (p 2))),(4,1,(.t (p 3)))],
fun p=>.bsl 6 [(.i .i64 0),(.i .i64 0),(.b false),(.i .i64 0),(.i .u32 0),(.i .i64 0)] 1 [(0,(.t (p 0)))],
fun p=>.call (.fn i_Q19) [(.t (p 0)),(.t (p 1))],
fun p=>.call (.fn i_Q20) [(.t (p 0)),(.t (p 1))]]
def sh8:List ((Nat→Nat)→O):=[fun p=>.call (.fn i_Q21) [(.t (p 0))],
fun p=>.build [(.i .i64 0),(.i .i64 0),(.i .i64 0),(.i .i64 0),(.i .i64 0),(.b false)] [],
fun p=>.call (.fn i_Q24) [(.t (p 0))],
fun p=>.build [(.i .i64 0),(.i .i64 0),(.i .i64 0),(.i .i64 0),(.i .i64 0),(.b false)] [(0,1,(.t (p 0))),(1,1,(.t (p 1))),(2,1,(.t (p 2))),(3,1,(.t (p 3))),(4,1,(.t (p 4)))],
fun p=>.build [(.i .i64 0),(.i .i64 0),(.i .i64 0),(.i .i64 0),(.i .i64 0),(.b false)] [(1,1,(.t (p 0))),(2,1,(.t (p 1))),(3,1,(.t (p 2))),(4,1,(.t (p 3))),(5,1,(.c (.b true)))],
fun p=>.call (.fn i_Q27) [(.t (p 0))],
fun p=>.call (.fn i_Q29) [(.t (p 0))],
fun p=>.call (.fn i_Q33) [(.t (p 0)),(.t (p 1)),(.t (p 2))],
fun p=>.call (.fn i_Q34) [(.t (p 0))],
fun p=>.call (.fn i_Q36) [(.t (p 0)),(.t (p 1))],
fun p=>.mksl [(.s ⟨#[]⟩),(.i .i64 0),(.i .i64 0),(.b false),(.b false),.ns,(.i .i64 0),(.i .i64 0),(.i .i64 0),(.i .i64 0),(.i .i64 0)] (.c (.i .i64 (xgi (p 0)))) (.c (.i .i64 (xgi (p 1)))),
fun p=>.build [.ns,.ns,.ns] [(0,1,(.t (p 0)))],
fun p=>.call (.fn i_Q2) [(.t (p 0)),(.c .ns)],
fun p=>.build [(.i .i64 0),(.i .i64 0)] [(0,1,(.c (.i .i64 (xgi (p 0))))),(1,1,(.c (.i .i64 (xgi (p 1)))))],
fun p=>.bsl 2 [(.i .i64 0),(.i .i64 0)] 3 [(0,(.t (p 0))),(1,(.t (p 1))),(2,(.t (p 2)))],
fun p=>.call (.fn i_Q37) [(.t (p 0)),(.t (p 1))],
fun p=>.mkfn (.func i_Q43) [] [(.t (p 0)),(.t (p 1))],
fun p=>.call (.fn i_Q40) [(.t (p 0)),(.t (p 1))],
fun p=>.call (.fn i_Q45) [(.t (p 0)),(.t (p 1)),(.t (p 2))],
fun p=>.call (.fn i_Q17) [(.t (p 0)),(.c (.i .i64 (xgi (p 1)))),(.c (.i .i64 1073741824))],
fun p=>.call (.fn i_Q13) [(.t (p 0)),(.t (p 1)),(.c (.i .i64 (xgi (p 2))))],
fun p=>.bin .gtr (.t (p 0)) (.c (.i .i64 90)),
fun p=>.build [(.i .i64 0),(.i .i64 0),(.i .i64 0)] [(0,1,(.c (.i .i64 (xgi (p 0))))),(1,1,(.t (p 1))),(2,1,(.c (.i .i64 (xgi (p 2)))))],
fun p=>.bsl 3 [(.i .i64 0),(.i .i64 0),(.i .i64 0)] 3 [(0,(.t (p 0))),(1,(.t (p 1))),(2,(.t (p 2)))]]
def sh9:List ((Nat→Nat)→O):=[fun p=>.mn [(.t (p 0)),(.c (.i .i64 4096))],
fun p=>.iad 1 (.t (p 0)) (.c (.i .i64 (xgi (p 1)))),
fun p=>.bin .quo (.t (p 0)) (.t (p 1)),
fun p=>.mv (.c (.i .i64 4096)),
fun p=>.call (.fn i_Q47) [(.t (p 0))],
fun p=>.call (.fn i_Q48) [(.t (p 0))],
fun p=>.call (.fn i_Q49) [(.t (p 0))],
fun p=>.call (.fn i_Q51) [(.t (p 0)),(.t (p 1)),(.t (p 2))],
fun p=>.call (.fn i_Q52) [(.t (p 0)),(.t (p 1)),(.t (p 2))],
fun p=>.mv (.fn i_Q54),
fun p=>.call (.fn i_Q55) [(.t (p 0))],
fun p=>.call (.fn i_Q57) [(.t (p 0))],
fun p=>.call (.fn i_Q56) [(.t (p 0)),(.t (p 1))],
fun p=>.slice 1 (.t (p 0)) (some (.t (p 1))) none none,
fun p=>.bsl 1 [.ns] 3 [(0,(.t (p 0))),(1,(.t (p 1))),(2,(.t (p 2)))],
fun p=>.call (.fn i_Q60) [(.t (p 0))],
fun p=>.call (.fn i_Q61) [(.t (p 0))],
fun p=>.call (.fn i_Q63) [(.t (p 0))],
fun p=>.call (.fn i_Q65) [(.t (p 0))],
fun p=>.call (.fn i_Q66) [(.t (p 0)),(.c (.i .i64 (xgi (p 1)))),(.c .ns)],
fun p=>.call (.fn i_Q15) [(.t (p 0)),(.t (p 1))],
fun p=>.mksl [.ns] (.t (p 0)) (.t (p 1)),
fun p=>.call (.fn i_Q70) [(.t (p 0)),(.t (p 1))],
fun p=>.call (.fn i_Q71) [(.t (p 0)),(.t (p 1))]]
def sh10:List ((Nat→Nat)→O):=[fun p=>.call (.fn i_Q72) [(.t (p 0)),(.t (p 1))],
fun p=>.call (.fn i_Q73) [(.fn i_Q72)],
fun p=>.call (.fn i_Q73) [(.fn i_Q39)],
fun p=>.bsl 1 [.nf] 2 [(0,(.t (p 0))),(1,(.t (p 1)))],
fun p=>.call (.fn i_Q75) [(.t (p 0)),(.t (p 1))],
fun p=>.call (.fn i_Q77) [(.t (p 0))],
fun p=>.call (.fn i_Q79) [(.t (p 0)),(.t (p 1)),(.t (p 2))],
fun p=>.call (.fn i_Q80) [(.t (p 0))],
fun p=>.bin .leq (.t (p 0)) (.c (.i .i64 96)),
fun p=>.call (.fn i_Q81) [(.t (p 0))],
fun p=>.build [.ns,.ns,(.i .i64 0),(.i .i64 0),(.i .i64 0)] [(0,1,(.t (p 0)))],
fun p=>.call (.fn i_Q82) [(.t (p 0))],
fun p=>.build [(.i .i64 0),(.i .i64 0)] [],
fun p=>.call (.fn i_Q83) [(.t (p 0))],
fun p=>.call (.fn i_Q84) [(.t (p 0))],
fun p=>.call (.fn i_Q86) [(.t (p 0))],
fun p=>.bsl 1 [(.i .i64 0)] 2 [(0,(.t (p 0))),(1,(.t (p 1)))],
fun p=>.call (.fn i_Q89) [(.t (p 0)),(.t (p 1)),(.t (p 2))],
fun p=>.call (.fn i_Q90) [(.t (p 0))],
fun p=>.call (.fn i_Q91) [(.t (p 0)),(.t (p 1)),(.t (p 2))],
fun p=>.build [(.i .i64 0),(.i .i64 0),(.i .i64 0),(.i .i64 0)] [(0,1,(.t (p 0))),(1,1,(.t (p 1))),(2,1,(.t (p 2))),(3,1,(.t (p 3)))],
fun p=>.load 4 true (.t (p 0)),
fun p=>.alloc [.ns],
fun p=>.mkfn (.func i_Q93) [] [(.t (p 0))]]
def sh11:List ((Nat→Nat)→O):=[fun p=>.call (.fn i_Q92) [(.t (p 0)),(.t (p 1))],
fun p=>.call (.fn i_Q95) [(.c .ns),(.t (p 0))],
fun p=>.call (.fn i_Q96) [(.c .ns),(.t (p 0))],
fun p=>.call (.fn i_Q98) [(.t (p 0)),(.c (.i .i64 (xgi (p 1))))],
fun p=>.call (.fn i_Q99) [(.t (p 0)),(.c (.i .i64 (xgi (p 1))))],
fun p=>.call (.fn i_Q100) [(.t (p 0)),(.c (.i .i64 (xgi (p 1))))],
fun p=>.call (.fn i_Q101) [(.t (p 0)),(.c (.i .i64 (xgi (p 1))))],
fun p=>.build [(.i .i64 0),(.i .i64 0)] [(0,1,(.c (.i .i64 (-1)))),(1,1,(.t (p 0)))],
fun p=>.bin .lss (.t (p 0)) (.c (.i .i64 8192)),
fun p=>.call (.fn i_Q103) [(.t (p 0)),(.t (p 1)),(.t (p 2))],
fun p=>.call (.fn i_Q104) [(.t (p 0)),(.t (p 1))],
fun p=>.mv (.c .nf),
fun p=>.mkfn (.func i_Q105) [] [(.t (p 0))],
fun p=>.alloc [(.i .i64 0)],
fun p=>.mkfn (.func i_Q108) [] [(.t (p 0)),(.t (p 1))],
fun p=>.call (.fn i_Q107) [(.t (p 0)),(.t (p 1))],
fun p=>.bin .geq (.t (p 0)) (.c (.i .i64 (-1))),
fun p=>.call (.fn i_Q113) [(.t (p 0))],
fun p=>.call (.fn i_Q114) [(.t (p 0))],
fun p=>.call (.fn i_Q115) [(.t (p 0)),(.t (p 1))],
fun p=>.store 1 (.t (p 0)) (.c .ns),
fun p=>.call (.fn i_Q116) [(.t (p 0)),(.c (.i .i64 (xgi (p 1))))],
fun p=>.call (.fn i_Q116) [(.t (p 0)),(.t (p 1))],
fun p=>.slice 2 (.t (p 0)) none (some (.t (p 1))) none]
def sh12:List ((Nat→Nat)→O):=[fun p=>.slice 2 (.t (p 0)) none (some (.t (p 1))) (some (.t (p 2))),
fun p=>.iad 2 (.t (p 0)) (.c (.i .i64 (xgi (p 1)))),
fun p=>.call (.fn i_Q117) [(.t (p 0)),(.t (p 1))],
fun p=>.call (.fn i_Q94) [(.t (p 0)),(.t (p 1))],
fun p=>.appz [(.i .i64 0),(.i .i64 0),(.i .i64 0)] (.t (p 0)) (.t (p 1)),
fun p=>.appz [.ns] (.t (p 0)) (.t (p 1)),
fun p=>.build [(.i .i64 0),(.i .i64 0),(.i .i64 0),(.i .i64 0),(.i .i64 0),(.i .i64 0)] [(3,1,(.c (.i .i64 (xgi (p 0)))))],
fun p=>.build [(.i .i64 0),(.i .i64 0),(.i .i64 0),(.i .i64 0),(.i .i64 0),(.i .i64 0)] [(0,3,(.t (p 0))),(3,1,(.t (p 1)))],
fun p=>.alloc [(.i .i64 0),(.i .i64 0),(.i .i64 0),(.i .i64 0),(.i .i64 0),(.i .i64 0)],
fun p=>.slice 6 (.t (p 0)) none (some (.t (p 1))) none,
fun p=>.call (.fn i_Q119) [(.t (p 0)),(.t (p 1))],
fun p=>.call (.fn i_Q120) [(.t (p 0)),(.t (p 1))],
fun p=>.call (.fn i_Q121) [(.t (p 0))],
fun p=>.call (.fn i_Q100) [(.t (p 0)),(.t (p 1))],
fun p=>.call (.fn i_Q101) [(.t (p 0)),(.t (p 1))],
fun p=>.call (.fn i_Q122) [(.t (p 0)),(.t (p 1))],
fun p=>.bin .geq (.t (p 0)) (.c (.i .u8 48)),
fun p=>.bin .leq (.t (p 0)) (.c (.i .u8 57)),
fun p=>.bin .eql (.t (p 0)) (.c (.i .u8 95)),
fun p=>.bin .lss (.t (p 0)) (.c (.i .u8 97)),
fun p=>.bin .gtr (.t (p 0)) (.c (.i .u8 122)),
fun p=>.bin .geq (.t (p 0)) (.c (.i .i64 512)),
fun p=>.bin .gtr (.t (p 0)) (.c (.i .i64 255)),
fun p=>.load 5 true (.t (p 0))]
def sh13:List ((Nat→Nat)→O):=[fun p=>.idx 1 5 false (.t (p 0)) (.t (p 1))]
def shB:Nat→List ((Nat→Nat)→O)
 | 0=>sh0
 | 1=>sh1
 | 2=>sh2
 | 3=>sh3
 | 4=>sh4
 | 5=>sh5
 | 6=>sh6
 | 7=>sh7
 | 8=>sh8
 | 9=>sh9
 | 10=>sh10
 | 11=>sh11
 | 12=>sh12
 | _=>sh13
def shp (s:Nat) (p:Nat→Nat):O:=xgt (fun _=>.e0) (shB (s / 24)) (s % 24) p
def nps:List Nat:=[1,1,2,1,1,2,2,2,0,2,0,1,2,2,2,1,1,2,1,2,2,1,2,2,2,1,1,2,2,0,2,2,2,2,0,0,2,2,2,2,2,2,2,2,2,1,1,1,2,1,2,2,2,2,2,2,2,0,1,0,1,2,1,1,2,1,0,1,2,2,1,2,1,0,2,2,1,1,2,1,3,0,0,1,1,0,1,1,2,1,1,2,1,2,2,1,3,0,2,1,2,1,1,1,2,2,2,2,1,2,1,1,2,2,2,2,1,1,3,3,2,2,1,2,3,0,3,3,2,2,1,1,1,2,1,1,1,0,1,3,3,1,2,3,2,2,3,2,2,2,0,1,0,1,3,2,3,3,3,2,1,0,0,2,1,1,2,2,3,2,1,1,1,3,2,2,0,1,1,1,1,3,5,2,1,2,0,0,4,1,2,2,1,0,1,5,4,1,1,3,1,2,2,1,1,2,3,2,2,2,3,2,3,1,3,3,1,2,2,0,1,1,1,3,3,0,1,1,2,2,3,1,1,1,1,2,2,2,2,2,2,0,0,2,2,1,3,1,1,1,1,1,0,1,1,1,2,3,1,3,4,1,0,1,2,1,1,2,2,2,2,1,1,3,2,0,1,0,2,2,1,1,1,2,1,2,2,2,3,2,2,2,2,2,1,2,0,2,2,2,1,2,2,2,1,1,1,1,1,1,1,1,2]
abbrev Rs:=List TO×List (Bool×List TO)
abbrev Rc:=Nat→Nat→Nat→Bool→Rs
def xfin (s:Nat) (d:Option Nat) (g:Option (Nat×Bool)) (l:List Nat) (r:Rs):Rs:=(⟨d,shp s (fun i=>xgt 0 l i),g⟩::r.1,r.2)
def xpar (R:Nat) (rc:Nat→List Nat→Rs):Nat→Nat→List Nat→Rs
 | 0,n,l=>rc n l
 | f+1,n,l=>xpar R rc f (n / R) (n % R::l)
def xdst (R s:Nat) (rc:Rc) (g:Option (Nat×Bool)) (gn:Nat) (gb:Bool) (p:Nat):Nat→Nat→Rs
 | 0,n=>xpar R (fun n l=>xfin s (some (p+1)) g l (rc n (p+1) gn gb)) (xgt 0 nps s) n []
 | 1,n=>xpar R (fun m l=>xfin s (some (n % R)) g l (rc m (n % R) gn gb)) (xgt 0 nps s) (n / R) []
 | _+2,n=>xpar R (fun n l=>xfin s none g l (rc n p gn gb)) (xgt 0 nps s) n []
def xgud (R s:Nat) (rc:Rc) (p gn:Nat) (gb:Bool):Nat→Nat→Rs
 | 0,n=>xdst R s rc none gn gb p (n % 3) (n / 3)
 | 1,n=>xdst R s rc (some (n % R,true)) (n % R) true p (n / R % 3) (n / R / 3)
 | 2,n=>xdst R s rc (some (n % R,false)) (n % R) false p (n / R % 3) (n / R / 3)
 | _+3,n=>xdst R s rc (some (gn,gb)) gn gb p (n % 3) (n / 3)
def xseg (b:Bool) (r:Rs):Rs:=([],(b,r.1)::r.2)
def xstp (R:Nat) (rc:Rc) (p gn:Nat) (gb:Bool):Nat→Nat→Rs
 | 0,_=>([],[])
 | 1,n=>xseg true (rc n p gn gb)
 | 2,n=>xseg false (rc n p gn gb)
 | s+3,n=>xgud R s rc p gn gb (n % 4) (n / 4)
def xdec (R:Nat):Nat→Rc
 | 0=>fun _ _ _ _=>([],[])
 | f+1=>fun n p gn gb=>xstp R (xdec R f) p gn gb (n % 316) (n / 316)
def xrad (n:Nat):Nat:=xgt 0 [32,64,128,512] (n % 4)
@[go_sem ↓] def k (n:Nat) {l:List TO} (h:(xdec (xrad n) 400 (n / 4) 511 0 true).1=l:=by conv=>lhs;cbv):List TO:=l
@[go_sem ↓] def kd (n:Nat) {l:List (Bool×List TO)} (h:(xdec (xrad n) 400 (n / 4) 511 0 true).2=l:=by conv=>lhs;cbv):List (Bool×List TO):=l
/-! horarium/horariumlaw11.ReduceWorse -/
@[go_sem] def Q0_0:=k 0x8a6c
@[go_sem] def Q0_1:=k 0x4791d42573615ff832a192f9514c
@[go_sem] def Q0_2:=k 0x29dafcd8efc747654
@[go_sem] def Q0_3:=k 0x140a4b64
@[go_sem] def Q0_4:=k 0x99670a1bc26b7eec0
@[go_sem] def Q0_5:=k 0x6b12851dcd4777615c03d74faa582315e0cb21742a17d1fb53b35078
@[go_sem] def Q0_6:=k 0x53eed54f518c2dd7bc0cb12e446ebdbbddc70d
@[go_sem] def Q0_7:=k 0x5f970ce890c108053350a89ab95318ff2dbf4d
@[go_sem] def Q0_8:=k 0x4f4d926c1c2d262013792839099b50c9d5d4b8b574dc020611030d40b10a5ee35baf3bae45ad75c2ea7be51f603a4cf5d44cb62e4f5e6734e97345bc1ba50f638ac6235453f3dd631947c5ce63c1920da16ef356bb4db1adb3c6fdb389408c40b1e5382b103679fd258ec49c9be284efcb834eea407cfbfced5c82a5f1636cc4e
@[go_sem] def Q0_9:=k 0x8a6c
@[go_sem] def Q0_10:=k 0x31694
@[go_sem] def Q0_11:=k 0x1dd242fb40e8547d2a4b9286a5568e
@[go_sem] def Q0_12:=k 0x3867993b8331ba1bcd8a027db1b24c8920290754e
@[go_sem] def Q0_13:=k 0x8a6c
@[go_sem] def Q0_14:=k 0x93bfb8ae5c79e1167ece
def Q0_15:TC:=(.seq (.seq (.reg Q0_11) (.cond (.t 91) .skip (.exit 2))) (.seq (.block 3 (.seq (.reg Q0_12) (.cond (.t 100) (.seq (.reg Q0_13) .ret) .skip))) (.reg Q0_14)))
@[go_sem] def Q0_16:=k 0xa9c3872e1237bf4f7ada192e0e3711a8bc9adb22c7f1d953f3ab53cdbece072426a5ed872a88cca258146c8838d3e7b21c4a55e29db59550749b1bbd7dc64c316d526a97c15baa564feb03094e8e831bcb74b546ea72636a0c39d52482b82650edee78bb1e14b93ab5f3ab04ef43ec1ed406cdad078be4d2d7d299177e159f22193a068f4a85242d994227c4a5163926274dea7864311b76d9327c67ae04eb354e736fed1adbd8d50ca454f417
@[go_sem] def Q0_17:=k 0x8a6c
@[go_sem] def Q0_18:=k 0x20cab95da17199fd23
def Q0_19:TC:=(.seq (.reg Q0_3) (.seq (.cond (.t 22) .skip (.exit 0)) (.seq (.block 1 (.seq (.reg Q0_4) (.seq (.reg Q0_5) (.seq (.reg Q0_6) (.seq (.reg Q0_7) (.seq (.seq (.reg Q0_8) (.cond (.t 86) (.seq (.reg Q0_9) .ret) .skip)) (.seq (.seq (.reg Q0_10) (.block 2 (.loop Q0_15))) (.seq (.reg Q0_16) (.cond (.t 152) (.seq (.reg Q0_17) .ret) .skip))))))))) (.reg Q0_18))))
@[go_sem] def Q0_20:=k 0x83fe2a12f3b0f
def t_Q0:TF:=⟨155,[.t 2],(.seq (.reg Q0_0) (.seq (.reg Q0_1) (.seq (.seq (.reg Q0_2) (.block 0 (.loop Q0_19))) (.seq (.reg Q0_20) .ret))))⟩
/-! (*horarium/horariumkeep.Tape).Config -/
@[go_sem] def Q1_0:=k 0x8b30
@[go_sem] def Q1_1:=k 0xc670
@[go_sem] def Q1_2:=k 0x163c710dc93bea120f6160c
@[go_sem] def Q1_3:=k 0x13c18
@[go_sem] def Q1_4:=k 0x3477c154df2fcfcc
@[go_sem] def Q1_5:=k 0x23639026c49616df5f2ec983d61618183df494af1e99e8e1cbb9dc53b3e318102a4521f000d
@[go_sem] def Q1_6:=k 0x1b118e26462b753b70d
@[go_sem] def Q1_7:=k 0x1dff6320bdd8d
@[go_sem] def Q1_8:=kd 0x16c7371edf828bd09d11ccdbd0c39b3028c1078be0e16b489cda07748ced47386b09925941f86807d0c5ee2edd3e14eb5
@[go_sem] def Q1_9:=k 0x1e3e0efdb060744540d
def Q1_10:TC:=(.seq (.seq (.reg Q1_7) (.cond (.t 36) .skip (.exit 2))) (.seq (.block 3 (.dreg Q1_8)) (.reg Q1_9)))
@[go_sem] def Q1_11:=k 0xba659
@[go_sem] def Q1_12:=k 0xb97df1d1
@[go_sem] def Q1_13:=k 0x2cade68ccbccd
@[go_sem] def Q1_14:=k 0x79b90f41c5a2e4ecf961392ecfadc5b4bfb53617e48b84a6a7d6d80d
@[go_sem] def Q1_15:=k 0xd3d251d0450221
def Q1_16:TC:=(.seq (.reg Q1_12) (.seq (.cond (.t 51) .skip (.exit 4)) (.seq (.block 5 (.seq (.reg Q1_13) (.reg Q1_14))) (.reg Q1_15))))
@[go_sem] def Q1_17:=k 0x13ad6746c223bfe0b27ed2265616e7af414a0674d56
@[go_sem] def Q1_18:=k 0x8003030ee1421818c
def Q1_19:TC:=(.seq (.seq (.reg Q1_4) (.cond (.t 18) .skip (.exit 0))) (.seq (.block 1 (.seq (.reg Q1_5) (.seq (.seq (.reg Q1_6) (.block 2 (.loop Q1_10))) (.seq (.seq (.reg Q1_11) (.block 4 (.loop Q1_16))) (.reg Q1_17))))) (.reg Q1_18)))
@[go_sem] def Q1_20:=k 0x6d9cfcb0c6216f3fd0ce
@[go_sem] def Q1_21:=k 0x2db1952ba453430ed469c30f935a1c823ae74e
@[go_sem] def Q1_22:=k 0x3ad3300f4a6b78b44d082214e
@[go_sem] def Q1_23:=kd 0x7ea02784faa6cc160fffa5614f7e6292fb7503e6edd3d357edfa420d7b326a71de810eaa98e4d8d060e3ae822b8bc6f12dad97c8bb038ff060cc1a9b6349434eb54448a63ceda572ded3ad6395e8ffc800e327e5660772b82d6
@[go_sem] def Q1_24:=k 0x2ada9fbefd18d6
@[go_sem] def Q1_25:=k 0x8fec4eff87b93ffd1ecfd0dff0647af4e
@[go_sem] def Q1_26:=k 0x2099ac99f822013a373c4e0429ef96d295aaf417c56
@[go_sem] def Q1_27:=k 0x7a4f00043132dc6c4ace
def Q1_28:TC:=(.seq (.seq (.reg Q1_21) (.cond (.t 75) .skip (.exit 6))) (.seq (.block 7 (.seq (.reg Q1_22) (.seq (.dreg Q1_23) (.seq (.seq (.reg Q1_24) (.cond (.t 101) (.reg Q1_25) .skip)) (.reg Q1_26))))) (.reg Q1_27)))
@[go_sem] def Q1_29:=k 0xb379947e1b709d49ffce
@[go_sem] def Q1_30:=k 0x30da6307edf64e
@[go_sem] def Q1_31:=kd 0x338578f09805437035e98a3e28ffe5473280be5e277703d37f08d0310901526eb21031bb6
@[go_sem] def Q1_32:=k 0xb9d29627d166dcce6cce
def Q1_33:TC:=(.seq (.seq (.reg Q1_30) (.cond (.t 115) .skip (.exit 8))) (.seq (.block 9 (.dreg Q1_31)) (.reg Q1_32)))
@[go_sem] def Q1_34:=k 0x1a75ca48c968f157170a61d3d4f
def t_Q1:TF:=⟨129,[.cell 2 3 true],(.seq (.reg Q1_0) (.seq (.reg Q1_1) (.seq (.reg Q1_2) (.seq (.seq (.reg Q1_3) (.block 0 (.loop Q1_19))) (.seq (.seq (.reg Q1_20) (.block 6 (.loop Q1_28))) (.seq (.seq (.reg Q1_29) (.block 8 (.loop Q1_33))) (.seq (.reg Q1_34) .ret)))))))⟩
/-! horarium/reduce.Table -/
@[go_sem] def Q2_0:=k 0x98c2aa14798a8c
@[go_sem] def Q2_1:=k 0x9e8b64b831d44b7a9849a395b542671b94c
@[go_sem] def Q2_2:=k 0x1edad2227e4c
@[go_sem] def Q2_3:=k 0x105a14157d4e1c3cca84f8
@[go_sem] def Q2_4:=k 0x276cff94a68c
@[go_sem] def Q2_5:=k 0x11d0e26499833b1ec4e101810
@[go_sem] def Q2_6:=k 0x4511ebea436d0f4fb2251404fd14779a5ca763002ef9
@[go_sem] def Q2_7:=k 0x6c7900a66ac51070d
@[go_sem] def Q2_8:=k 0x5087b8626ba291a606502b5b311b73ec2680a66a714accfb01ded1fa7f84d8d
@[go_sem] def Q2_9:=k 0x5e06ad4b91e8cac30993608a6f1cddd8e330a3eeb2bbd27d96e0d
@[go_sem] def Q2_10:=k 0xb24c1329c4c879e8d
@[go_sem] def Q2_11:=k 0x5c974bd549a0d165466b8a0e86b394de13a79c3650111190498ca50e
@[go_sem] def Q2_12:=kd 0x40d21d7f54b5310dfad9341dca12ab3f5d6
def t_Q2:TF:=⟨68,[.t 4,.cell 5 6 true,.t 6],(.seq (.reg Q2_0) (.seq (.reg Q2_1) (.seq (.seq (.reg Q2_2) (.cond (.t 19) (.reg Q2_3) .skip)) (.seq (.seq (.reg Q2_4) (.cond (.t 24) (.seq (.reg Q2_5) .ret) .skip)) (.seq (.reg Q2_6) (.seq (.reg Q2_7) (.seq (.reg Q2_8) (.seq (.seq (.reg Q2_9) (.cond (.t 54) (.seq (.reg Q2_10) (.reg Q2_11)) .skip)) (.seq (.dreg Q2_12) .ret)))))))))⟩
/-! horarium/horariumref3.Of -/
@[go_sem] def Q3_0:=k 0x2cfa74
@[go_sem] def Q3_1:=k 0x16a5920ad689774c
@[go_sem] def Q3_2:=k 0xdb6b1738dcc
@[go_sem] def Q3_3:=k 0xfded86c179044c
@[go_sem] def Q3_4:=k 0x4d5ffb670ecde0479f8c
@[go_sem] def Q3_5:=k 0x17daad5d283594c
@[go_sem] def Q3_6:=k 0x1494a7a74
@[go_sem] def Q3_7:=k 0x1666174400b0c
def t_Q3:TF:=⟨18,[.t 2,.t 3],(.seq (.reg Q3_0) (.seq (.seq (.reg Q3_1) (.seq (.reg Q3_2) (.cond (.t 9) (.seq (.reg Q3_3) .ret) .skip))) (.seq (.reg Q3_4) (.seq (.seq (.reg Q3_5) (.cond (.t 16) (.seq (.reg Q3_6) .ret) .skip)) (.seq (.reg Q3_7) .ret)))))⟩
/-! horarium/horariumref3.Total -/
@[go_sem] def Q4_0:=k 0x8a58
@[go_sem] def Q4_1:=k 0xc598
@[go_sem] def Q4_2:=k 0xa9b39dc774c
@[go_sem] def Q4_3:=k 0x79e0124
@[go_sem] def Q4_4:=k 0x3f0db640fe92f00cba484
@[go_sem] def Q4_5:=k 0x291626d91e2389dc7a8678a12cc
@[go_sem] def Q4_6:=k 0x37bed36532fe0
def Q4_7:TC:=(.seq (.reg Q4_3) (.seq (.cond (.t 9) .skip (.exit 0)) (.seq (.block 1 (.seq (.reg Q4_4) (.reg Q4_5))) (.reg Q4_6))))
@[go_sem] def Q4_8:=k 0x1d43f4313b0c
def t_Q4:TF:=⟨18,[.t 2],(.seq (.reg Q4_0) (.seq (.reg Q4_1) (.seq (.seq (.reg Q4_2) (.block 0 (.loop Q4_7))) (.seq (.reg Q4_8) .ret))))⟩
/-! horarium/horariumref3.Switches -/
@[go_sem] def Q5_0:=k 0x8a58
@[go_sem] def Q5_1:=k 0xc598
@[go_sem] def Q5_2:=k 0x13bccd78ae84774c
@[go_sem] def Q5_3:=k 0x892a464
@[go_sem] def Q5_4:=k 0x3f6bbca9872e5d3c047c4
@[go_sem] def Q5_5:=k 0x2c7db3da20a81e14
@[go_sem] def Q5_6:=k 0x6c926daa19e11ffcc
@[go_sem] def Q5_7:=k 0x3eb588940a660
def Q5_8:TC:=(.seq (.reg Q5_3) (.seq (.cond (.t 10) .skip (.exit 0)) (.seq (.block 1 (.seq (.reg Q5_4) (.seq (.reg Q5_5) (.cond (.t 15) (.reg Q5_6) .skip)))) (.reg Q5_7))))
@[go_sem] def Q5_9:=k 0x20b19831b18c
def t_Q5:TF:=⟨20,[.t 2],(.seq (.reg Q5_0) (.seq (.reg Q5_1) (.seq (.seq (.reg Q5_2) (.block 0 (.loop Q5_8))) (.seq (.reg Q5_9) .ret))))⟩
/-! horarium/horariumref7.Holds -/
@[go_sem] def Q6_0:=k 0x3b71fe8a8c
@[go_sem] def Q6_1:=k 0x2844bb9386b7e3454
@[go_sem] def Q6_2:=k 0xc653164
@[go_sem] def Q6_3:=k 0x4ca4dcb10f6a361d2d524
@[go_sem] def Q6_4:=k 0x33d34b6fdc3198bb02cc40bdb69f234c0c6b0c
@[go_sem] def Q6_5:=k 0x9bc571ae7958ee9bddc0219921effd180fb2e87ba20cc8aaf2effcd1c39cd65de12b6e24695
@[go_sem] def Q6_6:=k 0x8db8d8
@[go_sem] def Q6_7:=k 0x7c21ea773b38e1
def Q6_8:TC:=(.seq (.reg Q6_2) (.seq (.cond (.t 14) .skip (.exit 0)) (.seq (.block 1 (.seq (.reg Q6_3) (.seq (.reg Q6_4) (.seq (.reg Q6_5) (.cond (.t 35) (.seq (.reg Q6_6) .ret) .skip))))) (.reg Q6_7))))
@[go_sem] def Q6_9:=k 0x53b5dfd26284264415
@[go_sem] def Q6_10:=k 0x966b4125
@[go_sem] def Q6_11:=k 0x61b162865589c8177142ae2101b964c4d
@[go_sem] def Q6_12:=kd 0x588d90b09d354d3cd231fe34d118e1b22238abeafd809cdaf06b376fd0511f2704be33b260b5
@[go_sem] def Q6_13:=k 0x9520d8
@[go_sem] def Q6_14:=k 0xc900440b3c5061
def Q6_15:TC:=(.seq (.reg Q6_10) (.seq (.cond (.t 41) .skip (.exit 2)) (.seq (.block 3 (.seq (.reg Q6_11) (.seq (.dreg Q6_12) (.cond (.t 57) (.seq (.reg Q6_13) .ret) .skip)))) (.reg Q6_14))))
@[go_sem] def Q6_16:=k 0x100d8
def t_Q6:TF:=⟨59,[.t 4],(.seq (.reg Q6_0) (.seq (.seq (.reg Q6_1) (.block 0 (.loop Q6_8))) (.seq (.seq (.reg Q6_9) (.block 2 (.loop Q6_15))) (.seq (.reg Q6_16) .ret))))⟩
/-! horarium/horariumref7.Same -/
@[go_sem] def Q7_0:=k 0x1776c
@[go_sem] def Q7_1:=k 0x1d1d934886eacb0d5ae2822dd8f7873b50dc1429d794bc76f599f8c
@[go_sem] def Q7_2:=k 0x3cee64abffd7e64c
def t_Q7:TF:=⟨20,[.t 6],(.seq (.reg Q7_0) (.seq (.reg Q7_1) (.seq (.reg Q7_2) .ret)))⟩
/-! horarium/horariumref7.Depends -/
@[go_sem] def Q8_0:=k 0xc094f4c
@[go_sem] def Q8_1:=k 0xf1a547225ffbf68a2c68955d4
@[go_sem] def Q8_2:=k 0xaed815412cc
@[go_sem] def Q8_3:=k 0xd59d4a4
@[go_sem] def Q8_4:=k 0x1ba88fa277cc
@[go_sem] def Q8_5:=k 0xb3212253b0c
@[go_sem] def Q8_6:=k 0x122104e4
@[go_sem] def Q8_7:=k 0x24486058a80c
@[go_sem] def Q8_8:=kd 0x1e9c320f17568c6d8f1e3a575e2a3d3c0101d2029e16ffb11442127a8a17fd9d2178f0f80a3132a59180cd6b4aa3de34e9d8a002fa58e8787b6d08e36147b1298cc13a02ce5b269443d04c59117338fcbb1d5
@[go_sem] def Q8_9:=k 0xafe0cded76b1a1
def Q8_10:TC:=(.seq (.reg Q8_6) (.seq (.cond (.t 20) .skip (.exit 2)) (.seq (.block 3 (.seq (.reg Q8_7) (.dreg Q8_8))) (.reg Q8_9))))
@[go_sem] def Q8_11:=k 0xb309e10af2ece1
def Q8_12:TC:=(.seq (.reg Q8_3) (.seq (.cond (.t 15) .skip (.exit 0)) (.seq (.block 1 (.seq (.reg Q8_4) (.seq (.reg Q8_5) (.block 2 (.loop Q8_10))))) (.reg Q8_11))))
@[go_sem] def Q8_13:=k 0x56e26181cb87cf2815
@[go_sem] def Q8_14:=k 0xd29bf525
@[go_sem] def Q8_15:=k 0x174ecb081378f3fb54300e5
@[go_sem] def Q8_16:=k 0x77600b7a3d2e8e73ddc05d0e6d01f369ad0f4acf925e923bf300293b96fa
@[go_sem] def Q8_17:=kd 0xb7d4210373a70f80b240ddf216ab58caa748dc88307a5e7d45b46b9390dadf6217d37a36b6d140fafd99c1cb1731a7525008e2f0d433318c81d6
@[go_sem] def Q8_18:=k 0x128575a6f5b19b62
def Q8_19:TC:=(.seq (.reg Q8_14) (.seq (.cond (.t 57) .skip (.exit 4)) (.seq (.block 5 (.seq (.reg Q8_15) (.seq (.reg Q8_16) (.cond (.t 69) (.dreg Q8_17) .skip)))) (.reg Q8_18))))
@[go_sem] def Q8_20:=k 0x254a57a1dd168e
def t_Q8:TF:=⟨88,[.t 2],(.seq (.reg Q8_0) (.seq (.reg Q8_1) (.seq (.seq (.reg Q8_2) (.block 0 (.loop Q8_12))) (.seq (.seq (.reg Q8_13) (.block 4 (.loop Q8_19))) (.seq (.reg Q8_20) .ret)))))⟩
/-! horarium/horariumref3.Ticks -/
@[go_sem] def Q9_0:=k 0x100d8
@[go_sem] def Q9_1:=k 0x13c18
@[go_sem] def Q9_2:=k 0xab6a6fcedcc
@[go_sem] def Q9_3:=k 0x98747a4
@[go_sem] def Q9_4:=k 0x574b5d99bfe44a6b4eb04
@[go_sem] def Q9_5:=k 0x12a3af64ed8fef7e0249e1606145b16a83a827e2b2b72954
@[go_sem] def Q9_6:=k 0x472dc76a04e732028dfd4bb6e8c
@[go_sem] def Q9_7:=k 0x5dabb9c2fbba0
def Q9_8:TC:=(.seq (.reg Q9_3) (.seq (.cond (.t 11) .skip (.exit 0)) (.seq (.block 1 (.seq (.reg Q9_4) (.seq (.reg Q9_5) (.cond (.t 22) (.reg Q9_6) .skip)))) (.reg Q9_7))))
@[go_sem] def Q9_9:=k 0x303a676296cc
def t_Q9:TF:=⟨29,[.t 4],(.seq (.reg Q9_0) (.seq (.reg Q9_1) (.seq (.seq (.reg Q9_2) (.block 0 (.loop Q9_8))) (.seq (.reg Q9_9) .ret))))⟩
/-! horarium/horariumref3.Nodes -/
@[go_sem] def Q10_0:=k 0x100ec
@[go_sem] def Q10_1:=k 0x4f3aa5985a17a14963dc774c
@[go_sem] def Q10_2:=k 0x100ec
@[go_sem] def Q10_3:=k 0xadfcaad9f8c
@[go_sem] def Q10_4:=k 0xc653164
@[go_sem] def Q10_5:=k 0x19ff742ad48c
@[go_sem] def Q10_6:=kd 0x30a394d654b934ef96a17c72b5b3551f847fba9b0e9fd4
@[go_sem] def Q10_7:=k 0x100ec
@[go_sem] def Q10_8:=k 0x5722b94f64520
def Q10_9:TC:=(.seq (.reg Q10_4) (.seq (.cond (.t 14) .skip (.exit 0)) (.seq (.block 1 (.seq (.reg Q10_5) (.seq (.dreg Q10_6) (.cond (.t 24) (.seq (.reg Q10_7) .ret) .skip)))) (.reg Q10_8))))
@[go_sem] def Q10_10:=k 0x10158
def t_Q10:TF:=⟨26,[.t 4],(.seq (.reg Q10_0) (.seq (.seq (.reg Q10_1) (.cond (.t 10) (.seq (.reg Q10_2) .ret) .skip)) (.seq (.seq (.reg Q10_3) (.block 0 (.loop Q10_9))) (.seq (.reg Q10_10) .ret))))⟩
/-! horarium/horariumref7.Stuck -/
@[go_sem] def Q11_0:=k 0x3b769f8a8c
@[go_sem] def Q11_1:=k 0x19e7049eb7c2140fa5526fca8f262c818b167bdf8
@[go_sem] def Q11_2:=k 0x2cdd18362ef0860c
def t_Q11:TF:=⟨15,[.t 4],(.seq (.reg Q11_0) (.seq (.reg Q11_1) (.seq (.reg Q11_2) .ret)))⟩
/-! horarium/horariumlaw11.known -/
@[go_sem] def Q12_0:=k 0x13ec
@[go_sem] def Q12_1:=k 0x1182fa0b39a2e54ac2474
@[go_sem] def Q12_2:=k 0x6c5fa59c5e595d140
@[go_sem] def Q12_3:=k 0x52c668f095d68e41ef90f8941fefa1f9b08a987a77fbd7d7cff2e1b8
@[go_sem] def Q12_4:=k 0x1bfd3651be0d0193207647f9d576ea8da4594b2763840508078
@[go_sem] def Q12_5:=k 0x17388f8bd9aa96a59ea0efb46d61275
@[go_sem] def Q12_6:=k 0x56564b0cee66847e4a69fb50d706bebbc8bd177338f9
@[go_sem] def Q12_7:=k 0x63499269d8aeb7f792a841c9ba7c7419c716d7749c79
@[go_sem] def Q12_8:=k 0x1cb647dda7132ed4d901a9a57ce1943540d754d9fd3cc0aed62c24163f41977248f2baa8d84a47dad8d70baaaf9d91a2cb177f957309da1051ea5e846b4f4365bb4ca2bba0627f1af100a886f8d4420bdd4bec9dd48bd47a7b28f46cca089b7c1e39a7c71029b64bbde65f2e2af3593d20d876b297af4d494e854ba41b7aacae3fc7fc45236ec77bd4998803436982ab3083a2a415ff573985ae5c981490dc0ffc4fdbb7c79b05018e2162a3d9ddfa5672e45ecf148e
def t_Q12:TF:=⟨108,[.t 0],(.seq (.reg Q12_0) (.seq (.reg Q12_1) (.seq (.reg Q12_2) (.seq (.reg Q12_3) (.seq (.reg Q12_4) (.seq (.reg Q12_5) (.seq (.reg Q12_6) (.seq (.reg Q12_7) (.seq (.reg Q12_8) .ret)))))))))⟩
/-! (*horarium/horariumkeep.Tape).Table -/
@[go_sem] def Q13_0:=k 0x17774
@[go_sem] def Q13_1:=k 0x4da085131e0a59f8c
@[go_sem] def Q13_2:=k 0x9c73916ae218760fce0329fd3325e60c
@[go_sem] def Q13_3:=k 0x2091a41b518c
@[go_sem] def Q13_4:=k 0xfdd35b090b3df7bfdcf602f7b0f7f00c
@[go_sem] def Q13_5:=k 0x1088d22f857917e94bcdd34e680c2a91dd34678bdbedc562184d
@[go_sem] def Q13_6:=k 0x1d2ad0c7ba24d
@[go_sem] def Q13_7:=k 0x4916c66bab675c73ce155e6a2c9d02e796a441702e4489a7e6bf9b304929419468cd
@[go_sem] def Q13_8:=k 0x2416f0f3e037d71f84bd6f48d
@[go_sem] def Q13_9:=k 0x99381f05b8b0ceb27ca264d
@[go_sem] def Q13_10:=k 0x26458
@[go_sem] def Q13_11:=k 0xaae44068fedbc780d
@[go_sem] def Q13_12:=k 0x45258f6fc77453d7c6137dd793fb4b73fc38546c5ad88204e
@[go_sem] def Q13_13:=k 0x2d5af87f752788129cd
def Q13_14:TC:=(.seq (.seq (.reg Q13_11) (.cond (.t 55) .skip (.exit 0))) (.seq (.block 1 (.reg Q13_12)) (.reg Q13_13)))
@[go_sem] def Q13_15:=k 0x1be0424689bf0e
def t_Q13:TF:=⟨66,[.t 6],(.seq (.reg Q13_0) (.seq (.reg Q13_1) (.seq (.seq (.reg Q13_2) (.cond (.t 18) (.seq (.seq (.reg Q13_3) (.cond (.t 20) (.seq (.reg Q13_4) .ret) .skip)) (.seq (.reg Q13_5) .ret)) .skip)) (.seq (.seq (.reg Q13_6) (.cond (.t 35) (.seq (.reg Q13_7) .ret) .skip)) (.seq (.reg Q13_8) (.seq (.reg Q13_9) (.seq (.seq (.reg Q13_10) (.block 0 (.loop Q13_14))) (.seq (.reg Q13_15) .ret))))))))⟩
/-! horarium/reduce.Stuck -/
@[go_sem] def Q14_0:=k 0x12e8ce278a8c
@[go_sem] def Q14_1:=kd 0x1daae497df885fed2fd6aa92aba653f3a8d501b43c4
def t_Q14:TF:=⟨12,[.t 4],(.seq (.reg Q14_0) (.seq (.dreg Q14_1) .ret))⟩
/-! horarium/horariumref3.Same -/
@[go_sem] def Q15_0:=k 0x100ec
@[go_sem] def Q15_1:=k 0x4f3aa5985a17a14963dc774c
@[go_sem] def Q15_2:=k 0x100ec
@[go_sem] def Q15_3:=k 0xadfcaad9f8c
@[go_sem] def Q15_4:=k 0xc653164
@[go_sem] def Q15_5:=k 0x19ff742ad48c
@[go_sem] def Q15_6:=kd 0x30a39f7e8bc0409425f28c18d7f1daca36730a6b0e9fd4
@[go_sem] def Q15_7:=k 0x100ec
@[go_sem] def Q15_8:=k 0x5722b94f64520
def Q15_9:TC:=(.seq (.reg Q15_4) (.seq (.cond (.t 14) .skip (.exit 0)) (.seq (.block 1 (.seq (.reg Q15_5) (.seq (.dreg Q15_6) (.cond (.t 24) (.seq (.reg Q15_7) .ret) .skip)))) (.reg Q15_8))))
@[go_sem] def Q15_10:=k 0x10158
def t_Q15:TF:=⟨26,[.t 4],(.seq (.reg Q15_0) (.seq (.seq (.reg Q15_1) (.cond (.t 10) (.seq (.reg Q15_2) .ret) .skip)) (.seq (.seq (.reg Q15_3) (.block 0 (.loop Q15_9))) (.seq (.reg Q15_10) .ret))))⟩
/-! horarium/reduce.Valid -/
@[go_sem] def Q16_0:=k 0x56e3bfc5cc
@[go_sem] def Q16_1:=k 0x31605022132f83d73bcf62fceea519b0696cf8404ec81ac44c26b9f21baae92839ed514aecbf01a8c
def t_Q16:TF:=⟨22,[.t 6],(.seq (.reg Q16_0) (.seq (.reg Q16_1) .ret))⟩
/-! horarium/horariumbook.Within -/
@[go_sem] def Q17_0:=k 0x17758
@[go_sem] def Q17_1:=k 0x1675f5beb4add629a86eabf7ece0f0c687558b28c
@[go_sem] def Q17_2:=k 0x1a0d2a5a8c8c
@[go_sem] def Q17_3:=k 0x187df2824d07fab7ddd4fb6d5623685eac7cc
@[go_sem] def Q17_4:=k 0x25b61e892b4c
@[go_sem] def Q17_5:=k 0x21d14fe0d3c6eb40931e7b7bbd5d71beca1cc
@[go_sem] def Q17_6:=k 0x5e50db080d6919b6b31d54d
def t_Q17:TF:=⟨33,[.t 6],(.seq (.reg Q17_0) (.seq (.seq (.reg Q17_1) (.cond (.t 14) (.seq (.reg Q17_2) .ret) .skip)) (.seq (.reg Q17_3) (.seq (.seq (.reg Q17_4) (.cond (.t 23) (.reg Q17_5) .skip)) (.seq (.reg Q17_6) .ret)))))⟩
/-! (*horarium/horariumkeep.Tape).Next -/
@[go_sem] def Q18_0:=k 0x100d8
@[go_sem] def Q18_1:=kd 0x1a0d3304528c3b4ef6d2c7e7c2f4ac7a5415b117f4bbd70179c346c7534b7d06c1e1ed4
@[go_sem] def Q18_2:=k 0x100d8
@[go_sem] def Q18_3:=k 0x378e5c9a6c2d5ed075e05579854f3ecef375e798c
@[go_sem] def Q18_4:=kd 0x3caab1deea4bc0ce872d1566034632448633028a3d576d8d37776a9b6ee3081b27fb13e9e384e5fdd5
def t_Q18:TF:=⟨40,[.t 4],(.seq (.reg Q18_0) (.seq (.seq (.dreg Q18_1) (.cond (.t 18) (.seq (.reg Q18_2) .ret) .skip)) (.seq (.reg Q18_3) (.seq (.dreg Q18_4) .ret))))⟩
/-! (*horarium/horariumkeep.Tape).frame -/
@[go_sem] def Q19_0:=k 0x100f4
@[go_sem] def Q19_1:=k 0xeefb1dba724c269758edcc
@[go_sem] def Q19_2:=k 0x8be4a032fc93f948a93307a8182ff3ae2cc
@[go_sem] def Q19_3:=k 0x97047f35c300bb92a2e60b613b7390f85f3bf008de924b603990018b9fcc
@[go_sem] def Q19_4:=k 0x4987ebe90c0d1bb5d8b9d3158ac93e6cb83b12b62ed2403041
@[go_sem] def Q19_5:=k 0x1e0e36d2e3d8d
def t_Q19:TF:=⟨36,[.t 4],(.seq (.reg Q19_0) (.seq (.reg Q19_1) (.seq (.seq (.reg Q19_2) (.seq (.reg Q19_3) (.cond (.t 27) (.seq (.reg Q19_4) .ret) .skip))) (.seq (.reg Q19_5) .ret))))⟩
/-! (*horarium/horariumkeep.Tape).asks -/
@[go_sem] def Q20_0:=k 0x37942dcc
@[go_sem] def Q20_1:=k 0x13c34
@[go_sem] def Q20_2:=k 0x2aa61d7ba44756354
@[go_sem] def Q20_3:=k 0x17dcd864
@[go_sem] def Q20_4:=k 0xb330a143f728a7bc0
@[go_sem] def Q20_5:=k 0x4cf04d8d795c8b057d44b65397e5ba2d3ab54d
@[go_sem] def Q20_6:=k 0x1937f5a8e582c03f25c6fd6e024d
@[go_sem] def Q20_7:=k 0x83a1c163abaf61
def Q20_8:TC:=(.seq (.reg Q20_3) (.seq (.cond (.t 26) .skip (.exit 0)) (.seq (.block 1 (.seq (.reg Q20_4) (.seq (.reg Q20_5) (.reg Q20_6)))) (.reg Q20_7))))
@[go_sem] def Q20_9:=k 0x541b70084fa7e98a95
@[go_sem] def Q20_10:=k 0x9df157a5
@[go_sem] def Q20_11:=k 0x25d979cd462cd
@[go_sem] def Q20_12:=k 0x29f98
@[go_sem] def Q20_13:=k 0x5bebd7808e0d
@[go_sem] def Q20_14:=k 0xb0c08fe5
@[go_sem] def Q20_15:=k 0x27d69c88ee1ed679b41
@[go_sem] def Q20_16:=kd 0x638e9b4bd45122a69b616ca6a3a550c89c48f22f139b1d9c432bccc41522e6f0563bfc33243200ff3ac29cde8d6
@[go_sem] def Q20_17:=k 0x2a856d24d6cdd7b51afb9beb051195a9eddf0e
@[go_sem] def Q20_18:=k 0x2a014
@[go_sem] def Q20_19:=k 0x35b04e700f4d94ebbebc6628e
@[go_sem] def Q20_20:=k 0xfef5f4df05ed462
def Q20_21:TC:=(.seq (.reg Q20_14) (.seq (.cond (.t 48) .skip (.exit 4)) (.seq (.block 5 (.seq (.reg Q20_15) (.seq (.dreg Q20_16) (.seq (.reg Q20_17) (.cond (.t 70) (.reg Q20_18) (.reg Q20_19)))))) (.reg Q20_20))))
@[go_sem] def Q20_22:=k 0xb4f9caef2adf97510a8311f20a8ce6f9a2a302774f8e
@[go_sem] def Q20_23:=kd 0x2a312d0033d833bebb74db04595218b862234df5dd274dc3bad347b624ad8f9b6fc301e0cdfa2fb6
@[go_sem] def Q20_24:=k 0x13c893472652fee2
def Q20_25:TC:=(.seq (.reg Q20_10) (.seq (.cond (.t 43) .skip (.exit 2)) (.seq (.block 3 (.seq (.reg Q20_11) (.seq (.reg Q20_12) (.seq (.seq (.reg Q20_13) (.block 4 (.loop Q20_21))) (.seq (.reg Q20_22) (.cond (.t 81) (.dreg Q20_23) .skip)))))) (.reg Q20_24))))
@[go_sem] def Q20_26:=k 0x20aee7244f2ae7113f1b9f3b69ba0e
@[go_sem] def Q20_27:=k 0x24687a0f272e4e0c5788646870e
@[go_sem] def Q20_28:=k 0x2adb5eec1138ce
@[go_sem] def Q20_29:=k 0x4ddd5022b15256d663e4485ce
@[go_sem] def Q20_30:=k 0x50e409157271be7113e4572ce
@[go_sem] def Q20_31:=k 0xa3a7c2592187dd41af4e
def Q20_32:TC:=(.seq (.seq (.reg Q20_28) (.cond (.t 101) .skip (.exit 6))) (.seq (.block 7 (.seq (.reg Q20_29) (.cond (.t 107) (.seq (.reg Q20_30) (.exit 6)) .skip))) (.reg Q20_31)))
@[go_sem] def Q20_33:=k 0xae8fc8849212072a496
@[go_sem] def Q20_34:=k 0x6a5ce51a6
@[go_sem] def Q20_35:=k 0x31c4a555bc2cce
@[go_sem] def Q20_36:=k 0x441b8
@[go_sem] def Q20_37:=k 0x2f682655f480e
@[go_sem] def Q20_38:=k 0x6f07399e6
@[go_sem] def Q20_39:=k 0xc1db3c429534f2f17542
@[go_sem] def Q20_40:=k 0x954081f74e95a392f110f232572dc2ed7cd663a60f718b8f
@[go_sem] def Q20_41:=k 0x1bb0c3243c2b946f23
def Q20_42:TC:=(.seq (.reg Q20_38) (.seq (.cond (.t 120) .skip (.exit 10)) (.seq (.block 11 (.seq (.reg Q20_39) (.reg Q20_40))) (.reg Q20_41))))
@[go_sem] def Q20_43:=k 0x1345c615a2bbe6c171124404486a84a804cf6f82a581a732a4f
@[go_sem] def Q20_44:=kd 0xd555a3b97e4caee9f365eb9d365a6d47cab572ca0347edb9b48f68bb1a3381e3240fe873476d6f177c222aaed9be60e6558e59b477f27bb96c7685a73332c830b1b667ab0a6f7f5cc401de0e34b7
@[go_sem] def Q20_45:=k 0x20d4b002978a99fd23
def Q20_46:TC:=(.seq (.reg Q20_34) (.seq (.cond (.t 115) .skip (.exit 8)) (.seq (.block 9 (.seq (.reg Q20_35) (.seq (.reg Q20_36) (.seq (.seq (.reg Q20_37) (.block 10 (.loop Q20_42))) (.seq (.reg Q20_43) (.cond (.t 136) (.dreg Q20_44) .skip)))))) (.reg Q20_45))))
@[go_sem] def Q20_47:=k 0x1ebf2043f99211487387b
@[go_sem] def Q20_48:=k 0x280b8303a1b4080187ea17
@[go_sem] def Q20_49:=k 0x9469bed727
@[go_sem] def Q20_50:=k 0x115c32cf1135924f
@[go_sem] def Q20_51:=kd 0x9287e92b04494bddef21769dd0f08a3be86eb3dc2b45ba48dd75e9fcc93b8443b3059cc33109ebab62f05ee6ee1e57bc2b7
@[go_sem] def Q20_52:=k 0x2522aa9e82209e9e23
def Q20_53:TC:=(.seq (.reg Q20_49) (.seq (.cond (.t 161) .skip (.exit 12)) (.seq (.block 13 (.seq (.reg Q20_50) (.dreg Q20_51))) (.reg Q20_52))))
@[go_sem] def Q20_54:=k 0x770fe3ea8bd97b
def t_Q20:TF:=⟨175,[.cell 4 3 true],(.seq (.reg Q20_0) (.seq (.reg Q20_1) (.seq (.seq (.reg Q20_2) (.block 0 (.loop Q20_8))) (.seq (.seq (.reg Q20_9) (.block 2 (.loop Q20_25))) (.seq (.reg Q20_26) (.seq (.seq (.reg Q20_27) (.block 6 (.loop Q20_32))) (.seq (.seq (.reg Q20_33) (.block 8 (.loop Q20_46))) (.seq (.seq (.reg Q20_47) (.cond (.t 156) (.seq (.reg Q20_48) (.block 12 (.loop Q20_53))) .skip)) (.seq (.reg Q20_54) .ret)))))))))⟩
/-! horarium/runs.Of -/
@[go_sem] def Q21_0:=k 0x2cfa74
@[go_sem] def Q21_1:=k 0x202b14af9905290c
@[go_sem] def Q21_2:=k 0x12db27743f8c
@[go_sem] def Q21_3:=k 0x14a199aa179b60c
@[go_sem] def Q21_4:=k 0x13c34
@[go_sem] def Q21_5:=k 0x303c6125e143514c
@[go_sem] def Q21_6:=k 0x1595ad78b64e9af2cc37e3f2f8d7a20d460d730c
@[go_sem] def Q21_7:=k 0x1200d81300c
@[go_sem] def Q21_8:=k 0x2396e3b5021de7b85d46526e8c
def Q21_9:TC:=(.block 1 (.seq (.reg Q21_6) (.seq (.seq (.reg Q21_7) (.cond (.t 22) (.exit 0) .skip)) (.reg Q21_8))))
@[go_sem] def Q21_10:=k 0x5965889503455b8c
@[go_sem] def Q21_11:=k 0x2fa8806e4f6d20c
@[go_sem] def Q21_12:=k 0x1494a7a74
@[go_sem] def Q21_13:=k 0x16492a08ad8bcd
def t_Q21:TF:=⟨33,[.t 2,.t 3],(.seq (.reg Q21_0) (.seq (.seq (.reg Q21_1) (.seq (.reg Q21_2) (.cond (.t 12) (.seq (.reg Q21_3) .ret) .skip))) (.seq (.reg Q21_4) (.seq (.reg Q21_5) (.seq (.block 0 (.loop Q21_9)) (.seq (.seq (.reg Q21_10) (.seq (.reg Q21_11) (.cond (.t 31) (.seq (.reg Q21_12) .ret) .skip))) (.seq (.reg Q21_13) .ret)))))))⟩
/-! horarium/bound.Holds -/
@[go_sem] def Q22_0:=k 0x3b71fe8a8c
@[go_sem] def Q22_1:=k 0x2844bb9386b7e3454
@[go_sem] def Q22_2:=k 0xc653164
@[go_sem] def Q22_3:=k 0x4ca4dcb10f6a361d2d524
@[go_sem] def Q22_4:=k 0x33d34b6fdc4372ad7a7aa1fdb69f234c0c6b0c
@[go_sem] def Q22_5:=k 0x26f15c6eca1a2b082ad8f844ae20438adc29ea76ad17b1e2064431ec39cd65de12b6e24695
@[go_sem] def Q22_6:=k 0x8db8d8
@[go_sem] def Q22_7:=k 0x7c21ea773b38e1
def Q22_8:TC:=(.seq (.reg Q22_2) (.seq (.cond (.t 14) .skip (.exit 0)) (.seq (.block 1 (.seq (.reg Q22_3) (.seq (.reg Q22_4) (.seq (.reg Q22_5) (.cond (.t 35) (.seq (.reg Q22_6) .ret) .skip))))) (.reg Q22_7))))
@[go_sem] def Q22_9:=k 0x53b5dfd26284264415
@[go_sem] def Q22_10:=k 0x966b4125
@[go_sem] def Q22_11:=k 0x61b162865589c8177142ae2101b964c4d
@[go_sem] def Q22_12:=kd 0x588d90b09d354d3cd231fe34d11927a1dc2001c2777b25f6f06b376fd0511f2704be33b260b5
@[go_sem] def Q22_13:=k 0x9520d8
@[go_sem] def Q22_14:=k 0xc900440b3c5061
def Q22_15:TC:=(.seq (.reg Q22_10) (.seq (.cond (.t 41) .skip (.exit 2)) (.seq (.block 3 (.seq (.reg Q22_11) (.seq (.dreg Q22_12) (.cond (.t 57) (.seq (.reg Q22_13) .ret) .skip)))) (.reg Q22_14))))
@[go_sem] def Q22_16:=k 0x100d8
def t_Q22:TF:=⟨59,[.t 4],(.seq (.reg Q22_0) (.seq (.seq (.reg Q22_1) (.block 0 (.loop Q22_8))) (.seq (.seq (.reg Q22_9) (.block 2 (.loop Q22_15))) (.seq (.reg Q22_16) .ret))))⟩
/-! horarium/reduce.Runs -/
@[go_sem] def Q23_0:=k 0xa8464798a8c
@[go_sem] def Q23_1:=k 0x26b6de8048f4078c
@[go_sem] def Q23_2:=k 0x1b610
@[go_sem] def Q23_3:=k 0x1edd8
@[go_sem] def Q23_4:=k 0xa7dae75f00697a80f7c224369e61ba1efc03e3b04d9fcc
@[go_sem] def Q23_5:=k 0x12dc4203b4c
@[go_sem] def Q23_6:=k 0x92eb809fb7b98d7911cc
@[go_sem] def Q23_7:=k 0x2ce8309fc04c
@[go_sem] def Q23_8:=k 0x5a8550a212836560c
def Q23_9:TC:=(.seq (.block 1 (.seq (.reg Q23_4) (.seq (.seq (.reg Q23_5) (.cond (.t 23) (.seq (.reg Q23_6) .ret) .skip)) (.reg Q23_7)))) (.reg Q23_8))
def t_Q23:TF:=⟨27,[.t 4,.t 5],(.seq (.reg Q23_0) (.seq (.reg Q23_1) (.seq (.reg Q23_2) (.seq (.reg Q23_3) (.block 0 (.loop Q23_9))))))⟩
/-! horarium/fold.Table -/
@[go_sem] def Q24_0:=k 0x8a74
@[go_sem] def Q24_1:=k 0xb1e0805c82774c
@[go_sem] def Q24_2:=k 0x8a74
@[go_sem] def Q24_3:=k 0x2011b0a97513290c
@[go_sem] def Q24_4:=k 0x14f0211dfd5b563330c39c63ea2536d78c
@[go_sem] def Q24_5:=k 0x6be9514b7587b67d4
@[go_sem] def Q24_6:=k 0x3fb555739fc5b18c
@[go_sem] def Q24_7:=kd 0xc0185bb1eb4dfc38c8443a56d8d8f9ade719819c9b21f040f0648a0e35ca6081101dde83ac4e2950097e458639b58b5
@[go_sem] def Q24_8:=kd 0x3da810bde1a96f82205126059510519ebdc65727a20d058a2a83ec9b13e246784f84af234174be1828a3eddf2fa7272aacb874bed5
def Q24_9:TC:=(.block 1 (.seq (.reg Q24_4) (.seq (.seq (.reg Q24_5) (.cond (.t 18) (.seq (.reg Q24_6) .ret) .skip)) (.seq (.dreg Q24_7) (.dreg Q24_8)))))
def t_Q24:TF:=⟨55,[.t 2],(.seq (.reg Q24_0) (.seq (.seq (.reg Q24_1) (.cond (.t 8) (.seq (.reg Q24_2) .ret) .skip)) (.seq (.reg Q24_3) (.block 0 (.loop Q24_9)))))⟩
/-! horarium/node.Right -/
@[go_sem] def Q25_0:=k 0x8a58
@[go_sem] def Q25_1:=k 0x53f052a35cd302b2dbef33df41196f0774c
@[go_sem] def Q25_2:=k 0x4e4b0b6cc778c0ad9f8c
@[go_sem] def Q25_3:=k 0x16c258
@[go_sem] def Q25_4:=k 0x6688b2c4c1f34cbb8c8c
@[go_sem] def Q25_5:=k 0x596a58
@[go_sem] def Q25_6:=k 0xfd8cb45423610bb30798c
@[go_sem] def Q25_7:=k 0x683a58
@[go_sem] def Q25_8:=k 0x4e63297e9084068c
@[go_sem] def Q25_9:=k 0x85da58
@[go_sem] def Q25_10:=k 0x8a58
def t_Q25:TF:=⟨25,[.t 2],(.seq (.reg Q25_0) (.seq (.reg Q25_1) (.seq (.block 0 (.seq (.reg Q25_2) (.cond (.t 10) (.seq (.reg Q25_3) .ret) (.seq (.reg Q25_4) (.cond (.t 14) (.seq (.reg Q25_5) .ret) (.seq (.reg Q25_6) (.cond (.t 18) (.seq (.reg Q25_7) .ret) (.seq (.reg Q25_8) (.cond (.t 22) (.seq (.reg Q25_9) .ret) .skip))))))))) (.seq (.reg Q25_10) .ret))))⟩
/-! slices.Clone[[]horarium/api.Node,horarium/api.Node] -/
@[go_sem] def Q26_0:=k 0x8a74
@[go_sem] def Q26_1:=k 0x29a372c58c
@[go_sem] def Q26_2:=k 0x8a74
@[go_sem] def Q26_3:=k 0x299089e993c771477550
def t_Q26:TF:=⟨8,[.t 2],(.seq (.reg Q26_0) (.seq (.seq (.reg Q26_1) (.cond (.t 4) (.seq (.reg Q26_2) .ret) .skip)) (.seq (.reg Q26_3) .ret)))⟩
/-! horarium/horariumref3.Right -/
@[go_sem] def Q27_0:=k 0x8a58
@[go_sem] def Q27_1:=k 0x994342b94c3c0c
@[go_sem] def Q27_2:=k 0x16c258
@[go_sem] def Q27_3:=k 0x1c90a19863b6edcc
@[go_sem] def Q27_4:=k 0x596a58
@[go_sem] def Q27_5:=k 0x27ac77828d679f8c
@[go_sem] def Q27_6:=k 0x683a58
@[go_sem] def Q27_7:=k 0xa7dec6457ad955df37b4f18c83ca3dc8c8c
@[go_sem] def Q27_8:=k 0x104a043198c
@[go_sem] def Q27_9:=k 0x85da58
@[go_sem] def Q27_10:=k 0x8a58
def t_Q27:TF:=⟨21,[.t 2],(.seq (.reg Q27_0) (.seq (.seq (.reg Q27_1) (.cond (.t 7) (.seq (.reg Q27_2) .ret) .skip)) (.seq (.seq (.reg Q27_3) (.cond (.t 10) (.seq (.reg Q27_4) .ret) .skip)) (.seq (.seq (.reg Q27_5) (.cond (.t 13) (.seq (.reg Q27_6) .ret) .skip)) (.seq (.seq (.reg Q27_7) (.seq (.reg Q27_8) (.cond (.t 20) (.seq (.reg Q27_9) .ret) .skip))) (.seq (.reg Q27_10) .ret))))))⟩
/-! horarium/horariumref3.Tidy -/
@[go_sem] def Q28_0:=k 0x8a74
@[go_sem] def Q28_1:=k 0xc5b4
@[go_sem] def Q28_2:=k 0xaa8f06cb28c
@[go_sem] def Q28_3:=k 0x892a464
@[go_sem] def Q28_4:=k 0x3f6bbca9872e5d3c047c4
@[go_sem] def Q28_5:=k 0x2d0fe04361e44e0c
@[go_sem] def Q28_6:=k 0x65c328b97c5959494
@[go_sem] def Q28_7:=kd 0x4bc1d963d0605fb18366fc3009a29d1e8bc7b212ac051636aeb28a159ec6ce24f25d4
@[go_sem] def Q28_8:=kd 0x559e2c80a4a2ff3eaf1149a2ea95bb76287d1f91e6f8b1e6519905565e99a2d5811fb681ea8257e205decd5
@[go_sem] def Q28_9:=k 0x20ad8b773a18e209f88a2c56ee0d
@[go_sem] def Q28_10:=k 0xa87c64286e3b21
def Q28_11:TC:=(.seq (.reg Q28_3) (.seq (.cond (.t 10) .skip (.exit 0)) (.seq (.block 1 (.seq (.reg Q28_4) (.seq (.reg Q28_5) (.seq (.seq (.reg Q28_6) (.cond (.t 17) (.exit 1) .skip)) (.seq (.dreg Q28_7) (.cond (.t 30) (.dreg Q28_8) (.reg Q28_9))))))) (.reg Q28_10))))
@[go_sem] def Q28_12:=k 0x2ae282894164d
def t_Q28:TF:=⟨51,[.t 2],(.seq (.reg Q28_0) (.seq (.reg Q28_1) (.seq (.seq (.reg Q28_2) (.block 0 (.loop Q28_11))) (.seq (.reg Q28_12) .ret))))⟩
/-! horarium/horariumref3.Leaves -/
@[go_sem] def Q29_0:=k 0x8a74
@[go_sem] def Q29_1:=k 0x19da8eaf81256c58c
def t_Q29:TF:=⟨5,[.t 2],(.seq (.reg Q29_0) (.seq (.reg Q29_1) .ret))⟩
/-! horarium/horariumref3.Sum -/
@[go_sem] def Q30_0:=k 0x100d8
@[go_sem] def Q30_1:=k 0x284c1b84218fb2a9a9e387533ce3c0c
@[go_sem] def Q30_2:=k 0x36e95436343fff59290c
@[go_sem] def Q30_3:=k 0x102f0
@[go_sem] def Q30_4:=k 0xb1e38acfa7064855a160c
def t_Q30:TF:=⟨16,[.t 4],(.seq (.reg Q30_0) (.seq (.reg Q30_1) (.seq (.seq (.reg Q30_2) (.cond (.t 12) (.seq (.reg Q30_3) .ret) .skip)) (.seq (.reg Q30_4) .ret))))⟩
/-! horarium/horariumref7.Late -/
@[go_sem] def Q31_0:=k 0x17758
@[go_sem] def Q31_1:=k 0x36aec6efa18cc7cc
@[go_sem] def Q31_2:=k 0x96e260edd8
@[go_sem] def Q31_3:=k 0xb3fc8d3164c
@[go_sem] def Q31_4:=k 0x1315a824
@[go_sem] def Q31_5:=k 0x947180b5153c34b80
@[go_sem] def Q31_6:=k 0xbe3f1a46cc8366b974518b68f03d0e7a15ab86dbeb415cb49b2713ed82099cf8f0ab1a6f1cd
@[go_sem] def Q31_7:=k 0x7c81e8812738e1
def Q31_8:TC:=(.seq (.reg Q31_4) (.seq (.cond (.t 21) .skip (.exit 0)) (.seq (.block 1 (.seq (.reg Q31_5) (.reg Q31_6))) (.reg Q31_7))))
@[go_sem] def Q31_9:=k 0x7edd9a0c40d
@[go_sem] def Q31_10:=k 0x17758
@[go_sem] def Q31_11:=k 0x85b8e126a8d
@[go_sem] def Q31_12:=k 0x177d4
@[go_sem] def Q31_13:=k 0x5b106e9d410d
@[go_sem] def Q31_14:=k 0xa1b462e5
@[go_sem] def Q31_15:=k 0x1ff68d3c999af3844383f6876e0d
@[go_sem] def Q31_16:=k 0x9ac65789b06368fcd
@[go_sem] def Q31_17:=k 0xaf498
@[go_sem] def Q31_18:=k 0x19a97df91cbe486465556ac137eb5429a5fcc4a075f66e4687d0cf918d
@[go_sem] def Q31_19:=k 0x322d9846bd9d8cc9d4d
def Q31_20:TC:=(.seq (.seq (.reg Q31_18) (.cond (.t 61) .skip (.exit 4))) (.block 5 (.reg Q31_19)))
@[go_sem] def Q31_21:=k 0x30878c6a4ba8477ff546be3ce
@[go_sem] def Q31_22:=k 0xe6db0bbb51d35a2
def Q31_23:TC:=(.seq (.reg Q31_14) (.seq (.cond (.t 44) .skip (.exit 2)) (.seq (.block 3 (.seq (.reg Q31_15) (.seq (.seq (.reg Q31_16) (.cond (.t 50) (.exit 3) .skip)) (.seq (.reg Q31_17) (.seq (.block 4 (.loop Q31_20)) (.reg Q31_21)))))) (.reg Q31_22))))
@[go_sem] def Q31_24:=k 0x1d295fc66cd0ce
def t_Q31:TF:=⟨69,[.t 6],(.seq (.reg Q31_0) (.seq (.reg Q31_1) (.seq (.reg Q31_2) (.seq (.seq (.reg Q31_3) (.block 0 (.loop Q31_8))) (.seq (.seq (.reg Q31_9) (.cond (.t 38) (.seq (.reg Q31_10) .ret) .skip)) (.seq (.seq (.reg Q31_11) (.cond (.t 40) (.seq (.reg Q31_12) .ret) .skip)) (.seq (.seq (.reg Q31_13) (.block 2 (.loop Q31_23))) (.seq (.reg Q31_24) .ret))))))))⟩
/-! horarium/horariumref7.Budget -/
@[go_sem] def Q32_0:=k 0x17758
@[go_sem] def Q32_1:=k 0x2d29444a7ddc160c
@[go_sem] def Q32_2:=k 0x7c2aca727d062270c8ba8b08ead0bea3916a16daf6ee4ad013200a867c1df12d7265c8c
@[go_sem] def Q32_3:=k 0x177d4
@[go_sem] def Q32_4:=k 0xc0156cd8e480d9a0c
@[go_sem] def Q32_5:=k 0x22918
@[go_sem] def Q32_6:=k 0x172685cf48a35df368908d
@[go_sem] def Q32_7:=k 0x26458
@[go_sem] def Q32_8:=k 0x3e3844993c85877e3f6f990c1cafcae67cc8f4d
@[go_sem] def Q32_9:=k 0xa93a7965
@[go_sem] def Q32_10:=k 0x263d2f9c634c5e184c1
@[go_sem] def Q32_11:=k 0x9dff8985976192b0d
@[go_sem] def Q32_12:=k 0x2a2e77a807838803ccd
@[go_sem] def Q32_13:=k 0xbb8e44edbf6361
def Q32_14:TC:=(.seq (.reg Q32_9) (.seq (.cond (.t 46) .skip (.exit 2)) (.seq (.block 3 (.seq (.reg Q32_10) (.seq (.reg Q32_11) (.cond (.t 51) (.reg Q32_12) .skip)))) (.reg Q32_13))))
@[go_sem] def Q32_15:=k 0xa7dd5e9d69b2d40221f4e8d
@[go_sem] def Q32_16:=k 0x6d251dd4b29755220297d8d
def Q32_17:TC:=(.seq (.seq (.reg Q32_6) (.cond (.t 34) .skip (.exit 0))) (.seq (.block 1 (.seq (.reg Q32_7) (.seq (.seq (.reg Q32_8) (.block 2 (.loop Q32_14))) (.reg Q32_15)))) (.reg Q32_16)))
@[go_sem] def Q32_18:=k 0x31cb811e0004d
def t_Q32:TF:=⟨59,[.t 6],(.seq (.reg Q32_0) (.seq (.reg Q32_1) (.seq (.seq (.reg Q32_2) (.cond (.t 28) (.seq (.reg Q32_3) .ret) .skip)) (.seq (.reg Q32_4) (.seq (.seq (.reg Q32_5) (.block 0 (.loop Q32_17))) (.seq (.reg Q32_18) .ret))))))⟩
/-! horarium/horariumref7.Differ -/
@[go_sem] def Q33_0:=k 0x12db0b8f7758
@[go_sem] def Q33_1:=k 0x22918
@[go_sem] def Q33_2:=k 0x132d6029478c
@[go_sem] def Q33_3:=k 0x1a4404dd348c
@[go_sem] def Q33_4:=k 0x1bbf7a31d7cc
@[go_sem] def Q33_5:=k 0x7247f806b5b78df94991a76df06f98ad9e5597c713da91618ba6e085a354cdd6d9cfad146299ea3677e54cd
@[go_sem] def Q33_6:=k 0x715a7c998276eed4229b8cd
@[go_sem] def Q33_7:=k 0x7aa7e98db42464e4c
def Q33_8:TC:=(.seq (.seq (.reg Q33_4) (.cond (.t 17) .skip (.exit 2))) (.seq (.block 3 (.seq (.reg Q33_5) (.cond (.t 35) (.seq (.reg Q33_6) .ret) .skip))) (.reg Q33_7)))
@[go_sem] def Q33_9:=k 0x5ab818af5283dbe0c
def Q33_10:TC:=(.seq (.seq (.reg Q33_2) (.cond (.t 12) .skip (.exit 0))) (.seq (.block 1 (.seq (.reg Q33_3) (.block 2 (.loop Q33_8)))) (.reg Q33_9)))
@[go_sem] def Q33_11:=k 0x5aa74b34bab8374b4da6b5288f657f2ac8df4d
def t_Q33:TF:=⟨43,[.t 6,.t 7,.t 8],(.seq (.reg Q33_0) (.seq (.seq (.reg Q33_1) (.block 0 (.loop Q33_10))) (.seq (.reg Q33_11) .ret)))⟩
/-! horarium/horariumref7.square -/
@[go_sem] def Q34_0:=k 0x8a74
@[go_sem] def Q34_1:=k 0x26bf5a47e49013c0c
@[go_sem] def Q34_2:=k 0xaa8f082ea8c
@[go_sem] def Q34_3:=k 0x892a464
@[go_sem] def Q34_4:=k 0x1316757c478c
@[go_sem] def Q34_5:=k 0x530d8db54a6f50d772828ef532012cc
@[go_sem] def Q34_6:=k 0x69c7075b22bb9c4a684c93342f3d213b0c
@[go_sem] def Q34_7:=k 0x4fd9bc941cea0
def Q34_8:TC:=(.seq (.reg Q34_3) (.seq (.cond (.t 10) .skip (.exit 0)) (.seq (.block 1 (.seq (.reg Q34_4) (.seq (.reg Q34_5) (.reg Q34_6)))) (.reg Q34_7))))
@[go_sem] def Q34_9:=k 0x2943b232d9cc
def t_Q34:TF:=⟨25,[.t 2],(.seq (.reg Q34_0) (.seq (.reg Q34_1) (.seq (.seq (.reg Q34_2) (.block 0 (.loop Q34_8))) (.seq (.reg Q34_9) .ret))))⟩
/-! horarium/horariumref7.in -/
@[go_sem] def Q35_0:=k 0x3b769f8a8c
@[go_sem] def Q35_1:=k 0x184c8bbe940a055882c2e524ebeca60e3e7db4619f98fa6fa40c
def t_Q35:TF:=⟨14,[.t 4],(.seq (.reg Q35_0) (.seq (.reg Q35_1) .ret))⟩
/-! horarium/horariumref7.Draw -/
@[go_sem] def Q36_0:=k 0x13167e798a8c
@[go_sem] def Q36_1:=k 0x238a5d9ea13b3478
@[go_sem] def Q36_2:=k 0x4ba95702fe5341c3142cc
@[go_sem] def Q36_3:=k 0xf431b24
@[go_sem] def Q36_4:=k 0x6540b0889a20fb030beac
@[go_sem] def Q36_5:=k 0x105ff47c06d3db65821ccc
@[go_sem] def Q36_6:=k 0x125d46a97c1da313eb36b8
@[go_sem] def Q36_7:=k 0x852e9157ffb8c
@[go_sem] def Q36_8:=k 0x61bdecdbdf6e0
def Q36_9:TC:=(.seq (.reg Q36_3) (.seq (.cond (.t 17) .skip (.exit 0)) (.seq (.block 1 (.seq (.reg Q36_4) (.seq (.reg Q36_5) (.seq (.reg Q36_6) (.cond (.t 26) (.seq (.reg Q36_7) .ret) .skip))))) (.reg Q36_8))))
@[go_sem] def Q36_10:=k 0x8cb852b4e46e74a518350
def t_Q36:TF:=⟨32,[.t 4,.t 5],(.seq (.reg Q36_0) (.seq (.reg Q36_1) (.seq (.seq (.reg Q36_2) (.block 0 (.loop Q36_9))) (.seq (.reg Q36_10) .ret))))⟩
/-! horarium/reduce.Merge -/
@[go_sem] def Q37_0:=k 0x13167e798a8c
@[go_sem] def Q37_1:=k 0x2ea1da7d0e90daa05fbf3287cb301edf4c
def t_Q37:TF:=⟨11,[.t 4,.t 5],(.seq (.reg Q37_0) (.seq (.reg Q37_1) .ret))⟩
/-! horarium/reduce.Passes -/
@[go_sem] def Q38_0:=k 0x13f4
@[go_sem] def Q38_1:=k 0x8d8747b1c58ad9dad0
def t_Q38:TF:=⟨4,[.t 0],(.seq (.reg Q38_0) (.seq (.reg Q38_1) .ret))⟩
/-! (horarium/reduce.rows).draw -/
@[go_sem] def Q39_0:=k 0x96e4412dcc
@[go_sem] def Q39_1:=k 0x8a0d4201e4a60e48270a7edcc
@[go_sem] def Q39_2:=k 0xc653164
@[go_sem] def Q39_3:=k 0x5865d00b284173752d4ec
@[go_sem] def Q39_4:=k 0xcea2024aeedd5dee13b38
@[go_sem] def Q39_5:=k 0x38e3b8060726dd060eaf00c
@[go_sem] def Q39_6:=k 0x53b5154f609e0
def Q39_7:TC:=(.seq (.reg Q39_2) (.seq (.cond (.t 14) .skip (.exit 0)) (.seq (.block 1 (.seq (.reg Q39_3) (.seq (.reg Q39_4) (.cond (.t 20) (.seq (.reg Q39_5) .ret) .skip)))) (.reg Q39_6))))
@[go_sem] def Q39_8:=k 0x4b024464b04cfdd0c
def t_Q39:TF:=⟨27,[.t 4,.t 5],(.seq (.reg Q39_0) (.seq (.seq (.reg Q39_1) (.block 0 (.loop Q39_7))) (.seq (.reg Q39_8) .ret)))⟩
/-! slices.ContainsFunc[[]horarium/move.Move,horarium/move.Move] -/
@[go_sem] def Q40_0:=k 0x100ec
@[go_sem] def Q40_1:=k 0x16214d5981e7703233e17583c0c
def t_Q40:TF:=⟨9,[.t 4],(.seq (.reg Q40_0) (.seq (.reg Q40_1) .ret))⟩
/-! horarium/move.All -/
@[go_sem] def Q41_0:=k 0x100f4
@[go_sem] def Q41_1:=k 0x13c34
@[go_sem] def Q41_2:=k 0xac45d8d290c
@[go_sem] def Q41_3:=k 0xa7beae4
@[go_sem] def Q41_4:=k 0x169f86ab8e0c
@[go_sem] def Q41_5:=k 0x60ab8a583fa27c14c
@[go_sem] def Q41_6:=k 0x6154c075846460fe9fcc
@[go_sem] def Q41_7:=k 0xbee03e30ae018f161c8e89b4c
@[go_sem] def Q41_8:=k 0x12fb0204bc3666355cdd0c
@[go_sem] def Q41_9:=k 0x4bb919677f2488870cd7ed4dac6489eeefd8b628da0d
@[go_sem] def Q41_10:=k 0x86c194ecce6308ccc
def Q41_11:TC:=(.seq (.seq (.reg Q41_6) (.cond (.t 19) .skip (.exit 2))) (.seq (.block 3 (.seq (.reg Q41_7) (.seq (.reg Q41_8) (.cond (.t 28) (.reg Q41_9) .skip)))) (.reg Q41_10)))
@[go_sem] def Q41_12:=k 0x7c067d4fd338e1
def Q41_13:TC:=(.seq (.reg Q41_3) (.seq (.cond (.t 12) .skip (.exit 0)) (.seq (.block 1 (.seq (.reg Q41_4) (.seq (.reg Q41_5) (.block 2 (.loop Q41_11))))) (.reg Q41_12))))
@[go_sem] def Q41_14:=k 0x1fc508d2eb40d
def t_Q41:TF:=⟨38,[.t 4],(.seq (.reg Q41_0) (.seq (.reg Q41_1) (.seq (.seq (.reg Q41_2) (.block 0 (.loop Q41_13))) (.seq (.reg Q41_14) .ret))))⟩
/-! horarium/graph.Depends -/
@[go_sem] def Q42_0:=k 0xc094f4c
@[go_sem] def Q42_1:=k 0xf1a547237da141122c68955d4
@[go_sem] def Q42_2:=k 0xaed815412cc
@[go_sem] def Q42_3:=k 0xd59d4a4
@[go_sem] def Q42_4:=k 0x1ba88fa277cc
@[go_sem] def Q42_5:=k 0xb3212253b0c
@[go_sem] def Q42_6:=k 0x122104e4
@[go_sem] def Q42_7:=k 0x24486058a80c
@[go_sem] def Q42_8:=kd 0x9958e0bf7475906a8dacc05e74e3e086ed0ddf6d4faa1cc5df195fee96ae6567158e2b1339b355f406149923e2cfa3d92c86ad23954d3d6d97728ccff3417f2c4c59117338fcbb1d5
@[go_sem] def Q42_9:=k 0xa22a3ded75c4a1
def Q42_10:TC:=(.seq (.reg Q42_6) (.seq (.cond (.t 20) .skip (.exit 2)) (.seq (.block 3 (.seq (.reg Q42_7) (.dreg Q42_8))) (.reg Q42_9))))
@[go_sem] def Q42_11:=k 0xa553510af1ffe1
def Q42_12:TC:=(.seq (.reg Q42_3) (.seq (.cond (.t 15) .skip (.exit 0)) (.seq (.block 1 (.seq (.reg Q42_4) (.seq (.reg Q42_5) (.block 2 (.loop Q42_10))))) (.reg Q42_11))))
@[go_sem] def Q42_13:=k 0x56174115f147ce3b15
@[go_sem] def Q42_14:=k 0xc38fc825
@[go_sem] def Q42_15:=k 0x171fc7d3cf358656636d3e5
@[go_sem] def Q42_16:=k 0x6feaf7b37f0d5659964beb09fb2b16d27af87b250baa63baa300293aa9fa
@[go_sem] def Q42_17:=kd 0xaf3f3e06c6bd0a3d8ec30881973fcf67444aaf0dfc1806f5bb089814518d667db0b3cb1b6b9d86181685a3dc410c37db3b15a8da14333067f5d6
@[go_sem] def Q42_18:=k 0x11a855d4ba70ae62
def Q42_19:TC:=(.seq (.reg Q42_14) (.seq (.cond (.t 53) .skip (.exit 4)) (.seq (.block 5 (.seq (.reg Q42_15) (.seq (.reg Q42_16) (.cond (.t 65) (.dreg Q42_17) .skip)))) (.reg Q42_18))))
@[go_sem] def Q42_20:=k 0x239385a1dc298e
def t_Q42:TF:=⟨84,[.t 2],(.seq (.reg Q42_0) (.seq (.reg Q42_1) (.seq (.seq (.reg Q42_2) (.block 0 (.loop Q42_12))) (.seq (.seq (.reg Q42_13) (.block 4 (.loop Q42_19))) (.seq (.reg Q42_20) .ret)))))⟩
/-! horarium/reduce.Stuck$1 -/
@[go_sem] def Q43_0:=k 0xa2fc5cc
@[go_sem] def Q43_1:=k 0x16214d444842f03cad6ccdca438
def t_Q43:TF:=⟨9,[.t 4],(.seq (.reg Q43_0) (.seq (.reg Q43_1) .ret))⟩
/-! horarium/move.Fits -/
@[go_sem] def Q44_0:=k 0x25f179897c5cc
@[go_sem] def Q44_1:=kd 0x80ce91b3c9b9adf796c916cfece4b9af134fe7ac2365f7f966403094dbb5e24659824c4d4
def t_Q44:TF:=⟨20,[.t 6],(.seq (.reg Q44_0) (.seq (.dreg Q44_1) .ret))⟩
/-! horarium/word.Same -/
@[go_sem] def Q45_0:=k 0x1776c
@[go_sem] def Q45_1:=k 0x1d1d934886eacb0d5ae2822dd8f7873b50dc14332a4f2b36f599f8c
@[go_sem] def Q45_2:=k 0x3cee64abffd7e64c
def t_Q45:TF:=⟨20,[.t 6],(.seq (.reg Q45_0) (.seq (.reg Q45_1) (.seq (.reg Q45_2) .ret)))⟩
/-! horarium/runs.Right -/
@[go_sem] def Q46_0:=k 0x8a6c
@[go_sem] def Q46_1:=k 0xc598
@[go_sem] def Q46_2:=k 0xa9b39dc774c
@[go_sem] def Q46_3:=k 0x79e0124
@[go_sem] def Q46_4:=k 0x3f0db640fe92f00cba484
@[go_sem] def Q46_5:=k 0x70c9606238b51570641bfb1bfb08e1c63858f088e3f456d778b9ab93c1a26f34f94e2d4
@[go_sem] def Q46_6:=k 0x8a6c
@[go_sem] def Q46_7:=k 0x4f2b5ff995f151d9ac0678d504c
@[go_sem] def Q46_8:=k 0x67bdcb6566d60
def Q46_9:TC:=(.seq (.reg Q46_3) (.seq (.cond (.t 9) .skip (.exit 0)) (.seq (.block 1 (.seq (.reg Q46_4) (.seq (.seq (.reg Q46_5) (.cond (.t 25) (.seq (.reg Q46_6) .ret) .skip)) (.reg Q46_7)))) (.reg Q46_8))))
@[go_sem] def Q46_10:=k 0xf6ce430ed9ab1de5f6af1cc41996a0aea3ae94c74ab35325f91f5e5fe032f27b3408d
def t_Q46:TF:=⟨43,[.t 2],(.seq (.reg Q46_0) (.seq (.reg Q46_1) (.seq (.seq (.reg Q46_2) (.block 0 (.loop Q46_9))) (.seq (.reg Q46_10) .ret))))⟩
/-! horarium/horariumref12.Right -/
@[go_sem] def Q47_0:=k 0x58e4f4c
@[go_sem] def Q47_1:=k 0x53f052a35cd302b2dbef33df411a6b4df78
@[go_sem] def Q47_2:=k 0x1144362f9c4c
def t_Q47:TF:=⟨11,[.t 2],(.seq (.reg Q47_0) (.seq (.reg Q47_1) (.seq (.reg Q47_2) .ret)))⟩
/-! horarium/cursor.New -/
@[go_sem] def Q48_0:=k 0x8ca4
@[go_sem] def Q48_1:=k 0xfdec210ba3400cc
@[go_sem] def Q48_2:=k 0x8ca4
@[go_sem] def Q48_3:=k 0x6df1258718e5603ef61cb28c
@[go_sem] def Q48_4:=k 0x97c36ed78c
@[go_sem] def Q48_5:=k 0x1668ac304e0c
def t_Q48:TF:=⟨14,[.t 2],(.seq (.reg Q48_0) (.seq (.seq (.reg Q48_1) (.cond (.t 6) (.seq (.reg Q48_2) .ret) .skip)) (.seq (.reg Q48_3) (.seq (.reg Q48_4) (.seq (.reg Q48_5) .ret)))))⟩
/-! (*horarium/cursor.Cursor).Next -/
@[go_sem] def Q49_0:=k 0x5202c0
@[go_sem] def Q49_1:=kd 0x266466f97aba07a13a9177bd70179c34706023bd806c1e1ed4
@[go_sem] def Q49_2:=k 0x54b5bdeab8407c
@[go_sem] def Q49_3:=kd 0xb4a845d00875eeeedda94b04709b9dba9d05a6870ab5dfd99eed730f96e28a0de72a299c9c9da0a0529ab6c423e0eac2cc3a5adf0bdced711211df7642c87f6dcc7583f1c36985e3b6957c0a9fd5
@[go_sem] def Q49_4:=kd 0x25333a3e6054e5e7dabff80adcfb88b19800b955f0ac7c5b23cc80a73d5
@[go_sem] def Q49_5:=k 0xb5ee700580d
@[go_sem] def Q49_6:=k 0xa9c7ef3304a00ee1
def t_Q49:TF:=⟨56,[.cell 2 2 true,.t 3],(.seq (.reg Q49_0) (.seq (.seq (.dreg Q49_1) (.cond (.t 14) (.seq (.reg Q49_2) .ret) .skip)) (.seq (.dreg Q49_3) (.seq (.dreg Q49_4) (.seq (.reg Q49_5) (.seq (.reg Q49_6) .ret))))))⟩
/-! horarium/runs.Tidy -/
@[go_sem] def Q50_0:=k 0x8a74
@[go_sem] def Q50_1:=k 0xc5b4
@[go_sem] def Q50_2:=k 0xaa8f06cb28c
@[go_sem] def Q50_3:=k 0x892a464
@[go_sem] def Q50_4:=k 0x3f6bbca9872e5d3c047c4
@[go_sem] def Q50_5:=k 0x2d0fe04361e44e0c
@[go_sem] def Q50_6:=k 0x213570fd16b08a9df96bcd4
@[go_sem] def Q50_7:=kd 0xf3fc2c24c47d2f8c957347c304755b7697e925110f237c74d8c20658a6c6396769a267314d8837d5
@[go_sem] def Q50_8:=kd 0x614c67470ee73b898a5aa6ba7a8ff669c0ede0499d93fea2ce539578f9f6d9b95a29ce0384a477e2214bed5
@[go_sem] def Q50_9:=k 0x189fa2b0096796360cd921c48c
@[go_sem] def Q50_10:=k 0xaf57ac286eb1a1
def Q50_11:TC:=(.seq (.reg Q50_3) (.seq (.cond (.t 10) .skip (.exit 0)) (.seq (.block 1 (.seq (.reg Q50_4) (.seq (.reg Q50_5) (.block 2 (.seq (.reg Q50_6) (.cond (.t 19) .skip (.seq (.dreg Q50_7) (.cond (.t 23) (.dreg Q50_8) (.reg Q50_9))))))))) (.reg Q50_10))))
@[go_sem] def Q50_12:=k 0xa8544e85cc0a08ccd
def t_Q50:TF:=⟨54,[.t 2],(.seq (.reg Q50_0) (.seq (.reg Q50_1) (.seq (.seq (.reg Q50_2) (.block 0 (.loop Q50_11))) (.seq (.reg Q50_12) .ret))))⟩
/-! horarium/bound.Late -/
@[go_sem] def Q51_0:=k 0x17758
@[go_sem] def Q51_1:=k 0x1595b313460e90deea3f9116cab5d3cd7f5a8c8c
@[go_sem] def Q51_2:=k 0x121e92f3fdfd700514034c
@[go_sem] def Q51_3:=k 0x17758
@[go_sem] def Q51_4:=k 0x152647df1620f6df5c584c
@[go_sem] def Q51_5:=k 0x177d4
@[go_sem] def Q51_6:=k 0x60241a7332e8ca0c
@[go_sem] def Q51_7:=k 0x26458
@[go_sem] def Q51_8:=k 0x58ebe81af08d
@[go_sem] def Q51_9:=k 0x7c15f265
@[go_sem] def Q51_10:=k 0x24f171dc93aed4c5cbcfdc5
@[go_sem] def Q51_11:=k 0xf84bdc93845fadb671eeef1f0c870e9a84ba6415
@[go_sem] def Q51_12:=k 0xa5776e25
@[go_sem] def Q51_13:=k 0x257868682fe321e7981
@[go_sem] def Q51_14:=k 0x6e3906c17e18b3323459606263c9a43588088e79808dbb4fcd
@[go_sem] def Q51_15:=k 0xc25bd65a0bd9e1
def Q51_16:TC:=(.seq (.reg Q51_12) (.seq (.cond (.t 45) .skip (.exit 3)) (.seq (.block 4 (.seq (.reg Q51_13) (.reg Q51_14))) (.reg Q51_15))))
@[go_sem] def Q51_17:=k 0xc532a201501521
def Q51_18:TC:=(.seq (.reg Q51_9) (.seq (.cond (.t 34) .skip (.exit 1)) (.seq (.block 2 (.seq (.reg Q51_10) (.seq (.reg Q51_11) (.block 3 (.loop Q51_16))))) (.reg Q51_17))))
@[go_sem] def Q51_19:=k 0x31cb811fda04d
def t_Q51:TF:=⟨59,[.t 6],(.seq (.reg Q51_0) (.seq (.reg Q51_1) (.seq (.block 0 (.seq (.reg Q51_2) (.cond (.t 21) (.seq (.reg Q51_3) .ret) (.seq (.reg Q51_4) (.cond (.t 25) (.seq (.reg Q51_5) .ret) .skip))))) (.seq (.reg Q51_6) (.seq (.reg Q51_7) (.seq (.seq (.reg Q51_8) (.block 1 (.loop Q51_18))) (.seq (.reg Q51_19) .ret)))))))⟩
/-! horarium/bound.Budget -/
@[go_sem] def Q52_0:=k 0x17758
@[go_sem] def Q52_1:=k 0x3055c52c4075514c
@[go_sem] def Q52_2:=k 0x242b3dd3b9d126fb9cbfd07c42b4efbb5a385c63d1eccc85f71399da92697cc
@[go_sem] def Q52_3:=k 0x177d4
@[go_sem] def Q52_4:=k 0x163a7ab8348ae79f5d8ecc
@[go_sem] def Q52_5:=k 0x35a36e1d108c
@[go_sem] def Q52_6:=k 0x26458
@[go_sem] def Q52_7:=k 0x673314bc013779bcd
@[go_sem] def Q52_8:=k 0x29f98
@[go_sem] def Q52_9:=k 0x5a6bdfeb5f4d
@[go_sem] def Q52_10:=k 0x966b4125
@[go_sem] def Q52_11:=k 0x2833eabf7ba5a8a67124c85
@[go_sem] def Q52_12:=k 0x47edfc1ce2617336c7717c173d86ed81f722470796007dbb32feade37a343662defe2ac0b4fb87132cd
@[go_sem] def Q52_13:=k 0xc900440b3c5061
def Q52_14:TC:=(.seq (.reg Q52_10) (.seq (.cond (.t 41) .skip (.exit 2)) (.seq (.block 3 (.seq (.reg Q52_11) (.reg Q52_12))) (.reg Q52_13))))
@[go_sem] def Q52_15:=k 0xb3a9ec886f8e34afc6f0b8d
@[go_sem] def Q52_16:=k 0x6d30dea1c3a755220384d8d
def Q52_17:TC:=(.seq (.seq (.reg Q52_7) (.cond (.t 34) .skip (.exit 0))) (.seq (.block 1 (.seq (.reg Q52_8) (.seq (.seq (.reg Q52_9) (.block 2 (.loop Q52_14))) (.reg Q52_15)))) (.reg Q52_16)))
@[go_sem] def Q52_18:=k 0x3539251efbd4d
def t_Q52:TF:=⟨63,[.t 6],(.seq (.reg Q52_0) (.seq (.reg Q52_1) (.seq (.seq (.reg Q52_2) (.cond (.t 27) (.seq (.reg Q52_3) .ret) .skip)) (.seq (.reg Q52_4) (.seq (.reg Q52_5) (.seq (.seq (.reg Q52_6) (.block 0 (.loop Q52_17))) (.seq (.reg Q52_18) .ret)))))))⟩
/-! slices.Clone[[]horarium/api.Run,horarium/api.Run] -/
@[go_sem] def Q53_0:=k 0x8a74
@[go_sem] def Q53_1:=k 0x29a372c58c
@[go_sem] def Q53_2:=k 0x8a74
@[go_sem] def Q53_3:=k 0x299089e992c2e4977550
def t_Q53:TF:=⟨8,[.t 2],(.seq (.reg Q53_0) (.seq (.seq (.reg Q53_1) (.cond (.t 4) (.seq (.reg Q53_2) .ret) .skip)) (.seq (.reg Q53_3) .ret)))⟩
/-! horarium/reduce.step -/
@[go_sem] def Q54_0:=k 0x13167e798a8c
@[go_sem] def Q54_1:=k 0x5690a33e40
@[go_sem] def Q54_2:=k 0xb708e24
@[go_sem] def Q54_3:=k 0x60ab8a576bc1e3180
@[go_sem] def Q54_4:=k 0xafd90f6d7af285638efaababbb4e9f134adc02904ddb0c
@[go_sem] def Q54_5:=k 0x1cff3c6d28688743890686aa852431dff0e8c
@[go_sem] def Q54_6:=k 0x8580d8b79454c
@[go_sem] def Q54_7:=k 0x6b992420aa8a0
def Q54_8:TC:=(.seq (.reg Q54_2) (.seq (.cond (.t 13) .skip (.exit 0)) (.seq (.block 1 (.seq (.reg Q54_3) (.seq (.reg Q54_4) (.seq (.reg Q54_5) (.cond (.t 29) (.seq (.reg Q54_6) .ret) .skip))))) (.reg Q54_7))))
@[go_sem] def Q54_9:=k 0x276dcbbcf24bcd
def t_Q54:TF:=⟨33,[.t 4,.t 5],(.seq (.reg Q54_0) (.seq (.seq (.reg Q54_1) (.block 0 (.loop Q54_8))) (.seq (.reg Q54_9) .ret)))⟩
/-! horarium/fold.leaves -/
@[go_sem] def Q55_0:=k 0x8a74
@[go_sem] def Q55_1:=k 0xc5b4
@[go_sem] def Q55_2:=k 0xa9b39dc774c
@[go_sem] def Q55_3:=k 0x79e0124
@[go_sem] def Q55_4:=k 0x3f0db640fe92f00cba484
@[go_sem] def Q55_5:=k 0x4fc0f7c9ad9cd735ec8c5e4a8ee12112cc
@[go_sem] def Q55_6:=k 0x3e9a1b653a660
def Q55_7:TC:=(.seq (.reg Q55_3) (.seq (.cond (.t 9) .skip (.exit 0)) (.seq (.block 1 (.seq (.reg Q55_4) (.reg Q55_5))) (.reg Q55_6))))
@[go_sem] def Q55_8:=k 0x20b19831b18c
def t_Q55:TF:=⟨20,[.t 2],(.seq (.reg Q55_0) (.seq (.reg Q55_1) (.seq (.seq (.reg Q55_2) (.block 0 (.loop Q55_7))) (.seq (.reg Q55_8) .ret))))⟩
/-! horarium/fold.best -/
@[go_sem] def Q56_0:=k 0x10250
@[go_sem] def Q56_1:=k 0x13d90
@[go_sem] def Q56_2:=k 0xadfcaad9f8c
@[go_sem] def Q56_3:=k 0xc653164
@[go_sem] def Q56_4:=k 0x1a0d2abad48c
@[go_sem] def Q56_5:=k 0x1b298
@[go_sem] def Q56_6:=k 0x955d8
@[go_sem] def Q56_7:=k 0xb75007a09b8a1f9a3062f75445d7f7737cc
@[go_sem] def Q56_8:=k 0xf5084248b27ed5648d2742f846d56b880bbdb73573325895c98d0d
@[go_sem] def Q56_9:=k 0x650b5c9af3f040a834b94d8a3f24d
@[go_sem] def Q56_10:=k 0x6a2d0970aa0009c7345bc2b4db6c7cc8f4d
@[go_sem] def Q56_11:=k 0x24de16b08878d
@[go_sem] def Q56_12:=k 0x24a0962f07a87729e0d
@[go_sem] def Q56_13:=k 0x1ae310efa78b8553fe0411c8636157939af9a7ab18448d
@[go_sem] def Q56_14:=k 0xef0c0ee2464791231be9be1c778d81ae8d
@[go_sem] def Q56_15:=k 0x99ff624455c38a68c
def Q56_16:TC:=(.seq (.seq (.reg Q56_7) (.cond (.t 22) .skip (.exit 2))) (.seq (.block 3 (.seq (.reg Q56_8) (.seq (.reg Q56_9) (.seq (.reg Q56_10) (.seq (.seq (.reg Q56_11) (.cond (.t 44) (.reg Q56_12) .skip)) (.seq (.reg Q56_13) (.cond (.t 54) (.reg Q56_14) .skip))))))) (.reg Q56_15)))
@[go_sem] def Q56_17:=k 0xce694a7740c6e1
def Q56_18:TC:=(.seq (.reg Q56_3) (.seq (.cond (.t 14) .skip (.exit 0)) (.seq (.block 1 (.seq (.reg Q56_4) (.seq (.reg Q56_5) (.seq (.reg Q56_6) (.block 2 (.loop Q56_16)))))) (.reg Q56_17))))
@[go_sem] def Q56_19:=k 0x4412491c4621
def t_Q56:TF:=⟨62,[.cell 4 4 true],(.seq (.reg Q56_0) (.seq (.reg Q56_1) (.seq (.seq (.reg Q56_2) (.block 0 (.loop Q56_18))) (.seq (.reg Q56_19) .ret))))⟩
/-! horarium/fold.same -/
@[go_sem] def Q57_0:=k 0x60d274
@[go_sem] def Q57_1:=k 0x6148f4
@[go_sem] def Q57_2:=k 0xab6a6fcedcc
@[go_sem] def Q57_3:=k 0x98747a4
@[go_sem] def Q57_4:=k 0x574b312dd31669634eb00
@[go_sem] def Q57_5:=k 0xb2734519c726be88195a8f91d4096e7f14c
@[go_sem] def Q57_6:=k 0x3cdc00baf94275f6a37e76dfcdbccc
@[go_sem] def Q57_7:=k 0x56d071c2f4520
def Q57_8:TC:=(.seq (.reg Q57_3) (.seq (.cond (.t 11) .skip (.exit 0)) (.seq (.block 1 (.seq (.reg Q57_4) (.seq (.reg Q57_5) (.reg Q57_6)))) (.reg Q57_7))))
@[go_sem] def Q57_9:=k 0x9eac53d7012b29bab84c
def t_Q57:TF:=⟨28,[.t 2,.t 3],(.seq (.reg Q57_0) (.seq (.reg Q57_1) (.seq (.seq (.reg Q57_2) (.block 0 (.loop Q57_8))) (.seq (.reg Q57_9) .ret))))⟩
/-! horarium/fold.joined -/
@[go_sem] def Q58_0:=k 0x8a74
@[go_sem] def Q58_1:=k 0x10332c406eaf00cc
@[go_sem] def Q58_2:=k 0x165103db3bdc774c
@[go_sem] def Q58_3:=k 0xf8d642f610c
@[go_sem] def Q58_4:=k 0x115881908f928f2e790a4a9ae0ebf4b99c1d644c
def t_Q58:TF:=⟨17,[.t 2],(.seq (.reg Q58_0) (.seq (.reg Q58_1) (.seq (.seq (.reg Q58_2) (.cond (.t 8) (.seq (.reg Q58_3) .ret) .skip)) (.seq (.reg Q58_4) .ret))))⟩
/-! slices.Concat[[]horarium/api.Node,horarium/api.Node] -/
@[go_sem] def Q59_0:=k 0x8a74
@[go_sem] def Q59_1:=k 0xc598
@[go_sem] def Q59_2:=k 0xac45d8d290c
@[go_sem] def Q59_3:=k 0xa7beae4
@[go_sem] def Q59_4:=k 0x59ecf8797e9298e40
@[go_sem] def Q59_5:=k 0x189fa2b0092e74df2651b0c48c
@[go_sem] def Q59_6:=k 0x2091a89eb18c
@[go_sem] def Q59_7:=k 0x4bb3b26c
@[go_sem] def Q59_8:=k 0x4ca2f2f1b9360
def Q59_9:TC:=(.seq (.reg Q59_3) (.seq (.cond (.t 12) .skip (.exit 0)) (.seq (.block 1 (.seq (.reg Q59_4) (.seq (.reg Q59_5) (.seq (.reg Q59_6) (.cond (.t 20) (.reg Q59_7) .skip))))) (.reg Q59_8))))
@[go_sem] def Q59_10:=k 0x4ccce91575279e8c
@[go_sem] def Q59_11:=k 0xb9fc690dd0c
@[go_sem] def Q59_12:=k 0x19c61ee4
@[go_sem] def Q59_13:=k 0xc0156cd811873c240
@[go_sem] def Q59_14:=k 0x61410e4f8abbc2a0d7c208d
@[go_sem] def Q59_15:=k 0x76069e8b12c261
def Q59_16:TC:=(.seq (.reg Q59_12) (.seq (.cond (.t 28) .skip (.exit 2)) (.seq (.block 3 (.seq (.reg Q59_13) (.reg Q59_14))) (.reg Q59_15))))
@[go_sem] def Q59_17:=k 0x1e075b8bd0d8d
def t_Q59:TF:=⟨36,[.t 2],(.seq (.reg Q59_0) (.seq (.reg Q59_1) (.seq (.seq (.reg Q59_2) (.block 0 (.loop Q59_9))) (.seq (.reg Q59_10) (.seq (.seq (.reg Q59_11) (.block 2 (.loop Q59_16))) (.seq (.reg Q59_17) .ret))))))⟩
/-! slices.Concat[[][]horarium/api.Node,[]horarium/api.Node] -/
@[go_sem] def Q60_0:=k 0x8a74
@[go_sem] def Q60_1:=k 0xc598
@[go_sem] def Q60_2:=k 0xac45d8d290c
@[go_sem] def Q60_3:=k 0xa7beae4
@[go_sem] def Q60_4:=k 0x59ecf8797e9298e40
@[go_sem] def Q60_5:=k 0x189fa2b0092e74df2651b0c48c
@[go_sem] def Q60_6:=k 0x2091a89eb18c
@[go_sem] def Q60_7:=k 0x4bb3b26c
@[go_sem] def Q60_8:=k 0x4ca2f2f1b9360
def Q60_9:TC:=(.seq (.reg Q60_3) (.seq (.cond (.t 12) .skip (.exit 0)) (.seq (.block 1 (.seq (.reg Q60_4) (.seq (.reg Q60_5) (.seq (.reg Q60_6) (.cond (.t 20) (.reg Q60_7) .skip))))) (.reg Q60_8))))
@[go_sem] def Q60_10:=k 0x4ccce91576149e8c
@[go_sem] def Q60_11:=k 0xb9fc690dd0c
@[go_sem] def Q60_12:=k 0x19c61ee4
@[go_sem] def Q60_13:=k 0xc0156cd811873c240
@[go_sem] def Q60_14:=k 0x61410e4f8ab4e758d7c208d
@[go_sem] def Q60_15:=k 0x76069e8b12c261
def Q60_16:TC:=(.seq (.reg Q60_12) (.seq (.cond (.t 28) .skip (.exit 2)) (.seq (.block 3 (.seq (.reg Q60_13) (.reg Q60_14))) (.reg Q60_15))))
@[go_sem] def Q60_17:=k 0x1e075b8bd0d8d
def t_Q60:TF:=⟨36,[.t 2],(.seq (.reg Q60_0) (.seq (.reg Q60_1) (.seq (.seq (.reg Q60_2) (.block 0 (.loop Q60_9))) (.seq (.reg Q60_10) (.seq (.seq (.reg Q60_11) (.block 2 (.loop Q60_16))) (.seq (.reg Q60_17) .ret))))))⟩
/-! horarium/node.Length -/
@[go_sem] def Q61_0:=k 0xa2f8a58
@[go_sem] def Q61_1:=k 0xb1e08041a9774c
@[go_sem] def Q61_2:=k 0xa2f8a58
@[go_sem] def Q61_3:=k 0x793ddb857c4da043fbdc6bba7b2a80e644c
@[go_sem] def Q61_4:=k 0xc04ba6594c
@[go_sem] def Q61_5:=k 0x83ff2a23fcfcc
@[go_sem] def Q61_6:=k 0xa2f8a58
def t_Q61:TF:=⟨17,[.t 2,.t 3],(.seq (.reg Q61_0) (.seq (.seq (.reg Q61_1) (.cond (.t 8) (.seq (.reg Q61_2) .ret) .skip)) (.seq (.seq (.reg Q61_3) (.seq (.reg Q61_4) (.cond (.t 15) (.seq (.reg Q61_5) .ret) .skip))) (.seq (.reg Q61_6) .ret))))⟩
/-! horarium/node.whole -/
@[go_sem] def Q62_0:=k 0x8a6c
@[go_sem] def Q62_1:=k 0x295a15398ddb680ec53d230fd1841f98a849ab5bd9dc278a7e2bc58c
def t_Q62:TF:=⟨13,[.t 2],(.seq (.reg Q62_0) (.seq (.reg Q62_1) .ret))⟩
/-! horarium/node.Depth -/
@[go_sem] def Q63_0:=k 0x8a58
@[go_sem] def Q63_1:=k 0x987c6beb193c0c
@[go_sem] def Q63_2:=k 0x8a58
@[go_sem] def Q63_3:=k 0x6fea792ebc2a73c1a5311dc3aca517e290c
@[go_sem] def Q63_4:=k 0x1668ac304e0c
def t_Q63:TF:=⟨14,[.t 2],(.seq (.reg Q63_0) (.seq (.seq (.reg Q63_1) (.cond (.t 7) (.seq (.reg Q63_2) .ret) .skip)) (.seq (.reg Q63_3) (.seq (.reg Q63_4) .ret))))⟩
/-! horarium/horariumref3.Depth -/
@[go_sem] def Q64_0:=k 0x8a58
@[go_sem] def Q64_1:=k 0x5de2097eb4e83dbb85894af08c6f292e5d2ad814af782bc58c
@[go_sem] def Q64_2:=k 0x8a58
@[go_sem] def Q64_3:=k 0x5954a051c65d3160c
def t_Q64:TF:=⟨15,[.t 2],(.seq (.reg Q64_0) (.seq (.seq (.reg Q64_1) (.cond (.t 12) (.seq (.reg Q64_2) .ret) .skip)) (.seq (.reg Q64_3) .ret)))⟩
/-! horarium/horariumref3.Length -/
@[go_sem] def Q65_0:=k 0xa2f8a58
@[go_sem] def Q65_1:=k 0x130b1ef340063c0c
@[go_sem] def Q65_2:=k 0xa2f8a58
@[go_sem] def Q65_3:=k 0x39fd279b24cbeedcc
@[go_sem] def Q65_4:=k 0x8983e2044c
@[go_sem] def Q65_5:=k 0xa2f8a58
@[go_sem] def Q65_6:=k 0x839175a377acc
def t_Q65:TF:=⟨13,[.t 2,.t 3],(.seq (.reg Q65_0) (.seq (.seq (.reg Q65_1) (.cond (.t 7) (.seq (.reg Q65_2) .ret) .skip)) (.seq (.reg Q65_3) (.seq (.seq (.reg Q65_4) (.cond (.t 11) (.seq (.reg Q65_5) .ret) .skip)) (.seq (.reg Q65_6) .ret)))))⟩
/-! horarium/horariumref3.leaves -/
@[go_sem] def Q66_0:=k 0x17774
@[go_sem] def Q66_1:=k 0x11aecacd3aa58b6766bf59644c
@[go_sem] def Q66_2:=k 0x387ecf9e12ffc
@[go_sem] def Q66_3:=kd 0x11dcd29ea60571fe9c52ee0e12259dc31b0ca3e4b761807f526eedcaa7b49c917c1ddd7c2ace082d4
@[go_sem] def Q66_4:=k 0x6f62309afd1bfd
@[go_sem] def Q66_5:=k 0x4c0738c7ce92a50182f8ccb54e67bd172da39c7bbfb18bb41570d
@[go_sem] def Q66_6:=k 0x95af14cb1d47bd
@[go_sem] def Q66_7:=k 0x1b298
@[go_sem] def Q66_8:=k 0x685dfb8f6684598a26ef497365e718bb8df2cd
@[go_sem] def Q66_9:=k 0x8fa2c92dfb6b4c2bf58aa6a49a06568580d
@[go_sem] def Q66_10:=k 0x2959d1efb01a853918d
def Q66_11:TC:=(.seq (.seq (.reg Q66_8) (.cond (.t 50) .skip (.exit 1))) (.seq (.block 2 (.reg Q66_9)) (.reg Q66_10)))
@[go_sem] def Q66_12:=k 0x31cb81187204d
@[go_sem] def Q66_13:=k 0x146e2ac2c60a11e3569bb8d
@[go_sem] def Q66_14:=k 0x3ac6ba3e6
@[go_sem] def Q66_15:=k 0x68da3b7179b5aee97f42
@[go_sem] def Q66_16:=k 0xbe76cd5b1aebc4fae9a98245d7f958e
@[go_sem] def Q66_17:=k 0xf51abd6dd5e22a2
def Q66_18:TC:=(.seq (.reg Q66_14) (.seq (.cond (.t 64) .skip (.exit 3)) (.seq (.block 4 (.seq (.reg Q66_15) (.reg Q66_16))) (.reg Q66_17))))
@[go_sem] def Q66_19:=k 0x1ee031c5bbfdce
def t_Q66:TF:=⟨73,[.t 6],(.seq (.reg Q66_0) (.seq (.seq (.reg Q66_1) (.block 0 (.seq (.reg Q66_2) (.cond (.t 15) (.seq (.dreg Q66_3) .ret) (.seq (.reg Q66_4) (.cond (.t 31) (.seq (.reg Q66_5) .ret) (.seq (.reg Q66_6) (.cond (.t 42) (.seq (.seq (.reg Q66_7) (.block 1 (.loop Q66_11))) (.seq (.reg Q66_12) .ret)) .skip)))))))) (.seq (.seq (.reg Q66_13) (.block 3 (.loop Q66_18))) (.seq (.reg Q66_19) .ret))))⟩
/-! horarium/horariumref7.words -/
@[go_sem] def Q67_0:=k 0x8a74
@[go_sem] def Q67_1:=k 0xc5b4
@[go_sem] def Q67_2:=k 0xaa8f06cb28c
@[go_sem] def Q67_3:=k 0x892a464
@[go_sem] def Q67_4:=k 0x3f6bbca9872e5d3c047c4
@[go_sem] def Q67_5:=k 0x17758
@[go_sem] def Q67_6:=k 0x466fb3086abde9b04f4a2df3ea6a324bdcf7c67a0860c
@[go_sem] def Q67_7:=k 0x8d8ceec7128e441928341e1958cd9cc
@[go_sem] def Q67_8:=k 0x9340d06668a299b4c
def Q67_9:TC:=(.seq (.seq (.reg Q67_6) (.cond (.t 21) .skip (.exit 2))) (.seq (.block 3 (.reg Q67_7)) (.reg Q67_8)))
@[go_sem] def Q67_10:=k 0x646b949433220
def Q67_11:TC:=(.seq (.reg Q67_3) (.seq (.cond (.t 10) .skip (.exit 0)) (.seq (.block 1 (.seq (.reg Q67_4) (.seq (.reg Q67_5) (.block 2 (.loop Q67_9))))) (.reg Q67_10))))
@[go_sem] def Q67_12:=k 0x338c9e343d4c
def t_Q67:TF:=⟨31,[.t 2],(.seq (.reg Q67_0) (.seq (.reg Q67_1) (.seq (.seq (.reg Q67_2) (.block 0 (.loop Q67_11))) (.seq (.reg Q67_12) .ret))))⟩
/-! horarium/horariumref7.depends -/
@[go_sem] def Q68_0:=k 0x1776c
@[go_sem] def Q68_1:=k 0x1702dead81f01a8c
@[go_sem] def Q68_2:=k 0x177d8
@[go_sem] def Q68_3:=k 0x2999aeda7df0709c7a49cd09880eb1df78af147c8fcf7ee5d1128acc2155ed08c8ce0f173561e3310ce2127c15c733974f5c6de10d3179175597da4ce76dcf47db022be73f5a8948f1dd31f9286b70931728fb255b14ddde51f9343d8813ce21ad344d
def t_Q68:TF:=⟨46,[.t 6],(.seq (.reg Q68_0) (.seq (.seq (.reg Q68_1) (.cond (.t 9) (.seq (.reg Q68_2) .ret) .skip)) (.seq (.reg Q68_3) .ret)))⟩
/-! horarium/horariumref7.Project -/
@[go_sem] def Q69_0:=k 0x17774
@[go_sem] def Q69_1:=k 0x1b2b4
@[go_sem] def Q69_2:=k 0xad2141d644c
@[go_sem] def Q69_3:=k 0xb708e24
@[go_sem] def Q69_4:=k 0x6f8904f28135a4c9e3184
@[go_sem] def Q69_5:=k 0x26629e1c90b57ecd746496759f209dd3f562e6db3b5056c66fd4
@[go_sem] def Q69_6:=k 0x27c135f42e610a494c9381f04c
@[go_sem] def Q69_7:=k 0x682b8020a6d60
def Q69_8:TC:=(.seq (.reg Q69_3) (.seq (.cond (.t 13) .skip (.exit 0)) (.seq (.block 1 (.seq (.reg Q69_4) (.seq (.reg Q69_5) (.cond (.t 25) (.reg Q69_6) .skip)))) (.reg Q69_7))))
@[go_sem] def Q69_9:=k 0x65e084e6e42baf08d
def t_Q69:TF:=⟨33,[.t 6],(.seq (.reg Q69_0) (.seq (.reg Q69_1) (.seq (.seq (.reg Q69_2) (.block 0 (.loop Q69_8))) (.seq (.reg Q69_9) .ret))))⟩
/-! horarium/horariumref7.All -/
@[go_sem] def Q70_0:=k 0x100f4
@[go_sem] def Q70_1:=k 0x13c34
@[go_sem] def Q70_2:=k 0xac45d8d290c
@[go_sem] def Q70_3:=k 0xa7beae4
@[go_sem] def Q70_4:=k 0x169f86ab8e0c
@[go_sem] def Q70_5:=k 0x60ab8a583fa27c14c
@[go_sem] def Q70_6:=k 0x6154c075846460fe9fcc
@[go_sem] def Q70_7:=k 0xbee03e30ae018f161c8e89b4c
@[go_sem] def Q70_8:=k 0x12fb0397d01f92355cdd0c
@[go_sem] def Q70_9:=k 0x4bb919677f2488870cd7ed4dac6489eeefd8b628da0d
@[go_sem] def Q70_10:=k 0x86c194ecce6308ccc
def Q70_11:TC:=(.seq (.seq (.reg Q70_6) (.cond (.t 19) .skip (.exit 2))) (.seq (.block 3 (.seq (.reg Q70_7) (.seq (.reg Q70_8) (.cond (.t 28) (.reg Q70_9) .skip)))) (.reg Q70_10)))
@[go_sem] def Q70_12:=k 0x7c067d4fd338e1
def Q70_13:TC:=(.seq (.reg Q70_3) (.seq (.cond (.t 12) .skip (.exit 0)) (.seq (.block 1 (.seq (.reg Q70_4) (.seq (.reg Q70_5) (.block 2 (.loop Q70_11))))) (.reg Q70_12))))
@[go_sem] def Q70_14:=k 0x1fc508d2eb40d
def t_Q70:TF:=⟨38,[.t 4],(.seq (.reg Q70_0) (.seq (.reg Q70_1) (.seq (.seq (.reg Q70_2) (.block 0 (.loop Q70_13))) (.seq (.reg Q70_14) .ret))))⟩
/-! horarium/horariumref7.Do -/
@[go_sem] def Q71_0:=k 0xc112dcc
@[go_sem] def Q71_1:=k 0x2ffdfa2916a9b997b090
@[go_sem] def Q71_2:=k 0x154b7288e27ce9b52ff16c0d420a63fcc1f6960dd76d4f2be2e88c3f424060ee702235199b0a517ad8986114
@[go_sem] def Q71_3:=k 0x2cccc362204c
@[go_sem] def Q71_4:=k 0x2e489e768b94
@[go_sem] def Q71_5:=kd 0x3fc947dbc2faf611d9aa603a1a5edeafc625f68fc2333931f5d74e15cacf671288ac166a49e9260ece9e89ed40eb177c5787307cfd3a48743c82b09e2fcd178049150bae559fc5133bd26d5
@[go_sem] def Q71_6:=kd 0x17228ea0735a04d8f759d717bbf136561a30d9bc4c2fc21c1ebef25bc22d789866d9a2ebbd30256fedb55d9beb1369bbdc0a1dff6c62caefc88c9a84a2dbe1e999b84f3b8280660a88710e38dd058b0bd6
@[go_sem] def Q71_7:=k 0xf151c22b41d5d58f8e
def t_Q71:TF:=⟨77,[.t 4],(.seq (.reg Q71_0) (.seq (.reg Q71_1) (.seq (.seq (.reg Q71_2) (.cond (.t 25) (.seq (.reg Q71_3) .ret) .skip)) (.seq (.seq (.reg Q71_4) (.cond (.t 28) (.dreg Q71_5) (.dreg Q71_6))) (.seq (.reg Q71_7) .ret)))))⟩
/-! (horarium/reduce.rows).tidy -/
@[go_sem] def Q72_0:=k 0x96e4412dcc
@[go_sem] def Q72_1:=k 0x1a04daf95fdbb28c
@[go_sem] def Q72_2:=k 0x3c9ee634ad26273d1a95e0a99ac055990c
def t_Q72:TF:=⟨14,[.t 4,.t 5],(.seq (.reg Q72_0) (.seq (.reg Q72_1) (.seq (.reg Q72_2) .ret)))⟩
/-! horarium/reduce.pass -/
@[go_sem] def Q73_0:=k 0x1015e4f4c
@[go_sem] def Q73_1:=k 0x544781f31dc
def t_Q73:TF:=⟨4,[.t 2],(.seq (.reg Q73_0) (.seq (.reg Q73_1) .ret))⟩
/-! horarium/move.Do -/
@[go_sem] def Q74_0:=k 0xc112dcc
@[go_sem] def Q74_1:=k 0x1d17f7d4853bedcc
@[go_sem] def Q74_2:=k 0x468d440df00faca8644c
@[go_sem] def Q74_3:=k 0x183aeb5f594c
@[go_sem] def Q74_4:=kd 0x6fe9d678a79d2266ca7b70fadadcea6b4
@[go_sem] def Q74_5:=k 0x20920e74b194
@[go_sem] def Q74_6:=kd 0x95375f327c11b8ecdafcb0bb2241178b4
@[go_sem] def Q74_7:=kd 0x464084db056f41c78d13aadfa3a84cf522eb857f2d4cd08e62930bb49cfcbb8aae1c17751734590f5bc3389ad5
@[go_sem] def Q74_8:=k 0x74ff70cca4a5c6ae5b51c932f65cd
@[go_sem] def Q74_9:=k 0x8f09abd0d62fc52cd
def t_Q74:TF:=⟨46,[.t 4],(.seq (.reg Q74_0) (.seq (.reg Q74_1) (.seq (.seq (.reg Q74_2) (.cond (.t 13) (.seq (.reg Q74_3) .ret) .skip)) (.seq (.dreg Q74_4) (.seq (.seq (.reg Q74_5) (.cond (.t 20) (.dreg Q74_6) .skip)) (.seq (.dreg Q74_7) (.seq (.reg Q74_8) (.seq (.reg Q74_9) .ret))))))))⟩
/-! slices.IndexFunc[[]horarium/move.Move,horarium/move.Move] -/
@[go_sem] def Q75_0:=k 0x100d8
@[go_sem] def Q75_1:=k 0xa9b39dc774c
@[go_sem] def Q75_2:=k 0x79e0124
@[go_sem] def Q75_3:=k 0x116d5a04a44c
@[go_sem] def Q75_4:=k 0x1ce25d06c5e7c82e8c66e198d1078c
@[go_sem] def Q75_5:=k 0x1d5f61600b0c
@[go_sem] def Q75_6:=k 0x3e9a1b653a660
def Q75_7:TC:=(.seq (.reg Q75_2) (.seq (.cond (.t 9) .skip (.exit 0)) (.seq (.block 1 (.seq (.reg Q75_3) (.seq (.reg Q75_4) (.cond (.t 16) (.seq (.reg Q75_5) .ret) .skip)))) (.reg Q75_6))))
@[go_sem] def Q75_8:=k 0x10154
def t_Q75:TF:=⟨19,[.t 4],(.seq (.reg Q75_0) (.seq (.seq (.reg Q75_1) (.block 0 (.loop Q75_7))) (.seq (.reg Q75_8) .ret)))⟩
/-! horarium/move.May -/
@[go_sem] def Q76_0:=k 0x12f684bf690c
@[go_sem] def Q76_1:=kd 0x1d28b6b6a493762d1414f9c46f3189c6abac85a58d7be7b1d5173d8c16c66c14fe91ca987be6f786d6acbb978d2c987d4
@[go_sem] def Q76_2:=k 0x1776c
@[go_sem] def Q76_3:=k 0x1035e3bbd4d4c14a8b79811b644f91d47aa255ca538d
@[go_sem] def Q76_4:=k 0x120646e67cbf507fe6d87abd99047e9c386ad7bd0ad55ce4c48afa2255cbb70d
def t_Q76:TF:=⟨43,[.t 6],(.seq (.reg Q76_0) (.seq (.seq (.dreg Q76_1) (.cond (.t 26) (.seq (.reg Q76_2) .ret) .skip)) (.seq (.reg Q76_3) (.seq (.reg Q76_4) .ret))))⟩
/-! horarium/graph.square -/
@[go_sem] def Q77_0:=k 0x8a74
@[go_sem] def Q77_1:=k 0xc5b4
@[go_sem] def Q77_2:=k 0x58f00cc
@[go_sem] def Q77_3:=k 0x4c01764
@[go_sem] def Q77_4:=k 0x37ed807b10673bb96a6bc61f4deea8c
@[go_sem] def Q77_5:=k 0x29b5fbd8b42e0
def Q77_6:TC:=(.seq (.reg Q77_3) (.seq (.cond (.t 6) .skip (.exit 0)) (.seq (.block 1 (.reg Q77_4)) (.reg Q77_5))))
@[go_sem] def Q77_7:=k 0x1668ac304e0c
def t_Q77:TF:=⟨14,[.t 2],(.seq (.reg Q77_0) (.seq (.reg Q77_1) (.seq (.seq (.reg Q77_2) (.block 0 (.loop Q77_6))) (.seq (.reg Q77_7) .ret))))⟩
/-! horarium/graph.is -/
@[go_sem] def Q78_0:=k 0x3b769f8a8c
@[go_sem] def Q78_1:=k 0x184c8bbe940a055882c2e524ebeca60e3e7db4619f98fa6fa40c
def t_Q78:TF:=⟨14,[.t 4],(.seq (.reg Q78_0) (.seq (.reg Q78_1) .ret))⟩
/-! horarium/word.Differ -/
@[go_sem] def Q79_0:=k 0x12db0b8f7758
@[go_sem] def Q79_1:=k 0x29f98
@[go_sem] def Q79_2:=k 0xa5e4b10
@[go_sem] def Q79_3:=k 0x16c8aa5b8e0c
@[go_sem] def Q79_4:=k 0x188d32dcf94c
@[go_sem] def Q79_5:=k 0x1a08a8319c8c
@[go_sem] def Q79_6:=k 0x6d8cbc8da968e24dfddfcc7d15b0f5c5d6fd536b920bcedd49ba6417a0c6eb9dbd65fe68fa54923677e198d
@[go_sem] def Q79_7:=k 0x714ebbc944e61ad42297d8d
@[go_sem] def Q79_8:=k 0x744ee7ca47046130c
def Q79_9:TC:=(.seq (.seq (.reg Q79_5) (.cond (.t 16) .skip (.exit 2))) (.seq (.block 3 (.seq (.reg Q79_6) (.cond (.t 34) (.seq (.reg Q79_7) .ret) .skip))) (.reg Q79_8)))
@[go_sem] def Q79_10:=k 0x7f74214fd37421
def Q79_11:TC:=(.seq (.reg Q79_2) (.seq (.cond (.t 12) .skip (.exit 0)) (.seq (.block 1 (.seq (.reg Q79_3) (.seq (.reg Q79_4) (.block 2 (.loop Q79_9))))) (.reg Q79_10))))
@[go_sem] def Q79_12:=k 0x5aa74b34bab8374b4da6b8ed68613f7124df4d
def t_Q79:TF:=⟨43,[.t 6,.t 7,.t 8],(.seq (.reg Q79_0) (.seq (.seq (.reg Q79_1) (.block 0 (.loop Q79_11))) (.seq (.reg Q79_12) .ret)))⟩
/-! horarium/runs.part -/
@[go_sem] def Q80_0:=k 0x8a6c
@[go_sem] def Q80_1:=k 0x96921a6e2cad26ff980afaae8f551fafc58c
def t_Q80:TF:=⟨9,[.t 2],(.seq (.reg Q80_0) (.seq (.reg Q80_1) .ret))⟩
/-! horarium/horariumref12.Where -/
@[go_sem] def Q81_0:=k 0xa48f18e4f4c
@[go_sem] def Q81_1:=k 0x11d84da00d14b4431f7a1e2882c816af63ca4301eb2094f4d5849dbd1897e5ec2e100bff6873b26b316c870f7ffa444dccac47b73ebaa6bfa9cfa8ec55fcf524015cb4252351534fc28b41297d5
@[go_sem] def Q81_2:=k 0x5a4c258
@[go_sem] def Q81_3:=k 0x5519588f20741912d5
@[go_sem] def Q81_4:=k 0xb0c08fe5
@[go_sem] def Q81_5:=k 0x3a8069f52ee79cda4635fa04e03bf9b0d
@[go_sem] def Q81_6:=k 0x27abc93b16b948f4562cd5
@[go_sem] def Q81_7:=k 0xb1bcdfd1e83c049cd
@[go_sem] def Q81_8:=k 0x17758
@[go_sem] def Q81_9:=k 0xb7c90bb888482250d
@[go_sem] def Q81_10:=kd 0x29a57decd30f79616f2525225066148c4176d35da0565775b66073b6
@[go_sem] def Q81_11:=k 0xe15865ca53ce67028e
@[go_sem] def Q81_12:=k 0x307ac75392cb846d6cd
def Q81_13:TC:=(.seq (.seq (.reg Q81_9) (.cond (.t 59) .skip (.exit 2))) (.seq (.block 3 (.seq (.dreg Q81_10) (.cond (.t 70) (.seq (.reg Q81_11) .ret) .skip))) (.reg Q81_12)))
@[go_sem] def Q81_14:=k 0x1cf6ab67c8634dec6
@[go_sem] def Q81_15:=k 0xee0a6988084e67ef8e
@[go_sem] def Q81_16:=k 0x105d13cdf05f4ae2
def Q81_17:TC:=(.seq (.reg Q81_4) (.seq (.cond (.t 48) .skip (.exit 0)) (.seq (.block 1 (.seq (.reg Q81_5) (.seq (.seq (.reg Q81_6) (.cond (.t 55) (.seq (.reg Q81_7) .ret) .skip)) (.seq (.seq (.reg Q81_8) (.block 2 (.loop Q81_13))) (.seq (.reg Q81_14) (.cond (.t 74) (.seq (.reg Q81_15) .ret) .skip)))))) (.reg Q81_16))))
@[go_sem] def Q81_18:=k 0xa7d135d8f282eff8616
@[go_sem] def Q81_19:=k 0x4aa373326
@[go_sem] def Q81_20:=k 0xae7ffe992f4d42f1ad3218f0e1238a50e4e
@[go_sem] def Q81_21:=k 0xe02500a61b0a8c32162fe8a1dbb410c0ca
@[go_sem] def Q81_22:=k 0x120d27735bccec4838e
@[go_sem] def Q81_23:=k 0x13d8dc145932fee2
def Q81_24:TC:=(.seq (.reg Q81_19) (.seq (.cond (.t 81) .skip (.exit 4)) (.seq (.block 5 (.seq (.reg Q81_20) (.seq (.reg Q81_21) (.cond (.t 90) (.seq (.reg Q81_22) .ret) .skip)))) (.reg Q81_23))))
@[go_sem] def Q81_25:=k 0xaafdb71aa703dd33a16
@[go_sem] def Q81_26:=k 0x59914e726
@[go_sem] def Q81_27:=k 0x2200bf675a6e665693ff8f5832c24e
@[go_sem] def Q81_28:=k 0x3d3339ac9f7f47b1a622c11d7af0a3f0cfc6fef4e
@[go_sem] def Q81_29:=k 0x2d6cbf16bc1c4e
@[go_sem] def Q81_30:=k 0xa0234ba1e086f5c5eec92ce
@[go_sem] def Q81_31:=k 0x2f082870f694e
@[go_sem] def Q81_32:=k 0x687f29b26
@[go_sem] def Q81_33:=k 0xaf2a4ab15c7957192a707686
@[go_sem] def Q81_34:=k 0x948088b0aee28b42db9961c4cd27a1b9acd6
@[go_sem] def Q81_35:=k 0x183361074084f06f04e
@[go_sem] def Q81_36:=k 0x1a8b0066333a2ba2
def Q81_37:TC:=(.seq (.reg Q81_32) (.seq (.cond (.t 113) .skip (.exit 8)) (.seq (.block 9 (.seq (.reg Q81_33) (.seq (.reg Q81_34) (.cond (.t 121) (.seq (.reg Q81_35) .ret) .skip)))) (.reg Q81_36))))
@[go_sem] def Q81_38:=k 0x5ca4d629b5481879f2faa66fa
@[go_sem] def Q81_39:=k 0xd9b23015b0ef88f
@[go_sem] def Q81_40:=k 0x2fbf55b9c6971264cdde0f6f0f
@[go_sem] def Q81_41:=k 0x1c1c00d646e094e5a3
def Q81_42:TC:=(.seq (.reg Q81_26) (.seq (.cond (.t 97) .skip (.exit 6)) (.seq (.block 7 (.seq (.reg Q81_27) (.seq (.reg Q81_28) (.seq (.seq (.reg Q81_29) (.cond (.t 107) (.seq (.reg Q81_30) .ret) .skip)) (.seq (.seq (.reg Q81_31) (.block 8 (.loop Q81_37))) (.seq (.reg Q81_38) (.seq (.reg Q81_39) (.cond (.t 128) (.seq (.reg Q81_40) .ret) .skip)))))))) (.reg Q81_41))))
@[go_sem] def Q81_43:=k 0x22418a58
def t_Q81:TF:=⟨132,[.t 2,.t 3],(.seq (.reg Q81_0) (.seq (.seq (.reg Q81_1) (.cond (.t 43) (.seq (.reg Q81_2) .ret) .skip)) (.seq (.seq (.reg Q81_3) (.block 0 (.loop Q81_17))) (.seq (.seq (.reg Q81_18) (.block 4 (.loop Q81_24))) (.seq (.seq (.reg Q81_25) (.block 6 (.loop Q81_42))) (.seq (.reg Q81_43) .ret))))))⟩
/-! (*horarium/cursor.Cursor).Reset -/
@[go_sem] def Q82_0:=k 0x1fc6ebc2a6e1c9665085669083c00cea6f0e5f76e6a31dcc48c78c78a4c
@[go_sem] def Q82_1:=k 0x12dc10a29f8c
def t_Q82:TF:=⟨13,[],(.seq (.reg Q82_0) (.reg Q82_1))⟩
/-! horarium/cursor.part -/
@[go_sem] def Q83_0:=k 0x58e4f4c
@[go_sem] def Q83_1:=k 0x19c9ca796ac882d94
@[go_sem] def Q83_2:=k 0x8ad4
@[go_sem] def Q83_3:=k 0x2ce593f9c2375df54
def t_Q83:TF:=⟨8,[.t 2],(.seq (.reg Q83_0) (.seq (.seq (.reg Q83_1) (.cond (.t 5) (.seq (.reg Q83_2) .ret) .skip)) (.seq (.reg Q83_3) .ret)))⟩
/-! (*horarium/cursor.Cursor).step -/
@[go_sem] def Q84_0:=k 0x28a9132c59bbdd76ea3989224eb00cc
@[go_sem] def Q84_1:=k 0x8188cfc19a04bd5bc290c
@[go_sem] def Q84_2:=k 0x284b2a06e7952b42d57860d96cdacc
@[go_sem] def Q84_3:=kd 0x6e010c650d9ccb7f674558110e893283b9b0242e852d0e38d0e2d7e94e5d4
@[go_sem] def Q84_4:=k 0x4cadc27aa77fb14f6109212e4a2e01f25e3dcc1b3a0d
@[go_sem] def Q84_5:=k 0x1a85a7a2ae340f374130c3dcd8cd
@[go_sem] def Q84_6:=kd 0x18fbbb785487c38be326c64487e37e20efcb131a3fd48b53753adc36d8922f0ad5
@[go_sem] def Q84_7:=k 0x23e8b24cf3de2261e0f38d5b1a4220c80d
@[go_sem] def Q84_8:=k 0xbb032e83d4fa9804d
@[go_sem] def Q84_9:=kd 0x47775c5ce1c6b93acc2be9729919f5443964e23e0224b06b48b9dae09dd4bd375024ce2a2b69b3f2ebc5c6d6
def Q84_10:TC:=(.seq (.seq (.reg Q84_2) (.cond (.t 17) .skip (.exit 0))) (.block 1 (.seq (.dreg Q84_3) (.seq (.seq (.reg Q84_4) (.seq (.reg Q84_5) (.cond (.t 40) (.seq (.seq (.dreg Q84_6) (.cond (.t 52) (.reg Q84_7) .skip)) (.seq (.reg Q84_8) .ret)) .skip))) (.dreg Q84_9)))))
@[go_sem] def Q84_11:=k 0xa51c454b5fcfa46cb91321fa6c50dd8762b97f98912c816f8e
def t_Q84:TF:=⟨83,[],(.seq (.reg Q84_0) (.seq (.reg Q84_1) (.seq (.block 0 (.loop Q84_10)) (.reg Q84_11))))⟩
/-! horarium/runs.Add -/
@[go_sem] def Q85_0:=k 0x100d8
@[go_sem] def Q85_1:=k 0x284c1b84213fff80e140ba7b4cd3c0c
@[go_sem] def Q85_2:=k 0x36e95436343fff59290c
@[go_sem] def Q85_3:=k 0x102f0
@[go_sem] def Q85_4:=k 0xb1e38acfa7064855a160c
def t_Q85:TF:=⟨16,[.t 4],(.seq (.reg Q85_0) (.seq (.reg Q85_1) (.seq (.seq (.reg Q85_2) (.cond (.t 12) (.seq (.reg Q85_3) .ret) .skip)) (.seq (.reg Q85_4) .ret))))⟩
/-! slices.Clip[[]horarium/api.Run,horarium/api.Run] -/
@[go_sem] def Q86_0:=k 0x8a74
@[go_sem] def Q86_1:=k 0x4b490ce44205a154d3f9a4dd69640c7c58c
def t_Q86:TF:=⟨9,[.t 2],(.seq (.reg Q86_0) (.seq (.reg Q86_1) .ret))⟩
/-! horarium/bound.spans -/
@[go_sem] def Q87_0:=k 0x100f4
@[go_sem] def Q87_1:=k 0x13c34
@[go_sem] def Q87_2:=k 0x17758
@[go_sem] def Q87_3:=k 0xad2141d644c
@[go_sem] def Q87_4:=k 0xb708e24
@[go_sem] def Q87_5:=k 0x63c837aea92864c9e3184
@[go_sem] def Q87_6:=k 0x347a36c88eefb866fa18b5137cc
@[go_sem] def Q87_7:=k 0xc691f9e9b047b5789e6403f34d89fc2d41622b9ebff4d4
@[go_sem] def Q87_8:=k 0x4f765684758d6445d13b1afea9d849d8ecda0d
@[go_sem] def Q87_9:=k 0x1e15121e97d8d
@[go_sem] def Q87_10:=k 0x7c1433e38738e1
def Q87_11:TC:=(.seq (.reg Q87_4) (.seq (.cond (.t 13) .skip (.exit 0)) (.seq (.block 1 (.seq (.reg Q87_5) (.seq (.reg Q87_6) (.seq (.seq (.reg Q87_7) (.cond (.t 28) (.reg Q87_8) .skip)) (.reg Q87_9))))) (.reg Q87_10))))
@[go_sem] def Q87_12:=k 0x1fc508d2eb40d
def t_Q87:TF:=⟨38,[.t 4],(.seq (.reg Q87_0) (.seq (.reg Q87_1) (.seq (.reg Q87_2) (.seq (.seq (.reg Q87_3) (.block 0 (.loop Q87_11))) (.seq (.reg Q87_12) .ret)))))⟩
/-! horarium/runs.Length -/
@[go_sem] def Q88_0:=k 0x8a58
@[go_sem] def Q88_1:=k 0xc598
@[go_sem] def Q88_2:=k 0xa9b39dc774c
@[go_sem] def Q88_3:=k 0x79e0124
@[go_sem] def Q88_4:=k 0x3f0db640fe92f00cba484
@[go_sem] def Q88_5:=k 0x291626d91e4346e4c28678a12cc
@[go_sem] def Q88_6:=k 0x37bed36532fe0
def Q88_7:TC:=(.seq (.reg Q88_3) (.seq (.cond (.t 9) .skip (.exit 0)) (.seq (.block 1 (.seq (.reg Q88_4) (.reg Q88_5))) (.reg Q88_6))))
@[go_sem] def Q88_8:=k 0x1d43f4313b0c
def t_Q88:TF:=⟨18,[.t 2],(.seq (.reg Q88_0) (.seq (.reg Q88_1) (.seq (.seq (.reg Q88_2) (.block 0 (.loop Q88_7))) (.seq (.reg Q88_8) .ret))))⟩
/-! horarium/bound.next -/
@[go_sem] def Q89_0:=k 0x17758
@[go_sem] def Q89_1:=k 0xac45d8d290c
@[go_sem] def Q89_2:=k 0xa7beae4
@[go_sem] def Q89_3:=k 0x636a3146208cf79a98e44
@[go_sem] def Q89_4:=k 0x2d0dbb16636f0438d274c02f48c
@[go_sem] def Q89_5:=k 0xf3c09923791c3b6685e87b3966041ccc
@[go_sem] def Q89_6:=k 0x56ebdef1c4520
def Q89_7:TC:=(.seq (.reg Q89_2) (.seq (.cond (.t 12) .skip (.exit 0)) (.seq (.block 1 (.seq (.reg Q89_3) (.seq (.reg Q89_4) (.cond (.t 19) (.seq (.reg Q89_5) .ret) .skip)))) (.reg Q89_6))))
@[go_sem] def Q89_8:=k 0x245e1b537536a5c06dca062f2ef638adbe84c
def t_Q89:TF:=⟨32,[.t 6],(.seq (.reg Q89_0) (.seq (.seq (.reg Q89_1) (.block 0 (.loop Q89_7))) (.seq (.reg Q89_8) .ret)))⟩
/-! horarium/fold.leaf -/
@[go_sem] def Q90_0:=k 0x97d44f4c
@[go_sem] def Q90_1:=k 0xccebeb26c882d94
@[go_sem] def Q90_2:=k 0x356334d9774287e375df54
@[go_sem] def Q90_3:=k 0x30e7a01157109575d96a5fd0518899114
def t_Q90:TF:=⟨14,[.cell 2 3 true],(.seq (.reg Q90_0) (.seq (.seq (.reg Q90_1) (.cond (.t 5) (.seq (.reg Q90_2) .ret) .skip)) (.seq (.reg Q90_3) .ret)))⟩
/-! horarium/fold.again -/
@[go_sem] def Q91_0:=k 0x17758
@[go_sem] def Q91_1:=k 0x91a98
@[go_sem] def Q91_2:=kd 0x7f29b5389fc39543166d4a3833cbc9034e139e43daa6aa70c5455476e1edab1e0deb47461951d201f4b3c50b83440a31c11aa18f8ca13e01e90dc21744febc0d4703e9bcf8002feb0c046d1f8ef4793d9c3a47d5
@[go_sem] def Q91_3:=k 0x1fd44f69672e850ca8d
def Q91_4:TC:=(.seq (.seq (.dreg Q91_2) (.cond (.t 38) .skip (.exit 0))) (.block 1 (.reg Q91_3)))
@[go_sem] def Q91_5:=k 0x2339881cd410d
def t_Q91:TF:=⟨42,[.t 6],(.seq (.reg Q91_0) (.seq (.reg Q91_1) (.seq (.block 0 (.loop Q91_4)) (.seq (.reg Q91_5) .ret))))⟩
/-! slices.IndexFunc[[][]horarium/api.Node,[]horarium/api.Node] -/
@[go_sem] def Q92_0:=k 0x100d8
@[go_sem] def Q92_1:=k 0xa9b39dc774c
@[go_sem] def Q92_2:=k 0x79e0124
@[go_sem] def Q92_3:=k 0x116d5a04a44c
@[go_sem] def Q92_4:=k 0x1ce25d06be8f47e0f8ddc598d1078c
@[go_sem] def Q92_5:=k 0x1d5f61600b0c
@[go_sem] def Q92_6:=k 0x3e9a1b653a660
def Q92_7:TC:=(.seq (.reg Q92_2) (.seq (.cond (.t 9) .skip (.exit 0)) (.seq (.block 1 (.seq (.reg Q92_3) (.seq (.reg Q92_4) (.cond (.t 16) (.seq (.reg Q92_5) .ret) .skip)))) (.reg Q92_6))))
@[go_sem] def Q92_8:=k 0x10154
def t_Q92:TF:=⟨19,[.t 4],(.seq (.reg Q92_0) (.seq (.seq (.reg Q92_1) (.block 0 (.loop Q92_7))) (.seq (.reg Q92_8) .ret)))⟩
/-! horarium/fold.same$1 -/
@[go_sem] def Q93_0:=k 0xc5ac
@[go_sem] def Q93_1:=k 0x47be4cf65aee64ecf68d0
def t_Q93:TF:=⟨7,[.t 3],(.seq (.reg Q93_0) (.seq (.reg Q93_1) .ret))⟩
/-! slices.Equal[[]horarium/api.Node,horarium/api.Node] -/
@[go_sem] def Q94_0:=k 0x100ec
@[go_sem] def Q94_1:=k 0x4f3aa5985a17a14963dc774c
@[go_sem] def Q94_2:=k 0x100ec
@[go_sem] def Q94_3:=k 0xadfcaad9f8c
@[go_sem] def Q94_4:=k 0xc653164
@[go_sem] def Q94_5:=k 0x19ff742ad48c
@[go_sem] def Q94_6:=kd 0x30a394d654b934ef96a17c72b5b3551f847fba9b0e9fd4
@[go_sem] def Q94_7:=k 0x100ec
@[go_sem] def Q94_8:=k 0x5722b94f64520
def Q94_9:TC:=(.seq (.reg Q94_4) (.seq (.cond (.t 14) .skip (.exit 0)) (.seq (.block 1 (.seq (.reg Q94_5) (.seq (.dreg Q94_6) (.cond (.t 24) (.seq (.reg Q94_7) .ret) .skip)))) (.reg Q94_8))))
@[go_sem] def Q94_10:=k 0x10158
def t_Q94:TF:=⟨26,[.t 4],(.seq (.reg Q94_0) (.seq (.seq (.reg Q94_1) (.cond (.t 10) (.seq (.reg Q94_2) .ret) .skip)) (.seq (.seq (.reg Q94_3) (.block 0 (.loop Q94_9))) (.seq (.reg Q94_10) .ret))))⟩
/-! slices.Grow[[]horarium/api.Node,horarium/api.Node] -/
@[go_sem] def Q95_0:=k 0x100f4
@[go_sem] def Q95_1:=k 0x8922c8ca40c
@[go_sem] def Q95_2:=k 0x4bb07514
@[go_sem] def Q95_3:=k 0xf2753f5a0a85f65f54a2e5351f5d746a4d055cc
@[go_sem] def Q95_4:=k 0x19b6661cf48c
@[go_sem] def Q95_5:=k 0xb910be8ac689bc50aa79aecf5ddb73bde919a433e44cb030c
@[go_sem] def Q95_6:=k 0x2cccc33d184c
def t_Q95:TF:=⟨27,[.t 4],(.seq (.reg Q95_0) (.seq (.seq (.reg Q95_1) (.cond (.t 6) (.reg Q95_2) .skip)) (.seq (.seq (.reg Q95_3) (.seq (.reg Q95_4) (.cond (.t 16) (.reg Q95_5) .skip))) (.seq (.reg Q95_6) .ret))))⟩
/-! slices.Grow[[][]horarium/api.Node,[]horarium/api.Node] -/
@[go_sem] def Q96_0:=k 0x100f4
@[go_sem] def Q96_1:=k 0x8922c8ca40c
@[go_sem] def Q96_2:=k 0x4bb07514
@[go_sem] def Q96_3:=k 0xf2753f5a0a85f65f54a2e5351f5d746a4d055cc
@[go_sem] def Q96_4:=k 0x19b6661cf48c
@[go_sem] def Q96_5:=k 0xb910be8ac249ea0d773e934ecfbe6f6f743a68f1244cb030c
@[go_sem] def Q96_6:=k 0x2cccc33d184c
def t_Q96:TF:=⟨27,[.t 4],(.seq (.reg Q96_0) (.seq (.seq (.reg Q96_1) (.cond (.t 6) (.reg Q96_2) .skip)) (.seq (.seq (.reg Q96_3) (.seq (.reg Q96_4) (.cond (.t 16) (.reg Q96_5) .skip))) (.seq (.reg Q96_6) .ret))))⟩
/-! horarium/node.measure -/
@[go_sem] def Q97_0:=k 0x58e8a58
@[go_sem] def Q97_1:=k 0x235795919244d0e4
@[go_sem] def Q97_2:=k 0xaed813ddacc
@[go_sem] def Q97_3:=k 0xd59d4a4
@[go_sem] def Q97_4:=k 0x4d030930e7a53ca47782c
@[go_sem] def Q97_5:=kd 0x30fd0a9f7889a1a16c4c3734fd26ae8d643d8e53f665d4
@[go_sem] def Q97_6:=k 0x140073d558853ffcae7d0c
@[go_sem] def Q97_7:=k 0x142585a557f16a1749abb4dcbe131dcecd
@[go_sem] def Q97_8:=k 0x57a3a5f07ad72fcd94ae605f443a530461ced31f324d
@[go_sem] def Q97_9:=k 0x41c6b2b4f2ea55e38c7fab78f8345440c231e5114f86047a709f915e543aa08ae70d10d
@[go_sem] def Q97_10:=kd 0x14723e93377dbdaea28256fe54c52afa57ce23ef14ef14e2007df75e30de28debb7d7639c8cfec0bd1d6
@[go_sem] def Q97_11:=k 0x56ecaf3e87d28fb88b5dde2e64ad50f59f0e
@[go_sem] def Q97_12:=k 0x1a74be5f213a6387f8008fd4756
@[go_sem] def Q97_13:=k 0x2b80dd8373e6edc1e3db8e4d9326572d1d6d64fead208fe3456
@[go_sem] def Q97_14:=k 0xbd392bbc84b1747bd43a3fcf4de20c5300f6dc3c4bd730e
@[go_sem] def Q97_15:=kd 0x3ba47383f2345d8558f4bfc80fd7c558cc4224f232f2ef53c03b966b920b036c96b899f7d6
@[go_sem] def Q97_16:=kd 0x11bfe5bbd68f39df507ad6a5540c4f15bea8c8f2049b14c3b3f009c2e9b6bbbe78d6
def Q97_17:TC:=(.seq (.seq (.reg Q97_9) (.cond (.t 53) .skip (.exit 2))) (.block 3 (.seq (.dreg Q97_10) (.seq (.reg Q97_11) (.seq (.seq (.reg Q97_12) (.cond (.t 73) (.reg Q97_13) .skip)) (.seq (.reg Q97_14) (.seq (.dreg Q97_15) (.dreg Q97_16))))))))
@[go_sem] def Q97_18:=k 0x176111c78796ee22
def Q97_19:TC:=(.seq (.reg Q97_3) (.seq (.cond (.t 15) .skip (.exit 0)) (.seq (.block 1 (.seq (.reg Q97_4) (.seq (.dreg Q97_5) (.seq (.seq (.reg Q97_6) (.seq (.reg Q97_7) (.cond (.t 33) (.reg Q97_8) .skip))) (.block 2 (.loop Q97_17)))))) (.reg Q97_18))))
@[go_sem] def Q97_20:=kd 0x21654ccc4f53c440cd3f2969d0f55e5b55b8796a21e46eb924396b88b79d6
def t_Q97:TF:=⟨118,[.t 2,.t 3],(.seq (.reg Q97_0) (.seq (.reg Q97_1) (.seq (.seq (.reg Q97_2) (.block 0 (.loop Q97_19))) (.seq (.dreg Q97_20) .ret))))⟩
/-! horarium/node.Size -/
@[go_sem] def Q98_0:=k 0x100d8
@[go_sem] def Q98_1:=k 0x16873c6e4cbd37829c68ac5280a106539628d55cc
@[go_sem] def Q98_2:=k 0x100d8
@[go_sem] def Q98_3:=k 0x8a418
@[go_sem] def Q98_4:=k 0x1bc3fc622fcc
@[go_sem] def Q98_5:=k 0x67642a4bb4ab00f7730c
@[go_sem] def Q98_6:=k 0x44925d1c39451a70dfdd45702c668c
@[go_sem] def Q98_7:=k 0x2fff0abe66cc
@[go_sem] def Q98_8:=k 0x100d8
@[go_sem] def Q98_9:=k 0x59fe58beda53ac4eef349132d154d
@[go_sem] def Q98_10:=k 0x1d23f57de024d
@[go_sem] def Q98_11:=k 0x6a45b41b0b3c9e12c040f384148cd
@[go_sem] def Q98_12:=k 0x8ce7cea2fb829600c
def Q98_13:TC:=(.seq (.seq (.reg Q98_5) (.cond (.t 20) .skip (.exit 0))) (.seq (.block 1 (.seq (.reg Q98_6) (.seq (.seq (.reg Q98_7) (.cond (.t 29) (.seq (.reg Q98_8) .ret) .skip)) (.seq (.reg Q98_9) (.seq (.reg Q98_10) (.cond (.t 35) (.seq (.reg Q98_11) .ret) .skip)))))) (.reg Q98_12)))
@[go_sem] def Q98_14:=k 0x100d8
def t_Q98:TF:=⟨40,[.t 4],(.seq (.reg Q98_0) (.seq (.seq (.reg Q98_1) (.cond (.t 15) (.seq (.reg Q98_2) .ret) .skip)) (.seq (.reg Q98_3) (.seq (.seq (.reg Q98_4) (.block 0 (.loop Q98_13))) (.seq (.reg Q98_14) .ret)))))⟩
/-! horarium/horariumref3.Size -/
@[go_sem] def Q99_0:=k 0x100d8
@[go_sem] def Q99_1:=k 0x144d6cbb632c2355c58546f4e8f610aae908d1a8c
@[go_sem] def Q99_2:=k 0x100d8
@[go_sem] def Q99_3:=k 0x8a418
@[go_sem] def Q99_4:=k 0x1a0d2a61f48c
@[go_sem] def Q99_5:=k 0x6154c075846460f737cc
@[go_sem] def Q99_6:=k 0x20becef2777270f38706ad02c2b4c
@[go_sem] def Q99_7:=k 0x100d8
@[go_sem] def Q99_8:=k 0xb92412edb85e096cc
@[go_sem] def Q99_9:=k 0x156f6be80bfe0f4b40e83c777558a3054d
@[go_sem] def Q99_10:=k 0x5ad4e89fe4d12748f7ed49eb25c9b4b36821bb6e78cd
@[go_sem] def Q99_11:=k 0x1da12ddaa67029e1832492c66658a6078d
@[go_sem] def Q99_12:=k 0x27bd388251488357b0d
@[go_sem] def Q99_13:=k 0x2bb5ee7e1f18d
@[go_sem] def Q99_14:=k 0x98840b279e11de9316505a5c1380d
@[go_sem] def Q99_15:=k 0x868eccdf8e62924cc
def Q99_16:TC:=(.seq (.seq (.reg Q99_5) (.cond (.t 19) .skip (.exit 0))) (.seq (.block 1 (.seq (.seq (.reg Q99_6) (.cond (.t 27) (.seq (.reg Q99_7) .ret) .skip)) (.seq (.reg Q99_8) (.seq (.seq (.reg Q99_9) (.cond (.t 35) (.reg Q99_10) .skip)) (.seq (.seq (.reg Q99_11) (.cond (.t 48) (.reg Q99_12) .skip)) (.seq (.reg Q99_13) (.cond (.t 52) (.seq (.reg Q99_14) .ret) .skip))))))) (.reg Q99_15)))
@[go_sem] def Q99_17:=k 0x100d8
def t_Q99:TF:=⟨57,[.t 4],(.seq (.reg Q99_0) (.seq (.seq (.reg Q99_1) (.cond (.t 14) (.seq (.reg Q99_2) .ret) .skip)) (.seq (.reg Q99_3) (.seq (.seq (.reg Q99_4) (.block 0 (.loop Q99_16))) (.seq (.reg Q99_17) .ret)))))⟩
/-! horarium/horariumref3.depth -/
@[go_sem] def Q100_0:=k 0x100d8
@[go_sem] def Q100_1:=k 0x13c18
@[go_sem] def Q100_2:=k 0x4a313c8f54f40c358edcc
@[go_sem] def Q100_3:=k 0xb708e24
@[go_sem] def Q100_4:=k 0x60ab8a576bc1e3180
@[go_sem] def Q100_5:=k 0x65927e18c510b030a709192d8efcfcc
@[go_sem] def Q100_6:=k 0x4950bc2085820
def Q100_7:TC:=(.seq (.reg Q100_3) (.seq (.cond (.t 13) .skip (.exit 0)) (.seq (.block 1 (.seq (.reg Q100_4) (.reg Q100_5))) (.reg Q100_6))))
@[go_sem] def Q100_8:=k 0x92db404be8a22334c
def t_Q100:TF:=⟨24,[.t 4],(.seq (.reg Q100_0) (.seq (.reg Q100_1) (.seq (.seq (.reg Q100_2) (.block 0 (.loop Q100_7))) (.seq (.reg Q100_8) .ret))))⟩
/-! horarium/horariumref3.length -/
@[go_sem] def Q101_0:=k 0x100d8
@[go_sem] def Q101_1:=k 0x13c18
@[go_sem] def Q101_2:=k 0x4a313c8f54f40c358edcc
@[go_sem] def Q101_3:=k 0xb708e24
@[go_sem] def Q101_4:=k 0x60ab8a576bc1e3180
@[go_sem] def Q101_5:=k 0xc5649b29222008ddaee095b1266d8efcfcc
@[go_sem] def Q101_6:=k 0x4cbe602089360
def Q101_7:TC:=(.seq (.reg Q101_3) (.seq (.cond (.t 13) .skip (.exit 0)) (.seq (.block 1 (.seq (.reg Q101_4) (.reg Q101_5))) (.reg Q101_6))))
@[go_sem] def Q101_8:=k 0x235d3799eb3706ee80df5c668c
@[go_sem] def Q101_9:=k 0x6674aeffc023c
@[go_sem] def Q101_10:=k 0x33a80b630d4c
@[go_sem] def Q101_11:=k 0x6f6230cb3ebbfd
@[go_sem] def Q101_12:=k 0x4bf86c462b201c431cd0940f5e17e8e7ada39c7bbfb18bb6dc70d
@[go_sem] def Q101_13:=k 0x6dbbf20964f9f6d3cfdee1a86e97df1565cc4d
def t_Q101:TF:=⟨48,[.t 4],(.seq (.reg Q101_0) (.seq (.reg Q101_1) (.seq (.seq (.reg Q101_2) (.block 0 (.loop Q101_7))) (.seq (.seq (.reg Q101_8) (.block 2 (.seq (.reg Q101_9) (.cond (.t 28) (.seq (.reg Q101_10) .ret) (.seq (.reg Q101_11) (.cond (.t 31) (.seq (.reg Q101_12) .ret) .skip)))))) (.seq (.reg Q101_13) .ret)))))⟩
/-! horarium/horariumref3.Kids -/
@[go_sem] def Q102_0:=k 0x100f4
@[go_sem] def Q102_1:=k 0x777d8edd17dd0cd58edcc
@[go_sem] def Q102_2:=k 0x17774
@[go_sem] def Q102_3:=k 0x4da0850df8402078c
@[go_sem] def Q102_4:=k 0x125c8b4f525a727b4b4f8dee0c
@[go_sem] def Q102_5:=k 0x23a1c532db0ca1829c5ee8d68c
@[go_sem] def Q102_6:=k 0x6ff5d5d367fe018fbfcbb1ad8ff164c
def Q102_7:TC:=(.seq (.seq (.reg Q102_4) (.cond (.t 17) .skip (.exit 0))) (.seq (.block 1 (.reg Q102_5)) (.reg Q102_6)))
@[go_sem] def Q102_8:=k 0x2e839569c38c
def t_Q102:TF:=⟨28,[.t 4],(.seq (.reg Q102_0) (.seq (.reg Q102_1) (.seq (.reg Q102_2) (.seq (.seq (.reg Q102_3) (.block 0 (.loop Q102_7))) (.seq (.reg Q102_8) .ret)))))⟩
/-! horarium/horariumref7.May -/
@[go_sem] def Q103_0:=k 0xa3f0c4c
@[go_sem] def Q103_1:=kd 0xb902e7d23d3a4d888730fde1439b103917d7ddf76c70af99878a02f80f5941ac6757173e4426bdd9da2af29e12a72219af073dc2342c4d2d0bb6851f6bc2e32191d775372c26d1d1d9faa9b7e133da9862f564ad40e5f97b5
@[go_sem] def Q103_2:=k 0x1776c
@[go_sem] def Q103_3:=k 0x1b75fb08315e6a567339d835cb4c416255cdcc4d
@[go_sem] def Q103_4:=k 0xec57de9c5c7b02aee2bc609e2d8cf7be03c0e255cf2fcd
@[go_sem] def Q103_5:=k 0xd29bf525
@[go_sem] def Q103_6:=k 0x1d2f2a72cab00f3a3430085
@[go_sem] def Q103_7:=k 0xdd18e45d6681ab6aa869cf1f6b3865587f102018c1dadf9ce7493c0e52ea48a0f791f852be035acb4260ccc60d6a555b72ddb0ff199ae112ba11896d6
@[go_sem] def Q103_8:=k 0x1776c
@[go_sem] def Q103_9:=k 0x113c5826f5b037e2
def Q103_10:TC:=(.seq (.reg Q103_5) (.seq (.cond (.t 57) .skip (.exit 0)) (.seq (.block 1 (.seq (.reg Q103_6) (.seq (.reg Q103_7) (.cond (.t 79) (.seq (.reg Q103_8) .ret) .skip)))) (.reg Q103_9))))
@[go_sem] def Q103_11:=k 0x177d8
def t_Q103:TF:=⟨81,[.t 6],(.seq (.reg Q103_0) (.seq (.seq (.dreg Q103_1) (.cond (.t 41) (.seq (.reg Q103_2) .ret) .skip)) (.seq (.reg Q103_3) (.seq (.seq (.reg Q103_4) (.block 0 (.loop Q103_10))) (.seq (.reg Q103_11) .ret)))))⟩
/-! horarium/runs.Same -/
@[go_sem] def Q104_0:=k 0x100ec
@[go_sem] def Q104_1:=k 0x53dd20a44398a5d583c0c
def t_Q104:TF:=⟨8,[.t 4],(.seq (.reg Q104_0) (.seq (.reg Q104_1) .ret))⟩
/-! horarium/reduce.pass$1 -/
@[go_sem] def Q105_0:=k 0x13243509c5cc
@[go_sem] def Q105_1:=k 0xcf3824f5be8981c8fb1b9a20293bc5d15678290
def t_Q105:TF:=⟨13,[.t 5,.t 6],(.seq (.reg Q105_0) (.seq (.reg Q105_1) .ret))⟩
/-! horarium/move.places -/
@[go_sem] def Q106_0:=k 0xa372dcc
@[go_sem] def Q106_1:=k 0x546367a6d371f9120fe74b54e326796bb88245f18dd7b0907988ede8461eef0c69ec5b01d6680a909176950977414
def t_Q106:TF:=⟨22,[.t 4],(.seq (.reg Q106_0) (.seq (.reg Q106_1) .ret))⟩
/-! slices.ContainsFunc[[]horarium/api.Run,horarium/api.Run] -/
@[go_sem] def Q107_0:=k 0x100ec
@[go_sem] def Q107_1:=k 0x16214d5981e770388607d583c0c
def t_Q107:TF:=⟨9,[.t 4],(.seq (.reg Q107_0) (.seq (.reg Q107_1) .ret))⟩
/-! horarium/move.May$1 -/
@[go_sem] def Q108_0:=k 0xa2fc5cc
@[go_sem] def Q108_1:=k 0x131da19a6daec6a1fcc2c06a97875c7d096fc33ab659395b7ed2badfe31b76fe6f69b2675b85a69f107befe9a5d8a60542874f90977414
def t_Q108:TF:=⟨25,[.t 4],(.seq (.reg Q108_0) (.seq (.reg Q108_1) .ret))⟩
/-! horarium/word.Depends -/
@[go_sem] def Q109_0:=k 0x1776c
@[go_sem] def Q109_1:=k 0x62c0a01be4cc3c112271009dbadd629ccf065645b373b3127549d7236368fb116cdf0af62d81f01a8c
def t_Q109:TF:=⟨22,[.t 6],(.seq (.reg Q109_0) (.seq (.reg Q109_1) .ret))⟩
/-! slices.Equal[[]horarium/api.Run,horarium/api.Run] -/
@[go_sem] def Q110_0:=k 0x100ec
@[go_sem] def Q110_1:=k 0x4f3aa5985a17a14963dc774c
@[go_sem] def Q110_2:=k 0x100ec
@[go_sem] def Q110_3:=k 0xadfcaad9f8c
@[go_sem] def Q110_4:=k 0xc653164
@[go_sem] def Q110_5:=k 0x19ff742ad48c
@[go_sem] def Q110_6:=kd 0x30a39f7e8bc0409425f28c18d7f1daca36730a6b0e9fd4
@[go_sem] def Q110_7:=k 0x100ec
@[go_sem] def Q110_8:=k 0x5722b94f64520
def Q110_9:TC:=(.seq (.reg Q110_4) (.seq (.cond (.t 14) .skip (.exit 0)) (.seq (.block 1 (.seq (.reg Q110_5) (.seq (.dreg Q110_6) (.cond (.t 24) (.seq (.reg Q110_7) .ret) .skip)))) (.reg Q110_8))))
@[go_sem] def Q110_10:=k 0x10158
def t_Q110:TF:=⟨26,[.t 4],(.seq (.reg Q110_0) (.seq (.seq (.reg Q110_1) (.cond (.t 10) (.seq (.reg Q110_2) .ret) .skip)) (.seq (.seq (.reg Q110_3) (.block 0 (.loop Q110_9))) (.seq (.reg Q110_10) .ret))))⟩
/-! horarium/word.Project -/
@[go_sem] def Q111_0:=k 0x17774
@[go_sem] def Q111_1:=k 0x1b2b4
@[go_sem] def Q111_2:=k 0xad2141d644c
@[go_sem] def Q111_3:=k 0xb708e24
@[go_sem] def Q111_4:=k 0x6f8904f28135a4c9e3184
@[go_sem] def Q111_5:=k 0x26629e1c90b57ecd746496759f209dd3f562e6db3b5056c66fd4
@[go_sem] def Q111_6:=k 0x27c135f42e610a494c9381f04c
@[go_sem] def Q111_7:=k 0x682b8020a6d60
def Q111_8:TC:=(.seq (.reg Q111_3) (.seq (.cond (.t 13) .skip (.exit 0)) (.seq (.block 1 (.seq (.reg Q111_4) (.seq (.reg Q111_5) (.cond (.t 25) (.reg Q111_6) .skip)))) (.reg Q111_7))))
@[go_sem] def Q111_9:=k 0x65e084e6e4dd6f08d
def t_Q111:TF:=⟨33,[.t 6],(.seq (.reg Q111_0) (.seq (.reg Q111_1) (.seq (.seq (.reg Q111_2) (.block 0 (.loop Q111_8))) (.seq (.reg Q111_9) .ret))))⟩
/-! horarium/runs.Ticks -/
@[go_sem] def Q112_0:=k 0x100d8
@[go_sem] def Q112_1:=k 0x13c18
@[go_sem] def Q112_2:=k 0xab6a6fcedcc
@[go_sem] def Q112_3:=k 0x98747a4
@[go_sem] def Q112_4:=k 0x574b5d99bfe44a6b4eb04
@[go_sem] def Q112_5:=k 0xb62d3c34827e2b2b72954
@[go_sem] def Q112_6:=k 0x3993e9de6c20912813bd4ba464c
@[go_sem] def Q112_7:=k 0x4c8785c2e9360
def Q112_8:TC:=(.seq (.reg Q112_3) (.seq (.cond (.t 11) .skip (.exit 0)) (.seq (.block 1 (.seq (.reg Q112_4) (.seq (.reg Q112_5) (.cond (.t 17) (.reg Q112_6) .skip)))) (.reg Q112_7))))
@[go_sem] def Q112_9:=k 0x27a84d616e8c
def t_Q112:TF:=⟨24,[.t 4],(.seq (.reg Q112_0) (.seq (.reg Q112_1) (.seq (.seq (.reg Q112_2) (.block 0 (.loop Q112_8))) (.seq (.reg Q112_9) .ret))))⟩
/-! horarium/horariumref12.Name -/
@[go_sem] def Q113_0:=k 0x8a6c
@[go_sem] def Q113_1:=k 0xc598
@[go_sem] def Q113_2:=k 0x1eab344223a0d0de740c
@[go_sem] def Q113_3:=k 0x385bdfe056c52ea1062d9b8bc9d94d6385a71e25aaf0d3c32f39fbc6a581d8768dfb636c67ed5a799f8c
@[go_sem] def Q113_4:=k 0x259a80c50b50ee13765811d56cd5d8f5def2480f44e86fb715330bb81a08f44e79c2202e5ee9431a0d1504c2f639e2538d
@[go_sem] def Q113_5:=k 0x8a6c
@[go_sem] def Q113_6:=k 0x402361521e010610c
def Q113_7:TC:=(.seq (.seq (.reg Q113_2) (.cond (.t 8) .skip (.exit 0))) (.seq (.block 1 (.seq (.reg Q113_3) (.seq (.reg Q113_4) (.cond (.t 44) (.seq (.reg Q113_5) .ret) .skip)))) (.reg Q113_6)))
@[go_sem] def Q113_8:=k 0x67fa7aba7348aacaf65563788f52820199e4a85b50a8567e0d
def t_Q113:TF:=⟨53,[.t 2],(.seq (.reg Q113_0) (.seq (.seq (.reg Q113_1) (.block 0 (.loop Q113_7))) (.seq (.reg Q113_8) .ret)))⟩
/-! horarium/horariumref12.partRight -/
@[go_sem] def Q114_0:=k 0xa2f4f4c
@[go_sem] def Q114_1:=k 0x15374c9b9fa955f87bc24ac06920d37a857f33292c97f92a1a94
@[go_sem] def Q114_2:=k 0x8a6c
@[go_sem] def Q114_3:=k 0x29a834b042d2c6b14
@[go_sem] def Q114_4:=k 0x1315a824
@[go_sem] def Q114_5:=k 0x37b535e38dcece4434b84
@[go_sem] def Q114_6:=k 0x258e86e15a0e2599f9c81d5e379e5bc8867f0e05c192ff5e08ee1347ddd9427f6af5db35da118023b512ba394a9f13440e1d5
@[go_sem] def Q114_7:=k 0x8a6c
@[go_sem] def Q114_8:=k 0x9113c081289c61
def Q114_9:TC:=(.seq (.reg Q114_4) (.seq (.cond (.t 21) .skip (.exit 0)) (.seq (.block 1 (.seq (.reg Q114_5) (.seq (.reg Q114_6) (.cond (.t 41) (.seq (.reg Q114_7) .ret) .skip)))) (.reg Q114_8))))
@[go_sem] def Q114_10:=k 0x16e0a4f850d795
@[go_sem] def Q114_11:=k 0xa6f8c991
@[go_sem] def Q114_12:=k 0xa177f8fc95896d
@[go_sem] def Q114_13:=k 0x7ff64ad79d3bdd1eb10b1d4d4674a740fcd
@[go_sem] def Q114_14:=k 0x8a6c
@[go_sem] def Q114_15:=k 0xbb8e44edbf6361
def Q114_16:TC:=(.seq (.reg Q114_11) (.seq (.cond (.t 46) .skip (.exit 2)) (.seq (.block 3 (.seq (.reg Q114_12) (.seq (.reg Q114_13) (.cond (.t 53) (.seq (.reg Q114_14) .ret) .skip)))) (.reg Q114_15))))
@[go_sem] def Q114_17:=k 0x7f3e3b0360ae0aef3d7294041b9aadab5abded8a7cf9e95
@[go_sem] def Q114_18:=k 0x8ad8
@[go_sem] def Q114_19:=k 0x81eb8ce9c745564c07cdbe6d08d124eda53aa36d8a7a742754309c1470d3f98e17835c0266f4ad6efb909217a7a737fba456295c6369d0fd9baa492efc4896
def t_Q114:TF:=⟨83,[.t 2],(.seq (.reg Q114_0) (.seq (.seq (.reg Q114_1) (.cond (.t 16) (.seq (.reg Q114_2) .ret) .skip)) (.seq (.seq (.reg Q114_3) (.block 0 (.loop Q114_9))) (.seq (.seq (.reg Q114_10) (.block 2 (.loop Q114_16))) (.seq (.seq (.reg Q114_17) (.cond (.t 62) (.seq (.reg Q114_18) .ret) .skip)) (.seq (.reg Q114_19) .ret))))))⟩
/-! horarium/horariumref12.chanRight -/
@[go_sem] def Q115_0:=k 0x3b769f8a8c
@[go_sem] def Q115_1:=k 0x22b4ca1bf144f4ec298fdd39a0bcc94a7807115a73f1b0b885aa1a62055ec2f1ad7b8742de090423ad52e2af62eb41e7271c6876a73cfcc592a5b2ae234e9be6f52625390fe94fbf532f2a941376871d7121fa3a39a9400d63cfd248a11e42c5c94b564841edc15
@[go_sem] def Q115_2:=k 0x100ec
@[go_sem] def Q115_3:=k 0xab3eebf9149017048a93abd990ee7ee91a91fbcbab4b91a68987d8737bcba6bf0683e9d81303a39058cf88e4def4607d677b2f37c3f56fd51ec0c5f212a35b8f6c55
def t_Q115:TF:=⟨64,[.t 4],(.seq (.reg Q115_0) (.seq (.seq (.reg Q115_1) (.cond (.t 41) (.seq (.reg Q115_2) .ret) .skip)) (.seq (.reg Q115_3) .ret)))⟩
/-! (*horarium/cursor.Cursor).down -/
@[go_sem] def Q116_0:=k 0x2ed6fd2f18799af909c09e5ab51de74eed99a3badf48d18f5e04a88afb08c5f2bb61bf22e859724e5a81af596ea24eb00cc
@[go_sem] def Q116_1:=kd 0x54ae6a20757f18fd5dad7a11abebfe052315cb43f6e3092abab6499a79c01f7333aa4f1d90eff34b271d36083273cbf25c1abae93d83b7d5
@[go_sem] def Q116_2:=k 0x22edc53bdcd27f8d78d
def Q116_3:TC:=(.seq (.seq (.reg Q116_0) (.cond (.t 23) .skip (.exit 0))) (.block 1 (.seq (.dreg Q116_1) (.reg Q116_2))))
@[go_sem] def Q116_4:=k 0x21236f2c90a01f085e9e05667e0d
def t_Q116:TF:=⟨49,[],(.seq (.block 0 (.loop Q116_3)) (.reg Q116_4))⟩
/-! slices.Equal[[]int,int] -/
@[go_sem] def Q117_0:=k 0x100ec
@[go_sem] def Q117_1:=k 0x4f3aa5985a17a14963dc774c
@[go_sem] def Q117_2:=k 0x100ec
@[go_sem] def Q117_3:=k 0xadfcaad9f8c
@[go_sem] def Q117_4:=k 0xc653164
@[go_sem] def Q117_5:=k 0x19ff742ad48c
@[go_sem] def Q117_6:=kd 0x30a31cf23368882478b700cea5ba9f74a61d5f330e9fd4
@[go_sem] def Q117_7:=k 0x100ec
@[go_sem] def Q117_8:=k 0x5722b94f64520
def Q117_9:TC:=(.seq (.reg Q117_4) (.seq (.cond (.t 14) .skip (.exit 0)) (.seq (.block 1 (.seq (.reg Q117_5) (.seq (.dreg Q117_6) (.cond (.t 24) (.seq (.reg Q117_7) .ret) .skip)))) (.reg Q117_8))))
@[go_sem] def Q117_10:=k 0x10158
def t_Q117:TF:=⟨26,[.t 4],(.seq (.reg Q117_0) (.seq (.seq (.reg Q117_1) (.cond (.t 10) (.seq (.reg Q117_2) .ret) .skip)) (.seq (.seq (.reg Q117_3) (.block 0 (.loop Q117_9))) (.seq (.reg Q117_10) .ret))))⟩
/-! horarium/node.kids -/
@[go_sem] def Q118_0:=k 0x58e4f4c
@[go_sem] def Q118_1:=k 0x5788adca369bca213a0e09ece863b65d03681a87002dcdd25c661493ff669711453cc06268d4
@[go_sem] def Q118_2:=k 0x8ad4
@[go_sem] def Q118_3:=k 0x530118a84dc3efa2337766df16481a07db8ca4df6b949da3f0de26d523c585fbdf8fa8ba654
@[go_sem] def Q118_4:=k 0x187095c83d7ab303b24161095
@[go_sem] def Q118_5:=k 0x8a58
@[go_sem] def Q118_6:=k 0x153fb95c2d6c534b49b602f8fae3a1f314dc10c0b4556416fd95
@[go_sem] def Q118_7:=k 0x22f0f1bcad9eb80d795
@[go_sem] def Q118_8:=k 0x23c79bafa126dc86d94198955
@[go_sem] def Q118_9:=k 0x7f258
@[go_sem] def Q118_10:=k 0x8ad4
def t_Q118:TF:=⟨49,[.t 2],(.seq (.reg Q118_0) (.seq (.block 0 (.seq (.reg Q118_1) (.cond (.t 3) (.seq (.reg Q118_2) .ret) (.seq (.seq (.reg Q118_3) (.cond (.t 17) .skip (.reg Q118_4))) (.cond (.t 17) (.seq (.reg Q118_5) .ret) (.seq (.reg Q118_6) (.cond (.t 34) (.seq (.reg Q118_7) .ret) (.seq (.reg Q118_8) (.cond (.t 45) (.seq (.reg Q118_9) .ret) .skip))))))))) (.seq (.reg Q118_10) .ret)))⟩
/-! horarium/node.times -/
@[go_sem] def Q119_0:=k 0x100d8
@[go_sem] def Q119_1:=k 0x1701850760e2917cfc2663ea663c0c
def t_Q119:TF:=⟨10,[.t 4],(.seq (.reg Q119_0) (.seq (.reg Q119_1) .ret))⟩
/-! horarium/node.add -/
@[go_sem] def Q120_0:=k 0x100d8
@[go_sem] def Q120_1:=k 0x1701850760dcb0a7dd6d4f5b583c0c
def t_Q120:TF:=⟨10,[.t 4],(.seq (.reg Q120_0) (.seq (.reg Q120_1) .ret))⟩
/-! horarium/horariumref3.fine -/
@[go_sem] def Q121_0:=k 0xa2f4f4c
@[go_sem] def Q121_1:=k 0x524ec882d94
@[go_sem] def Q121_2:=k 0x152423c9cdf7c
@[go_sem] def Q121_3:=k 0x33d5d20aed6b27cc2b91b80c4483347ba27bf2d9bbd1002ce42e0bd0a4d924b4fd6f5761a94
@[go_sem] def Q121_4:=k 0x4a2c24aa7c03c
@[go_sem] def Q121_5:=k 0x4d99c8ab6cb7c
@[go_sem] def Q121_6:=k 0x3c175ddbf5304d630df31aee8e1bac190dc58ca371579ce94
@[go_sem] def Q121_7:=k 0x6f62307603ebfd
@[go_sem] def Q121_8:=k 0x3d32d961d9532f752595299de5965aae2401be413e1df8272e2438e3752c05db8be1d12847ca8715
@[go_sem] def Q121_9:=k 0x8a6c
def t_Q121:TF:=⟨46,[.t 2],(.seq (.reg Q121_0) (.seq (.seq (.reg Q121_1) (.block 0 (.seq (.reg Q121_2) (.cond (.t 5) (.seq (.reg Q121_3) .ret) (.seq (.seq (.reg Q121_4) (.cond (.t 20) .skip (.reg Q121_5))) (.cond (.t 20) (.seq (.reg Q121_6) .ret) (.seq (.reg Q121_7) (.cond (.t 31) (.seq (.reg Q121_8) .ret) .skip)))))))) (.seq (.reg Q121_9) .ret)))⟩
/-! slices.IndexFunc[[]horarium/api.Run,horarium/api.Run] -/
@[go_sem] def Q122_0:=k 0x100d8
@[go_sem] def Q122_1:=k 0xa9b39dc774c
@[go_sem] def Q122_2:=k 0x79e0124
@[go_sem] def Q122_3:=k 0x116d5a04a44c
@[go_sem] def Q122_4:=k 0x1ce25d06cd404839795e9998d1078c
@[go_sem] def Q122_5:=k 0x1d5f61600b0c
@[go_sem] def Q122_6:=k 0x3e9a1b653a660
def Q122_7:TC:=(.seq (.reg Q122_2) (.seq (.cond (.t 9) .skip (.exit 0)) (.seq (.block 1 (.seq (.reg Q122_3) (.seq (.reg Q122_4) (.cond (.t 16) (.seq (.reg Q122_5) .ret) .skip)))) (.reg Q122_6))))
@[go_sem] def Q122_8:=k 0x10154
def t_Q122:TF:=⟨19,[.t 4],(.seq (.reg Q122_0) (.seq (.seq (.reg Q122_1) (.block 0 (.loop Q122_7))) (.seq (.reg Q122_8) .ret)))⟩
/-! horarium/word.to -/
@[go_sem] def Q123_0:=k 0x1776c
@[go_sem] def Q123_1:=k 0x34e3df7c7641ac74a2a45b9fe44cf2c72e98a93c671ad74c06a20ed4a3b47ddafb56d359b7cb6d8c44e4f6f01b29fa87813f75bc589cd4109faefe5150409387c486819ea77f2dc7caf66d41ec2ea71ac828d
def t_Q123:TF:=⟨37,[.t 6],(.seq (.reg Q123_0) (.seq (.reg Q123_1) .ret))⟩
def tpFn:Nat→Option TF
  | 3=>some t_Q0
  | 12=>some t_Q1
  | 13=>some t_Q2
  | 14=>some t_Q3
  | 15=>some t_Q4
  | 16=>some t_Q5
  | 17=>some t_Q6
  | 18=>some t_Q7
  | 19=>some t_Q8
  | 20=>some t_Q9
  | 21=>some t_Q10
  | 22=>some t_Q11
  | 23=>some t_Q12
  | 29=>some t_Q13
  | 31=>some t_Q14
  | 32=>some t_Q15
  | 33=>some t_Q16
  | 41=>some t_Q17
  | 47=>some t_Q18
  | 48=>some t_Q19
  | 49=>some t_Q20
  | 50=>some t_Q21
  | 51=>some t_Q22
  | 52=>some t_Q23
  | 53=>some t_Q24
  | 54=>some t_Q25
  | 55=>some t_Q26
  | 56=>some t_Q27
  | 57=>some t_Q28
  | 58=>some t_Q29
  | 59=>some t_Q30
  | 60=>some t_Q31
  | 61=>some t_Q32
  | 62=>some t_Q33
  | 63=>some t_Q34
  | 64=>some t_Q35
  | 65=>some t_Q36
  | 66=>some t_Q37
  | 67=>some t_Q38
  | 72=>some t_Q39
  | 73=>some t_Q40
  | 74=>some t_Q41
  | 75=>some t_Q42
  | 76=>some t_Q43
  | 77=>some t_Q44
  | 78=>some t_Q45
  | 79=>some t_Q46
  | 80=>some t_Q47
  | 94=>some t_Q48
  | 95=>some t_Q49
  | 96=>some t_Q50
  | 97=>some t_Q51
  | 98=>some t_Q52
  | 99=>some t_Q53
  | 100=>some t_Q54
  | 101=>some t_Q55
  | 102=>some t_Q56
  | 103=>some t_Q57
  | 104=>some t_Q58
  | 105=>some t_Q59
  | 106=>some t_Q60
  | 107=>some t_Q61
  | 108=>some t_Q62
  | 109=>some t_Q63
  | 110=>some t_Q64
  | 111=>some t_Q65
  | 112=>some t_Q66
  | 113=>some t_Q67
  | 114=>some t_Q68
  | 115=>some t_Q69
  | 116=>some t_Q70
  | 117=>some t_Q71
  | 118=>some t_Q72
  | 119=>some t_Q73
  | 122=>some t_Q74
  | 123=>some t_Q75
  | 124=>some t_Q76
  | 125=>some t_Q77
  | 126=>some t_Q78
  | 127=>some t_Q79
  | 128=>some t_Q80
  | 129=>some t_Q81
  | 150=>some t_Q82
  | 151=>some t_Q83
  | 152=>some t_Q84
  | 153=>some t_Q85
  | 154=>some t_Q86
  | 155=>some t_Q87
  | 156=>some t_Q88
  | 157=>some t_Q89
  | 158=>some t_Q90
  | 159=>some t_Q91
  | 160=>some t_Q92
  | 161=>some t_Q93
  | 162=>some t_Q94
  | 163=>some t_Q95
  | 164=>some t_Q96
  | 165=>some t_Q97
  | 166=>some t_Q98
  | 167=>some t_Q99
  | 168=>some t_Q100
  | 169=>some t_Q101
  | 170=>some t_Q102
  | 171=>some t_Q103
  | 172=>some t_Q104
  | 173=>some t_Q105
  | 177=>some t_Q106
  | 178=>some t_Q107
  | 179=>some t_Q108
  | 180=>some t_Q109
  | 181=>some t_Q110
  | 182=>some t_Q111
  | 183=>some t_Q112
  | 184=>some t_Q113
  | 185=>some t_Q114
  | 186=>some t_Q115
  | 201=>some t_Q116
  | 202=>some t_Q117
  | 203=>some t_Q118
  | 204=>some t_Q119
  | 205=>some t_Q120
  | 206=>some t_Q121
  | 209=>some t_Q122
  | 210=>some t_Q123
  | _=>none
def tpMeth:Nat→String→Option Meth:=fun _ _=>none
def tp:TP:=⟨tpFn,tpMeth⟩
theorem fn_Q0:tp.fn i_Q0=some t_Q0:=rfl
theorem fn_Q1:tp.fn i_Q1=some t_Q1:=rfl
theorem fn_Q2:tp.fn i_Q2=some t_Q2:=rfl
theorem fn_Q3:tp.fn i_Q3=some t_Q3:=rfl
theorem fn_Q4:tp.fn i_Q4=some t_Q4:=rfl
theorem fn_Q5:tp.fn i_Q5=some t_Q5:=rfl
theorem fn_Q6:tp.fn i_Q6=some t_Q6:=rfl
theorem fn_Q7:tp.fn i_Q7=some t_Q7:=rfl
theorem fn_Q8:tp.fn i_Q8=some t_Q8:=rfl
theorem fn_Q9:tp.fn i_Q9=some t_Q9:=rfl
theorem fn_Q10:tp.fn i_Q10=some t_Q10:=rfl
theorem fn_Q11:tp.fn i_Q11=some t_Q11:=rfl
theorem fn_Q12:tp.fn i_Q12=some t_Q12:=rfl
theorem fn_Q13:tp.fn i_Q13=some t_Q13:=rfl
theorem fn_Q14:tp.fn i_Q14=some t_Q14:=rfl
theorem fn_Q15:tp.fn i_Q15=some t_Q15:=rfl
theorem fn_Q16:tp.fn i_Q16=some t_Q16:=rfl
theorem fn_Q17:tp.fn i_Q17=some t_Q17:=rfl
theorem fn_Q18:tp.fn i_Q18=some t_Q18:=rfl
theorem fn_Q19:tp.fn i_Q19=some t_Q19:=rfl
theorem fn_Q20:tp.fn i_Q20=some t_Q20:=rfl
theorem fn_Q21:tp.fn i_Q21=some t_Q21:=rfl
theorem fn_Q22:tp.fn i_Q22=some t_Q22:=rfl
theorem fn_Q23:tp.fn i_Q23=some t_Q23:=rfl
theorem fn_Q24:tp.fn i_Q24=some t_Q24:=rfl
theorem fn_Q25:tp.fn i_Q25=some t_Q25:=rfl
theorem fn_Q26:tp.fn i_Q26=some t_Q26:=rfl
theorem fn_Q27:tp.fn i_Q27=some t_Q27:=rfl
theorem fn_Q28:tp.fn i_Q28=some t_Q28:=rfl
theorem fn_Q29:tp.fn i_Q29=some t_Q29:=rfl
theorem fn_Q30:tp.fn i_Q30=some t_Q30:=rfl
theorem fn_Q31:tp.fn i_Q31=some t_Q31:=rfl
theorem fn_Q32:tp.fn i_Q32=some t_Q32:=rfl
theorem fn_Q33:tp.fn i_Q33=some t_Q33:=rfl
theorem fn_Q34:tp.fn i_Q34=some t_Q34:=rfl
theorem fn_Q35:tp.fn i_Q35=some t_Q35:=rfl
theorem fn_Q36:tp.fn i_Q36=some t_Q36:=rfl
theorem fn_Q37:tp.fn i_Q37=some t_Q37:=rfl
theorem fn_Q38:tp.fn i_Q38=some t_Q38:=rfl
theorem fn_Q39:tp.fn i_Q39=some t_Q39:=rfl
theorem fn_Q40:tp.fn i_Q40=some t_Q40:=rfl
theorem fn_Q41:tp.fn i_Q41=some t_Q41:=rfl
theorem fn_Q42:tp.fn i_Q42=some t_Q42:=rfl
theorem fn_Q43:tp.fn i_Q43=some t_Q43:=rfl
theorem fn_Q44:tp.fn i_Q44=some t_Q44:=rfl
theorem fn_Q45:tp.fn i_Q45=some t_Q45:=rfl
theorem fn_Q46:tp.fn i_Q46=some t_Q46:=rfl
theorem fn_Q47:tp.fn i_Q47=some t_Q47:=rfl
theorem fn_Q48:tp.fn i_Q48=some t_Q48:=rfl
theorem fn_Q49:tp.fn i_Q49=some t_Q49:=rfl
theorem fn_Q50:tp.fn i_Q50=some t_Q50:=rfl
theorem fn_Q51:tp.fn i_Q51=some t_Q51:=rfl
theorem fn_Q52:tp.fn i_Q52=some t_Q52:=rfl
theorem fn_Q53:tp.fn i_Q53=some t_Q53:=rfl
theorem fn_Q54:tp.fn i_Q54=some t_Q54:=rfl
theorem fn_Q55:tp.fn i_Q55=some t_Q55:=rfl
theorem fn_Q56:tp.fn i_Q56=some t_Q56:=rfl
theorem fn_Q57:tp.fn i_Q57=some t_Q57:=rfl
theorem fn_Q58:tp.fn i_Q58=some t_Q58:=rfl
theorem fn_Q59:tp.fn i_Q59=some t_Q59:=rfl
theorem fn_Q60:tp.fn i_Q60=some t_Q60:=rfl
theorem fn_Q61:tp.fn i_Q61=some t_Q61:=rfl
theorem fn_Q62:tp.fn i_Q62=some t_Q62:=rfl
theorem fn_Q63:tp.fn i_Q63=some t_Q63:=rfl
theorem fn_Q64:tp.fn i_Q64=some t_Q64:=rfl
theorem fn_Q65:tp.fn i_Q65=some t_Q65:=rfl
theorem fn_Q66:tp.fn i_Q66=some t_Q66:=rfl
theorem fn_Q67:tp.fn i_Q67=some t_Q67:=rfl
theorem fn_Q68:tp.fn i_Q68=some t_Q68:=rfl
theorem fn_Q69:tp.fn i_Q69=some t_Q69:=rfl
theorem fn_Q70:tp.fn i_Q70=some t_Q70:=rfl
theorem fn_Q71:tp.fn i_Q71=some t_Q71:=rfl
theorem fn_Q72:tp.fn i_Q72=some t_Q72:=rfl
theorem fn_Q73:tp.fn i_Q73=some t_Q73:=rfl
theorem fn_Q74:tp.fn i_Q74=some t_Q74:=rfl
theorem fn_Q75:tp.fn i_Q75=some t_Q75:=rfl
theorem fn_Q76:tp.fn i_Q76=some t_Q76:=rfl
theorem fn_Q77:tp.fn i_Q77=some t_Q77:=rfl
theorem fn_Q78:tp.fn i_Q78=some t_Q78:=rfl
theorem fn_Q79:tp.fn i_Q79=some t_Q79:=rfl
theorem fn_Q80:tp.fn i_Q80=some t_Q80:=rfl
theorem fn_Q81:tp.fn i_Q81=some t_Q81:=rfl
theorem fn_Q82:tp.fn i_Q82=some t_Q82:=rfl
theorem fn_Q83:tp.fn i_Q83=some t_Q83:=rfl
theorem fn_Q84:tp.fn i_Q84=some t_Q84:=rfl
theorem fn_Q85:tp.fn i_Q85=some t_Q85:=rfl
theorem fn_Q86:tp.fn i_Q86=some t_Q86:=rfl
theorem fn_Q87:tp.fn i_Q87=some t_Q87:=rfl
theorem fn_Q88:tp.fn i_Q88=some t_Q88:=rfl
theorem fn_Q89:tp.fn i_Q89=some t_Q89:=rfl
theorem fn_Q90:tp.fn i_Q90=some t_Q90:=rfl
theorem fn_Q91:tp.fn i_Q91=some t_Q91:=rfl
theorem fn_Q92:tp.fn i_Q92=some t_Q92:=rfl
theorem fn_Q93:tp.fn i_Q93=some t_Q93:=rfl
theorem fn_Q94:tp.fn i_Q94=some t_Q94:=rfl
theorem fn_Q95:tp.fn i_Q95=some t_Q95:=rfl
theorem fn_Q96:tp.fn i_Q96=some t_Q96:=rfl
theorem fn_Q97:tp.fn i_Q97=some t_Q97:=rfl
theorem fn_Q98:tp.fn i_Q98=some t_Q98:=rfl
theorem fn_Q99:tp.fn i_Q99=some t_Q99:=rfl
theorem fn_Q100:tp.fn i_Q100=some t_Q100:=rfl
theorem fn_Q101:tp.fn i_Q101=some t_Q101:=rfl
theorem fn_Q102:tp.fn i_Q102=some t_Q102:=rfl
theorem fn_Q103:tp.fn i_Q103=some t_Q103:=rfl
theorem fn_Q104:tp.fn i_Q104=some t_Q104:=rfl
theorem fn_Q105:tp.fn i_Q105=some t_Q105:=rfl
theorem fn_Q106:tp.fn i_Q106=some t_Q106:=rfl
theorem fn_Q107:tp.fn i_Q107=some t_Q107:=rfl
theorem fn_Q108:tp.fn i_Q108=some t_Q108:=rfl
theorem fn_Q109:tp.fn i_Q109=some t_Q109:=rfl
theorem fn_Q110:tp.fn i_Q110=some t_Q110:=rfl
theorem fn_Q111:tp.fn i_Q111=some t_Q111:=rfl
theorem fn_Q112:tp.fn i_Q112=some t_Q112:=rfl
theorem fn_Q113:tp.fn i_Q113=some t_Q113:=rfl
theorem fn_Q114:tp.fn i_Q114=some t_Q114:=rfl
theorem fn_Q115:tp.fn i_Q115=some t_Q115:=rfl
theorem fn_Q116:tp.fn i_Q116=some t_Q116:=rfl
theorem fn_Q117:tp.fn i_Q117=some t_Q117:=rfl
theorem fn_Q118:tp.fn i_Q118=some t_Q118:=rfl
theorem fn_Q119:tp.fn i_Q119=some t_Q119:=rfl
theorem fn_Q120:tp.fn i_Q120=some t_Q120:=rfl
theorem fn_Q121:tp.fn i_Q121=some t_Q121:=rfl
theorem fn_Q122:tp.fn i_Q122=some t_Q122:=rfl
theorem fn_Q123:tp.fn i_Q123=some t_Q123:=rfl
end Go.Ab.T
