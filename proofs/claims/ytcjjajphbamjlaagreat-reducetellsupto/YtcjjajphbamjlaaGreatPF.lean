/- Part of a proof that a law returns true for every input of the second form's bound (no other condition). -/
import Derived.Test.YtcjjajphbamjlaaGreatPE
set_option linter.all false
/- The abstract machine's text of the functions, its regions as numbers. Written by a tool. -/
namespace Go.Ab.T
open Go Go.Ab
set_option maxRecDepth 100000
abbrev i_Q0:Nat:=6
abbrev i_Q1:Nat:=12
abbrev i_Q2:Nat:=13
abbrev i_Q3:Nat:=14
abbrev i_Q4:Nat:=15
abbrev i_Q5:Nat:=17
abbrev i_Q6:Nat:=18
abbrev i_Q7:Nat:=19
abbrev i_Q8:Nat:=20
abbrev i_Q9:Nat:=21
abbrev i_Q10:Nat:=22
abbrev i_Q11:Nat:=23
abbrev i_Q12:Nat:=25
abbrev i_Q13:Nat:=26
abbrev i_Q14:Nat:=27
abbrev i_Q15:Nat:=28
abbrev i_Q16:Nat:=29
abbrev i_Q17:Nat:=30
abbrev i_Q18:Nat:=31
abbrev i_Q19:Nat:=32
abbrev i_Q20:Nat:=33
abbrev i_Q21:Nat:=41
abbrev i_Q22:Nat:=47
abbrev i_Q23:Nat:=48
abbrev i_Q24:Nat:=49
abbrev i_Q25:Nat:=50
abbrev i_Q26:Nat:=51
abbrev i_Q27:Nat:=52
abbrev i_Q28:Nat:=53
abbrev i_Q29:Nat:=54
abbrev i_Q30:Nat:=55
abbrev i_Q31:Nat:=56
abbrev i_Q32:Nat:=57
abbrev i_Q33:Nat:=58
abbrev i_Q34:Nat:=59
abbrev i_Q35:Nat:=60
abbrev i_Q36:Nat:=61
abbrev i_Q37:Nat:=62
abbrev i_Q38:Nat:=63
abbrev i_Q39:Nat:=64
abbrev i_Q40:Nat:=65
abbrev i_Q41:Nat:=66
abbrev i_Q42:Nat:=67
abbrev i_Q43:Nat:=68
abbrev i_Q44:Nat:=69
abbrev i_Q45:Nat:=70
abbrev i_Q46:Nat:=71
abbrev i_Q47:Nat:=72
abbrev i_Q48:Nat:=73
abbrev i_Q49:Nat:=74
abbrev i_Q50:Nat:=75
abbrev i_Q51:Nat:=76
abbrev i_Q52:Nat:=77
abbrev i_Q53:Nat:=78
abbrev i_Q54:Nat:=79
abbrev i_Q55:Nat:=80
abbrev i_Q56:Nat:=94
abbrev i_Q57:Nat:=95
abbrev i_Q58:Nat:=96
abbrev i_Q59:Nat:=97
abbrev i_Q60:Nat:=98
abbrev i_Q61:Nat:=99
abbrev i_Q62:Nat:=100
abbrev i_Q63:Nat:=101
abbrev i_Q64:Nat:=102
abbrev i_Q65:Nat:=103
abbrev i_Q66:Nat:=104
abbrev i_Q67:Nat:=105
abbrev i_Q68:Nat:=106
abbrev i_Q69:Nat:=107
abbrev i_Q70:Nat:=108
abbrev i_Q71:Nat:=109
abbrev i_Q72:Nat:=110
abbrev i_Q73:Nat:=111
abbrev i_Q74:Nat:=112
abbrev i_Q75:Nat:=113
abbrev i_Q76:Nat:=114
abbrev i_Q77:Nat:=115
abbrev i_Q78:Nat:=116
abbrev i_Q79:Nat:=117
abbrev i_Q80:Nat:=118
abbrev i_Q81:Nat:=119
abbrev i_Q82:Nat:=120
abbrev i_Q83:Nat:=121
abbrev i_Q84:Nat:=122
abbrev i_Q85:Nat:=123
abbrev i_Q86:Nat:=124
abbrev i_Q87:Nat:=125
abbrev i_Q88:Nat:=126
abbrev i_Q89:Nat:=127
abbrev i_Q90:Nat:=128
abbrev i_Q91:Nat:=129
abbrev i_Q92:Nat:=150
abbrev i_Q93:Nat:=151
abbrev i_Q94:Nat:=152
abbrev i_Q95:Nat:=153
abbrev i_Q96:Nat:=154
abbrev i_Q97:Nat:=155
abbrev i_Q98:Nat:=156
abbrev i_Q99:Nat:=157
abbrev i_Q100:Nat:=158
abbrev i_Q101:Nat:=159
abbrev i_Q102:Nat:=160
abbrev i_Q103:Nat:=161
abbrev i_Q104:Nat:=162
abbrev i_Q105:Nat:=163
abbrev i_Q106:Nat:=164
abbrev i_Q107:Nat:=165
abbrev i_Q108:Nat:=166
abbrev i_Q109:Nat:=167
abbrev i_Q110:Nat:=168
abbrev i_Q111:Nat:=169
abbrev i_Q112:Nat:=170
abbrev i_Q113:Nat:=171
abbrev i_Q114:Nat:=172
abbrev i_Q115:Nat:=173
abbrev i_Q116:Nat:=174
abbrev i_Q117:Nat:=175
abbrev i_Q118:Nat:=176
abbrev i_Q119:Nat:=177
abbrev i_Q120:Nat:=178
abbrev i_Q121:Nat:=179
abbrev i_Q122:Nat:=180
abbrev i_Q123:Nat:=181
abbrev i_Q124:Nat:=182
abbrev i_Q125:Nat:=183
abbrev i_Q126:Nat:=184
abbrev i_Q127:Nat:=185
abbrev i_Q128:Nat:=186
abbrev i_Q129:Nat:=201
abbrev i_Q130:Nat:=202
abbrev i_Q131:Nat:=203
abbrev i_Q132:Nat:=204
abbrev i_Q133:Nat:=205
abbrev i_Q134:Nat:=206
abbrev i_Q135:Nat:=207
abbrev i_Q136:Nat:=208
abbrev i_Q137:Nat:=209
abbrev i_Q138:Nat:=210
def wrs:List Nat:=[i_Q22,i_Q12,i_Q16,i_Q23,i_Q24,i_Q1,i_Q129,i_Q94,i_Q57,i_Q92]
def xgt {α:Type} (z:α):List α→Nat→α
 | [],_=>z
 | x::_,0=>x
 | _::l,n+1=>xgt z l n
def xgi:Nat→Int:=xgt 0 [0,1,2,3,4,5,6,7,8,9,10,11,12,13,14,15,16,17,18,19,20,21,22,23,24,25,26,27,28,29,30,31]
def sh0:List ((Nat→Nat)→O):=[fun p=>.mv (.t (p 0)),
fun p=>.load 1 false (.t (p 0)),
fun p=>.fad (p 0) (.t (p 1)),
fun p=>.mv (.c (.i .i64 (xgi (p 0)))),
fun p=>.len (.t (p 0)),
fun p=>.bin .add (.t (p 0)) (.c (.i .i64 (xgi (p 1)))),
fun p=>.pick (.t (p 0)) (.t (p 1)) (.c (.b false)),
fun p=>.bin .lss (.t (p 0)) (.t (p 1)),
fun p=>.load 3 true (.t (p 0)),
fun p=>.mv (.c (.b false)),
fun p=>.mv (.c .ns),
fun p=>.pick (.t (p 0)) (.c (.b true)) (.t (p 1)),
fun p=>.bin .eql (.t (p 0)) (.c (.i .i64 (xgi (p 1)))),
fun p=>.iad 1 (.t (p 0)) (.t (p 1)),
fun p=>.iad 2 (.t (p 0)) (.t (p 1)),
fun p=>.box (.t (p 0)),
fun p=>.nck (.t (p 0)),
fun p=>.bin .add (.t (p 0)) (.t (p 1)),
fun p=>.bin .lss (.t (p 0)) (.c (.i .i64 (xgi (p 1)))),
fun p=>.ext (.t (p 0)) 0,
fun p=>.ext (.t (p 0)) 1,
fun p=>.un .not (.t (p 0)),
fun p=>.bin .sub (.t (p 0)) (.c (.i .i64 (xgi (p 1)))),
fun p=>.store 1 (.t (p 0)) (.t (p 1))]
def sh1:List ((Nat→Nat)→O):=[fun p=>.bin .gtr (.t (p 0)) (.c (.i .i64 (xgi (p 1)))),
fun p=>.load 2 true (.t (p 0)),
fun p=>.iad 3 (.t (p 0)) (.t (p 1)),
fun p=>.store 2 (.t (p 0)) (.t (p 1)),
fun p=>.call (.fn i_Q22) [(.t (p 0)),(.c (.i .i64 (xgi (p 1))))],
fun p=>.alloc [(.i .i64 0),(.i .i64 0)],
fun p=>.bin .eql (.t (p 0)) (.t (p 1)),
fun p=>.bin .geq (.t (p 0)) (.c (.i .i64 (xgi (p 1)))),
fun p=>.store 6 (.t (p 0)) (.t (p 1)),
fun p=>.bin .neq (.t (p 0)) (.c (.i .i64 (xgi (p 1)))),
fun p=>.mv (.c (.b true)),
fun p=>.mv (.c (.i .i64 (-1))),
fun p=>.app 2 (.t (p 0)) (.t (p 1)),
fun p=>.store 3 (.t (p 0)) (.t (p 1)),
fun p=>.iad 6 (.t (p 0)) (.t (p 1)),
fun p=>.app 1 (.t (p 0)) (.t (p 1)),
fun p=>.bin .neq (.t (p 0)) (.t (p 1)),
fun p=>.chk 1 false (.t (p 0)) (.t (p 1)),
fun p=>.iad 11 (.t (p 0)) (.t (p 1)),
fun p=>.bin .sub (.t (p 0)) (.t (p 1)),
fun p=>.bsl 2 [(.i .i64 0),(.i .i64 0)] 1 [(0,(.t (p 0)))],
fun p=>.load 6 true (.t (p 0)),
fun p=>.bsl 3 [(.i .i64 0),(.i .i64 0),(.i .i64 0)] 1 [(0,(.t (p 0)))],
fun p=>.bin .geq (.t (p 0)) (.t (p 1))]
def sh2:List ((Nat→Nat)→O):=[fun p=>.bin .mul (.t (p 0)) (.t (p 1)),
fun p=>.fload 1 false (.t (p 0)),
fun p=>.bin .gtr (.t (p 0)) (.t (p 1)),
fun p=>.app 3 (.t (p 0)) (.t (p 1)),
fun p=>.e0,
fun p=>.bin .add (.c (.i .i64 (xgi (p 0)))) (.t (p 1)),
fun p=>.build [(.i .i64 0),(.i .i64 0),(.i .i64 0)] [(0,1,(.c (.i .i64 (xgi (p 0))))),(2,1,(.t (p 1)))],
fun p=>.iad 1 (.t (p 0)) (.c (.i .i64 (xgi (p 1)))),
fun p=>.store 1 (.t (p 0)) (.c (.i .i64 (xgi (p 1)))),
fun p=>.bin .rem (.t (p 0)) (.t (p 1)),
fun p=>.bsl 1 [.ns] 1 [(0,(.t (p 0)))],
fun p=>.alloc [(.i .i64 0),(.i .i64 0),(.i .i64 0),(.i .i64 0),(.i .i64 0),(.b false)],
fun p=>.ext (.t (p 0)) 2,
fun p=>.call (.fn i_Q19) [(.t (p 0)),(.t (p 1))],
fun p=>.eq false .b (.t (p 0)) (.t (p 1)),
fun p=>.bin .leq (.t (p 0)) (.t (p 1)),
fun p=>.mx [(.t (p 0)),(.t (p 1))],
fun p=>.alloc [.ns,.ns,.ns],
fun p=>.build [(.i .i64 0),(.i .i64 0)] [(0,1,(.t (p 0))),(1,1,(.t (p 1)))],
fun p=>.call (.fn i_Q22) [(.t (p 0)),(.t (p 1))],
fun p=>.load 11 true (.t (p 0)),
fun p=>.call (.fn i_Q34) [(.t (p 0)),(.t (p 1))],
fun p=>.alloc [(.i .i64 0),(.i .i64 0),(.b false),(.i .i64 0),(.i .u32 0),(.i .i64 0)],
fun p=>.store 1 (.t (p 0)) (.c (.b true))]
def sh3:List ((Nat→Nat)→O):=[fun p=>.call (.t (p 0)) [(.t (p 1)),(.t (p 2))],
fun p=>.slice 1 (.t (p 0)) (some (.t (p 1))) (some (.t (p 2))) none,
fun p=>.bin .leq (.t (p 0)) (.c (.i .i64 4096)),
fun p=>.call (.fn i_Q95) [(.t (p 0)),(.t (p 1))],
fun p=>.mn [(.t (p 0)),(.c (.i .i64 4097))],
fun p=>.mn [(.c (.i .i64 4097)),(.t (p 0))],
fun p=>.sidx (.t (p 0)) (.t (p 1)),
fun p=>.call (.fn i_Q15) [(.t (p 0)),(.t (p 1))],
fun p=>.alloc [(.s ⟨#[]⟩),(.i .i64 0),(.i .i64 0),(.b false),(.b false),.ns,(.i .i64 0),(.i .i64 0),(.i .i64 0),(.i .i64 0),(.i .i64 0)],
fun p=>.store 11 (.t (p 0)) (.t (p 1)),
fun p=>.call (.fn i_Q32) [(.t (p 0))],
fun p=>.call (.fn i_Q40) [(.t (p 0)),(.t (p 1))],
fun p=>.call (.fn i_Q20) [(.t (p 0)),(.t (p 1)),(.t (p 2))],
fun p=>.call (.fn i_Q45) [(.t (p 0)),(.t (p 1)),(.t (p 2))],
fun p=>.call (.fn i_Q50) [(.t (p 0))],
fun p=>.call (.fn i_Q3) [(.t (p 0))],
fun p=>.mn [(.t (p 0)),(.t (p 1))],
fun p=>.call (.fn i_Q58) [(.t (p 0))],
fun p=>.slice 1 (.t (p 0)) none (some (.t (p 1))) none,
fun p=>.alloc [(.i .i64 0),(.i .i64 0),(.b false)],
fun p=>.call (.fn i_Q5) [(.t (p 0)),(.t (p 1))],
fun p=>.bin .gtr (.t (p 0)) (.c (.i .i64 4096)),
fun p=>.bsl 1 [(.i .i64 0)] 1 [(0,(.t (p 0)))],
fun p=>.nck (.c .np)]
def sh4:List ((Nat→Nat)→O):=[fun p=>.cap (.t (p 0)),
fun p=>.bin .neq (.t (p 0)) (.c (.i .i64 (-1))),
fun p=>.app 6 (.t (p 0)) (.t (p 1)),
fun p=>.bin .mul (.c (.i .i64 (xgi (p 0)))) (.t (p 1)),
fun p=>.chkb 1 [(.i .u32 0)] 3 [(0,(.c (.i .u32 4294967295))),(1,(.c (.i .u32 200))),(2,(.c (.i .u32 3)))] (.t (p 0)),
fun p=>.chka [(.i .i64 0),(.i .i64 0),(.b false),(.i .i64 0),(.i .u32 0),(.i .i64 0)] (.t (p 0)),
fun p=>.call (.fn i_Q26) [(.t (p 0)),(.t (p 1))],
fun p=>.build [(.i .i64 0),(.i .i64 0),(.i .i64 0),(.i .i64 0),(.i .i64 0),(.b false)] [],
fun p=>.call (.fn i_Q27) [(.t (p 0)),(.t (p 1))],
fun p=>.call (.fn i_Q29) [(.t (p 0))],
fun p=>.build [(.i .i64 0),(.i .i64 0),(.i .i64 0)] [(0,1,(.c (.i .i64 (xgi (p 0))))),(2,1,(.c (.i .i64 (xgi (p 1)))))],
fun p=>.call (.fn i_Q18) [(.t (p 0)),(.t (p 1))],
fun p=>.call (.fn i_Q42) [],
fun p=>.call (.fn i_Q44) [(.t (p 0))],
fun p=>.build [(.i .i64 0),(.i .i64 0),(.i .i64 0)] [(0,1,(.c (.i .i64 (xgi (p 0))))),(1,1,(.t (p 1))),(2,1,(.t (p 2)))],
fun p=>.mx [(.t (p 0)),(.c (.i .i64 (xgi (p 1))))],
fun p=>.bin .eql (.t (p 0)) (.c (.i .i64 (-1))),
fun p=>.call (.fn i_Q61) [(.t (p 0))],
fun p=>.alloc [(.i .i64 0),(.i .i64 0),(.i .i64 0),(.i .i64 0)],
fun p=>.store 4 (.t (p 0)) (.t (p 1)),
fun p=>.call (.fn i_Q67) [(.t (p 0))],
fun p=>.call (.fn i_Q70) [(.t (p 0))],
fun p=>.call (.fn i_Q72) [(.t (p 0))],
fun p=>.call (.fn i_Q97) [(.t (p 0)),(.t (p 1))]]
def sh5:List ((Nat→Nat)→O):=[fun p=>.mx [(.c (.i .i64 (xgi (p 0)))),(.t (p 1))],
fun p=>.call (.fn i_Q112) [(.t (p 0)),(.t (p 1))],
fun p=>.call (.t (p 0)) [(.t (p 1))],
fun p=>.alloc [(.i .i64 0),(.i .i64 0),(.i .i64 0)],
fun p=>.slen (.t (p 0)),
fun p=>.call (.fn i_Q13) [(.t (p 0)),(.t (p 1))],
fun p=>.call (.fn i_Q16) [(.t (p 0)),(.t (p 1)),(.c (.i .i64 (xgi (p 2))))],
fun p=>.build [(.i .i64 0),(.i .i64 0),(.i .i64 0),(.i .i64 0),(.i .i64 0),(.b false)] [(0,1,(.t (p 0))),(1,1,(.t (p 1))),(2,1,(.t (p 2))),(3,1,(.t (p 3))),(4,1,(.t (p 4)))],
fun p=>.call (.fn i_Q30) [(.t (p 0))],
fun p=>.build [(.i .i64 0),(.i .i64 0),(.i .i64 0),(.i .i64 0),(.i .i64 0),(.b false)] [(1,1,(.t (p 0))),(2,1,(.t (p 1))),(3,1,(.t (p 2))),(4,1,(.t (p 3))),(5,1,(.c (.b true)))],
fun p=>.bin .gtr (.t (p 0)) (.c (.i .i64 96)),
fun p=>.call (.fn i_Q35) [(.t (p 0)),(.t (p 1)),(.t (p 2))],
fun p=>.call (.fn i_Q36) [(.t (p 0)),(.t (p 1)),(.t (p 2))],
fun p=>.call (.fn i_Q39) [(.t (p 0)),(.t (p 1))],
fun p=>.eq true (.agg [.i,.i,.i]) (.t (p 0)) (.t (p 1)),
fun p=>.call (.fn i_Q2) [(.t (p 0)),(.t (p 1))],
fun p=>.build [(.i .i64 0),(.i .i64 0)] [(1,1,(.c (.i .i64 (xgi (p 0)))))],
fun p=>.call (.fn i_Q41) [(.t (p 0)),(.t (p 1))],
fun p=>.call (.fn i_Q43) [(.t (p 0)),(.t (p 1))],
fun p=>.eq false .fn (.t (p 0)) (.c .nf),
fun p=>.call (.fn i_Q9) [(.t (p 0)),(.t (p 1))],
fun p=>.call (.fn i_Q16) [(.t (p 0)),(.t (p 1)),(.t (p 2))],
fun p=>.call (.fn i_Q49) [(.t (p 0)),(.t (p 1))],
fun p=>.eq true (.agg [.i,.i]) (.t (p 0)) (.t (p 1))]
def sh6:List ((Nat→Nat)→O):=[fun p=>.call (.fn i_Q54) [(.t (p 0))],
fun p=>.call (.fn i_Q4) [(.t (p 0))],
fun p=>.call (.fn i_Q66) [(.t (p 0))],
fun p=>.bsl 1 [.ns] 2 [(0,(.t (p 0))),(1,(.t (p 1)))],
fun p=>.slice 1 (.t (p 0)) (some (.t (p 1))) none none,
fun p=>.bin .gtr (.t (p 0)) (.c (.i .i64 128)),
fun p=>.eq false .sl (.t (p 0)) (.c .ns),
fun p=>.bin .sub (.c (.i .i64 9223372036854775807)) (.t (p 0)),
fun p=>.mv (.c (.i .i64 9223372036854775807)),
fun p=>.call (.fn i_Q75) [(.t (p 0))],
fun p=>.call (.fn i_Q76) [(.t (p 0)),(.t (p 1)),(.t (p 2))],
fun p=>.call (.fn i_Q77) [(.t (p 0)),(.t (p 1)),(.t (p 2))],
fun p=>.call (.fn i_Q8) [(.t (p 0)),(.c (.i .i64 (-1)))],
fun p=>.mksl [(.b false)] (.t (p 0)) (.t (p 1)),
fun p=>.call (.fn i_Q7) [(.t (p 0))],
fun p=>.call (.fn i_Q82) [(.t (p 0))],
fun p=>.call (.fn i_Q52) [(.t (p 0)),(.t (p 1)),(.t (p 2))],
fun p=>.call (.fn i_Q84) [(.t (p 0)),(.t (p 1))],
fun p=>.build [(.i .i64 0),(.i .i64 0),(.b false)] [(0,1,(.t (p 0))),(1,1,(.t (p 1)))],
fun p=>.call (.fn i_Q86) [(.t (p 0)),(.t (p 1)),(.t (p 2))],
fun p=>.build [(.i .i64 0),(.i .i64 0),(.b false)] [(0,1,(.t (p 0))),(1,1,(.t (p 1))),(2,1,(.c (.b true)))],
fun p=>.bsl 3 [(.i .i64 0),(.i .i64 0),(.b false)] 2 [(0,(.t (p 0))),(1,(.t (p 1)))],
fun p=>.call (.fn i_Q88) [(.t (p 0)),(.t (p 1))],
fun p=>.bin .leq (.t (p 0)) (.c (.i .i64 96))]
def sh7:List ((Nat→Nat)→O):=[fun p=>.mv (.c .np),
fun p=>.call (.fn i_Q98) [(.t (p 0))],
fun p=>.mkif 9 (.c (.s ⟨#[108,101,110,32,111,117,116,32,111,102,32,114,97,110,103,101]⟩)),
fun p=>.call (.fn i_Q107) [(.t (p 0))],
fun p=>.call (.fn i_Q74) [(.t (p 0)),(.t (p 1)),(.t (p 2))],
fun p=>.call (.fn i_Q118) [(.t (p 0))],
fun p=>.call (.fn i_Q119) [(.t (p 0)),(.t (p 1))],
fun p=>.slice 2 (.t (p 0)) (some (.t (p 1))) (some (.t (p 2))) none,
fun p=>.call (.fn i_Q122) [(.t (p 0)),(.t (p 1)),(.t (p 2))],
fun p=>.call (.fn i_Q124) [(.t (p 0)),(.t (p 1)),(.t (p 2))],
fun p=>.call (.fn i_Q123) [(.t (p 0)),(.t (p 1))],
fun p=>.call (.fn i_Q125) [(.t (p 0)),(.c (.i .i64 (-1)))],
fun p=>.mkif 9 (.c (.s ⟨#[99,97,110,110,111,116,32,98,101,32,110,101,103,97,116,105,118,101]⟩)),
fun p=>.slice 3 (.t (p 0)) none (some (.t (p 1))) none,
fun p=>.bsl 6 [(.i .i64 0),(.i .i64 0),(.i .i64 0),(.i .i64 0),(.i .i64 0),(.i .i64 0)] 1 [(0,(.t (p 0)))],
fun p=>.call (.fn i_Q131) [(.t (p 0))],
fun p=>.iad 6 (.t (p 0)) (.c (.i .i64 (xgi (p 1)))),
fun p=>.call (.fn i_Q109) [(.t (p 0)),(.t (p 1))],
fun p=>.call (.fn i_Q138) [(.t (p 0)),(.t (p 1)),(.t (p 2))],
fun p=>.bin .leq (.t (p 0)) (.c (.i .i64 (xgi (p 1)))),
fun p=>.bin .leq (.t (p 0)) (.c (.i .i64 128)),
fun p=>.build [.ns,(.i .i64 0)] [(0,1,(.t (p 0)))],
fun p=>.call (.fn i_Q1) [(.t (p 0))],
fun p=>.call (.fn i_Q12) [(.t (p 0)),(.t (p 1)),(.c (.i .i64 (xgi (p 2))))]]
def sh8:List ((Nat→Nat)→O):=[fun p=>.bin .and (.t (p 0)) (.c (.i .i64 (xgi (p 1)))),
fun p=>.bin .gtr (.t (p 0)) (.c (.i .i64 50)),
fun p=>.slice 3 (.t (p 0)) none (some (.c (.i .i64 50))) none,
fun p=>.call (.fn i_Q14) [(.t (p 0)),(.t (p 1))],
fun p=>.fload 3 true (.t (p 0)),
fun p=>.chk 3 true (.t (p 0)) (.t (p 1)),
fun p=>.call (.fn i_Q11) [],
fun p=>.bin .add (.c (.i .i64 97)) (.t (p 0)),
fun p=>.conv .i32 (.t (p 0)),
fun p=>.i2s (.t (p 0)),
fun p=>.bin .add (.c (.s ⟨#[112]⟩)) (.t (p 0)),
fun p=>.build [(.s ⟨#[]⟩),(.i .i64 0),(.i .i64 0),(.b false),(.b false),.ns,(.i .i64 0),(.i .i64 0),(.i .i64 0),(.i .i64 0),(.i .i64 0)] [(0,1,(.t (p 0))),(3,1,(.t (p 1))),(4,1,(.t (p 2)))],
fun p=>.bsl 1 [(.i .i64 0)] 5 [(0,(.c (.i .i64 (xgi (p 0))))),(1,(.c (.i .i64 (xgi (p 1))))),(2,(.c (.i .i64 (xgi (p 2))))),(3,(.c (.i .i64 (xgi (p 3))))),(4,(.c (.i .i64 (xgi (p 4)))))],
fun p=>.iada 1 5 (.t (p 0)) (.t (p 1)),
fun p=>.bsl 11 [(.s ⟨#[]⟩),(.i .i64 0),(.i .i64 0),(.b false),(.b false),.ns,(.i .i64 0),(.i .i64 0),(.i .i64 0),(.i .i64 0),(.i .i64 0)] 1 [(0,(.t (p 0)))],
fun p=>.app 11 (.t (p 0)) (.t (p 1)),
fun p=>.bslc 1 [(.i .u32 0)] 3 [(0,(.c (.i .u32 4294967295))),(1,(.c (.i .u32 200))),(2,(.c (.i .u32 3)))],
fun p=>.alc [(.i .i64 0),(.i .i64 0),(.b false),(.i .i64 0),(.i .u32 0),(.i .i64 0)],
fun p=>.build [(.i .i64 0),(.i .i64 0),(.b false),(.i .i64 0),(.i .u32 0),(.i .i64 0)] [(0,1,(.t (p 0))),(1,1,(.t (p 1))),(2,1,(.t (p 2))),(4,1,(.t (p 3)))],
fun p=>.bsl 6 [(.i .i64 0),(.i .i64 0),(.b false),(.i .i64 0),(.i .u32 0),(.i .i64 0)] 1 [(0,(.t (p 0)))],
fun p=>.call (.fn i_Q23) [(.t (p 0)),(.t (p 1))],
fun p=>.call (.fn i_Q24) [(.t (p 0)),(.t (p 1))],
fun p=>.call (.fn i_Q25) [(.t (p 0))],
fun p=>.call (.fn i_Q28) [(.t (p 0))]]
def sh9:List ((Nat→Nat)→O):=[fun p=>.call (.fn i_Q31) [(.t (p 0))],
fun p=>.call (.fn i_Q33) [(.t (p 0))],
fun p=>.call (.fn i_Q37) [(.t (p 0)),(.t (p 1)),(.t (p 2))],
fun p=>.call (.fn i_Q38) [(.t (p 0))],
fun p=>.mksl [(.s ⟨#[]⟩),(.i .i64 0),(.i .i64 0),(.b false),(.b false),.ns,(.i .i64 0),(.i .i64 0),(.i .i64 0),(.i .i64 0),(.i .i64 0)] (.c (.i .i64 (xgi (p 0)))) (.c (.i .i64 (xgi (p 1)))),
fun p=>.build [.ns,.ns,.ns] [(0,1,(.t (p 0)))],
fun p=>.call (.fn i_Q2) [(.t (p 0)),(.c .ns)],
fun p=>.build [(.i .i64 0),(.i .i64 0)] [(0,1,(.c (.i .i64 (xgi (p 0))))),(1,1,(.c (.i .i64 (xgi (p 1)))))],
fun p=>.bsl 2 [(.i .i64 0),(.i .i64 0)] 3 [(0,(.t (p 0))),(1,(.t (p 1))),(2,(.t (p 2)))],
fun p=>.call (.fn i_Q17) [(.t (p 0)),(.t (p 1))],
fun p=>.call (.fn i_Q10) [(.t (p 0)),(.t (p 1))],
fun p=>.call (.fn i_Q46) [(.t (p 0)),(.t (p 1))],
fun p=>.eq false (.agg [.i,.i,.i,.i,.i,.b]) (.t (p 0)) (.t (p 1)),
fun p=>.call (.fn i_Q47) [(.t (p 0)),(.t (p 1))],
fun p=>.mkfn (.func i_Q51) [] [(.t (p 0)),(.t (p 1))],
fun p=>.call (.fn i_Q48) [(.t (p 0)),(.t (p 1))],
fun p=>.call (.fn i_Q53) [(.t (p 0)),(.t (p 1)),(.t (p 2))],
fun p=>.call (.fn i_Q21) [(.t (p 0)),(.c (.i .i64 (xgi (p 1)))),(.c (.i .i64 1073741824))],
fun p=>.bin .gtr (.t (p 0)) (.c (.i .i64 90)),
fun p=>.build [(.i .i64 0),(.i .i64 0),(.i .i64 0)] [(0,1,(.c (.i .i64 (xgi (p 0))))),(1,1,(.t (p 1))),(2,1,(.c (.i .i64 (xgi (p 2)))))],
fun p=>.bsl 3 [(.i .i64 0),(.i .i64 0),(.i .i64 0)] 3 [(0,(.t (p 0))),(1,(.t (p 1))),(2,(.t (p 2)))],
fun p=>.mn [(.t (p 0)),(.c (.i .i64 4096))],
fun p=>.bin .quo (.t (p 0)) (.t (p 1)),
fun p=>.mv (.c (.i .i64 4096))]
def sh10:List ((Nat→Nat)→O):=[fun p=>.call (.fn i_Q55) [(.t (p 0))],
fun p=>.call (.fn i_Q56) [(.t (p 0))],
fun p=>.call (.fn i_Q57) [(.t (p 0))],
fun p=>.call (.fn i_Q59) [(.t (p 0)),(.t (p 1)),(.t (p 2))],
fun p=>.call (.fn i_Q60) [(.t (p 0)),(.t (p 1)),(.t (p 2))],
fun p=>.mv (.fn i_Q62),
fun p=>.call (.fn i_Q63) [(.t (p 0))],
fun p=>.call (.fn i_Q65) [(.t (p 0))],
fun p=>.call (.fn i_Q64) [(.t (p 0)),(.t (p 1))],
fun p=>.bsl 1 [.ns] 3 [(0,(.t (p 0))),(1,(.t (p 1))),(2,(.t (p 2)))],
fun p=>.call (.fn i_Q68) [(.t (p 0))],
fun p=>.call (.fn i_Q69) [(.t (p 0))],
fun p=>.call (.fn i_Q71) [(.t (p 0))],
fun p=>.call (.fn i_Q73) [(.t (p 0))],
fun p=>.call (.fn i_Q74) [(.t (p 0)),(.c (.i .i64 (xgi (p 1)))),(.c .ns)],
fun p=>.mksl [.ns] (.t (p 0)) (.t (p 1)),
fun p=>.call (.fn i_Q78) [(.t (p 0)),(.t (p 1))],
fun p=>.call (.fn i_Q79) [(.t (p 0)),(.t (p 1))],
fun p=>.call (.fn i_Q80) [(.t (p 0)),(.t (p 1))],
fun p=>.call (.fn i_Q81) [(.fn i_Q80)],
fun p=>.call (.fn i_Q81) [(.fn i_Q47)],
fun p=>.bsl 1 [.nf] 2 [(0,(.t (p 0))),(1,(.t (p 1)))],
fun p=>.call (.fn i_Q6) [(.t (p 0)),(.t (p 1)),(.t (p 2))],
fun p=>.call (.fn i_Q83) [(.t (p 0))]]
def sh11:List ((Nat→Nat)→O):=[fun p=>.call (.fn i_Q85) [(.t (p 0)),(.t (p 1))],
fun p=>.call (.fn i_Q87) [(.t (p 0))],
fun p=>.call (.fn i_Q89) [(.t (p 0)),(.t (p 1)),(.t (p 2))],
fun p=>.call (.fn i_Q90) [(.t (p 0))],
fun p=>.call (.fn i_Q91) [(.t (p 0))],
fun p=>.build [.ns,.ns,(.i .i64 0),(.i .i64 0),(.i .i64 0)] [(0,1,(.t (p 0)))],
fun p=>.call (.fn i_Q92) [(.t (p 0))],
fun p=>.build [(.i .i64 0),(.i .i64 0)] [],
fun p=>.call (.fn i_Q93) [(.t (p 0))],
fun p=>.call (.fn i_Q94) [(.t (p 0))],
fun p=>.call (.fn i_Q96) [(.t (p 0))],
fun p=>.bsl 1 [(.i .i64 0)] 2 [(0,(.t (p 0))),(1,(.t (p 1)))],
fun p=>.call (.fn i_Q99) [(.t (p 0)),(.t (p 1)),(.t (p 2))],
fun p=>.call (.fn i_Q100) [(.t (p 0))],
fun p=>.call (.fn i_Q101) [(.t (p 0)),(.t (p 1)),(.t (p 2))],
fun p=>.build [(.i .i64 0),(.i .i64 0),(.i .i64 0),(.i .i64 0)] [(0,1,(.t (p 0))),(1,1,(.t (p 1))),(2,1,(.t (p 2))),(3,1,(.t (p 3)))],
fun p=>.load 4 true (.t (p 0)),
fun p=>.alloc [.ns],
fun p=>.mkfn (.func i_Q103) [] [(.t (p 0))],
fun p=>.call (.fn i_Q102) [(.t (p 0)),(.t (p 1))],
fun p=>.call (.fn i_Q105) [(.c .ns),(.t (p 0))],
fun p=>.call (.fn i_Q106) [(.c .ns),(.t (p 0))],
fun p=>.call (.fn i_Q108) [(.t (p 0)),(.c (.i .i64 (xgi (p 1))))],
fun p=>.call (.fn i_Q109) [(.t (p 0)),(.c (.i .i64 (xgi (p 1))))]]
def sh12:List ((Nat→Nat)→O):=[fun p=>.call (.fn i_Q110) [(.t (p 0)),(.c (.i .i64 (xgi (p 1))))],
fun p=>.call (.fn i_Q111) [(.t (p 0)),(.c (.i .i64 (xgi (p 1))))],
fun p=>.build [(.i .i64 0),(.i .i64 0)] [(0,1,(.c (.i .i64 (-1)))),(1,1,(.t (p 0)))],
fun p=>.bin .lss (.t (p 0)) (.c (.i .i64 8192)),
fun p=>.call (.fn i_Q113) [(.t (p 0)),(.t (p 1)),(.t (p 2))],
fun p=>.call (.fn i_Q114) [(.t (p 0)),(.t (p 1))],
fun p=>.mv (.c .nf),
fun p=>.mkfn (.func i_Q115) [] [(.t (p 0))],
fun p=>.bin .lss (.t (p 0)) (.c (.i .i64 (-1))),
fun p=>.call (.fn i_Q116) [(.t (p 0))],
fun p=>.call (.fn i_Q117) [(.t (p 0))],
fun p=>.alloc [(.i .i64 0)],
fun p=>.mkfn (.func i_Q121) [] [(.t (p 0)),(.t (p 1))],
fun p=>.call (.fn i_Q120) [(.t (p 0)),(.t (p 1))],
fun p=>.bin .geq (.t (p 0)) (.c (.i .i64 (-1))),
fun p=>.call (.fn i_Q126) [(.t (p 0))],
fun p=>.call (.fn i_Q127) [(.t (p 0))],
fun p=>.call (.fn i_Q128) [(.t (p 0)),(.t (p 1))],
fun p=>.store 1 (.t (p 0)) (.c .ns),
fun p=>.call (.fn i_Q129) [(.t (p 0)),(.c (.i .i64 (xgi (p 1))))],
fun p=>.call (.fn i_Q129) [(.t (p 0)),(.t (p 1))],
fun p=>.slice 2 (.t (p 0)) none (some (.t (p 1))) none,
fun p=>.slice 2 (.t (p 0)) none (some (.t (p 1))) (some (.t (p 2))),
fun p=>.iad 2 (.t (p 0)) (.c (.i .i64 (xgi (p 1))))]
def sh13:List ((Nat→Nat)→O):=[fun p=>.call (.fn i_Q130) [(.t (p 0)),(.t (p 1))],
fun p=>.call (.fn i_Q104) [(.t (p 0)),(.t (p 1))],
fun p=>.appz [(.i .i64 0),(.i .i64 0),(.i .i64 0)] (.t (p 0)) (.t (p 1)),
fun p=>.appz [.ns] (.t (p 0)) (.t (p 1)),
fun p=>.build [(.i .i64 0),(.i .i64 0),(.i .i64 0),(.i .i64 0),(.i .i64 0),(.i .i64 0)] [(3,1,(.c (.i .i64 (xgi (p 0)))))],
fun p=>.build [(.i .i64 0),(.i .i64 0),(.i .i64 0),(.i .i64 0),(.i .i64 0),(.i .i64 0)] [(0,3,(.t (p 0))),(3,1,(.t (p 1)))],
fun p=>.alloc [(.i .i64 0),(.i .i64 0),(.i .i64 0),(.i .i64 0),(.i .i64 0),(.i .i64 0)],
fun p=>.slice 6 (.t (p 0)) none (some (.t (p 1))) none,
fun p=>.call (.fn i_Q132) [(.t (p 0)),(.t (p 1))],
fun p=>.call (.fn i_Q133) [(.t (p 0)),(.t (p 1))],
fun p=>.call (.fn i_Q134) [(.t (p 0))],
fun p=>.call (.fn i_Q110) [(.t (p 0)),(.t (p 1))],
fun p=>.call (.fn i_Q111) [(.t (p 0)),(.t (p 1))],
fun p=>.call (.fn i_Q135) [(.t (p 0))],
fun p=>.call (.fn i_Q136) [(.t (p 0)),(.t (p 1)),(.t (p 2))],
fun p=>.call (.fn i_Q137) [(.t (p 0)),(.t (p 1))],
fun p=>.bin .geq (.t (p 0)) (.c (.i .u8 48)),
fun p=>.bin .leq (.t (p 0)) (.c (.i .u8 57)),
fun p=>.bin .eql (.t (p 0)) (.c (.i .u8 95)),
fun p=>.bin .lss (.t (p 0)) (.c (.i .u8 97)),
fun p=>.bin .gtr (.t (p 0)) (.c (.i .u8 122)),
fun p=>.bin .geq (.t (p 0)) (.c (.i .i64 512)),
fun p=>.bin .gtr (.t (p 0)) (.c (.i .i64 255)),
fun p=>.load 5 true (.t (p 0))]
def sh14:List ((Nat→Nat)→O):=[fun p=>.idx 1 5 false (.t (p 0)) (.t (p 1))]
def shB:Nat→List ((Nat→Nat)→O)
 | 0=>sh0
 | 1=>sh1
 | 2=>sh2
 | 3=>sh3
 | 4=>sh4
 | 5=>sh5
 | 6=>sh6
 | 7=>sh7
 | 8=>sh8
 | 9=>sh9
 | 10=>sh10
 | 11=>sh11
 | 12=>sh12
 | 13=>sh13
 | _=>sh14
def shp (s:Nat) (p:Nat→Nat):O:=xgt (fun _=>.e0) (shB (s / 24)) (s % 24) p
def nps:List Nat:=[1,1,2,1,1,2,2,2,1,0,0,2,2,2,2,1,1,2,2,1,1,1,2,2,2,1,2,2,2,0,2,2,2,2,0,0,2,2,2,2,2,2,2,2,1,1,1,2,2,1,2,2,0,2,2,2,2,2,1,0,1,2,2,2,2,0,2,2,1,2,0,1,3,3,1,2,1,1,2,2,0,2,1,2,3,3,1,1,2,1,2,0,2,1,1,0,1,1,2,2,1,1,2,0,2,1,2,2,0,1,3,2,1,1,0,2,1,1,1,2,2,2,2,0,1,2,3,5,1,4,1,3,3,2,2,2,1,2,2,1,2,3,2,2,1,1,1,2,2,1,1,1,0,1,3,3,1,2,1,1,3,2,2,3,2,2,2,1,0,1,0,1,3,1,2,3,3,3,2,1,0,2,1,1,2,2,3,2,1,1,1,3,2,1,1,2,1,2,0,1,1,1,1,3,5,2,1,2,0,0,4,1,2,2,1,1,1,1,3,1,2,1,1,2,3,2,2,2,2,2,2,2,3,2,1,3,3,1,2,0,1,1,1,3,3,0,1,1,2,3,1,1,1,1,2,2,2,2,2,0,0,2,3,1,2,1,3,1,1,1,1,0,1,1,1,2,3,1,3,4,1,0,1,2,1,1,2,2,2,2,1,1,3,2,0,1,1,1,1,0,2,2,1,1,1,2,1,2,2,2,3,2,2,2,2,2,1,2,0,2,2,2,1,2,2,1,3,2,1,1,1,1,1,1,1,1,2]
abbrev Rs:=List TO×List (Bool×List TO)
abbrev Rc:=Nat→Nat→Nat→Bool→Rs
def xfin (s:Nat) (d:Option Nat) (g:Option (Nat×Bool)) (l:List Nat) (r:Rs):Rs:=(⟨d,shp s (fun i=>xgt 0 l i),g⟩::r.1,r.2)
def xpar (R:Nat) (rc:Nat→List Nat→Rs):Nat→Nat→List Nat→Rs
 | 0,n,l=>rc n l
 | f+1,n,l=>xpar R rc f (n / R) (n % R::l)
def xdst (R s:Nat) (rc:Rc) (g:Option (Nat×Bool)) (gn:Nat) (gb:Bool) (p:Nat):Nat→Nat→Rs
 | 0,n=>xpar R (fun n l=>xfin s (some (p+1)) g l (rc n (p+1) gn gb)) (xgt 0 nps s) n []
 | 1,n=>xpar R (fun m l=>xfin s (some (n % R)) g l (rc m (n % R) gn gb)) (xgt 0 nps s) (n / R) []
 | _+2,n=>xpar R (fun n l=>xfin s none g l (rc n p gn gb)) (xgt 0 nps s) n []
def xgud (R s:Nat) (rc:Rc) (p gn:Nat) (gb:Bool):Nat→Nat→Rs
 | 0,n=>xdst R s rc none gn gb p (n % 3) (n / 3)
 | 1,n=>xdst R s rc (some (n % R,true)) (n % R) true p (n / R % 3) (n / R / 3)
 | 2,n=>xdst R s rc (some (n % R,false)) (n % R) false p (n / R % 3) (n / R / 3)
 | _+3,n=>xdst R s rc (some (gn,gb)) gn gb p (n % 3) (n / 3)
def xseg (b:Bool) (r:Rs):Rs:=([],(b,r.1)::r.2)
def xstp (R:Nat) (rc:Rc) (p gn:Nat) (gb:Bool):Nat→Nat→Rs
 | 0,_=>([],[])
 | 1,n=>xseg true (rc n p gn gb)
 | 2,n=>xseg false (rc n p gn gb)
 | s+3,n=>xgud R s rc p gn gb (n % 4) (n / 4)
def xdec (R:Nat):Nat→Rc
 | 0=>fun _ _ _ _=>([],[])
 | f+1=>fun n p gn gb=>xstp R (xdec R f) p gn gb (n % 340) (n / 340)
def xrad (n:Nat):Nat:=xgt 0 [32,64,128,512] (n % 4)
@[go_sem ↓] def k (n:Nat) {l:List TO} (h:(xdec (xrad n) 400 (n / 4) 511 0 true).1=l:=by conv=>lhs;cbv):List TO:=l
@[go_sem ↓] def kd (n:Nat) {l:List (Bool×List TO)} (h:(xdec (xrad n) 400 (n / 4) 511 0 true).2=l:=by conv=>lhs;cbv):List (Bool×List TO):=l
/-! horarium/horariumlaw11.ReduceTells -/
@[go_sem] def Q0_0:=k 0x193f0
@[go_sem] def Q0_1:=k 0x7010b6b089c9c403124c
@[go_sem] def Q0_2:=k 0x431c37198e89096a998c
@[go_sem] def Q0_3:=k 0x14cc2a1fd32b771603a36eab805b7190c
@[go_sem] def Q0_4:=k 0x2a55a5af1f514fec
@[go_sem] def Q0_5:=k 0xd9800b77980d0f18e2c89ace041a85c
@[go_sem] def Q0_6:=k 0x369b04c9e78d5be54
@[go_sem] def Q0_7:=k 0x7d6a2d69
@[go_sem] def Q0_8:=k 0x20eb1cb6a5d0d
@[go_sem] def Q0_9:=k 0x275a43c1b8e7b65cedb3f5109a47bc1927111220a3ecd5
@[go_sem] def Q0_10:=k 0xa4aa14189e3b21
def Q0_11:TC:=(.seq (.reg Q0_7) (.seq (.cond (.t 32) .skip (.exit 0)) (.seq (.block 1 (.seq (.reg Q0_8) (.reg Q0_9))) (.reg Q0_10))))
@[go_sem] def Q0_12:=k 0x2a8bb2cc668e6acd
@[go_sem] def Q0_13:=k 0xb5ff10b9fcc572a0d
@[go_sem] def Q0_14:=kd 0x1656b74af1c130cb29ddd76977fa6fbac8029447dbca825785aa8bc6c5160ee0f980dccd532c54fc575ece1b8f5aaeb491ea45d4836e0e5370dd4a877d43d7867ca7e407ce0af9a852802b46ec3bb74b7fa32344d48f328c9259a54ff362942fb34140159931c89f9d4829210b830ffaeb7220f70ce4a767a14b784a1015eed32ed7d90224f1e216fef88364d693d876
def t_Q0:TF:=⟨93,[.t 6],(.seq (.reg Q0_0) (.seq (.reg Q0_1) (.seq (.reg Q0_2) (.seq (.reg Q0_3) (.seq (.reg Q0_4) (.seq (.reg Q0_5) (.seq (.seq (.reg Q0_6) (.block 0 (.loop Q0_11))) (.seq (.seq (.reg Q0_12) (.cond (.t 44) (.reg Q0_13) .skip)) (.seq (.dreg Q0_14) .ret)))))))))⟩
/-! (*horarium/horariumkeep.Tape).Config -/
@[go_sem] def Q1_0:=k 0x95d0
@[go_sem] def Q1_1:=k 0xd590
@[go_sem] def Q1_2:=k 0x1dccf829706f561b924520c
@[go_sem] def Q1_3:=k 0x15418
@[go_sem] def Q1_4:=k 0x415a7a357768e94c
@[go_sem] def Q1_5:=k 0x629e09ad04937ba7ce496f0158d1d7b8c05c3fd28b1e50e782a2e8181c2e34106cf5a6d000d
@[go_sem] def Q1_6:=k 0x21b7646a7ed8c0c4d0d
@[go_sem] def Q1_7:=k 0x22ba2b7f05c8d
@[go_sem] def Q1_8:=kd 0x72025447ea0ed934cc0686b4b97905f721eb985814002a31e92fca3eb7ee8d723687129159332c56ef5d53e92b172e095
@[go_sem] def Q1_9:=k 0x25ab706a72e3454dc0d
def Q1_10:TC:=(.seq (.seq (.reg Q1_7) (.cond (.t 36) .skip (.exit 2))) (.seq (.block 3 (.dreg Q1_8)) (.reg Q1_9)))
@[go_sem] def Q1_11:=k 0xc88d9
@[go_sem] def Q1_12:=k 0xc79478d5
@[go_sem] def Q1_13:=k 0x33b947bdde84d
@[go_sem] def Q1_14:=k 0xeb3bb948e3a6b328c13a8a56ac7d15861a68be7be12e2102d990c80d
@[go_sem] def Q1_15:=k 0xf5380594573621
def Q1_16:TC:=(.seq (.reg Q1_12) (.seq (.cond (.t 51) .skip (.exit 4)) (.seq (.block 5 (.seq (.reg Q1_13) (.reg Q1_14))) (.reg Q1_15))))
@[go_sem] def Q1_17:=k 0x20d919f5567f2d473457f0fbde2d6613bfee06f25d6
@[go_sem] def Q1_18:=k 0x9f7346f84ce34a88c
def Q1_19:TC:=(.seq (.seq (.reg Q1_4) (.cond (.t 18) .skip (.exit 0))) (.seq (.block 1 (.seq (.reg Q1_5) (.seq (.seq (.reg Q1_6) (.block 2 (.loop Q1_10))) (.seq (.seq (.reg Q1_11) (.block 4 (.loop Q1_16))) (.reg Q1_17))))) (.reg Q1_18)))
@[go_sem] def Q1_20:=k 0x8888841b70dbf221044e
@[go_sem] def Q1_21:=k 0x46e4c43100411b2ed5b842fa861ee4af8063ce
@[go_sem] def Q1_22:=k 0x4ed637ae4b502eba333e381ce
@[go_sem] def Q1_23:=kd 0x6697a892583d084bf61b5a7bacc005ec62478e02e2374dc8b2c30f653a2b0c20186a8be2ef7705cf701775b9bbf017dd0c3a50a97fd3a5e50543feee21219098c333f1b902f918f957c98dca754b784da0b45ec6c86e8a7d63f6
@[go_sem] def Q1_24:=k 0x319c5201579c56
@[go_sem] def Q1_25:=k 0xcf88bfd77272999f8efe70f2ef1297bce
@[go_sem] def Q1_26:=k 0x366bb48c77f40b42c73ac47e9cfe8747654f06a1ad6
@[go_sem] def Q1_27:=k 0x9858b40f65e590a1e24e
def Q1_28:TC:=(.seq (.seq (.reg Q1_21) (.cond (.t 75) .skip (.exit 6))) (.seq (.block 7 (.seq (.reg Q1_22) (.seq (.dreg Q1_23) (.seq (.seq (.reg Q1_24) (.cond (.t 101) (.reg Q1_25) .skip)) (.reg Q1_26))))) (.reg Q1_27)))
@[go_sem] def Q1_29:=k 0xdf8d67fd36f5f02bf94e
@[go_sem] def Q1_30:=k 0x388e3b1f7af8ce
@[go_sem] def Q1_31:=kd 0xa635ba3debd9972583ce1dde189ab44db914f569b77fe99c70394888354ccbbde7ba3a596
@[go_sem] def Q1_32:=k 0xe7757ff731f9910b784e
def Q1_33:TC:=(.seq (.seq (.reg Q1_30) (.cond (.t 115) .skip (.exit 8))) (.seq (.block 9 (.dreg Q1_31)) (.reg Q1_32)))
@[go_sem] def Q1_34:=k 0x23762b737c2c9cb4cab251f75cf
def t_Q1:TF:=⟨129,[.cell 2 3 true],(.seq (.reg Q1_0) (.seq (.reg Q1_1) (.seq (.reg Q1_2) (.seq (.seq (.reg Q1_3) (.block 0 (.loop Q1_19))) (.seq (.seq (.reg Q1_20) (.block 6 (.loop Q1_28))) (.seq (.seq (.reg Q1_29) (.block 8 (.loop Q1_33))) (.seq (.reg Q1_34) .ret)))))))⟩
/-! horarium/reduce.Table -/
@[go_sem] def Q2_0:=k 0xbe3d8c93e39508
@[go_sem] def Q2_1:=k 0x108a997f3d1f935e91399ef637401f1289cc
@[go_sem] def Q2_2:=k 0x23b8333550cc
@[go_sem] def Q2_3:=k 0x15ea270439fed95582006c
@[go_sem] def Q2_4:=k 0x2da452218f8c
@[go_sem] def Q2_5:=k 0x19b0b3db6a82d026e49f238a8
@[go_sem] def Q2_6:=k 0x7c0ebd4064903d5c15863777e0b3729ac4463ddaee6d
@[go_sem] def Q2_7:=k 0x871cd269d1d6fbd0d
@[go_sem] def Q2_8:=k 0xc1d8e56f60ffd09a12d9fa668aec7c31f4f5a70adc7d835fe8e3877fedc2c8d
@[go_sem] def Q2_9:=k 0xc3824cb5448ee4f35ead01c6205a3ccb47a0692083808d7de9a0d
@[go_sem] def Q2_10:=k 0xde15da690c7d1b78d
@[go_sem] def Q2_11:=k 0xc08658a003f64931233e7a61afadd3cf5a83d285a71d0158297d670e
@[go_sem] def Q2_12:=kd 0x746c73318519d8ddf5170efd6c7db9cdef6
def t_Q2:TF:=⟨68,[.t 4,.cell 5 6 true,.t 6],(.seq (.reg Q2_0) (.seq (.reg Q2_1) (.seq (.seq (.reg Q2_2) (.cond (.t 19) (.reg Q2_3) .skip)) (.seq (.seq (.reg Q2_4) (.cond (.t 24) (.seq (.reg Q2_5) .ret) .skip)) (.seq (.reg Q2_6) (.seq (.reg Q2_7) (.seq (.reg Q2_8) (.seq (.seq (.reg Q2_9) (.cond (.t 54) (.seq (.reg Q2_10) (.reg Q2_11)) .skip)) (.seq (.dreg Q2_12) .ret)))))))))⟩
/-! horarium/horariumref3.Of -/
@[go_sem] def Q3_0:=k 0x3064f4
@[go_sem] def Q3_1:=k 0x1c356682408693cc
@[go_sem] def Q3_2:=k 0xfe033fdf34c
@[go_sem] def Q3_3:=k 0x13c49d7dde572cc
@[go_sem] def Q3_4:=k 0x67b283b365cea5d6d28c
@[go_sem] def Q3_5:=k 0x1db6e69720469cc
@[go_sem] def Q3_6:=k 0x17d31e4f4
@[go_sem] def Q3_7:=k 0x19ee2aff9290c
def t_Q3:TF:=⟨18,[.t 2,.t 3],(.seq (.reg Q3_0) (.seq (.seq (.reg Q3_1) (.seq (.reg Q3_2) (.cond (.t 9) (.seq (.reg Q3_3) .ret) .skip))) (.seq (.reg Q3_4) (.seq (.seq (.reg Q3_5) (.cond (.t 16) (.seq (.reg Q3_6) .ret) .skip)) (.seq (.reg Q3_7) .ret)))))⟩
/-! horarium/horariumref3.Total -/
@[go_sem] def Q4_0:=k 0x94d8
@[go_sem] def Q4_1:=k 0xd498
@[go_sem] def Q4_2:=k 0xc47535a93cc
@[go_sem] def Q4_3:=k 0x8321b28
@[go_sem] def Q4_4:=k 0x5480f02da922396bc5304
@[go_sem] def Q4_5:=k 0x3b3ef5d111f9a7de8186765fa4c
@[go_sem] def Q4_6:=k 0x4088dcda40960
def Q4_7:TC:=(.seq (.reg Q4_3) (.seq (.cond (.t 9) .skip (.exit 0)) (.seq (.block 1 (.seq (.reg Q4_4) (.reg Q4_5))) (.reg Q4_6))))
@[go_sem] def Q4_8:=k 0x21e12fe9390c
def t_Q4:TF:=⟨18,[.t 2],(.seq (.reg Q4_0) (.seq (.reg Q4_1) (.seq (.seq (.reg Q4_2) (.block 0 (.loop Q4_7))) (.seq (.reg Q4_8) .ret))))⟩
/-! horarium/horariumref7.Holds -/
@[go_sem] def Q5_0:=k 0x44d0ea9508
@[go_sem] def Q5_1:=k 0x32287512e549182d4
@[go_sem] def Q5_2:=k 0xd5631e8
@[go_sem] def Q5_3:=k 0x66b786ac1791863606a24
@[go_sem] def Q5_4:=k 0x56838613ae9600e2576842337283984567490c
@[go_sem] def Q5_5:=k 0x19371257619545e57b9882026217c5f0516a64b4386637e1c2d856e8abf61f1f159180516f95
@[go_sem] def Q5_6:=k 0x987c58
@[go_sem] def Q5_7:=k 0x8fb43eb0e4fc61
def Q5_8:TC:=(.seq (.reg Q5_2) (.seq (.cond (.t 14) .skip (.exit 0)) (.seq (.block 1 (.seq (.reg Q5_3) (.seq (.reg Q5_4) (.seq (.reg Q5_5) (.cond (.t 35) (.seq (.reg Q5_6) .ret) .skip))))) (.reg Q5_7))))
@[go_sem] def Q5_9:=k 0x6844da2a024c292c15
@[go_sem] def Q5_10:=k 0xa1d7db29
@[go_sem] def Q5_11:=k 0x97920226814b1b2072ffb338b1fd40acd
@[go_sem] def Q5_12:=kd 0xf6c49bc949f08564bcb85e040af68d5ac13d8c2bf1bab3b84e44d06fb9539dc4fffd082f2295
@[go_sem] def Q5_13:=k 0xa07458
@[go_sem] def Q5_14:=k 0xe8b138cc7e76e1
def Q5_15:TC:=(.seq (.reg Q5_10) (.seq (.cond (.t 41) .skip (.exit 2)) (.seq (.block 3 (.seq (.reg Q5_11) (.seq (.dreg Q5_12) (.cond (.t 57) (.seq (.reg Q5_13) .ret) .skip)))) (.reg Q5_14))))
@[go_sem] def Q5_16:=k 0x11458
def t_Q5:TF:=⟨59,[.t 4],(.seq (.reg Q5_0) (.seq (.seq (.reg Q5_1) (.block 0 (.loop Q5_8))) (.seq (.seq (.reg Q5_9) (.block 2 (.loop Q5_15))) (.seq (.reg Q5_16) .ret))))⟩
/-! horarium/horariumref7.Same -/
@[go_sem] def Q6_0:=k 0x193f0
@[go_sem] def Q6_1:=k 0x412347ea90da60f80ce8b1eff5a6f2c13e367c2264c028fa90fd28c
@[go_sem] def Q6_2:=k 0x4be537cfbf5448cc
def t_Q6:TF:=⟨20,[.t 6],(.seq (.reg Q6_0) (.seq (.reg Q6_1) (.seq (.reg Q6_2) .ret)))⟩
/-! horarium/horariumref7.Depends -/
@[go_sem] def Q7_0:=k 0xcf35548
@[go_sem] def Q7_1:=k 0x15c72b259b49c6193e4f8a0b54
@[go_sem] def Q7_2:=k 0xca693d3fa4c
@[go_sem] def Q7_3:=k 0xe5d69a8
@[go_sem] def Q7_4:=k 0x2004ee60a14c
@[go_sem] def Q7_5:=k 0xcf5f425390c
@[go_sem] def Q7_6:=k 0x13818068
@[go_sem] def Q7_7:=k 0x2a00d899b80c
@[go_sem] def Q7_8:=kd 0x13e91c37370c497b21b55dd70f1ab7216d61494f02e5d6861b5c2e63cb2e2e93198d59cbdd93dfeb313bb0d3d855a9deb5296f0f2595e71baa5b5a12ed838ca242d77b305cc9cc951c0c976b77e2317af33af5
@[go_sem] def Q7_9:=k 0xcb9bbb28d0b8a1
def Q7_10:TC:=(.seq (.reg Q7_6) (.seq (.cond (.t 20) .skip (.exit 2)) (.seq (.block 3 (.seq (.reg Q7_7) (.dreg Q7_8))) (.reg Q7_9))))
@[go_sem] def Q7_11:=k 0xcf445ec4e4f861
def Q7_12:TC:=(.seq (.reg Q7_3) (.seq (.cond (.t 15) .skip (.exit 0)) (.seq (.block 1 (.seq (.reg Q7_4) (.seq (.reg Q7_5) (.block 2 (.loop Q7_10))))) (.reg Q7_11))))
@[go_sem] def Q7_13:=k 0x6c38e7240350193815
@[go_sem] def Q7_14:=k 0xe29ad729
@[go_sem] def Q7_15:=k 0x1f3ca095adef5984ab30765
@[go_sem] def Q7_16:=k 0xf837ac0b237b8e1c7f8eacf830d415d46117024dedc11e8913f256dee66e
@[go_sem] def Q7_17:=kd 0x3ddf94b2c8da1574d17ac8955a575df90f39b76585c993702ae3ae76ca8ce7cfe4659bf38afb93a5d534d469bba7d4e777654f4f95ddbb8038af6
@[go_sem] def Q7_18:=k 0x1571080ce4b55fe2
def Q7_19:TC:=(.seq (.reg Q7_14) (.seq (.cond (.t 57) .skip (.exit 4)) (.seq (.block 5 (.seq (.reg Q7_15) (.seq (.reg Q7_16) (.cond (.t 69) (.dreg Q7_17) .skip)))) (.reg Q7_18))))
@[go_sem] def Q7_20:=k 0x2b2b7c5d455f8e
def t_Q7:TF:=⟨88,[.t 2],(.seq (.reg Q7_0) (.seq (.reg Q7_1) (.seq (.seq (.reg Q7_2) (.block 0 (.loop Q7_12))) (.seq (.seq (.reg Q7_13) (.block 4 (.loop Q7_19))) (.seq (.reg Q7_20) .ret)))))⟩
/-! horarium/horariumref3.Ticks -/
@[go_sem] def Q8_0:=k 0x11458
@[go_sem] def Q8_1:=k 0x15418
@[go_sem] def Q8_2:=k 0xc67137b134c
@[go_sem] def Q8_3:=k 0xa408aa8
@[go_sem] def Q8_4:=k 0x74fdb6284be139ccac284
@[go_sem] def Q8_5:=k 0x24056c682663a15bdbd1ef2b01f623d73315d5c55bbb59d4
@[go_sem] def Q8_6:=k 0x66a36f4a1d4e4a5c40c2798a78c
@[go_sem] def Q8_7:=k 0x6c70893a4c6a0
def Q8_8:TC:=(.seq (.reg Q8_3) (.seq (.cond (.t 11) .skip (.exit 0)) (.seq (.block 1 (.seq (.reg Q8_4) (.seq (.reg Q8_5) (.cond (.t 22) (.reg Q8_6) .skip)))) (.reg Q8_7))))
@[go_sem] def Q8_9:=k 0x37d5061be64c
def t_Q8:TF:=⟨29,[.t 4],(.seq (.reg Q8_0) (.seq (.reg Q8_1) (.seq (.seq (.reg Q8_2) (.block 0 (.loop Q8_8))) (.seq (.reg Q8_9) .ret))))⟩
/-! horarium/horariumref3.Nodes -/
@[go_sem] def Q9_0:=k 0x11470
@[go_sem] def Q9_1:=k 0x723f5d157870d4972d5a93cc
@[go_sem] def Q9_2:=k 0x11470
@[go_sem] def Q9_3:=k 0xc96b3abd28c
@[go_sem] def Q9_4:=k 0xd5631e8
@[go_sem] def Q9_5:=k 0x1e18cc68698c
@[go_sem] def Q9_6:=kd 0x6522adff41c1392c6934b28bb6e17e42ba695a6faaf8f4
@[go_sem] def Q9_7:=k 0x11470
@[go_sem] def Q9_8:=k 0x64dfc1ca14720
def Q9_9:TC:=(.seq (.reg Q9_4) (.seq (.cond (.t 14) .skip (.exit 0)) (.seq (.block 1 (.seq (.reg Q9_5) (.seq (.dreg Q9_6) (.cond (.t 24) (.seq (.reg Q9_7) .ret) .skip)))) (.reg Q9_8))))
@[go_sem] def Q9_10:=k 0x114d4
def t_Q9:TF:=⟨26,[.t 4],(.seq (.reg Q9_0) (.seq (.seq (.reg Q9_1) (.cond (.t 10) (.seq (.reg Q9_2) .ret) .skip)) (.seq (.seq (.reg Q9_3) (.block 0 (.loop Q9_9))) (.seq (.reg Q9_10) .ret))))⟩
/-! horarium/horariumref7.Stuck -/
@[go_sem] def Q10_0:=k 0x44d6e49508
@[go_sem] def Q10_1:=k 0x2e8606179079bb5ca727393c0aa21bc776f1f036c
@[go_sem] def Q10_2:=k 0x37e1bad49eeb220c
def t_Q10:TF:=⟨15,[.t 4],(.seq (.reg Q10_0) (.seq (.reg Q10_1) (.seq (.reg Q10_2) .ret)))⟩
/-! horarium/horariumlaw11.known -/
@[go_sem] def Q11_0:=k 0x1570
@[go_sem] def Q11_1:=k 0x1777cb39e73450211853c
@[go_sem] def Q11_2:=k 0x86fd3c712fb0aeaf4
@[go_sem] def Q11_3:=k 0xb92fc477cd6768c524745ecf03ba9176f8df364fe3a5e3aa5729c8ac
@[go_sem] def Q11_4:=k 0x3a32aa658e4fd60b759bbf97d88578a2008c66eac4d27cd86ec
@[go_sem] def Q11_5:=k 0x217befa73e855f9ce8cc9ce950fbfad
@[go_sem] def Q11_6:=k 0x9b123e15a8d818b977fe4139f2d55690dabd3e4cfc6d
@[go_sem] def Q11_7:=k 0xb254deba79764eee18fb438b806ec18b77194e4e7aed
@[go_sem] def Q11_8:=k 0xa7e51d63860c502df0872935308589fd356a09164bd16a83329474db1cb11be01b6728ac90df5b870a254387f570040497b92dad6d4110f44db7f9ebca99a78772a2be67175343db2d8f171b5de70c17d32428a19cabcef469bd01a00b1591fffa141b6a4e1ec60468af10d6278fca03feac6d61549c80ad2e181e9952977a9e7bff65953b7c6fb2dea2a3b9b63e4a13cd375c9f76ea666254558e78d977041c42bfb99c396f804669b9c7294394bd1c711d86fbb298e
def t_Q11:TF:=⟨108,[.t 0],(.seq (.reg Q11_0) (.seq (.reg Q11_1) (.seq (.reg Q11_2) (.seq (.reg Q11_3) (.seq (.reg Q11_4) (.seq (.reg Q11_5) (.seq (.reg Q11_6) (.seq (.reg Q11_7) (.seq (.reg Q11_8) .ret)))))))))⟩
/-! (*horarium/horariumkeep.Tape).Runs -/
@[go_sem] def Q12_0:=k 0x193f4
@[go_sem] def Q12_1:=k 0x1d3b4
@[go_sem] def Q12_2:=k 0x301763d3da7f62676a30f1f530c
@[go_sem] def Q12_3:=k 0x19cc3528120c
@[go_sem] def Q12_4:=k 0xd6a162b9dd85329735e9f1f6b05d761614435753db386374d7d71e59e73e939190c
@[go_sem] def Q12_5:=k 0x8090a8d88d73a918c
def Q12_6:TC:=(.seq (.seq (.reg Q12_3) (.cond (.t 14) .skip (.exit 0))) (.seq (.block 1 (.reg Q12_4)) (.reg Q12_5)))
@[go_sem] def Q12_7:=k 0x39f0c84c160c
def t_Q12:TF:=⟨30,[.t 6],(.seq (.reg Q12_0) (.seq (.reg Q12_1) (.seq (.seq (.reg Q12_2) (.block 0 (.loop Q12_6))) (.seq (.reg Q12_7) .ret))))⟩
/-! horarium/horariumlaw11.same -/
@[go_sem] def Q13_0:=k 0x44d6e49508
@[go_sem] def Q13_1:=k 0x554a70d81952f94b931ce049ff5b0f1ba592180ec
@[go_sem] def Q13_2:=k 0x6c8d176ac13dc2d1e7f68aebf896d6f59dd22ff6c
@[go_sem] def Q13_3:=k 0x83cf9d74bc8d5710831d3ae8653beb9a54294c5b6ded
@[go_sem] def Q13_4:=k 0x97c99796f826209ab2d3060af74e81f758fc4d
@[go_sem] def Q13_5:=k 0xae746ea431cb369f8e4bbdd33e2a85122763cc5e2b2d
@[go_sem] def Q13_6:=k 0xc5b70f4902696cd42f48c024cbc3f001e994ec5fa9ad
@[go_sem] def Q13_7:=kd 0x1ce35738971a41210521399133b14439fd78bcfa77e0ae68837e2617ecac0152fb16a47c20e4cd07683ab1ba2bc91e3dbb60e6c58cfee1141392e20a5da5bcf6e916c34bf719c95497b199b73a2b7cee9240e5f310a35491ce97a0ee72c237203e0123b97df9bee30d02f21eff618f75f53edaf62ce34408a70c2f02341e11257af4c37c3cb8ecf595c2097a2319381e6517b6ceac6aa499e0cad772d85cdbc99e1268784817ea804ca1f5111b13a84f6
def t_Q13:TF:=⟨111,[.t 4],(.seq (.reg Q13_0) (.seq (.reg Q13_1) (.seq (.reg Q13_2) (.seq (.reg Q13_3) (.seq (.reg Q13_4) (.seq (.reg Q13_5) (.seq (.reg Q13_6) (.seq (.dreg Q13_7) .ret))))))))⟩
/-! horarium/horariumlaw11.passes -/
@[go_sem] def Q14_0:=k 0x44d6e49508
@[go_sem] def Q14_1:=k 0xe0e6537b7c
@[go_sem] def Q14_2:=k 0x1774ef3525b4279273fe0960a5bf8c1331b006373e686ab87429ed98e4295304f5e3014a98c
@[go_sem] def Q14_3:=k 0x11470
@[go_sem] def Q14_4:=kd 0x3057d8a7531ae33fc18b2ffcfc7badcb9a9506ce30a021ee576d3862012bdf5
@[go_sem] def Q14_5:=k 0xa75ae945a9d7a7e7d6d116fcf25a7bf859fb4d
@[go_sem] def Q14_6:=kd 0x422747e8a07318e791c2803aa0dca116ec150d04f349037028bb005f9b417f5
@[go_sem] def Q14_7:=k 0xe0da1ff48964e928aa85582e9ba197793ccdec6167ed
@[go_sem] def Q14_8:=k 0x4695b4d9688dbf72d545d5276a096ec8cc8019f0ff91ebd7c175c542cb18c1cdf6d1459ae7d3b9c8bc3ad7d3426977e622e27a30389e068e
def t_Q14:TF:=⟨77,[.t 4],(.seq (.reg Q14_0) (.seq (.reg Q14_1) (.seq (.seq (.reg Q14_2) (.cond (.t 29) (.seq (.reg Q14_3) .ret) .skip)) (.seq (.dreg Q14_4) (.seq (.reg Q14_5) (.seq (.dreg Q14_6) (.seq (.reg Q14_7) (.seq (.reg Q14_8) .ret))))))))⟩
/-! horarium/horariumlaw11.table -/
@[go_sem] def Q15_0:=k 0x44d6e49508
@[go_sem] def Q15_1:=k 0x84067bacf613a472c312dac7e85da2628b7a1a8061f4f5175720026c
@[go_sem] def Q15_2:=k 0xba624905037dbe9b488faca8cb5c5d1302df364fe3a69a2b2f21c0ac
@[go_sem] def Q15_3:=k 0x8c5d72162acd1150d15ef5e546baa7e514c0b209c1156e486a88c46dc9bb2dcb8b7cafe49ff0d
def t_Q15:TF:=⟨38,[.t 4],(.seq (.reg Q15_0) (.seq (.reg Q15_1) (.seq (.reg Q15_2) (.seq (.reg Q15_3) .ret))))⟩
/-! (*horarium/horariumkeep.Tape).Table -/
@[go_sem] def Q16_0:=k 0x193f4
@[go_sem] def Q16_1:=k 0x60b107bfc1553d28c
@[go_sem] def Q16_2:=k 0xf2bbede97971abb48c5fd2a4cf0e420c
@[go_sem] def Q16_3:=k 0x25b4352d988c
@[go_sem] def Q16_4:=k 0x189cf482ed782bce1988c0521c926500c
@[go_sem] def Q16_5:=k 0x1ff40ef25ad81bef83ae408db3df6cd689c9ef96f1e8ec3a8ecd
@[go_sem] def Q16_6:=k 0x21c415cbc1ccd
@[go_sem] def Q16_7:=k 0xafef85dc2af9cb9b742adcd1d405d9e76fc248a592b4f952104dea0823e13c4d0c4d
@[go_sem] def Q16_8:=k 0x305df6c328de910016c8fc98d
@[go_sem] def Q16_9:=k 0xcd57e3ff2ecb80c202808cd
@[go_sem] def Q16_10:=k 0x292d8
@[go_sem] def Q16_11:=k 0xd4dc6f546aea0a80d
@[go_sem] def Q16_12:=k 0x7c3213b207e2dcda779c66d8a6580d58f632e08f9b0fd66ce
@[go_sem] def Q16_13:=k 0x387e858e40f20cd674d
def Q16_14:TC:=(.seq (.seq (.reg Q16_11) (.cond (.t 55) .skip (.exit 0))) (.seq (.block 1 (.reg Q16_12)) (.reg Q16_13)))
@[go_sem] def Q16_15:=k 0x20456961ff250e
def t_Q16:TF:=⟨66,[.t 6],(.seq (.reg Q16_0) (.seq (.reg Q16_1) (.seq (.seq (.reg Q16_2) (.cond (.t 18) (.seq (.seq (.reg Q16_3) (.cond (.t 20) (.seq (.reg Q16_4) .ret) .skip)) (.seq (.reg Q16_5) .ret)) .skip)) (.seq (.seq (.reg Q16_6) (.cond (.t 35) (.seq (.reg Q16_7) .ret) .skip)) (.seq (.reg Q16_8) (.seq (.reg Q16_9) (.seq (.seq (.reg Q16_10) (.block 0 (.loop Q16_14))) (.seq (.reg Q16_15) .ret))))))))⟩
/-! horarium/reduce.Draw -/
@[go_sem] def Q17_0:=k 0x1814efe39508
@[go_sem] def Q17_1:=k 0x4dd81fe2ddda76ee70744fac08bb1e8bcc
def t_Q17:TF:=⟨11,[.t 4,.t 5],(.seq (.reg Q17_0) (.seq (.reg Q17_1) .ret))⟩
/-! horarium/reduce.Stuck -/
@[go_sem] def Q18_0:=k 0x17e009fe9508
@[go_sem] def Q18_1:=kd 0x39555d69164852e3516337ecfc4b92417074167c544
def t_Q18:TF:=⟨12,[.t 4],(.seq (.reg Q18_0) (.seq (.dreg Q18_1) .ret))⟩
/-! horarium/horariumref3.Same -/
@[go_sem] def Q19_0:=k 0x11470
@[go_sem] def Q19_1:=k 0x723f5d157870d4972d5a93cc
@[go_sem] def Q19_2:=k 0x11470
@[go_sem] def Q19_3:=k 0xc96b3abd28c
@[go_sem] def Q19_4:=k 0xd5631e8
@[go_sem] def Q19_5:=k 0x1e18cc68698c
@[go_sem] def Q19_6:=kd 0x6522c52aafe4c836d900bbae612ce6866d7efa8faaf8f4
@[go_sem] def Q19_7:=k 0x11470
@[go_sem] def Q19_8:=k 0x64dfc1ca14720
def Q19_9:TC:=(.seq (.reg Q19_4) (.seq (.cond (.t 14) .skip (.exit 0)) (.seq (.block 1 (.seq (.reg Q19_5) (.seq (.dreg Q19_6) (.cond (.t 24) (.seq (.reg Q19_7) .ret) .skip)))) (.reg Q19_8))))
@[go_sem] def Q19_10:=k 0x114d4
def t_Q19:TF:=⟨26,[.t 4],(.seq (.reg Q19_0) (.seq (.seq (.reg Q19_1) (.cond (.t 10) (.seq (.reg Q19_2) .ret) .skip)) (.seq (.seq (.reg Q19_3) (.block 0 (.loop Q19_9))) (.seq (.reg Q19_10) .ret))))⟩
/-! horarium/reduce.Valid -/
@[go_sem] def Q20_0:=k 0x649704d4c8
@[go_sem] def Q20_1:=k 0x9f4a1d3699f1348d5467ef539bd94e4967cc0770f9d8a77f08ca2d1adb56ae9862ad07bef7926cb8c
def t_Q20:TF:=⟨22,[.t 6],(.seq (.reg Q20_0) (.seq (.reg Q20_1) .ret))⟩
/-! horarium/horariumbook.Within -/
@[go_sem] def Q21_0:=k 0x193d8
@[go_sem] def Q21_1:=k 0x285796a506321eac2765abd9be18580ab470ed38c
@[go_sem] def Q21_2:=k 0x1e28ac10d18c
@[go_sem] def Q21_3:=k 0x28e2a0271811353b131e108c05a3ba921114c
@[go_sem] def Q21_4:=k 0x2ba840f08fcc
@[go_sem] def Q21_5:=k 0x3873ee5267c84693d49238fda774ccb230f4c
@[go_sem] def Q21_6:=k 0x7e66c3ce77be2e24c0b7dcd
def t_Q21:TF:=⟨33,[.t 6],(.seq (.reg Q21_0) (.seq (.seq (.reg Q21_1) (.cond (.t 14) (.seq (.reg Q21_2) .ret) .skip)) (.seq (.reg Q21_3) (.seq (.seq (.reg Q21_4) (.cond (.t 23) (.reg Q21_5) .skip)) (.seq (.reg Q21_6) .ret)))))⟩
/-! (*horarium/horariumkeep.Tape).Next -/
@[go_sem] def Q22_0:=k 0x11458
@[go_sem] def Q22_1:=kd 0x4e1c61edb92f74dfc1289e64e9fc708e2ba3ce8fb922414aec9a1ef7eef35b356c79ff4
@[go_sem] def Q22_2:=k 0x11458
@[go_sem] def Q22_3:=k 0x63c909c9e14f3d96301a1805931cb44933e21d08c
@[go_sem] def Q22_4:=kd 0xc3b69873fd1ec44b783c4418e4b641d490a13f913feafb6bae77d8cff6058d88f9d4246d3775c5a6f5
def t_Q22:TF:=⟨40,[.t 4],(.seq (.reg Q22_0) (.seq (.seq (.dreg Q22_1) (.cond (.t 18) (.seq (.reg Q22_2) .ret) .skip)) (.seq (.reg Q22_3) (.seq (.dreg Q22_4) .ret))))⟩
/-! (*horarium/horariumkeep.Tape).frame -/
@[go_sem] def Q23_0:=k 0x11474
@[go_sem] def Q23_1:=k 0x14047ce749fb968650f134c
@[go_sem] def Q23_2:=k 0xe986ec7001dda00c855430cce682090ea4c
@[go_sem] def Q23_3:=k 0x16b8566c75fb0f25e6c7280544372988c777a2bfb63cde85b047d0417d94c
@[go_sem] def Q23_4:=k 0x8411f7f02c76d7b14b36117e65ffbe74359bc647cf091aeff5
@[go_sem] def Q23_5:=k 0x22cb5680c7c8d
def t_Q23:TF:=⟨36,[.t 4],(.seq (.reg Q23_0) (.seq (.reg Q23_1) (.seq (.seq (.reg Q23_2) (.seq (.reg Q23_3) (.cond (.t 27) (.seq (.reg Q23_4) .ret) .skip))) (.seq (.reg Q23_5) .ret))))⟩
/-! (*horarium/horariumkeep.Tape).asks -/
@[go_sem] def Q24_0:=k 0x43c4ccc8
@[go_sem] def Q24_1:=k 0x15434
@[go_sem] def Q24_2:=k 0x351f7f8ce6d9b77d4
@[go_sem] def Q24_3:=k 0x19accee8
@[go_sem] def Q24_4:=k 0xdf328934d8d3706c0
@[go_sem] def Q24_5:=k 0x806f9cf39fdc2be5b0b7ec9ffebc8a9e8f1dcd
@[go_sem] def Q24_6:=k 0x245d5cecef0699dd38bcde4c3ccd
@[go_sem] def Q24_7:=k 0x9862c7a0b57be1
def Q24_8:TC:=(.seq (.reg Q24_3) (.seq (.cond (.t 26) .skip (.exit 0)) (.seq (.block 1 (.seq (.reg Q24_4) (.seq (.reg Q24_5) (.reg Q24_6)))) (.reg Q24_7))))
@[go_sem] def Q24_9:=k 0x68c35bc94270359b95
@[go_sem] def Q24_10:=k 0xa9f03aa9
@[go_sem] def Q24_11:=k 0x2bd12fbdc6a4d
@[go_sem] def Q24_12:=k 0x2d298
@[go_sem] def Q24_13:=k 0x6a6a077efa0d
@[go_sem] def Q24_14:=k 0xbe2d2969
@[go_sem] def Q24_15:=k 0x319f4cb23f3c2455941
@[go_sem] def Q24_16:=kd 0x1412cbc92ab0203e24be3498ba517d4e07f1b68c2a368dacb296781077b07858fcd8c960e54496b9b5220911d9f6
@[go_sem] def Q24_17:=k 0x41f8b59b28b8edefe5f59070bfb7e1d07e850e
@[go_sem] def Q24_18:=k 0x2d318
@[go_sem] def Q24_19:=k 0x47f405d47e174ecc5bf40638e
@[go_sem] def Q24_20:=k 0x12728e07d54262e2
def Q24_21:TC:=(.seq (.reg Q24_14) (.seq (.cond (.t 48) .skip (.exit 4)) (.seq (.block 5 (.seq (.reg Q24_15) (.seq (.dreg Q24_16) (.seq (.reg Q24_17) (.cond (.t 70) (.reg Q24_18) (.reg Q24_19)))))) (.reg Q24_20))))
@[go_sem] def Q24_22:=k 0x12e1bd2e9485182262bbe974bf9b5a9a485e72fc1628e
@[go_sem] def Q24_23:=kd 0x881cfe8214311ca6e4f3df48d16330a36590c8fa8aca6a89527089f25250f7a5e5bf53e144fb9996
@[go_sem] def Q24_24:=k 0x16e717850596de62
def Q24_25:TC:=(.seq (.reg Q24_10) (.seq (.cond (.t 43) .skip (.exit 2)) (.seq (.block 3 (.seq (.reg Q24_11) (.seq (.reg Q24_12) (.seq (.seq (.reg Q24_13) (.block 4 (.loop Q24_21))) (.seq (.reg Q24_22) (.cond (.t 81) (.dreg Q24_23) .skip)))))) (.reg Q24_24))))
@[go_sem] def Q24_26:=k 0x2f20e79f49d395d04aac321d169e0e
@[go_sem] def Q24_27:=k 0x30cb3ccbb8433a6a82c71283d0e
@[go_sem] def Q24_28:=k 0x319d31b166fc4e
@[go_sem] def Q24_29:=k 0x685a7c4cb5d1008b641c81b4e
@[go_sem] def Q24_30:=k 0x6c68c379b9c9223f0c1c91a4e
@[go_sem] def Q24_31:=k 0xcbd8fc3c2ff291877bce
def Q24_32:TC:=(.seq (.seq (.reg Q24_28) (.cond (.t 101) .skip (.exit 6))) (.seq (.block 7 (.seq (.reg Q24_29) (.cond (.t 107) (.seq (.reg Q24_30) (.exit 6)) .skip))) (.reg Q24_31)))
@[go_sem] def Q24_33:=k 0xd96eb25d317607b5996
@[go_sem] def Q24_34:=k 0x7270e98aa
@[go_sem] def Q24_35:=k 0x399d6cfa1eb84e
@[go_sem] def Q24_36:=k 0x49488
@[go_sem] def Q24_37:=k 0x36e19e54c980e
@[go_sem] def Q24_38:=k 0x7775f376a
@[go_sem] def Q24_39:=k 0xf1773e4f8c23b79f5742
@[go_sem] def Q24_40:=k 0xf926b3d411c268a37f40637e6780f0c2427a5be44615b68f
@[go_sem] def Q24_41:=k 0x200e6d2ab0899fb523
def Q24_42:TC:=(.seq (.reg Q24_38) (.seq (.cond (.t 120) .skip (.exit 10)) (.seq (.block 11 (.seq (.reg Q24_39) (.reg Q24_40))) (.reg Q24_41))))
@[go_sem] def Q24_43:=k 0x202c1bd3abe9ad4c0df0d857758e313a6163894505aee1774cf
@[go_sem] def Q24_44:=kd 0x603b75a58c1dbb739b1f41e95a52a716d74bc0f127693e2a86dc7d2e358ca438b64d53ae969860f9d980d118036a118e327ec22e7c3877b338d9f9429cd0e330c18fe14e68c5b0a525462296dd697
@[go_sem] def Q24_45:=k 0x2601d46a0b8ea5af23
def Q24_46:TC:=(.seq (.reg Q24_34) (.seq (.cond (.t 115) .skip (.exit 8)) (.seq (.block 9 (.seq (.reg Q24_35) (.seq (.reg Q24_36) (.seq (.seq (.reg Q24_37) (.block 10 (.loop Q24_42))) (.seq (.reg Q24_43) (.cond (.t 136) (.dreg Q24_44) .skip)))))) (.reg Q24_45))))
@[go_sem] def Q24_47:=k 0x264c34614923baea4eeef
@[go_sem] def Q24_48:=k 0x31e13105829b9801a5ae17
@[go_sem] def Q24_49:=k 0x9faf58ad2b
@[go_sem] def Q24_50:=k 0x1418e6ef4cd86ccf
@[go_sem] def Q24_51:=kd 0x1fc9dd03734e02dfcc836f6fba99498cf3fb9b74d15494f92edde9efdce7031eb0606febd9cec3fb8cdefcf5a4e232073497
@[go_sem] def Q24_52:=k 0x2afd8deff960aaaa23
def Q24_53:TC:=(.seq (.reg Q24_49) (.seq (.cond (.t 161) .skip (.exit 12)) (.seq (.block 13 (.seq (.reg Q24_50) (.dreg Q24_51))) (.reg Q24_52))))
@[go_sem] def Q24_54:=k 0x89d58819a9e9ef
def t_Q24:TF:=⟨175,[.cell 4 3 true],(.seq (.reg Q24_0) (.seq (.reg Q24_1) (.seq (.seq (.reg Q24_2) (.block 0 (.loop Q24_8))) (.seq (.seq (.reg Q24_9) (.block 2 (.loop Q24_25))) (.seq (.reg Q24_26) (.seq (.seq (.reg Q24_27) (.block 6 (.loop Q24_32))) (.seq (.seq (.reg Q24_33) (.block 8 (.loop Q24_46))) (.seq (.seq (.reg Q24_47) (.cond (.t 156) (.seq (.reg Q24_48) (.block 12 (.loop Q24_53))) .skip)) (.seq (.reg Q24_54) .ret)))))))))⟩
/-! horarium/runs.Of -/
@[go_sem] def Q25_0:=k 0x3064f4
@[go_sem] def Q25_1:=k 0x28118aa57226530c
@[go_sem] def Q25_2:=k 0x15d439feb28c
@[go_sem] def Q25_3:=k 0x19b2af77de6320c
@[go_sem] def Q25_4:=k 0x15434
@[go_sem] def Q25_5:=k 0x3c1507a119ef91cc
@[go_sem] def Q25_6:=k 0x26c4bc1b6fd38cf2b5c19442e8d454837b4f210c
@[go_sem] def Q25_7:=k 0x14d797d100c
@[go_sem] def Q25_8:=k 0x3351b7a50e24aff8549a81a78c
def Q25_9:TC:=(.block 1 (.seq (.reg Q25_6) (.seq (.seq (.reg Q25_7) (.cond (.t 22) (.exit 0) .skip)) (.reg Q25_8))))
@[go_sem] def Q25_10:=k 0x6f5a03db0382a68c
@[go_sem] def Q25_11:=k 0x3b5d4f5b2f8260c
@[go_sem] def Q25_12:=k 0x17d31e4f4
@[go_sem] def Q25_13:=k 0x19ccae378bbd4d
def t_Q25:TF:=⟨33,[.t 2,.t 3],(.seq (.reg Q25_0) (.seq (.seq (.reg Q25_1) (.seq (.reg Q25_2) (.cond (.t 12) (.seq (.reg Q25_3) .ret) .skip))) (.seq (.reg Q25_4) (.seq (.reg Q25_5) (.seq (.block 0 (.loop Q25_9)) (.seq (.seq (.reg Q25_10) (.seq (.reg Q25_11) (.cond (.t 31) (.seq (.reg Q25_12) .ret) .skip))) (.seq (.reg Q25_13) .ret)))))))⟩
/-! horarium/bound.Holds -/
@[go_sem] def Q26_0:=k 0x44d0ea9508
@[go_sem] def Q26_1:=k 0x32287512e549182d4
@[go_sem] def Q26_2:=k 0xd5631e8
@[go_sem] def Q26_3:=k 0x66b786ac1791863606a24
@[go_sem] def Q26_4:=k 0x56838613aeb175f93ff426337283984567490c
@[go_sem] def Q26_5:=k 0x64dc4965285e47107babdbcd09132a151c881afb7fa597f4fd386fabf61f1f159180516f95
@[go_sem] def Q26_6:=k 0x987c58
@[go_sem] def Q26_7:=k 0x8fb43eb0e4fc61
def Q26_8:TC:=(.seq (.reg Q26_2) (.seq (.cond (.t 14) .skip (.exit 0)) (.seq (.block 1 (.seq (.reg Q26_3) (.seq (.reg Q26_4) (.seq (.reg Q26_5) (.cond (.t 35) (.seq (.reg Q26_6) .ret) .skip))))) (.reg Q26_7))))
@[go_sem] def Q26_9:=k 0x6844da2a024c292c15
@[go_sem] def Q26_10:=k 0xa1d7db29
@[go_sem] def Q26_11:=k 0x97920226814b1b2072ffb338b1fd40acd
@[go_sem] def Q26_12:=kd 0xf6c49bc949f08564bcb85e040af71d84e5dc1832321548784e44d06fb9539dc4fffd082f2295
@[go_sem] def Q26_13:=k 0xa07458
@[go_sem] def Q26_14:=k 0xe8b138cc7e76e1
def Q26_15:TC:=(.seq (.reg Q26_10) (.seq (.cond (.t 41) .skip (.exit 2)) (.seq (.block 3 (.seq (.reg Q26_11) (.seq (.dreg Q26_12) (.cond (.t 57) (.seq (.reg Q26_13) .ret) .skip)))) (.reg Q26_14))))
@[go_sem] def Q26_16:=k 0x11458
def t_Q26:TF:=⟨59,[.t 4],(.seq (.reg Q26_0) (.seq (.seq (.reg Q26_1) (.block 0 (.loop Q26_8))) (.seq (.seq (.reg Q26_9) (.block 2 (.loop Q26_15))) (.seq (.reg Q26_16) .ret))))⟩
/-! horarium/reduce.Runs -/
@[go_sem] def Q27_0:=k 0xc2ce3e39508
@[go_sem] def Q27_1:=k 0x3038e37cfa46ca8c
@[go_sem] def Q27_2:=k 0x1d760
@[go_sem] def Q27_3:=k 0x21358
@[go_sem] def Q27_4:=k 0x14462580c6a092db8c2cf0a51b0f16a7e7bd7a71150d94c
@[go_sem] def Q27_5:=k 0x15d599d3fcc
@[go_sem] def Q27_6:=k 0xc4e687cf78dd29b2df4c
@[go_sem] def Q27_7:=k 0x33fcc25b46cc
@[go_sem] def Q27_8:=k 0x70c078a90c24b120c
def Q27_9:TC:=(.seq (.block 1 (.seq (.reg Q27_4) (.seq (.seq (.reg Q27_5) (.cond (.t 23) (.seq (.reg Q27_6) .ret) .skip)) (.reg Q27_7)))) (.reg Q27_8))
def t_Q27:TF:=⟨27,[.t 4,.t 5],(.seq (.reg Q27_0) (.seq (.reg Q27_1) (.seq (.reg Q27_2) (.seq (.reg Q27_3) (.block 0 (.loop Q27_9))))))⟩
/-! horarium/fold.Table -/
@[go_sem] def Q28_0:=k 0x94f4
@[go_sem] def Q28_1:=k 0xdd929f22ce93cc
@[go_sem] def Q28_2:=k 0x94f4
@[go_sem] def Q28_3:=k 0x27f1ea461e99530c
@[go_sem] def Q28_4:=k 0x22f3faefad142da4a0872d9f7a45d0ba8c
@[go_sem] def Q28_5:=k 0x8669d4fc461a1f154
@[go_sem] def Q28_6:=k 0x4f5ac25c9bb7b88c
@[go_sem] def Q28_7:=kd 0x2cd69cc08177d9568a78fe26e946c3e7b992dd31a7698619567550acf2d920f5d8579904db3d5516a76c0b63e1195a95
@[go_sem] def Q28_8:=kd 0x10a92990d0219e692e5c7dfa5b9d2f7f1d8674617f3bba4ec5dadde62fa11d9e720b0831a66d87d5e6ab0c87623ceb808b415493ff5
def Q28_9:TC:=(.block 1 (.seq (.reg Q28_4) (.seq (.seq (.reg Q28_5) (.cond (.t 18) (.seq (.reg Q28_6) .ret) .skip)) (.seq (.dreg Q28_7) (.dreg Q28_8)))))
def t_Q28:TF:=⟨55,[.t 2],(.seq (.reg Q28_0) (.seq (.seq (.reg Q28_1) (.cond (.t 8) (.seq (.reg Q28_2) .ret) .skip)) (.seq (.reg Q28_3) (.block 0 (.loop Q28_9)))))⟩
/-! horarium/node.Right -/
@[go_sem] def Q29_0:=k 0x94d8
@[go_sem] def Q29_1:=k 0x8c1ee9e4918ade76da82f5093e2436393cc
@[go_sem] def Q29_2:=k 0x68ed8b2eec0257abd28c
@[go_sem] def Q29_3:=k 0x187cd8
@[go_sem] def Q29_4:=k 0x896a512890c0c87bd18c
@[go_sem] def Q29_5:=k 0x6034d8
@[go_sem] def Q29_6:=k 0x153ce2e65a92f0d535d08c
@[go_sem] def Q29_7:=k 0x7024d8
@[go_sem] def Q29_8:=k 0x61a37a091f7daf8c
@[go_sem] def Q29_9:=k 0x9004d8
@[go_sem] def Q29_10:=k 0x94d8
def t_Q29:TF:=⟨25,[.t 2],(.seq (.reg Q29_0) (.seq (.reg Q29_1) (.seq (.block 0 (.seq (.reg Q29_2) (.cond (.t 10) (.seq (.reg Q29_3) .ret) (.seq (.reg Q29_4) (.cond (.t 14) (.seq (.reg Q29_5) .ret) (.seq (.reg Q29_6) (.cond (.t 18) (.seq (.reg Q29_7) .ret) (.seq (.reg Q29_8) (.cond (.t 22) (.seq (.reg Q29_9) .ret) .skip))))))))) (.seq (.reg Q29_10) .ret))))⟩
/-! slices.Clone[[]horarium/api.Node,horarium/api.Node] -/
@[go_sem] def Q30_0:=k 0x94f4
@[go_sem] def Q30_1:=k 0x303897d48c
@[go_sem] def Q30_2:=k 0x94f4
@[go_sem] def Q30_3:=k 0x37b45f1e1a7e9d793cdc
def t_Q30:TF:=⟨8,[.t 2],(.seq (.reg Q30_0) (.seq (.seq (.reg Q30_1) (.cond (.t 4) (.seq (.reg Q30_2) .ret) .skip)) (.seq (.reg Q30_3) .ret)))⟩
/-! horarium/horariumref3.Right -/
@[go_sem] def Q31_0:=k 0x94d8
@[go_sem] def Q31_1:=k 0xbef02fd74a540c
@[go_sem] def Q31_2:=k 0x187cd8
@[go_sem] def Q31_3:=k 0x23948a1f9709134c
@[go_sem] def Q31_4:=k 0x6034d8
@[go_sem] def Q31_5:=k 0x316acc114f39d28c
@[go_sem] def Q31_6:=k 0x7024d8
@[go_sem] def Q31_7:=k 0x1183aec9c693d6ffe199cceaebac05f3d18c
@[go_sem] def Q31_8:=k 0x12db93cb08c
@[go_sem] def Q31_9:=k 0x9004d8
@[go_sem] def Q31_10:=k 0x94d8
def t_Q31:TF:=⟨21,[.t 2],(.seq (.reg Q31_0) (.seq (.seq (.reg Q31_1) (.cond (.t 7) (.seq (.reg Q31_2) .ret) .skip)) (.seq (.seq (.reg Q31_3) (.cond (.t 10) (.seq (.reg Q31_4) .ret) .skip)) (.seq (.seq (.reg Q31_5) (.cond (.t 13) (.seq (.reg Q31_6) .ret) .skip)) (.seq (.seq (.reg Q31_7) (.seq (.reg Q31_8) (.cond (.t 20) (.seq (.reg Q31_9) .ret) .skip))) (.seq (.reg Q31_10) .ret))))))⟩
/-! horarium/horariumref3.Tidy -/
@[go_sem] def Q32_0:=k 0x94f4
@[go_sem] def Q32_1:=k 0xd4b4
@[go_sem] def Q32_2:=k 0xc57336ad38c
@[go_sem] def Q32_3:=k 0x93952e8
@[go_sem] def Q32_4:=k 0x54fef32ba9c1f99c38ac4
@[go_sem] def Q32_5:=k 0x3820fb944de43a0c
@[go_sem] def Q32_6:=k 0x7ec115745deaaa994
@[go_sem] def Q32_7:=kd 0xd31c3d2db8596d458ab2916109b0bc370266d12ff412839a0924bfa6698c2cdb48ef4
@[go_sem] def Q32_8:=kd 0x1292f2407c509aebe7f9166521677c63a7e7c402416e3460309de6dfcbefbd168e04aeac43eab05567ed3df5
@[go_sem] def Q32_9:=k 0x2f1ef23a7565ca546772e10b1a0d
@[go_sem] def Q32_10:=k 0xc30cf260f83921
def Q32_11:TC:=(.seq (.reg Q32_3) (.seq (.cond (.t 10) .skip (.exit 0)) (.seq (.block 1 (.seq (.reg Q32_4) (.seq (.reg Q32_5) (.seq (.seq (.reg Q32_6) (.cond (.t 17) (.exit 1) .skip)) (.seq (.dreg Q32_7) (.cond (.t 30) (.dreg Q32_8) (.reg Q32_9))))))) (.reg Q32_10))))
@[go_sem] def Q32_12:=k 0x31a57577058cd
def t_Q32:TF:=⟨51,[.t 2],(.seq (.reg Q32_0) (.seq (.reg Q32_1) (.seq (.seq (.reg Q32_2) (.block 0 (.loop Q32_11))) (.seq (.reg Q32_12) .ret))))⟩
/-! horarium/horariumref3.Leaves -/
@[go_sem] def Q33_0:=k 0x94f4
@[go_sem] def Q33_1:=k 0x2034033c1c5ffd48c
def t_Q33:TF:=⟨5,[.t 2],(.seq (.reg Q33_0) (.seq (.reg Q33_1) .ret))⟩
/-! horarium/horariumref3.Sum -/
@[go_sem] def Q34_0:=k 0x11458
@[go_sem] def Q34_1:=k 0x3e854b261aae35fe8069b693b8f540c
@[go_sem] def Q34_2:=k 0x499792193b53d70f530c
@[go_sem] def Q34_3:=k 0x116ac
@[go_sem] def Q34_4:=k 0xee67c44287f4a4b10520c
def t_Q34:TF:=⟨16,[.t 4],(.seq (.reg Q34_0) (.seq (.reg Q34_1) (.seq (.seq (.reg Q34_2) (.cond (.t 12) (.seq (.reg Q34_3) .ret) .skip)) (.seq (.reg Q34_4) .ret))))⟩
/-! horarium/horariumref7.Late -/
@[go_sem] def Q35_0:=k 0x193d8
@[go_sem] def Q35_1:=k 0x441cc0186268114c
@[go_sem] def Q35_2:=k 0xbe8cb61358
@[go_sem] def Q35_3:=k 0xd05d45558cc
@[go_sem] def Q35_4:=k 0x1488b828
@[go_sem] def Q35_5:=k 0xb8e6547cd7e12f000
@[go_sem] def Q35_6:=k 0x2122744f024576fe8163738c85ad4af6a4bad8bf522b7934647a1ba697258241dc0bc2897f4d
@[go_sem] def Q35_7:=k 0x90235f3cc8fc61
def Q35_8:TC:=(.seq (.reg Q35_4) (.seq (.cond (.t 21) .skip (.exit 0)) (.seq (.block 1 (.seq (.reg Q35_5) (.reg Q35_6))) (.reg Q35_7))))
@[go_sem] def Q35_9:=k 0x92de988ac0d
@[go_sem] def Q35_10:=k 0x193d8
@[go_sem] def Q35_11:=k 0x9ace9f93b8d
@[go_sem] def Q35_12:=k 0x19458
@[go_sem] def Q35_13:=k 0x696c069ddb0d
@[go_sem] def Q35_14:=k 0xadfc6a69
@[go_sem] def Q35_15:=k 0x2e170e8c6deed43cba1d5d389a0d
@[go_sem] def Q35_16:=k 0xc0c9431b13d1f294d
@[go_sem] def Q35_17:=k 0xbc998
@[go_sem] def Q35_18:=k 0x3969749372f4ece14df628780eb568bca23830656309872ecabfb0588d
@[go_sem] def Q35_19:=k 0x3e805bca20f811e95cd
def Q35_20:TC:=(.seq (.seq (.reg Q35_18) (.cond (.t 61) .skip (.exit 4))) (.block 5 (.reg Q35_19)))
@[go_sem] def Q35_21:=k 0x4109f3cad0d6861fbbfdf054e
@[go_sem] def Q35_22:=k 0x10b410459580a4a2
def Q35_23:TC:=(.seq (.reg Q35_14) (.seq (.cond (.t 44) .skip (.exit 2)) (.seq (.block 3 (.seq (.reg Q35_15) (.seq (.seq (.reg Q35_16) (.cond (.t 50) (.exit 3) .skip)) (.seq (.reg Q35_17) (.seq (.block 4 (.loop Q35_20)) (.reg Q35_21)))))) (.reg Q35_22))))
@[go_sem] def Q35_24:=k 0x21c26ae1e0044e
def t_Q35:TF:=⟨69,[.t 6],(.seq (.reg Q35_0) (.seq (.reg Q35_1) (.seq (.reg Q35_2) (.seq (.seq (.reg Q35_3) (.block 0 (.loop Q35_8))) (.seq (.seq (.reg Q35_9) (.cond (.t 38) (.seq (.reg Q35_10) .ret) .skip)) (.seq (.seq (.reg Q35_11) (.cond (.t 40) (.seq (.reg Q35_12) .ret) .skip)) (.seq (.seq (.reg Q35_13) (.block 2 (.loop Q35_23))) (.seq (.reg Q35_24) .ret))))))))⟩
/-! horarium/horariumref7.Budget -/
@[go_sem] def Q36_0:=k 0x193d8
@[go_sem] def Q36_1:=k 0x38409bf4c237520c
@[go_sem] def Q36_2:=k 0x15a035af7a5c84e9372444b45f18c35a4c00564c0006eeac640ca14cd2729e94d30ec18c
@[go_sem] def Q36_3:=k 0x19458
@[go_sem] def Q36_4:=k 0xef41fa250e21f3e0c
@[go_sem] def Q36_5:=k 0x25318
@[go_sem] def Q36_6:=k 0x1f06af3237d23cfe4b3d8d
@[go_sem] def Q36_7:=k 0x292d8
@[go_sem] def Q36_8:=k 0x67dd90eb83e0147182f5c38d40b9412bead1bcd
@[go_sem] def Q36_9:=k 0xb614c9e9
@[go_sem] def Q36_10:=k 0x2fa152a64739a2cf9c1
@[go_sem] def Q36_11:=k 0xc4cd155af9cff890d
@[go_sem] def Q36_12:=k 0x348a798e48ee0cc684d
@[go_sem] def Q36_13:=k 0xd92089306977e1
def Q36_14:TC:=(.seq (.reg Q36_9) (.seq (.cond (.t 46) .skip (.exit 2)) (.seq (.block 3 (.seq (.reg Q36_10) (.seq (.reg Q36_11) (.cond (.t 51) (.reg Q36_12) .skip)))) (.reg Q36_13))))
@[go_sem] def Q36_15:=k 0xe0f89b62bca5128bf01478d
@[go_sem] def Q36_16:=k 0x92467cb1df3b11c4d0c3c8d
def Q36_17:TC:=(.seq (.seq (.reg Q36_6) (.cond (.t 34) .skip (.exit 0))) (.seq (.block 1 (.seq (.reg Q36_7) (.seq (.seq (.reg Q36_8) (.block 2 (.loop Q36_14))) (.reg Q36_15)))) (.reg Q36_16)))
@[go_sem] def Q36_18:=k 0x39a55d8c206cd
def t_Q36:TF:=⟨59,[.t 6],(.seq (.reg Q36_0) (.seq (.reg Q36_1) (.seq (.seq (.reg Q36_2) (.cond (.t 28) (.seq (.reg Q36_3) .ret) .skip)) (.seq (.reg Q36_4) (.seq (.seq (.reg Q36_5) (.block 0 (.loop Q36_17))) (.seq (.reg Q36_18) .ret))))))⟩
/-! horarium/horariumref7.Differ -/
@[go_sem] def Q37_0:=k 0x17d01dfb93d8
@[go_sem] def Q37_1:=k 0x25318
@[go_sem] def Q37_2:=k 0x16336b958a8c
@[go_sem] def Q37_3:=k 0x1e682c98898c
@[go_sem] def Q37_4:=k 0x201f759ec14c
@[go_sem] def Q37_5:=k 0x170acd01cbb1dc3fd87f46fed4a0b033c94436206e681437bcf6f57e7f6aab857c893d9bc44d4091be58f04d
@[go_sem] def Q37_6:=k 0x93fa470d152616a3f0c7c4d
@[go_sem] def Q37_7:=k 0x98c7729f4cc5c40cc
def Q37_8:TC:=(.seq (.seq (.reg Q37_4) (.cond (.t 17) .skip (.exit 2))) (.seq (.block 3 (.seq (.reg Q37_5) (.cond (.t 35) (.seq (.reg Q37_6) .ret) .skip))) (.reg Q37_7)))
@[go_sem] def Q37_9:=k 0x70ffb968cc2530a0c
def Q37_10:TC:=(.seq (.seq (.reg Q37_2) (.cond (.t 12) .skip (.exit 0))) (.seq (.block 1 (.seq (.reg Q37_3) (.block 2 (.loop Q37_8)))) (.reg Q37_9)))
@[go_sem] def Q37_11:=k 0xa2d2f6d24d29d052fb450e8d4ff44eb30d8bcd
def t_Q37:TF:=⟨43,[.t 6,.t 7,.t 8],(.seq (.reg Q37_0) (.seq (.seq (.reg Q37_1) (.block 0 (.loop Q37_10))) (.seq (.reg Q37_11) .ret)))⟩
/-! horarium/horariumref7.square -/
@[go_sem] def Q38_0:=k 0x94f4
@[go_sem] def Q38_1:=k 0x3043743052b4f540c
@[go_sem] def Q38_2:=k 0xc573382bb8c
@[go_sem] def Q38_3:=k 0x93952e8
@[go_sem] def Q38_4:=k 0x1618e4378a8c
@[go_sem] def Q38_5:=k 0x80db42a5686608062f9f7338957fa4c
@[go_sem] def Q38_6:=k 0xb0933c2b5fdf70fd6b80d7c8796359390c
@[go_sem] def Q38_7:=k 0x5c70b90a4c7a0
def Q38_8:TC:=(.seq (.reg Q38_3) (.seq (.cond (.t 10) .skip (.exit 0)) (.seq (.block 1 (.seq (.reg Q38_4) (.seq (.reg Q38_5) (.reg Q38_6)))) (.reg Q38_7))))
@[go_sem] def Q38_9:=k 0x2fc53deaf74c
def t_Q38:TF:=⟨25,[.t 2],(.seq (.reg Q38_0) (.seq (.reg Q38_1) (.seq (.seq (.reg Q38_2) (.block 0 (.loop Q38_8))) (.seq (.reg Q38_9) .ret))))⟩
/-! horarium/horariumref7.in -/
@[go_sem] def Q39_0:=k 0x44d6e49508
@[go_sem] def Q39_1:=k 0x32866a26a6f6c1e7dabc025d26f7d8a67a63ff114cd4ebe74c0c
def t_Q39:TF:=⟨14,[.t 4],(.seq (.reg Q39_0) (.seq (.reg Q39_1) .ret))⟩
/-! horarium/horariumref7.Draw -/
@[go_sem] def Q40_0:=k 0x1814efe39508
@[go_sem] def Q40_1:=k 0x2c44d771471182ec
@[go_sem] def Q40_2:=k 0x6566a2cdea383a9680a4c
@[go_sem] def Q40_3:=k 0x106bd928
@[go_sem] def Q40_4:=k 0x87b2772d8620511161134
@[go_sem] def Q40_5:=k 0x15f207341b3a7e7382084c
@[go_sem] def Q40_6:=k 0x189c9d63945234a1a2bfac
@[go_sem] def Q40_7:=k 0x96362443b868c
@[go_sem] def Q40_8:=k 0x71270e59f0660
def Q40_9:TC:=(.seq (.reg Q40_3) (.seq (.cond (.t 17) .skip (.exit 0)) (.seq (.block 1 (.seq (.reg Q40_4) (.seq (.reg Q40_5) (.seq (.reg Q40_6) (.cond (.t 26) (.seq (.reg Q40_7) .ret) .skip))))) (.reg Q40_8))))
@[go_sem] def Q40_10:=k 0xcc57eb2379b55e38fb6dc
def t_Q40:TF:=⟨32,[.t 4,.t 5],(.seq (.reg Q40_0) (.seq (.reg Q40_1) (.seq (.seq (.reg Q40_2) (.block 0 (.loop Q40_9))) (.seq (.reg Q40_10) .ret))))⟩
/-! horarium/reduce.Merge -/
@[go_sem] def Q41_0:=k 0x1814efe39508
@[go_sem] def Q41_1:=k 0x4dd81fe2ddda76ee70744fe594f51e8bcc
def t_Q41:TF:=⟨11,[.t 4,.t 5],(.seq (.reg Q41_0) (.seq (.reg Q41_1) .ret))⟩
/-! horarium/reduce.Passes -/
@[go_sem] def Q42_0:=k 0x1574
@[go_sem] def Q42_1:=k 0xbdace0ec8bcfa42118
def t_Q42:TF:=⟨4,[.t 0],(.seq (.reg Q42_0) (.seq (.reg Q42_1) .ret))⟩
/-! horarium/horariumref7.Runs -/
@[go_sem] def Q43_0:=k 0xc2ce3e39508
@[go_sem] def Q43_1:=k 0x193d8
@[go_sem] def Q43_2:=k 0xca644169393811acf78e7236590b63a8acc
@[go_sem] def Q43_3:=k 0x80a38a429dfdf70e6d2206bd0ffa44f4081a47f0b51cc
@[go_sem] def Q43_4:=k 0x6c8d176ac13dc2d1e7f68aebf896d02356f22ff6c
@[go_sem] def Q43_5:=k 0x1e78597ac5ef473cbb5671ba3ee351b6ec488f7f41766ce0d
@[go_sem] def Q43_6:=k 0x280c9cb2e7cddabcc9e009aebfa5c9d
@[go_sem] def Q43_7:=k 0x29b17576e1acd
@[go_sem] def Q43_8:=k 0x2b958e5e6ae508a6a8d
def Q43_9:TC:=(.block 1 (.seq (.reg Q43_2) (.seq (.seq (.reg Q43_3) (.cond (.t 22) (.reg Q43_4) .skip)) (.seq (.seq (.reg Q43_5) (.cond (.t 37) (.seq (.reg Q43_6) .ret) .skip)) (.seq (.reg Q43_7) (.reg Q43_8))))))
def t_Q43:TF:=⟨45,[.t 4,.t 5],(.seq (.reg Q43_0) (.seq (.reg Q43_1) (.block 0 (.loop Q43_9))))⟩
/-! horarium/horariumref7.Merge -/
@[go_sem] def Q44_0:=k 0x6034f4
@[go_sem] def Q44_1:=k 0x18415a75dafc540c
@[go_sem] def Q44_2:=k 0x55a0bebcfa369594dbe2f24773895eb38c
def t_Q44:TF:=⟨12,[.t 2,.t 3],(.seq (.reg Q44_0) (.seq (.reg Q44_1) (.seq (.reg Q44_2) .ret)))⟩
/-! horarium/horariumref7.Valid -/
@[go_sem] def Q45_0:=k 0x649704d4c8
@[go_sem] def Q45_1:=k 0x9f4a1d3699f134ff60732c2375174842c5b77d885b1450342185ce5ab356bd5cce3b4cacf7926cb8c
def t_Q45:TF:=⟨22,[.t 6],(.seq (.reg Q45_0) (.seq (.reg Q45_1) .ret))⟩
/-! horarium/horariumref7.Table -/
@[go_sem] def Q46_0:=k 0xbe3d8c93e39508
@[go_sem] def Q46_1:=k 0x108a997f3d1f935e91399ef6373fa09189cc
@[go_sem] def Q46_2:=k 0x23b8482050cc
@[go_sem] def Q46_3:=k 0x14c9820cb40412a6449f0f9e8
@[go_sem] def Q46_4:=k 0x17ea1334434bb901827fec
@[go_sem] def Q46_5:=k 0x319c562a070c
@[go_sem] def Q46_6:=k 0x1ba6c7c7b3824f272c8f33828
@[go_sem] def Q46_7:=k 0x83cf9d78a0e0cb9c2f3936e8653beb9a65865ddb6ded
@[go_sem] def Q46_8:=k 0x8f14ba99bdd402c8d
@[go_sem] def Q46_9:=k 0x9781b7c0d67308160cd5ec8c0d
@[go_sem] def Q46_10:=k 0x17e4fde1fc257f0899b52fa244d55d8e9b65995b68f2d3a46abc22cbe32d734b5e47f5fbb5b9d
@[go_sem] def Q46_11:=k 0x17fcf7ee034dfcfd83fa99971c40178299e14dd6a706425d418885976a63d8d35d45b9bbc5c07ce
def t_Q46:TF:=⟨65,[.t 4,.cell 5 6 true,.t 6],(.seq (.reg Q46_0) (.seq (.reg Q46_1) (.seq (.seq (.reg Q46_2) (.cond (.t 19) (.seq (.reg Q46_3) .ret) .skip)) (.seq (.seq (.reg Q46_4) (.seq (.reg Q46_5) (.cond (.t 26) (.seq (.reg Q46_6) .ret) .skip))) (.seq (.reg Q46_7) (.seq (.reg Q46_8) (.seq (.seq (.reg Q46_9) (.cond (.t 41) (.seq (.reg Q46_10) .ret) .skip)) (.seq (.reg Q46_11) .ret))))))))⟩
/-! (horarium/reduce.rows).draw -/
@[go_sem] def Q47_0:=k 0xbe8dbbccc8
@[go_sem] def Q47_1:=k 0xc7115870313a560673d27134c
@[go_sem] def Q47_2:=k 0xd5631e8
@[go_sem] def Q47_3:=k 0x76780e3433815080069f4
@[go_sem] def Q47_4:=k 0x114ed8bb7faea73919392c
@[go_sem] def Q47_5:=k 0x4a46259c96f0049b36a500c
@[go_sem] def Q47_6:=k 0x60e7bdca10760
def Q47_7:TC:=(.seq (.reg Q47_2) (.seq (.cond (.t 14) .skip (.exit 0)) (.seq (.block 1 (.seq (.reg Q47_3) (.seq (.reg Q47_4) (.cond (.t 20) (.seq (.reg Q47_5) .ret) .skip)))) (.reg Q47_6))))
@[go_sem] def Q47_8:=k 0x6556445637b224f0c
def t_Q47:TF:=⟨27,[.t 4,.t 5],(.seq (.reg Q47_0) (.seq (.seq (.reg Q47_1) (.block 0 (.loop Q47_7))) (.seq (.reg Q47_8) .ret)))⟩
/-! slices.ContainsFunc[[]horarium/move.Move,horarium/move.Move] -/
@[go_sem] def Q48_0:=k 0x11470
@[go_sem] def Q48_1:=k 0x1fe93fd19f7e81dff11390e540c
def t_Q48:TF:=⟨9,[.t 4],(.seq (.reg Q48_0) (.seq (.reg Q48_1) .ret))⟩
/-! horarium/move.All -/
@[go_sem] def Q49_0:=k 0x11474
@[go_sem] def Q49_1:=k 0x15434
@[go_sem] def Q49_2:=k 0xc76f38b530c
@[go_sem] def Q49_3:=k 0xb47c268
@[go_sem] def Q49_4:=k 0x1a30a867fa0c
@[go_sem] def Q49_5:=k 0x786950010c43b61cc
@[go_sem] def Q49_6:=k 0x82714290b099f138d94c
@[go_sem] def Q49_7:=k 0x1133cbb3acb59c21218da25fcc
@[go_sem] def Q49_8:=k 0x197002327bb50af9134f0c
@[go_sem] def Q49_9:=k 0x8801e8d1c3947dd22c682328fb5651e79ed65e2afe0d
@[go_sem] def Q49_10:=k 0xa7d9e08f8d044d84c
def Q49_11:TC:=(.seq (.seq (.reg Q49_6) (.cond (.t 19) .skip (.exit 2))) (.seq (.block 3 (.seq (.reg Q49_7) (.seq (.reg Q49_8) (.cond (.t 28) (.reg Q49_9) .skip)))) (.reg Q49_10)))
@[go_sem] def Q49_12:=k 0x8f947e88ecfc61
def Q49_13:TC:=(.seq (.reg Q49_3) (.seq (.cond (.t 12) .skip (.exit 0)) (.seq (.block 1 (.seq (.reg Q49_4) (.seq (.reg Q49_5) (.block 2 (.loop Q49_11))))) (.reg Q49_12))))
@[go_sem] def Q49_14:=k 0x24c75880cfc0d
def t_Q49:TF:=⟨38,[.t 4],(.seq (.reg Q49_0) (.seq (.reg Q49_1) (.seq (.seq (.reg Q49_2) (.block 0 (.loop Q49_13))) (.seq (.reg Q49_14) .ret))))⟩
/-! horarium/graph.Depends -/
@[go_sem] def Q50_0:=k 0xcf35548
@[go_sem] def Q50_1:=k 0x15c72b25b2050b023e4f8a0b54
@[go_sem] def Q50_2:=k 0xca693d3fa4c
@[go_sem] def Q50_3:=k 0xe5d69a8
@[go_sem] def Q50_4:=k 0x2004ee60a14c
@[go_sem] def Q50_5:=k 0xcf5f425390c
@[go_sem] def Q50_6:=k 0x13818068
@[go_sem] def Q50_7:=k 0x2a00d899b80c
@[go_sem] def Q50_8:=kd 0x4a6d2adae40f6daa63383439fb3d8739574b7bd440453f61210afefdbd4a73bb09188b01b5ff5b62595893a36879d7b2d6b844adf8543a810e5bd9314d7cc7a1d76b77e2317af33af5
@[go_sem] def Q50_9:=k 0xbbbbab28cfb9a1
def Q50_10:TC:=(.seq (.reg Q50_6) (.seq (.cond (.t 20) .skip (.exit 2)) (.seq (.block 3 (.seq (.reg Q50_7) (.dreg Q50_8))) (.reg Q50_9))))
@[go_sem] def Q50_11:=k 0xbf644ec4e3f961
def Q50_12:TC:=(.seq (.reg Q50_3) (.seq (.cond (.t 15) .skip (.exit 0)) (.seq (.block 1 (.seq (.reg Q50_4) (.seq (.reg Q50_5) (.block 2 (.loop Q50_10))))) (.reg Q50_11))))
@[go_sem] def Q50_13:=k 0x6b3be3e58310183915
@[go_sem] def Q50_14:=k 0xd26a1829
@[go_sem] def Q50_15:=k 0x1efd9f16adab617fa824865
@[go_sem] def Q50_16:=k 0xe8b61de914ca0a893385617f2fe2ff2d80084c14aeedd39723f256dde76e
@[go_sem] def Q50_17:=kd 0x3afc256665ba5f27273e262c44d7605e28d7ea0af378e46aa293855b9ee9c3753c95e64633897801ae6b53aae3cb37bd963a6cb4e9ddbb6b0def6
@[go_sem] def Q50_18:=k 0x14710b0aa4f460e2
def Q50_19:TC:=(.seq (.reg Q50_14) (.seq (.cond (.t 53) .skip (.exit 4)) (.seq (.block 5 (.seq (.reg Q50_15) (.seq (.reg Q50_16) (.cond (.t 65) (.dreg Q50_17) .skip)))) (.reg Q50_18))))
@[go_sem] def Q50_20:=k 0x292f7a5d44608e
def t_Q50:TF:=⟨84,[.t 2],(.seq (.reg Q50_0) (.seq (.reg Q50_1) (.seq (.seq (.reg Q50_2) (.block 0 (.loop Q50_12))) (.seq (.seq (.reg Q50_13) (.block 4 (.loop Q50_19))) (.seq (.reg Q50_20) .ret)))))⟩
/-! horarium/reduce.Stuck$1 -/
@[go_sem] def Q51_0:=k 0xbf4d4c8
@[go_sem] def Q51_1:=k 0x1fe93fb52d7bce0ca477a254c2c
def t_Q51:TF:=⟨9,[.t 4],(.seq (.reg Q51_0) (.seq (.reg Q51_1) .ret))⟩
/-! horarium/move.Fits -/
@[go_sem] def Q52_0:=k 0x2fe4fc0eed4c8
@[go_sem] def Q52_1:=kd 0x1823431aef0f42b9af00b58bde823f6038e07b838a457d22a11dbec5270faf48a7c22655f4
def t_Q52:TF:=⟨20,[.t 6],(.seq (.reg Q52_0) (.seq (.dreg Q52_1) .ret))⟩
/-! horarium/word.Same -/
@[go_sem] def Q53_0:=k 0x193f0
@[go_sem] def Q53_1:=k 0x412347ea90da60f80ce8b1eff5a6f2c13e367c2e40e41cfa90fd28c
@[go_sem] def Q53_2:=k 0x4be537cfbf5448cc
def t_Q53:TF:=⟨20,[.t 6],(.seq (.reg Q53_0) (.seq (.reg Q53_1) (.seq (.reg Q53_2) .ret)))⟩
/-! horarium/runs.Right -/
@[go_sem] def Q54_0:=k 0x94f0
@[go_sem] def Q54_1:=k 0xd498
@[go_sem] def Q54_2:=k 0xc47535a93cc
@[go_sem] def Q54_3:=k 0x8321b28
@[go_sem] def Q54_4:=k 0x5480f02da922396bc5304
@[go_sem] def Q54_5:=k 0x13a4ca0f0481758f4a2c67dba01f78160c856c7739f9cc0a2b75935c34caa2d1d8a9ea54
@[go_sem] def Q54_6:=k 0x94f0
@[go_sem] def Q54_7:=k 0x7229248591905d719e0676976cc
@[go_sem] def Q54_8:=k 0x781914da785e0
def Q54_9:TC:=(.seq (.reg Q54_3) (.seq (.cond (.t 9) .skip (.exit 0)) (.seq (.block 1 (.seq (.reg Q54_4) (.seq (.seq (.reg Q54_5) (.cond (.t 25) (.seq (.reg Q54_6) .ret) .skip)) (.reg Q54_7)))) (.reg Q54_8))))
@[go_sem] def Q54_10:=k 0x27f37d332bc50415c6bc3b8ecaea8410972952f8a91f15719b04f3528a7c5253abcd8d
def t_Q54:TF:=⟨43,[.t 2],(.seq (.reg Q54_0) (.seq (.reg Q54_1) (.seq (.seq (.reg Q54_2) (.block 0 (.loop Q54_9))) (.seq (.reg Q54_10) .ret))))⟩
/-! horarium/horariumref12.Right -/
@[go_sem] def Q55_0:=k 0x5fa5548
@[go_sem] def Q55_1:=k 0x8c1ee9e4918ade76da82f5093e2545a8bec
@[go_sem] def Q55_2:=k 0x13fd21e77acc
def t_Q55:TF:=⟨11,[.t 2],(.seq (.reg Q55_0) (.seq (.reg Q55_1) (.seq (.reg Q55_2) .ret)))⟩
/-! horarium/cursor.New -/
@[go_sem] def Q56_0:=k 0x976c
@[go_sem] def Q56_1:=k 0x13c4839c33d5144c
@[go_sem] def Q56_2:=k 0x976c
@[go_sem] def Q56_3:=k 0x9e88b98a62481128c2eed38c
@[go_sem] def Q56_4:=k 0xafb0b9ba8c
@[go_sem] def Q56_5:=k 0x19f127e83a0c
def t_Q56:TF:=⟨14,[.t 2],(.seq (.reg Q56_0) (.seq (.seq (.reg Q56_1) (.cond (.t 6) (.seq (.reg Q56_2) .ret) .skip)) (.seq (.reg Q56_3) (.seq (.reg Q56_4) (.seq (.reg Q56_5) .ret)))))⟩
/-! (*horarium/cursor.Cursor).Next -/
@[go_sem] def Q57_0:=k 0x603540
@[go_sem] def Q57_1:=kd 0x55e46202c4a290280731162414aec9a1f4bf0f206356c79ff4
@[go_sem] def Q57_2:=k 0x6983e1dec565c8
@[go_sem] def Q57_3:=kd 0x7582772731ad04fa34e2b1e722a8aa8e47abd29eb89589f94b48760f03c1a37e09fa4cd9bcfc440eac9fca39cb231e639a896e9912183e29788173c8228b8d16b28a8fa0684f1c68957202076f8f5
@[go_sem] def Q57_4:=kd 0x598bc76b04490f031e158dcf7b4c9a7d3072be78b5d5e9ca76175b9acf5
@[go_sem] def Q57_5:=k 0xd29d8fd480d
@[go_sem] def Q57_6:=k 0xd36adaa37b1587f1
def t_Q57:TF:=⟨56,[.cell 2 2 true,.t 3],(.seq (.reg Q57_0) (.seq (.seq (.dreg Q57_1) (.cond (.t 14) (.seq (.reg Q57_2) .ret) .skip)) (.seq (.dreg Q57_3) (.seq (.dreg Q57_4) (.seq (.reg Q57_5) (.seq (.reg Q57_6) .ret))))))⟩
/-! horarium/runs.Tidy -/
@[go_sem] def Q58_0:=k 0x94f4
@[go_sem] def Q58_1:=k 0xd4b4
@[go_sem] def Q58_2:=k 0xc57336ad38c
@[go_sem] def Q58_3:=k 0x93952e8
@[go_sem] def Q58_4:=k 0x54fef32ba9c1f99c38ac4
@[go_sem] def Q58_5:=k 0x3820fb944de43a0c
@[go_sem] def Q58_6:=k 0x2c819228aa6aeb1e8abe854
@[go_sem] def Q58_7:=kd 0x2db8b60e1c77c01b279695cd2d8c6abc4c45d35c806d2f89c9d8ff9b159f757b91148297d679cd0f5
@[go_sem] def Q58_8:=kd 0x151ba627be8dc7bda067801ce1bce7697e07b682c28534586fa24590b8f76df00f6490a44fe2b25569e93ff5
@[go_sem] def Q58_9:=k 0x2381b6c50408dab335da4fb98c
@[go_sem] def Q58_10:=k 0xcafcfa60f8b8a1
def Q58_11:TC:=(.seq (.reg Q58_3) (.seq (.cond (.t 10) .skip (.exit 0)) (.seq (.block 1 (.seq (.reg Q58_4) (.seq (.reg Q58_5) (.block 2 (.seq (.reg Q58_6) (.cond (.t 19) .skip (.seq (.dreg Q58_7) (.cond (.t 23) (.dreg Q58_8) (.reg Q58_9))))))))) (.reg Q58_10))))
@[go_sem] def Q58_12:=k 0xd1ab64b9d8ce8d84d
def t_Q58:TF:=⟨54,[.t 2],(.seq (.reg Q58_0) (.seq (.reg Q58_1) (.seq (.seq (.reg Q58_2) (.block 0 (.loop Q58_11))) (.seq (.reg Q58_12) .ret))))⟩
/-! horarium/bound.Late -/
@[go_sem] def Q59_0:=k 0x193d8
@[go_sem] def Q59_1:=k 0x26c4c57633688890c05d0321b8af2a6ad710d18c
@[go_sem] def Q59_2:=k 0x18489573dfb145669657cc
@[go_sem] def Q59_3:=k 0x193d8
@[go_sem] def Q59_4:=k 0x1c582e33340174e6df4ecc
@[go_sem] def Q59_5:=k 0x19458
@[go_sem] def Q59_6:=k 0x77c09d72932b4e0c
@[go_sem] def Q59_7:=k 0x292d8
@[go_sem] def Q59_8:=k 0x66f1041b5d8d
@[go_sem] def Q59_9:=k 0x85828ce9
@[go_sem] def Q59_10:=k 0x3182cace2b7de7e919abcc5
@[go_sem] def Q59_11:=k 0x19e7d2ed24d9a2ad654023efc90ff107a4cc88c15
@[go_sem] def Q59_12:=k 0xb2089a29
@[go_sem] def Q59_13:=k 0x2eac37be4138620ca01
@[go_sem] def Q59_14:=k 0xd5024840f033043fd89ae0d3c33133ae1d6cefbece3e9f694d
@[go_sem] def Q59_15:=k 0xe100b11c6df761
def Q59_16:TC:=(.seq (.reg Q59_12) (.seq (.cond (.t 45) .skip (.exit 3)) (.seq (.block 4 (.seq (.reg Q59_13) (.reg Q59_14))) (.reg Q59_15))))
@[go_sem] def Q59_17:=k 0xe44a14409a3721
def Q59_18:TC:=(.seq (.reg Q59_9) (.seq (.cond (.t 34) .skip (.exit 1)) (.seq (.block 2 (.seq (.reg Q59_10) (.seq (.reg Q59_11) (.block 3 (.loop Q59_16))))) (.reg Q59_17))))
@[go_sem] def Q59_19:=k 0x39a55d8e1e6cd
def t_Q59:TF:=⟨59,[.t 6],(.seq (.reg Q59_0) (.seq (.reg Q59_1) (.seq (.block 0 (.seq (.reg Q59_2) (.cond (.t 21) (.seq (.reg Q59_3) .ret) (.seq (.reg Q59_4) (.cond (.t 25) (.seq (.reg Q59_5) .ret) .skip))))) (.seq (.reg Q59_6) (.seq (.reg Q59_7) (.seq (.seq (.reg Q59_8) (.block 1 (.loop Q59_18))) (.seq (.reg Q59_19) .ret)))))))⟩
/-! horarium/bound.Budget -/
@[go_sem] def Q60_0:=k 0x193d8
@[go_sem] def Q60_1:=k 0x3c34a800b23791cc
@[go_sem] def Q60_2:=k 0x571055158e83cbab2a3831551420fa84a9c9720c6c28c430b5c048cd50f014c
@[go_sem] def Q60_3:=k 0x19458
@[go_sem] def Q60_4:=k 0x1dca5704df831537140e4c
@[go_sem] def Q60_5:=k 0x3e186c54bd8c
@[go_sem] def Q60_6:=k 0x292d8
@[go_sem] def Q60_7:=k 0x808b5fb5c2e5b6d4d
@[go_sem] def Q60_8:=k 0x2d298
@[go_sem] def Q60_9:=k 0x68ad85ed0bcd
@[go_sem] def Q60_10:=k 0xa1d7db29
@[go_sem] def Q60_11:=k 0x35e125606400d5f1df00b05
@[go_sem] def Q60_12:=k 0xd7aaf57116bd40a9153c00710c98b2114c809ef3ae87aa73797ba579fae6020b0075fcb77e9a7e65a4d
@[go_sem] def Q60_13:=k 0xe8b138cc7e76e1
def Q60_14:TC:=(.seq (.reg Q60_10) (.seq (.cond (.t 41) .skip (.exit 2)) (.seq (.block 3 (.seq (.reg Q60_11) (.reg Q60_12))) (.reg Q60_13))))
@[go_sem] def Q60_15:=k 0xf0c8bb929c25c643f52368d
@[go_sem] def Q60_16:=k 0x92563d119f4b11c4d1c2c8d
def Q60_17:TC:=(.seq (.seq (.reg Q60_7) (.cond (.t 34) .skip (.exit 0))) (.seq (.block 1 (.seq (.reg Q60_8) (.seq (.seq (.reg Q60_9) (.block 2 (.loop Q60_14))) (.reg Q60_15)))) (.reg Q60_16)))
@[go_sem] def Q60_18:=k 0x3d9d618d2f5cd
def t_Q60:TF:=⟨63,[.t 6],(.seq (.reg Q60_0) (.seq (.reg Q60_1) (.seq (.seq (.reg Q60_2) (.cond (.t 27) (.seq (.reg Q60_3) .ret) .skip)) (.seq (.reg Q60_4) (.seq (.reg Q60_5) (.seq (.seq (.reg Q60_6) (.block 0 (.loop Q60_17))) (.seq (.reg Q60_18) .ret)))))))⟩
/-! slices.Clone[[]horarium/api.Run,horarium/api.Run] -/
@[go_sem] def Q61_0:=k 0x94f4
@[go_sem] def Q61_1:=k 0x303897d48c
@[go_sem] def Q61_2:=k 0x94f4
@[go_sem] def Q61_3:=k 0x37b45f1e19907c893cdc
def t_Q61:TF:=⟨8,[.t 2],(.seq (.reg Q61_0) (.seq (.seq (.reg Q61_1) (.cond (.t 4) (.seq (.reg Q61_2) .ret) .skip)) (.seq (.reg Q61_3) .ret)))⟩
/-! horarium/reduce.step -/
@[go_sem] def Q62_0:=k 0x1814efe39508
@[go_sem] def Q62_1:=k 0x64369f5c7c
@[go_sem] def Q62_2:=k 0xc4efa28
@[go_sem] def Q62_3:=k 0x78695000165d93200
@[go_sem] def Q62_4:=k 0x153d49a57199daaf3edd4eaa1407359693dbe07b151190c
@[go_sem] def Q62_5:=k 0x3067d78df9c96c51b88a701c35d6ae2ba878c
@[go_sem] def Q62_6:=k 0x969564a344dcc
@[go_sem] def Q62_7:=k 0x7c90199a3c5a0
def Q62_8:TC:=(.seq (.reg Q62_2) (.seq (.cond (.t 13) .skip (.exit 0)) (.seq (.block 1 (.seq (.reg Q62_3) (.seq (.reg Q62_4) (.seq (.reg Q62_5) (.cond (.t 29) (.seq (.reg Q62_6) .ret) .skip))))) (.reg Q62_7))))
@[go_sem] def Q62_9:=k 0x319d4537cbfd4d
def t_Q62:TF:=⟨33,[.t 4,.t 5],(.seq (.reg Q62_0) (.seq (.seq (.reg Q62_1) (.block 0 (.loop Q62_8))) (.seq (.reg Q62_9) .ret)))⟩
/-! horarium/fold.leaves -/
@[go_sem] def Q63_0:=k 0x94f4
@[go_sem] def Q63_1:=k 0xd4b4
@[go_sem] def Q63_2:=k 0xc47535a93cc
@[go_sem] def Q63_3:=k 0x8321b28
@[go_sem] def Q63_4:=k 0x5480f02da922396bc5304
@[go_sem] def Q63_5:=k 0x8522b41cec461f3f8e1380078c0c4efa4c
@[go_sem] def Q63_6:=k 0x4878e4da488e0
def Q63_7:TC:=(.seq (.reg Q63_3) (.seq (.cond (.t 9) .skip (.exit 0)) (.seq (.block 1 (.seq (.reg Q63_4) (.reg Q63_5))) (.reg Q63_6))))
@[go_sem] def Q63_8:=k 0x25d933e9b88c
def t_Q63:TF:=⟨20,[.t 2],(.seq (.reg Q63_0) (.seq (.reg Q63_1) (.seq (.seq (.reg Q63_2) (.block 0 (.loop Q63_7))) (.seq (.reg Q63_8) .ret))))⟩
/-! horarium/fold.best -/
@[go_sem] def Q64_0:=k 0x11614
@[go_sem] def Q64_1:=k 0x155d4
@[go_sem] def Q64_2:=k 0xc96b3abd28c
@[go_sem] def Q64_3:=k 0xd5631e8
@[go_sem] def Q64_4:=k 0x1e28ac78698c
@[go_sem] def Q64_5:=k 0x1d398
@[go_sem] def Q64_6:=k 0xa0b58
@[go_sem] def Q64_7:=k 0x132022a4c92ac649f279ca510f3dafb0e14c
@[go_sem] def Q64_8:=k 0x1fd7f38f42663dc8d66f398d0e31f35790799948584a119bca9df0d
@[go_sem] def Q64_9:=k 0x91b4363136504805e52d53d7c8ccd
@[go_sem] def Q64_10:=k 0xa4bb4d744874f19017a1710985c1ead1bcd
@[go_sem] def Q64_11:=k 0x2aae29c5e4a8d
@[go_sem] def Q64_12:=k 0x2d9f648e56eb486aa0d
@[go_sem] def Q64_13:=k 0x304acab91582fce33edc9f884a70ce9da8566edc6f398d
@[go_sem] def Q64_14:=k 0x172e21534981e3868468781b3d33e61678d
@[go_sem] def Q64_15:=k 0xbfd169968d64d8f8c
def Q64_16:TC:=(.seq (.seq (.reg Q64_7) (.cond (.t 22) .skip (.exit 2))) (.seq (.block 3 (.seq (.reg Q64_8) (.seq (.reg Q64_9) (.seq (.reg Q64_10) (.seq (.seq (.reg Q64_11) (.cond (.t 44) (.reg Q64_12) .skip)) (.seq (.reg Q64_13) (.cond (.t 54) (.reg Q64_14) .skip))))))) (.reg Q64_15)))
@[go_sem] def Q64_17:=k 0xeef49eb0eaf661
def Q64_18:TC:=(.seq (.reg Q64_3) (.seq (.cond (.t 14) .skip (.exit 0)) (.seq (.block 1 (.seq (.reg Q64_4) (.seq (.reg Q64_5) (.seq (.reg Q64_6) (.block 2 (.loop Q64_16)))))) (.reg Q64_17))))
@[go_sem] def Q64_19:=k 0x4ecdfb46fa6d
def t_Q64:TF:=⟨62,[.cell 4 4 true],(.seq (.reg Q64_0) (.seq (.reg Q64_1) (.seq (.seq (.reg Q64_2) (.block 0 (.loop Q64_18))) (.seq (.reg Q64_19) .ret))))⟩
/-! horarium/fold.same -/
@[go_sem] def Q65_0:=k 0x682cf4
@[go_sem] def Q65_1:=k 0x68ac74
@[go_sem] def Q65_2:=k 0xc67137b134c
@[go_sem] def Q65_3:=k 0xa408aa8
@[go_sem] def Q65_4:=k 0x74fd968bd424f9fcac280
@[go_sem] def Q65_5:=k 0x129e48ecdb71651e339f08e677b55d2071cc
@[go_sem] def Q65_6:=k 0x5e6c544a4d8c1aeff0962c9298e84c
@[go_sem] def Q65_7:=k 0x6480813a44720
def Q65_8:TC:=(.seq (.reg Q65_3) (.seq (.cond (.t 11) .skip (.exit 0)) (.seq (.block 1 (.seq (.reg Q65_4) (.seq (.reg Q65_5) (.reg Q65_6)))) (.reg Q65_7))))
@[go_sem] def Q65_9:=k 0xd4a6ef385fe5c9736ecc
def t_Q65:TF:=⟨28,[.t 2,.t 3],(.seq (.reg Q65_0) (.seq (.reg Q65_1) (.seq (.seq (.reg Q65_2) (.block 0 (.loop Q65_8))) (.seq (.reg Q65_9) .ret))))⟩
/-! horarium/fold.joined -/
@[go_sem] def Q66_0:=k 0x94f4
@[go_sem] def Q66_1:=k 0x142dae0a3cca144c
@[go_sem] def Q66_2:=k 0x1bcc1267455a93cc
@[go_sem] def Q66_3:=k 0x12011fe73b0c
@[go_sem] def Q66_4:=k 0x1f27ab20d3380dd975163fddfa55414dd99b92cc
def t_Q66:TF:=⟨17,[.t 2],(.seq (.reg Q66_0) (.seq (.reg Q66_1) (.seq (.seq (.reg Q66_2) (.cond (.t 8) (.seq (.reg Q66_3) .ret) .skip)) (.seq (.reg Q66_4) .ret))))⟩
/-! slices.Concat[[]horarium/api.Node,horarium/api.Node] -/
@[go_sem] def Q67_0:=k 0x94f4
@[go_sem] def Q67_1:=k 0xd498
@[go_sem] def Q67_2:=k 0xc76f38b530c
@[go_sem] def Q67_3:=k 0xb47c268
@[go_sem] def Q67_4:=k 0x7002b668d62d1fa40
@[go_sem] def Q67_5:=k 0x2381b6c503bdbd80217168b98c
@[go_sem] def Q67_6:=k 0x25b43b07b88c
@[go_sem] def Q67_7:=k 0x57bd42b4
@[go_sem] def Q67_8:=k 0x58b8356a287e0
def Q67_9:TC:=(.seq (.reg Q67_3) (.seq (.cond (.t 12) .skip (.exit 0)) (.seq (.block 1 (.seq (.reg Q67_4) (.seq (.reg Q67_5) (.seq (.reg Q67_6) (.cond (.t 20) (.reg Q67_7) .skip))))) (.reg Q67_8))))
@[go_sem] def Q67_10:=k 0x5fa9740c256eb78c
@[go_sem] def Q67_11:=k 0xd74f48f4f0c
@[go_sem] def Q67_12:=k 0x1bbb3e68
@[go_sem] def Q67_13:=k 0xef41fa24193457640
@[go_sem] def Q67_14:=k 0x8256dbc27fbc35f6e5b6d8d
@[go_sem] def Q67_15:=k 0x88a277c8ac7ce1
def Q67_16:TC:=(.seq (.reg Q67_12) (.seq (.cond (.t 28) .skip (.exit 2)) (.seq (.block 3 (.seq (.reg Q67_13) (.reg Q67_14))) (.reg Q67_15))))
@[go_sem] def Q67_17:=k 0x22c36679c6c8d
def t_Q67:TF:=⟨36,[.t 2],(.seq (.reg Q67_0) (.seq (.reg Q67_1) (.seq (.seq (.reg Q67_2) (.block 0 (.loop Q67_9))) (.seq (.reg Q67_10) (.seq (.seq (.reg Q67_11) (.block 2 (.loop Q67_16))) (.seq (.reg Q67_17) .ret))))))⟩
/-! slices.Concat[[][]horarium/api.Node,[]horarium/api.Node] -/
@[go_sem] def Q68_0:=k 0x94f4
@[go_sem] def Q68_1:=k 0xd498
@[go_sem] def Q68_2:=k 0xc76f38b530c
@[go_sem] def Q68_3:=k 0xb47c268
@[go_sem] def Q68_4:=k 0x7002b668d62d1fa40
@[go_sem] def Q68_5:=k 0x2381b6c503bdbd80217168b98c
@[go_sem] def Q68_6:=k 0x25b43b07b88c
@[go_sem] def Q68_7:=k 0x57bd42b4
@[go_sem] def Q68_8:=k 0x58b8356a287e0
def Q68_9:TC:=(.seq (.reg Q68_3) (.seq (.cond (.t 12) .skip (.exit 0)) (.seq (.block 1 (.seq (.reg Q68_4) (.seq (.reg Q68_5) (.seq (.reg Q68_6) (.cond (.t 20) (.reg Q68_7) .skip))))) (.reg Q68_8))))
@[go_sem] def Q68_10:=k 0x5fa9740c266db78c
@[go_sem] def Q68_11:=k 0xd74f48f4f0c
@[go_sem] def Q68_12:=k 0x1bbb3e68
@[go_sem] def Q68_13:=k 0xef41fa24193457640
@[go_sem] def Q68_14:=k 0x8256dbc27fb04deae5b6d8d
@[go_sem] def Q68_15:=k 0x88a277c8ac7ce1
def Q68_16:TC:=(.seq (.reg Q68_12) (.seq (.cond (.t 28) .skip (.exit 2)) (.seq (.block 3 (.seq (.reg Q68_13) (.reg Q68_14))) (.reg Q68_15))))
@[go_sem] def Q68_17:=k 0x22c36679c6c8d
def t_Q68:TF:=⟨36,[.t 2],(.seq (.reg Q68_0) (.seq (.reg Q68_1) (.seq (.seq (.reg Q68_2) (.block 0 (.loop Q68_9))) (.seq (.reg Q68_10) (.seq (.seq (.reg Q68_11) (.block 2 (.loop Q68_16))) (.seq (.reg Q68_17) .ret))))))⟩
/-! horarium/node.Length -/
@[go_sem] def Q69_0:=k 0xbf494d8
@[go_sem] def Q69_1:=k 0xdd929f07e993cc
@[go_sem] def Q69_2:=k 0xbf494d8
@[go_sem] def Q69_3:=k 0xca6440adae07067176ce7236590f3f492cc
@[go_sem] def Q69_4:=k 0xde8dbe69cc
@[go_sem] def Q69_5:=k 0x94d6e6df8e94c
@[go_sem] def Q69_6:=k 0xbf494d8
def t_Q69:TF:=⟨17,[.t 2,.t 3],(.seq (.reg Q69_0) (.seq (.seq (.reg Q69_1) (.cond (.t 8) (.seq (.reg Q69_2) .ret) .skip)) (.seq (.seq (.reg Q69_3) (.seq (.reg Q69_4) (.cond (.t 15) (.seq (.reg Q69_5) .ret) .skip))) (.seq (.reg Q69_6) .ret))))⟩
/-! horarium/node.whole -/
@[go_sem] def Q70_0:=k 0x94f0
@[go_sem] def Q70_1:=k 0x5c837948df29a372d010aaa7f91db811d31be8a07fec0c33dd29d48c
def t_Q70:TF:=⟨13,[.t 2],(.seq (.reg Q70_0) (.seq (.reg Q70_1) .ret))⟩
/-! horarium/node.Depth -/
@[go_sem] def Q71_0:=k 0x94d8
@[go_sem] def Q71_1:=k 0xbdf22f47d9540c
@[go_sem] def Q71_2:=k 0x94d8
@[go_sem] def Q71_3:=k 0xbad2eacc841bb9a3ef8b92eb12533e4530c
@[go_sem] def Q71_4:=k 0x19f127e83a0c
def t_Q71:TF:=⟨14,[.t 2],(.seq (.reg Q71_0) (.seq (.seq (.reg Q71_1) (.cond (.t 7) (.seq (.reg Q71_2) .ret) .skip)) (.seq (.reg Q71_3) (.seq (.reg Q71_4) .ret))))⟩
/-! horarium/horariumref3.Depth -/
@[go_sem] def Q72_0:=k 0x94d8
@[go_sem] def Q72_1:=k 0xc3362cc123a5a8ad4e6433545316e821d2f13ff463c529d48c
@[go_sem] def Q72_2:=k 0x94d8
@[go_sem] def Q72_3:=k 0x6f44f4299fbe0520c
def t_Q72:TF:=⟨15,[.t 2],(.seq (.reg Q72_0) (.seq (.seq (.reg Q72_1) (.cond (.t 12) (.seq (.reg Q72_2) .ret) .skip)) (.seq (.reg Q72_3) .ret)))⟩
/-! horarium/horariumref3.Length -/
@[go_sem] def Q73_0:=k 0xbf494d8
@[go_sem] def Q73_1:=k 0x17b865fbf6d8540c
@[go_sem] def Q73_2:=k 0xbf494d8
@[go_sem] def Q73_3:=k 0x483afd325f2de134c
@[go_sem] def Q73_4:=k 0x9f206272cc
@[go_sem] def Q73_5:=k 0xbf494d8
@[go_sem] def Q73_6:=k 0x9457e65eff24c
def t_Q73:TF:=⟨13,[.t 2,.t 3],(.seq (.reg Q73_0) (.seq (.seq (.reg Q73_1) (.cond (.t 7) (.seq (.reg Q73_2) .ret) .skip)) (.seq (.reg Q73_3) (.seq (.seq (.reg Q73_4) (.cond (.t 11) (.seq (.reg Q73_5) .ret) .skip)) (.seq (.reg Q73_6) .ret)))))⟩
/-! horarium/horariumref3.leaves -/
@[go_sem] def Q74_0:=k 0x193f4
@[go_sem] def Q74_1:=k 0x197f815e04c66c7312bd0f92cc
@[go_sem] def Q74_2:=k 0x41671e19e097c
@[go_sem] def Q74_3:=kd 0x42b6038994ddd794d5503cfcc3c7ce1daa4faffe04bcd5990c3517350f22eb184d7d40c618aea63f4
@[go_sem] def Q74_4:=k 0x80f1efd4efed7d
@[go_sem] def Q74_5:=k 0x9e15fcadfd3cca1d58741262a1ef7ae3609ee5a85775f3c1c2d0d
@[go_sem] def Q74_6:=k 0xad48bc85128abd
@[go_sem] def Q74_7:=k 0x1d398
@[go_sem] def Q74_8:=k 0xae39326d5debee23247e5d09e0a35f3c6e9a4d
@[go_sem] def Q74_9:=k 0xded9c5843253f4558020cf7c4bf0c41480d
@[go_sem] def Q74_10:=k 0x33819a6a56ed09c588d
def Q74_11:TC:=(.seq (.seq (.reg Q74_8) (.cond (.t 50) .skip (.exit 1))) (.seq (.block 2 (.reg Q74_9)) (.reg Q74_10)))
@[go_sem] def Q74_12:=k 0x39a55d86266cd
@[go_sem] def Q74_13:=k 0x1b616e48e4d25cb4c42c68d
@[go_sem] def Q74_14:=k 0x3f3d8456a
@[go_sem] def Q74_15:=k 0x829a721ff00434186542
@[go_sem] def Q74_16:=k 0x112a534e142189d5579439dfb8e0c48e
@[go_sem] def Q74_17:=k 0x11bbfd50d441a3a2
def Q74_18:TC:=(.seq (.reg Q74_14) (.seq (.cond (.t 64) .skip (.exit 3)) (.seq (.block 4 (.seq (.reg Q74_15) (.reg Q74_16))) (.reg Q74_17))))
@[go_sem] def Q74_19:=k 0x23be6ce121c34e
def t_Q74:TF:=⟨73,[.t 6],(.seq (.reg Q74_0) (.seq (.seq (.reg Q74_1) (.block 0 (.seq (.reg Q74_2) (.cond (.t 15) (.seq (.dreg Q74_3) .ret) (.seq (.reg Q74_4) (.cond (.t 31) (.seq (.reg Q74_5) .ret) (.seq (.reg Q74_6) (.cond (.t 42) (.seq (.seq (.reg Q74_7) (.block 1 (.loop Q74_11))) (.seq (.reg Q74_12) .ret)) .skip)))))))) (.seq (.seq (.reg Q74_13) (.block 3 (.loop Q74_18))) (.seq (.reg Q74_19) .ret))))⟩
/-! horarium/horariumref7.words -/
@[go_sem] def Q75_0:=k 0x94f4
@[go_sem] def Q75_1:=k 0xd4b4
@[go_sem] def Q75_2:=k 0xc57336ad38c
@[go_sem] def Q75_3:=k 0x93952e8
@[go_sem] def Q75_4:=k 0x54fef32ba9c1f99c38ac4
@[go_sem] def Q75_5:=k 0x193d8
@[go_sem] def Q75_6:=k 0x881ecb3c4903f6e617a5c43c0b0aa62f61b14677e220c
@[go_sem] def Q75_7:=k 0xdb9d7f21e4002800522496c6568f74c
@[go_sem] def Q75_8:=k 0xb76acfff4d43d5fcc
def Q75_9:TC:=(.seq (.seq (.reg Q75_6) (.cond (.t 21) .skip (.exit 2))) (.seq (.block 3 (.reg Q75_7)) (.reg Q75_8)))
@[go_sem] def Q75_10:=k 0x7440d10a64620
def Q75_11:TC:=(.seq (.reg Q75_3) (.seq (.cond (.t 10) .skip (.exit 0)) (.seq (.block 1 (.seq (.reg Q75_4) (.seq (.reg Q75_5) (.block 2 (.loop Q75_9))))) (.reg Q75_10))))
@[go_sem] def Q75_12:=k 0x3bad49ec75cc
def t_Q75:TF:=⟨31,[.t 2],(.seq (.reg Q75_0) (.seq (.reg Q75_1) (.seq (.seq (.reg Q75_2) (.block 0 (.loop Q75_11))) (.seq (.reg Q75_12) .ret))))⟩
/-! horarium/horariumref7.depends -/
@[go_sem] def Q76_0:=k 0x193f0
@[go_sem] def Q76_1:=k 0x1ca9987f0526cb8c
@[go_sem] def Q76_2:=k 0x19454
@[go_sem] def Q76_3:=k 0x2704d421f54aa87187c5a172c6a24aaae17b6e2d23f3b905e079eaf94b1626bf7f7b40d02e8eef299b9853f1216f416204c8b3760635e1369c1f73ed51a7d30fda4309b730b663643feb476c2a35e7aac388c8438315d8c7bf9edca7893540d278a82cd
def t_Q76:TF:=⟨46,[.t 6],(.seq (.reg Q76_0) (.seq (.seq (.reg Q76_1) (.cond (.t 9) (.seq (.reg Q76_2) .ret) .skip)) (.seq (.reg Q76_3) .ret)))⟩
/-! horarium/horariumref7.Project -/
@[go_sem] def Q77_0:=k 0x193f4
@[go_sem] def Q77_1:=k 0x1d3b4
@[go_sem] def Q77_2:=k 0xc86d39b92cc
@[go_sem] def Q77_3:=k 0xc4efa28
@[go_sem] def Q77_4:=k 0x957a7c22eea03a2d93204
@[go_sem] def Q77_5:=k 0x4fd08cc2b679f372696ff491cd717166e2ba86d7e9bd5fcbc954
@[go_sem] def Q77_6:=k 0x395354c04a530bf253fab256cc
@[go_sem] def Q77_7:=k 0x7898159a385e0
def Q77_8:TC:=(.seq (.reg Q77_3) (.seq (.cond (.t 13) .skip (.exit 0)) (.seq (.block 1 (.seq (.reg Q77_4) (.seq (.reg Q77_5) (.cond (.t 25) (.reg Q77_6) .skip)))) (.reg Q77_7))))
@[go_sem] def Q77_9:=k 0x7ee5a97a10ae35d8d
def t_Q77:TF:=⟨33,[.t 6],(.seq (.reg Q77_0) (.seq (.reg Q77_1) (.seq (.seq (.reg Q77_2) (.block 0 (.loop Q77_8))) (.seq (.reg Q77_9) .ret))))⟩
/-! horarium/horariumref7.All -/
@[go_sem] def Q78_0:=k 0x11474
@[go_sem] def Q78_1:=k 0x15434
@[go_sem] def Q78_2:=k 0xc76f38b530c
@[go_sem] def Q78_3:=k 0xb47c268
@[go_sem] def Q78_4:=k 0x1a30a867fa0c
@[go_sem] def Q78_5:=k 0x786950010c43b61cc
@[go_sem] def Q78_6:=k 0x82714290b099f138d94c
@[go_sem] def Q78_7:=k 0x1133cbb3acb59c21218da25fcc
@[go_sem] def Q78_8:=k 0x1970043075bf06f9134f0c
@[go_sem] def Q78_9:=k 0x8801e8d1c3947dd22c682328fb5651e79ed65e2afe0d
@[go_sem] def Q78_10:=k 0xa7d9e08f8d044d84c
def Q78_11:TC:=(.seq (.seq (.reg Q78_6) (.cond (.t 19) .skip (.exit 2))) (.seq (.block 3 (.seq (.reg Q78_7) (.seq (.reg Q78_8) (.cond (.t 28) (.reg Q78_9) .skip)))) (.reg Q78_10)))
@[go_sem] def Q78_12:=k 0x8f947e88ecfc61
def Q78_13:TC:=(.seq (.reg Q78_3) (.seq (.cond (.t 12) .skip (.exit 0)) (.seq (.block 1 (.seq (.reg Q78_4) (.seq (.reg Q78_5) (.block 2 (.loop Q78_11))))) (.reg Q78_12))))
@[go_sem] def Q78_14:=k 0x24c75880cfc0d
def t_Q78:TF:=⟨38,[.t 4],(.seq (.reg Q78_0) (.seq (.reg Q78_1) (.seq (.seq (.reg Q78_2) (.block 0 (.loop Q78_13))) (.seq (.reg Q78_14) .ret))))⟩
/-! horarium/horariumref7.Do -/
@[go_sem] def Q79_0:=k 0xcfbccc8
@[go_sem] def Q79_1:=k 0x4051939bbfb35b897c9c
@[go_sem] def Q79_2:=k 0x49ea449278479bee3fe67893bfb81c0bd45d944e1364e87c32cb2cb81c2534c99e8d80bf434f1261d19a3b14
@[go_sem] def Q79_3:=k 0x33dd021b66cc
@[go_sem] def Q79_4:=k 0x3594b79cb694
@[go_sem] def Q79_5:=kd 0x23d6eae2dcad1ec64ef1cffa4fe5e73b4433e2adedc4baa675a19c213ff564d97a2e69a7a9d7f2f9b0fefacb3fcf19a7ad6545b82a06534d82ba16d0d90f4f07bc7ecb94ffa7f1f327f967f5
@[go_sem] def Q79_6:=kd 0xcffb385e0a247c68ca75f795b9bb12f943dc878e1557bb8cbd2a2c9c80b160aae03ac7b54895bfb4aee4c18077b640afaba9f73a4e0e51a090ea22054e8fd18a6fbbf9f91c5e810394e17bb876b6ba84f6
@[go_sem] def Q79_7:=k 0x12c95d3a9f91662228e
def t_Q79:TF:=⟨77,[.t 4],(.seq (.reg Q79_0) (.seq (.reg Q79_1) (.seq (.seq (.reg Q79_2) (.cond (.t 25) (.seq (.reg Q79_3) .ret) .skip)) (.seq (.seq (.reg Q79_4) (.cond (.t 28) (.dreg Q79_5) (.dreg Q79_6))) (.seq (.reg Q79_7) .ret)))))⟩
/-! (horarium/reduce.rows).tidy -/
@[go_sem] def Q80_0:=k 0xbe8dbbccc8
@[go_sem] def Q80_1:=k 0x2068b34d6215d38c
@[go_sem] def Q80_2:=k 0x6532149e2421e26266babb3473498f230c
def t_Q80:TF:=⟨14,[.t 4,.t 5],(.seq (.reg Q80_0) (.seq (.reg Q80_1) (.seq (.reg Q80_2) .ret)))⟩
/-! horarium/reduce.pass -/
@[go_sem] def Q81_0:=k 0x127d75548
@[go_sem] def Q81_1:=k 0x61913d5d128
def t_Q81:TF:=⟨4,[.t 2],(.seq (.reg Q81_0) (.seq (.reg Q81_1) .ret))⟩
/-! horarium/horariumref3.Runs -/
@[go_sem] def Q82_0:=k 0x94f0
@[go_sem] def Q82_1:=k 0xd498
@[go_sem] def Q82_2:=k 0xc47535a93cc
@[go_sem] def Q82_3:=k 0x8321b28
@[go_sem] def Q82_4:=k 0x5480f02da922396bc5304
@[go_sem] def Q82_5:=k 0x181d6c8a5c15e3ee970bcb26196b3589598c7ee3a648e803b7f08cd2e1cc7739f9cc0a2b75935c34caa2d1d8a9ea54
@[go_sem] def Q82_6:=k 0x94f0
@[go_sem] def Q82_7:=k 0x21430252f14b9657496445e96da5635dcd
@[go_sem] def Q82_8:=k 0x8b6cda4cf8bca1
def Q82_9:TC:=(.seq (.reg Q82_3) (.seq (.cond (.t 9) .skip (.exit 0)) (.seq (.block 1 (.seq (.reg Q82_4) (.seq (.seq (.reg Q82_5) (.cond (.t 29) (.seq (.reg Q82_6) .ret) .skip)) (.reg Q82_7)))) (.reg Q82_8))))
@[go_sem] def Q82_10:=k 0x2cb3fdafe21e4006f3fe5744c9deeacbcef611b66c6950966fc2891fd0ae6f44ed0c4d
def t_Q82:TF:=⟨48,[.t 2],(.seq (.reg Q82_0) (.seq (.reg Q82_1) (.seq (.seq (.reg Q82_2) (.block 0 (.loop Q82_9))) (.seq (.reg Q82_10) .ret))))⟩
/-! horarium/horariumref6.Table -/
@[go_sem] def Q83_0:=k 0x94f4
@[go_sem] def Q83_1:=k 0x13c73ee71f0530c
@[go_sem] def Q83_2:=k 0x94f4
@[go_sem] def Q83_3:=k 0x33ce0e69f197124c
@[go_sem] def Q83_4:=k 0x495f742e6f22fda91eeb321bd30acceaebac32deb98c
@[go_sem] def Q83_5:=k 0x27b03725e04c
@[go_sem] def Q83_6:=k 0x5b36e68056cd77cc
@[go_sem] def Q83_7:=k 0x8232929bf1bebf4777029aa02f8fd331a69ef3e126c36b451836847f92981af4d
@[go_sem] def Q83_8:=k 0xa2b0249e34726fa1d542314d4e27f7a315b39e46afb9d5d
@[go_sem] def Q83_9:=k 0x3117b2770db63789ff9b8df447634f8ee6940fbc909939abd3e4a8d
def Q83_10:TC:=(.block 1 (.seq (.reg Q83_4) (.seq (.seq (.reg Q83_5) (.cond (.t 21) (.seq (.reg Q83_6) .ret) .skip)) (.seq (.reg Q83_7) (.seq (.reg Q83_8) (.reg Q83_9))))))
def t_Q83:TF:=⟨52,[.t 2],(.seq (.reg Q83_0) (.seq (.seq (.reg Q83_1) (.cond (.t 11) (.seq (.reg Q83_2) .ret) .skip)) (.seq (.reg Q83_3) (.block 0 (.loop Q83_10)))))⟩
/-! horarium/move.Do -/
@[go_sem] def Q84_0:=k 0xcfbccc8
@[go_sem] def Q84_1:=k 0x243d1ef97a0e134c
@[go_sem] def Q84_2:=k 0x5e8e438a0f63ad2792cc
@[go_sem] def Q84_3:=k 0x1c0cea1869cc
@[go_sem] def Q84_4:=kd 0xbad1ee5a539d55f0be2e94eda52d27894
@[go_sem] def Q84_5:=k 0x25b4a79ab894
@[go_sem] def Q84_6:=kd 0xf91744e4ec5e79e1606f3c90b977a7a94
@[go_sem] def Q84_7:=kd 0x1065e5f8c558829c937df83225fe763e5433b020aa42c9afff800cdc4d175f4cc88ee483931ca711bd61046bbf5
@[go_sem] def Q84_8:=k 0xa8b56126d7a0123fe30749e0dbb4d
@[go_sem] def Q84_9:=k 0xb22aa519ca9eaba4d
def t_Q84:TF:=⟨46,[.t 4],(.seq (.reg Q84_0) (.seq (.reg Q84_1) (.seq (.seq (.reg Q84_2) (.cond (.t 13) (.seq (.reg Q84_3) .ret) .skip)) (.seq (.dreg Q84_4) (.seq (.seq (.reg Q84_5) (.cond (.t 20) (.dreg Q84_6) .skip)) (.seq (.dreg Q84_7) (.seq (.reg Q84_8) (.seq (.reg Q84_9) .ret))))))))⟩
/-! slices.IndexFunc[[]horarium/move.Move,horarium/move.Move] -/
@[go_sem] def Q85_0:=k 0x11458
@[go_sem] def Q85_1:=k 0xc47535a93cc
@[go_sem] def Q85_2:=k 0x8321b28
@[go_sem] def Q85_3:=k 0x142cc23f52cc
@[go_sem] def Q85_4:=k 0x2cd062909d3b0ade61e69f6907ca8c
@[go_sem] def Q85_5:=k 0x2200f019290c
@[go_sem] def Q85_6:=k 0x4878e4da488e0
def Q85_7:TC:=(.seq (.reg Q85_2) (.seq (.cond (.t 9) .skip (.exit 0)) (.seq (.block 1 (.seq (.reg Q85_3) (.seq (.reg Q85_4) (.cond (.t 16) (.seq (.reg Q85_5) .ret) .skip)))) (.reg Q85_6))))
@[go_sem] def Q85_8:=k 0x114d8
def t_Q85:TF:=⟨19,[.t 4],(.seq (.reg Q85_0) (.seq (.seq (.reg Q85_1) (.block 0 (.loop Q85_7))) (.seq (.reg Q85_8) .ret)))⟩
/-! horarium/move.May -/
@[go_sem] def Q86_0:=k 0x17efea170c88
@[go_sem] def Q86_1:=kd 0x7e11cd100d669ed50f91470ada0cc331d4e73c1b3982a07294f55bcee4289c6d27da05c09866bfafb664186822265a0f4
@[go_sem] def Q86_2:=k 0x193f0
@[go_sem] def Q86_3:=k 0x1d1db15ecdbd841aa287cb36eac8a130ca4d9532ce8d
@[go_sem] def Q86_4:=k 0x2853300fb4fed79a60c4200c870c3c47bb730e8a3e9428653ce9d8cd95344d0d
def t_Q86:TF:=⟨43,[.t 6],(.seq (.reg Q86_0) (.seq (.seq (.dreg Q86_1) (.cond (.t 26) (.seq (.reg Q86_2) .ret) .skip)) (.seq (.reg Q86_3) (.seq (.reg Q86_4) .ret))))⟩
/-! horarium/graph.square -/
@[go_sem] def Q87_0:=k 0x94f4
@[go_sem] def Q87_1:=k 0xd4b4
@[go_sem] def Q87_2:=k 0x5fb144c
@[go_sem] def Q87_3:=k 0x51c73e8
@[go_sem] def Q87_4:=k 0x56c58f93ce531fb9de449e04316bb8c
@[go_sem] def Q87_5:=k 0x30498c4a60a60
def Q87_6:TC:=(.seq (.reg Q87_3) (.seq (.cond (.t 6) .skip (.exit 0)) (.seq (.block 1 (.reg Q87_4)) (.reg Q87_5))))
@[go_sem] def Q87_7:=k 0x19f127e83a0c
def t_Q87:TF:=⟨14,[.t 2],(.seq (.reg Q87_0) (.seq (.reg Q87_1) (.seq (.seq (.reg Q87_2) (.block 0 (.loop Q87_6))) (.seq (.reg Q87_7) .ret))))⟩
/-! horarium/graph.is -/
@[go_sem] def Q88_0:=k 0x44d6e49508
@[go_sem] def Q88_1:=k 0x32866a26a6f6c1e7dabc025d26f7d8a67a63ff114cd4ebe74c0c
def t_Q88:TF:=⟨14,[.t 4],(.seq (.reg Q88_0) (.seq (.reg Q88_1) .ret))⟩
/-! horarium/word.Differ -/
@[go_sem] def Q89_0:=k 0x17d01dfb93d8
@[go_sem] def Q89_1:=k 0x2d298
@[go_sem] def Q89_2:=k 0xb27e294
@[go_sem] def Q89_3:=k 0x1a604897fa0c
@[go_sem] def Q89_4:=k 0x1c6c2a9849cc
@[go_sem] def Q89_5:=k 0x1e23739e818c
@[go_sem] def Q89_6:=k 0x16169552730f0884918aac111c5377f1b8b27de4652f7ee1c8f9af6c8d2dd94fb3b08b2d1facb711be58b08d
@[go_sem] def Q89_7:=k 0x93ea86a9610a1aa3f0c3c8d
@[go_sem] def Q89_8:=k 0x90df5a878ca5c010c
def Q89_9:TC:=(.seq (.seq (.reg Q89_5) (.cond (.t 16) .skip (.exit 2))) (.seq (.block 3 (.seq (.reg Q89_6) (.cond (.t 34) (.seq (.reg Q89_7) .ret) .skip))) (.reg Q89_8)))
@[go_sem] def Q89_10:=k 0x938c8288ed3c21
def Q89_11:TC:=(.seq (.reg Q89_2) (.seq (.cond (.t 12) .skip (.exit 0)) (.seq (.block 1 (.seq (.reg Q89_3) (.seq (.reg Q89_4) (.block 2 (.loop Q89_9))))) (.reg Q89_10))))
@[go_sem] def Q89_12:=k 0xa2d2f6d24d29d052fb45143c212e8f0eb18bcd
def t_Q89:TF:=⟨43,[.t 6,.t 7,.t 8],(.seq (.reg Q89_0) (.seq (.seq (.reg Q89_1) (.block 0 (.loop Q89_11))) (.seq (.reg Q89_12) .ret)))⟩
/-! horarium/runs.part -/
@[go_sem] def Q90_0:=k 0x94f0
@[go_sem] def Q90_1:=k 0xfb5a3f40df49d24d2f1ba2a9ec0855ffd48c
def t_Q90:TF:=⟨9,[.t 2],(.seq (.reg Q90_0) (.seq (.reg Q90_1) .ret))⟩
/-! horarium/horariumref12.Where -/
@[go_sem] def Q91_0:=k 0xbe811fa5548
@[go_sem] def Q91_1:=k 0x8a93521f59c24757bf599401dde52ba9e643deb65a9286b74ab35100b3433d6b1a4a21efaa4aa4ec2fed40a88d1d588e656af537dcc4d9f5b693066bf031a04d01ca2809b3177d931e0fc140155
@[go_sem] def Q91_2:=k 0x6127cd8
@[go_sem] def Q91_3:=k 0x69ff9fd762bc1afa55
@[go_sem] def Q91_4:=k 0xbe2d2969
@[go_sem] def Q91_5:=k 0x5ac3e1acb651ca09a0abce2a81205590d
@[go_sem] def Q91_6:=k 0x352acbc9dde10f3c5cb855
@[go_sem] def Q91_7:=k 0xdd636c8c13375c74d
@[go_sem] def Q91_8:=k 0x193d8
@[go_sem] def Q91_9:=k 0xe4ebdff44ad61e70d
@[go_sem] def Q91_10:=kd 0x56987fd06cb13a40ab5c15d244ce8df70213fd3565d51a81bef33d96
@[go_sem] def Q91_11:=k 0x118b018d8188d31438e
@[go_sem] def Q91_12:=k 0x3c62c15e48f608ea64d
def Q91_13:TC:=(.seq (.seq (.reg Q91_9) (.cond (.t 59) .skip (.exit 2))) (.seq (.block 3 (.seq (.dreg Q91_10) (.cond (.t 70) (.seq (.reg Q91_11) .ret) .skip))) (.reg Q91_12)))
@[go_sem] def Q91_14:=k 0x2413b05476581645e
@[go_sem] def Q91_15:=k 0x128804947190d32428e
@[go_sem] def Q91_16:=k 0x12f18e87d542e262
def Q91_17:TC:=(.seq (.reg Q91_4) (.seq (.cond (.t 48) .skip (.exit 0)) (.seq (.block 1 (.seq (.reg Q91_5) (.seq (.seq (.reg Q91_6) (.cond (.t 55) (.seq (.reg Q91_7) .ret) .skip)) (.seq (.seq (.reg Q91_8) (.block 2 (.loop Q91_13))) (.seq (.reg Q91_14) (.cond (.t 74) (.seq (.reg Q91_15) .ret) .skip)))))) (.reg Q91_16))))
@[go_sem] def Q91_18:=k 0xd10817d7d0670232216
@[go_sem] def Q91_19:=k 0x504ea612a
@[go_sem] def Q91_20:=k 0x10ebc5e60bb7ad2b1d5de7bfc189e77a80ce
@[go_sem] def Q91_21:=k 0x15bc2cc841d89ec1079f1d6a9fe51c440c2
@[go_sem] def Q91_22:=k 0x167c10986198d95de8e
@[go_sem] def Q91_23:=k 0x16f9f19a6336de62
def Q91_24:TC:=(.seq (.reg Q91_19) (.seq (.cond (.t 81) .skip (.exit 4)) (.seq (.block 5 (.seq (.reg Q91_20) (.seq (.reg Q91_21) (.cond (.t 90) (.seq (.reg Q91_22) .ret) .skip)))) (.reg Q91_23))))
@[go_sem] def Q91_25:=k 0xd4fc2452d0e80171e16
@[go_sem] def Q91_26:=k 0x605ec5d2a
@[go_sem] def Q91_27:=k 0x31080fb654240eea4976706b0c7cce
@[go_sem] def Q91_28:=k 0x6629ca4ba533e9d905e9d7021083c6dbb81b83bce
@[go_sem] def Q91_29:=k 0x3496373f58face
@[go_sem] def Q91_30:=k 0xd69d922a71cb887ba697a4e
@[go_sem] def Q91_31:=k 0x36727df0a19ce
@[go_sem] def Q91_32:=k 0x706ee592a
@[go_sem] def Q91_33:=k 0xeac14e8c7f0db31f072e7906
@[go_sem] def Q91_34:=k 0xe6668c3ca22bfc7bfb4f51830999e1db3856
@[go_sem] def Q91_35:=k 0x1e24e7c8b190ddd56ce
@[go_sem] def Q91_36:=k 0x1eba596c613e96a2
def Q91_37:TC:=(.seq (.reg Q91_32) (.seq (.cond (.t 113) .skip (.exit 8)) (.seq (.block 9 (.seq (.reg Q91_33) (.seq (.reg Q91_34) (.cond (.t 121) (.seq (.reg Q91_35) .ret) .skip)))) (.reg Q91_36))))
@[go_sem] def Q91_38:=k 0x7c29233dc5b8af031bb0ed66e
@[go_sem] def Q91_39:=k 0xfc05003e398358f
@[go_sem] def Q91_40:=k 0x3ffd9eb2878f1475439498b50f
@[go_sem] def Q91_41:=k 0x208a9367b9a0a034a3
def Q91_42:TC:=(.seq (.reg Q91_26) (.seq (.cond (.t 97) .skip (.exit 6)) (.seq (.block 7 (.seq (.reg Q91_27) (.seq (.reg Q91_28) (.seq (.seq (.reg Q91_29) (.cond (.t 107) (.seq (.reg Q91_30) .ret) .skip)) (.seq (.seq (.reg Q91_31) (.block 8 (.loop Q91_37))) (.seq (.reg Q91_38) (.seq (.reg Q91_39) (.cond (.t 128) (.seq (.reg Q91_40) .ret) .skip)))))))) (.reg Q91_41))))
@[go_sem] def Q91_43:=k 0x25da94d8
def t_Q91:TF:=⟨132,[.t 2,.t 3],(.seq (.reg Q91_0) (.seq (.seq (.reg Q91_1) (.cond (.t 43) (.seq (.reg Q91_2) .ret) .skip)) (.seq (.seq (.reg Q91_3) (.block 0 (.loop Q91_17))) (.seq (.seq (.reg Q91_18) (.block 4 (.loop Q91_24))) (.seq (.seq (.reg Q91_25) (.block 6 (.loop Q91_42))) (.seq (.reg Q91_43) .ret))))))⟩
/-! (*horarium/cursor.Cursor).Reset -/
@[go_sem] def Q92_0:=k 0x4c7df3f163152fd3ae57a088e1e7101f4e2f4ea3d6dafe8922808fd94cc
@[go_sem] def Q92_1:=k 0x15d54accd28c
def t_Q92:TF:=⟨13,[],(.seq (.reg Q92_0) (.reg Q92_1))⟩
/-! horarium/cursor.part -/
@[go_sem] def Q93_0:=k 0x5fa5548
@[go_sem] def Q93_1:=k 0x201f1d4704588cc94
@[go_sem] def Q93_2:=k 0x9558
@[go_sem] def Q93_3:=k 0x37ec4b8354c888bd4
def t_Q93:TF:=⟨8,[.t 2],(.seq (.reg Q93_0) (.seq (.seq (.reg Q93_1) (.cond (.t 5) (.seq (.reg Q93_2) .ret) .skip)) (.seq (.reg Q93_3) .ret)))⟩
/-! (*horarium/cursor.Cursor).step -/
@[go_sem] def Q94_0:=k 0x3f15a5ae8db1d8c83c47202fd2e144c
@[go_sem] def Q94_1:=k 0xad99f28e684adbd7f530c
@[go_sem] def Q94_2:=k 0x3e83f0e3390e60faeca984fdb0124c
@[go_sem] def Q94_3:=kd 0x11ce81dbef3b46e8c24afab3eb665eb2fbf9895d6c3ad4b9075f236f544ef4
@[go_sem] def Q94_4:=k 0x89b95aa2fb09b06d1ff706f3519424063034232b1e0d
@[go_sem] def Q94_5:=k 0x263e8b455461137846e9a4ecdc4d
@[go_sem] def Q94_6:=kd 0x40b4b831df70cf09a251525275fadea9901cb4f034daf8fea5f88d0e5a75bbabf5
@[go_sem] def Q94_7:=k 0x37b67163267556949c9855be502931180d
@[go_sem] def Q94_8:=k 0xe8f0e6bf77c8286cd
@[go_sem] def Q94_9:=kd 0xf8102906badc00bfae7410bc58fdc1af87cb37da4ee869eb1d529bba56de9c2114f845a54efaee1d948907f6
def Q94_10:TC:=(.seq (.seq (.reg Q94_2) (.cond (.t 17) .skip (.exit 0))) (.block 1 (.seq (.dreg Q94_3) (.seq (.seq (.reg Q94_4) (.seq (.reg Q94_5) (.cond (.t 40) (.seq (.seq (.dreg Q94_6) (.cond (.t 52) (.reg Q94_7) .skip)) (.seq (.reg Q94_8) .ret)) .skip))) (.dreg Q94_9)))))
@[go_sem] def Q94_11:=k 0x13f14c0df97195902f53a68341be3d9ecbb903fb6a9afe2c28e
def t_Q94:TF:=⟨83,[],(.seq (.reg Q94_0) (.seq (.reg Q94_1) (.seq (.block 0 (.loop Q94_10)) (.reg Q94_11))))⟩
/-! horarium/runs.Add -/
@[go_sem] def Q95_0:=k 0x11458
@[go_sem] def Q95_1:=k 0x3e854b261a4365bc5ad454c9ad6540c
@[go_sem] def Q95_2:=k 0x499792193b53d70f530c
@[go_sem] def Q95_3:=k 0x116ac
@[go_sem] def Q95_4:=k 0xee67c44287f4a4b10520c
def t_Q95:TF:=⟨16,[.t 4],(.seq (.reg Q95_0) (.seq (.reg Q95_1) (.seq (.seq (.reg Q95_2) (.cond (.t 12) (.seq (.reg Q95_3) .ret) .skip)) (.seq (.reg Q95_4) .ret))))⟩
/-! slices.Clip[[]horarium/api.Run,horarium/api.Run] -/
@[go_sem] def Q96_0:=k 0x94f4
@[go_sem] def Q96_1:=k 0x7dad1f1fed6c5874867cde7eb5790fdd48c
def t_Q96:TF:=⟨9,[.t 2],(.seq (.reg Q96_0) (.seq (.reg Q96_1) .ret))⟩
/-! horarium/bound.spans -/
@[go_sem] def Q97_0:=k 0x11474
@[go_sem] def Q97_1:=k 0x15434
@[go_sem] def Q97_2:=k 0x193d8
@[go_sem] def Q97_3:=k 0xc86d39b92cc
@[go_sem] def Q97_4:=k 0xc4efa28
@[go_sem] def Q97_5:=k 0x85ba1c239de07a2d93204
@[go_sem] def Q97_6:=k 0x4babdceadf644db353807aee14c
@[go_sem] def Q97_7:=k 0x17fbe305e47ff5c10e3520000247200ae5c11ad67c4d054
@[go_sem] def Q97_8:=k 0x84a61fd06d4160785424910f4776d43dcafe0d
@[go_sem] def Q97_9:=k 0x22d3468cc3c8d
@[go_sem] def Q97_10:=k 0x8fa45e9ce8fc61
def Q97_11:TC:=(.seq (.reg Q97_4) (.seq (.cond (.t 13) .skip (.exit 0)) (.seq (.block 1 (.seq (.reg Q97_5) (.seq (.reg Q97_6) (.seq (.seq (.reg Q97_7) (.cond (.t 28) (.reg Q97_8) .skip)) (.reg Q97_9))))) (.reg Q97_10))))
@[go_sem] def Q97_12:=k 0x24c75880cfc0d
def t_Q97:TF:=⟨38,[.t 4],(.seq (.reg Q97_0) (.seq (.reg Q97_1) (.seq (.reg Q97_2) (.seq (.seq (.reg Q97_3) (.block 0 (.loop Q97_11))) (.seq (.reg Q97_12) .ret)))))⟩
/-! horarium/runs.Length -/
@[go_sem] def Q98_0:=k 0x94d8
@[go_sem] def Q98_1:=k 0xd498
@[go_sem] def Q98_2:=k 0xc47535a93cc
@[go_sem] def Q98_3:=k 0x8321b28
@[go_sem] def Q98_4:=k 0x5480f02da922396bc5304
@[go_sem] def Q98_5:=k 0x3b3ef5d11229186e5186765fa4c
@[go_sem] def Q98_6:=k 0x4088dcda40960
def Q98_7:TC:=(.seq (.reg Q98_3) (.seq (.cond (.t 9) .skip (.exit 0)) (.seq (.block 1 (.seq (.reg Q98_4) (.reg Q98_5))) (.reg Q98_6))))
@[go_sem] def Q98_8:=k 0x21e12fe9390c
def t_Q98:TF:=⟨18,[.t 2],(.seq (.reg Q98_0) (.seq (.reg Q98_1) (.seq (.seq (.reg Q98_2) (.block 0 (.loop Q98_7))) (.seq (.reg Q98_8) .ret))))⟩
/-! horarium/bound.next -/
@[go_sem] def Q99_0:=k 0x193d8
@[go_sem] def Q99_1:=k 0xc76f38b530c
@[go_sem] def Q99_2:=k 0xb47c268
@[go_sem] def Q99_3:=k 0x853c19259d40b9fd1fa44
@[go_sem] def Q99_4:=k 0x40f768a70d07833fab54613c98c
@[go_sem] def Q99_5:=k 0x17a2e58de033e7a6a22d785215015084c
@[go_sem] def Q99_6:=k 0x64a0416a34720
def Q99_7:TC:=(.seq (.reg Q99_2) (.seq (.cond (.t 12) .skip (.exit 0)) (.seq (.block 1 (.seq (.reg Q99_3) (.seq (.reg Q99_4) (.cond (.t 19) (.seq (.reg Q99_5) .ret) .skip)))) (.reg Q99_6))))
@[go_sem] def Q99_8:=k 0x3cb5a99154b949395231ae648102e77137ecc
def t_Q99:TF:=⟨32,[.t 6],(.seq (.reg Q99_0) (.seq (.seq (.reg Q99_1) (.block 0 (.loop Q99_7))) (.seq (.reg Q99_8) .ret)))⟩
/-! horarium/fold.leaf -/
@[go_sem] def Q100_0:=k 0x7d825548
@[go_sem] def Q100_1:=k 0xfecbc814588cc94
@[go_sem] def Q100_2:=k 0x478c2c7dd9025acc888bd4
@[go_sem] def Q100_3:=k 0x4bdfa5dcff87af5f68d619ad9d18a4b14
def t_Q100:TF:=⟨14,[.cell 2 3 true],(.seq (.reg Q100_0) (.seq (.seq (.reg Q100_1) (.cond (.t 5) (.seq (.reg Q100_2) .ret) .skip)) (.seq (.reg Q100_3) .ret)))⟩
/-! horarium/fold.again -/
@[go_sem] def Q101_0:=k 0x193d8
@[go_sem] def Q101_1:=k 0x9cb98
@[go_sem] def Q101_2:=kd 0x52b6c8fe31a3d52dfff9dfde48396073b3b13aba3eb3ec7cd3ffa61a689e01b1620d2adb7cb4503fbaebb6005066e8942808342d58319841f2908b68d4115e0622e6ef1f5bf5474b6d45f42dec34f38c24afc60f5
@[go_sem] def Q101_3:=k 0x27a5766a6ee10995b8d
def Q101_4:TC:=(.seq (.seq (.dreg Q101_2) (.cond (.t 38) .skip (.exit 0))) (.block 1 (.reg Q101_3)))
@[go_sem] def Q101_5:=k 0x28c74c8addb0d
def t_Q101:TF:=⟨42,[.t 6],(.seq (.reg Q101_0) (.seq (.reg Q101_1) (.seq (.block 0 (.loop Q101_4)) (.seq (.reg Q101_5) .ret))))⟩
/-! slices.IndexFunc[[][]horarium/api.Node,[]horarium/api.Node] -/
@[go_sem] def Q102_0:=k 0x11458
@[go_sem] def Q102_1:=k 0xc47535a93cc
@[go_sem] def Q102_2:=k 0x8321b28
@[go_sem] def Q102_3:=k 0x142cc23f52cc
@[go_sem] def Q102_4:=k 0x2cd062909656e0c6f64ad36907ca8c
@[go_sem] def Q102_5:=k 0x2200f019290c
@[go_sem] def Q102_6:=k 0x4878e4da488e0
def Q102_7:TC:=(.seq (.reg Q102_2) (.seq (.cond (.t 9) .skip (.exit 0)) (.seq (.block 1 (.seq (.reg Q102_3) (.seq (.reg Q102_4) (.cond (.t 16) (.seq (.reg Q102_5) .ret) .skip)))) (.reg Q102_6))))
@[go_sem] def Q102_8:=k 0x114d8
def t_Q102:TF:=⟨19,[.t 4],(.seq (.reg Q102_0) (.seq (.seq (.reg Q102_1) (.block 0 (.loop Q102_7))) (.seq (.reg Q102_8) .ret)))⟩
/-! horarium/fold.same$1 -/
@[go_sem] def Q103_0:=k 0xd4b0
@[go_sem] def Q103_1:=k 0x602661390b361db060c50
def t_Q103:TF:=⟨7,[.t 3],(.seq (.reg Q103_0) (.seq (.reg Q103_1) .ret))⟩
/-! slices.Equal[[]horarium/api.Node,horarium/api.Node] -/
@[go_sem] def Q104_0:=k 0x11470
@[go_sem] def Q104_1:=k 0x723f5d157870d4972d5a93cc
@[go_sem] def Q104_2:=k 0x11470
@[go_sem] def Q104_3:=k 0xc96b3abd28c
@[go_sem] def Q104_4:=k 0xd5631e8
@[go_sem] def Q104_5:=k 0x1e18cc68698c
@[go_sem] def Q104_6:=kd 0x6522adff41c1392c6934b28bb6e17e42ba695a6faaf8f4
@[go_sem] def Q104_7:=k 0x11470
@[go_sem] def Q104_8:=k 0x64dfc1ca14720
def Q104_9:TC:=(.seq (.reg Q104_4) (.seq (.cond (.t 14) .skip (.exit 0)) (.seq (.block 1 (.seq (.reg Q104_5) (.seq (.dreg Q104_6) (.cond (.t 24) (.seq (.reg Q104_7) .ret) .skip)))) (.reg Q104_8))))
@[go_sem] def Q104_10:=k 0x114d4
def t_Q104:TF:=⟨26,[.t 4],(.seq (.reg Q104_0) (.seq (.seq (.reg Q104_1) (.cond (.t 10) (.seq (.reg Q104_2) .ret) .skip)) (.seq (.seq (.reg Q104_3) (.block 0 (.loop Q104_9))) (.seq (.reg Q104_10) .ret))))⟩
/-! slices.Grow[[]horarium/api.Node,horarium/api.Node] -/
@[go_sem] def Q105_0:=k 0x11474
@[go_sem] def Q105_1:=k 0x9ec1ef44c0c
@[go_sem] def Q105_2:=k 0x57b9c65c
@[go_sem] def Q105_3:=k 0x1b37ba0fab1090a9f55c2aea20b443c7a9070b4c
@[go_sem] def Q105_4:=k 0x1dc438f0c98c
@[go_sem] def Q105_5:=k 0x180ceb9dbc3cf1fa99df0ea828ef94d8778de335128901510c
@[go_sem] def Q105_6:=k 0x33dd01f38ecc
def t_Q105:TF:=⟨27,[.t 4],(.seq (.reg Q105_0) (.seq (.seq (.reg Q105_1) (.cond (.t 6) (.reg Q105_2) .skip)) (.seq (.seq (.reg Q105_3) (.seq (.reg Q105_4) (.cond (.t 16) (.reg Q105_5) .skip))) (.seq (.reg Q105_6) .ret))))⟩
/-! slices.Grow[[][]horarium/api.Node,[]horarium/api.Node] -/
@[go_sem] def Q106_0:=k 0x11474
@[go_sem] def Q106_1:=k 0x9ec1ef44c0c
@[go_sem] def Q106_2:=k 0x57b9c65c
@[go_sem] def Q106_3:=k 0x1b37ba0fab1090a9f55c2aea20b443c7a9070b4c
@[go_sem] def Q106_4:=k 0x1dc438f0c98c
@[go_sem] def Q106_5:=k 0x180ceb9dbb8c8e3a3842cac5da2fa8c4802422f27e8901510c
@[go_sem] def Q106_6:=k 0x33dd01f38ecc
def t_Q106:TF:=⟨27,[.t 4],(.seq (.reg Q106_0) (.seq (.seq (.reg Q106_1) (.cond (.t 6) (.reg Q106_2) .skip)) (.seq (.seq (.reg Q106_3) (.seq (.reg Q106_4) (.cond (.t 16) (.reg Q106_5) .skip))) (.seq (.reg Q106_6) .ret))))⟩
/-! horarium/node.measure -/
@[go_sem] def Q107_0:=k 0x5fa94d8
@[go_sem] def Q107_1:=k 0x2c0596b19ef18fbc
@[go_sem] def Q107_2:=k 0xca693bc124c
@[go_sem] def Q107_3:=k 0xe5d69a8
@[go_sem] def Q107_4:=k 0x6735b1336261d0b07a1b4
@[go_sem] def Q107_5:=kd 0x6d9929acb8dc4b3d506090c456f6baae60a01e7549cef4
@[go_sem] def Q107_6:=k 0x1ace64d59e19a0faaf2f0c
@[go_sem] def Q107_7:=k 0x1f41e14dab0f5963a7e18e8c821dface4d
@[go_sem] def Q107_8:=k 0x9d690f06e39ed57bda2fff255ab1b553a296ddfc4ccd
@[go_sem] def Q107_9:=k 0xaa5ba0889565c1921122b15ad0410dca0ce2028d926c50f764bf11aec18ff4c566e0b0d
@[go_sem] def Q107_10:=kd 0x46f8524adc2dc3a876dcb0d11de443b01e6301a879d4980f8fce4c75ee691a84190de89905eb8b8e5af6
@[go_sem] def Q107_11:=k 0x86dcfa74777189ae5455066586ebb45fc50e
@[go_sem] def Q107_12:=k 0x2374c87e0c559953a4ad91083d6
@[go_sem] def Q107_13:=k 0x4e231db5de59e40457cb5fad7d67284b377bc0e36ccd91182d6
@[go_sem] def Q107_14:=k 0x153de05f34dff21fe2a183ad45c73acd96d66cd20103210e
@[go_sem] def Q107_15:=kd 0xa6342653d7cecc1f5a578255fed50fed7eed7e2cf49707f962e8b36f8d82394b630e7890f6
@[go_sem] def Q107_16:=kd 0x2df888c0acde322c8b7f8f14d46ac9042b576096882541a3e596971e7683121be9f6
def Q107_17:TC:=(.seq (.seq (.reg Q107_9) (.cond (.t 53) .skip (.exit 2))) (.block 3 (.seq (.dreg Q107_10) (.seq (.reg Q107_11) (.seq (.seq (.reg Q107_12) (.cond (.t 73) (.reg Q107_13) .skip)) (.seq (.reg Q107_14) (.seq (.dreg Q107_15) (.dreg Q107_16))))))))
@[go_sem] def Q107_18:=k 0x1b10b7b5475b1a22
def Q107_19:TC:=(.seq (.reg Q107_3) (.seq (.cond (.t 15) .skip (.exit 0)) (.seq (.block 1 (.seq (.reg Q107_4) (.seq (.dreg Q107_5) (.seq (.seq (.reg Q107_6) (.seq (.reg Q107_7) (.cond (.t 33) (.reg Q107_8) .skip))) (.block 2 (.loop Q107_17)))))) (.reg Q107_18))))
@[go_sem] def Q107_20:=kd 0x4ab6b7f214063b33f7c02ce5dc086a0f15080cddeb8264a4c39830813c2f6
def t_Q107:TF:=⟨118,[.t 2,.t 3],(.seq (.reg Q107_0) (.seq (.reg Q107_1) (.seq (.seq (.reg Q107_2) (.block 0 (.loop Q107_19))) (.seq (.dreg Q107_20) .ret))))⟩
/-! horarium/node.Size -/
@[go_sem] def Q108_0:=k 0x11458
@[go_sem] def Q108_1:=k 0x2876a3d95b9e57a9decb5a6c8828ad4bce4f50b4c
@[go_sem] def Q108_2:=k 0x11458
@[go_sem] def Q108_3:=k 0x94c18
@[go_sem] def Q108_4:=k 0x2024ae19094c
@[go_sem] def Q108_5:=k 0x8a90740f5939d131210c
@[go_sem] def Q108_6:=k 0x6a638b69985d6beb6f990c7d62cf8c
@[go_sem] def Q108_7:=k 0x37904d29d64c
@[go_sem] def Q108_8:=k 0x11458
@[go_sem] def Q108_9:=k 0x81c4d4436cb35a53489dd1e0b3dcd
@[go_sem] def Q108_10:=k 0x21bc25c1c3ccd
@[go_sem] def Q108_11:=k 0x993e12d0738e74952038de088ac4d
@[go_sem] def Q108_12:=k 0xaf82b7e78d23d200c
def Q108_13:TC:=(.seq (.seq (.reg Q108_5) (.cond (.t 20) .skip (.exit 0))) (.seq (.block 1 (.seq (.reg Q108_6) (.seq (.seq (.reg Q108_7) (.cond (.t 29) (.seq (.reg Q108_8) .ret) .skip)) (.seq (.reg Q108_9) (.seq (.reg Q108_10) (.cond (.t 35) (.seq (.reg Q108_11) .ret) .skip)))))) (.reg Q108_12)))
@[go_sem] def Q108_14:=k 0x11458
def t_Q108:TF:=⟨40,[.t 4],(.seq (.reg Q108_0) (.seq (.seq (.reg Q108_1) (.cond (.t 15) (.seq (.reg Q108_2) .ret) .skip)) (.seq (.reg Q108_3) (.seq (.seq (.reg Q108_4) (.block 0 (.loop Q108_13))) (.seq (.reg Q108_14) .ret)))))⟩
/-! horarium/horariumref3.Size -/
@[go_sem] def Q109_0:=k 0x11458
@[go_sem] def Q109_1:=k 0x2477312f2dec6506f9b42c4246ea16ec4e2f4cb8c
@[go_sem] def Q109_2:=k 0x11458
@[go_sem] def Q109_3:=k 0x94c18
@[go_sem] def Q109_4:=k 0x1e28ac18c98c
@[go_sem] def Q109_5:=k 0x82714290b099f130e14c
@[go_sem] def Q109_6:=k 0x32ce11a8f0e7e1216e4b09d628fcc
@[go_sem] def Q109_7:=k 0x11458
@[go_sem] def Q109_8:=k 0xe69c1fce0f125e64c
@[go_sem] def Q109_9:=k 0x2141b7dacfca446d35594b533fdd7b8dcd
@[go_sem] def Q109_10:=k 0xa324f2d51097cc96d87c47279e0c8f49925a3c4cbc4d
@[go_sem] def Q109_11:=k 0x2df862200239c47e79687b36f2dd7eca8d
@[go_sem] def Q109_12:=k 0x317fac5262eb07bf90d
@[go_sem] def Q109_13:=k 0x329a36c20788d
@[go_sem] def Q109_14:=k 0xdbecb86e6206c0909af0c6ca0e80d
@[go_sem] def Q109_15:=k 0xa79a9fcfcd03ce04c
def Q109_16:TC:=(.seq (.seq (.reg Q109_5) (.cond (.t 19) .skip (.exit 0))) (.seq (.block 1 (.seq (.seq (.reg Q109_6) (.cond (.t 27) (.seq (.reg Q109_7) .ret) .skip)) (.seq (.reg Q109_8) (.seq (.seq (.reg Q109_9) (.cond (.t 35) (.reg Q109_10) .skip)) (.seq (.seq (.reg Q109_11) (.cond (.t 48) (.reg Q109_12) .skip)) (.seq (.reg Q109_13) (.cond (.t 52) (.seq (.reg Q109_14) .ret) .skip))))))) (.reg Q109_15)))
@[go_sem] def Q109_17:=k 0x11458
def t_Q109:TF:=⟨57,[.t 4],(.seq (.reg Q109_0) (.seq (.seq (.reg Q109_1) (.cond (.t 14) (.seq (.reg Q109_2) .ret) .skip)) (.seq (.reg Q109_3) (.seq (.seq (.reg Q109_4) (.block 0 (.loop Q109_16))) (.seq (.reg Q109_17) .ret)))))⟩
/-! horarium/horariumref3.depth -/
@[go_sem] def Q110_0:=k 0x11458
@[go_sem] def Q110_1:=k 0x15418
@[go_sem] def Q110_2:=k 0x636e95d0ec5dfbb0f134c
@[go_sem] def Q110_3:=k 0xc4efa28
@[go_sem] def Q110_4:=k 0x78695000165d93200
@[go_sem] def Q110_5:=k 0x9d96ca914c3cd2c558637fb2928e94c
@[go_sem] def Q110_6:=k 0x54dff19a14820
def Q110_7:TC:=(.seq (.reg Q110_3) (.seq (.cond (.t 13) .skip (.exit 0)) (.seq (.block 1 (.seq (.reg Q110_4) (.reg Q110_5))) (.reg Q110_6))))
@[go_sem] def Q110_8:=k 0xb6ec4e7fcd43567cc
def t_Q110:TF:=⟨24,[.t 4],(.seq (.reg Q110_0) (.seq (.reg Q110_1) (.seq (.seq (.reg Q110_2) (.block 0 (.loop Q110_7))) (.seq (.reg Q110_8) .ret))))⟩
/-! horarium/horariumref3.length -/
@[go_sem] def Q111_0:=k 0x11458
@[go_sem] def Q111_1:=k 0x15418
@[go_sem] def Q111_2:=k 0x636e95d0ec5dfbb0f134c
@[go_sem] def Q111_3:=k 0xc4efa28
@[go_sem] def Q111_4:=k 0x78695000165d93200
@[go_sem] def Q111_5:=k 0x14983b635c4e7f645410154b43f72928e94c
@[go_sem] def Q111_6:=k 0x58d7f59a187e0
def Q111_7:TC:=(.seq (.reg Q111_3) (.seq (.cond (.t 13) .skip (.exit 0)) (.seq (.block 1 (.seq (.reg Q111_4) (.reg Q111_5))) (.reg Q111_6))))
@[go_sem] def Q111_8:=k 0x32fe84c0e94fcc9bbd1d12cf8c
@[go_sem] def Q111_9:=k 0x769c148a4363c
@[go_sem] def Q111_10:=k 0x3bcd0a1c65cc
@[go_sem] def Q111_11:=k 0x80f1f008dbcd7d
@[go_sem] def Q111_12:=k 0x9df737359448327a77c5017da1e82a16009ee5a85775f3c4bfd0d
@[go_sem] def Q111_13:=k 0xb72ecbae2e6b72959018722cbc72f65c3e8acd
def t_Q111:TF:=⟨48,[.t 4],(.seq (.reg Q111_0) (.seq (.reg Q111_1) (.seq (.seq (.reg Q111_2) (.block 0 (.loop Q111_7))) (.seq (.seq (.reg Q111_8) (.block 2 (.seq (.reg Q111_9) (.cond (.t 28) (.seq (.reg Q111_10) .ret) (.seq (.reg Q111_11) (.cond (.t 31) (.seq (.reg Q111_12) .ret) .skip)))))) (.seq (.reg Q111_13) .ret)))))⟩
/-! horarium/horariumref3.Kids -/
@[go_sem] def Q112_0:=k 0x11474
@[go_sem] def Q112_1:=k 0xa023e73a276e03b0f134c
@[go_sem] def Q112_2:=k 0x193f4
@[go_sem] def Q112_3:=k 0x60b107b9cbe12ca8c
@[go_sem] def Q112_4:=k 0x1a7a173cb6c16a8b5349481a0c
@[go_sem] def Q112_5:=k 0x336168446e807c7f80e5a29f8c
@[go_sem] def Q112_6:=k 0xadb4c108f90802bee66d2a3293958cc
def Q112_7:TC:=(.seq (.seq (.reg Q112_4) (.cond (.t 17) .skip (.exit 0))) (.seq (.block 1 (.reg Q112_5)) (.reg Q112_6)))
@[go_sem] def Q112_8:=k 0x35d904239e8c
def t_Q112:TF:=⟨28,[.t 4],(.seq (.reg Q112_0) (.seq (.reg Q112_1) (.seq (.reg Q112_2) (.seq (.seq (.reg Q112_3) (.block 0 (.loop Q112_7))) (.seq (.reg Q112_8) .ret)))))⟩
/-! horarium/horariumref7.May -/
@[go_sem] def Q113_0:=k 0xc054448
@[go_sem] def Q113_1:=kd 0x817b5c534b220ced7ece5d5326c3263729047353d2b144fa428ad5cda45bc85322a25eb2ce7977466b44dcceb03b00f7064cdabe554c1dedaae83a0003b794ac68fe60ab4cd28080bcffb1c7380c8449e9e7ea6caf9d40c195
@[go_sem] def Q113_2:=k 0x193f0
@[go_sem] def Q113_3:=k 0x2dd75fe5e49a46293fb010881dcb068d95368acd
@[go_sem] def Q113_4:=k 0x1a880017fed15c3a2261e3fac543ed9f575150d9538094d
@[go_sem] def Q113_5:=k 0xe29ad729
@[go_sem] def Q113_6:=k 0x271ccb8c84e0c605eb30705
@[go_sem] def Q113_7:=k 0x3bbeaa79b3bd8c1e7745c2655dec115802c4a7bd0ecc2db9b63ec957606d55dd72066fa068cf16eb757f03e84141228251bcba81134aae28fde12de656
@[go_sem] def Q113_8:=k 0x193f0
@[go_sem] def Q113_9:=k 0x13f4068ce4b3e162
def Q113_10:TC:=(.seq (.reg Q113_5) (.seq (.cond (.t 57) .skip (.exit 0)) (.seq (.block 1 (.seq (.reg Q113_6) (.seq (.reg Q113_7) (.cond (.t 79) (.seq (.reg Q113_8) .ret) .skip)))) (.reg Q113_9))))
@[go_sem] def Q113_11:=k 0x19454
def t_Q113:TF:=⟨81,[.t 6],(.seq (.reg Q113_0) (.seq (.seq (.dreg Q113_1) (.cond (.t 41) (.seq (.reg Q113_2) .ret) .skip)) (.seq (.reg Q113_3) (.seq (.seq (.reg Q113_4) (.block 0 (.loop Q113_10))) (.seq (.reg Q113_11) .ret)))))⟩
/-! horarium/runs.Same -/
@[go_sem] def Q114_0:=k 0x11470
@[go_sem] def Q114_1:=k 0x7064c43845be88d0e540c
def t_Q114:TF:=⟨8,[.t 4],(.seq (.reg Q114_0) (.seq (.reg Q114_1) .ret))⟩
/-! horarium/reduce.pass$1 -/
@[go_sem] def Q115_0:=k 0x1824cff3d4c8
@[go_sem] def Q115_1:=k 0x1743030bc848966697579c9ec81cbc17991ec390
def t_Q115:TF:=⟨13,[.t 5,.t 6],(.seq (.reg Q115_0) (.seq (.reg Q115_1) .ret))⟩
/-! horarium/horariumref6.items -/
@[go_sem] def Q116_0:=k 0x94f4
@[go_sem] def Q116_1:=k 0xd4b4
@[go_sem] def Q116_2:=k 0xc47535a93cc
@[go_sem] def Q116_3:=k 0x8321b28
@[go_sem] def Q116_4:=k 0x5480f02da922396bc5304
@[go_sem] def Q116_5:=k 0x8522b41cec461f3f8e138066cc6c4efa4c
@[go_sem] def Q116_6:=k 0x4878e4da488e0
def Q116_7:TC:=(.seq (.reg Q116_3) (.seq (.cond (.t 9) .skip (.exit 0)) (.seq (.block 1 (.seq (.reg Q116_4) (.reg Q116_5))) (.reg Q116_6))))
@[go_sem] def Q116_8:=k 0x25d933e9b88c
def t_Q116:TF:=⟨20,[.t 2],(.seq (.reg Q116_0) (.seq (.reg Q116_1) (.seq (.seq (.reg Q116_2) (.block 0 (.loop Q116_7))) (.seq (.reg Q116_8) .ret))))⟩
/-! horarium/horariumref6.best -/
@[go_sem] def Q117_0:=k 0xbe811fa94d8
@[go_sem] def Q117_1:=k 0x17b853d011fb5418
@[go_sem] def Q117_2:=k 0xcc653dc91cc
@[go_sem] def Q117_3:=k 0x106bd928
@[go_sem] def Q117_4:=k 0x244c52c110cc
@[go_sem] def Q117_5:=k 0x292d8
@[go_sem] def Q117_6:=k 0xaca98
@[go_sem] def Q117_7:=k 0x1622bb3ca5e4f4a59e384e53088ceff9888c
@[go_sem] def Q117_8:=k 0x8e61ce7064f77b6c3909d07d17fe1a2eee7641917c1b41bb5d73c9a6e4d
@[go_sem] def Q117_9:=k 0xa193e77fa78e1b03d6090be3d8bcd
@[go_sem] def Q117_10:=k 0xb48b1f112b83520f68f0517981a9f9deacd
@[go_sem] def Q117_11:=k 0x2ea62dc8f198d
@[go_sem] def Q117_12:=k 0x319f4cb242ef4b7790d
@[go_sem] def Q117_13:=k 0x346b4671f1daede98cbe6551761794ef1ca0088d
@[go_sem] def Q117_14:=k 0x3b1edc04d26d0fdb134d172461d1c98ebf51f6cd
@[go_sem] def Q117_15:=k 0xd847741d0dc6636cc
def Q117_16:TC:=(.seq (.seq (.reg Q117_7) (.cond (.t 25) .skip (.exit 2))) (.seq (.block 3 (.seq (.reg Q117_8) (.seq (.reg Q117_9) (.seq (.reg Q117_10) (.seq (.seq (.reg Q117_11) (.cond (.t 48) (.reg Q117_12) .skip)) (.seq (.reg Q117_13) (.cond (.t 57) (.reg Q117_14) .skip))))))) (.reg Q117_15)))
@[go_sem] def Q117_17:=k 0xf71446ecdf75e1
def Q117_18:TC:=(.seq (.reg Q117_3) (.seq (.cond (.t 17) .skip (.exit 0)) (.seq (.block 1 (.seq (.reg Q117_4) (.seq (.reg Q117_5) (.seq (.reg Q117_6) (.block 2 (.loop Q117_16)))))) (.reg Q117_17))))
@[go_sem] def Q117_19:=k 0x1fbf006d0115d27b049095ebdb67f258e
def t_Q117:TF:=⟨66,[.t 2,.t 3,.t 4],(.seq (.reg Q117_0) (.seq (.reg Q117_1) (.seq (.seq (.reg Q117_2) (.block 0 (.loop Q117_18))) (.seq (.reg Q117_19) .ret))))⟩
/-! horarium/horariumref6.seq -/
@[go_sem] def Q118_0:=k 0x94f4
@[go_sem] def Q118_1:=k 0x1bcc1267455a93cc
@[go_sem] def Q118_2:=k 0x3313fd6d39c20dc22d2a0783ba3bdc
@[go_sem] def Q118_3:=k 0x218ba2dcc2c9a3e30cd9dc91cc
@[go_sem] def Q118_4:=k 0xd05d41d90cc
@[go_sem] def Q118_5:=k 0x1488b828
@[go_sem] def Q118_6:=k 0xb72b8f3e97e12f000
@[go_sem] def Q118_7:=k 0x19b2de152c22f4af6af74c
@[go_sem] def Q118_8:=k 0x6dae0b19ac6a0
def Q118_9:TC:=(.seq (.reg Q118_5) (.seq (.cond (.t 21) .skip (.exit 0)) (.seq (.block 1 (.seq (.reg Q118_6) (.reg Q118_7))) (.reg Q118_8))))
@[go_sem] def Q118_10:=k 0x37b545ebf64c
def t_Q118:TF:=⟨29,[.t 2],(.seq (.reg Q118_0) (.seq (.seq (.reg Q118_1) (.cond (.t 8) (.seq (.reg Q118_2) .ret) .skip)) (.seq (.reg Q118_3) (.seq (.seq (.reg Q118_4) (.block 0 (.loop Q118_9))) (.seq (.reg Q118_10) .ret)))))⟩
/-! horarium/move.places -/
@[go_sem] def Q119_0:=k 0xbfcccc8
@[go_sem] def Q119_1:=k 0x13b29b9fd1d0d53c571071e71edb3863ee494b8a907fa7c024182f02145a90d592aca318c26cec86c845f509993c14
def t_Q119:TF:=⟨22,[.t 4],(.seq (.reg Q119_0) (.seq (.reg Q119_1) .ret))⟩
/-! slices.ContainsFunc[[]horarium/api.Run,horarium/api.Run] -/
@[go_sem] def Q120_0:=k 0x11470
@[go_sem] def Q120_1:=k 0x1fe93fd19f7e81e7c15b70e540c
def t_Q120:TF:=⟨9,[.t 4],(.seq (.reg Q120_0) (.seq (.reg Q120_1) .ret))⟩
/-! horarium/move.May$1 -/
@[go_sem] def Q121_0:=k 0xbf4d4c8
@[go_sem] def Q121_1:=k 0x58ec95a9c41b6ef55a9c1b25f302bba8b5f9f4725d94b70780483f65ef1a8c16d0a3c041d98284931f3b6408e610c4fa2cbb6989993c14
def t_Q121:TF:=⟨25,[.t 4],(.seq (.reg Q121_0) (.seq (.reg Q121_1) .ret))⟩
/-! horarium/word.Depends -/
@[go_sem] def Q122_0:=k 0x193f0
@[go_sem] def Q122_1:=k 0x13e9439f480d91f4aec38f4ddfa6f75c78c7e2e27590097cad67104673e1abcbe0a92d95eff0526cb8c
def t_Q122:TF:=⟨22,[.t 6],(.seq (.reg Q122_0) (.seq (.reg Q122_1) .ret))⟩
/-! slices.Equal[[]horarium/api.Run,horarium/api.Run] -/
@[go_sem] def Q123_0:=k 0x11470
@[go_sem] def Q123_1:=k 0x723f5d157870d4972d5a93cc
@[go_sem] def Q123_2:=k 0x11470
@[go_sem] def Q123_3:=k 0xc96b3abd28c
@[go_sem] def Q123_4:=k 0xd5631e8
@[go_sem] def Q123_5:=k 0x1e18cc68698c
@[go_sem] def Q123_6:=kd 0x6522c52aafe4c836d900bbae612ce6866d7efa8faaf8f4
@[go_sem] def Q123_7:=k 0x11470
@[go_sem] def Q123_8:=k 0x64dfc1ca14720
def Q123_9:TC:=(.seq (.reg Q123_4) (.seq (.cond (.t 14) .skip (.exit 0)) (.seq (.block 1 (.seq (.reg Q123_5) (.seq (.dreg Q123_6) (.cond (.t 24) (.seq (.reg Q123_7) .ret) .skip)))) (.reg Q123_8))))
@[go_sem] def Q123_10:=k 0x114d4
def t_Q123:TF:=⟨26,[.t 4],(.seq (.reg Q123_0) (.seq (.seq (.reg Q123_1) (.cond (.t 10) (.seq (.reg Q123_2) .ret) .skip)) (.seq (.seq (.reg Q123_3) (.block 0 (.loop Q123_9))) (.seq (.reg Q123_10) .ret))))⟩
/-! horarium/word.Project -/
@[go_sem] def Q124_0:=k 0x193f4
@[go_sem] def Q124_1:=k 0x1d3b4
@[go_sem] def Q124_2:=k 0xc86d39b92cc
@[go_sem] def Q124_3:=k 0xc4efa28
@[go_sem] def Q124_4:=k 0x957a7c22eea03a2d93204
@[go_sem] def Q124_5:=k 0x4fd08cc2b679f372696ff491cd717166e2ba86d7e9bd5fcbc954
@[go_sem] def Q124_6:=k 0x395354c04a530bf253fab256cc
@[go_sem] def Q124_7:=k 0x7898159a385e0
def Q124_8:TC:=(.seq (.reg Q124_3) (.seq (.cond (.t 13) .skip (.exit 0)) (.seq (.block 1 (.seq (.reg Q124_4) (.seq (.reg Q124_5) (.cond (.t 25) (.reg Q124_6) .skip)))) (.reg Q124_7))))
@[go_sem] def Q124_9:=k 0x7ee5a97a126c75d8d
def t_Q124:TF:=⟨33,[.t 6],(.seq (.reg Q124_0) (.seq (.reg Q124_1) (.seq (.seq (.reg Q124_2) (.block 0 (.loop Q124_8))) (.seq (.reg Q124_9) .ret))))⟩
/-! horarium/runs.Ticks -/
@[go_sem] def Q125_0:=k 0x11458
@[go_sem] def Q125_1:=k 0x15418
@[go_sem] def Q125_2:=k 0xc67137b134c
@[go_sem] def Q125_3:=k 0xa408aa8
@[go_sem] def Q125_4:=k 0x74fdb6284be139ccac284
@[go_sem] def Q125_5:=k 0xf426d14b5d5c55bbb59d4
@[go_sem] def Q125_6:=k 0x5306a7c081a2c855d20279768cc
@[go_sem] def Q125_7:=k 0x5898753a387e0
def Q125_8:TC:=(.seq (.reg Q125_3) (.seq (.cond (.t 11) .skip (.exit 0)) (.seq (.block 1 (.seq (.reg Q125_4) (.seq (.reg Q125_5) (.cond (.t 17) (.reg Q125_6) .skip)))) (.reg Q125_7))))
@[go_sem] def Q125_9:=k 0x2de8fc1aa78c
def t_Q125:TF:=⟨24,[.t 4],(.seq (.reg Q125_0) (.seq (.reg Q125_1) (.seq (.seq (.reg Q125_2) (.block 0 (.loop Q125_8))) (.seq (.reg Q125_9) .ret))))⟩
/-! horarium/horariumref12.Name -/
@[go_sem] def Q126_0:=k 0x94f0
@[go_sem] def Q126_1:=k 0xd498
@[go_sem] def Q126_2:=k 0x291a22205fdc41163c0c
@[go_sem] def Q126_3:=k 0xc39fe7f7c8c2d5d52e59d946e09262da2c2a2bc113f7ad975ceb294580e790d6978071ebebbec52fd28c
@[go_sem] def Q126_4:=k 0x8c6fded8824158c5d37934040ae37ee99f48a86460d91eaf6ae2f6cb7798f053b78892997f1b0a17cf7aedb3c79cbace8d
@[go_sem] def Q126_5:=k 0x94f0
@[go_sem] def Q126_6:=k 0x4fe3d48b4ba223b0c
def Q126_7:TC:=(.seq (.seq (.reg Q126_2) (.cond (.t 8) .skip (.exit 0))) (.seq (.block 1 (.seq (.reg Q126_3) (.seq (.reg Q126_4) (.cond (.t 44) (.seq (.reg Q126_5) .ret) .skip)))) (.reg Q126_6)))
@[go_sem] def Q126_8:=k 0xc8f10a54a0983d77bdded3ad1000922cfd29206e6ca54f4a0d
def t_Q126:TF:=⟨53,[.t 2],(.seq (.reg Q126_0) (.seq (.seq (.reg Q126_1) (.block 0 (.loop Q126_7))) (.seq (.reg Q126_8) .ret)))⟩
/-! horarium/horariumref12.partRight -/
@[go_sem] def Q127_0:=k 0xbf45548
@[go_sem] def Q127_1:=k 0x2c1d56e62d403a0ff5cf773ede9bfd4fc43bb88aa7c65284cb94
@[go_sem] def Q127_2:=k 0x94f0
@[go_sem] def Q127_3:=k 0x33e33b2f666874914
@[go_sem] def Q127_4:=k 0x1488b828
@[go_sem] def Q127_5:=k 0x4aa8b4165fdf7bb12f004
@[go_sem] def Q127_6:=k 0x8c432767eeb11402306b27d052bea9de3ba646e741c9016a749fbe5482195c1a324c6b35dd06532d1952f4f7745597c45cf55
@[go_sem] def Q127_7:=k 0x94f0
@[go_sem] def Q127_8:=k 0xa7f3773cca7ae1
def Q127_9:TC:=(.seq (.reg Q127_4) (.seq (.cond (.t 21) .skip (.exit 0)) (.seq (.block 1 (.seq (.reg Q127_5) (.seq (.reg Q127_6) (.cond (.t 41) (.seq (.reg Q127_7) .ret) .skip)))) (.reg Q127_8))))
@[go_sem] def Q127_10:=k 0x1a7c0b7602ba95
@[go_sem] def Q127_11:=k 0xb3a73a15
@[go_sem] def Q127_12:=k 0xbaed4abf28fecd
@[go_sem] def Q127_13:=k 0xc688676d9ec9b111359ba3ee5cf5417a94d
@[go_sem] def Q127_14:=k 0x94f0
@[go_sem] def Q127_15:=k 0xd92089306977e1
def Q127_16:TC:=(.seq (.reg Q127_11) (.seq (.cond (.t 46) .skip (.exit 2)) (.seq (.block 3 (.seq (.reg Q127_12) (.seq (.reg Q127_13) (.cond (.t 53) (.seq (.reg Q127_14) .ret) .skip)))) (.reg Q127_15))))
@[go_sem] def Q127_17:=k 0xe48b21160aadb0372f71d64206899704cef71637019b795
@[go_sem] def Q127_18:=k 0x9554
@[go_sem] def Q127_19:=k 0x25c5f718d5144816d775f48c3f64d56e32ec530527f15269f670e7a0ce1fa71ec7578975c152780f539577d1907d75f37b887cfd3b7651a891a45bf701fa596
def t_Q127:TF:=⟨83,[.t 2],(.seq (.reg Q127_0) (.seq (.seq (.reg Q127_1) (.cond (.t 16) (.seq (.reg Q127_2) .ret) .skip)) (.seq (.seq (.reg Q127_3) (.block 0 (.loop Q127_9))) (.seq (.seq (.reg Q127_10) (.block 2 (.loop Q127_16))) (.seq (.seq (.reg Q127_17) (.cond (.t 62) (.seq (.reg Q127_18) .ret) .skip)) (.seq (.reg Q127_19) .ret))))))⟩
/-! horarium/horariumref12.chanRight -/
@[go_sem] def Q128_0:=k 0x44d6e49508
@[go_sem] def Q128_1:=k 0x208d7467c9485316c890dd54acbe4178ba019eb2ce256d89f9a696a234b27449b767095a29eab3bf126b4b2fc7fd19b20bde378cc717baa8656745dbc348a9f3dfbe15b01b536aa71782cf36146a80f4c4a4329cac8c4b7e72153a6df4a12dc6d72747b84c213415
@[go_sem] def Q128_2:=k 0x11470
@[go_sem] def Q128_3:=k 0x39a36fc72d99c6d20b302b35ec58b6d304223a8e56abcdb042c14caf91a6fb9ec73d7fca9f8bed5345a5b3c089430cf384df6c9495adabde50cb0266d2812a4226ad5
def t_Q128:TF:=⟨64,[.t 4],(.seq (.reg Q128_0) (.seq (.seq (.reg Q128_1) (.cond (.t 41) (.seq (.reg Q128_2) .ret) .skip)) (.seq (.reg Q128_3) .ret)))⟩
/-! (*horarium/cursor.Cursor).down -/
@[go_sem] def Q129_0:=k 0xca8337a232fff994f49f549444628ec7061adbd80117208dc5803fc50be72061900caa5e86540908c7423d75a0afd2e144c
@[go_sem] def Q129_1:=kd 0x1eaac222d2c5829cf7ce1e90eabffd4cbd6ee3b95ef42e16161fa5a96408cd92cd71d5faf131036def324d6d5d883810809af8befa81c50f5
@[go_sem] def Q129_2:=k 0x2b81ca227ee503aba8d
def Q129_3:TC:=(.seq (.seq (.reg Q129_0) (.cond (.t 23) .skip (.exit 0))) (.block 1 (.seq (.dreg Q129_1) (.reg Q129_2))))
@[go_sem] def Q129_4:=k 0x2fc8f12280d1bc512f73bc3f4a0d
def t_Q129:TF:=⟨49,[],(.seq (.block 0 (.loop Q129_3)) (.reg Q129_4))⟩
/-! slices.Equal[[]int,int] -/
@[go_sem] def Q130_0:=k 0x11470
@[go_sem] def Q130_1:=k 0x723f5d157870d4972d5a93cc
@[go_sem] def Q130_2:=k 0x11470
@[go_sem] def Q130_3:=k 0xc96b3abd28c
@[go_sem] def Q130_4:=k 0xd5631e8
@[go_sem] def Q130_5:=k 0x1e18cc68698c
@[go_sem] def Q130_6:=kd 0x6521bc019fcffb544b79a506b0f7d626aacc47e7aaf8f4
@[go_sem] def Q130_7:=k 0x11470
@[go_sem] def Q130_8:=k 0x64dfc1ca14720
def Q130_9:TC:=(.seq (.reg Q130_4) (.seq (.cond (.t 14) .skip (.exit 0)) (.seq (.block 1 (.seq (.reg Q130_5) (.seq (.dreg Q130_6) (.cond (.t 24) (.seq (.reg Q130_7) .ret) .skip)))) (.reg Q130_8))))
@[go_sem] def Q130_10:=k 0x114d4
def t_Q130:TF:=⟨26,[.t 4],(.seq (.reg Q130_0) (.seq (.seq (.reg Q130_1) (.cond (.t 10) (.seq (.reg Q130_2) .ret) .skip)) (.seq (.seq (.reg Q130_3) (.block 0 (.loop Q130_9))) (.seq (.reg Q130_10) .ret))))⟩
/-! horarium/node.kids -/
@[go_sem] def Q131_0:=k 0x5fa5548
@[go_sem] def Q131_1:=k 0xf3ed9b1e871f305ea273c9166d702e1d121c40c200f76da447deff6f3b6c10b696f1c9870c54
@[go_sem] def Q131_2:=k 0x9558
@[go_sem] def Q131_3:=k 0xe74e3be485a4f290bb8dc48f2eebdf0aee3115a56f1852f0ba3673ab041e5582eb8638c88d4
@[go_sem] def Q131_4:=k 0x20c107f8767b0f3e1ec17bd95
@[go_sem] def Q131_5:=k 0x94d8
@[go_sem] def Q131_6:=k 0x29106fa4a7f5bf0e2d4cba39a29b7ebf03a4c1f1b3222c18bc95
@[go_sem] def Q131_7:=k 0x2b85be2e772b412ba95
@[go_sem] def Q131_8:=k 0x2ff3a469a10027182dc1b79d5
@[go_sem] def Q131_9:=k 0x88cd8
@[go_sem] def Q131_10:=k 0x9558
def t_Q131:TF:=⟨49,[.t 2],(.seq (.reg Q131_0) (.seq (.block 0 (.seq (.reg Q131_1) (.cond (.t 3) (.seq (.reg Q131_2) .ret) (.seq (.seq (.reg Q131_3) (.cond (.t 17) .skip (.reg Q131_4))) (.cond (.t 17) (.seq (.reg Q131_5) .ret) (.seq (.reg Q131_6) (.cond (.t 34) (.seq (.reg Q131_7) .ret) (.seq (.reg Q131_8) (.cond (.t 45) (.seq (.reg Q131_9) .ret) .skip))))))))) (.seq (.reg Q131_10) .ret)))⟩
/-! horarium/node.times -/
@[go_sem] def Q132_0:=k 0x11458
@[go_sem] def Q132_1:=k 0x23b19252084c340d473b979601540c
def t_Q132:TF:=⟨10,[.t 4],(.seq (.reg Q132_0) (.seq (.reg Q132_1) .ret))⟩
/-! horarium/node.add -/
@[go_sem] def Q133_0:=k 0x11458
@[go_sem] def Q133_1:=k 0x23b1925208445363787a7fc30e540c
def t_Q133:TF:=⟨10,[.t 4],(.seq (.reg Q133_0) (.seq (.reg Q133_1) .ret))⟩
/-! horarium/horariumref3.fine -/
@[go_sem] def Q134_0:=k 0xbf45548
@[go_sem] def Q134_1:=k 0x5f48588cc94
@[go_sem] def Q134_2:=k 0x1879743a58bfc
@[go_sem] def Q134_3:=k 0x90729e5c8f2b3feb57ff26eba0748cf652ec1ef6234f06b4f85f181752b4fcd48ed0e88cb94
@[go_sem] def Q134_4:=k 0x55ddf21b1403c
@[go_sem] def Q134_5:=k 0x59d5f61c16ffc
@[go_sem] def Q134_6:=k 0x7420d55f06141e3142f813c5875bbf31597f0aa286e8cc794
@[go_sem] def Q134_7:=k 0x80f1efad27dd7d
@[go_sem] def Q134_8:=k 0xaa8a59fe391ebc96c742e6b15f54ce6e8ac729edf433a30fc9e5193451c7a7dc634f742210143d15
@[go_sem] def Q134_9:=k 0x94f0
def t_Q134:TF:=⟨46,[.t 2],(.seq (.reg Q134_0) (.seq (.seq (.reg Q134_1) (.block 0 (.seq (.reg Q134_2) (.cond (.t 5) (.seq (.reg Q134_3) .ret) (.seq (.seq (.reg Q134_4) (.cond (.t 20) .skip (.reg Q134_5))) (.cond (.t 20) (.seq (.reg Q134_6) .ret) (.seq (.reg Q134_7) (.cond (.t 31) (.seq (.reg Q134_8) .ret) .skip)))))))) (.seq (.reg Q134_9) .ret)))⟩
/-! horarium/horariumref6.leaf -/
@[go_sem] def Q135_0:=k 0x7d825548
@[go_sem] def Q135_1:=k 0xfecbc814588cc94
@[go_sem] def Q135_2:=k 0x478c2c7dd9025acc888bd4
@[go_sem] def Q135_3:=k 0x4bdfa5dcff87af5f68d619ad9d18a4b14
def t_Q135:TF:=⟨14,[.cell 2 3 true],(.seq (.reg Q135_0) (.seq (.seq (.reg Q135_1) (.cond (.t 5) (.seq (.reg Q135_2) .ret) .skip)) (.seq (.reg Q135_3) .ret)))⟩
/-! horarium/horariumref6.times -/
@[go_sem] def Q136_0:=k 0x193d8
@[go_sem] def Q136_1:=k 0x9cb98
@[go_sem] def Q136_2:=k 0x6ffd2bd6c74ca037b68f54392f793e05fb70713774b0c
@[go_sem] def Q136_3:=k 0x21358
@[go_sem] def Q136_4:=k 0x4981d2cd776150cc
@[go_sem] def Q136_5:=kd 0x3047e043f29e16f3785691b213571b673bd0e2a29cd408dbccba9267740ae1cd55ade00c804ffb8545899685fcc7a5f5
@[go_sem] def Q136_6:=k 0x28c74c8addb0d
@[go_sem] def Q136_7:=k 0xb00139670d24d100c
def Q136_8:TC:=(.seq (.seq (.reg Q136_4) (.cond (.t 20) .skip (.exit 2))) (.seq (.block 3 (.seq (.dreg Q136_5) (.cond (.t 40) (.seq (.reg Q136_6) .ret) .skip))) (.reg Q136_7)))
@[go_sem] def Q136_9:=k 0x2a9c7f6a68e409a1acd
def Q136_10:TC:=(.seq (.seq (.reg Q136_2) (.cond (.t 17) .skip (.exit 0))) (.block 1 (.seq (.seq (.reg Q136_3) (.block 2 (.loop Q136_8))) (.reg Q136_9))))
@[go_sem] def Q136_11:=k 0x2bc14f8ae9a4d
def t_Q136:TF:=⟨45,[.t 6],(.seq (.reg Q136_0) (.seq (.reg Q136_1) (.seq (.block 0 (.loop Q136_10)) (.seq (.reg Q136_11) .ret))))⟩
/-! slices.IndexFunc[[]horarium/api.Run,horarium/api.Run] -/
@[go_sem] def Q137_0:=k 0x11458
@[go_sem] def Q137_1:=k 0xc47535a93cc
@[go_sem] def Q137_2:=k 0x8321b28
@[go_sem] def Q137_3:=k 0x142cc23f52cc
@[go_sem] def Q137_4:=k 0x2cd06290adf7706b0256cf6907ca8c
@[go_sem] def Q137_5:=k 0x2200f019290c
@[go_sem] def Q137_6:=k 0x4878e4da488e0
def Q137_7:TC:=(.seq (.reg Q137_2) (.seq (.cond (.t 9) .skip (.exit 0)) (.seq (.block 1 (.seq (.reg Q137_3) (.seq (.reg Q137_4) (.cond (.t 16) (.seq (.reg Q137_5) .ret) .skip)))) (.reg Q137_6))))
@[go_sem] def Q137_8:=k 0x114d8
def t_Q137:TF:=⟨19,[.t 4],(.seq (.reg Q137_0) (.seq (.seq (.reg Q137_1) (.block 0 (.loop Q137_7))) (.seq (.reg Q137_8) .ret)))⟩
/-! horarium/word.to -/
@[go_sem] def Q138_0:=k 0x193f0
@[go_sem] def Q138_1:=k 0x1ff96de831ff0d4b099897ee62ebbb8eb6da61b7fa37f6d04f96824545db8692709c9d1898850b54ec00518d6985c1a0a2182357beb56f48474eeeed5c1ad719aed5dde631b8df94b23283becfe52cf789c38d
def t_Q138:TF:=⟨37,[.t 6],(.seq (.reg Q138_0) (.seq (.reg Q138_1) .ret))⟩
def tpFn:Nat→Option TF
  | 6=>some t_Q0
  | 12=>some t_Q1
  | 13=>some t_Q2
  | 14=>some t_Q3
  | 15=>some t_Q4
  | 17=>some t_Q5
  | 18=>some t_Q6
  | 19=>some t_Q7
  | 20=>some t_Q8
  | 21=>some t_Q9
  | 22=>some t_Q10
  | 23=>some t_Q11
  | 25=>some t_Q12
  | 26=>some t_Q13
  | 27=>some t_Q14
  | 28=>some t_Q15
  | 29=>some t_Q16
  | 30=>some t_Q17
  | 31=>some t_Q18
  | 32=>some t_Q19
  | 33=>some t_Q20
  | 41=>some t_Q21
  | 47=>some t_Q22
  | 48=>some t_Q23
  | 49=>some t_Q24
  | 50=>some t_Q25
  | 51=>some t_Q26
  | 52=>some t_Q27
  | 53=>some t_Q28
  | 54=>some t_Q29
  | 55=>some t_Q30
  | 56=>some t_Q31
  | 57=>some t_Q32
  | 58=>some t_Q33
  | 59=>some t_Q34
  | 60=>some t_Q35
  | 61=>some t_Q36
  | 62=>some t_Q37
  | 63=>some t_Q38
  | 64=>some t_Q39
  | 65=>some t_Q40
  | 66=>some t_Q41
  | 67=>some t_Q42
  | 68=>some t_Q43
  | 69=>some t_Q44
  | 70=>some t_Q45
  | 71=>some t_Q46
  | 72=>some t_Q47
  | 73=>some t_Q48
  | 74=>some t_Q49
  | 75=>some t_Q50
  | 76=>some t_Q51
  | 77=>some t_Q52
  | 78=>some t_Q53
  | 79=>some t_Q54
  | 80=>some t_Q55
  | 94=>some t_Q56
  | 95=>some t_Q57
  | 96=>some t_Q58
  | 97=>some t_Q59
  | 98=>some t_Q60
  | 99=>some t_Q61
  | 100=>some t_Q62
  | 101=>some t_Q63
  | 102=>some t_Q64
  | 103=>some t_Q65
  | 104=>some t_Q66
  | 105=>some t_Q67
  | 106=>some t_Q68
  | 107=>some t_Q69
  | 108=>some t_Q70
  | 109=>some t_Q71
  | 110=>some t_Q72
  | 111=>some t_Q73
  | 112=>some t_Q74
  | 113=>some t_Q75
  | 114=>some t_Q76
  | 115=>some t_Q77
  | 116=>some t_Q78
  | 117=>some t_Q79
  | 118=>some t_Q80
  | 119=>some t_Q81
  | 120=>some t_Q82
  | 121=>some t_Q83
  | 122=>some t_Q84
  | 123=>some t_Q85
  | 124=>some t_Q86
  | 125=>some t_Q87
  | 126=>some t_Q88
  | 127=>some t_Q89
  | 128=>some t_Q90
  | 129=>some t_Q91
  | 150=>some t_Q92
  | 151=>some t_Q93
  | 152=>some t_Q94
  | 153=>some t_Q95
  | 154=>some t_Q96
  | 155=>some t_Q97
  | 156=>some t_Q98
  | 157=>some t_Q99
  | 158=>some t_Q100
  | 159=>some t_Q101
  | 160=>some t_Q102
  | 161=>some t_Q103
  | 162=>some t_Q104
  | 163=>some t_Q105
  | 164=>some t_Q106
  | 165=>some t_Q107
  | 166=>some t_Q108
  | 167=>some t_Q109
  | 168=>some t_Q110
  | 169=>some t_Q111
  | 170=>some t_Q112
  | 171=>some t_Q113
  | 172=>some t_Q114
  | 173=>some t_Q115
  | 174=>some t_Q116
  | 175=>some t_Q117
  | 176=>some t_Q118
  | 177=>some t_Q119
  | 178=>some t_Q120
  | 179=>some t_Q121
  | 180=>some t_Q122
  | 181=>some t_Q123
  | 182=>some t_Q124
  | 183=>some t_Q125
  | 184=>some t_Q126
  | 185=>some t_Q127
  | 186=>some t_Q128
  | 201=>some t_Q129
  | 202=>some t_Q130
  | 203=>some t_Q131
  | 204=>some t_Q132
  | 205=>some t_Q133
  | 206=>some t_Q134
  | 207=>some t_Q135
  | 208=>some t_Q136
  | 209=>some t_Q137
  | 210=>some t_Q138
  | _=>none
def tpMeth:Nat→String→Option Meth:=fun _ _=>none
def tp:TP:=⟨tpFn,tpMeth⟩
theorem fn_Q0:tp.fn i_Q0=some t_Q0:=rfl
theorem fn_Q1:tp.fn i_Q1=some t_Q1:=rfl
theorem fn_Q2:tp.fn i_Q2=some t_Q2:=rfl
theorem fn_Q3:tp.fn i_Q3=some t_Q3:=rfl
theorem fn_Q4:tp.fn i_Q4=some t_Q4:=rfl
theorem fn_Q5:tp.fn i_Q5=some t_Q5:=rfl
theorem fn_Q6:tp.fn i_Q6=some t_Q6:=rfl
theorem fn_Q7:tp.fn i_Q7=some t_Q7:=rfl
theorem fn_Q8:tp.fn i_Q8=some t_Q8:=rfl
theorem fn_Q9:tp.fn i_Q9=some t_Q9:=rfl
theorem fn_Q10:tp.fn i_Q10=some t_Q10:=rfl
theorem fn_Q11:tp.fn i_Q11=some t_Q11:=rfl
theorem fn_Q12:tp.fn i_Q12=some t_Q12:=rfl
theorem fn_Q13:tp.fn i_Q13=some t_Q13:=rfl
theorem fn_Q14:tp.fn i_Q14=some t_Q14:=rfl
theorem fn_Q15:tp.fn i_Q15=some t_Q15:=rfl
theorem fn_Q16:tp.fn i_Q16=some t_Q16:=rfl
theorem fn_Q17:tp.fn i_Q17=some t_Q17:=rfl
theorem fn_Q18:tp.fn i_Q18=some t_Q18:=rfl
theorem fn_Q19:tp.fn i_Q19=some t_Q19:=rfl
theorem fn_Q20:tp.fn i_Q20=some t_Q20:=rfl
theorem fn_Q21:tp.fn i_Q21=some t_Q21:=rfl
theorem fn_Q22:tp.fn i_Q22=some t_Q22:=rfl
theorem fn_Q23:tp.fn i_Q23=some t_Q23:=rfl
theorem fn_Q24:tp.fn i_Q24=some t_Q24:=rfl
theorem fn_Q25:tp.fn i_Q25=some t_Q25:=rfl
theorem fn_Q26:tp.fn i_Q26=some t_Q26:=rfl
theorem fn_Q27:tp.fn i_Q27=some t_Q27:=rfl
theorem fn_Q28:tp.fn i_Q28=some t_Q28:=rfl
theorem fn_Q29:tp.fn i_Q29=some t_Q29:=rfl
theorem fn_Q30:tp.fn i_Q30=some t_Q30:=rfl
theorem fn_Q31:tp.fn i_Q31=some t_Q31:=rfl
theorem fn_Q32:tp.fn i_Q32=some t_Q32:=rfl
theorem fn_Q33:tp.fn i_Q33=some t_Q33:=rfl
theorem fn_Q34:tp.fn i_Q34=some t_Q34:=rfl
theorem fn_Q35:tp.fn i_Q35=some t_Q35:=rfl
theorem fn_Q36:tp.fn i_Q36=some t_Q36:=rfl
theorem fn_Q37:tp.fn i_Q37=some t_Q37:=rfl
theorem fn_Q38:tp.fn i_Q38=some t_Q38:=rfl
theorem fn_Q39:tp.fn i_Q39=some t_Q39:=rfl
theorem fn_Q40:tp.fn i_Q40=some t_Q40:=rfl
theorem fn_Q41:tp.fn i_Q41=some t_Q41:=rfl
theorem fn_Q42:tp.fn i_Q42=some t_Q42:=rfl
theorem fn_Q43:tp.fn i_Q43=some t_Q43:=rfl
theorem fn_Q44:tp.fn i_Q44=some t_Q44:=rfl
theorem fn_Q45:tp.fn i_Q45=some t_Q45:=rfl
theorem fn_Q46:tp.fn i_Q46=some t_Q46:=rfl
theorem fn_Q47:tp.fn i_Q47=some t_Q47:=rfl
theorem fn_Q48:tp.fn i_Q48=some t_Q48:=rfl
theorem fn_Q49:tp.fn i_Q49=some t_Q49:=rfl
theorem fn_Q50:tp.fn i_Q50=some t_Q50:=rfl
theorem fn_Q51:tp.fn i_Q51=some t_Q51:=rfl
theorem fn_Q52:tp.fn i_Q52=some t_Q52:=rfl
theorem fn_Q53:tp.fn i_Q53=some t_Q53:=rfl
theorem fn_Q54:tp.fn i_Q54=some t_Q54:=rfl
theorem fn_Q55:tp.fn i_Q55=some t_Q55:=rfl
theorem fn_Q56:tp.fn i_Q56=some t_Q56:=rfl
theorem fn_Q57:tp.fn i_Q57=some t_Q57:=rfl
theorem fn_Q58:tp.fn i_Q58=some t_Q58:=rfl
theorem fn_Q59:tp.fn i_Q59=some t_Q59:=rfl
theorem fn_Q60:tp.fn i_Q60=some t_Q60:=rfl
theorem fn_Q61:tp.fn i_Q61=some t_Q61:=rfl
theorem fn_Q62:tp.fn i_Q62=some t_Q62:=rfl
theorem fn_Q63:tp.fn i_Q63=some t_Q63:=rfl
theorem fn_Q64:tp.fn i_Q64=some t_Q64:=rfl
theorem fn_Q65:tp.fn i_Q65=some t_Q65:=rfl
theorem fn_Q66:tp.fn i_Q66=some t_Q66:=rfl
theorem fn_Q67:tp.fn i_Q67=some t_Q67:=rfl
theorem fn_Q68:tp.fn i_Q68=some t_Q68:=rfl
theorem fn_Q69:tp.fn i_Q69=some t_Q69:=rfl
theorem fn_Q70:tp.fn i_Q70=some t_Q70:=rfl
theorem fn_Q71:tp.fn i_Q71=some t_Q71:=rfl
theorem fn_Q72:tp.fn i_Q72=some t_Q72:=rfl
theorem fn_Q73:tp.fn i_Q73=some t_Q73:=rfl
theorem fn_Q74:tp.fn i_Q74=some t_Q74:=rfl
theorem fn_Q75:tp.fn i_Q75=some t_Q75:=rfl
theorem fn_Q76:tp.fn i_Q76=some t_Q76:=rfl
theorem fn_Q77:tp.fn i_Q77=some t_Q77:=rfl
theorem fn_Q78:tp.fn i_Q78=some t_Q78:=rfl
theorem fn_Q79:tp.fn i_Q79=some t_Q79:=rfl
theorem fn_Q80:tp.fn i_Q80=some t_Q80:=rfl
theorem fn_Q81:tp.fn i_Q81=some t_Q81:=rfl
theorem fn_Q82:tp.fn i_Q82=some t_Q82:=rfl
theorem fn_Q83:tp.fn i_Q83=some t_Q83:=rfl
theorem fn_Q84:tp.fn i_Q84=some t_Q84:=rfl
theorem fn_Q85:tp.fn i_Q85=some t_Q85:=rfl
theorem fn_Q86:tp.fn i_Q86=some t_Q86:=rfl
theorem fn_Q87:tp.fn i_Q87=some t_Q87:=rfl
theorem fn_Q88:tp.fn i_Q88=some t_Q88:=rfl
theorem fn_Q89:tp.fn i_Q89=some t_Q89:=rfl
theorem fn_Q90:tp.fn i_Q90=some t_Q90:=rfl
theorem fn_Q91:tp.fn i_Q91=some t_Q91:=rfl
theorem fn_Q92:tp.fn i_Q92=some t_Q92:=rfl
theorem fn_Q93:tp.fn i_Q93=some t_Q93:=rfl
theorem fn_Q94:tp.fn i_Q94=some t_Q94:=rfl
theorem fn_Q95:tp.fn i_Q95=some t_Q95:=rfl
theorem fn_Q96:tp.fn i_Q96=some t_Q96:=rfl
theorem fn_Q97:tp.fn i_Q97=some t_Q97:=rfl
theorem fn_Q98:tp.fn i_Q98=some t_Q98:=rfl
theorem fn_Q99:tp.fn i_Q99=some t_Q99:=rfl
theorem fn_Q100:tp.fn i_Q100=some t_Q100:=rfl
theorem fn_Q101:tp.fn i_Q101=some t_Q101:=rfl
theorem fn_Q102:tp.fn i_Q102=some t_Q102:=rfl
theorem fn_Q103:tp.fn i_Q103=some t_Q103:=rfl
theorem fn_Q104:tp.fn i_Q104=some t_Q104:=rfl
theorem fn_Q105:tp.fn i_Q105=some t_Q105:=rfl
theorem fn_Q106:tp.fn i_Q106=some t_Q106:=rfl
theorem fn_Q107:tp.fn i_Q107=some t_Q107:=rfl
theorem fn_Q108:tp.fn i_Q108=some t_Q108:=rfl
theorem fn_Q109:tp.fn i_Q109=some t_Q109:=rfl
theorem fn_Q110:tp.fn i_Q110=some t_Q110:=rfl
theorem fn_Q111:tp.fn i_Q111=some t_Q111:=rfl
theorem fn_Q112:tp.fn i_Q112=some t_Q112:=rfl
theorem fn_Q113:tp.fn i_Q113=some t_Q113:=rfl
theorem fn_Q114:tp.fn i_Q114=some t_Q114:=rfl
theorem fn_Q115:tp.fn i_Q115=some t_Q115:=rfl
theorem fn_Q116:tp.fn i_Q116=some t_Q116:=rfl
theorem fn_Q117:tp.fn i_Q117=some t_Q117:=rfl
theorem fn_Q118:tp.fn i_Q118=some t_Q118:=rfl
theorem fn_Q119:tp.fn i_Q119=some t_Q119:=rfl
theorem fn_Q120:tp.fn i_Q120=some t_Q120:=rfl
theorem fn_Q121:tp.fn i_Q121=some t_Q121:=rfl
theorem fn_Q122:tp.fn i_Q122=some t_Q122:=rfl
theorem fn_Q123:tp.fn i_Q123=some t_Q123:=rfl
theorem fn_Q124:tp.fn i_Q124=some t_Q124:=rfl
theorem fn_Q125:tp.fn i_Q125=some t_Q125:=rfl
theorem fn_Q126:tp.fn i_Q126=some t_Q126:=rfl
theorem fn_Q127:tp.fn i_Q127=some t_Q127:=rfl
theorem fn_Q128:tp.fn i_Q128=some t_Q128:=rfl
theorem fn_Q129:tp.fn i_Q129=some t_Q129:=rfl
theorem fn_Q130:tp.fn i_Q130=some t_Q130:=rfl
theorem fn_Q131:tp.fn i_Q131=some t_Q131:=rfl
theorem fn_Q132:tp.fn i_Q132=some t_Q132:=rfl
theorem fn_Q133:tp.fn i_Q133=some t_Q133:=rfl
theorem fn_Q134:tp.fn i_Q134=some t_Q134:=rfl
theorem fn_Q135:tp.fn i_Q135=some t_Q135:=rfl
theorem fn_Q136:tp.fn i_Q136=some t_Q136:=rfl
theorem fn_Q137:tp.fn i_Q137=some t_Q137:=rfl
theorem fn_Q138:tp.fn i_Q138=some t_Q138:=rfl
end Go.Ab.T
