/- Part of a proof that a law returns true for every input of the second form's bound (no other condition). -/
import Derived.Test.YtcjjajphbamjlaaGreatPE
set_option linter.all false
/- The abstract machine's text of the functions, its regions as numbers. Written by a tool. -/
namespace Go.Ab.T
open Go Go.Ab
set_option maxRecDepth 100000
abbrev i_Q0:Nat:=5
abbrev i_Q1:Nat:=12
abbrev i_Q2:Nat:=13
abbrev i_Q3:Nat:=14
abbrev i_Q4:Nat:=15
abbrev i_Q5:Nat:=17
abbrev i_Q6:Nat:=18
abbrev i_Q7:Nat:=19
abbrev i_Q8:Nat:=20
abbrev i_Q9:Nat:=21
abbrev i_Q10:Nat:=22
abbrev i_Q11:Nat:=23
abbrev i_Q12:Nat:=24
abbrev i_Q13:Nat:=25
abbrev i_Q14:Nat:=26
abbrev i_Q15:Nat:=27
abbrev i_Q16:Nat:=28
abbrev i_Q17:Nat:=29
abbrev i_Q18:Nat:=30
abbrev i_Q19:Nat:=31
abbrev i_Q20:Nat:=32
abbrev i_Q21:Nat:=33
abbrev i_Q22:Nat:=41
abbrev i_Q23:Nat:=47
abbrev i_Q24:Nat:=48
abbrev i_Q25:Nat:=49
abbrev i_Q26:Nat:=50
abbrev i_Q27:Nat:=51
abbrev i_Q28:Nat:=52
abbrev i_Q29:Nat:=53
abbrev i_Q30:Nat:=54
abbrev i_Q31:Nat:=55
abbrev i_Q32:Nat:=56
abbrev i_Q33:Nat:=57
abbrev i_Q34:Nat:=58
abbrev i_Q35:Nat:=59
abbrev i_Q36:Nat:=60
abbrev i_Q37:Nat:=61
abbrev i_Q38:Nat:=62
abbrev i_Q39:Nat:=63
abbrev i_Q40:Nat:=64
abbrev i_Q41:Nat:=65
abbrev i_Q42:Nat:=66
abbrev i_Q43:Nat:=67
abbrev i_Q44:Nat:=68
abbrev i_Q45:Nat:=69
abbrev i_Q46:Nat:=70
abbrev i_Q47:Nat:=71
abbrev i_Q48:Nat:=72
abbrev i_Q49:Nat:=73
abbrev i_Q50:Nat:=74
abbrev i_Q51:Nat:=75
abbrev i_Q52:Nat:=76
abbrev i_Q53:Nat:=77
abbrev i_Q54:Nat:=78
abbrev i_Q55:Nat:=79
abbrev i_Q56:Nat:=80
abbrev i_Q57:Nat:=94
abbrev i_Q58:Nat:=95
abbrev i_Q59:Nat:=96
abbrev i_Q60:Nat:=97
abbrev i_Q61:Nat:=98
abbrev i_Q62:Nat:=99
abbrev i_Q63:Nat:=100
abbrev i_Q64:Nat:=101
abbrev i_Q65:Nat:=102
abbrev i_Q66:Nat:=103
abbrev i_Q67:Nat:=104
abbrev i_Q68:Nat:=105
abbrev i_Q69:Nat:=106
abbrev i_Q70:Nat:=107
abbrev i_Q71:Nat:=108
abbrev i_Q72:Nat:=109
abbrev i_Q73:Nat:=110
abbrev i_Q74:Nat:=111
abbrev i_Q75:Nat:=112
abbrev i_Q76:Nat:=113
abbrev i_Q77:Nat:=114
abbrev i_Q78:Nat:=115
abbrev i_Q79:Nat:=116
abbrev i_Q80:Nat:=117
abbrev i_Q81:Nat:=118
abbrev i_Q82:Nat:=119
abbrev i_Q83:Nat:=120
abbrev i_Q84:Nat:=121
abbrev i_Q85:Nat:=122
abbrev i_Q86:Nat:=123
abbrev i_Q87:Nat:=124
abbrev i_Q88:Nat:=125
abbrev i_Q89:Nat:=126
abbrev i_Q90:Nat:=127
abbrev i_Q91:Nat:=128
abbrev i_Q92:Nat:=129
abbrev i_Q93:Nat:=150
abbrev i_Q94:Nat:=151
abbrev i_Q95:Nat:=152
abbrev i_Q96:Nat:=153
abbrev i_Q97:Nat:=154
abbrev i_Q98:Nat:=155
abbrev i_Q99:Nat:=156
abbrev i_Q100:Nat:=157
abbrev i_Q101:Nat:=158
abbrev i_Q102:Nat:=159
abbrev i_Q103:Nat:=160
abbrev i_Q104:Nat:=161
abbrev i_Q105:Nat:=162
abbrev i_Q106:Nat:=163
abbrev i_Q107:Nat:=164
abbrev i_Q108:Nat:=165
abbrev i_Q109:Nat:=166
abbrev i_Q110:Nat:=167
abbrev i_Q111:Nat:=168
abbrev i_Q112:Nat:=169
abbrev i_Q113:Nat:=170
abbrev i_Q114:Nat:=171
abbrev i_Q115:Nat:=172
abbrev i_Q116:Nat:=173
abbrev i_Q117:Nat:=174
abbrev i_Q118:Nat:=175
abbrev i_Q119:Nat:=176
abbrev i_Q120:Nat:=177
abbrev i_Q121:Nat:=178
abbrev i_Q122:Nat:=179
abbrev i_Q123:Nat:=180
abbrev i_Q124:Nat:=181
abbrev i_Q125:Nat:=182
abbrev i_Q126:Nat:=183
abbrev i_Q127:Nat:=184
abbrev i_Q128:Nat:=185
abbrev i_Q129:Nat:=186
abbrev i_Q130:Nat:=201
abbrev i_Q131:Nat:=202
abbrev i_Q132:Nat:=203
abbrev i_Q133:Nat:=204
abbrev i_Q134:Nat:=205
abbrev i_Q135:Nat:=206
abbrev i_Q136:Nat:=207
abbrev i_Q137:Nat:=208
abbrev i_Q138:Nat:=209
abbrev i_Q139:Nat:=210
def wrs:List Nat:=[i_Q23,i_Q13,i_Q17,i_Q24,i_Q25,i_Q1,i_Q130,i_Q95,i_Q58,i_Q93]
def xgt {α:Type} (z:α):List α→Nat→α
 | [],_=>z
 | x::_,0=>x
 | _::l,n+1=>xgt z l n
def xgi:Nat→Int:=xgt 0 [0,1,2,3,4,5,6,7,8,9,10,11,12,13,14,15,16,17,18,19,20,21,22,23,24,25,26,27,28,29,30,31]
def sh0:List ((Nat→Nat)→O):=[fun p=>.mv (.t (p 0)),
fun p=>.load 1 false (.t (p 0)),
fun p=>.fad (p 0) (.t (p 1)),
fun p=>.mv (.c (.i .i64 (xgi (p 0)))),
fun p=>.len (.t (p 0)),
fun p=>.bin .add (.t (p 0)) (.c (.i .i64 (xgi (p 1)))),
fun p=>.bin .lss (.t (p 0)) (.t (p 1)),
fun p=>.pick (.t (p 0)) (.t (p 1)) (.c (.b false)),
fun p=>.mv (.c (.b false)),
fun p=>.load 3 true (.t (p 0)),
fun p=>.mv (.c .ns),
fun p=>.pick (.t (p 0)) (.c (.b true)) (.t (p 1)),
fun p=>.bin .eql (.t (p 0)) (.c (.i .i64 (xgi (p 1)))),
fun p=>.iad 1 (.t (p 0)) (.t (p 1)),
fun p=>.iad 2 (.t (p 0)) (.t (p 1)),
fun p=>.box (.t (p 0)),
fun p=>.nck (.t (p 0)),
fun p=>.bin .add (.t (p 0)) (.t (p 1)),
fun p=>.bin .lss (.t (p 0)) (.c (.i .i64 (xgi (p 1)))),
fun p=>.un .not (.t (p 0)),
fun p=>.ext (.t (p 0)) 0,
fun p=>.ext (.t (p 0)) 1,
fun p=>.bin .sub (.t (p 0)) (.c (.i .i64 (xgi (p 1)))),
fun p=>.bin .gtr (.t (p 0)) (.c (.i .i64 (xgi (p 1))))]
def sh1:List ((Nat→Nat)→O):=[fun p=>.load 2 true (.t (p 0)),
fun p=>.store 1 (.t (p 0)) (.t (p 1)),
fun p=>.iad 3 (.t (p 0)) (.t (p 1)),
fun p=>.store 2 (.t (p 0)) (.t (p 1)),
fun p=>.call (.fn i_Q23) [(.t (p 0)),(.c (.i .i64 (xgi (p 1))))],
fun p=>.alloc [(.i .i64 0),(.i .i64 0)],
fun p=>.bin .eql (.t (p 0)) (.t (p 1)),
fun p=>.bin .geq (.t (p 0)) (.c (.i .i64 (xgi (p 1)))),
fun p=>.store 6 (.t (p 0)) (.t (p 1)),
fun p=>.bin .neq (.t (p 0)) (.c (.i .i64 (xgi (p 1)))),
fun p=>.mv (.c (.b true)),
fun p=>.mv (.c (.i .i64 (-1))),
fun p=>.app 2 (.t (p 0)) (.t (p 1)),
fun p=>.app 1 (.t (p 0)) (.t (p 1)),
fun p=>.store 3 (.t (p 0)) (.t (p 1)),
fun p=>.iad 6 (.t (p 0)) (.t (p 1)),
fun p=>.bin .neq (.t (p 0)) (.t (p 1)),
fun p=>.bin .mul (.t (p 0)) (.t (p 1)),
fun p=>.chk 1 false (.t (p 0)) (.t (p 1)),
fun p=>.iad 11 (.t (p 0)) (.t (p 1)),
fun p=>.bin .sub (.t (p 0)) (.t (p 1)),
fun p=>.bsl 2 [(.i .i64 0),(.i .i64 0)] 1 [(0,(.t (p 0)))],
fun p=>.load 6 true (.t (p 0)),
fun p=>.bsl 3 [(.i .i64 0),(.i .i64 0),(.i .i64 0)] 1 [(0,(.t (p 0)))]]
def sh2:List ((Nat→Nat)→O):=[fun p=>.bin .geq (.t (p 0)) (.t (p 1)),
fun p=>.fload 1 false (.t (p 0)),
fun p=>.bin .gtr (.t (p 0)) (.t (p 1)),
fun p=>.app 3 (.t (p 0)) (.t (p 1)),
fun p=>.bin .add (.c (.i .i64 (xgi (p 0)))) (.t (p 1)),
fun p=>.build [(.i .i64 0),(.i .i64 0),(.i .i64 0)] [(0,1,(.c (.i .i64 (xgi (p 0))))),(2,1,(.t (p 1)))],
fun p=>.store 1 (.t (p 0)) (.c (.i .i64 (xgi (p 1)))),
fun p=>.e0,
fun p=>.bin .rem (.t (p 0)) (.t (p 1)),
fun p=>.bsl 1 [.ns] 1 [(0,(.t (p 0)))],
fun p=>.alloc [(.i .i64 0),(.i .i64 0),(.i .i64 0),(.i .i64 0),(.i .i64 0),(.b false)],
fun p=>.ext (.t (p 0)) 2,
fun p=>.call (.fn i_Q20) [(.t (p 0)),(.t (p 1))],
fun p=>.eq false .b (.t (p 0)) (.t (p 1)),
fun p=>.bin .leq (.t (p 0)) (.t (p 1)),
fun p=>.mx [(.t (p 0)),(.t (p 1))],
fun p=>.build [(.i .i64 0),(.i .i64 0)] [(0,1,(.t (p 0))),(1,1,(.t (p 1)))],
fun p=>.call (.fn i_Q23) [(.t (p 0)),(.t (p 1))],
fun p=>.iad 1 (.t (p 0)) (.c (.i .i64 (xgi (p 1)))),
fun p=>.alloc [.ns,.ns,.ns],
fun p=>.load 11 true (.t (p 0)),
fun p=>.call (.fn i_Q35) [(.t (p 0)),(.t (p 1))],
fun p=>.alloc [(.i .i64 0),(.i .i64 0),(.b false),(.i .i64 0),(.i .u32 0),(.i .i64 0)],
fun p=>.store 1 (.t (p 0)) (.c (.b true))]
def sh3:List ((Nat→Nat)→O):=[fun p=>.bsl 1 [(.i .i64 0)] 1 [(0,(.t (p 0)))],
fun p=>.call (.t (p 0)) [(.t (p 1)),(.t (p 2))],
fun p=>.slice 1 (.t (p 0)) (some (.t (p 1))) (some (.t (p 2))) none,
fun p=>.bin .leq (.t (p 0)) (.c (.i .i64 4096)),
fun p=>.call (.fn i_Q96) [(.t (p 0)),(.t (p 1))],
fun p=>.mn [(.t (p 0)),(.c (.i .i64 4097))],
fun p=>.mn [(.c (.i .i64 4097)),(.t (p 0))],
fun p=>.sidx (.t (p 0)) (.t (p 1)),
fun p=>.alloc [(.s ⟨#[]⟩),(.i .i64 0),(.i .i64 0),(.b false),(.b false),.ns,(.i .i64 0),(.i .i64 0),(.i .i64 0),(.i .i64 0),(.i .i64 0)],
fun p=>.store 11 (.t (p 0)) (.t (p 1)),
fun p=>.call (.fn i_Q33) [(.t (p 0))],
fun p=>.call (.fn i_Q41) [(.t (p 0)),(.t (p 1))],
fun p=>.call (.fn i_Q21) [(.t (p 0)),(.t (p 1)),(.t (p 2))],
fun p=>.call (.fn i_Q46) [(.t (p 0)),(.t (p 1)),(.t (p 2))],
fun p=>.call (.fn i_Q51) [(.t (p 0))],
fun p=>.call (.fn i_Q3) [(.t (p 0))],
fun p=>.mn [(.t (p 0)),(.t (p 1))],
fun p=>.call (.fn i_Q59) [(.t (p 0))],
fun p=>.slice 1 (.t (p 0)) none (some (.t (p 1))) none,
fun p=>.alloc [(.i .i64 0),(.i .i64 0),(.b false)],
fun p=>.call (.fn i_Q5) [(.t (p 0)),(.t (p 1))],
fun p=>.bin .gtr (.t (p 0)) (.c (.i .i64 4096)),
fun p=>.nck (.c .np),
fun p=>.cap (.t (p 0))]
def sh4:List ((Nat→Nat)→O):=[fun p=>.bin .neq (.t (p 0)) (.c (.i .i64 (-1))),
fun p=>.bin .mul (.c (.i .i64 (xgi (p 0)))) (.t (p 1)),
fun p=>.chkb 1 [(.i .u32 0)] 3 [(0,(.c (.i .u32 4294967295))),(1,(.c (.i .u32 200))),(2,(.c (.i .u32 3)))] (.t (p 0)),
fun p=>.chka [(.i .i64 0),(.i .i64 0),(.b false),(.i .i64 0),(.i .u32 0),(.i .i64 0)] (.t (p 0)),
fun p=>.call (.fn i_Q27) [(.t (p 0)),(.t (p 1))],
fun p=>.build [(.i .i64 0),(.i .i64 0),(.i .i64 0),(.i .i64 0),(.i .i64 0),(.b false)] [],
fun p=>.call (.fn i_Q28) [(.t (p 0)),(.t (p 1))],
fun p=>.call (.fn i_Q30) [(.t (p 0))],
fun p=>.build [(.i .i64 0),(.i .i64 0),(.i .i64 0)] [(0,1,(.c (.i .i64 (xgi (p 0))))),(2,1,(.c (.i .i64 (xgi (p 1)))))],
fun p=>.call (.fn i_Q19) [(.t (p 0)),(.t (p 1))],
fun p=>.call (.fn i_Q43) [],
fun p=>.call (.fn i_Q45) [(.t (p 0))],
fun p=>.build [(.i .i64 0),(.i .i64 0),(.i .i64 0)] [(0,1,(.c (.i .i64 (xgi (p 0))))),(1,1,(.t (p 1))),(2,1,(.t (p 2)))],
fun p=>.mx [(.t (p 0)),(.c (.i .i64 (xgi (p 1))))],
fun p=>.bin .eql (.t (p 0)) (.c (.i .i64 (-1))),
fun p=>.call (.fn i_Q62) [(.t (p 0))],
fun p=>.alloc [(.i .i64 0),(.i .i64 0),(.i .i64 0),(.i .i64 0)],
fun p=>.store 4 (.t (p 0)) (.t (p 1)),
fun p=>.call (.fn i_Q68) [(.t (p 0))],
fun p=>.call (.fn i_Q71) [(.t (p 0))],
fun p=>.call (.fn i_Q73) [(.t (p 0))],
fun p=>.call (.fn i_Q98) [(.t (p 0)),(.t (p 1))],
fun p=>.mx [(.c (.i .i64 (xgi (p 0)))),(.t (p 1))],
fun p=>.call (.fn i_Q113) [(.t (p 0)),(.t (p 1))]]
def sh5:List ((Nat→Nat)→O):=[fun p=>.call (.t (p 0)) [(.t (p 1))],
fun p=>.alloc [(.i .i64 0),(.i .i64 0),(.i .i64 0)],
fun p=>.slen (.t (p 0)),
fun p=>.call (.fn i_Q17) [(.t (p 0)),(.t (p 1)),(.c (.i .i64 (xgi (p 2))))],
fun p=>.call (.fn i_Q16) [(.t (p 0)),(.t (p 1))],
fun p=>.app 6 (.t (p 0)) (.t (p 1)),
fun p=>.build [(.i .i64 0),(.i .i64 0),(.i .i64 0),(.i .i64 0),(.i .i64 0),(.b false)] [(0,1,(.t (p 0))),(1,1,(.t (p 1))),(2,1,(.t (p 2))),(3,1,(.t (p 3))),(4,1,(.t (p 4)))],
fun p=>.call (.fn i_Q31) [(.t (p 0))],
fun p=>.build [(.i .i64 0),(.i .i64 0),(.i .i64 0),(.i .i64 0),(.i .i64 0),(.b false)] [(1,1,(.t (p 0))),(2,1,(.t (p 1))),(3,1,(.t (p 2))),(4,1,(.t (p 3))),(5,1,(.c (.b true)))],
fun p=>.bin .gtr (.t (p 0)) (.c (.i .i64 96)),
fun p=>.call (.fn i_Q36) [(.t (p 0)),(.t (p 1)),(.t (p 2))],
fun p=>.call (.fn i_Q37) [(.t (p 0)),(.t (p 1)),(.t (p 2))],
fun p=>.call (.fn i_Q40) [(.t (p 0)),(.t (p 1))],
fun p=>.eq true (.agg [.i,.i,.i]) (.t (p 0)) (.t (p 1)),
fun p=>.call (.fn i_Q2) [(.t (p 0)),(.t (p 1))],
fun p=>.build [(.i .i64 0),(.i .i64 0)] [(1,1,(.c (.i .i64 (xgi (p 0)))))],
fun p=>.call (.fn i_Q42) [(.t (p 0)),(.t (p 1))],
fun p=>.call (.fn i_Q44) [(.t (p 0)),(.t (p 1))],
fun p=>.eq false .fn (.t (p 0)) (.c .nf),
fun p=>.call (.fn i_Q9) [(.t (p 0)),(.t (p 1))],
fun p=>.call (.fn i_Q17) [(.t (p 0)),(.t (p 1)),(.t (p 2))],
fun p=>.call (.fn i_Q50) [(.t (p 0)),(.t (p 1))],
fun p=>.eq true (.agg [.i,.i]) (.t (p 0)) (.t (p 1)),
fun p=>.call (.fn i_Q55) [(.t (p 0))]]
def sh6:List ((Nat→Nat)→O):=[fun p=>.call (.fn i_Q4) [(.t (p 0))],
fun p=>.call (.fn i_Q67) [(.t (p 0))],
fun p=>.bsl 1 [.ns] 2 [(0,(.t (p 0))),(1,(.t (p 1)))],
fun p=>.slice 1 (.t (p 0)) (some (.t (p 1))) none none,
fun p=>.bin .gtr (.t (p 0)) (.c (.i .i64 128)),
fun p=>.eq false .sl (.t (p 0)) (.c .ns),
fun p=>.bin .sub (.c (.i .i64 9223372036854775807)) (.t (p 0)),
fun p=>.mv (.c (.i .i64 9223372036854775807)),
fun p=>.call (.fn i_Q76) [(.t (p 0))],
fun p=>.call (.fn i_Q77) [(.t (p 0)),(.t (p 1)),(.t (p 2))],
fun p=>.call (.fn i_Q78) [(.t (p 0)),(.t (p 1)),(.t (p 2))],
fun p=>.call (.fn i_Q8) [(.t (p 0)),(.c (.i .i64 (-1)))],
fun p=>.mksl [(.b false)] (.t (p 0)) (.t (p 1)),
fun p=>.call (.fn i_Q7) [(.t (p 0))],
fun p=>.call (.fn i_Q83) [(.t (p 0))],
fun p=>.call (.fn i_Q53) [(.t (p 0)),(.t (p 1)),(.t (p 2))],
fun p=>.call (.fn i_Q85) [(.t (p 0)),(.t (p 1))],
fun p=>.build [(.i .i64 0),(.i .i64 0),(.b false)] [(0,1,(.t (p 0))),(1,1,(.t (p 1)))],
fun p=>.call (.fn i_Q87) [(.t (p 0)),(.t (p 1)),(.t (p 2))],
fun p=>.build [(.i .i64 0),(.i .i64 0),(.b false)] [(0,1,(.t (p 0))),(1,1,(.t (p 1))),(2,1,(.c (.b true)))],
fun p=>.bsl 3 [(.i .i64 0),(.i .i64 0),(.b false)] 2 [(0,(.t (p 0))),(1,(.t (p 1)))],
fun p=>.call (.fn i_Q89) [(.t (p 0)),(.t (p 1))],
fun p=>.bin .leq (.t (p 0)) (.c (.i .i64 96)),
fun p=>.mv (.c .np)]
def sh7:List ((Nat→Nat)→O):=[fun p=>.call (.fn i_Q99) [(.t (p 0))],
fun p=>.mkif 9 (.c (.s ⟨#[108,101,110,32,111,117,116,32,111,102,32,114,97,110,103,101]⟩)),
fun p=>.call (.fn i_Q108) [(.t (p 0))],
fun p=>.call (.fn i_Q75) [(.t (p 0)),(.t (p 1)),(.t (p 2))],
fun p=>.call (.fn i_Q119) [(.t (p 0))],
fun p=>.call (.fn i_Q120) [(.t (p 0)),(.t (p 1))],
fun p=>.slice 2 (.t (p 0)) (some (.t (p 1))) (some (.t (p 2))) none,
fun p=>.call (.fn i_Q123) [(.t (p 0)),(.t (p 1)),(.t (p 2))],
fun p=>.call (.fn i_Q125) [(.t (p 0)),(.t (p 1)),(.t (p 2))],
fun p=>.call (.fn i_Q124) [(.t (p 0)),(.t (p 1))],
fun p=>.call (.fn i_Q126) [(.t (p 0)),(.c (.i .i64 (-1)))],
fun p=>.mkif 9 (.c (.s ⟨#[99,97,110,110,111,116,32,98,101,32,110,101,103,97,116,105,118,101]⟩)),
fun p=>.slice 3 (.t (p 0)) none (some (.t (p 1))) none,
fun p=>.bsl 6 [(.i .i64 0),(.i .i64 0),(.i .i64 0),(.i .i64 0),(.i .i64 0),(.i .i64 0)] 1 [(0,(.t (p 0)))],
fun p=>.call (.fn i_Q132) [(.t (p 0))],
fun p=>.iad 6 (.t (p 0)) (.c (.i .i64 (xgi (p 1)))),
fun p=>.call (.fn i_Q110) [(.t (p 0)),(.t (p 1))],
fun p=>.call (.fn i_Q139) [(.t (p 0)),(.t (p 1)),(.t (p 2))],
fun p=>.bin .leq (.t (p 0)) (.c (.i .i64 (xgi (p 1)))),
fun p=>.bin .leq (.t (p 0)) (.c (.i .i64 128)),
fun p=>.call (.fn i_Q12) [(.t (p 0))],
fun p=>.build [.ns,(.i .i64 0)] [(0,1,(.t (p 0)))],
fun p=>.call (.fn i_Q1) [(.t (p 0))],
fun p=>.call (.fn i_Q13) [(.t (p 0)),(.t (p 1)),(.c (.i .i64 (xgi (p 2))))]]
def sh8:List ((Nat→Nat)→O):=[fun p=>.call (.fn i_Q14) [(.t (p 0)),(.t (p 1))],
fun p=>.call (.fn i_Q15) [(.t (p 0)),(.t (p 1))],
fun p=>.fload 3 true (.t (p 0)),
fun p=>.chk 3 true (.t (p 0)) (.t (p 1)),
fun p=>.call (.fn i_Q11) [],
fun p=>.bin .add (.c (.i .i64 97)) (.t (p 0)),
fun p=>.conv .i32 (.t (p 0)),
fun p=>.i2s (.t (p 0)),
fun p=>.bin .add (.c (.s ⟨#[112]⟩)) (.t (p 0)),
fun p=>.build [(.s ⟨#[]⟩),(.i .i64 0),(.i .i64 0),(.b false),(.b false),.ns,(.i .i64 0),(.i .i64 0),(.i .i64 0),(.i .i64 0),(.i .i64 0)] [(0,1,(.t (p 0))),(3,1,(.t (p 1))),(4,1,(.t (p 2)))],
fun p=>.bsl 1 [(.i .i64 0)] 5 [(0,(.c (.i .i64 (xgi (p 0))))),(1,(.c (.i .i64 (xgi (p 1))))),(2,(.c (.i .i64 (xgi (p 2))))),(3,(.c (.i .i64 (xgi (p 3))))),(4,(.c (.i .i64 (xgi (p 4)))))],
fun p=>.iada 1 5 (.t (p 0)) (.t (p 1)),
fun p=>.bsl 11 [(.s ⟨#[]⟩),(.i .i64 0),(.i .i64 0),(.b false),(.b false),.ns,(.i .i64 0),(.i .i64 0),(.i .i64 0),(.i .i64 0),(.i .i64 0)] 1 [(0,(.t (p 0)))],
fun p=>.app 11 (.t (p 0)) (.t (p 1)),
fun p=>.bslc 1 [(.i .u32 0)] 3 [(0,(.c (.i .u32 4294967295))),(1,(.c (.i .u32 200))),(2,(.c (.i .u32 3)))],
fun p=>.alc [(.i .i64 0),(.i .i64 0),(.b false),(.i .i64 0),(.i .u32 0),(.i .i64 0)],
fun p=>.build [(.i .i64 0),(.i .i64 0),(.b false),(.i .i64 0),(.i .u32 0),(.i .i64 0)] [(0,1,(.t (p 0))),(1,1,(.t (p 1))),(2,1,(.t (p 2))),(4,1,(.t (p 3)))],
fun p=>.bsl 6 [(.i .i64 0),(.i .i64 0),(.b false),(.i .i64 0),(.i .u32 0),(.i .i64 0)] 1 [(0,(.t (p 0)))],
fun p=>.call (.fn i_Q24) [(.t (p 0)),(.t (p 1))],
fun p=>.call (.fn i_Q25) [(.t (p 0)),(.t (p 1))],
fun p=>.call (.fn i_Q26) [(.t (p 0))],
fun p=>.call (.fn i_Q29) [(.t (p 0))],
fun p=>.call (.fn i_Q32) [(.t (p 0))],
fun p=>.call (.fn i_Q34) [(.t (p 0))]]
def sh9:List ((Nat→Nat)→O):=[fun p=>.call (.fn i_Q38) [(.t (p 0)),(.t (p 1)),(.t (p 2))],
fun p=>.call (.fn i_Q39) [(.t (p 0))],
fun p=>.mksl [(.s ⟨#[]⟩),(.i .i64 0),(.i .i64 0),(.b false),(.b false),.ns,(.i .i64 0),(.i .i64 0),(.i .i64 0),(.i .i64 0),(.i .i64 0)] (.c (.i .i64 (xgi (p 0)))) (.c (.i .i64 (xgi (p 1)))),
fun p=>.build [.ns,.ns,.ns] [(0,1,(.t (p 0)))],
fun p=>.call (.fn i_Q2) [(.t (p 0)),(.c .ns)],
fun p=>.build [(.i .i64 0),(.i .i64 0)] [(0,1,(.c (.i .i64 (xgi (p 0))))),(1,1,(.c (.i .i64 (xgi (p 1)))))],
fun p=>.bsl 2 [(.i .i64 0),(.i .i64 0)] 3 [(0,(.t (p 0))),(1,(.t (p 1))),(2,(.t (p 2)))],
fun p=>.bin .lss (.t (p 0)) (.c (.i .i64 400)),
fun p=>.bin .mul (.t (p 0)) (.c (.i .i64 (xgi (p 1)))),
fun p=>.bin .mul (.t (p 0)) (.c (.i .i64 59)),
fun p=>.bin .rem (.t (p 0)) (.c (.i .i64 211)),
fun p=>.call (.fn i_Q18) [(.t (p 0)),(.t (p 1))],
fun p=>.call (.fn i_Q10) [(.t (p 0)),(.t (p 1))],
fun p=>.call (.fn i_Q47) [(.t (p 0)),(.t (p 1))],
fun p=>.eq false (.agg [.i,.i,.i,.i,.i,.b]) (.t (p 0)) (.t (p 1)),
fun p=>.call (.fn i_Q48) [(.t (p 0)),(.t (p 1))],
fun p=>.mkfn (.func i_Q52) [] [(.t (p 0)),(.t (p 1))],
fun p=>.call (.fn i_Q49) [(.t (p 0)),(.t (p 1))],
fun p=>.call (.fn i_Q54) [(.t (p 0)),(.t (p 1)),(.t (p 2))],
fun p=>.call (.fn i_Q22) [(.t (p 0)),(.c (.i .i64 (xgi (p 1)))),(.c (.i .i64 1073741824))],
fun p=>.bin .gtr (.t (p 0)) (.c (.i .i64 90)),
fun p=>.build [(.i .i64 0),(.i .i64 0),(.i .i64 0)] [(0,1,(.c (.i .i64 (xgi (p 0))))),(1,1,(.t (p 1))),(2,1,(.c (.i .i64 (xgi (p 2)))))],
fun p=>.bsl 3 [(.i .i64 0),(.i .i64 0),(.i .i64 0)] 3 [(0,(.t (p 0))),(1,(.t (p 1))),(2,(.t (p 2)))],
fun p=>.mn [(.t (p 0)),(.c (.i .i64 4096))]]
def sh10:List ((Nat→Nat)→O):=[fun p=>.bin .quo (.t (p 0)) (.t (p 1)),
fun p=>.mv (.c (.i .i64 4096)),
fun p=>.call (.fn i_Q56) [(.t (p 0))],
fun p=>.call (.fn i_Q57) [(.t (p 0))],
fun p=>.call (.fn i_Q58) [(.t (p 0))],
fun p=>.call (.fn i_Q60) [(.t (p 0)),(.t (p 1)),(.t (p 2))],
fun p=>.call (.fn i_Q61) [(.t (p 0)),(.t (p 1)),(.t (p 2))],
fun p=>.mv (.fn i_Q63),
fun p=>.call (.fn i_Q64) [(.t (p 0))],
fun p=>.call (.fn i_Q66) [(.t (p 0))],
fun p=>.call (.fn i_Q65) [(.t (p 0)),(.t (p 1))],
fun p=>.bsl 1 [.ns] 3 [(0,(.t (p 0))),(1,(.t (p 1))),(2,(.t (p 2)))],
fun p=>.call (.fn i_Q69) [(.t (p 0))],
fun p=>.call (.fn i_Q70) [(.t (p 0))],
fun p=>.call (.fn i_Q72) [(.t (p 0))],
fun p=>.call (.fn i_Q74) [(.t (p 0))],
fun p=>.call (.fn i_Q75) [(.t (p 0)),(.c (.i .i64 (xgi (p 1)))),(.c .ns)],
fun p=>.mksl [.ns] (.t (p 0)) (.t (p 1)),
fun p=>.call (.fn i_Q79) [(.t (p 0)),(.t (p 1))],
fun p=>.call (.fn i_Q80) [(.t (p 0)),(.t (p 1))],
fun p=>.call (.fn i_Q81) [(.t (p 0)),(.t (p 1))],
fun p=>.call (.fn i_Q82) [(.fn i_Q81)],
fun p=>.call (.fn i_Q82) [(.fn i_Q48)],
fun p=>.bsl 1 [.nf] 2 [(0,(.t (p 0))),(1,(.t (p 1)))]]
def sh11:List ((Nat→Nat)→O):=[fun p=>.call (.fn i_Q6) [(.t (p 0)),(.t (p 1)),(.t (p 2))],
fun p=>.call (.fn i_Q84) [(.t (p 0))],
fun p=>.call (.fn i_Q86) [(.t (p 0)),(.t (p 1))],
fun p=>.call (.fn i_Q88) [(.t (p 0))],
fun p=>.call (.fn i_Q90) [(.t (p 0)),(.t (p 1)),(.t (p 2))],
fun p=>.call (.fn i_Q91) [(.t (p 0))],
fun p=>.call (.fn i_Q92) [(.t (p 0))],
fun p=>.build [.ns,.ns,(.i .i64 0),(.i .i64 0),(.i .i64 0)] [(0,1,(.t (p 0)))],
fun p=>.call (.fn i_Q93) [(.t (p 0))],
fun p=>.build [(.i .i64 0),(.i .i64 0)] [],
fun p=>.call (.fn i_Q94) [(.t (p 0))],
fun p=>.call (.fn i_Q95) [(.t (p 0))],
fun p=>.call (.fn i_Q97) [(.t (p 0))],
fun p=>.bsl 1 [(.i .i64 0)] 2 [(0,(.t (p 0))),(1,(.t (p 1)))],
fun p=>.call (.fn i_Q100) [(.t (p 0)),(.t (p 1)),(.t (p 2))],
fun p=>.call (.fn i_Q101) [(.t (p 0))],
fun p=>.call (.fn i_Q102) [(.t (p 0)),(.t (p 1)),(.t (p 2))],
fun p=>.build [(.i .i64 0),(.i .i64 0),(.i .i64 0),(.i .i64 0)] [(0,1,(.t (p 0))),(1,1,(.t (p 1))),(2,1,(.t (p 2))),(3,1,(.t (p 3)))],
fun p=>.load 4 true (.t (p 0)),
fun p=>.alloc [.ns],
fun p=>.mkfn (.func i_Q104) [] [(.t (p 0))],
fun p=>.call (.fn i_Q103) [(.t (p 0)),(.t (p 1))],
fun p=>.call (.fn i_Q106) [(.c .ns),(.t (p 0))],
fun p=>.call (.fn i_Q107) [(.c .ns),(.t (p 0))]]
def sh12:List ((Nat→Nat)→O):=[fun p=>.call (.fn i_Q109) [(.t (p 0)),(.c (.i .i64 (xgi (p 1))))],
fun p=>.call (.fn i_Q110) [(.t (p 0)),(.c (.i .i64 (xgi (p 1))))],
fun p=>.call (.fn i_Q111) [(.t (p 0)),(.c (.i .i64 (xgi (p 1))))],
fun p=>.call (.fn i_Q112) [(.t (p 0)),(.c (.i .i64 (xgi (p 1))))],
fun p=>.build [(.i .i64 0),(.i .i64 0)] [(0,1,(.c (.i .i64 (-1)))),(1,1,(.t (p 0)))],
fun p=>.bin .lss (.t (p 0)) (.c (.i .i64 8192)),
fun p=>.call (.fn i_Q114) [(.t (p 0)),(.t (p 1)),(.t (p 2))],
fun p=>.call (.fn i_Q115) [(.t (p 0)),(.t (p 1))],
fun p=>.mv (.c .nf),
fun p=>.mkfn (.func i_Q116) [] [(.t (p 0))],
fun p=>.bin .lss (.t (p 0)) (.c (.i .i64 (-1))),
fun p=>.call (.fn i_Q117) [(.t (p 0))],
fun p=>.call (.fn i_Q118) [(.t (p 0))],
fun p=>.alloc [(.i .i64 0)],
fun p=>.mkfn (.func i_Q122) [] [(.t (p 0)),(.t (p 1))],
fun p=>.call (.fn i_Q121) [(.t (p 0)),(.t (p 1))],
fun p=>.bin .geq (.t (p 0)) (.c (.i .i64 (-1))),
fun p=>.call (.fn i_Q127) [(.t (p 0))],
fun p=>.call (.fn i_Q128) [(.t (p 0))],
fun p=>.call (.fn i_Q129) [(.t (p 0)),(.t (p 1))],
fun p=>.store 1 (.t (p 0)) (.c .ns),
fun p=>.call (.fn i_Q130) [(.t (p 0)),(.c (.i .i64 (xgi (p 1))))],
fun p=>.call (.fn i_Q130) [(.t (p 0)),(.t (p 1))],
fun p=>.slice 2 (.t (p 0)) none (some (.t (p 1))) none]
def sh13:List ((Nat→Nat)→O):=[fun p=>.slice 2 (.t (p 0)) none (some (.t (p 1))) (some (.t (p 2))),
fun p=>.iad 2 (.t (p 0)) (.c (.i .i64 (xgi (p 1)))),
fun p=>.call (.fn i_Q131) [(.t (p 0)),(.t (p 1))],
fun p=>.call (.fn i_Q105) [(.t (p 0)),(.t (p 1))],
fun p=>.appz [(.i .i64 0),(.i .i64 0),(.i .i64 0)] (.t (p 0)) (.t (p 1)),
fun p=>.appz [.ns] (.t (p 0)) (.t (p 1)),
fun p=>.build [(.i .i64 0),(.i .i64 0),(.i .i64 0),(.i .i64 0),(.i .i64 0),(.i .i64 0)] [(3,1,(.c (.i .i64 (xgi (p 0)))))],
fun p=>.build [(.i .i64 0),(.i .i64 0),(.i .i64 0),(.i .i64 0),(.i .i64 0),(.i .i64 0)] [(0,3,(.t (p 0))),(3,1,(.t (p 1)))],
fun p=>.alloc [(.i .i64 0),(.i .i64 0),(.i .i64 0),(.i .i64 0),(.i .i64 0),(.i .i64 0)],
fun p=>.slice 6 (.t (p 0)) none (some (.t (p 1))) none,
fun p=>.call (.fn i_Q133) [(.t (p 0)),(.t (p 1))],
fun p=>.call (.fn i_Q134) [(.t (p 0)),(.t (p 1))],
fun p=>.call (.fn i_Q135) [(.t (p 0))],
fun p=>.call (.fn i_Q111) [(.t (p 0)),(.t (p 1))],
fun p=>.call (.fn i_Q112) [(.t (p 0)),(.t (p 1))],
fun p=>.call (.fn i_Q136) [(.t (p 0))],
fun p=>.call (.fn i_Q137) [(.t (p 0)),(.t (p 1)),(.t (p 2))],
fun p=>.call (.fn i_Q138) [(.t (p 0)),(.t (p 1))],
fun p=>.bin .geq (.t (p 0)) (.c (.i .u8 48)),
fun p=>.bin .leq (.t (p 0)) (.c (.i .u8 57)),
fun p=>.bin .eql (.t (p 0)) (.c (.i .u8 95)),
fun p=>.bin .lss (.t (p 0)) (.c (.i .u8 97)),
fun p=>.bin .gtr (.t (p 0)) (.c (.i .u8 122)),
fun p=>.bin .geq (.t (p 0)) (.c (.i .i64 512))]
def sh14:List ((Nat→Nat)→O):=[fun p=>.bin .gtr (.t (p 0)) (.c (.i .i64 255)),
fun p=>.load 5 true (.t (p 0)),
fun p=>.idx 1 5 false (.t (p 0)) (.t (p 1))]
def shB:Nat→List ((Nat→Nat)→O)
 | 0=>sh0
 | 1=>sh1
 | 2=>sh2
 | 3=>sh3
 | 4=>sh4
 | 5=>sh5
 | 6=>sh6
 | 7=>sh7
 | 8=>sh8
 | 9=>sh9
 | 10=>sh10
 | 11=>sh11
 | 12=>sh12
 | 13=>sh13
 | _=>sh14
def shp (s:Nat) (p:Nat→Nat):O:=xgt (fun _=>.e0) (shB (s / 24)) (s % 24) p
def nps:List Nat:=[1,1,2,1,1,2,2,2,0,1,0,2,2,2,2,1,1,2,2,1,1,1,2,2,1,2,2,2,2,0,2,2,2,2,0,0,2,2,2,2,2,2,2,2,2,1,1,1,2,1,2,2,2,2,2,0,2,1,0,1,2,2,2,2,2,2,2,0,1,2,0,1,1,3,3,1,2,1,1,2,0,2,1,2,3,3,1,1,2,1,2,0,2,1,0,1,1,2,1,1,2,0,2,1,2,2,0,1,3,2,1,1,0,2,1,1,1,2,2,2,2,0,1,3,2,2,5,1,4,1,3,3,2,2,2,1,2,2,1,2,3,2,2,1,1,1,2,2,1,1,1,0,1,3,3,1,2,1,1,3,2,2,3,2,2,2,1,0,1,0,1,3,1,2,3,3,3,2,1,0,2,1,1,2,2,3,2,1,1,1,1,3,2,2,1,2,0,1,1,1,1,3,5,2,1,2,0,0,4,1,2,2,1,1,1,1,3,1,2,1,1,2,3,1,2,1,1,2,2,2,2,2,2,2,3,2,1,3,3,1,2,0,1,1,1,3,3,0,1,1,2,3,1,1,1,1,2,2,2,2,2,0,0,2,3,1,2,1,3,1,1,1,1,0,1,1,1,2,3,1,3,4,1,0,1,2,1,1,2,2,2,2,1,1,3,2,0,1,1,1,1,0,2,2,1,1,1,2,1,2,2,2,3,2,2,2,2,2,1,2,0,2,2,2,1,2,2,1,3,2,1,1,1,1,1,1,1,1,2]
abbrev Rs:=List TO×List (Bool×List TO)
abbrev Rc:=Nat→Nat→Nat→Bool→Rs
def xfin (s:Nat) (d:Option Nat) (g:Option (Nat×Bool)) (l:List Nat) (r:Rs):Rs:=(⟨d,shp s (fun i=>xgt 0 l i),g⟩::r.1,r.2)
def xpar (R:Nat) (rc:Nat→List Nat→Rs):Nat→Nat→List Nat→Rs
 | 0,n,l=>rc n l
 | f+1,n,l=>xpar R rc f (n / R) (n % R::l)
def xdst (R s:Nat) (rc:Rc) (g:Option (Nat×Bool)) (gn:Nat) (gb:Bool) (p:Nat):Nat→Nat→Rs
 | 0,n=>xpar R (fun n l=>xfin s (some (p+1)) g l (rc n (p+1) gn gb)) (xgt 0 nps s) n []
 | 1,n=>xpar R (fun m l=>xfin s (some (n % R)) g l (rc m (n % R) gn gb)) (xgt 0 nps s) (n / R) []
 | _+2,n=>xpar R (fun n l=>xfin s none g l (rc n p gn gb)) (xgt 0 nps s) n []
def xgud (R s:Nat) (rc:Rc) (p gn:Nat) (gb:Bool):Nat→Nat→Rs
 | 0,n=>xdst R s rc none gn gb p (n % 3) (n / 3)
 | 1,n=>xdst R s rc (some (n % R,true)) (n % R) true p (n / R % 3) (n / R / 3)
 | 2,n=>xdst R s rc (some (n % R,false)) (n % R) false p (n / R % 3) (n / R / 3)
 | _+3,n=>xdst R s rc (some (gn,gb)) gn gb p (n % 3) (n / 3)
def xseg (b:Bool) (r:Rs):Rs:=([],(b,r.1)::r.2)
def xstp (R:Nat) (rc:Rc) (p gn:Nat) (gb:Bool):Nat→Nat→Rs
 | 0,_=>([],[])
 | 1,n=>xseg true (rc n p gn gb)
 | 2,n=>xseg false (rc n p gn gb)
 | s+3,n=>xgud R s rc p gn gb (n % 4) (n / 4)
def xdec (R:Nat):Nat→Rc
 | 0=>fun _ _ _ _=>([],[])
 | f+1=>fun n p gn gb=>xstp R (xdec R f) p gn gb (n % 342) (n / 342)
def xrad (n:Nat):Nat:=xgt 0 [32,64,128,512] (n % 4)
@[go_sem ↓] def k (n:Nat) {l:List TO} (h:(xdec (xrad n) 400 (n / 4) 511 0 true).1=l:=by conv=>lhs;cbv):List TO:=l
@[go_sem ↓] def kd (n:Nat) {l:List (Bool×List TO)} (h:(xdec (xrad n) 400 (n / 4) 511 0 true).2=l:=by conv=>lhs;cbv):List (Bool×List TO):=l
/-! horarium/horariumlaw11.ReduceNumbers -/
@[go_sem] def Q0_0:=k 0x158c
@[go_sem] def Q0_1:=k 0x5598
@[go_sem] def Q0_2:=k 0xfeff90c5a4c
@[go_sem] def Q0_3:=k 0xe35fe4d0ae974f0eff965acc
@[go_sem] def Q0_4:=k 0x1c63cfb06aa50cb05f4c
@[go_sem] def Q0_5:=k 0x156263ec9606a4cc7b24e01297522df8c
@[go_sem] def Q0_6:=kd 0x1442a0e6e17d0a5519acfed88426a1a0f3bdb8da393156e72d1777ae07ef9d4726dc19abf1eff39370496d801719b6ede814bec54b3f460ff53d8ae5
@[go_sem] def Q0_7:=k 0x158c
@[go_sem] def Q0_8:=k 0x6b608edc03b23eb2b5
@[go_sem] def Q0_9:=k 0xb726fb45
@[go_sem] def Q0_10:=k 0x3061a05e4806d334381
@[go_sem] def Q0_11:=k 0x3367bb2f47ac81c8a273b1
@[go_sem] def Q0_12:=k 0x158c
@[go_sem] def Q0_13:=k 0xd7ac6415f76421
def Q0_14:TC:=(.seq (.reg Q0_9) (.seq (.cond (.t 46) .skip (.exit 2)) (.seq (.block 3 (.seq (.reg Q0_10) (.seq (.reg Q0_11) (.cond (.t 52) (.seq (.reg Q0_12) .ret) .skip)))) (.reg Q0_13))))
@[go_sem] def Q0_15:=k 0x50ce1ecd84c925a8c
def Q0_16:TC:=(.seq (.seq (.reg Q0_2) (.cond (.t 8) .skip (.exit 0))) (.seq (.block 1 (.seq (.reg Q0_3) (.seq (.reg Q0_4) (.seq (.reg Q0_5) (.seq (.seq (.dreg Q0_6) (.cond (.t 41) (.seq (.reg Q0_7) .ret) .skip)) (.seq (.reg Q0_8) (.block 2 (.loop Q0_14)))))))) (.reg Q0_15)))
@[go_sem] def Q0_17:=k 0xd8dd948773d
def t_Q0:TF:=⟨55,[.t 0],(.seq (.reg Q0_0) (.seq (.seq (.reg Q0_1) (.block 0 (.loop Q0_16))) (.seq (.reg Q0_17) .ret)))⟩
/-! (*horarium/horariumkeep.Tape).Config -/
@[go_sem] def Q1_0:=k 0x96b8
@[go_sem] def Q1_1:=k 0xd6d8
@[go_sem] def Q1_2:=k 0x1e82108738f6834d5a2d70c
@[go_sem] def Q1_3:=k 0x15618
@[go_sem] def Q1_4:=k 0x428373f28bbdab6c
@[go_sem] def Q1_5:=k 0x6b0e82c73017627826eae152d7dacafa4947f3ea4dcaeadbc6785809b124a3a4e6e4735800d
@[go_sem] def Q1_6:=k 0x22509bd18248066598d
@[go_sem] def Q1_7:=k 0x2323114bd11cd
@[go_sem] def Q1_8:=kd 0x81b6162dec7ab8cd4a30c5c4eef3267f6992352af58a030ee5566c8ffa378dd39bffa017ce2c0434daacf44287705cc3d
@[go_sem] def Q1_9:=k 0x26569ed602438bb920d
def Q1_10:TC:=(.seq (.seq (.reg Q1_7) (.cond (.t 36) .skip (.exit 2))) (.seq (.block 3 (.dreg Q1_8)) (.reg Q1_9)))
@[go_sem] def Q1_11:=k 0xc9bb9
@[go_sem] def Q1_12:=k 0xc8c10415
@[go_sem] def Q1_13:=k 0x345584a64abed
@[go_sem] def Q1_14:=k 0xf7fbe31486b282abc60e6a9a265c8019443c7372690d20a37e379c0d
@[go_sem] def Q1_15:=k 0xf81cbc3e036521
def Q1_16:TC:=(.seq (.reg Q1_12) (.seq (.cond (.t 51) .skip (.exit 4)) (.seq (.block 5 (.seq (.reg Q1_13) (.reg Q1_14))) (.reg Q1_15))))
@[go_sem] def Q1_17:=k 0x2239879744f1661b00f6f049a594536a697d06fcd36
@[go_sem] def Q1_18:=k 0xa247dcd8e51b4ebcc
def Q1_19:TC:=(.seq (.seq (.reg Q1_4) (.cond (.t 18) .skip (.exit 0))) (.seq (.block 1 (.seq (.reg Q1_5) (.seq (.seq (.reg Q1_6) (.block 2 (.loop Q1_10))) (.seq (.seq (.reg Q1_11) (.block 4 (.loop Q1_16))) (.reg Q1_17))))) (.reg Q1_18)))
@[go_sem] def Q1_20:=k 0x8af4f5e5803e72091dee
@[go_sem] def Q1_21:=k 0x496ece3647aa07919847de35bf46ba62022e2e
@[go_sem] def Q1_22:=k 0x50b54cbb64aace75bb12b9f2e
@[go_sem] def Q1_23:=kd 0x7df84cc3d20bc89ebad8d6acfab8800c82db8d6360e147cfd56b72b1dcb0833bdea6dfd4a6d2f219690ab08a530a34c06385a55fc14430292da6d536328f427cf9fffb9a3a20bfa0479d0f0f6fc7d6fc44f01c560e4d5e9d650e
@[go_sem] def Q1_24:=k 0x32322cb189d1f6
@[go_sem] def Q1_25:=k 0xd5b5da84661aea27ec6566d01b1d1a22e
@[go_sem] def Q1_26:=k 0x38b3965f9660af1e555d44e18b035af7dbd6082d2b6
@[go_sem] def Q1_27:=k 0x9b0d01eb813c123baeee
def Q1_28:TC:=(.seq (.seq (.reg Q1_21) (.cond (.t 75) .skip (.exit 6))) (.seq (.block 7 (.seq (.reg Q1_22) (.seq (.dreg Q1_23) (.seq (.seq (.reg Q1_24) (.cond (.t 101) (.reg Q1_25) .skip)) (.reg Q1_26))))) (.reg Q1_27)))
@[go_sem] def Q1_29:=k 0xe3854a0f95c1f194236e
@[go_sem] def Q1_30:=k 0x39391062ad63ae
@[go_sem] def Q1_31:=kd 0xb69007b5dd1b17d6b1c65b44081f8f37e57748557e556014e8f67d0695f5452d5dd797d7e
@[go_sem] def Q1_32:=k 0xeb91501296c112a5e3ee
def Q1_33:TC:=(.seq (.seq (.reg Q1_30) (.cond (.t 115) .skip (.exit 8))) (.seq (.block 9 (.dreg Q1_31)) (.reg Q1_32)))
@[go_sem] def Q1_34:=k 0x244daad8939ebd896ac121fa52f
def t_Q1:TF:=⟨129,[.cell 2 3 true],(.seq (.reg Q1_0) (.seq (.reg Q1_1) (.seq (.reg Q1_2) (.seq (.seq (.reg Q1_3) (.block 0 (.loop Q1_19))) (.seq (.seq (.reg Q1_20) (.block 6 (.loop Q1_28))) (.seq (.seq (.reg Q1_29) (.block 8 (.loop Q1_33))) (.seq (.reg Q1_34) .ret)))))))⟩
/-! horarium/reduce.Table -/
@[go_sem] def Q2_0:=k 0xc19b4fde4315e8
@[go_sem] def Q2_1:=k 0x113c1251066723628620e1122eca192f1b2c
@[go_sem] def Q2_2:=k 0x2424184c37ac
@[go_sem] def Q2_3:=k 0x166f534480d6f0fab2a010
@[go_sem] def Q2_4:=k 0x2e2e2fd7f84c
@[go_sem] def Q2_5:=k 0x1a746c8f2df046f37d6336620
@[go_sem] def Q2_6:=k 0x820465b92113f9d3a20f89518908a4ffd4f7109d2911
@[go_sem] def Q2_7:=k 0x8982cf7627058a18d
@[go_sem] def Q2_8:=k 0xcffb68a9cd9379482ce30563712d8a172c1f9af8f573b95dc588f8ee93f29cd
@[go_sem] def Q2_9:=k 0xcf519a4b54e134394ab8cbd0e6f643a0763b1465c68338b99b30d
@[go_sem] def Q2_10:=k 0xe20711d969891e44d
@[go_sem] def Q2_11:=k 0xcc278048eb749540713a7a331f561e8885231b62d1e1d440df66cc8e
@[go_sem] def Q2_12:=kd 0x7a04303a74bfffcff5b475bf5719b0dc3ce
def t_Q2:TF:=⟨68,[.t 4,.cell 5 6 true,.t 6],(.seq (.reg Q2_0) (.seq (.reg Q2_1) (.seq (.seq (.reg Q2_2) (.cond (.t 19) (.reg Q2_3) .skip)) (.seq (.seq (.reg Q2_4) (.cond (.t 24) (.seq (.reg Q2_5) .ret) .skip)) (.seq (.reg Q2_6) (.seq (.reg Q2_7) (.seq (.reg Q2_8) (.seq (.seq (.reg Q2_9) (.cond (.t 54) (.seq (.reg Q2_10) (.reg Q2_11)) .skip)) (.seq (.dreg Q2_12) .ret)))))))))⟩
/-! horarium/horariumref3.Of -/
@[go_sem] def Q3_0:=k 0x30add4
@[go_sem] def Q3_1:=k 0x1cb5967d7706162c
@[go_sem] def Q3_2:=k 0x10102834266c
@[go_sem] def Q3_3:=k 0x141e71bb15d26ac
@[go_sem] def Q3_4:=k 0x6a28abc9a6bd651bd6cc
@[go_sem] def Q3_5:=k 0x1e3db5165672b2c
@[go_sem] def Q3_6:=k 0x181b10dd4
@[go_sem] def Q3_7:=k 0x1a3c7e661eb8c
def t_Q3:TF:=⟨18,[.t 2,.t 3],(.seq (.reg Q3_0) (.seq (.seq (.reg Q3_1) (.seq (.reg Q3_2) (.cond (.t 9) (.seq (.reg Q3_3) .ret) .skip))) (.seq (.reg Q3_4) (.seq (.seq (.reg Q3_5) (.cond (.t 16) (.seq (.reg Q3_6) .ret) .skip)) (.seq (.reg Q3_7) .ret)))))⟩
/-! horarium/horariumref3.Total -/
@[go_sem] def Q4_0:=k 0x95b8
@[go_sem] def Q4_1:=k 0xd5d8
@[go_sem] def Q4_2:=k 0xc6c6a1d162c
@[go_sem] def Q4_3:=k 0x83e72a4
@[go_sem] def Q4_4:=k 0x568273ab7c3d16cf5b6e4
@[go_sem] def Q4_5:=k 0x3d02538032ad188f5d915b1a2ec
@[go_sem] def Q4_6:=k 0x414bcc1c01b80
def Q4_7:TC:=(.seq (.reg Q4_3) (.seq (.cond (.t 9) .skip (.exit 0)) (.seq (.block 1 (.seq (.reg Q4_4) (.reg Q4_5))) (.reg Q4_6))))
@[go_sem] def Q4_8:=k 0x22478651e38c
def t_Q4:TF:=⟨18,[.t 2],(.seq (.reg Q4_0) (.seq (.reg Q4_1) (.seq (.seq (.reg Q4_2) (.block 0 (.loop Q4_7))) (.seq (.reg Q4_8) .ret))))⟩
/-! horarium/horariumref7.Holds -/
@[go_sem] def Q5_0:=k 0x45a0bf95e8
@[go_sem] def Q5_1:=k 0x330c6373a76531eb4
@[go_sem] def Q5_2:=k 0xd6a4744
@[go_sem] def Q5_3:=k 0x6927b7f1e0df146018be8
@[go_sem] def Q5_4:=k 0x5a23bb8501b6c1ce1833bdb00f2ab9a526db8c
@[go_sem] def Q5_5:=k 0x1b367fc284e1f53a3f5af4767df4242f2d70fe7d850f2381506d6c986959b3ef898e72700855
@[go_sem] def Q5_6:=k 0x9961f8
@[go_sem] def Q5_7:=k 0x91665215b32201
def Q5_8:TC:=(.seq (.reg Q5_2) (.seq (.cond (.t 14) .skip (.exit 0)) (.seq (.block 1 (.seq (.reg Q5_3) (.seq (.reg Q5_4) (.seq (.reg Q5_5) (.cond (.t 35) (.seq (.reg Q5_6) .ret) .skip))))) (.reg Q5_7))))
@[go_sem] def Q5_9:=k 0x6a1ead9b8b96296a15
@[go_sem] def Q5_10:=k 0xa2cb92a5
@[go_sem] def Q5_11:=k 0x9cffc80321beb320f6843800a5567daad
@[go_sem] def Q5_12:=kd 0x10be2bce7f5bd0c24d50d04474345052f31949ee86167d413901b16980a0c7a54a2ed4e97dcbd
@[go_sem] def Q5_13:=k 0xa165f8
@[go_sem] def Q5_14:=k 0xeb7018edeea4c1
def Q5_15:TC:=(.seq (.reg Q5_10) (.seq (.cond (.t 41) .skip (.exit 2)) (.seq (.block 3 (.seq (.reg Q5_11) (.seq (.dreg Q5_12) (.cond (.t 57) (.seq (.reg Q5_13) .ret) .skip)))) (.reg Q5_14))))
@[go_sem] def Q5_16:=k 0x115f8
def t_Q5:TF:=⟨59,[.t 4],(.seq (.reg Q5_0) (.seq (.seq (.reg Q5_1) (.block 0 (.loop Q5_8))) (.seq (.seq (.reg Q5_9) (.block 2 (.loop Q5_15))) (.seq (.reg Q5_16) .ret))))⟩
/-! horarium/horariumref7.Same -/
@[go_sem] def Q6_0:=k 0x1964c
@[go_sem] def Q6_1:=k 0x457a90ea54b65073176b244935b8f20cfb7f718e34d4de79c8856cc
@[go_sem] def Q6_2:=k 0x4d3e1b737c1fbbac
def t_Q6:TF:=⟨20,[.t 6],(.seq (.reg Q6_0) (.seq (.reg Q6_1) (.seq (.reg Q6_2) .ret)))⟩
/-! horarium/horariumref7.Depends -/
@[go_sem] def Q7_0:=k 0xd06d5c8
@[go_sem] def Q7_1:=k 0x166d15a2dd5f39af95744a1a74
@[go_sem] def Q7_2:=k 0xcccca4ea2ec
@[go_sem] def Q7_3:=k 0xe730b64
@[go_sem] def Q7_4:=k 0x2065a631cf6c
@[go_sem] def Q7_5:=k 0xd1d1a63e38c
@[go_sem] def Q7_6:=k 0x139ee004
@[go_sem] def Q7_7:=k 0x2a7fb8df240c
@[go_sem] def Q7_8:=kd 0x18056b7006ae588cbafcbaf785e5dc3b5c6f270abbef58d103d7fe0c9ff9bfb92e16b306c4bd6205d20dba9677d507d5301a4d1cc0fb5ab4cdda960f42ea1b9df4368ed3249bf8fc6ed126b47e18336d3d5acd
@[go_sem] def Q7_9:=k 0xce02c145c2e3e1
def Q7_10:TC:=(.seq (.reg Q7_6) (.seq (.cond (.t 20) .skip (.exit 2)) (.seq (.block 3 (.seq (.reg Q7_7) (.dreg Q7_8))) (.reg Q7_9))))
@[go_sem] def Q7_11:=k 0xd1b6721db92401
def Q7_12:TC:=(.seq (.reg Q7_3) (.seq (.cond (.t 15) .skip (.exit 0)) (.seq (.block 1 (.seq (.reg Q7_4) (.seq (.reg Q7_5) (.block 2 (.loop Q7_10))))) (.reg Q7_11))))
@[go_sem] def Q7_13:=k 0x6e24b19d0bda1f6415
@[go_sem] def Q7_14:=k 0xe3f014a5
@[go_sem] def Q7_15:=k 0x1ffa72fa0d8d3abdc7c5d49
@[go_sem] def Q7_16:=k 0x107360c6e80cb94b1828cce35cd31665b8765b942e70cd6d5e5c752172d12
@[go_sem] def Q7_17:=kd 0x46cf1b5a910aebdfff9b2a3f834f1e2799ea5e09f329f8585ffeaa246c35a1ed88e1ef289f8669694f5786d761015af30ae28e9d5264803f96ece
@[go_sem] def Q7_18:=k 0x15b1cc57edf5b042
def Q7_19:TC:=(.seq (.reg Q7_14) (.seq (.cond (.t 57) .skip (.exit 4)) (.seq (.block 5 (.seq (.reg Q7_15) (.seq (.reg Q7_16) (.cond (.t 69) (.dreg Q7_17) .skip)))) (.reg Q7_18))))
@[go_sem] def Q7_20:=k 0x2bade2bbce104e
def t_Q7:TF:=⟨88,[.t 2],(.seq (.reg Q7_0) (.seq (.reg Q7_1) (.seq (.seq (.reg Q7_2) (.block 0 (.loop Q7_12))) (.seq (.seq (.reg Q7_13) (.block 4 (.loop Q7_19))) (.seq (.reg Q7_20) .ret)))))⟩
/-! horarium/horariumref3.Ticks -/
@[go_sem] def Q8_0:=k 0x115f8
@[go_sem] def Q8_1:=k 0x15618
@[go_sem] def Q8_2:=k 0xc8c8a25966c
@[go_sem] def Q8_3:=k 0xa4ffae4
@[go_sem] def Q8_4:=k 0x77c4a5bcbeed670073f24
@[go_sem] def Q8_5:=k 0x25f94423c9bff9a702f41a822339322fcbaa39ed377bb334
@[go_sem] def Q8_6:=k 0x69b1630e7c95d97cc7eb5cc6c4c
@[go_sem] def Q8_7:=k 0x6db8174c3dce0
def Q8_8:TC:=(.seq (.reg Q8_3) (.seq (.cond (.t 11) .skip (.exit 0)) (.seq (.block 1 (.seq (.reg Q8_4) (.seq (.reg Q8_5) (.cond (.t 22) (.reg Q8_6) .skip)))) (.reg Q8_7))))
@[go_sem] def Q8_9:=k 0x387dabecacec
def t_Q8:TF:=⟨29,[.t 4],(.seq (.reg Q8_0) (.seq (.reg Q8_1) (.seq (.seq (.reg Q8_2) (.block 0 (.loop Q8_8))) (.seq (.reg Q8_9) .ret))))⟩
/-! horarium/horariumref3.Nodes -/
@[go_sem] def Q9_0:=k 0x1160c
@[go_sem] def Q9_1:=k 0x75a5c087e8630521ec9d162c
@[go_sem] def Q9_2:=k 0x1160c
@[go_sem] def Q9_3:=k 0xcbcba3256cc
@[go_sem] def Q9_4:=k 0xd6a4744
@[go_sem] def Q9_5:=k 0x1e73b5ad8b4c
@[go_sem] def Q9_6:=kd 0x6b3e9844182c4348b4ff29bf5d0f193f1dc7793b304a4c
@[go_sem] def Q9_7:=k 0x1160c
@[go_sem] def Q9_8:=k 0x661075944dca0
def Q9_9:TC:=(.seq (.reg Q9_4) (.seq (.cond (.t 14) .skip (.exit 0)) (.seq (.block 1 (.seq (.reg Q9_5) (.seq (.dreg Q9_6) (.cond (.t 24) (.seq (.reg Q9_7) .ret) .skip)))) (.reg Q9_8))))
@[go_sem] def Q9_10:=k 0x11674
def t_Q9:TF:=⟨26,[.t 4],(.seq (.reg Q9_0) (.seq (.seq (.reg Q9_1) (.cond (.t 10) (.seq (.reg Q9_2) .ret) .skip)) (.seq (.seq (.reg Q9_3) (.block 0 (.loop Q9_9))) (.seq (.reg Q9_10) .ret))))⟩
/-! horarium/horariumref7.Stuck -/
@[go_sem] def Q10_0:=k 0x45a5c215e8
@[go_sem] def Q10_1:=k 0x30c22a98be816015a1652653eea3f8ec862179e90
@[go_sem] def Q10_2:=k 0x38dfabf0a3f26f0c
def t_Q10:TF:=⟨15,[.t 4],(.seq (.reg Q10_0) (.seq (.reg Q10_1) (.seq (.reg Q10_2) .ret)))⟩
/-! horarium/horariumlaw11.known -/
@[go_sem] def Q11_0:=k 0x158c
@[go_sem] def Q11_1:=k 0x18066e0fd2c2236f4a294
@[go_sem] def Q11_2:=k 0x8962a9e4cfc4cad0c
@[go_sem] def Q11_3:=k 0xc587297a5019a979f7440d88e3f991942ec7bb391840dccc37965bf0
@[go_sem] def Q11_4:=k 0x3db69fb9122cc758a2cb2ff1c2767e9cae80fcd5ab111661cd0
@[go_sem] def Q11_5:=k 0x227b0913fbbc1bc55da9b3605f7e369
@[go_sem] def Q11_6:=k 0xa2854eb9e58c4303c6d0a3705ea7f42ddbb890af2211
@[go_sem] def Q11_7:=k 0xbae5fd7f8a80cfd2d5aa03117edf6f928289d8b0a2d1
@[go_sem] def Q11_8:=k 0xf186972c14fdc0f985f55515cb0bcc165a63e2e47ef284fc5cb8ebe76cae715719806f4ea68ddf0235f3d8855a2fa1d367de72516f8dc57c9c9c6d0c29298dc0878060c97e69754107b3574261f7221a86ae66866e6e639d4c6d7762134008eed59e4188916538c889f6623eea01502f1536f203b0370fbf9992b1f0807440ac3829a3338d45730c8daeea193675782859dd29cc410b9d5165bd902acaeaa7a4c8c4ab3f1ac48bdc8ecdabde9eac3afb4afb6d1242b4e
def t_Q11:TF:=⟨108,[.t 0],(.seq (.reg Q11_0) (.seq (.reg Q11_1) (.seq (.reg Q11_2) (.seq (.reg Q11_3) (.seq (.reg Q11_4) (.seq (.reg Q11_5) (.seq (.reg Q11_6) (.seq (.reg Q11_7) (.seq (.reg Q11_8) .ret)))))))))⟩
/-! horarium/horariumlaw11.tape -/
@[go_sem] def Q12_0:=k 0x95d4
@[go_sem] def Q12_1:=k 0xd5f4
@[go_sem] def Q12_2:=k 0x115f8
@[go_sem] def Q12_3:=k 0x5132a6660c
@[go_sem] def Q12_4:=k 0x2fac7a5dd3988a52e1e5e149fdd26fde114fc870b1b04a5169fc521dea7fc3349245fe854abe28c
@[go_sem] def Q12_5:=k 0x4177331b5cba9e64c
def Q12_6:TC:=(.seq (.seq (.reg Q12_3) (.cond (.t 6) .skip (.exit 0))) (.seq (.block 1 (.reg Q12_4)) (.reg Q12_5)))
@[go_sem] def Q12_7:=k 0x305589d3a46c
def t_Q12:TF:=⟨25,[.t 2],(.seq (.reg Q12_0) (.seq (.reg Q12_1) (.seq (.seq (.reg Q12_2) (.block 0 (.loop Q12_6))) (.seq (.reg Q12_7) .ret))))⟩
/-! (*horarium/horariumkeep.Tape).Runs -/
@[go_sem] def Q13_0:=k 0x19654
@[go_sem] def Q13_1:=k 0x1d674
@[go_sem] def Q13_2:=k 0x3185c64f128a6af3d8ced0bd68c
@[go_sem] def Q13_3:=k 0x1a1a20d0770c
@[go_sem] def Q13_4:=k 0xe7a2a2026b0bd299fbeeb985d826533ae62e060156e78a0bc118e2ab7a608bdf38c
@[go_sem] def Q13_5:=k 0x82d8e4e47e0d4774c
def Q13_6:TC:=(.seq (.seq (.reg Q13_3) (.cond (.t 14) .skip (.exit 0))) (.seq (.block 1 (.reg Q13_4)) (.reg Q13_5)))
@[go_sem] def Q13_7:=k 0x3a9fcc84f50c
def t_Q13:TF:=⟨30,[.t 6],(.seq (.reg Q13_0) (.seq (.reg Q13_1) (.seq (.seq (.reg Q13_2) (.block 0 (.loop Q13_6))) (.seq (.reg Q13_7) .ret))))⟩
/-! horarium/horariumlaw11.same -/
@[go_sem] def Q14_0:=k 0x45a5c215e8
@[go_sem] def Q14_1:=k 0x596357f7d7700ebbb390573d0e58658e3939a1fd0
@[go_sem] def Q14_2:=k 0x71c40ceaf0a7d098a0475b3c215e434bcbd1ba090
@[go_sem] def Q14_3:=k 0x8a249ff84eacc7bd7a97b3d73e7078cd7726583da951
@[go_sem] def Q14_4:=k 0x9e261e8f154b4af6253bf0be3ed83c873521ed
@[go_sem] def Q14_5:=k 0xb6d5e06401c97a66ac065dd6a42b85b2757124406ab1
@[go_sem] def Q14_6:=k 0xcf368f29a6be0735badfbd77c463010bf11fa441eb71
@[go_sem] def Q14_7:=kd 0x29505f39a77e7cba2b12315bc58a6e2b3a19fb8422f6c59a830228d83801a0586f935c74c9df31da00e3b51ea26eca9b8185b6ed6e1c2ea7b8c3c9ab213acb618150a68f8e6444a63f1301d18a67db7d24cd86f70d8a1632dcaa1275a0ca69ca46a7a4113da8f19cfbecfce75e1058b49239e99f0a5c4ba49d7f45ec0600fb356d0661b08a53ca72c0d8ce46d2a78ccd47b05ad3f2787eb5a85fffceec4284ceb7417fa987099f23b386cd9f0be3e2d4e
def t_Q14:TF:=⟨111,[.t 4],(.seq (.reg Q14_0) (.seq (.reg Q14_1) (.seq (.reg Q14_2) (.seq (.reg Q14_3) (.seq (.reg Q14_4) (.seq (.reg Q14_5) (.seq (.reg Q14_6) (.seq (.dreg Q14_7) .ret))))))))⟩
/-! horarium/horariumlaw11.passes -/
@[go_sem] def Q15_0:=k 0x45a5c215e8
@[go_sem] def Q15_1:=k 0xe38da9a4d4
@[go_sem] def Q15_2:=k 0x199d2a28e0ed1b4de528c3af9bdf8f8ef0c8e4d7564d25b438520f01f503323f221116b6b4c
@[go_sem] def Q15_3:=k 0x1160c
@[go_sem] def Q15_4:=kd 0x33de42280fce8c0d1fabee3c468031e6fb00a425ba1d7cdb986c40f8dedbb8d
@[go_sem] def Q15_5:=k 0xae5e76d52336bc76ce168865d5dc5e0776226d
@[go_sem] def Q15_6:=kd 0x46fa27a05bf76b288da0ff5ec6ed3079a99958ec518f86ec1b5db0ff7fd120d
@[go_sem] def Q15_7:=k 0xeba75afa9c15a34de8db0233bf4e665436988443ac51
@[go_sem] def Q15_8:=k 0x4ee7d42ab36c6ea05a319a3d5a266f6b406dc8669a1595c3942f17ff6ffc5c84f81f2571278df2f84ebe29e189a7431cc39ced4c12e73cce
def t_Q15:TF:=⟨77,[.t 4],(.seq (.reg Q15_0) (.seq (.reg Q15_1) (.seq (.seq (.reg Q15_2) (.cond (.t 29) (.seq (.reg Q15_3) .ret) .skip)) (.seq (.dreg Q15_4) (.seq (.reg Q15_5) (.seq (.dreg Q15_6) (.seq (.reg Q15_7) (.seq (.reg Q15_8) .ret))))))))⟩
/-! horarium/horariumlaw11.table -/
@[go_sem] def Q16_0:=k 0x45a5c215e8
@[go_sem] def Q16_1:=k 0x8cd2ea1743c7e279469c8a809dca840acf327c9fb52903908b989f10
@[go_sem] def Q16_2:=k 0xc6ce1b6759053b16de1aea1d7d58dea8d8d1bb3918419b7a571a5ff0
@[go_sem] def Q16_3:=k 0x986085f021170b515ff565b7cfb1f02b5a76a5068b25907095b1f9c492abca5d6652f84dc808d
def t_Q16:TF:=⟨38,[.t 4],(.seq (.reg Q16_0) (.seq (.reg Q16_1) (.seq (.reg Q16_2) (.seq (.reg Q16_3) .ret))))⟩
/-! (*horarium/horariumkeep.Tape).Table -/
@[go_sem] def Q17_0:=k 0x19654
@[go_sem] def Q17_1:=k 0x62686c35fc4ae56cc
@[go_sem] def Q17_2:=k 0xfb6d9b75d9af816cd47942615ba1df0c
@[go_sem] def Q17_3:=k 0x262618c473cc
@[go_sem] def Q17_4:=k 0x197ea34c824a75b6fc3f87a48d9a4d80c
@[go_sem] def Q17_5:=k 0x21af73796dd0d69cd60ef317615047fdbb3eb611bf94bc1c98ad
@[go_sem] def Q17_6:=k 0x222a144b6d1ad
@[go_sem] def Q17_7:=k 0xbcc3af799496e638559e8544a010e64bd26a510cc7e73d8dc1a953861260cc7719ed
@[go_sem] def Q17_8:=k 0x3183e28d76fc253a93889db4d
@[go_sem] def Q17_9:=k 0xd237bd1a191dc87701cdbad
@[go_sem] def Q17_10:=k 0x296b8
@[go_sem] def Q17_11:=k 0xd8a3bacc0f133ac0d
@[go_sem] def Q17_12:=k 0x8229701380c66a62bc0c5f58812a73d4cf298910191472cae
@[go_sem] def Q17_13:=k 0x397f3f3476c40ce6c6d
def Q17_14:TC:=(.seq (.seq (.reg Q17_11) (.cond (.t 55) .skip (.exit 0))) (.seq (.block 1 (.reg Q17_12)) (.reg Q17_13)))
@[go_sem] def Q17_15:=k 0x20a6e3fd88ed8e
def t_Q17:TF:=⟨66,[.t 6],(.seq (.reg Q17_0) (.seq (.reg Q17_1) (.seq (.seq (.reg Q17_2) (.cond (.t 18) (.seq (.seq (.reg Q17_3) (.cond (.t 20) (.seq (.reg Q17_4) .ret) .skip)) (.seq (.reg Q17_5) .ret)) .skip)) (.seq (.seq (.reg Q17_6) (.cond (.t 35) (.seq (.reg Q17_7) .ret) .skip)) (.seq (.reg Q17_8) (.seq (.reg Q17_9) (.seq (.seq (.reg Q17_10) (.block 0 (.loop Q17_14))) (.seq (.reg Q17_15) .ret))))))))⟩
/-! horarium/reduce.Draw -/
@[go_sem] def Q18_0:=k 0x165bad4315e8
@[go_sem] def Q18_1:=k 0x511b4edd2d94815fa806255e0fbd179a2c
def t_Q18:TF:=⟨11,[.t 4,.t 5],(.seq (.reg Q18_0) (.seq (.reg Q18_1) .ret))⟩
/-! horarium/reduce.Stuck -/
@[go_sem] def Q19_0:=k 0x1626278d95e8
@[go_sem] def Q19_1:=kd 0x3c70f0235451dc121894da5148e8078c21a7f9d0164
def t_Q19:TF:=⟨12,[.t 4],(.seq (.reg Q19_0) (.seq (.dreg Q19_1) .ret))⟩
/-! horarium/horariumref3.Same -/
@[go_sem] def Q20_0:=k 0x1160c
@[go_sem] def Q20_1:=k 0x75a5c087e8630521ec9d162c
@[go_sem] def Q20_2:=k 0x1160c
@[go_sem] def Q20_3:=k 0xcbcba3256cc
@[go_sem] def Q20_4:=k 0xd6a4744
@[go_sem] def Q20_5:=k 0x1e73b5ad8b4c
@[go_sem] def Q20_6:=kd 0x6b3eb0b105798cf2cad7dacc7f262cce02980137304a4c
@[go_sem] def Q20_7:=k 0x1160c
@[go_sem] def Q20_8:=k 0x661075944dca0
def Q20_9:TC:=(.seq (.reg Q20_4) (.seq (.cond (.t 14) .skip (.exit 0)) (.seq (.block 1 (.seq (.reg Q20_5) (.seq (.dreg Q20_6) (.cond (.t 24) (.seq (.reg Q20_7) .ret) .skip)))) (.reg Q20_8))))
@[go_sem] def Q20_10:=k 0x11674
def t_Q20:TF:=⟨26,[.t 4],(.seq (.reg Q20_0) (.seq (.seq (.reg Q20_1) (.cond (.t 10) (.seq (.reg Q20_2) .ret) .skip)) (.seq (.seq (.reg Q20_3) (.block 0 (.loop Q20_9))) (.seq (.reg Q20_10) .ret))))⟩
/-! horarium/reduce.Valid -/
@[go_sem] def Q21_0:=k 0x65c5ca5608
@[go_sem] def Q21_1:=k 0xaef61ceb7c2e4ad64b7d367b26bd47a4917a605a70d322288479838a8f5b0894c89917250b5135a4c
def t_Q21:TF:=⟨22,[.t 6],(.seq (.reg Q21_0) (.seq (.reg Q21_1) .ret))⟩
/-! horarium/horariumbook.Within -/
@[go_sem] def Q22_0:=k 0x19638
@[go_sem] def Q22_1:=k 0x2a47b98322fa8dc1eed49f60d1d7db0e9cc87564c
@[go_sem] def Q22_2:=k 0x1e83c549574c
@[go_sem] def Q22_3:=k 0x2a9948e3d088df2e68fc430720c1da88d976c
@[go_sem] def Q22_4:=k 0x2c2c2010182c
@[go_sem] def Q22_5:=k 0x3ad19d8645dd71db059dd722ab35c910f986c
@[go_sem] def Q22_6:=k 0x8166e4576448f743c1da12d
def t_Q22:TF:=⟨33,[.t 6],(.seq (.reg Q22_0) (.seq (.seq (.reg Q22_1) (.cond (.t 14) (.seq (.reg Q22_2) .ret) .skip)) (.seq (.reg Q22_3) (.seq (.seq (.reg Q22_4) (.cond (.t 23) (.reg Q22_5) .skip)) (.seq (.reg Q22_6) .ret)))))⟩
/-! (*horarium/horariumkeep.Tape).Next -/
@[go_sem] def Q23_0:=k 0x115f8
@[go_sem] def Q23_1:=kd 0x554b4df5dbe62ba69cf08d13897160c33cc9d38d8bf1239e718d16d7de57a6ed231f40c
@[go_sem] def Q23_2:=k 0x115f8
@[go_sem] def Q23_3:=k 0x68943714023141aba4476d3c826405adc15da57cc
@[go_sem] def Q23_4:=kd 0xd6f7fe6dd50bb88c9f4feb62937f4befda92a2075781615393d66ad440df84f4e3df334513e753f5cd
def t_Q23:TF:=⟨40,[.t 4],(.seq (.reg Q23_0) (.seq (.seq (.dreg Q23_1) (.cond (.t 18) (.seq (.reg Q23_2) .ret) .skip)) (.seq (.reg Q23_3) (.seq (.dreg Q23_4) .ret))))⟩
/-! (*horarium/horariumkeep.Tape).frame -/
@[go_sem] def Q24_0:=k 0x11614
@[go_sem] def Q24_1:=k 0x147e21d159ddef0e207966c
@[go_sem] def Q24_2:=k 0xf3506c132303e2a78386f9da77874082aec
@[go_sem] def Q24_3:=k 0x1860730809e67b7e19e775bf907e031e44b3bd7202121450341d8dc4e336c
@[go_sem] def Q24_4:=k 0x8a6a2bca63f9d4e1b38cddcd27590de0865b12a40e0dad2a8d
@[go_sem] def Q24_5:=k 0x23347034f01cd
def t_Q24:TF:=⟨36,[.t 4],(.seq (.reg Q24_0) (.seq (.reg Q24_1) (.seq (.seq (.reg Q24_2) (.seq (.reg Q24_3) (.cond (.t 27) (.seq (.reg Q24_4) .ret) .skip))) (.seq (.reg Q24_5) .ret))))⟩
/-! (*horarium/horariumkeep.Tape).asks -/
@[go_sem] def Q25_0:=k 0x462bda08
@[go_sem] def Q25_1:=k 0x15634
@[go_sem] def Q25_2:=k 0x3610e73587d5ea434
@[go_sem] def Q25_3:=k 0x19d378c4
@[go_sem] def Q25_4:=k 0xe328ce40fd59abd00
@[go_sem] def Q25_5:=k 0x85d19a07a5f9559902539542dc5209f70bd12d
@[go_sem] def Q25_6:=k 0x25726872bcc0f9960a475cdec1ad
@[go_sem] def Q25_7:=k 0x9a2f1475cba241
def Q25_8:TC:=(.seq (.reg Q25_3) (.seq (.cond (.t 26) .skip (.exit 0)) (.seq (.block 1 (.seq (.reg Q25_4) (.seq (.reg Q25_5) (.reg Q25_6)))) (.reg Q25_7))))
@[go_sem] def Q25_9:=k 0x6a9f6e1bbba23bf255
@[go_sem] def Q25_10:=k 0xaaf022e5
@[go_sem] def Q25_11:=k 0x2c558aa026aed
@[go_sem] def Q25_12:=k 0x2d6d8
@[go_sem] def Q25_13:=k 0x6bab7739830d
@[go_sem] def Q25_14:=k 0xbf4b8b85
@[go_sem] def Q25_15:=k 0x3280cbf58d87d57d3c1
@[go_sem] def Q25_16:=kd 0x160c61d02f64ef06d2a7a57f94d6b34316146626eb6ef319805f0717bad1e68e1f2ddd78df761349431b13f3828e
@[go_sem] def Q25_17:=k 0x44559dc4278bcb14e199af855541b972793d8e
@[go_sem] def Q25_18:=k 0x2d758
@[go_sem] def Q25_19:=k 0x49a946391f144c2de750a8e4e
@[go_sem] def Q25_20:=k 0x12aa47163daaaec2
def Q25_21:TC:=(.seq (.reg Q25_14) (.seq (.cond (.t 48) .skip (.exit 4)) (.seq (.block 5 (.seq (.reg Q25_15) (.seq (.dreg Q25_16) (.seq (.reg Q25_17) (.cond (.t 70) (.reg Q25_18) (.reg Q25_19)))))) (.reg Q25_20))))
@[go_sem] def Q25_22:=k 0x13ac528d0197e4e2f7654c4f0162cea7ecbbb02438ece
@[go_sem] def Q25_23:=kd 0x9581422400ab593eb498fc7f71ba2483749b7e2cf10ba3bcb87c83e9deb49c4ccbfeeebd66bd7a7e
@[go_sem] def Q25_24:=k 0x172c45b54d873102
def Q25_25:TC:=(.seq (.reg Q25_10) (.seq (.cond (.t 43) .skip (.exit 2)) (.seq (.block 3 (.seq (.reg Q25_11) (.seq (.reg Q25_12) (.seq (.seq (.reg Q25_13) (.block 4 (.loop Q25_21))) (.seq (.reg Q25_22) (.cond (.t 81) (.dreg Q25_23) .skip)))))) (.reg Q25_24))))
@[go_sem] def Q25_26:=k 0x3087f4497b7417d6ac9dcff2dfb10e
@[go_sem] def Q25_27:=k 0x31f3c0a1ec6d985280111d0618e
@[go_sem] def Q25_28:=k 0x32330f232a21ee
@[go_sem] def Q25_29:=k 0x6ad4a13233ec818009613126e
@[go_sem] def Q25_30:=k 0x6efb8de105ed18e1b961412ee
@[go_sem] def Q25_31:=k 0xcf77531411bf5322a22e
def Q25_32:TC:=(.seq (.seq (.reg Q25_28) (.cond (.t 101) .skip (.exit 6))) (.seq (.block 7 (.seq (.reg Q25_29) (.cond (.t 107) (.seq (.reg Q25_30) (.exit 6)) .skip))) (.reg Q25_31)))
@[go_sem] def Q25_33:=k 0xdd4ac4b301df07c1356
@[go_sem] def Q25_34:=k 0x731d3f3e6
@[go_sem] def Q25_35:=k 0x3a4b756d7c43ee
@[go_sem] def Q25_36:=k 0x49b70
@[go_sem] def Q25_37:=k 0x378764e35b40e
@[go_sem] def Q25_38:=k 0x7829d8486
@[go_sem] def Q25_39:=k 0xf5c087ae5c6692add4c2
@[go_sem] def Q25_40:=k 0x10397da7737529657655acee0ac06acf9ccb8a59b5aa364cf
@[go_sem] def Q25_41:=k 0x206f41af8a3c20a5a3
def Q25_42:TC:=(.seq (.reg Q25_38) (.seq (.cond (.t 120) .skip (.exit 10)) (.seq (.block 11 (.seq (.reg Q25_39) (.reg Q25_40))) (.reg Q25_41))))
@[go_sem] def Q25_43:=k 0x2185494e4e1deb6f1ad3aa1037676816e2d1351f42a162525af
@[go_sem] def Q25_44:=kd 0x70be8e16bc7fa9e4251257cb6decd0935a8a700ec04edd20047b9d5dba11bec9f603d6acfbd524799182f237d35d3f49fb30cc4f8e575f836dcecb506b7ca029a799d2ad5325b644ccdaa2ff589bf
@[go_sem] def Q25_45:=k 0x2674a28f5d39a6a8a3
def Q25_46:TC:=(.seq (.reg Q25_34) (.seq (.cond (.t 115) .skip (.exit 8)) (.seq (.block 9 (.seq (.reg Q25_35) (.seq (.reg Q25_36) (.seq (.seq (.reg Q25_37) (.block 10 (.loop Q25_42))) (.seq (.reg Q25_43) (.cond (.t 136) (.dreg Q25_44) .skip)))))) (.reg Q25_45))))
@[go_sem] def Q25_47:=k 0x26fa3d5dbabb7e42768d3
@[go_sem] def Q25_48:=k 0x32c3dbb5c31cec01a82917
@[go_sem] def Q25_49:=k 0xa09fd029a7
@[go_sem] def Q25_50:=k 0x14559bbe51d0a9af
@[go_sem] def Q25_51:=kd 0x231f1867b7c1f5f74ea287ae2f1d6c0d53c15114ae998dc3d645f0a51b4b436808168dc73aee25a6b27fca50e36a38a8e13f
@[go_sem] def Q25_52:=k 0x2b7f6990fb50abab23
def Q25_53:TC:=(.seq (.reg Q25_49) (.seq (.cond (.t 161) .skip (.exit 12)) (.seq (.block 13 (.seq (.reg Q25_50) (.dreg Q25_51))) (.reg Q25_52))))
@[go_sem] def Q25_54:=k 0x8b75e1262c6b53
def t_Q25:TF:=⟨175,[.cell 4 3 true],(.seq (.reg Q25_0) (.seq (.reg Q25_1) (.seq (.seq (.reg Q25_2) (.block 0 (.loop Q25_8))) (.seq (.seq (.reg Q25_9) (.block 2 (.loop Q25_25))) (.seq (.reg Q25_26) (.seq (.seq (.reg Q25_27) (.block 6 (.loop Q25_32))) (.seq (.seq (.reg Q25_33) (.block 8 (.loop Q25_46))) (.seq (.seq (.reg Q25_47) (.cond (.t 156) (.seq (.reg Q25_48) (.block 12 (.loop Q25_53))) .skip)) (.seq (.reg Q25_54) .ret)))))))))⟩
/-! horarium/runs.Of -/
@[go_sem] def Q26_0:=k 0x30add4
@[go_sem] def Q26_1:=k 0x28c79faeb7db568c
@[go_sem] def Q26_2:=k 0x161629b4e6cc
@[go_sem] def Q26_3:=k 0x1a27763bd5de70c
@[go_sem] def Q26_4:=k 0x15634
@[go_sem] def Q26_5:=k 0x3d260f321c36972c
@[go_sem] def Q26_6:=k 0x28a18222dc5133219f07f007ad40f9c3f573ef8c
@[go_sem] def Q26_7:=k 0x15166a4780c
@[go_sem] def Q26_8:=k 0x34d8b1873dc626b40883576c4c
def Q26_9:TC:=(.block 1 (.seq (.reg Q26_6) (.seq (.seq (.reg Q26_7) (.cond (.t 22) (.exit 0) .skip)) (.reg Q26_8))))
@[go_sem] def Q26_10:=k 0x715406f0ce48eccc
@[go_sem] def Q26_11:=k 0x3c6adaa91a6ed0c
@[go_sem] def Q26_12:=k 0x181b10dd4
@[go_sem] def Q26_13:=k 0x1a1a9c772e416d
def t_Q26:TF:=⟨33,[.t 2,.t 3],(.seq (.reg Q26_0) (.seq (.seq (.reg Q26_1) (.seq (.reg Q26_2) (.cond (.t 12) (.seq (.reg Q26_3) .ret) .skip))) (.seq (.reg Q26_4) (.seq (.reg Q26_5) (.seq (.block 0 (.loop Q26_9)) (.seq (.seq (.reg Q26_10) (.seq (.reg Q26_11) (.cond (.t 31) (.seq (.reg Q26_12) .ret) .skip))) (.seq (.reg Q26_13) .ret)))))))⟩
/-! horarium/bound.Holds -/
@[go_sem] def Q27_0:=k 0x45a0bf95e8
@[go_sem] def Q27_1:=k 0x330c6373a76531eb4
@[go_sem] def Q27_2:=k 0xd6a4744
@[go_sem] def Q27_3:=k 0x6927b7f1e0df146018be8
@[go_sem] def Q27_4:=k 0x5a23bb8501d3c9f61c2cba960f2ab9a526db8c
@[go_sem] def Q27_5:=k 0x6cd9ff12440cb1fe4186f519f1e1bc4b9f8bb25f6f20b41e87c5927959b3ef898e72700855
@[go_sem] def Q27_6:=k 0x9961f8
@[go_sem] def Q27_7:=k 0x91665215b32201
def Q27_8:TC:=(.seq (.reg Q27_2) (.seq (.cond (.t 14) .skip (.exit 0)) (.seq (.block 1 (.seq (.reg Q27_3) (.seq (.reg Q27_4) (.seq (.reg Q27_5) (.cond (.t 35) (.seq (.reg Q27_6) .ret) .skip))))) (.reg Q27_7))))
@[go_sem] def Q27_9:=k 0x6a1ead9b8b96296a15
@[go_sem] def Q27_10:=k 0xa2cb92a5
@[go_sem] def Q27_11:=k 0x9cffc80321beb320f6843800a5567daad
@[go_sem] def Q27_12:=kd 0x10be2bce7f5bd0c24d50d04474345a13bf138ae1a40284ecd321b16980a0c7a54a2ed4e97dcbd
@[go_sem] def Q27_13:=k 0xa165f8
@[go_sem] def Q27_14:=k 0xeb7018edeea4c1
def Q27_15:TC:=(.seq (.reg Q27_10) (.seq (.cond (.t 41) .skip (.exit 2)) (.seq (.block 3 (.seq (.reg Q27_11) (.seq (.dreg Q27_12) (.cond (.t 57) (.seq (.reg Q27_13) .ret) .skip)))) (.reg Q27_14))))
@[go_sem] def Q27_16:=k 0x115f8
def t_Q27:TF:=⟨59,[.t 4],(.seq (.reg Q27_0) (.seq (.seq (.reg Q27_1) (.block 0 (.loop Q27_8))) (.seq (.seq (.reg Q27_9) (.block 2 (.loop Q27_15))) (.seq (.reg Q27_16) .ret))))⟩
/-! horarium/reduce.Runs -/
@[go_sem] def Q28_0:=k 0xc51aac315e8
@[go_sem] def Q28_1:=k 0x311405ffe7efdacc
@[go_sem] def Q28_2:=k 0x1da28
@[go_sem] def Q28_3:=k 0x21678
@[go_sem] def Q28_4:=k 0x155f78eca9dbe05e98781658b8880e20f3753a445ca336c
@[go_sem] def Q28_5:=k 0x16176b8c02c
@[go_sem] def Q28_6:=k 0xc9930fc0f65540d7b06c
@[go_sem] def Q28_7:=k 0x3499cb143cac
@[go_sem] def Q28_8:=k 0x72c0d8a23cecb770c
def Q28_9:TC:=(.seq (.block 1 (.seq (.reg Q28_4) (.seq (.seq (.reg Q28_5) (.cond (.t 23) (.seq (.reg Q28_6) .ret) .skip)) (.reg Q28_7)))) (.reg Q28_8))
def t_Q28:TF:=⟨27,[.t 4,.t 5],(.seq (.reg Q28_0) (.seq (.reg Q28_1) (.seq (.reg Q28_2) (.seq (.reg Q28_3) (.block 0 (.loop Q28_9))))))⟩
/-! horarium/fold.Table -/
@[go_sem] def Q29_0:=k 0x95d4
@[go_sem] def Q29_1:=k 0xe17d351962962c
@[go_sem] def Q29_2:=k 0x95d4
@[go_sem] def Q29_3:=k 0x28a76f974523d68c
@[go_sem] def Q29_4:=k 0x246af33177abb2d1a0486f6ebbe844e2cc
@[go_sem] def Q29_5:=k 0x88cca44f17a652774
@[go_sem] def Q29_6:=k 0x50c35e247a32e3cc
@[go_sem] def Q29_7:=kd 0x31d4b68f7f9454e75cd7c51dfa2b46e1e0730181e20d28ddbd4f922382409a536cc173c8a5b9b43e0baa8ca5f6266abd
@[go_sem] def Q29_8:=kd 0x12bc007db149b01666ee12730e07f732c97b9766f0d7c6b2a47a48f8ac0173210030bdd49fc2df16118f70bc958d4572ee9679a5c0d
def Q29_9:TC:=(.block 1 (.seq (.reg Q29_4) (.seq (.seq (.reg Q29_5) (.cond (.t 18) (.seq (.reg Q29_6) .ret) .skip)) (.seq (.dreg Q29_7) (.dreg Q29_8)))))
def t_Q29:TF:=⟨55,[.t 2],(.seq (.reg Q29_0) (.seq (.seq (.reg Q29_1) (.cond (.t 8) (.seq (.reg Q29_2) .ret) .skip)) (.seq (.reg Q29_3) (.block 0 (.loop Q29_9)))))⟩
/-! horarium/node.Right -/
@[go_sem] def Q30_0:=k 0x95b8
@[go_sem] def Q30_1:=k 0x91fe411b58b8e824e7f1b401185a219962c
@[go_sem] def Q30_2:=k 0x6b6b2daacb54b2b256cc
@[go_sem] def Q30_3:=k 0x18a1b8
@[go_sem] def Q30_4:=k 0x8cad5fbb0b03317ad74c
@[go_sem] def Q30_5:=k 0x60c5b8
@[go_sem] def Q30_6:=k 0x15bdf23b8741a07ed157cc
@[go_sem] def Q30_7:=k 0x70cdb8
@[go_sem] def Q30_8:=k 0x635f2c468c0ce84c
@[go_sem] def Q30_9:=k 0x90ddb8
@[go_sem] def Q30_10:=k 0x95b8
def t_Q30:TF:=⟨25,[.t 2],(.seq (.reg Q30_0) (.seq (.reg Q30_1) (.seq (.block 0 (.seq (.reg Q30_2) (.cond (.t 10) (.seq (.reg Q30_3) .ret) (.seq (.reg Q30_4) (.cond (.t 14) (.seq (.reg Q30_5) .ret) (.seq (.reg Q30_6) (.cond (.t 18) (.seq (.reg Q30_7) .ret) (.seq (.reg Q30_8) (.cond (.t 22) (.seq (.reg Q30_9) .ret) .skip))))))))) (.seq (.reg Q30_10) .ret))))⟩
/-! slices.Clone[[]horarium/api.Node,horarium/api.Node] -/
@[go_sem] def Q31_0:=k 0x95d4
@[go_sem] def Q31_1:=k 0x30c858d5cc
@[go_sem] def Q31_2:=k 0x95d4
@[go_sem] def Q31_3:=k 0x3906e1b5541575b162e8
def t_Q31:TF:=⟨8,[.t 2],(.seq (.reg Q31_0) (.seq (.seq (.reg Q31_1) (.cond (.t 4) (.seq (.reg Q31_2) .ret) .skip)) (.seq (.reg Q31_3) .ret)))⟩
/-! horarium/horariumref3.Right -/
@[go_sem] def Q32_0:=k 0x95b8
@[go_sem] def Q32_1:=k 0xc2500eba98d60c
@[go_sem] def Q32_2:=k 0x18a1b8
@[go_sem] def Q32_3:=k 0x243639a37edd966c
@[go_sem] def Q32_4:=k 0x60c5b8
@[go_sem] def Q32_5:=k 0x324b5a6b746a56cc
@[go_sem] def Q32_6:=k 0x70cdb8
@[go_sem] def Q32_7:=k 0x123f9806ba3ee8eda9b4d1cc7272d840d74c
@[go_sem] def Q32_8:=k 0x131467be7cc
@[go_sem] def Q32_9:=k 0x90ddb8
@[go_sem] def Q32_10:=k 0x95b8
def t_Q32:TF:=⟨21,[.t 2],(.seq (.reg Q32_0) (.seq (.seq (.reg Q32_1) (.cond (.t 7) (.seq (.reg Q32_2) .ret) .skip)) (.seq (.seq (.reg Q32_3) (.cond (.t 10) (.seq (.reg Q32_4) .ret) .skip)) (.seq (.seq (.reg Q32_5) (.cond (.t 13) (.seq (.reg Q32_6) .ret) .skip)) (.seq (.seq (.reg Q32_7) (.seq (.reg Q32_8) (.cond (.t 20) (.seq (.reg Q32_9) .ret) .skip))) (.seq (.reg Q32_10) .ret))))))⟩
/-! horarium/horariumref3.Tidy -/
@[go_sem] def Q33_0:=k 0x95d4
@[go_sem] def Q33_1:=k 0xd5f4
@[go_sem] def Q33_2:=k 0xc7c7a21564c
@[go_sem] def Q33_3:=k 0x94736c4
@[go_sem] def Q33_4:=k 0x5703746bbc6536e7e7b04
@[go_sem] def Q33_5:=k 0x39200c209cd2e30c
@[go_sem] def Q33_6:=k 0x81011676058ec6b54
@[go_sem] def Q33_7:=kd 0xe52d3465c7f7263d3b1e2872de49f66565d3fbb9e8cd342ec2af9a1bd9e1839c0afcc
@[go_sem] def Q33_8:=kd 0x14857d67193ba33293380d2b60fcfe56286ad1612b442771e52b37940dadc35920272bedcc09f4a233005b8d
@[go_sem] def Q33_9:=k 0x3085eff7b897639c53c02cc1730d
@[go_sem] def Q33_10:=k 0xc55a1ef5ae63a1
def Q33_11:TC:=(.seq (.reg Q33_3) (.seq (.cond (.t 10) .skip (.exit 0)) (.seq (.block 1 (.seq (.reg Q33_4) (.seq (.reg Q33_5) (.seq (.seq (.reg Q33_6) (.cond (.t 17) (.exit 1) .skip)) (.seq (.dreg Q33_7) (.cond (.t 30) (.dreg Q33_8) (.reg Q33_9))))))) (.reg Q33_10))))
@[go_sem] def Q33_12:=k 0x323b6bf12b3ad
def t_Q33:TF:=⟨51,[.t 2],(.seq (.reg Q33_0) (.seq (.reg Q33_1) (.seq (.seq (.reg Q33_2) (.block 0 (.loop Q33_11))) (.seq (.reg Q33_12) .ret))))⟩
/-! horarium/horariumref3.Leaves -/
@[go_sem] def Q34_0:=k 0x95d4
@[go_sem] def Q34_1:=k 0x20c65a35db50255cc
def t_Q34:TF:=⟨5,[.t 2],(.seq (.reg Q34_0) (.seq (.reg Q34_1) .ret))⟩
/-! horarium/horariumref3.Sum -/
@[go_sem] def Q35_0:=k 0x115f8
@[go_sem] def Q35_1:=k 0x40c28cab05f77b1626744cb22b9560c
@[go_sem] def Q35_2:=k 0x4b56c6c717f90787d68c
@[go_sem] def Q35_3:=k 0x11848
@[go_sem] def Q35_4:=k 0xf410873e4583ed508d70c
def t_Q35:TF:=⟨16,[.t 4],(.seq (.reg Q35_0) (.seq (.reg Q35_1) (.seq (.seq (.reg Q35_2) (.cond (.t 12) (.seq (.reg Q35_3) .ret) .skip)) (.seq (.reg Q35_4) .ret))))⟩
/-! horarium/horariumref7.Late -/
@[go_sem] def Q36_0:=k 0x19638
@[go_sem] def Q36_1:=k 0x4552456ae511976c
@[go_sem] def Q36_2:=k 0xb0bb339678
@[go_sem] def Q36_3:=k 0xd2d2a8833ac
@[go_sem] def Q36_4:=k 0x14a7a424
@[go_sem] def Q36_5:=k 0xbc2e908b84deee860
@[go_sem] def Q36_6:=k 0x23f85b3606557fda2b765047ea3cacf5de7970a674278f7399d2677ddf79ba3f66f72a1c606d
@[go_sem] def Q36_7:=k 0x91d6c24dc12201
def Q36_8:TC:=(.seq (.reg Q36_4) (.seq (.cond (.t 21) .skip (.exit 0)) (.seq (.block 1 (.seq (.reg Q36_5) (.reg Q36_6))) (.reg Q36_7))))
@[go_sem] def Q36_9:=k 0x9499b25aa0d
@[go_sem] def Q36_10:=k 0x19638
@[go_sem] def Q36_11:=k 0x9ca1b36224d
@[go_sem] def Q36_12:=k 0x196b8
@[go_sem] def Q36_13:=k 0x6aaa7718928d
@[go_sem] def Q36_14:=k 0xaf026b05
@[go_sem] def Q36_15:=k 0x2f76317f17fefbded4cfa98cb30d
@[go_sem] def Q36_16:=k 0xc4355593719028b6d
@[go_sem] def Q36_17:=k 0xbdb58
@[go_sem] def Q36_18:=k 0x3d3ceff551811156e66c6e3ebc09965788203a691387f3cc95395313cd
@[go_sem] def Q36_19:=k 0x3f9c61ca3f45920152d
def Q36_20:TC:=(.seq (.seq (.reg Q36_18) (.cond (.t 61) .skip (.exit 4))) (.block 5 (.reg Q36_19)))
@[go_sem] def Q36_21:=k 0x42952faad57d5965874e89d6e
@[go_sem] def Q36_22:=k 0x10e684a57d88ede2
def Q36_23:TC:=(.seq (.reg Q36_14) (.seq (.cond (.t 44) .skip (.exit 2)) (.seq (.block 3 (.seq (.reg Q36_15) (.seq (.seq (.reg Q36_16) (.cond (.t 50) (.exit 3) .skip)) (.seq (.reg Q36_17) (.seq (.block 4 (.loop Q36_20)) (.reg Q36_21)))))) (.reg Q36_22))))
@[go_sem] def Q36_24:=k 0x2228645d699dee
def t_Q36:TF:=⟨69,[.t 6],(.seq (.reg Q36_0) (.seq (.reg Q36_1) (.seq (.reg Q36_2) (.seq (.seq (.reg Q36_3) (.block 0 (.loop Q36_8))) (.seq (.seq (.reg Q36_9) (.cond (.t 38) (.seq (.reg Q36_10) .ret) .skip)) (.seq (.seq (.reg Q36_11) (.cond (.t 40) (.seq (.reg Q36_12) .ret) .skip)) (.seq (.seq (.reg Q36_13) (.block 2 (.loop Q36_23))) (.seq (.reg Q36_24) .ret))))))))⟩
/-! horarium/horariumref7.Budget -/
@[go_sem] def Q37_0:=k 0x19638
@[go_sem] def Q37_1:=k 0x39403c393504d70c
@[go_sem] def Q37_2:=k 0x1779fb5fbcb8d5b95af225a074770c54f823b275876e30bc4e8a4112876bf7665ca25f4c
@[go_sem] def Q37_3:=k 0x196b8
@[go_sem] def Q37_4:=k 0xf3813ab43d69f610c
@[go_sem] def Q37_5:=k 0x25698
@[go_sem] def Q37_6:=k 0x1fc339b95632bde90e214d
@[go_sem] def Q37_7:=k 0x296b8
@[go_sem] def Q37_8:=k 0x6c37f1098be652d664714229a4809cb790fd22d
@[go_sem] def Q37_9:=k 0xb726fb45
@[go_sem] def Q37_10:=k 0x3079c4704b06d334381
@[go_sem] def Q37_11:=k 0xc84b6695f10e2bb8d
@[go_sem] def Q37_12:=k 0x35793c2ff2c30cd6bed
@[go_sem] def Q37_13:=k 0xdbb06515f7a441
def Q37_14:TC:=(.seq (.reg Q37_9) (.seq (.cond (.t 46) .skip (.exit 2)) (.seq (.block 3 (.seq (.reg Q37_10) (.seq (.reg Q37_11) (.cond (.t 51) (.reg Q37_12) .skip)))) (.reg Q37_13))))
@[go_sem] def Q37_15:=k 0xe64fbb1fa3769f2f9341c4d
@[go_sem] def Q37_16:=k 0x95bf62bdec133dd5cbf21cd
def Q37_17:TC:=(.seq (.seq (.reg Q37_6) (.cond (.t 34) .skip (.exit 0))) (.seq (.block 1 (.seq (.reg Q37_7) (.seq (.seq (.reg Q37_8) (.block 2 (.loop Q37_14))) (.reg Q37_15)))) (.reg Q37_16)))
@[go_sem] def Q37_18:=k 0x3a537dfa4dcad
def t_Q37:TF:=⟨59,[.t 6],(.seq (.reg Q37_0) (.seq (.reg Q37_1) (.seq (.seq (.reg Q37_2) (.cond (.t 28) (.seq (.reg Q37_3) .ret) .skip)) (.seq (.reg Q37_4) (.seq (.seq (.reg Q37_5) (.block 0 (.loop Q37_17))) (.seq (.reg Q37_18) .ret))))))⟩
/-! horarium/horariumref7.Differ -/
@[go_sem] def Q38_0:=k 0x16160b849638
@[go_sem] def Q38_1:=k 0x25698
@[go_sem] def Q38_2:=k 0x16767aed7acc
@[go_sem] def Q38_3:=k 0x1ec405a17b4c
@[go_sem] def Q38_4:=k 0x20807d76bf6c
@[go_sem] def Q38_5:=k 0x194f296563fee0caa862498b32bb21970a05097212bb7621c6034ac4a28bb972f35a90f48ea9d45398bb27ed
@[go_sem] def Q38_6:=k 0x977d8558f2023e8b93f61ed
@[go_sem] def Q38_7:=k 0x9b7db7a7ed15cbfac
def Q38_8:TC:=(.seq (.seq (.reg Q38_4) (.cond (.t 17) .skip (.exit 2))) (.seq (.block 3 (.seq (.reg Q38_5) (.cond (.t 35) (.seq (.reg Q38_6) .ret) .skip))) (.reg Q38_7)))
@[go_sem] def Q38_9:=k 0x730138d244ed37b0c
def Q38_10:TC:=(.seq (.seq (.reg Q38_2) (.cond (.t 12) .skip (.exit 0))) (.seq (.block 1 (.seq (.reg Q38_3) (.block 2 (.loop Q38_8)))) (.reg Q38_9)))
@[go_sem] def Q38_11:=k 0xaaa55fd904593c678c9b7c4426996c27a59a2d
def t_Q38:TF:=⟨43,[.t 6,.t 7,.t 8],(.seq (.reg Q38_0) (.seq (.seq (.reg Q38_1) (.block 0 (.loop Q38_10))) (.seq (.reg Q38_11) .ret)))⟩
/-! horarium/horariumref7.square -/
@[go_sem] def Q39_0:=k 0x95d4
@[go_sem] def Q39_1:=k 0x311ec6ad28717560c
@[go_sem] def Q39_2:=k 0xc7c7a39624c
@[go_sem] def Q39_3:=k 0x94736c4
@[go_sem] def Q39_4:=k 0x165ba3887acc
@[go_sem] def Q39_5:=k 0x8578cd4eef11ef47efd2acdc4aca2ec
@[go_sem] def Q39_6:=k 0xb7f97e3f36519cb4650ef96ed9132de38c
@[go_sem] def Q39_7:=k 0x5d87f33425c60
def Q39_8:TC:=(.seq (.reg Q39_3) (.seq (.cond (.t 10) .skip (.exit 0)) (.seq (.block 1 (.seq (.reg Q39_4) (.seq (.reg Q39_5) (.reg Q39_6)))) (.reg Q39_7))))
@[go_sem] def Q39_9:=k 0x305589d3a46c
def t_Q39:TF:=⟨25,[.t 2],(.seq (.reg Q39_0) (.seq (.reg Q39_1) (.seq (.seq (.reg Q39_2) (.block 0 (.loop Q39_8))) (.seq (.reg Q39_9) .ret))))⟩
/-! horarium/horariumref7.in -/
@[go_sem] def Q40_0:=k 0x45a5c215e8
@[go_sem] def Q40_1:=k 0x3593b8c220f7dbaf1039c3530c356e395a64701db8dd549a5a0c
def t_Q40:TF:=⟨14,[.t 4],(.seq (.reg Q40_0) (.seq (.reg Q40_1) .ret))⟩
/-! horarium/horariumref7.Draw -/
@[go_sem] def Q41_0:=k 0x165bad4315e8
@[go_sem] def Q41_1:=k 0x2d0e02ef860a9ed0
@[go_sem] def Q41_2:=k 0x67ced6267a91919a49aec
@[go_sem] def Q41_3:=k 0x108493a4
@[go_sem] def Q41_4:=k 0x8aeb1b0bdc114f84bd814
@[go_sem] def Q41_5:=k 0x167763508616bf63331bec
@[go_sem] def Q41_6:=k 0x19322d7756b78aa2bb6070
@[go_sem] def Q41_7:=k 0x97fbdfb8c7ccc
@[go_sem] def Q41_8:=k 0x727cd8dc71d00
def Q41_9:TC:=(.seq (.reg Q41_3) (.seq (.cond (.t 17) .skip (.exit 0)) (.seq (.block 1 (.seq (.reg Q41_4) (.seq (.reg Q41_5) (.seq (.reg Q41_6) (.cond (.t 26) (.seq (.reg Q41_7) .ret) .skip))))) (.reg Q41_8))))
@[go_sem] def Q41_10:=k 0xc11198b72f57f68fb85e8
def t_Q41:TF:=⟨32,[.t 4,.t 5],(.seq (.reg Q41_0) (.seq (.reg Q41_1) (.seq (.seq (.reg Q41_2) (.block 0 (.loop Q41_9))) (.seq (.reg Q41_10) .ret))))⟩
/-! horarium/reduce.Merge -/
@[go_sem] def Q42_0:=k 0x165bad4315e8
@[go_sem] def Q42_1:=k 0x511b4edd2d94815fa806259849cb979a2c
def t_Q42:TF:=⟨11,[.t 4,.t 5],(.seq (.reg Q42_0) (.seq (.reg Q42_1) .ret))⟩
/-! horarium/reduce.Passes -/
@[go_sem] def Q43_0:=k 0x1594
@[go_sem] def Q43_1:=k 0xc22d8302c7c58fbda0
def t_Q43:TF:=⟨4,[.t 0],(.seq (.reg Q43_0) (.seq (.reg Q43_1) .ret))⟩
/-! horarium/horariumref7.Runs -/
@[go_sem] def Q44_0:=k 0xc51aac315e8
@[go_sem] def Q44_1:=k 0x19638
@[go_sem] def Q44_2:=k 0xd2dfb3976176cf9ebd01e2920275fe99aac
@[go_sem] def Q44_3:=k 0x879c902f247026b15d035121656bd17d47d6b3406b72c
@[go_sem] def Q44_4:=k 0x71c40ceaf0a7d098a0475b3c215e3c850a21ba090
@[go_sem] def Q44_5:=k 0x201f290e4907cc8dc9641bfbdbbb6c30e3af8b0fb6683990d
@[go_sem] def Q44_6:=k 0x297bd4bc9827ab8aada525c9729f309
@[go_sem] def Q44_7:=k 0x2a2f65f40d2ad
@[go_sem] def Q44_8:=k 0x2c5b9d59c7c0c8b0acd
def Q44_9:TC:=(.block 1 (.seq (.reg Q44_2) (.seq (.seq (.reg Q44_3) (.cond (.t 22) (.reg Q44_4) .skip)) (.seq (.seq (.reg Q44_5) (.cond (.t 37) (.seq (.reg Q44_6) .ret) .skip)) (.seq (.reg Q44_7) (.reg Q44_8))))))
def t_Q44:TF:=⟨45,[.t 4,.t 5],(.seq (.reg Q44_0) (.seq (.reg Q44_1) (.block 0 (.loop Q44_9))))⟩
/-! horarium/horariumref7.Merge -/
@[go_sem] def Q45_0:=k 0x58c1d4
@[go_sem] def Q45_1:=k 0x18af936c62bfd60c
@[go_sem] def Q45_2:=k 0x593770a7603568d08ac4b24789c4b3664c
def t_Q45:TF:=⟨12,[.t 2,.t 3],(.seq (.reg Q45_0) (.seq (.reg Q45_1) (.seq (.reg Q45_2) .ret)))⟩
/-! horarium/horariumref7.Valid -/
@[go_sem] def Q46_0:=k 0x65c5ca5608
@[go_sem] def Q46_1:=k 0xaef61ceb7c2e4b5160b20d808d9512c0812fe8ecb1d60147f84175888f3b17b2f0fb4567435135a4c
def t_Q46:TF:=⟨22,[.t 6],(.seq (.reg Q46_0) (.seq (.reg Q46_1) .ret))⟩
/-! horarium/horariumref7.Table -/
@[go_sem] def Q47_0:=k 0xc19b4fde4315e8
@[go_sem] def Q47_1:=k 0x113c1251066723628620e1122ec99bf09b2c
@[go_sem] def Q47_2:=k 0x24242d56b7ac
@[go_sem] def Q47_3:=k 0x1567e0084b1f2ea3736322580
@[go_sem] def Q47_4:=k 0x187b6659d14d91feb32050
@[go_sem] def Q47_5:=k 0x323230e07c8c
@[go_sem] def Q47_6:=k 0x1c797191ef10b713896b40660
@[go_sem] def Q47_7:=k 0x8a249ffc5cc1d9463d3823df3e7078cd88b7dc9da951
@[go_sem] def Q47_8:=k 0x919eed8b3e0f129cd
@[go_sem] def Q47_9:=k 0x9c03f908da954864318b27ba0d
@[go_sem] def Q47_10:=k 0x1a1784a12234d7f73152e26b6a757215984a16be86da0a76fc57be6c028000211b16cda1af389
@[go_sem] def Q47_11:=k 0x1a0a7c371f023d7b502566a8fecd5df37b7d33379ed32f815729b8e17a16ae4ca05ac1594665c2e
def t_Q47:TF:=⟨65,[.t 4,.cell 5 6 true,.t 6],(.seq (.reg Q47_0) (.seq (.reg Q47_1) (.seq (.seq (.reg Q47_2) (.cond (.t 19) (.seq (.reg Q47_3) .ret) .skip)) (.seq (.seq (.reg Q47_4) (.seq (.reg Q47_5) (.cond (.t 26) (.seq (.reg Q47_6) .ret) .skip))) (.seq (.reg Q47_7) (.seq (.reg Q47_8) (.seq (.seq (.reg Q47_9) (.cond (.t 41) (.seq (.reg Q47_10) .ret) .skip)) (.seq (.reg Q47_11) .ret))))))))⟩
/-! (horarium/reduce.rows).draw -/
@[go_sem] def Q48_0:=k 0xb0bd3b5a08
@[go_sem] def Q48_1:=k 0xccfdf18f2234b482a8c94166c
@[go_sem] def Q48_2:=k 0xd6a4744
@[go_sem] def Q48_3:=k 0x79480082ba68e73b18bb4
@[go_sem] def Q48_4:=k 0x11b806749ac85d251de3b0
@[go_sem] def Q48_5:=k 0x4c09806e9619081a5a7580c
@[go_sem] def Q48_6:=k 0x620c749449c80
def Q48_7:TC:=(.seq (.reg Q48_2) (.seq (.cond (.t 14) .skip (.exit 0)) (.seq (.block 1 (.seq (.reg Q48_3) (.seq (.reg Q48_4) (.cond (.t 20) (.seq (.reg Q48_5) .ret) .skip)))) (.reg Q48_6))))
@[go_sem] def Q48_8:=k 0x5f16bf167c023588c
def t_Q48:TF:=⟨27,[.t 4,.t 5],(.seq (.reg Q48_0) (.seq (.seq (.reg Q48_1) (.block 0 (.loop Q48_7))) (.seq (.reg Q48_8) .ret)))⟩
/-! slices.ContainsFunc[[]horarium/move.Move,horarium/move.Move] -/
@[go_sem] def Q49_0:=k 0x1160c
@[go_sem] def Q49_1:=k 0x20dc5d55a23fce47ddd3186d60c
def t_Q49:TF:=⟨9,[.t 4],(.seq (.reg Q49_0) (.seq (.reg Q49_1) .ret))⟩
/-! horarium/move.All -/
@[go_sem] def Q50_0:=k 0x11614
@[go_sem] def Q50_1:=k 0x15634
@[go_sem] def Q50_2:=k 0xc9c9a29d68c
@[go_sem] def Q50_3:=k 0xb58bf04
@[go_sem] def Q50_4:=k 0x1a7fc4a1030c
@[go_sem] def Q50_5:=k 0x7a8c7e9354f3baf2c
@[go_sem] def Q50_6:=k 0x8589ed5ba2f2cabdb36c
@[go_sem] def Q50_7:=k 0x11b6dadb906be80d4c2153302c
@[go_sem] def Q50_8:=k 0x1a0a96e7ee85a6b90bd88c
@[go_sem] def Q50_9:=k 0x8e8a885b0c22f01a725f9646f7f72032288afcef810d
@[go_sem] def Q50_10:=k 0xaad4a35a1524533ec
def Q50_11:TC:=(.seq (.seq (.reg Q50_6) (.cond (.t 19) .skip (.exit 2))) (.seq (.block 3 (.seq (.reg Q50_7) (.seq (.reg Q50_8) (.cond (.t 28) (.reg Q50_9) .skip)))) (.reg Q50_10)))
@[go_sem] def Q50_12:=k 0x91463205af2201
def Q50_13:TC:=(.seq (.reg Q50_3) (.seq (.cond (.t 12) .skip (.exit 0)) (.seq (.block 1 (.seq (.reg Q50_4) (.seq (.reg Q50_5) (.block 2 (.loop Q50_11))))) (.reg Q50_12))))
@[go_sem] def Q50_14:=k 0x253670b4f820d
def t_Q50:TF:=⟨38,[.t 4],(.seq (.reg Q50_0) (.seq (.reg Q50_1) (.seq (.seq (.reg Q50_2) (.block 0 (.loop Q50_13))) (.seq (.reg Q50_14) .ret))))⟩
/-! horarium/graph.Depends -/
@[go_sem] def Q51_0:=k 0xd06d5c8
@[go_sem] def Q51_1:=k 0x166d15a2f684cc72b5744a1a74
@[go_sem] def Q51_2:=k 0xcccca4ea2ec
@[go_sem] def Q51_3:=k 0xe730b64
@[go_sem] def Q51_4:=k 0x2065a631cf6c
@[go_sem] def Q51_5:=k 0xd1d1a63e38c
@[go_sem] def Q51_6:=k 0x139ee004
@[go_sem] def Q51_7:=k 0x2a7fb8df240c
@[go_sem] def Q51_8:=kd 0x57b5bb7976bd3d7c70ad6ff13707a12ab4bac9a13f95ab31af7b628b70f1d618cd33de121e2178c125c1324abcb904c89d972f2e1e9ee17b2502e00ea0072e3e7c347e18336d3d5acd
@[go_sem] def Q51_9:=k 0xbdf2bd45c1e361
def Q51_10:TC:=(.seq (.reg Q51_6) (.seq (.cond (.t 20) .skip (.exit 2)) (.seq (.block 3 (.seq (.reg Q51_7) (.dreg Q51_8))) (.reg Q51_9))))
@[go_sem] def Q51_11:=k 0xc1a66e1db82381
def Q51_12:TC:=(.seq (.reg Q51_3) (.seq (.cond (.t 15) .skip (.exit 0)) (.seq (.block 1 (.seq (.reg Q51_4) (.seq (.reg Q51_5) (.block 2 (.loop Q51_10))))) (.reg Q51_11))))
@[go_sem] def Q51_13:=k 0x6d23309cabca1e6395
@[go_sem] def Q51_14:=k 0xd3a6f425
@[go_sem] def Q51_15:=k 0x1fb9f299ed8536bbc333cc9
@[go_sem] def Q51_16:=k 0xf6c4b60fb26420de88bd20c76eb3f10f1fb0ca16686fac4a23c752162c92
@[go_sem] def Q51_17:=kd 0x4380e212fa12265979fad820e6cef4214f372d76485af0242c24bd1ab93e32ac0ce795dfd2cffdc51894d2a9e00627f8357ade71a7a4802a2c3ce
@[go_sem] def Q51_18:=k 0x14aeca172dd4afc2
def Q51_19:TC:=(.seq (.reg Q51_14) (.seq (.cond (.t 53) .skip (.exit 4)) (.seq (.block 5 (.seq (.reg Q51_15) (.seq (.reg Q51_16) (.cond (.t 65) (.dreg Q51_17) .skip)))) (.reg Q51_18))))
@[go_sem] def Q51_20:=k 0x29abe23bcd0fce
def t_Q51:TF:=⟨84,[.t 2],(.seq (.reg Q51_0) (.seq (.reg Q51_1) (.seq (.seq (.reg Q51_2) (.block 0 (.loop Q51_12))) (.seq (.seq (.reg Q51_13) (.block 4 (.loop Q51_19))) (.seq (.reg Q51_20) .ret)))))⟩
/-! horarium/reduce.Stuck$1 -/
@[go_sem] def Q52_0:=k 0xb065608
@[go_sem] def Q52_1:=k 0x20dc5d38836245dc1ed36135a30
def t_Q52:TF:=⟨9,[.t 4],(.seq (.reg Q52_0) (.seq (.reg Q52_1) .ret))⟩
/-! horarium/move.Fits -/
@[go_sem] def Q53_0:=k 0x2c71a6dc9d608
@[go_sem] def Q53_1:=kd 0x1a5b8631aa979bafcc9cf6131981062b178747ded1eb0cf7349948152fa9c59cde8035a18c
def t_Q53:TF:=⟨20,[.t 6],(.seq (.reg Q53_0) (.seq (.dreg Q53_1) .ret))⟩
/-! horarium/word.Same -/
@[go_sem] def Q54_0:=k 0x1964c
@[go_sem] def Q54_1:=k 0x457a90ea54b65073176b244935b8f20cfb7f719b485ea019c8856cc
@[go_sem] def Q54_2:=k 0x4d3e1b737c1fbbac
def t_Q54:TF:=⟨20,[.t 6],(.seq (.reg Q54_0) (.seq (.reg Q54_1) (.seq (.reg Q54_2) .ret)))⟩
/-! horarium/runs.Right -/
@[go_sem] def Q55_0:=k 0x95cc
@[go_sem] def Q55_1:=k 0xd5d8
@[go_sem] def Q55_2:=k 0xc6c6a1d162c
@[go_sem] def Q55_3:=k 0x83e72a4
@[go_sem] def Q55_4:=k 0x568273ab7c3d16cf5b6e4
@[go_sem] def Q55_5:=k 0x15532352aa2f0ed0ae3e9993d007410327017b601c6a14bedd68d13e5ca7272a576baaf4
@[go_sem] def Q55_6:=k 0x95cc
@[go_sem] def Q55_7:=k 0x758ee0af11eae0283a015b524ac
@[go_sem] def Q55_8:=k 0x7983da1c39d40
def Q55_9:TC:=(.seq (.reg Q55_3) (.seq (.cond (.t 9) .skip (.exit 0)) (.seq (.block 1 (.seq (.reg Q55_4) (.seq (.seq (.reg Q55_5) (.cond (.t 25) (.seq (.reg Q55_6) .ret) .skip)) (.reg Q55_7)))) (.reg Q55_8))))
@[go_sem] def Q55_10:=k 0x2b1dcc894bac97e88e7df491212e59186a3584a072c9b57d5ca6efe0d1c0684605d94d
def t_Q55:TF:=⟨43,[.t 2],(.seq (.reg Q55_0) (.seq (.reg Q55_1) (.seq (.seq (.reg Q55_2) (.block 0 (.loop Q55_9))) (.seq (.reg Q55_10) .ret))))⟩
/-! horarium/horariumref12.Right -/
@[go_sem] def Q56_0:=k 0x60355c8
@[go_sem] def Q56_1:=k 0x91fe411b58b8e824e7f1b401185b32a1a50
@[go_sem] def Q56_2:=k 0x143982d022ac
def t_Q56:TF:=⟨11,[.t 2],(.seq (.reg Q56_0) (.seq (.reg Q56_1) (.seq (.reg Q56_2) .ret)))⟩
/-! horarium/cursor.New -/
@[go_sem] def Q57_0:=k 0x9848
@[go_sem] def Q57_1:=k 0x141e578b3c4615ec
@[go_sem] def Q57_2:=k 0x9848
@[go_sem] def Q57_3:=k 0xa34084bf38bcb7029b5ed64c
@[go_sem] def Q57_4:=k 0xb1c3d062cc
@[go_sem] def Q57_5:=k 0x1a3f8450e30c
def t_Q57:TF:=⟨14,[.t 2],(.seq (.reg Q57_0) (.seq (.seq (.reg Q57_1) (.cond (.t 6) (.seq (.reg Q57_2) .ret) .skip)) (.seq (.reg Q57_3) (.seq (.reg Q57_4) (.seq (.reg Q57_5) .ret)))))⟩
/-! (*horarium/cursor.Cursor).Next -/
@[go_sem] def Q58_0:=k 0x58c220
@[go_sem] def Q58_1:=kd 0x5b9dc4e6ccfb58b26cc45029b9e718d172dded7d19d231f40c
@[go_sem] def Q58_2:=k 0x6b6138bba8f390
@[go_sem] def Q58_3:=kd 0x8dc50ba285dd5b245e96ab9398f009502d1f44bf48c479277bb1b87897d584879427a36fd743c4017947507f599651254ce32a5a27292e77b2b3b553df72fb23bdf35b3a2236ec04624108e3b4a4d
@[go_sem] def Q58_4:=kd 0x601352ce6bf8ba07f75b2c85a892c7b919ff2f05440ee8ec4d9ee19f74d
@[go_sem] def Q58_5:=k 0xd519d895c0d
@[go_sem] def Q58_6:=k 0xd72ab7ae1959fcad
def t_Q58:TF:=⟨56,[.cell 2 2 true,.t 3],(.seq (.reg Q58_0) (.seq (.seq (.dreg Q58_1) (.cond (.t 14) (.seq (.reg Q58_2) .ret) .skip)) (.seq (.dreg Q58_3) (.seq (.dreg Q58_4) (.seq (.reg Q58_5) (.seq (.reg Q58_6) .ret))))))⟩
/-! horarium/runs.Tidy -/
@[go_sem] def Q59_0:=k 0x95d4
@[go_sem] def Q59_1:=k 0xd5f4
@[go_sem] def Q59_2:=k 0xc7c7a21564c
@[go_sem] def Q59_3:=k 0x94736c4
@[go_sem] def Q59_4:=k 0x5703746bbc6536e7e7b04
@[go_sem] def Q59_5:=k 0x39200c209cd2e30c
@[go_sem] def Q59_6:=k 0x2d9007945cf37ba5b6dabf4
@[go_sem] def Q59_7:=kd 0x31ed1be073be1b9d2f0e6b598d39deffbbbf5d538fdff021d5e0088f1d7621e8835c2453dfe1cc04d
@[go_sem] def Q59_8:=kd 0x1752350ee384515e49a71eaa7ba28b0430172268b29cd2b2b0347a47b76362597d4b2e31cf0af4c235025c0d
@[go_sem] def Q59_9:=k 0x249038e08c57832f08433d634c
@[go_sem] def Q59_10:=k 0xcd6220f5aee3e1
def Q59_11:TC:=(.seq (.reg Q59_3) (.seq (.cond (.t 10) .skip (.exit 0)) (.seq (.block 1 (.seq (.reg Q59_4) (.seq (.reg Q59_5) (.block 2 (.seq (.reg Q59_6) (.cond (.t 19) .skip (.seq (.dreg Q59_7) (.cond (.t 23) (.dreg Q59_8) (.reg Q59_9))))))))) (.reg Q59_10))))
@[go_sem] def Q59_12:=k 0xd564305ff0dab33ed
def t_Q59:TF:=⟨54,[.t 2],(.seq (.reg Q59_0) (.seq (.reg Q59_1) (.seq (.seq (.reg Q59_2) (.block 0 (.loop Q59_11))) (.seq (.reg Q59_12) .ret))))⟩
/-! horarium/bound.Late -/
@[go_sem] def Q60_0:=k 0x19638
@[go_sem] def Q60_1:=k 0x28a18be1fd7a30f5b955df927d206fb80f09574c
@[go_sem] def Q60_2:=k 0x18dc26eb2264baef19342c
@[go_sem] def Q60_3:=k 0x19638
@[go_sem] def Q60_4:=k 0x1d046d2d4ab2fd2f3238ac
@[go_sem] def Q60_5:=k 0x196b8
@[go_sem] def Q60_6:=k 0x79e0cd724d50d90c
@[go_sem] def Q60_7:=k 0x296b8
@[go_sem] def Q60_8:=k 0x6827f676114d
@[go_sem] def Q60_9:=k 0x864b99c5
@[go_sem] def Q60_10:=k 0x32afa9e7e6a342417d7e205
@[go_sem] def Q60_11:=k 0x1afdc3ee33b181d33a70988382a42a8b996c9ba15
@[go_sem] def Q60_12:=k 0xb314b325
@[go_sem] def Q60_13:=k 0x2f804fb52b06520fb61
@[go_sem] def Q60_14:=k 0xe08e0c0b728708dd893e7c7f21da7fb6621f32df0bd9326b6d
@[go_sem] def Q60_15:=k 0xe3a8570df62481
def Q60_16:TC:=(.seq (.reg Q60_12) (.seq (.cond (.t 45) .skip (.exit 3)) (.seq (.block 4 (.seq (.reg Q60_13) (.reg Q60_14))) (.reg Q60_15))))
@[go_sem] def Q60_17:=k 0xe6fba7b5e064a1
def Q60_18:TC:=(.seq (.reg Q60_9) (.seq (.cond (.t 34) .skip (.exit 1)) (.seq (.block 2 (.seq (.reg Q60_10) (.seq (.reg Q60_11) (.block 3 (.loop Q60_16))))) (.reg Q60_17))))
@[go_sem] def Q60_19:=k 0x3a537dfc4ecad
def t_Q60:TF:=⟨59,[.t 6],(.seq (.reg Q60_0) (.seq (.reg Q60_1) (.seq (.block 0 (.seq (.reg Q60_2) (.cond (.t 21) (.seq (.reg Q60_3) .ret) (.seq (.reg Q60_4) (.cond (.t 25) (.seq (.reg Q60_5) .ret) .skip))))) (.seq (.reg Q60_6) (.seq (.reg Q60_7) (.seq (.seq (.reg Q60_8) (.block 1 (.loop Q60_18))) (.seq (.reg Q60_19) .ret)))))))⟩
/-! horarium/bound.Budget -/
@[go_sem] def Q61_0:=k 0x19638
@[go_sem] def Q61_1:=k 0x3d463f49d511172c
@[go_sem] def Q61_2:=k 0x5d6989acc2a12ad3a4aa4691023998888ae33a313d3945d526351e8dd229f6c
@[go_sem] def Q61_3:=k 0x196b8
@[go_sem] def Q61_4:=k 0x1e7f5f69b31176c30c98ec
@[go_sem] def Q61_5:=k 0x3ed3fd69614c
@[go_sem] def Q61_6:=k 0x296b8
@[go_sem] def Q61_7:=k 0x82d382c16111e696d
@[go_sem] def Q61_8:=k 0x2d6d8
@[go_sem] def Q61_9:=k 0x69e9b6f7da2d
@[go_sem] def Q61_10:=k 0xa2cb92a5
@[go_sem] def Q61_11:=k 0x3728909624f449c5057dae5
@[go_sem] def Q61_12:=k 0xeb804fd767e705260cb0c80ca95ed542962084f5025f9bf21af647ba591ac7404aa1e693abf599572ed
@[go_sem] def Q61_13:=k 0xeb7018edeea4c1
def Q61_14:TC:=(.seq (.reg Q61_10) (.seq (.cond (.t 41) .skip (.exit 2)) (.seq (.block 3 (.seq (.reg Q61_11) (.reg Q61_12))) (.reg Q61_13))))
@[go_sem] def Q61_15:=k 0xf67ff35004e3d53b95524cd
@[go_sem] def Q61_16:=k 0x95cf82d5f4143dd5ccf29cd
def Q61_17:TC:=(.seq (.seq (.reg Q61_7) (.cond (.t 34) .skip (.exit 0))) (.seq (.block 1 (.seq (.reg Q61_8) (.seq (.seq (.reg Q61_9) (.block 2 (.loop Q61_14))) (.reg Q61_15)))) (.reg Q61_16)))
@[go_sem] def Q61_18:=k 0x3e577efb5e52d
def t_Q61:TF:=⟨63,[.t 6],(.seq (.reg Q61_0) (.seq (.reg Q61_1) (.seq (.seq (.reg Q61_2) (.cond (.t 27) (.seq (.reg Q61_3) .ret) .skip)) (.seq (.reg Q61_4) (.seq (.reg Q61_5) (.seq (.seq (.reg Q61_6) (.block 0 (.loop Q61_17))) (.seq (.reg Q61_18) .ret)))))))⟩
/-! slices.Clone[[]horarium/api.Run,horarium/api.Run] -/
@[go_sem] def Q62_0:=k 0x95d4
@[go_sem] def Q62_1:=k 0x30c858d5cc
@[go_sem] def Q62_2:=k 0x95d4
@[go_sem] def Q62_3:=k 0x3906e1b55324857562e8
def t_Q62:TF:=⟨8,[.t 2],(.seq (.reg Q62_0) (.seq (.seq (.reg Q62_1) (.cond (.t 4) (.seq (.reg Q62_2) .ret) .skip)) (.seq (.reg Q62_3) .ret)))⟩
/-! horarium/reduce.step -/
@[go_sem] def Q63_0:=k 0x165bad4315e8
@[go_sem] def Q63_1:=k 0x656553f454
@[go_sem] def Q63_2:=k 0xc618324
@[go_sem] def Q63_3:=k 0x7a8c7e925c1a8c760
@[go_sem] def Q63_4:=k 0x1664027525293ed9cd97a4a8bea360abd8a93b031ca738c
@[go_sem] def Q63_5:=k 0x326f30f960456a5d98cccd82abfc744ab7c4c
@[go_sem] def Q63_6:=k 0x985c3fd05392c
@[go_sem] def Q63_7:=k 0x7e085b7c5dd60
def Q63_8:TC:=(.seq (.reg Q63_2) (.seq (.cond (.t 13) .skip (.exit 0)) (.seq (.block 1 (.seq (.reg Q63_3) (.seq (.reg Q63_4) (.seq (.reg Q63_5) (.cond (.t 29) (.seq (.reg Q63_6) .ret) .skip))))) (.reg Q63_7))))
@[go_sem] def Q63_9:=k 0x2e2f21f70e216d
def t_Q63:TF:=⟨33,[.t 4,.t 5],(.seq (.reg Q63_0) (.seq (.seq (.reg Q63_1) (.block 0 (.loop Q63_8))) (.seq (.reg Q63_9) .ret)))⟩
/-! horarium/fold.leaves -/
@[go_sem] def Q64_0:=k 0x95d4
@[go_sem] def Q64_1:=k 0xd5f4
@[go_sem] def Q64_2:=k 0xc6c6a1d162c
@[go_sem] def Q64_3:=k 0x83e72a4
@[go_sem] def Q64_4:=k 0x568273ab7c3d16cf5b6e4
@[go_sem] def Q64_5:=k 0x8ab71e70b68daaaf2701af580e2c3ca2ec
@[go_sem] def Q64_6:=k 0x4953ce1c09bc0
def Q64_7:TC:=(.seq (.reg Q64_3) (.seq (.cond (.t 9) .skip (.exit 0)) (.seq (.block 1 (.seq (.reg Q64_4) (.reg Q64_5))) (.reg Q64_6))))
@[go_sem] def Q64_8:=k 0x264b875263cc
def t_Q64:TF:=⟨20,[.t 2],(.seq (.reg Q64_0) (.seq (.reg Q64_1) (.seq (.seq (.reg Q64_2) (.block 0 (.loop Q64_7))) (.seq (.reg Q64_8) .ret))))⟩
/-! horarium/fold.best -/
@[go_sem] def Q65_0:=k 0x117ac
@[go_sem] def Q65_1:=k 0x157cc
@[go_sem] def Q65_2:=k 0xcbcba3256cc
@[go_sem] def Q65_3:=k 0xd6a4744
@[go_sem] def Q65_4:=k 0x1e83c5b18b4c
@[go_sem] def Q65_5:=k 0x1d658
@[go_sem] def Q65_6:=k 0xa1a78
@[go_sem] def Q65_7:=k 0x13ed54bb172ef403513277868b21f955af6c
@[go_sem] def Q65_8:=k 0x21c45f59c619d9dbbf5e91647e59163b75f3e5258a90709188c908d
@[go_sem] def Q65_9:=k 0x960a426b3be587fb3898a986e99ad
@[go_sem] def Q65_10:=k 0xaaa1c314c445d060438e7553dcad10fd22d
@[go_sem] def Q65_11:=k 0x2b2f154cf1acd
@[go_sem] def Q65_12:=k 0x2e6eb6e80bc58edab0d
@[go_sem] def Q65_13:=k 0x329cb0e5f7768217bf8b1e84d4a468719a62b464e0234d
@[go_sem] def Q65_14:=k 0x1802a9e6f5b82bc6fbbbd910b8b38f40c4d
@[go_sem] def Q65_15:=k 0xc33915ed7d3cdf84c
def Q65_16:TC:=(.seq (.seq (.reg Q65_7) (.cond (.t 22) .skip (.exit 2))) (.seq (.block 3 (.seq (.reg Q65_8) (.seq (.reg Q65_9) (.seq (.reg Q65_10) (.seq (.seq (.reg Q65_11) (.cond (.t 44) (.reg Q65_12) .skip)) (.seq (.reg Q65_13) (.cond (.t 54) (.reg Q65_14) .skip))))))) (.reg Q65_15)))
@[go_sem] def Q65_17:=k 0xf1c66a15b92501
def Q65_18:TC:=(.seq (.reg Q65_3) (.seq (.cond (.t 14) .skip (.exit 0)) (.seq (.block 1 (.seq (.reg Q65_4) (.seq (.reg Q65_5) (.seq (.reg Q65_6) (.block 2 (.loop Q65_16)))))) (.reg Q65_17))))
@[go_sem] def Q65_19:=k 0x4fbbfa778975
def t_Q65:TF:=⟨62,[.cell 4 4 true],(.seq (.reg Q65_0) (.seq (.reg Q65_1) (.seq (.seq (.reg Q65_2) (.block 0 (.loop Q65_18))) (.seq (.reg Q65_19) .ret))))⟩
/-! horarium/fold.same -/
@[go_sem] def Q66_0:=k 0x68c9d4
@[go_sem] def Q66_1:=k 0x694a14
@[go_sem] def Q66_2:=k 0xc8c8a25966c
@[go_sem] def Q66_3:=k 0xa4ffae4
@[go_sem] def Q66_4:=k 0x77c495a8aee436e973f20
@[go_sem] def Q66_5:=k 0x13660a895723afd600be27f22936aea5272c
@[go_sem] def Q66_6:=k 0x61ce1d7a805565991c11f44bcb2bec
@[go_sem] def Q66_7:=k 0x65b0154c35ca0
def Q66_8:TC:=(.seq (.reg Q66_3) (.seq (.cond (.t 11) .skip (.exit 0)) (.seq (.block 1 (.seq (.reg Q66_4) (.seq (.reg Q66_5) (.reg Q66_6)))) (.reg Q66_7))))
@[go_sem] def Q66_9:=k 0xd9b32f949cf608bc28ac
def t_Q66:TF:=⟨28,[.t 2,.t 3],(.seq (.reg Q66_0) (.seq (.reg Q66_1) (.seq (.seq (.reg Q66_2) (.block 0 (.loop Q66_8))) (.seq (.reg Q66_9) .ret))))⟩
/-! horarium/fold.joined -/
@[go_sem] def Q67_0:=k 0x95d4
@[go_sem] def Q67_1:=k 0x14896043eecb95ec
@[go_sem] def Q67_2:=k 0x1c4a6399f29d162c
@[go_sem] def Q67_3:=k 0x1237824fe28c
@[go_sem] def Q67_4:=k 0x20a6d01603dcedd4c8c7b1e65409043a6f2e16ac
def t_Q67:TF:=⟨17,[.t 2],(.seq (.reg Q67_0) (.seq (.reg Q67_1) (.seq (.seq (.reg Q67_2) (.cond (.t 8) (.seq (.reg Q67_3) .ret) .skip)) (.seq (.reg Q67_4) .ret))))⟩
/-! slices.Concat[[]horarium/api.Node,horarium/api.Node] -/
@[go_sem] def Q68_0:=k 0x95d4
@[go_sem] def Q68_1:=k 0xd5d8
@[go_sem] def Q68_2:=k 0xc9c9a29d68c
@[go_sem] def Q68_3:=k 0xb58bf04
@[go_sem] def Q68_4:=k 0x71ffb8112c0200340
@[go_sem] def Q68_5:=k 0x249038e08c0b10a3ac96b1634c
@[go_sem] def Q68_6:=k 0x26261ea763cc
@[go_sem] def Q68_7:=k 0x58b99eb0
@[go_sem] def Q68_8:=k 0x59c4326431c40
def Q68_9:TC:=(.seq (.reg Q68_3) (.seq (.cond (.t 12) .skip (.exit 0)) (.seq (.block 1 (.seq (.reg Q68_4) (.seq (.reg Q68_5) (.seq (.reg Q68_6) (.cond (.t 20) (.reg Q68_7) .skip))))) (.reg Q68_8))))
@[go_sem] def Q68_10:=k 0x615c2ac7578a644c
@[go_sem] def Q68_11:=k 0xd9d9a6dd88c
@[go_sem] def Q68_12:=k 0x1be50104
@[go_sem] def Q68_13:=k 0xf3813ab3458ac4540
@[go_sem] def Q68_14:=k 0x856eea5d7ac645ee4ee094d
@[go_sem] def Q68_15:=k 0x8a3f3085cea1c1
def Q68_16:TC:=(.seq (.reg Q68_12) (.seq (.cond (.t 28) .skip (.exit 2)) (.seq (.block 3 (.seq (.reg Q68_13) (.reg Q68_14))) (.reg Q68_15))))
@[go_sem] def Q68_17:=k 0x232c6833f09cd
def t_Q68:TF:=⟨36,[.t 2],(.seq (.reg Q68_0) (.seq (.reg Q68_1) (.seq (.seq (.reg Q68_2) (.block 0 (.loop Q68_9))) (.seq (.reg Q68_10) (.seq (.seq (.reg Q68_11) (.block 2 (.loop Q68_16))) (.seq (.reg Q68_17) .ret))))))⟩
/-! slices.Concat[[][]horarium/api.Node,[]horarium/api.Node] -/
@[go_sem] def Q69_0:=k 0x95d4
@[go_sem] def Q69_1:=k 0xd5d8
@[go_sem] def Q69_2:=k 0xc9c9a29d68c
@[go_sem] def Q69_3:=k 0xb58bf04
@[go_sem] def Q69_4:=k 0x71ffb8112c0200340
@[go_sem] def Q69_5:=k 0x249038e08c0b10a3ac96b1634c
@[go_sem] def Q69_6:=k 0x26261ea763cc
@[go_sem] def Q69_7:=k 0x58b99eb0
@[go_sem] def Q69_8:=k 0x59c4326431c40
def Q69_9:TC:=(.seq (.reg Q69_3) (.seq (.cond (.t 12) .skip (.exit 0)) (.seq (.block 1 (.seq (.reg Q69_4) (.seq (.reg Q69_5) (.seq (.reg Q69_6) (.cond (.t 20) (.reg Q69_7) .skip))))) (.reg Q69_8))))
@[go_sem] def Q69_10:=k 0x615c2ac7588ae44c
@[go_sem] def Q69_11:=k 0xd9d9a6dd88c
@[go_sem] def Q69_12:=k 0x1be50104
@[go_sem] def Q69_13:=k 0xf3813ab3458ac4540
@[go_sem] def Q69_14:=k 0x856eea5d7ab837eacee094d
@[go_sem] def Q69_15:=k 0x8a3f3085cea1c1
def Q69_16:TC:=(.seq (.reg Q69_12) (.seq (.cond (.t 28) .skip (.exit 2)) (.seq (.block 3 (.seq (.reg Q69_13) (.reg Q69_14))) (.reg Q69_15))))
@[go_sem] def Q69_17:=k 0x232c6833f09cd
def t_Q69:TF:=⟨36,[.t 2],(.seq (.reg Q69_0) (.seq (.reg Q69_1) (.seq (.seq (.reg Q69_2) (.block 0 (.loop Q69_9))) (.seq (.reg Q69_10) (.seq (.seq (.reg Q69_11) (.block 2 (.loop Q69_16))) (.seq (.reg Q69_17) .ret))))))⟩
/-! horarium/node.Length -/
@[go_sem] def Q70_0:=k 0xb0615b8
@[go_sem] def Q70_1:=k 0xe17d34fd54962c
@[go_sem] def Q70_2:=k 0xb0615b8
@[go_sem] def Q70_3:=k 0xd2dfb2d51ea4eeea98fee2920279f0116ac
@[go_sem] def Q70_4:=k 0xe12e8aab2c
@[go_sem] def Q70_5:=k 0x96987d5e1ab6c
@[go_sem] def Q70_6:=k 0xb0615b8
def t_Q70:TF:=⟨17,[.t 2,.t 3],(.seq (.reg Q70_0) (.seq (.seq (.reg Q70_1) (.cond (.t 8) (.seq (.reg Q70_2) .ret) .skip)) (.seq (.seq (.reg Q70_3) (.seq (.reg Q70_4) (.cond (.t 15) (.seq (.reg Q70_5) .ret) .skip))) (.seq (.reg Q70_6) .ret))))⟩
/-! horarium/node.whole -/
@[go_sem] def Q71_0:=k 0x95cc
@[go_sem] def Q71_1:=k 0x62adcf8b5dd08509adb3e2f8fd2b165af2150cbc4f03f316441055cc
def t_Q71:TF:=⟨13,[.t 2],(.seq (.reg Q71_0) (.seq (.reg Q71_1) .ret))⟩
/-! horarium/node.Depth -/
@[go_sem] def Q72_0:=k 0x95b8
@[go_sem] def Q72_1:=k 0xc14d0ce950560c
@[go_sem] def Q72_2:=k 0x95b8
@[go_sem] def Q72_3:=k 0xc2a756361c75750c23bad6edc7f0afcd68c
@[go_sem] def Q72_4:=k 0x1a3f8450e30c
def t_Q72:TF:=⟨14,[.t 2],(.seq (.reg Q72_0) (.seq (.seq (.reg Q72_1) (.cond (.t 7) (.seq (.reg Q72_2) .ret) .skip)) (.seq (.reg Q72_3) (.seq (.reg Q72_4) .ret))))⟩
/-! horarium/horariumref3.Depth -/
@[go_sem] def Q73_0:=k 0x95b8
@[go_sem] def Q73_1:=k 0xcf00dfe340f3088da776236ee3968e0ad1fc193d003e9055cc
@[go_sem] def Q73_2:=k 0x95b8
@[go_sem] def Q73_3:=k 0x713e97811dc15d70c
def t_Q73:TF:=⟨15,[.t 2],(.seq (.reg Q73_0) (.seq (.seq (.reg Q73_1) (.cond (.t 12) (.seq (.reg Q73_2) .ret) .skip)) (.seq (.reg Q73_3) .ret)))⟩
/-! horarium/horariumref3.Length -/
@[go_sem] def Q74_0:=k 0xb0615b8
@[go_sem] def Q74_1:=k 0x18243071ced0d60c
@[go_sem] def Q74_2:=k 0xb0615b8
@[go_sem] def Q74_3:=k 0x4983393b8da95166c
@[go_sem] def Q74_4:=k 0xa1007aa6ac
@[go_sem] def Q74_5:=k 0xb0615b8
@[go_sem] def Q74_6:=k 0x9617fd3d8a6ec
def t_Q74:TF:=⟨13,[.t 2,.t 3],(.seq (.reg Q74_0) (.seq (.seq (.reg Q74_1) (.cond (.t 7) (.seq (.reg Q74_2) .ret) .skip)) (.seq (.reg Q74_3) (.seq (.seq (.reg Q74_4) (.cond (.t 11) (.seq (.reg Q74_5) .ret) .skip)) (.seq (.reg Q74_6) .ret)))))⟩
/-! horarium/horariumref3.leaves -/
@[go_sem] def Q75_0:=k 0x19654
@[go_sem] def Q75_1:=k 0x1a41c2820b9e684fa74d8816ac
@[go_sem] def Q75_2:=k 0x422cacb431b9c
@[go_sem] def Q75_3:=kd 0x4a23964e7114489bfb15f4a8503927fa0db656fd8b60bc24550670cd2353aefaae64025067838a50c
@[go_sem] def Q75_4:=k 0x82776e61c4299d
@[go_sem] def Q75_5:=k 0xa7a296b4e00a95aa7cebc9abf75970105f658e3c34a98382e698d
@[go_sem] def Q75_6:=k 0xaf54298de6fafd
@[go_sem] def Q75_7:=k 0x1d658
@[go_sem] def Q75_8:=k 0xb586710253d6449c84987f6cb9fd58388152ed
@[go_sem] def Q75_9:=k 0xe6d522fdab15bc608f8602849308c235c0d
@[go_sem] def Q75_10:=k 0x346ba965d042c9d13cd
def Q75_11:TC:=(.seq (.seq (.reg Q75_8) (.cond (.t 50) .skip (.exit 1))) (.seq (.block 2 (.reg Q75_9)) (.reg Q75_10)))
@[go_sem] def Q75_12:=k 0x3a537df44acad
@[go_sem] def Q75_13:=k 0x1c07d1c197cc4c1b424dccd
@[go_sem] def Q75_14:=k 0x3f9cbfd86
@[go_sem] def Q75_15:=k 0x84ebf1633adc09dc4dc2
@[go_sem] def Q75_16:=k 0x11ad198a981b06e8124d018b9268ddce
@[go_sem] def Q75_17:=k 0x11f18ee93e29ee62
def Q75_18:TC:=(.seq (.reg Q75_14) (.seq (.cond (.t 64) .skip (.exit 3)) (.seq (.block 4 (.seq (.reg Q75_15) (.reg Q75_16))) (.reg Q75_17))))
@[go_sem] def Q75_19:=k 0x242a64dcaa3e6e
def t_Q75:TF:=⟨73,[.t 6],(.seq (.reg Q75_0) (.seq (.seq (.reg Q75_1) (.block 0 (.seq (.reg Q75_2) (.cond (.t 15) (.seq (.dreg Q75_3) .ret) (.seq (.reg Q75_4) (.cond (.t 31) (.seq (.reg Q75_5) .ret) (.seq (.reg Q75_6) (.cond (.t 42) (.seq (.seq (.reg Q75_7) (.block 1 (.loop Q75_11))) (.seq (.reg Q75_12) .ret)) .skip)))))))) (.seq (.seq (.reg Q75_13) (.block 3 (.loop Q75_18))) (.seq (.reg Q75_19) .ret))))⟩
/-! horarium/horariumref7.words -/
@[go_sem] def Q76_0:=k 0x95d4
@[go_sem] def Q76_1:=k 0xd5f4
@[go_sem] def Q76_2:=k 0xc7c7a21564c
@[go_sem] def Q76_3:=k 0x94736c4
@[go_sem] def Q76_4:=k 0x5703746bbc6536e7e7b04
@[go_sem] def Q76_5:=k 0x19638
@[go_sem] def Q76_6:=k 0x8f7fa5e1fbd9b45cdd18fb1a1ee758cdb656995c9ef0c
@[go_sem] def Q76_7:=k 0xe37b31e929855cdd7eb7e0d1534a46c
@[go_sem] def Q76_8:=k 0xbaac4f6c4d33db02c
def Q76_9:TC:=(.seq (.seq (.reg Q76_6) (.cond (.t 21) .skip (.exit 2))) (.seq (.block 3 (.reg Q76_7)) (.reg Q76_8)))
@[go_sem] def Q76_10:=k 0x759ff9343dd20
def Q76_11:TC:=(.seq (.reg Q76_3) (.seq (.cond (.t 10) .skip (.exit 0)) (.seq (.block 1 (.seq (.reg Q76_4) (.seq (.reg Q76_5) (.block 2 (.loop Q76_9))))) (.reg Q76_10))))
@[go_sem] def Q76_12:=k 0x3c618cd5252c
def t_Q76:TF:=⟨31,[.t 2],(.seq (.reg Q76_0) (.seq (.reg Q76_1) (.seq (.seq (.reg Q76_2) (.block 0 (.loop Q76_11))) (.seq (.reg Q76_12) .ret))))⟩
/-! horarium/horariumref7.depends -/
@[go_sem] def Q77_0:=k 0x1964c
@[go_sem] def Q77_1:=k 0x1d2bd825d3935a4c
@[go_sem] def Q77_2:=k 0x196b4
@[go_sem] def Q77_3:=k 0x3079ade1c531759f22375da33b815fd67ab3783a86b51e3e51c31de686160c6cc82e703581bac95992c899f603761ef14868433983b4a6f49122642e0fdf5399331dbdcfacc4c3411b2f33ad2f99c5a0cd066816afe61f30317e0b79265aefbb0569ead
def t_Q77:TF:=⟨46,[.t 6],(.seq (.reg Q77_0) (.seq (.seq (.reg Q77_1) (.cond (.t 9) (.seq (.reg Q77_2) .ret) .skip)) (.seq (.reg Q77_3) .ret)))⟩
/-! horarium/horariumref7.Project -/
@[go_sem] def Q78_0:=k 0x19654
@[go_sem] def Q78_1:=k 0x1d674
@[go_sem] def Q78_2:=k 0xcacaa2e16ac
@[go_sem] def Q78_3:=k 0xc618324
@[go_sem] def Q78_4:=k 0x9906d7ce019db7318c764
@[go_sem] def Q78_5:=k 0x54a2c8925349dc6b751cbcd8ce18157dcba830d25ef1388c3b74
@[go_sem] def Q78_6:=k 0x3b0810f7d955e4a5fcaf7034ac
@[go_sem] def Q78_7:=k 0x7a045a7c59d40
def Q78_8:TC:=(.seq (.reg Q78_3) (.seq (.cond (.t 13) .skip (.exit 0)) (.seq (.block 1 (.seq (.reg Q78_4) (.seq (.reg Q78_5) (.cond (.t 25) (.reg Q78_6) .skip)))) (.reg Q78_7))))
@[go_sem] def Q78_9:=k 0x81265130f4312114d
def t_Q78:TF:=⟨33,[.t 6],(.seq (.reg Q78_0) (.seq (.reg Q78_1) (.seq (.seq (.reg Q78_2) (.block 0 (.loop Q78_8))) (.seq (.reg Q78_9) .ret))))⟩
/-! horarium/horariumref7.All -/
@[go_sem] def Q79_0:=k 0x11614
@[go_sem] def Q79_1:=k 0x15634
@[go_sem] def Q79_2:=k 0xc9c9a29d68c
@[go_sem] def Q79_3:=k 0xb58bf04
@[go_sem] def Q79_4:=k 0x1a7fc4a1030c
@[go_sem] def Q79_5:=k 0x7a8c7e9354f3baf2c
@[go_sem] def Q79_6:=k 0x8589ed5ba2f2cabdb36c
@[go_sem] def Q79_7:=k 0x11b6dadb906be80d4c2153302c
@[go_sem] def Q79_8:=k 0x1a0a98fb0811e8b90bd88c
@[go_sem] def Q79_9:=k 0x8e8a885b0c22f01a725f9646f7f72032288afcef810d
@[go_sem] def Q79_10:=k 0xaad4a35a1524533ec
def Q79_11:TC:=(.seq (.seq (.reg Q79_6) (.cond (.t 19) .skip (.exit 2))) (.seq (.block 3 (.seq (.reg Q79_7) (.seq (.reg Q79_8) (.cond (.t 28) (.reg Q79_9) .skip)))) (.reg Q79_10)))
@[go_sem] def Q79_12:=k 0x91463205af2201
def Q79_13:TC:=(.seq (.reg Q79_3) (.seq (.cond (.t 12) .skip (.exit 0)) (.seq (.block 1 (.seq (.reg Q79_4) (.seq (.reg Q79_5) (.block 2 (.loop Q79_11))))) (.reg Q79_12))))
@[go_sem] def Q79_14:=k 0x253670b4f820d
def t_Q79:TF:=⟨38,[.t 4],(.seq (.reg Q79_0) (.seq (.reg Q79_1) (.seq (.seq (.reg Q79_2) (.block 0 (.loop Q79_13))) (.seq (.reg Q79_14) .ret))))⟩
/-! horarium/horariumref7.Do -/
@[go_sem] def Q80_0:=k 0xd0f5a08
@[go_sem] def Q80_1:=k 0x41d86efae5494995a308
@[go_sem] def Q80_2:=k 0x51aa36b31aa33d25c19f5cbb3009901fe1304899994fcd3c5025a92d7a3367645800cfcfb0cfcdf3d4da6294
@[go_sem] def Q80_3:=k 0x3479aaec2cac
@[go_sem] def Q80_4:=k 0x36368fdfe4d4
@[go_sem] def Q80_5:=kd 0x2abc02d8823eaf6ccb3eb2b45d7fb65ffd52da9512abab9413eb97361bffddf903ce2cbe3d8186bda932d92ac92b77dd6e4e6d81ce7c170adfaa0105160b355027f43605b713c0f95262660d
@[go_sem] def Q80_6:=kd 0xf7fe4a998805e135cb9b11d972f616fda835f08d1004299e31abc5b8d6afcee6f1145d674082bd1241259a9235f5ca6cad5fc6eea2ad7fa9f4501b3d2baa202c08778fd62247f79988af4442eefd9e2d4e
@[go_sem] def Q80_7:=k 0x131ebc4b77fc61b2ece
def t_Q80:TF:=⟨77,[.t 4],(.seq (.reg Q80_0) (.seq (.reg Q80_1) (.seq (.seq (.reg Q80_2) (.cond (.t 25) (.seq (.reg Q80_3) .ret) .skip)) (.seq (.seq (.reg Q80_4) (.cond (.t 28) (.dreg Q80_5) (.dreg Q80_6))) (.seq (.reg Q80_7) .ret)))))⟩
/-! (horarium/reduce.rows).tidy -/
@[go_sem] def Q81_0:=k 0xb0bd3b5a08
@[go_sem] def Q81_1:=k 0x20fbf9bd91cbd64c
@[go_sem] def Q81_2:=k 0x696fcd466264e2af03ba004a2764cbee8c
def t_Q81:TF:=⟨14,[.t 4,.t 5],(.seq (.reg Q81_0) (.seq (.reg Q81_1) (.seq (.reg Q81_2) .ret)))⟩
/-! horarium/reduce.pass -/
@[go_sem] def Q82_0:=k 0x12b95d5c8
@[go_sem] def Q82_1:=k 0x62b7f3e5e70
def t_Q82:TF:=⟨4,[.t 2],(.seq (.reg Q82_0) (.seq (.reg Q82_1) .ret))⟩
/-! horarium/horariumref3.Runs -/
@[go_sem] def Q83_0:=k 0x95cc
@[go_sem] def Q83_1:=k 0xd5d8
@[go_sem] def Q83_2:=k 0xc6c6a1d162c
@[go_sem] def Q83_3:=k 0x83e72a4
@[go_sem] def Q83_4:=k 0x568273ab7c3d16cf5b6e4
@[go_sem] def Q83_5:=k 0x1acccfc7939f506f9fe8f0f02ecccce7b91f089067bc394dfb2ba8e5834bd41c6a14bedd68d13e5ca7272a576baaf4
@[go_sem] def Q83_6:=k 0x95cc
@[go_sem] def Q83_7:=k 0x2273fe3fd062de0874d5201a4d5891b12d
@[go_sem] def Q83_8:=k 0x8d1200eda8e1e1
def Q83_9:TC:=(.seq (.reg Q83_3) (.seq (.cond (.t 9) .skip (.exit 0)) (.seq (.block 1 (.seq (.reg Q83_4) (.seq (.seq (.reg Q83_5) (.cond (.t 29) (.seq (.reg Q83_6) .ret) .skip)) (.reg Q83_7)))) (.reg Q83_8))))
@[go_sem] def Q83_10:=k 0x303eaec21eb2919b0d899c28d8b3c92223ddb262c255d7258c19a011150311c65719ed
def t_Q83:TF:=⟨48,[.t 2],(.seq (.reg Q83_0) (.seq (.reg Q83_1) (.seq (.seq (.reg Q83_2) (.block 0 (.loop Q83_9))) (.seq (.reg Q83_10) .ret))))⟩
/-! horarium/horariumref6.Table -/
@[go_sem] def Q84_0:=k 0x95d4
@[go_sem] def Q84_1:=k 0x1420dad6476d68c
@[go_sem] def Q84_2:=k 0x95d4
@[go_sem] def Q84_3:=k 0x34b978c9284a16ec
@[go_sem] def Q84_4:=k 0x4d5996b70c9c8487f424afcfb3bb47cc7273056f634c
@[go_sem] def Q84_5:=k 0x2828193cafec
@[go_sem] def Q84_6:=k 0x5cd56756454d242c
@[go_sem] def Q84_7:=k 0x8bb0f31b81afaea742b1f2215ffdbfaed963f21df88722b018c5df540f256486d
@[go_sem] def Q84_8:=k 0xab81a4a122e04494fc36a48679d738847d28fc06569b2a9
@[go_sem] def Q84_9:=k 0x340eda465d03c16ac507e86edcbf07ed6b70c503835758958c11acd
def Q84_10:TC:=(.block 1 (.seq (.reg Q84_4) (.seq (.seq (.reg Q84_5) (.cond (.t 21) (.seq (.reg Q84_6) .ret) .skip)) (.seq (.reg Q84_7) (.seq (.reg Q84_8) (.reg Q84_9))))))
def t_Q84:TF:=⟨52,[.t 2],(.seq (.reg Q84_0) (.seq (.seq (.reg Q84_1) (.cond (.t 11) (.seq (.reg Q84_2) .ret) .skip)) (.seq (.reg Q84_3) (.block 0 (.loop Q84_10)))))⟩
/-! horarium/move.Do -/
@[go_sem] def Q85_0:=k 0xd0f5a08
@[go_sem] def Q85_1:=k 0x24e1ccb633db166c
@[go_sem] def Q85_2:=k 0x60cbca57d7fdc01496ac
@[go_sem] def Q85_3:=k 0x1c61a4e92b2c
@[go_sem] def Q85_4:=kd 0xc2a650b930b375386aee7d6155fc1b23c
@[go_sem] def Q85_5:=k 0x26268bdde3d4
@[go_sem] def Q85_6:=kd 0x10387c23235aedb74cb877d8c2ba6eb2bc
@[go_sem] def Q85_7:=kd 0x123951cd73a21196d25151a48c7ba04b58e936fc56622e3e088713da3fff2be8b950fa1e309932c44520bd3bb0d
@[go_sem] def Q85_8:=k 0xadbaadc0460a2ce88dcd730d0426d
@[go_sem] def Q85_9:=k 0xb5544853a5fd342ed
def t_Q85:TF:=⟨46,[.t 4],(.seq (.reg Q85_0) (.seq (.reg Q85_1) (.seq (.seq (.reg Q85_2) (.cond (.t 13) (.seq (.reg Q85_3) .ret) .skip)) (.seq (.dreg Q85_4) (.seq (.seq (.reg Q85_5) (.cond (.t 20) (.dreg Q85_6) .skip)) (.seq (.dreg Q85_7) (.seq (.reg Q85_8) (.seq (.reg Q85_9) .ret))))))))⟩
/-! slices.IndexFunc[[]horarium/move.Move,horarium/move.Move] -/
@[go_sem] def Q86_0:=k 0x115f8
@[go_sem] def Q86_1:=k 0xc6c6a1d162c
@[go_sem] def Q86_2:=k 0x83e72a4
@[go_sem] def Q86_3:=k 0x1469b30436ac
@[go_sem] def Q86_4:=k 0x2e6b45c681eb997598b3c0988c5acc
@[go_sem] def Q86_5:=k 0x2267a669eb8c
@[go_sem] def Q86_6:=k 0x4953ce1c09bc0
def Q86_7:TC:=(.seq (.reg Q86_2) (.seq (.cond (.t 9) .skip (.exit 0)) (.seq (.block 1 (.seq (.reg Q86_3) (.seq (.reg Q86_4) (.cond (.t 16) (.seq (.reg Q86_5) .ret) .skip)))) (.reg Q86_6))))
@[go_sem] def Q86_8:=k 0x11678
def t_Q86:TF:=⟨19,[.t 4],(.seq (.reg Q86_0) (.seq (.seq (.reg Q86_1) (.block 0 (.loop Q86_7))) (.seq (.reg Q86_8) .ret)))⟩
/-! horarium/move.May -/
@[go_sem] def Q87_0:=k 0x1636379a1a28
@[go_sem] def Q87_1:=kd 0x8dc293c0f5be70eca4914491f9c89ddafd13bcb4d910faf34bdcf60e4406aaf27592eef99f93aca09ebd1fc68b585f44c
@[go_sem] def Q87_2:=k 0x1964c
@[go_sem] def Q87_3:=k 0x1e83c4f36b67ae82159e175544f0874f44255460d8cd
@[go_sem] def Q87_4:=k 0x2b0327dc49e6c27c4c51689a2544b0a7b8b1e566432ef3695b4292555462598d
def t_Q87:TF:=⟨43,[.t 6],(.seq (.reg Q87_0) (.seq (.seq (.dreg Q87_1) (.cond (.t 26) (.seq (.reg Q87_2) .ret) .skip)) (.seq (.reg Q87_3) (.seq (.reg Q87_4) .ret))))⟩
/-! horarium/graph.square -/
@[go_sem] def Q88_0:=k 0x95d4
@[go_sem] def Q88_1:=k 0xd5f4
@[go_sem] def Q88_2:=k 0x60415ec
@[go_sem] def Q88_3:=k 0x5242644
@[go_sem] def Q88_4:=k 0x59e1305e29e60b446e4e042729b624c
@[go_sem] def Q88_5:=k 0x30db67d3d9b00
def Q88_6:TC:=(.seq (.reg Q88_3) (.seq (.cond (.t 6) .skip (.exit 0)) (.seq (.block 1 (.reg Q88_4)) (.reg Q88_5))))
@[go_sem] def Q88_7:=k 0x1a3f8450e30c
def t_Q88:TF:=⟨14,[.t 2],(.seq (.reg Q88_0) (.seq (.reg Q88_1) (.seq (.seq (.reg Q88_2) (.block 0 (.loop Q88_6))) (.seq (.reg Q88_7) .ret))))⟩
/-! horarium/graph.is -/
@[go_sem] def Q89_0:=k 0x45a5c215e8
@[go_sem] def Q89_1:=k 0x3593b8c220f7dbaf1039c3530c356e395a64701db8dd549a5a0c
def t_Q89:TF:=⟨14,[.t 4],(.seq (.reg Q89_0) (.seq (.reg Q89_1) .ret))⟩
/-! horarium/word.Differ -/
@[go_sem] def Q90_0:=k 0x16160b849638
@[go_sem] def Q90_1:=k 0x2d6d8
@[go_sem] def Q90_2:=k 0xb38af34
@[go_sem] def Q90_3:=k 0x1aaff4ad030c
@[go_sem] def Q90_4:=k 0x1cc205213b2c
@[go_sem] def Q90_5:=k 0x1e7e7cf67f4c
@[go_sem] def Q90_6:=k 0x1842eaa4d05203602f0d8e7cb3bef897770e6874d75367ec78a779e61123964fc4acdf906867e4c398bae7cd
@[go_sem] def Q90_7:=k 0x976d653ce3fe3e0b93f21cd
@[go_sem] def Q90_8:=k 0x9371b186cd0dc7f8c
def Q90_9:TC:=(.seq (.seq (.reg Q90_5) (.cond (.t 16) .skip (.exit 2))) (.seq (.block 3 (.seq (.reg Q90_6) (.cond (.t 34) (.seq (.reg Q90_7) .ret) .skip))) (.reg Q90_8)))
@[go_sem] def Q90_10:=k 0x954a3305af6221
def Q90_11:TC:=(.seq (.reg Q90_2) (.seq (.cond (.t 12) .skip (.exit 0)) (.seq (.block 1 (.seq (.reg Q90_3) (.seq (.reg Q90_4) (.block 2 (.loop Q90_9))))) (.reg Q90_10))))
@[go_sem] def Q90_12:=k 0xaaa55fd904593c678c9b820ccaea2483d39a2d
def t_Q90:TF:=⟨43,[.t 6,.t 7,.t 8],(.seq (.reg Q90_0) (.seq (.seq (.reg Q90_1) (.block 0 (.loop Q90_11))) (.seq (.reg Q90_12) .ret)))⟩
/-! horarium/runs.part -/
@[go_sem] def Q91_0:=k 0x95cc
@[go_sem] def Q91_1:=k 0x105e303e0fff423306ce3db5f779ff52655cc
def t_Q91:TF:=⟨9,[.t 2],(.seq (.reg Q91_0) (.seq (.reg Q91_1) .ret))⟩
/-! horarium/horariumref12.Where -/
@[go_sem] def Q92_0:=k 0xc0c090355c8
@[go_sem] def Q92_1:=k 0xa34edde2237ee263f9ff81b226788d111a4e2c2ece4272917ecf87bec9bc7bffb9f9ae811096d949a93ce3d4a2960c3fa9dc640b0272530ec49a23e93f41a4512a966124b449b44879342141f75
@[go_sem] def Q92_2:=k 0x61ba1b8
@[go_sem] def Q92_3:=k 0x6be14f5c33b21b22f5
@[go_sem] def Q92_4:=k 0xbf4b8b85
@[go_sem] def Q92_5:=k 0x5e041e675decd08a6606502743249d38d
@[go_sem] def Q92_6:=k 0x366dc084cd9220d25d43f5
@[go_sem] def Q92_7:=k 0xe15177f493f2a3c6d
@[go_sem] def Q92_8:=k 0x19638
@[go_sem] def Q92_9:=k 0xe8fc26ee070b48c8d
@[go_sem] def Q92_10:=kd 0x5bd398116bfc814065026386a419cf0e255fe6a56d8161501fb1637e
@[go_sem] def Q92_11:=k 0x11dab9d6d89ec021e4e
@[go_sem] def Q92_12:=k 0x3d752a2cf8c508f4ced
def Q92_13:TC:=(.seq (.seq (.reg Q92_9) (.cond (.t 59) .skip (.exit 2))) (.seq (.block 3 (.seq (.dreg Q92_10) (.cond (.t 70) (.seq (.reg Q92_11) .ret) .skip))) (.reg Q92_12)))
@[go_sem] def Q92_14:=k 0x24b7909a72c5a6f7e
@[go_sem] def Q92_15:=k 0x12dc3a9f00a0c031ece
@[go_sem] def Q92_16:=k 0x132ac7363dab2f02
def Q92_17:TC:=(.seq (.reg Q92_4) (.seq (.cond (.t 48) .skip (.exit 0)) (.seq (.block 1 (.seq (.reg Q92_5) (.seq (.seq (.reg Q92_6) (.cond (.t 55) (.seq (.reg Q92_7) .ret) .skip)) (.seq (.seq (.reg Q92_8) (.block 2 (.loop Q92_13))) (.seq (.reg Q92_14) (.cond (.t 74) (.seq (.reg Q92_15) .ret) .skip)))))) (.reg Q92_16))))
@[go_sem] def Q92_18:=k 0xd4bdfd40e19c03b6f16
@[go_sem] def Q92_19:=k 0x50c794fa6
@[go_sem] def Q92_20:=k 0x1186eccb6dcfa99a820f856523ec7f699fae
@[go_sem] def Q92_21:=k 0x16836f38cafc7ec1a4c7732ec41517de0c6
@[go_sem] def Q92_22:=k 0x16e23da788a2c6750ce
@[go_sem] def Q92_23:=k 0x173f58bc6eb73102
def Q92_24:TC:=(.seq (.reg Q92_19) (.seq (.cond (.t 81) .skip (.exit 4)) (.seq (.block 5 (.seq (.reg Q92_20) (.seq (.reg Q92_21) (.cond (.t 90) (.seq (.reg Q92_22) .ret) .skip)))) (.reg Q92_23))))
@[go_sem] def Q92_25:=k 0xd8c400c1e1bd0477116
@[go_sem] def Q92_26:=k 0x60efe51a6
@[go_sem] def Q92_27:=k 0x327d9b9c29e9f9d042812ce49ea1ae
@[go_sem] def Q92_28:=k 0x6a71e6c7093cf73c0bcc60e45a84fe67c1daa422e
@[go_sem] def Q92_29:=k 0x35350f82bb62ae
@[go_sem] def Q92_30:=k 0xdbb5c327167393693f3e2ee
@[go_sem] def Q92_31:=k 0x3716f4d34532e
@[go_sem] def Q92_32:=k 0x7118353a6
@[go_sem] def Q92_33:=k 0xf053e2bb2a5b186d9d93a3e6
@[go_sem] def Q92_34:=k 0xeea723f2a2d31b41b596fdfe7afe91de03f6
@[go_sem] def Q92_35:=k 0x1eade37078a0caf34ae
@[go_sem] def Q92_36:=k 0x1f172ab26fbef4e2
def Q92_37:TC:=(.seq (.reg Q92_32) (.seq (.cond (.t 113) .skip (.exit 8)) (.seq (.block 9 (.seq (.reg Q92_33) (.seq (.reg Q92_34) (.cond (.t 121) (.seq (.reg Q92_35) .ret) .skip)))) (.reg Q92_36))))
@[go_sem] def Q92_38:=k 0x7f1ba5ed14f77a71413173512
@[go_sem] def Q92_39:=k 0xfefe41c19a3a54f
@[go_sem] def Q92_40:=k 0x41827bcba2484f9beb2d24258f
@[go_sem] def Q92_41:=k 0x20ecdeeebb30a125e3
def Q92_42:TC:=(.seq (.reg Q92_26) (.seq (.cond (.t 97) .skip (.exit 6)) (.seq (.block 7 (.seq (.reg Q92_27) (.seq (.reg Q92_28) (.seq (.seq (.reg Q92_29) (.cond (.t 107) (.seq (.reg Q92_30) .ret) .skip)) (.seq (.seq (.reg Q92_31) (.block 8 (.loop Q92_37))) (.seq (.reg Q92_38) (.seq (.reg Q92_39) (.cond (.t 128) (.seq (.reg Q92_40) .ret) .skip)))))))) (.reg Q92_41))))
@[go_sem] def Q92_43:=k 0x261395b8
def t_Q92:TF:=⟨132,[.t 2,.t 3],(.seq (.reg Q92_0) (.seq (.seq (.reg Q92_1) (.cond (.t 43) (.seq (.reg Q92_2) .ret) .skip)) (.seq (.seq (.reg Q92_3) (.block 0 (.loop Q92_17))) (.seq (.seq (.reg Q92_18) (.block 4 (.loop Q92_24))) (.seq (.seq (.reg Q92_25) (.block 6 (.loop Q92_42))) (.seq (.reg Q92_43) .ret))))))⟩
/-! (*horarium/cursor.Cursor).Reset -/
@[go_sem] def Q93_0:=k 0x5211c78f429805a83f29720050ec863236c31440b50807f1597848215ac
@[go_sem] def Q93_1:=k 0x16173e1ed6cc
def t_Q93:TF:=⟨13,[],(.seq (.reg Q93_0) (.reg Q93_1))⟩
/-! horarium/cursor.part -/
@[go_sem] def Q94_0:=k 0x60355c8
@[go_sem] def Q94_1:=k 0x20b11500871c8d9d4
@[go_sem] def Q94_2:=k 0x9638
@[go_sem] def Q94_3:=k 0x38ea6c993344a1a34
def t_Q94:TF:=⟨8,[.t 2],(.seq (.reg Q94_0) (.seq (.seq (.reg Q94_1) (.cond (.t 5) (.seq (.reg Q94_2) .ret) .skip)) (.seq (.reg Q94_3) .ret)))⟩
/-! (*horarium/cursor.Cursor).step -/
@[go_sem] def Q95_0:=k 0x415815285a896bd93378403699a95ec
@[go_sem] def Q95_1:=k 0xb1b8d45acb31c4dafd68c
@[go_sem] def Q95_2:=k 0x40c1261520252ac109f64389bc96ec
@[go_sem] def Q95_3:=kd 0x1337abe8206cce90fdfbe4a3e28f25b1b1cdedea95146c096a817a74039fcc
@[go_sem] def Q95_4:=k 0x9057185df268c6d5c6e0b7e168caaec39623622d710d
@[go_sem] def Q95_5:=k 0x2761e864226e51328d26029f31ed
@[go_sem] def Q95_6:=kd 0x45d51e907a3cc856a7e1b894e95c4f989adad7d2cc48d69e168dd6f698ecf8f70d
@[go_sem] def Q95_7:=k 0x39b548c194a79912ed3244fe2463b3740d
@[go_sem] def Q95_8:=k 0xed137322cd0349cad
@[go_sem] def Q95_9:=kd 0x11212655de8f4c146d111bd35aabc0edff9409c74c0df968101394ecb4633d701335237c3b9e8fe4094964e0e
def Q95_10:TC:=(.seq (.seq (.reg Q95_2) (.cond (.t 17) .skip (.exit 0))) (.block 1 (.seq (.dreg Q95_3) (.seq (.seq (.reg Q95_4) (.seq (.reg Q95_5) (.cond (.t 40) (.seq (.seq (.dreg Q95_6) (.cond (.t 52) (.reg Q95_7) .skip)) (.seq (.reg Q95_8) .ret)) .skip))) (.dreg Q95_9)))))
@[go_sem] def Q95_11:=k 0x1506067d90c43e78902d654078697f3b131df4b884e902adece
def t_Q95:TF:=⟨83,[],(.seq (.reg Q95_0) (.seq (.reg Q95_1) (.seq (.block 0 (.loop Q95_10)) (.reg Q95_11))))⟩
/-! horarium/runs.Add -/
@[go_sem] def Q96_0:=k 0x115f8
@[go_sem] def Q96_1:=k 0x40c28cab058a21bb9c62f217951d60c
@[go_sem] def Q96_2:=k 0x4b56c6c717f90787d68c
@[go_sem] def Q96_3:=k 0x11848
@[go_sem] def Q96_4:=k 0xf410873e4583ed508d70c
def t_Q96:TF:=⟨16,[.t 4],(.seq (.reg Q96_0) (.seq (.reg Q96_1) (.seq (.seq (.reg Q96_2) (.cond (.t 12) (.seq (.reg Q96_3) .ret) .skip)) (.seq (.reg Q96_4) .ret))))⟩
/-! slices.Clip[[]horarium/api.Run,horarium/api.Run] -/
@[go_sem] def Q97_0:=k 0x95d4
@[go_sem] def Q97_1:=k 0x82f1816b63504e8d25bcbd872ef968255cc
def t_Q97:TF:=⟨9,[.t 2],(.seq (.reg Q97_0) (.seq (.reg Q97_1) .ret))⟩
/-! horarium/bound.spans -/
@[go_sem] def Q98_0:=k 0x11614
@[go_sem] def Q98_1:=k 0x15634
@[go_sem] def Q98_2:=k 0x19638
@[go_sem] def Q98_3:=k 0xcacaa2e16ac
@[go_sem] def Q98_4:=k 0xc618324
@[go_sem] def Q98_5:=k 0x88e6bf85a06daf318c764
@[go_sem] def Q98_6:=k 0x4dec5db7ac86153e47b45d6af6c
@[go_sem] def Q98_7:=k 0x1948b21aab8bb05983097d2e0066bf8f322a8f93a8537f4
@[go_sem] def Q98_8:=k 0x8a3551961f44d080e3686e283a324ab8bd810d
@[go_sem] def Q98_9:=k 0x233c783af21cd
@[go_sem] def Q98_10:=k 0x9156420db12201
def Q98_11:TC:=(.seq (.reg Q98_4) (.seq (.cond (.t 13) .skip (.exit 0)) (.seq (.block 1 (.seq (.reg Q98_5) (.seq (.reg Q98_6) (.seq (.seq (.reg Q98_7) (.cond (.t 28) (.reg Q98_8) .skip)) (.reg Q98_9))))) (.reg Q98_10))))
@[go_sem] def Q98_12:=k 0x253670b4f820d
def t_Q98:TF:=⟨38,[.t 4],(.seq (.reg Q98_0) (.seq (.reg Q98_1) (.seq (.reg Q98_2) (.seq (.seq (.reg Q98_3) (.block 0 (.loop Q98_11))) (.seq (.reg Q98_12) .ret)))))⟩
/-! horarium/runs.Length -/
@[go_sem] def Q99_0:=k 0x95b8
@[go_sem] def Q99_1:=k 0xd5d8
@[go_sem] def Q99_2:=k 0xc6c6a1d162c
@[go_sem] def Q99_3:=k 0x83e72a4
@[go_sem] def Q99_4:=k 0x568273ab7c3d16cf5b6e4
@[go_sem] def Q99_5:=k 0x3d02538032e56cb964915b1a2ec
@[go_sem] def Q99_6:=k 0x414bcc1c01b80
def Q99_7:TC:=(.seq (.reg Q99_3) (.seq (.cond (.t 9) .skip (.exit 0)) (.seq (.block 1 (.seq (.reg Q99_4) (.reg Q99_5))) (.reg Q99_6))))
@[go_sem] def Q99_8:=k 0x22478651e38c
def t_Q99:TF:=⟨18,[.t 2],(.seq (.reg Q99_0) (.seq (.reg Q99_1) (.seq (.seq (.reg Q99_2) (.block 0 (.loop Q99_7))) (.seq (.reg Q99_8) .ret))))⟩
/-! horarium/bound.next -/
@[go_sem] def Q100_0:=k 0x19638
@[go_sem] def Q100_1:=k 0xc9c9a29d68c
@[go_sem] def Q100_2:=k 0xb58bf04
@[go_sem] def Q100_3:=k 0x8865bec560458f1900344
@[go_sem] def Q100_4:=k 0x42e659292567ad4ef826f93db4c
@[go_sem] def Q100_5:=k 0x187b9f80be5b47edaf756e97c72151bec
@[go_sem] def Q100_6:=k 0x65d035643dca0
def Q100_7:TC:=(.seq (.reg Q100_2) (.seq (.cond (.t 12) .skip (.exit 0)) (.seq (.block 1 (.seq (.reg Q100_3) (.seq (.reg Q100_4) (.cond (.t 19) (.seq (.reg Q100_5) .ret) .skip)))) (.reg Q100_6))))
@[go_sem] def Q100_8:=k 0x3f41048899422997e961caaaeb9d6211820ac
def t_Q100:TF:=⟨32,[.t 6],(.seq (.reg Q100_0) (.seq (.seq (.reg Q100_1) (.block 0 (.loop Q100_7))) (.seq (.reg Q100_8) .ret)))⟩
/-! horarium/fold.leaf -/
@[go_sem] def Q101_0:=k 0x7c3e55c8
@[go_sem] def Q101_1:=k 0x10346e4f91c8d9d4
@[go_sem] def Q101_2:=k 0x493f021bff2133844a1a34
@[go_sem] def Q101_3:=k 0x4e9765c6b3b1b668030166e6354ca5a94
def t_Q101:TF:=⟨14,[.cell 2 3 true],(.seq (.reg Q101_0) (.seq (.seq (.reg Q101_1) (.cond (.t 5) (.seq (.reg Q101_2) .ret) .skip)) (.seq (.reg Q101_3) .ret)))⟩
/-! horarium/fold.again -/
@[go_sem] def Q102_0:=k 0x19638
@[go_sem] def Q102_1:=k 0x9da58
@[go_sem] def Q102_2:=kd 0x63ca5dfcd7d6954772c3a872ab5309b053d59cf99d9d47004546cf2c5e87d488ad3c3baab5e239bc101053a775111534450c57889e201cf2065b814d00d09a0f49687b4bc03701f9666eac16034dc48ecbdd8a44d
@[go_sem] def Q102_3:=k 0x2859a058443fc9a124d
def Q102_4:TC:=(.seq (.seq (.dreg Q102_2) (.cond (.t 38) .skip (.exit 0))) (.block 1 (.reg Q102_3)))
@[go_sem] def Q102_5:=k 0x294279b90928d
def t_Q102:TF:=⟨42,[.t 6],(.seq (.reg Q102_0) (.seq (.reg Q102_1) (.seq (.block 0 (.loop Q102_4)) (.seq (.reg Q102_5) .ret))))⟩
/-! slices.IndexFunc[[][]horarium/api.Node,[]horarium/api.Node] -/
@[go_sem] def Q103_0:=k 0x115f8
@[go_sem] def Q103_1:=k 0xc6c6a1d162c
@[go_sem] def Q103_2:=k 0x83e72a4
@[go_sem] def Q103_3:=k 0x1469b30436ac
@[go_sem] def Q103_4:=k 0x2e6b45c679db8d3d4a0cba188c5acc
@[go_sem] def Q103_5:=k 0x2267a669eb8c
@[go_sem] def Q103_6:=k 0x4953ce1c09bc0
def Q103_7:TC:=(.seq (.reg Q103_2) (.seq (.cond (.t 9) .skip (.exit 0)) (.seq (.block 1 (.seq (.reg Q103_3) (.seq (.reg Q103_4) (.cond (.t 16) (.seq (.reg Q103_5) .ret) .skip)))) (.reg Q103_6))))
@[go_sem] def Q103_8:=k 0x11678
def t_Q103:TF:=⟨19,[.t 4],(.seq (.reg Q103_0) (.seq (.seq (.reg Q103_1) (.block 0 (.loop Q103_7))) (.seq (.reg Q103_8) .ret)))⟩
/-! horarium/fold.same$1 -/
@[go_sem] def Q104_0:=k 0xd5ec
@[go_sem] def Q104_1:=k 0x626eabe0a5226b60a99f0
def t_Q104:TF:=⟨7,[.t 3],(.seq (.reg Q104_0) (.seq (.reg Q104_1) .ret))⟩
/-! slices.Equal[[]horarium/api.Node,horarium/api.Node] -/
@[go_sem] def Q105_0:=k 0x1160c
@[go_sem] def Q105_1:=k 0x75a5c087e8630521ec9d162c
@[go_sem] def Q105_2:=k 0x1160c
@[go_sem] def Q105_3:=k 0xcbcba3256cc
@[go_sem] def Q105_4:=k 0xd6a4744
@[go_sem] def Q105_5:=k 0x1e73b5ad8b4c
@[go_sem] def Q105_6:=kd 0x6b3e9844182c4348b4ff29bf5d0f193f1dc7793b304a4c
@[go_sem] def Q105_7:=k 0x1160c
@[go_sem] def Q105_8:=k 0x661075944dca0
def Q105_9:TC:=(.seq (.reg Q105_4) (.seq (.cond (.t 14) .skip (.exit 0)) (.seq (.block 1 (.seq (.reg Q105_5) (.seq (.dreg Q105_6) (.cond (.t 24) (.seq (.reg Q105_7) .ret) .skip)))) (.reg Q105_8))))
@[go_sem] def Q105_10:=k 0x11674
def t_Q105:TF:=⟨26,[.t 4],(.seq (.reg Q105_0) (.seq (.seq (.reg Q105_1) (.cond (.t 10) (.seq (.reg Q105_2) .ret) .skip)) (.seq (.seq (.reg Q105_3) (.block 0 (.loop Q105_9))) (.seq (.reg Q105_10) .ret))))⟩
/-! slices.Grow[[]horarium/api.Node,horarium/api.Node] -/
@[go_sem] def Q106_0:=k 0x11614
@[go_sem] def Q106_1:=k 0xa0a1793da0c
@[go_sem] def Q106_2:=k 0x58b61d18
@[go_sem] def Q106_3:=k 0x1c867353cdb2c0570b211e2be3502e1dd80b9a6c
@[go_sem] def Q106_4:=k 0x1e1e2198db4c
@[go_sem] def Q106_5:=k 0x1980d4b9dcc4092962a6af31b5386325c27ae7649bfc05d78c
@[go_sem] def Q106_6:=k 0x3479aac418ac
def t_Q106:TF:=⟨27,[.t 4],(.seq (.reg Q106_0) (.seq (.seq (.reg Q106_1) (.cond (.t 6) (.reg Q106_2) .skip)) (.seq (.seq (.reg Q106_3) (.seq (.reg Q106_4) (.cond (.t 16) (.reg Q106_5) .skip))) (.seq (.reg Q106_6) .ret))))⟩
/-! slices.Grow[[][]horarium/api.Node,[]horarium/api.Node] -/
@[go_sem] def Q107_0:=k 0x11614
@[go_sem] def Q107_1:=k 0xa0a1793da0c
@[go_sem] def Q107_2:=k 0x58b61d18
@[go_sem] def Q107_3:=k 0x1c867353cdb2c0570b211e2be3502e1dd80b9a6c
@[go_sem] def Q107_4:=k 0x1e1e2198db4c
@[go_sem] def Q107_5:=k 0x1980d4b9dc0d34387391f3e2ebfcb42841b0da566efc05d78c
@[go_sem] def Q107_6:=k 0x3479aac418ac
def t_Q107:TF:=⟨27,[.t 4],(.seq (.reg Q107_0) (.seq (.seq (.reg Q107_1) (.cond (.t 6) (.reg Q107_2) .skip)) (.seq (.seq (.reg Q107_3) (.seq (.reg Q107_4) (.cond (.t 16) (.reg Q107_5) .skip))) (.seq (.reg Q107_6) .ret))))⟩
/-! horarium/node.measure -/
@[go_sem] def Q108_0:=k 0x60395b8
@[go_sem] def Q108_1:=k 0x2ccda2bf960e9fa4
@[go_sem] def Q108_2:=k 0xcccca3696ec
@[go_sem] def Q108_3:=k 0xe730b64
@[go_sem] def Q108_4:=k 0x69a8e8fb11d91d53a4fd4
@[go_sem] def Q108_5:=kd 0x74e6f9bd38c4fd2ad431dfd2961a8f221bd7dbb50bffcc
@[go_sem] def Q108_6:=k 0x1b714ad09cdb18a80de88c
@[go_sem] def Q108_7:=k 0x20607c38d579b893940afd650614bd38ed
@[go_sem] def Q108_8:=k 0xa4f8e72d04d85da9e7d588380c596edffea2a0beb9ad
@[go_sem] def Q108_9:=k 0xb7daeb9515f0a1b904e40b0f8062cdbcb491e913510fea17346f2f86055c3fae6e87a8d
@[go_sem] def Q108_10:=kd 0x4e6937aaefa70b011db92f545ebaa16cdc2ac80cda435c5c8fc25632275dab8ddbc75cd03c3f939422ce
@[go_sem] def Q108_11:=k 0x8bb19152fa66445dabe29e0e244711a89d8e
@[go_sem] def Q108_12:=k 0x244c3f125a531150330d5121e36
@[go_sem] def Q108_13:=k 0x51e40cc9577fd45219c85d3a47e25040da83a58855155131eb6
@[go_sem] def Q108_14:=k 0x16431b939c09d5fa332d3692988ec817fd8cc1a4e60cef8e
@[go_sem] def Q108_15:=kd 0xb46d4bb4fc82322f4ff2f50fb353b381242ccb8d23869fd0159da97781f679e85d209fb04e
@[go_sem] def Q108_16:=kd 0x319cf07de6ed59019807845c26b4031fbe6d77238b7848eb8ec7c050eb0f244e068e
def Q108_17:TC:=(.seq (.seq (.reg Q108_9) (.cond (.t 53) .skip (.exit 2))) (.block 3 (.seq (.dreg Q108_10) (.seq (.reg Q108_11) (.seq (.seq (.reg Q108_12) (.cond (.t 73) (.reg Q108_13) .skip)) (.seq (.reg Q108_14) (.seq (.dreg Q108_15) (.dreg Q108_16))))))))
@[go_sem] def Q108_18:=k 0x1b6278c00cab7322
def Q108_19:TC:=(.seq (.reg Q108_3) (.seq (.cond (.t 15) .skip (.exit 0)) (.seq (.block 1 (.seq (.reg Q108_4) (.seq (.dreg Q108_5) (.seq (.seq (.reg Q108_6) (.seq (.reg Q108_7) (.cond (.t 33) (.reg Q108_8) .skip))) (.block 2 (.loop Q108_17)))))) (.reg Q108_18))))
@[go_sem] def Q108_20:=kd 0x4fb1610b0716b47ca47beab5adfacb2ad7b98d577a1aec06dabced4217cce
def t_Q108:TF:=⟨118,[.t 2,.t 3],(.seq (.reg Q108_0) (.seq (.reg Q108_1) (.seq (.seq (.reg Q108_2) (.block 0 (.loop Q108_19))) (.seq (.dreg Q108_20) .ret))))⟩
/-! horarium/node.Size -/
@[go_sem] def Q109_0:=k 0x115f8
@[go_sem] def Q109_1:=k 0x2a684280aefdaf7ac4b0f40627b101dc4c9149a6c
@[go_sem] def Q109_2:=k 0x115f8
@[go_sem] def Q109_3:=k 0x95a18
@[go_sem] def Q109_4:=k 0x2085c5d19b6c
@[go_sem] def Q109_5:=k 0x8dda79dff38eceb5ef8c
@[go_sem] def Q109_6:=k 0x6e330bdf39dbfadcc01f26519f584c
@[go_sem] def Q109_7:=k 0x38382349b4ec
@[go_sem] def Q109_8:=k 0x115f8
@[go_sem] def Q109_9:=k 0x85a179a68d56d01130d0a50cdc12d
@[go_sem] def Q109_10:=k 0x22220c476c1ad
@[go_sem] def Q109_11:=k 0x9dcd8db919d7dd9393c8bf08949ed
@[go_sem] def Q109_12:=k 0xb2a0494b2d2bd700c
def Q109_13:TC:=(.seq (.seq (.reg Q109_5) (.cond (.t 20) .skip (.exit 0))) (.seq (.block 1 (.seq (.reg Q109_6) (.seq (.seq (.reg Q109_7) (.cond (.t 29) (.seq (.reg Q109_8) .ret) .skip)) (.seq (.reg Q109_9) (.seq (.reg Q109_10) (.cond (.t 35) (.seq (.reg Q109_11) .ret) .skip)))))) (.reg Q109_12)))
@[go_sem] def Q109_14:=k 0x115f8
def t_Q109:TF:=⟨40,[.t 4],(.seq (.reg Q109_0) (.seq (.seq (.reg Q109_1) (.cond (.t 15) (.seq (.reg Q109_2) .ret) .skip)) (.seq (.reg Q109_3) (.seq (.seq (.reg Q109_4) (.block 0 (.loop Q109_13))) (.seq (.reg Q109_14) .ret)))))⟩
/-! horarium/horariumref3.Size -/
@[go_sem] def Q110_0:=k 0x115f8
@[go_sem] def Q110_1:=k 0x2637a57302d34c976f36c9ae26308c34248945a4c
@[go_sem] def Q110_2:=k 0x115f8
@[go_sem] def Q110_3:=k 0x95a18
@[go_sem] def Q110_4:=k 0x1e83c5515b4c
@[go_sem] def Q110_5:=k 0x8589ed5ba2f2cab5af6c
@[go_sem] def Q110_6:=k 0x349fa3bc77f10f3ce4b8dcd9f182c
@[go_sem] def Q110_7:=k 0x115f8
@[go_sem] def Q110_8:=k 0xeab414030673facec
@[go_sem] def Q110_9:=k 0x2272a7ecfa699ddf473eb41585e06d992d
@[go_sem] def Q110_10:=k 0xaafb4d3c5acf84e75fadf7f56ba93cb0ff18d85f41ed
@[go_sem] def Q110_11:=k 0x2f9de4e9b1406c317e7f2adfaf8070dacd
@[go_sem] def Q110_12:=k 0x32609bdd8d4247c838d
@[go_sem] def Q110_13:=k 0x33331087b03cd
@[go_sem] def Q110_14:=k 0xe27838546abc426fa2d5fc8838c0d
@[go_sem] def Q110_15:=k 0xaa94432a0d23d2fec
def Q110_16:TC:=(.seq (.seq (.reg Q110_5) (.cond (.t 19) .skip (.exit 0))) (.seq (.block 1 (.seq (.seq (.reg Q110_6) (.cond (.t 27) (.seq (.reg Q110_7) .ret) .skip)) (.seq (.reg Q110_8) (.seq (.seq (.reg Q110_9) (.cond (.t 35) (.reg Q110_10) .skip)) (.seq (.seq (.reg Q110_11) (.cond (.t 48) (.reg Q110_12) .skip)) (.seq (.reg Q110_13) (.cond (.t 52) (.seq (.reg Q110_14) .ret) .skip))))))) (.reg Q110_15)))
@[go_sem] def Q110_17:=k 0x115f8
def t_Q110:TF:=⟨57,[.t 4],(.seq (.reg Q110_0) (.seq (.seq (.reg Q110_1) (.cond (.t 14) (.seq (.reg Q110_2) .ret) .skip)) (.seq (.reg Q110_3) (.seq (.seq (.reg Q110_4) (.block 0 (.loop Q110_16))) (.seq (.reg Q110_17) .ret)))))⟩
/-! horarium/horariumref3.depth -/
@[go_sem] def Q111_0:=k 0x115f8
@[go_sem] def Q111_1:=k 0x15618
@[go_sem] def Q111_2:=k 0x65cad21bdc3507407966c
@[go_sem] def Q111_3:=k 0xc618324
@[go_sem] def Q111_4:=k 0x7a8c7e925c1a8c760
@[go_sem] def Q111_5:=k 0xa33bc21f98fb29782a9181a20adab6c
@[go_sem] def Q111_6:=k 0x55e0517c35c20
def Q111_7:TC:=(.seq (.reg Q111_3) (.seq (.cond (.t 13) .skip (.exit 0)) (.seq (.block 1 (.seq (.reg Q111_4) (.reg Q111_5))) (.reg Q111_6))))
@[go_sem] def Q111_8:=k 0xba2b8f0c3d335ac2c
def t_Q111:TF:=⟨24,[.t 4],(.seq (.reg Q111_0) (.seq (.reg Q111_1) (.seq (.seq (.reg Q111_2) (.block 0 (.loop Q111_7))) (.seq (.reg Q111_8) .ret))))⟩
/-! horarium/horariumref3.length -/
@[go_sem] def Q112_0:=k 0x115f8
@[go_sem] def Q112_1:=k 0x15618
@[go_sem] def Q112_2:=k 0x65cad21bdc3507407966c
@[go_sem] def Q112_3:=k 0xc618324
@[go_sem] def Q112_4:=k 0x7a8c7e925c1a8c760
@[go_sem] def Q112_5:=k 0x15753152542a257d098b49ac3b1aa0adab6c
@[go_sem] def Q112_6:=k 0x59e4527c39c40
def Q112_7:TC:=(.seq (.reg Q112_3) (.seq (.cond (.t 13) .skip (.exit 0)) (.seq (.block 1 (.seq (.reg Q112_4) (.reg Q112_5))) (.reg Q112_6))))
@[go_sem] def Q112_8:=k 0x3483040b64915cee66018b584c
@[go_sem] def Q112_9:=k 0x78025aedce53c
@[go_sem] def Q112_10:=k 0x3c81aced2d2c
@[go_sem] def Q112_11:=k 0x82776e95fe399d
@[go_sem] def Q112_12:=k 0xa781f56506569a2bbd658992be4d728929a58e3c34a98385e818d
@[go_sem] def Q112_13:=k 0xbedc2b68960394e12cb70ef5511da620209aad
def t_Q112:TF:=⟨48,[.t 4],(.seq (.reg Q112_0) (.seq (.reg Q112_1) (.seq (.seq (.reg Q112_2) (.block 0 (.loop Q112_7))) (.seq (.seq (.reg Q112_8) (.block 2 (.seq (.reg Q112_9) (.cond (.t 28) (.seq (.reg Q112_10) .ret) (.seq (.reg Q112_11) (.cond (.t 31) (.seq (.reg Q112_12) .ret) .skip)))))) (.seq (.reg Q112_13) .ret)))))⟩
/-! horarium/horariumref3.Kids -/
@[go_sem] def Q113_0:=k 0x11614
@[go_sem] def Q113_1:=k 0xa3f10e8aa58929487966c
@[go_sem] def Q113_2:=k 0x19654
@[go_sem] def Q113_3:=k 0x62686c2ff4d92dacc
@[go_sem] def Q113_4:=k 0x1b43cd287e744ba9d428c0f30c
@[go_sem] def Q113_5:=k 0x34e8d9af51cf2d6d3ef8d3704c
@[go_sem] def Q113_6:=k 0xb3ed806b8b36d9eb73fd1dba0be33ac
def Q113_7:TC:=(.seq (.seq (.reg Q113_4) (.cond (.t 17) .skip (.exit 0))) (.seq (.block 1 (.reg Q113_5)) (.reg Q113_6)))
@[go_sem] def Q113_8:=k 0x367bab7470cc
def t_Q113:TF:=⟨28,[.t 4],(.seq (.reg Q113_0) (.seq (.reg Q113_1) (.seq (.reg Q113_2) (.seq (.seq (.reg Q113_3) (.block 0 (.loop Q113_7))) (.seq (.reg Q113_8) .ret)))))⟩
/-! horarium/horariumref7.May -/
@[go_sem] def Q114_0:=k 0xb16de48
@[go_sem] def Q114_1:=kd 0x9d21f044c3ade952db8729e6afeb253087641dee7998ee0e4765801cd77fc3a2c87e1a20ae3a9b4d18101600eeb0dda8a563fe126e50b52e984f2db0629908a704bd23064ad9d892b7d92f91d8cb4a088de015535e8a8ac47d
@[go_sem] def Q114_2:=k 0x1964c
@[go_sem] def Q114_3:=k 0x2fc33519554412587c61e95d2caf049d54649aad
@[go_sem] def Q114_4:=k 0x1bce483ea9702c5813441c6883eb50f012162cd54661b6d
@[go_sem] def Q114_5:=k 0xe3f014a5
@[go_sem] def Q114_6:=k 0x280a79fe8c0857cd17c5ce5
@[go_sem] def Q114_7:=k 0x432e3b197f21b900a13bb7d12b0c384acad16294a017119b9490434b11c46ee1822888dd67d4083c61f04881a4ddc00b98eb98cb08f9f821d7912facf6
@[go_sem] def Q114_8:=k 0x1964c
@[go_sem] def Q114_9:=k 0x14304bf7edf42f82
def Q114_10:TC:=(.seq (.reg Q114_5) (.seq (.cond (.t 57) .skip (.exit 0)) (.seq (.block 1 (.seq (.reg Q114_6) (.seq (.reg Q114_7) (.cond (.t 79) (.seq (.reg Q114_8) .ret) .skip)))) (.reg Q114_9))))
@[go_sem] def Q114_11:=k 0x196b4
def t_Q114:TF:=⟨81,[.t 6],(.seq (.reg Q114_0) (.seq (.seq (.dreg Q114_1) (.cond (.t 41) (.seq (.reg Q114_2) .ret) .skip)) (.seq (.reg Q114_3) (.seq (.seq (.reg Q114_4) (.block 0 (.loop Q114_10))) (.seq (.reg Q114_11) .ret)))))⟩
/-! horarium/runs.Same -/
@[go_sem] def Q115_0:=k 0x1160c
@[go_sem] def Q115_1:=k 0x730fc4eb380bb0506d60c
def t_Q115:TF:=⟨8,[.t 4],(.seq (.reg Q115_0) (.seq (.reg Q115_1) .ret))⟩
/-! horarium/reduce.pass$1 -/
@[go_sem] def Q116_0:=k 0x166bbd475608
@[go_sem] def Q116_1:=k 0x1861154c5f4cd43d4986008f19f920ba25175e50
def t_Q116:TF:=⟨13,[.t 5,.t 6],(.seq (.reg Q116_0) (.seq (.reg Q116_1) .ret))⟩
/-! horarium/horariumref6.items -/
@[go_sem] def Q117_0:=k 0x95d4
@[go_sem] def Q117_1:=k 0xd5f4
@[go_sem] def Q117_2:=k 0xc6c6a1d162c
@[go_sem] def Q117_3:=k 0x83e72a4
@[go_sem] def Q117_4:=k 0x568273ab7c3d16cf5b6e4
@[go_sem] def Q117_5:=k 0x8ab71e70b68daaaf2701afb86e443ca2ec
@[go_sem] def Q117_6:=k 0x4953ce1c09bc0
def Q117_7:TC:=(.seq (.reg Q117_3) (.seq (.cond (.t 9) .skip (.exit 0)) (.seq (.block 1 (.seq (.reg Q117_4) (.reg Q117_5))) (.reg Q117_6))))
@[go_sem] def Q117_8:=k 0x264b875263cc
def t_Q117:TF:=⟨20,[.t 2],(.seq (.reg Q117_0) (.seq (.reg Q117_1) (.seq (.seq (.reg Q117_2) (.block 0 (.loop Q117_7))) (.seq (.reg Q117_8) .ret))))⟩
/-! horarium/horariumref6.best -/
@[go_sem] def Q118_0:=k 0xc0c090395b8
@[go_sem] def Q118_1:=k 0x18241e0f09045618
@[go_sem] def Q118_2:=k 0xcecea3f172c
@[go_sem] def Q118_3:=k 0x108493a4
@[go_sem] def Q118_4:=k 0x24b9f75657ac
@[go_sem] def Q118_5:=k 0x296b8
@[go_sem] def Q118_6:=k 0xadad8
@[go_sem] def Q118_7:=k 0x17103912cb229a2857d74d734d1a357a7bcc
@[go_sem] def Q118_8:=k 0x97deee1576865dd17f1e4a27747bca1cabb169071da3d1509c938ad68ed
@[go_sem] def Q118_9:=k 0xa662e307de90346d94f0bb89f9a2d
@[go_sem] def Q118_10:=k 0xbb029001739dfe069c86ae63eab9170eaad
@[go_sem] def Q118_11:=k 0x2f3316500334d
@[go_sem] def Q118_12:=k 0x3280cbf5914691ec38d
@[go_sem] def Q118_13:=k 0x369dae8335d652ef763b7343e9d2231475113bcd
@[go_sem] def Q118_14:=k 0x3df5ec89e6fe539a99d10d4fc164ff4c5954e4ad
@[go_sem] def Q118_15:=k 0xdc1e48e0f5566c4ac
def Q118_16:TC:=(.seq (.seq (.reg Q118_7) (.cond (.t 25) .skip (.exit 2))) (.seq (.block 3 (.seq (.reg Q118_8) (.seq (.reg Q118_9) (.seq (.reg Q118_10) (.seq (.seq (.reg Q118_11) (.cond (.t 48) (.reg Q118_12) .skip)) (.seq (.reg Q118_13) (.cond (.t 57) (.reg Q118_14) .skip))))))) (.reg Q118_15)))
@[go_sem] def Q118_17:=k 0xf9fe9c2dbfa541
def Q118_18:TC:=(.seq (.reg Q118_3) (.seq (.cond (.t 17) .skip (.exit 0)) (.seq (.block 1 (.seq (.reg Q118_4) (.seq (.reg Q118_5) (.seq (.reg Q118_6) (.block 2 (.loop Q118_16)))))) (.reg Q118_17))))
@[go_sem] def Q118_19:=k 0x20e21677a8262bea71e27670d92482d4e
def t_Q118:TF:=⟨66,[.t 2,.t 3,.t 4],(.seq (.reg Q118_0) (.seq (.reg Q118_1) (.seq (.seq (.reg Q118_2) (.block 0 (.loop Q118_18))) (.seq (.reg Q118_19) .ret))))⟩
/-! horarium/horariumref6.seq -/
@[go_sem] def Q119_0:=k 0x95d4
@[go_sem] def Q119_1:=k 0x1c4a6399f29d162c
@[go_sem] def Q119_2:=k 0x34e855ec1f9a89d3e81c72792e6368
@[go_sem] def Q119_3:=k 0x228b33e1ebd1af46dabf3f172c
@[go_sem] def Q119_4:=k 0xd2d2a5017ac
@[go_sem] def Q119_5:=k 0x14a7a424
@[go_sem] def Q119_6:=k 0xba6bef3b4cdeee860
@[go_sem] def Q119_7:=k 0x1a4f091b057e50d233a46c
@[go_sem] def Q119_8:=k 0x6ef9583c8dce0
def Q119_9:TC:=(.seq (.reg Q119_5) (.seq (.cond (.t 21) .skip (.exit 0)) (.seq (.block 1 (.seq (.reg Q119_6) (.reg Q119_7))) (.reg Q119_8))))
@[go_sem] def Q119_10:=k 0x385d8bd4a4ec
def t_Q119:TF:=⟨29,[.t 2],(.seq (.reg Q119_0) (.seq (.seq (.reg Q119_1) (.cond (.t 8) (.seq (.reg Q119_2) .ret) .skip)) (.seq (.reg Q119_3) (.seq (.seq (.reg Q119_4) (.block 0 (.loop Q119_9))) (.seq (.reg Q119_10) .ret)))))⟩
/-! horarium/move.places -/
@[go_sem] def Q120_0:=k 0xb0e5a08
@[go_sem] def Q120_1:=k 0x15e41561ea3bbe06b073d02c3e348cf4eeccf1229220a974c8b1497f9a6a3ad054f0951f7f033c1e6548eca2d96214
def t_Q120:TF:=⟨22,[.t 4],(.seq (.reg Q120_0) (.seq (.reg Q120_1) .ret))⟩
/-! slices.ContainsFunc[[]horarium/api.Run,horarium/api.Run] -/
@[go_sem] def Q121_0:=k 0x1160c
@[go_sem] def Q121_1:=k 0x20dc5d55a23fce4fc5b5106d60c
def t_Q121:TF:=⟨9,[.t 4],(.seq (.reg Q121_0) (.seq (.reg Q121_1) .ret))⟩
/-! horarium/move.May$1 -/
@[go_sem] def Q122_0:=k 0xb065608
@[go_sem] def Q122_1:=k 0x64946d398ab70806304c65a42e7bfa497151ac2d90b4ff4a21ad00bdc8f030dcaa984ba6d5f2278a3ab75450891666b475d39b42d96214
def t_Q122:TF:=⟨25,[.t 4],(.seq (.reg Q122_0) (.seq (.reg Q122_1) .ret))⟩
/-! horarium/word.Depends -/
@[go_sem] def Q123_0:=k 0x1964c
@[go_sem] def Q123_1:=k 0x15dec39532ba1c5edb10dcabe7949c594aa2cba1eccca8c86cd45b11379c8da0832b892ecd5d3935a4c
def t_Q123:TF:=⟨22,[.t 6],(.seq (.reg Q123_0) (.seq (.reg Q123_1) .ret))⟩
/-! slices.Equal[[]horarium/api.Run,horarium/api.Run] -/
@[go_sem] def Q124_0:=k 0x1160c
@[go_sem] def Q124_1:=k 0x75a5c087e8630521ec9d162c
@[go_sem] def Q124_2:=k 0x1160c
@[go_sem] def Q124_3:=k 0xcbcba3256cc
@[go_sem] def Q124_4:=k 0xd6a4744
@[go_sem] def Q124_5:=k 0x1e73b5ad8b4c
@[go_sem] def Q124_6:=kd 0x6b3eb0b105798cf2cad7dacc7f262cce02980137304a4c
@[go_sem] def Q124_7:=k 0x1160c
@[go_sem] def Q124_8:=k 0x661075944dca0
def Q124_9:TC:=(.seq (.reg Q124_4) (.seq (.cond (.t 14) .skip (.exit 0)) (.seq (.block 1 (.seq (.reg Q124_5) (.seq (.dreg Q124_6) (.cond (.t 24) (.seq (.reg Q124_7) .ret) .skip)))) (.reg Q124_8))))
@[go_sem] def Q124_10:=k 0x11674
def t_Q124:TF:=⟨26,[.t 4],(.seq (.reg Q124_0) (.seq (.seq (.reg Q124_1) (.cond (.t 10) (.seq (.reg Q124_2) .ret) .skip)) (.seq (.seq (.reg Q124_3) (.block 0 (.loop Q124_9))) (.seq (.reg Q124_10) .ret))))⟩
/-! horarium/word.Project -/
@[go_sem] def Q125_0:=k 0x19654
@[go_sem] def Q125_1:=k 0x1d674
@[go_sem] def Q125_2:=k 0xcacaa2e16ac
@[go_sem] def Q125_3:=k 0xc618324
@[go_sem] def Q125_4:=k 0x9906d7ce019db7318c764
@[go_sem] def Q125_5:=k 0x54a2c8925349dc6b751cbcd8ce18157dcba830d25ef1388c3b74
@[go_sem] def Q125_6:=k 0x3b0810f7d955e4a5fcaf7034ac
@[go_sem] def Q125_7:=k 0x7a045a7c59d40
def Q125_8:TC:=(.seq (.reg Q125_3) (.seq (.cond (.t 13) .skip (.exit 0)) (.seq (.block 1 (.seq (.reg Q125_4) (.seq (.reg Q125_5) (.cond (.t 25) (.reg Q125_6) .skip)))) (.reg Q125_7))))
@[go_sem] def Q125_9:=k 0x81265130f5f20114d
def t_Q125:TF:=⟨33,[.t 6],(.seq (.reg Q125_0) (.seq (.reg Q125_1) (.seq (.seq (.reg Q125_2) (.block 0 (.loop Q125_8))) (.seq (.reg Q125_9) .ret))))⟩
/-! horarium/runs.Ticks -/
@[go_sem] def Q126_0:=k 0x115f8
@[go_sem] def Q126_1:=k 0x15618
@[go_sem] def Q126_2:=k 0xc8c8a25966c
@[go_sem] def Q126_3:=k 0xa4ffae4
@[go_sem] def Q126_4:=k 0x77c4a5bcbeed670073f24
@[go_sem] def Q126_5:=k 0xf9f27e49439ed377bb334
@[go_sem] def Q126_6:=k 0x557f30a251106280b6c35cb2bac
@[go_sem] def Q126_7:=k 0x59a4124c29c40
def Q126_8:TC:=(.seq (.reg Q126_3) (.seq (.cond (.t 11) .skip (.exit 0)) (.seq (.block 1 (.seq (.reg Q126_4) (.seq (.reg Q126_5) (.cond (.t 17) (.reg Q126_6) .skip)))) (.reg Q126_7))))
@[go_sem] def Q126_9:=k 0x2e73a96b6c4c
def t_Q126:TF:=⟨24,[.t 4],(.seq (.reg Q126_0) (.seq (.reg Q126_1) (.seq (.seq (.reg Q126_2) (.block 0 (.loop Q126_8))) (.seq (.reg Q126_9) .ret))))⟩
/-! horarium/horariumref12.Name -/
@[go_sem] def Q127_0:=k 0x95cc
@[go_sem] def Q127_1:=k 0xd5d8
@[go_sem] def Q127_2:=k 0x2a13e3ad192ad99ae20c
@[go_sem] def Q127_3:=k 0xd822a496b7b6ea9a5b92b6d7938826f57dbaec50d3c0f87ee451629b59fb545b6e44c3cd324a0c1056cc
@[go_sem] def Q127_4:=k 0x9c12fb45c7ef0d0cc9ff0cb713d1c53cd58f49bab3b52cff7f5cc74447e2d255546291dbd43b4d3b0aa064bbbd943cd8cd
@[go_sem] def Q127_5:=k 0x95cc
@[go_sem] def Q127_6:=k 0x514edf2d94ca2628c
def Q127_7:TC:=(.seq (.seq (.reg Q127_2) (.cond (.t 8) .skip (.exit 0))) (.seq (.block 1 (.seq (.reg Q127_3) (.seq (.reg Q127_4) (.cond (.t 44) (.seq (.reg Q127_5) .ret) .skip)))) (.reg Q127_6)))
@[go_sem] def Q127_8:=k 0xd3d55b079eeb9f49abacde6cffa61fe42f9957459ddfd55b0d
def t_Q127:TF:=⟨53,[.t 2],(.seq (.reg Q127_0) (.seq (.seq (.reg Q127_1) (.block 0 (.loop Q127_7))) (.seq (.reg Q127_8) .ret)))⟩
/-! horarium/horariumref12.partRight -/
@[go_sem] def Q128_0:=k 0xb05d5c8
@[go_sem] def Q128_1:=k 0x2ec7842f18cb42cf9f356d20e9c27ce8daefa32459a2f8cc5a54
@[go_sem] def Q128_2:=k 0x95cc
@[go_sem] def Q128_3:=k 0x34cf05a4bfdcedb94
@[go_sem] def Q128_4:=k 0x14a7a424
@[go_sem] def Q128_5:=k 0x4c6e64661cee8ff5ee864
@[go_sem] def Q128_6:=k 0x9be1482391079f5ff855890dcaaf5629440e79e1626cb2b6e1a8474419b88ddb17466f0eca7216bd617ca9beb879962463875
@[go_sem] def Q128_7:=k 0x95cc
@[go_sem] def Q128_8:=k 0xa9eec84dc2a2c1
def Q128_9:TC:=(.seq (.reg Q128_4) (.seq (.cond (.t 21) .skip (.exit 0)) (.seq (.block 1 (.seq (.reg Q128_5) (.seq (.reg Q128_6) (.cond (.t 41) (.seq (.reg Q128_7) .ret) .skip)))) (.reg Q128_8))))
@[go_sem] def Q128_10:=k 0x1acc0b6e26e2d5
@[go_sem] def Q128_11:=k 0xb4b5c375
@[go_sem] def Q128_12:=k 0xbd21ed78b54895
@[go_sem] def Q128_13:=k 0xcda4cb1e26374a60e80cf1ffe8c14964b6d
@[go_sem] def Q128_14:=k 0x95cc
@[go_sem] def Q128_15:=k 0xdbb06515f7a441
def Q128_16:TC:=(.seq (.reg Q128_11) (.seq (.cond (.t 46) .skip (.exit 2)) (.seq (.block 3 (.seq (.reg Q128_12) (.seq (.reg Q128_13) (.cond (.t 53) (.seq (.reg Q128_14) .ret) .skip)))) (.reg Q128_15))))
@[go_sem] def Q128_17:=k 0xef85c43d3f0537435a8d0185dcb3d8fb7c59f83e21fe455
@[go_sem] def Q128_18:=k 0x9634
@[go_sem] def Q128_19:=k 0x2ab971ea0d052be06dff6b13c0ab0fe3d39a956f7cbf10b94ee196b5c07935da7cde4c93db68925aed84385a943cc9995701ce6cf4b7e54701b22480037ed56
def t_Q128:TF:=⟨83,[.t 2],(.seq (.reg Q128_0) (.seq (.seq (.reg Q128_1) (.cond (.t 16) (.seq (.reg Q128_2) .ret) .skip)) (.seq (.seq (.reg Q128_3) (.block 0 (.loop Q128_9))) (.seq (.seq (.reg Q128_10) (.block 2 (.loop Q128_16))) (.seq (.seq (.reg Q128_17) (.cond (.t 62) (.seq (.reg Q128_18) .ret) .skip)) (.seq (.reg Q128_19) .ret))))))⟩
/-! horarium/horariumref12.chanRight -/
@[go_sem] def Q129_0:=k 0x45a5c215e8
@[go_sem] def Q129_1:=k 0x28711da131513fcfaf1af8b064838e50724df63047571fca01241e20e12af7cc4d55bcf31dd8edfa372bd1913bd59067b82ce9dc1680e0d3ea0e1865b6470beadd742dd4b2dc566af1ce2b1a9aced26652c01fa503bb3273a4dd34cffc117acceaba306916216615
@[go_sem] def Q129_2:=k 0x1160c
@[go_sem] def Q129_3:=k 0x41f669c7c6e574a1e928b30e1360c5782a45bd6aacca081f007dee110352a84f42907b45bb87fb85829958ded76a147be6cfdfa3d176b04c3ce2532dbb5ffb22eaab5
def t_Q129:TF:=⟨64,[.t 4],(.seq (.reg Q129_0) (.seq (.seq (.reg Q129_1) (.cond (.t 41) (.seq (.reg Q129_2) .ret) .skip)) (.seq (.reg Q129_3) .ret)))⟩
/-! (*horarium/cursor.Cursor).down -/
@[go_sem] def Q130_0:=k 0xe3b79722ad00b24f94691b87ee732b99553da0af8d8e665919bdc30448228400aa21b345f03b3cd3517680b2e02699a95ec
@[go_sem] def Q130_1:=kd 0x234d6a3236eefeb67f6e15fb306d6883309336abd52ac0ab2fbdd432d53e39d9d47e0d310600a7ddbd7c9712a66cf027d9c80abb26028a04d
@[go_sem] def Q130_2:=k 0x2c477f4ac540c3ae2cd
def Q130_3:TC:=(.seq (.seq (.reg Q130_0) (.cond (.t 23) .skip (.exit 0))) (.block 1 (.seq (.dreg Q130_1) (.reg Q130_2))))
@[go_sem] def Q130_4:=k 0x3134fe75c4923b73ef1e38215b0d
def t_Q130:TF:=⟨49,[],(.seq (.block 0 (.loop Q130_3)) (.reg Q130_4))⟩
/-! slices.Equal[[]int,int] -/
@[go_sem] def Q131_0:=k 0x1160c
@[go_sem] def Q131_1:=k 0x75a5c087e8630521ec9d162c
@[go_sem] def Q131_2:=k 0x1160c
@[go_sem] def Q131_3:=k 0xcbcba3256cc
@[go_sem] def Q131_4:=k 0xd6a4744
@[go_sem] def Q131_5:=k 0x1e73b5ad8b4c
@[go_sem] def Q131_6:=kd 0x6b3d9bdf4b22fde5cc642c6e5e222356f83db48c304a4c
@[go_sem] def Q131_7:=k 0x1160c
@[go_sem] def Q131_8:=k 0x661075944dca0
def Q131_9:TC:=(.seq (.reg Q131_4) (.seq (.cond (.t 14) .skip (.exit 0)) (.seq (.block 1 (.seq (.reg Q131_5) (.seq (.dreg Q131_6) (.cond (.t 24) (.seq (.reg Q131_7) .ret) .skip)))) (.reg Q131_8))))
@[go_sem] def Q131_10:=k 0x11674
def t_Q131:TF:=⟨26,[.t 4],(.seq (.reg Q131_0) (.seq (.seq (.reg Q131_1) (.cond (.t 10) (.seq (.reg Q131_2) .ret) .skip)) (.seq (.seq (.reg Q131_3) (.block 0 (.loop Q131_9))) (.seq (.reg Q131_10) .ret))))⟩
/-! horarium/node.kids -/
@[go_sem] def Q132_0:=k 0x60355c8
@[go_sem] def Q132_1:=k 0x108cd83d32da2e0d2711c3f9c23c4afd88e4df109b7f031084c8945d795b1b523969a544a19f4
@[go_sem] def Q132_2:=k 0x9638
@[go_sem] def Q132_3:=k 0xfb199cab2797f8d4d1177b0b2c7af1a3d2ea65a5784714ba3193ef5b346399c5215f94c9bb4
@[go_sem] def Q132_4:=k 0x218812d9fd7704e137e17e155
@[go_sem] def Q132_5:=k 0x95b8
@[go_sem] def Q132_6:=k 0x2b4a40d38bde0a0b1ba8697856647e64dd6137a4c65b8e18e1d5
@[go_sem] def Q132_7:=k 0x2c4b854dc1fb61ee2d5
@[go_sem] def Q132_8:=k 0x31170a18d5055bd13ba1ba335
@[go_sem] def Q132_9:=k 0x899b8
@[go_sem] def Q132_10:=k 0x9638
def t_Q132:TF:=⟨49,[.t 2],(.seq (.reg Q132_0) (.seq (.block 0 (.seq (.reg Q132_1) (.cond (.t 3) (.seq (.reg Q132_2) .ret) (.seq (.seq (.reg Q132_3) (.cond (.t 17) .skip (.reg Q132_4))) (.cond (.t 17) (.seq (.reg Q132_5) .ret) (.seq (.reg Q132_6) (.cond (.t 34) (.seq (.reg Q132_7) .ret) (.seq (.reg Q132_8) (.cond (.t 45) (.seq (.reg Q132_9) .ret) .skip))))))))) (.seq (.reg Q132_10) .ret)))⟩
/-! horarium/node.times -/
@[go_sem] def Q133_0:=k 0x115f8
@[go_sem] def Q133_1:=k 0x24f8da9ec9baf0141aada0a6bdd60c
def t_Q133:TF:=⟨10,[.t 4],(.seq (.reg Q133_0) (.seq (.reg Q133_1) .ret))⟩
/-! horarium/node.add -/
@[go_sem] def Q134_0:=k 0x115f8
@[go_sem] def Q134_1:=k 0x24f8da9ec9b2dfa827f1e85386d60c
def t_Q134:TF:=⟨10,[.t 4],(.seq (.reg Q134_0) (.seq (.reg Q134_1) .ret))⟩
/-! horarium/horariumref3.fine -/
@[go_sem] def Q135_0:=k 0xb05d5c8
@[go_sem] def Q135_1:=k 0x60681c8d9d4
@[go_sem] def Q135_2:=k 0x18c361c3b9a5c
@[go_sem] def Q135_3:=k 0x9ccf2381b19fdb77696accd7a4390211087dd0ae09a4e2a534eb9d5a94332462d10a4ca5a54
@[go_sem] def Q135_4:=k 0x56e1513c7603c
@[go_sem] def Q135_5:=k 0x5ae5523d7a85c
@[go_sem] def Q135_6:=k 0x7a6c420ae0248aaedb8e3b1b5576f053c3148896f7cce5c54
@[go_sem] def Q135_7:=k 0x82776e39c0319d
@[go_sem] def Q135_8:=k 0xb92280eb98d387ad0de1babe86e5da75a41c2ef1b8e09aa7e95298d199e106f5566412238a1a6195
@[go_sem] def Q135_9:=k 0x95cc
def t_Q135:TF:=⟨46,[.t 2],(.seq (.reg Q135_0) (.seq (.seq (.reg Q135_1) (.block 0 (.seq (.reg Q135_2) (.cond (.t 5) (.seq (.reg Q135_3) .ret) (.seq (.seq (.reg Q135_4) (.cond (.t 20) .skip (.reg Q135_5))) (.cond (.t 20) (.seq (.reg Q135_6) .ret) (.seq (.reg Q135_7) (.cond (.t 31) (.seq (.reg Q135_8) .ret) .skip)))))))) (.seq (.reg Q135_9) .ret)))⟩
/-! horarium/horariumref6.leaf -/
@[go_sem] def Q136_0:=k 0x7c3e55c8
@[go_sem] def Q136_1:=k 0x10346e4f91c8d9d4
@[go_sem] def Q136_2:=k 0x493f021bff2133844a1a34
@[go_sem] def Q136_3:=k 0x4e9765c6b3b1b668030166e6354ca5a94
def t_Q136:TF:=⟨14,[.cell 2 3 true],(.seq (.reg Q136_0) (.seq (.seq (.reg Q136_1) (.cond (.t 5) (.seq (.reg Q136_2) .ret) .skip)) (.seq (.reg Q136_3) .ret)))⟩
/-! horarium/horariumref6.times -/
@[go_sem] def Q137_0:=k 0x19638
@[go_sem] def Q137_1:=k 0x9da58
@[go_sem] def Q137_2:=k 0x760f22c451c840f1ebd47221e08fded5e3fcd7b27da8c
@[go_sem] def Q137_3:=k 0x21678
@[go_sem] def Q137_4:=k 0x4acfda0373ce37ac
@[go_sem] def Q137_5:=kd 0x35f8b7c7758968f962de728b74bb014d07a969cf5aaf2037e64a37ddae9e3e3466c23f4d4f81a7e4f8296aabb532f58d
@[go_sem] def Q137_6:=k 0x294279b90928d
@[go_sem] def Q137_7:=k 0xb32109ab3d2cd780c
def Q137_8:TC:=(.seq (.seq (.reg Q137_4) (.cond (.t 20) .skip (.exit 2))) (.seq (.block 3 (.seq (.dreg Q137_5) (.cond (.t 40) (.seq (.reg Q137_6) .ret) .skip))) (.reg Q137_7)))
@[go_sem] def Q137_9:=k 0x2b5e229ba74089ad2ad
def Q137_10:TC:=(.seq (.seq (.reg Q137_2) (.cond (.t 17) .skip (.exit 0))) (.block 1 (.seq (.seq (.reg Q137_3) (.block 2 (.loop Q137_8))) (.reg Q137_9))))
@[go_sem] def Q137_11:=k 0x2c457a79152ed
def t_Q137:TF:=⟨45,[.t 6],(.seq (.reg Q137_0) (.seq (.reg Q137_1) (.seq (.block 0 (.loop Q137_10)) (.seq (.reg Q137_11) .ret))))⟩
/-! slices.IndexFunc[[]horarium/api.Run,horarium/api.Run] -/
@[go_sem] def Q138_0:=k 0x115f8
@[go_sem] def Q138_1:=k 0xc6c6a1d162c
@[go_sem] def Q138_2:=k 0x83e72a4
@[go_sem] def Q138_3:=k 0x1469b30436ac
@[go_sem] def Q138_4:=k 0x2e6b45c69109afccd17fba988c5acc
@[go_sem] def Q138_5:=k 0x2267a669eb8c
@[go_sem] def Q138_6:=k 0x4953ce1c09bc0
def Q138_7:TC:=(.seq (.reg Q138_2) (.seq (.cond (.t 9) .skip (.exit 0)) (.seq (.block 1 (.seq (.reg Q138_3) (.seq (.reg Q138_4) (.cond (.t 16) (.seq (.reg Q138_5) .ret) .skip)))) (.reg Q138_6))))
@[go_sem] def Q138_8:=k 0x11678
def t_Q138:TF:=⟨19,[.t 4],(.seq (.reg Q138_0) (.seq (.seq (.reg Q138_1) (.block 0 (.loop Q138_7))) (.seq (.reg Q138_8) .ret)))⟩
/-! horarium/word.to -/
@[go_sem] def Q139_0:=k 0x1964c
@[go_sem] def Q139_1:=k 0x265993be33c580170df7c0742b4be66ed396de3f9b0c8af42acc550dcd2cd7454ca674caac7c75840130c23f00ee149ac14531f534b1cace070fa71c240a8c206f3d5feace3f82279396af50c4deb3a455de4d
def t_Q139:TF:=⟨37,[.t 6],(.seq (.reg Q139_0) (.seq (.reg Q139_1) .ret))⟩
def tpFn:Nat→Option TF
  | 5=>some t_Q0
  | 12=>some t_Q1
  | 13=>some t_Q2
  | 14=>some t_Q3
  | 15=>some t_Q4
  | 17=>some t_Q5
  | 18=>some t_Q6
  | 19=>some t_Q7
  | 20=>some t_Q8
  | 21=>some t_Q9
  | 22=>some t_Q10
  | 23=>some t_Q11
  | 24=>some t_Q12
  | 25=>some t_Q13
  | 26=>some t_Q14
  | 27=>some t_Q15
  | 28=>some t_Q16
  | 29=>some t_Q17
  | 30=>some t_Q18
  | 31=>some t_Q19
  | 32=>some t_Q20
  | 33=>some t_Q21
  | 41=>some t_Q22
  | 47=>some t_Q23
  | 48=>some t_Q24
  | 49=>some t_Q25
  | 50=>some t_Q26
  | 51=>some t_Q27
  | 52=>some t_Q28
  | 53=>some t_Q29
  | 54=>some t_Q30
  | 55=>some t_Q31
  | 56=>some t_Q32
  | 57=>some t_Q33
  | 58=>some t_Q34
  | 59=>some t_Q35
  | 60=>some t_Q36
  | 61=>some t_Q37
  | 62=>some t_Q38
  | 63=>some t_Q39
  | 64=>some t_Q40
  | 65=>some t_Q41
  | 66=>some t_Q42
  | 67=>some t_Q43
  | 68=>some t_Q44
  | 69=>some t_Q45
  | 70=>some t_Q46
  | 71=>some t_Q47
  | 72=>some t_Q48
  | 73=>some t_Q49
  | 74=>some t_Q50
  | 75=>some t_Q51
  | 76=>some t_Q52
  | 77=>some t_Q53
  | 78=>some t_Q54
  | 79=>some t_Q55
  | 80=>some t_Q56
  | 94=>some t_Q57
  | 95=>some t_Q58
  | 96=>some t_Q59
  | 97=>some t_Q60
  | 98=>some t_Q61
  | 99=>some t_Q62
  | 100=>some t_Q63
  | 101=>some t_Q64
  | 102=>some t_Q65
  | 103=>some t_Q66
  | 104=>some t_Q67
  | 105=>some t_Q68
  | 106=>some t_Q69
  | 107=>some t_Q70
  | 108=>some t_Q71
  | 109=>some t_Q72
  | 110=>some t_Q73
  | 111=>some t_Q74
  | 112=>some t_Q75
  | 113=>some t_Q76
  | 114=>some t_Q77
  | 115=>some t_Q78
  | 116=>some t_Q79
  | 117=>some t_Q80
  | 118=>some t_Q81
  | 119=>some t_Q82
  | 120=>some t_Q83
  | 121=>some t_Q84
  | 122=>some t_Q85
  | 123=>some t_Q86
  | 124=>some t_Q87
  | 125=>some t_Q88
  | 126=>some t_Q89
  | 127=>some t_Q90
  | 128=>some t_Q91
  | 129=>some t_Q92
  | 150=>some t_Q93
  | 151=>some t_Q94
  | 152=>some t_Q95
  | 153=>some t_Q96
  | 154=>some t_Q97
  | 155=>some t_Q98
  | 156=>some t_Q99
  | 157=>some t_Q100
  | 158=>some t_Q101
  | 159=>some t_Q102
  | 160=>some t_Q103
  | 161=>some t_Q104
  | 162=>some t_Q105
  | 163=>some t_Q106
  | 164=>some t_Q107
  | 165=>some t_Q108
  | 166=>some t_Q109
  | 167=>some t_Q110
  | 168=>some t_Q111
  | 169=>some t_Q112
  | 170=>some t_Q113
  | 171=>some t_Q114
  | 172=>some t_Q115
  | 173=>some t_Q116
  | 174=>some t_Q117
  | 175=>some t_Q118
  | 176=>some t_Q119
  | 177=>some t_Q120
  | 178=>some t_Q121
  | 179=>some t_Q122
  | 180=>some t_Q123
  | 181=>some t_Q124
  | 182=>some t_Q125
  | 183=>some t_Q126
  | 184=>some t_Q127
  | 185=>some t_Q128
  | 186=>some t_Q129
  | 201=>some t_Q130
  | 202=>some t_Q131
  | 203=>some t_Q132
  | 204=>some t_Q133
  | 205=>some t_Q134
  | 206=>some t_Q135
  | 207=>some t_Q136
  | 208=>some t_Q137
  | 209=>some t_Q138
  | 210=>some t_Q139
  | _=>none
def tpMeth:Nat→String→Option Meth:=fun _ _=>none
def tp:TP:=⟨tpFn,tpMeth⟩
theorem fn_Q0:tp.fn i_Q0=some t_Q0:=rfl
theorem fn_Q1:tp.fn i_Q1=some t_Q1:=rfl
theorem fn_Q2:tp.fn i_Q2=some t_Q2:=rfl
theorem fn_Q3:tp.fn i_Q3=some t_Q3:=rfl
theorem fn_Q4:tp.fn i_Q4=some t_Q4:=rfl
theorem fn_Q5:tp.fn i_Q5=some t_Q5:=rfl
theorem fn_Q6:tp.fn i_Q6=some t_Q6:=rfl
theorem fn_Q7:tp.fn i_Q7=some t_Q7:=rfl
theorem fn_Q8:tp.fn i_Q8=some t_Q8:=rfl
theorem fn_Q9:tp.fn i_Q9=some t_Q9:=rfl
theorem fn_Q10:tp.fn i_Q10=some t_Q10:=rfl
theorem fn_Q11:tp.fn i_Q11=some t_Q11:=rfl
theorem fn_Q12:tp.fn i_Q12=some t_Q12:=rfl
theorem fn_Q13:tp.fn i_Q13=some t_Q13:=rfl
theorem fn_Q14:tp.fn i_Q14=some t_Q14:=rfl
theorem fn_Q15:tp.fn i_Q15=some t_Q15:=rfl
theorem fn_Q16:tp.fn i_Q16=some t_Q16:=rfl
theorem fn_Q17:tp.fn i_Q17=some t_Q17:=rfl
theorem fn_Q18:tp.fn i_Q18=some t_Q18:=rfl
theorem fn_Q19:tp.fn i_Q19=some t_Q19:=rfl
theorem fn_Q20:tp.fn i_Q20=some t_Q20:=rfl
theorem fn_Q21:tp.fn i_Q21=some t_Q21:=rfl
theorem fn_Q22:tp.fn i_Q22=some t_Q22:=rfl
theorem fn_Q23:tp.fn i_Q23=some t_Q23:=rfl
theorem fn_Q24:tp.fn i_Q24=some t_Q24:=rfl
theorem fn_Q25:tp.fn i_Q25=some t_Q25:=rfl
theorem fn_Q26:tp.fn i_Q26=some t_Q26:=rfl
theorem fn_Q27:tp.fn i_Q27=some t_Q27:=rfl
theorem fn_Q28:tp.fn i_Q28=some t_Q28:=rfl
theorem fn_Q29:tp.fn i_Q29=some t_Q29:=rfl
theorem fn_Q30:tp.fn i_Q30=some t_Q30:=rfl
theorem fn_Q31:tp.fn i_Q31=some t_Q31:=rfl
theorem fn_Q32:tp.fn i_Q32=some t_Q32:=rfl
theorem fn_Q33:tp.fn i_Q33=some t_Q33:=rfl
theorem fn_Q34:tp.fn i_Q34=some t_Q34:=rfl
theorem fn_Q35:tp.fn i_Q35=some t_Q35:=rfl
theorem fn_Q36:tp.fn i_Q36=some t_Q36:=rfl
theorem fn_Q37:tp.fn i_Q37=some t_Q37:=rfl
theorem fn_Q38:tp.fn i_Q38=some t_Q38:=rfl
theorem fn_Q39:tp.fn i_Q39=some t_Q39:=rfl
theorem fn_Q40:tp.fn i_Q40=some t_Q40:=rfl
theorem fn_Q41:tp.fn i_Q41=some t_Q41:=rfl
theorem fn_Q42:tp.fn i_Q42=some t_Q42:=rfl
theorem fn_Q43:tp.fn i_Q43=some t_Q43:=rfl
theorem fn_Q44:tp.fn i_Q44=some t_Q44:=rfl
theorem fn_Q45:tp.fn i_Q45=some t_Q45:=rfl
theorem fn_Q46:tp.fn i_Q46=some t_Q46:=rfl
theorem fn_Q47:tp.fn i_Q47=some t_Q47:=rfl
theorem fn_Q48:tp.fn i_Q48=some t_Q48:=rfl
theorem fn_Q49:tp.fn i_Q49=some t_Q49:=rfl
theorem fn_Q50:tp.fn i_Q50=some t_Q50:=rfl
theorem fn_Q51:tp.fn i_Q51=some t_Q51:=rfl
theorem fn_Q52:tp.fn i_Q52=some t_Q52:=rfl
theorem fn_Q53:tp.fn i_Q53=some t_Q53:=rfl
theorem fn_Q54:tp.fn i_Q54=some t_Q54:=rfl
theorem fn_Q55:tp.fn i_Q55=some t_Q55:=rfl
theorem fn_Q56:tp.fn i_Q56=some t_Q56:=rfl
theorem fn_Q57:tp.fn i_Q57=some t_Q57:=rfl
theorem fn_Q58:tp.fn i_Q58=some t_Q58:=rfl
theorem fn_Q59:tp.fn i_Q59=some t_Q59:=rfl
theorem fn_Q60:tp.fn i_Q60=some t_Q60:=rfl
theorem fn_Q61:tp.fn i_Q61=some t_Q61:=rfl
theorem fn_Q62:tp.fn i_Q62=some t_Q62:=rfl
theorem fn_Q63:tp.fn i_Q63=some t_Q63:=rfl
theorem fn_Q64:tp.fn i_Q64=some t_Q64:=rfl
theorem fn_Q65:tp.fn i_Q65=some t_Q65:=rfl
theorem fn_Q66:tp.fn i_Q66=some t_Q66:=rfl
theorem fn_Q67:tp.fn i_Q67=some t_Q67:=rfl
theorem fn_Q68:tp.fn i_Q68=some t_Q68:=rfl
theorem fn_Q69:tp.fn i_Q69=some t_Q69:=rfl
theorem fn_Q70:tp.fn i_Q70=some t_Q70:=rfl
theorem fn_Q71:tp.fn i_Q71=some t_Q71:=rfl
theorem fn_Q72:tp.fn i_Q72=some t_Q72:=rfl
theorem fn_Q73:tp.fn i_Q73=some t_Q73:=rfl
theorem fn_Q74:tp.fn i_Q74=some t_Q74:=rfl
theorem fn_Q75:tp.fn i_Q75=some t_Q75:=rfl
theorem fn_Q76:tp.fn i_Q76=some t_Q76:=rfl
theorem fn_Q77:tp.fn i_Q77=some t_Q77:=rfl
theorem fn_Q78:tp.fn i_Q78=some t_Q78:=rfl
theorem fn_Q79:tp.fn i_Q79=some t_Q79:=rfl
theorem fn_Q80:tp.fn i_Q80=some t_Q80:=rfl
theorem fn_Q81:tp.fn i_Q81=some t_Q81:=rfl
theorem fn_Q82:tp.fn i_Q82=some t_Q82:=rfl
theorem fn_Q83:tp.fn i_Q83=some t_Q83:=rfl
theorem fn_Q84:tp.fn i_Q84=some t_Q84:=rfl
theorem fn_Q85:tp.fn i_Q85=some t_Q85:=rfl
theorem fn_Q86:tp.fn i_Q86=some t_Q86:=rfl
theorem fn_Q87:tp.fn i_Q87=some t_Q87:=rfl
theorem fn_Q88:tp.fn i_Q88=some t_Q88:=rfl
theorem fn_Q89:tp.fn i_Q89=some t_Q89:=rfl
theorem fn_Q90:tp.fn i_Q90=some t_Q90:=rfl
theorem fn_Q91:tp.fn i_Q91=some t_Q91:=rfl
theorem fn_Q92:tp.fn i_Q92=some t_Q92:=rfl
theorem fn_Q93:tp.fn i_Q93=some t_Q93:=rfl
theorem fn_Q94:tp.fn i_Q94=some t_Q94:=rfl
theorem fn_Q95:tp.fn i_Q95=some t_Q95:=rfl
theorem fn_Q96:tp.fn i_Q96=some t_Q96:=rfl
theorem fn_Q97:tp.fn i_Q97=some t_Q97:=rfl
theorem fn_Q98:tp.fn i_Q98=some t_Q98:=rfl
theorem fn_Q99:tp.fn i_Q99=some t_Q99:=rfl
theorem fn_Q100:tp.fn i_Q100=some t_Q100:=rfl
theorem fn_Q101:tp.fn i_Q101=some t_Q101:=rfl
theorem fn_Q102:tp.fn i_Q102=some t_Q102:=rfl
theorem fn_Q103:tp.fn i_Q103=some t_Q103:=rfl
theorem fn_Q104:tp.fn i_Q104=some t_Q104:=rfl
theorem fn_Q105:tp.fn i_Q105=some t_Q105:=rfl
theorem fn_Q106:tp.fn i_Q106=some t_Q106:=rfl
theorem fn_Q107:tp.fn i_Q107=some t_Q107:=rfl
theorem fn_Q108:tp.fn i_Q108=some t_Q108:=rfl
theorem fn_Q109:tp.fn i_Q109=some t_Q109:=rfl
theorem fn_Q110:tp.fn i_Q110=some t_Q110:=rfl
theorem fn_Q111:tp.fn i_Q111=some t_Q111:=rfl
theorem fn_Q112:tp.fn i_Q112=some t_Q112:=rfl
theorem fn_Q113:tp.fn i_Q113=some t_Q113:=rfl
theorem fn_Q114:tp.fn i_Q114=some t_Q114:=rfl
theorem fn_Q115:tp.fn i_Q115=some t_Q115:=rfl
theorem fn_Q116:tp.fn i_Q116=some t_Q116:=rfl
theorem fn_Q117:tp.fn i_Q117=some t_Q117:=rfl
theorem fn_Q118:tp.fn i_Q118=some t_Q118:=rfl
theorem fn_Q119:tp.fn i_Q119=some t_Q119:=rfl
theorem fn_Q120:tp.fn i_Q120=some t_Q120:=rfl
theorem fn_Q121:tp.fn i_Q121=some t_Q121:=rfl
theorem fn_Q122:tp.fn i_Q122=some t_Q122:=rfl
theorem fn_Q123:tp.fn i_Q123=some t_Q123:=rfl
theorem fn_Q124:tp.fn i_Q124=some t_Q124:=rfl
theorem fn_Q125:tp.fn i_Q125=some t_Q125:=rfl
theorem fn_Q126:tp.fn i_Q126=some t_Q126:=rfl
theorem fn_Q127:tp.fn i_Q127=some t_Q127:=rfl
theorem fn_Q128:tp.fn i_Q128=some t_Q128:=rfl
theorem fn_Q129:tp.fn i_Q129=some t_Q129:=rfl
theorem fn_Q130:tp.fn i_Q130=some t_Q130:=rfl
theorem fn_Q131:tp.fn i_Q131=some t_Q131:=rfl
theorem fn_Q132:tp.fn i_Q132=some t_Q132:=rfl
theorem fn_Q133:tp.fn i_Q133=some t_Q133:=rfl
theorem fn_Q134:tp.fn i_Q134=some t_Q134:=rfl
theorem fn_Q135:tp.fn i_Q135=some t_Q135:=rfl
theorem fn_Q136:tp.fn i_Q136=some t_Q136:=rfl
theorem fn_Q137:tp.fn i_Q137=some t_Q137:=rfl
theorem fn_Q138:tp.fn i_Q138=some t_Q138:=rfl
theorem fn_Q139:tp.fn i_Q139=some t_Q139:=rfl
end Go.Ab.T
