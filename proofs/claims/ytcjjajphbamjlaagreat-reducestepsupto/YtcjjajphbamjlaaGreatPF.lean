/- Part of the proof that ReduceSteps returns true for every input of the second form's bound (no other condition). -/
import Derived.Test.YtcjjajphbamjlaaGreatPE
set_option linter.all false
/- The abstract machine's text of the functions, its regions as numbers. Written by a tool. -/
namespace Go.Ab.T
open Go Go.Ab
set_option maxRecDepth 100000
abbrev i_Q0:Nat:=7
abbrev i_Q1:Nat:=12
abbrev i_Q2:Nat:=13
abbrev i_Q3:Nat:=14
abbrev i_Q4:Nat:=15
abbrev i_Q5:Nat:=17
abbrev i_Q6:Nat:=23
abbrev i_Q7:Nat:=29
abbrev i_Q8:Nat:=30
abbrev i_Q9:Nat:=31
abbrev i_Q10:Nat:=32
abbrev i_Q11:Nat:=33
abbrev i_Q12:Nat:=41
abbrev i_Q13:Nat:=47
abbrev i_Q14:Nat:=48
abbrev i_Q15:Nat:=49
abbrev i_Q16:Nat:=50
abbrev i_Q17:Nat:=51
abbrev i_Q18:Nat:=52
abbrev i_Q19:Nat:=53
abbrev i_Q20:Nat:=54
abbrev i_Q21:Nat:=55
abbrev i_Q22:Nat:=56
abbrev i_Q23:Nat:=57
abbrev i_Q24:Nat:=58
abbrev i_Q25:Nat:=59
abbrev i_Q26:Nat:=60
abbrev i_Q27:Nat:=61
abbrev i_Q28:Nat:=66
abbrev i_Q29:Nat:=67
abbrev i_Q30:Nat:=72
abbrev i_Q31:Nat:=73
abbrev i_Q32:Nat:=74
abbrev i_Q33:Nat:=75
abbrev i_Q34:Nat:=76
abbrev i_Q35:Nat:=77
abbrev i_Q36:Nat:=78
abbrev i_Q37:Nat:=79
abbrev i_Q38:Nat:=80
abbrev i_Q39:Nat:=94
abbrev i_Q40:Nat:=95
abbrev i_Q41:Nat:=96
abbrev i_Q42:Nat:=97
abbrev i_Q43:Nat:=98
abbrev i_Q44:Nat:=99
abbrev i_Q45:Nat:=100
abbrev i_Q46:Nat:=101
abbrev i_Q47:Nat:=102
abbrev i_Q48:Nat:=103
abbrev i_Q49:Nat:=104
abbrev i_Q50:Nat:=105
abbrev i_Q51:Nat:=106
abbrev i_Q52:Nat:=107
abbrev i_Q53:Nat:=108
abbrev i_Q54:Nat:=109
abbrev i_Q55:Nat:=110
abbrev i_Q56:Nat:=111
abbrev i_Q57:Nat:=112
abbrev i_Q58:Nat:=113
abbrev i_Q59:Nat:=118
abbrev i_Q60:Nat:=119
abbrev i_Q61:Nat:=122
abbrev i_Q62:Nat:=123
abbrev i_Q63:Nat:=124
abbrev i_Q64:Nat:=125
abbrev i_Q65:Nat:=126
abbrev i_Q66:Nat:=127
abbrev i_Q67:Nat:=128
abbrev i_Q68:Nat:=129
abbrev i_Q69:Nat:=150
abbrev i_Q70:Nat:=151
abbrev i_Q71:Nat:=152
abbrev i_Q72:Nat:=153
abbrev i_Q73:Nat:=154
abbrev i_Q74:Nat:=155
abbrev i_Q75:Nat:=156
abbrev i_Q76:Nat:=157
abbrev i_Q77:Nat:=158
abbrev i_Q78:Nat:=159
abbrev i_Q79:Nat:=160
abbrev i_Q80:Nat:=161
abbrev i_Q81:Nat:=162
abbrev i_Q82:Nat:=163
abbrev i_Q83:Nat:=164
abbrev i_Q84:Nat:=165
abbrev i_Q85:Nat:=166
abbrev i_Q86:Nat:=167
abbrev i_Q87:Nat:=168
abbrev i_Q88:Nat:=169
abbrev i_Q89:Nat:=170
abbrev i_Q90:Nat:=172
abbrev i_Q91:Nat:=173
abbrev i_Q92:Nat:=177
abbrev i_Q93:Nat:=178
abbrev i_Q94:Nat:=179
abbrev i_Q95:Nat:=180
abbrev i_Q96:Nat:=181
abbrev i_Q97:Nat:=182
abbrev i_Q98:Nat:=183
abbrev i_Q99:Nat:=184
abbrev i_Q100:Nat:=185
abbrev i_Q101:Nat:=186
abbrev i_Q102:Nat:=201
abbrev i_Q103:Nat:=202
abbrev i_Q104:Nat:=203
abbrev i_Q105:Nat:=204
abbrev i_Q106:Nat:=205
abbrev i_Q107:Nat:=206
abbrev i_Q108:Nat:=209
abbrev i_Q109:Nat:=210
def wrs:List Nat:=[i_Q13,i_Q7,i_Q14,i_Q15,i_Q1,i_Q102,i_Q71,i_Q40,i_Q69]
def xgt {α:Type} (z:α):List α→Nat→α
 | [],_=>z
 | x::_,0=>x
 | _::l,n+1=>xgt z l n
def xgi:Nat→Int:=xgt 0 [0,1,2,3,4,5,6,7,8,9,10,11,12,13,14,15,16,17,18,19,20,21,22,23,24,25,26,27,28,29,30,31]
def sh0:List ((Nat→Nat)→O):=[fun p=>.mv (.t (p 0)),
fun p=>.load 1 false (.t (p 0)),
fun p=>.fad (p 0) (.t (p 1)),
fun p=>.mv (.c (.i .i64 (xgi (p 0)))),
fun p=>.len (.t (p 0)),
fun p=>.bin .add (.t (p 0)) (.c (.i .i64 (xgi (p 1)))),
fun p=>.bin .lss (.t (p 0)) (.t (p 1)),
fun p=>.pick (.t (p 0)) (.t (p 1)) (.c (.b false)),
fun p=>.mv (.c (.b false)),
fun p=>.mv (.c .ns),
fun p=>.bin .eql (.t (p 0)) (.c (.i .i64 (xgi (p 1)))),
fun p=>.load 3 true (.t (p 0)),
fun p=>.pick (.t (p 0)) (.c (.b true)) (.t (p 1)),
fun p=>.nck (.t (p 0)),
fun p=>.bin .lss (.t (p 0)) (.c (.i .i64 (xgi (p 1)))),
fun p=>.box (.t (p 0)),
fun p=>.iad 1 (.t (p 0)) (.t (p 1)),
fun p=>.iad 2 (.t (p 0)) (.t (p 1)),
fun p=>.bin .add (.t (p 0)) (.t (p 1)),
fun p=>.bin .sub (.t (p 0)) (.c (.i .i64 (xgi (p 1)))),
fun p=>.un .not (.t (p 0)),
fun p=>.bin .gtr (.t (p 0)) (.c (.i .i64 (xgi (p 1)))),
fun p=>.store 1 (.t (p 0)) (.t (p 1)),
fun p=>.load 2 true (.t (p 0))]
def sh1:List ((Nat→Nat)→O):=[fun p=>.ext (.t (p 0)) 0,
fun p=>.ext (.t (p 0)) 1,
fun p=>.iad 3 (.t (p 0)) (.t (p 1)),
fun p=>.call (.fn i_Q13) [(.t (p 0)),(.c (.i .i64 (xgi (p 1))))],
fun p=>.store 2 (.t (p 0)) (.t (p 1)),
fun p=>.alloc [(.i .i64 0),(.i .i64 0)],
fun p=>.bin .geq (.t (p 0)) (.c (.i .i64 (xgi (p 1)))),
fun p=>.bin .eql (.t (p 0)) (.t (p 1)),
fun p=>.mv (.c (.i .i64 (-1))),
fun p=>.bin .neq (.t (p 0)) (.c (.i .i64 (xgi (p 1)))),
fun p=>.store 6 (.t (p 0)) (.t (p 1)),
fun p=>.iad 6 (.t (p 0)) (.t (p 1)),
fun p=>.bin .sub (.t (p 0)) (.t (p 1)),
fun p=>.mv (.c (.b true)),
fun p=>.bin .geq (.t (p 0)) (.t (p 1)),
fun p=>.app 2 (.t (p 0)) (.t (p 1)),
fun p=>.iad 11 (.t (p 0)) (.t (p 1)),
fun p=>.bin .neq (.t (p 0)) (.t (p 1)),
fun p=>.store 3 (.t (p 0)) (.t (p 1)),
fun p=>.chk 1 false (.t (p 0)) (.t (p 1)),
fun p=>.bsl 2 [(.i .i64 0),(.i .i64 0)] 1 [(0,(.t (p 0)))],
fun p=>.app 1 (.t (p 0)) (.t (p 1)),
fun p=>.load 6 true (.t (p 0)),
fun p=>.bin .gtr (.t (p 0)) (.t (p 1))]
def sh2:List ((Nat→Nat)→O):=[fun p=>.bsl 3 [(.i .i64 0),(.i .i64 0),(.i .i64 0)] 1 [(0,(.t (p 0)))],
fun p=>.bin .add (.c (.i .i64 (xgi (p 0)))) (.t (p 1)),
fun p=>.fload 1 false (.t (p 0)),
fun p=>.bin .rem (.t (p 0)) (.t (p 1)),
fun p=>.mx [(.t (p 0)),(.t (p 1))],
fun p=>.bin .mul (.t (p 0)) (.t (p 1)),
fun p=>.build [(.i .i64 0),(.i .i64 0),(.i .i64 0)] [(0,1,(.c (.i .i64 (xgi (p 0))))),(2,1,(.t (p 1)))],
fun p=>.store 1 (.t (p 0)) (.c (.i .i64 (xgi (p 1)))),
fun p=>.alloc [.ns,.ns,.ns],
fun p=>.build [(.i .i64 0),(.i .i64 0)] [(0,1,(.t (p 0))),(1,1,(.t (p 1)))],
fun p=>.load 11 true (.t (p 0)),
fun p=>.bsl 1 [.ns] 1 [(0,(.t (p 0)))],
fun p=>.app 3 (.t (p 0)) (.t (p 1)),
fun p=>.call (.fn i_Q72) [(.t (p 0)),(.t (p 1))],
fun p=>.mn [(.c (.i .i64 4097)),(.t (p 0))],
fun p=>.sidx (.t (p 0)) (.t (p 1)),
fun p=>.call (.fn i_Q3) [(.t (p 0))],
fun p=>.call (.fn i_Q9) [(.t (p 0)),(.t (p 1))],
fun p=>.alloc [(.s ⟨#[]⟩),(.i .i64 0),(.i .i64 0),(.b false),(.b false),.ns,(.i .i64 0),(.i .i64 0),(.i .i64 0),(.i .i64 0),(.i .i64 0)],
fun p=>.store 11 (.t (p 0)) (.t (p 1)),
fun p=>.call (.fn i_Q13) [(.t (p 0)),(.t (p 1))],
fun p=>.alloc [(.i .i64 0),(.i .i64 0),(.i .i64 0),(.i .i64 0),(.i .i64 0),(.b false)],
fun p=>.alloc [(.i .i64 0),(.i .i64 0),(.b false),(.i .i64 0),(.i .u32 0),(.i .i64 0)],
fun p=>.call (.fn i_Q33) [(.t (p 0))]]
def sh3:List ((Nat→Nat)→O):=[fun p=>.mn [(.t (p 0)),(.t (p 1))],
fun p=>.call (.fn i_Q41) [(.t (p 0))],
fun p=>.slice 1 (.t (p 0)) (some (.t (p 1))) (some (.t (p 2))) none,
fun p=>.bin .leq (.t (p 0)) (.c (.i .i64 4096)),
fun p=>.bsl 1 [(.i .i64 0)] 1 [(0,(.t (p 0)))],
fun p=>.nck (.c .np),
fun p=>.cap (.t (p 0)),
fun p=>.mn [(.t (p 0)),(.c (.i .i64 4097))],
fun p=>.call (.fn i_Q11) [(.t (p 0)),(.t (p 1)),(.t (p 2))],
fun p=>.chkb 1 [(.i .u32 0)] 3 [(0,(.c (.i .u32 4294967295))),(1,(.c (.i .u32 200))),(2,(.c (.i .u32 3)))] (.t (p 0)),
fun p=>.chka [(.i .i64 0),(.i .i64 0),(.b false),(.i .i64 0),(.i .u32 0),(.i .i64 0)] (.t (p 0)),
fun p=>.call (.fn i_Q17) [(.t (p 0)),(.t (p 1))],
fun p=>.call (.fn i_Q20) [(.t (p 0))],
fun p=>.build [(.i .i64 0),(.i .i64 0),(.i .i64 0)] [(0,1,(.c (.i .i64 (xgi (p 0))))),(2,1,(.c (.i .i64 (xgi (p 1)))))],
fun p=>.ext (.t (p 0)) 2,
fun p=>.bin .leq (.t (p 0)) (.t (p 1)),
fun p=>.mx [(.t (p 0)),(.c (.i .i64 (xgi (p 1))))],
fun p=>.call (.fn i_Q44) [(.t (p 0))],
fun p=>.call (.t (p 0)) [(.t (p 1)),(.t (p 2))],
fun p=>.alloc [(.i .i64 0),(.i .i64 0),(.i .i64 0),(.i .i64 0)],
fun p=>.store 4 (.t (p 0)) (.t (p 1)),
fun p=>.call (.fn i_Q50) [(.t (p 0))],
fun p=>.slice 1 (.t (p 0)) none (some (.t (p 1))) none,
fun p=>.call (.fn i_Q53) [(.t (p 0))]]
def sh4:List ((Nat→Nat)→O):=[fun p=>.call (.fn i_Q55) [(.t (p 0))],
fun p=>.bin .gtr (.t (p 0)) (.c (.i .i64 4096)),
fun p=>.call (.fn i_Q74) [(.t (p 0)),(.t (p 1))],
fun p=>.mx [(.c (.i .i64 (xgi (p 0)))),(.t (p 1))],
fun p=>.call (.fn i_Q89) [(.t (p 0)),(.t (p 1))],
fun p=>.call (.t (p 0)) [(.t (p 1))],
fun p=>.slen (.t (p 0)),
fun p=>.iad 1 (.t (p 0)) (.c (.i .i64 (xgi (p 1)))),
fun p=>.bin .mul (.c (.i .i64 (xgi (p 0)))) (.t (p 1)),
fun p=>.app 6 (.t (p 0)) (.t (p 1)),
fun p=>.call (.fn i_Q18) [(.t (p 0)),(.t (p 1))],
fun p=>.call (.fn i_Q21) [(.t (p 0))],
fun p=>.bin .gtr (.t (p 0)) (.c (.i .i64 96)),
fun p=>.call (.fn i_Q25) [(.t (p 0)),(.t (p 1))],
fun p=>.call (.fn i_Q26) [(.t (p 0)),(.t (p 1)),(.t (p 2))],
fun p=>.call (.fn i_Q27) [(.t (p 0)),(.t (p 1)),(.t (p 2))],
fun p=>.build [(.i .i64 0),(.i .i64 0)] [(1,1,(.c (.i .i64 (xgi (p 0)))))],
fun p=>.call (.fn i_Q29) [],
fun p=>.build [(.i .i64 0),(.i .i64 0),(.i .i64 0)] [(0,1,(.c (.i .i64 (xgi (p 0))))),(1,1,(.t (p 1))),(2,1,(.t (p 2)))],
fun p=>.call (.fn i_Q7) [(.t (p 0)),(.t (p 1)),(.t (p 2))],
fun p=>.call (.fn i_Q32) [(.t (p 0)),(.t (p 1))],
fun p=>.eq true (.agg [.i,.i]) (.t (p 0)) (.t (p 1)),
fun p=>.call (.fn i_Q37) [(.t (p 0))],
fun p=>.call (.fn i_Q4) [(.t (p 0))]]
def sh5:List ((Nat→Nat)→O):=[fun p=>.bin .eql (.t (p 0)) (.c (.i .i64 (-1))),
fun p=>.call (.fn i_Q49) [(.t (p 0))],
fun p=>.bsl 1 [.ns] 2 [(0,(.t (p 0))),(1,(.t (p 1)))],
fun p=>.bin .gtr (.t (p 0)) (.c (.i .i64 128)),
fun p=>.eq false .sl (.t (p 0)) (.c .ns),
fun p=>.e0,
fun p=>.bin .sub (.c (.i .i64 9223372036854775807)) (.t (p 0)),
fun p=>.mv (.c (.i .i64 9223372036854775807)),
fun p=>.call (.fn i_Q58) [(.t (p 0))],
fun p=>.alloc [(.i .i64 0),(.i .i64 0),(.b false)],
fun p=>.call (.fn i_Q35) [(.t (p 0)),(.t (p 1)),(.t (p 2))],
fun p=>.call (.fn i_Q61) [(.t (p 0)),(.t (p 1))],
fun p=>.call (.fn i_Q63) [(.t (p 0)),(.t (p 1)),(.t (p 2))],
fun p=>.call (.fn i_Q65) [(.t (p 0)),(.t (p 1))],
fun p=>.store 1 (.t (p 0)) (.c (.b true)),
fun p=>.mv (.c .np),
fun p=>.call (.fn i_Q75) [(.t (p 0))],
fun p=>.mkif 9 (.c (.s ⟨#[108,101,110,32,111,117,116,32,111,102,32,114,97,110,103,101]⟩)),
fun p=>.call (.fn i_Q84) [(.t (p 0))],
fun p=>.call (.fn i_Q57) [(.t (p 0)),(.t (p 1)),(.t (p 2))],
fun p=>.call (.fn i_Q92) [(.t (p 0)),(.t (p 1))],
fun p=>.call (.fn i_Q95) [(.t (p 0)),(.t (p 1)),(.t (p 2))],
fun p=>.call (.fn i_Q97) [(.t (p 0)),(.t (p 1)),(.t (p 2))],
fun p=>.call (.fn i_Q96) [(.t (p 0)),(.t (p 1))]]
def sh6:List ((Nat→Nat)→O):=[fun p=>.call (.fn i_Q98) [(.t (p 0)),(.c (.i .i64 (-1)))],
fun p=>.alloc [(.i .i64 0),(.i .i64 0),(.i .i64 0)],
fun p=>.mkif 9 (.c (.s ⟨#[99,97,110,110,111,116,32,98,101,32,110,101,103,97,116,105,118,101]⟩)),
fun p=>.slice 3 (.t (p 0)) none (some (.t (p 1))) none,
fun p=>.bsl 6 [(.i .i64 0),(.i .i64 0),(.i .i64 0),(.i .i64 0),(.i .i64 0),(.i .i64 0)] 1 [(0,(.t (p 0)))],
fun p=>.call (.fn i_Q104) [(.t (p 0))],
fun p=>.iad 6 (.t (p 0)) (.c (.i .i64 (xgi (p 1)))),
fun p=>.call (.fn i_Q86) [(.t (p 0)),(.t (p 1))],
fun p=>.bin .neq (.t (p 0)) (.c (.i .i64 (-1))),
fun p=>.call (.fn i_Q109) [(.t (p 0)),(.t (p 1)),(.t (p 2))],
fun p=>.bin .leq (.t (p 0)) (.c (.i .i64 (xgi (p 1)))),
fun p=>.bin .leq (.t (p 0)) (.c (.i .i64 128)),
fun p=>.build [.ns,(.i .i64 0)] [(0,1,(.t (p 0)))],
fun p=>.call (.fn i_Q1) [(.t (p 0))],
fun p=>.bin .lss (.t (p 0)) (.c (.i .i64 96)),
fun p=>.call (.fn i_Q8) [(.t (p 0)),(.t (p 1))],
fun p=>.call (.fn i_Q10) [(.t (p 0)),(.t (p 1))],
fun p=>.call (.fn i_Q6) [],
fun p=>.bin .add (.c (.i .i64 97)) (.t (p 0)),
fun p=>.conv .i32 (.t (p 0)),
fun p=>.i2s (.t (p 0)),
fun p=>.bin .add (.c (.s ⟨#[112]⟩)) (.t (p 0)),
fun p=>.build [(.s ⟨#[]⟩),(.i .i64 0),(.i .i64 0),(.b false),(.b false),.ns,(.i .i64 0),(.i .i64 0),(.i .i64 0),(.i .i64 0),(.i .i64 0)] [(0,1,(.t (p 0))),(3,1,(.t (p 1))),(4,1,(.t (p 2)))],
fun p=>.bsl 1 [(.i .i64 0)] 5 [(0,(.c (.i .i64 (xgi (p 0))))),(1,(.c (.i .i64 (xgi (p 1))))),(2,(.c (.i .i64 (xgi (p 2))))),(3,(.c (.i .i64 (xgi (p 3))))),(4,(.c (.i .i64 (xgi (p 4)))))]]
def sh7:List ((Nat→Nat)→O):=[fun p=>.iada 1 5 (.t (p 0)) (.t (p 1)),
fun p=>.bsl 11 [(.s ⟨#[]⟩),(.i .i64 0),(.i .i64 0),(.b false),(.b false),.ns,(.i .i64 0),(.i .i64 0),(.i .i64 0),(.i .i64 0),(.i .i64 0)] 1 [(0,(.t (p 0)))],
fun p=>.app 11 (.t (p 0)) (.t (p 1)),
fun p=>.bslc 1 [(.i .u32 0)] 3 [(0,(.c (.i .u32 4294967295))),(1,(.c (.i .u32 200))),(2,(.c (.i .u32 3)))],
fun p=>.alc [(.i .i64 0),(.i .i64 0),(.b false),(.i .i64 0),(.i .u32 0),(.i .i64 0)],
fun p=>.build [(.i .i64 0),(.i .i64 0),(.b false),(.i .i64 0),(.i .u32 0),(.i .i64 0)] [(0,1,(.t (p 0))),(1,1,(.t (p 1))),(2,1,(.t (p 2))),(4,1,(.t (p 3)))],
fun p=>.bsl 6 [(.i .i64 0),(.i .i64 0),(.b false),(.i .i64 0),(.i .u32 0),(.i .i64 0)] 1 [(0,(.t (p 0)))],
fun p=>.call (.fn i_Q14) [(.t (p 0)),(.t (p 1))],
fun p=>.call (.fn i_Q15) [(.t (p 0)),(.t (p 1))],
fun p=>.call (.fn i_Q16) [(.t (p 0))],
fun p=>.build [(.i .i64 0),(.i .i64 0),(.i .i64 0),(.i .i64 0),(.i .i64 0),(.b false)] [],
fun p=>.call (.fn i_Q19) [(.t (p 0))],
fun p=>.build [(.i .i64 0),(.i .i64 0),(.i .i64 0),(.i .i64 0),(.i .i64 0),(.b false)] [(0,1,(.t (p 0))),(1,1,(.t (p 1))),(2,1,(.t (p 2))),(3,1,(.t (p 3))),(4,1,(.t (p 4)))],
fun p=>.build [(.i .i64 0),(.i .i64 0),(.i .i64 0),(.i .i64 0),(.i .i64 0),(.b false)] [(1,1,(.t (p 0))),(2,1,(.t (p 1))),(3,1,(.t (p 2))),(4,1,(.t (p 3))),(5,1,(.c (.b true)))],
fun p=>.call (.fn i_Q22) [(.t (p 0))],
fun p=>.call (.fn i_Q24) [(.t (p 0))],
fun p=>.call (.fn i_Q23) [(.t (p 0))],
fun p=>.mksl [(.s ⟨#[]⟩),(.i .i64 0),(.i .i64 0),(.b false),(.b false),.ns,(.i .i64 0),(.i .i64 0),(.i .i64 0),(.i .i64 0),(.i .i64 0)] (.c (.i .i64 (xgi (p 0)))) (.c (.i .i64 (xgi (p 1)))),
fun p=>.build [.ns,.ns,.ns] [(0,1,(.t (p 0)))],
fun p=>.call (.fn i_Q2) [(.t (p 0)),(.t (p 1))],
fun p=>.call (.fn i_Q2) [(.t (p 0)),(.c .ns)],
fun p=>.build [(.i .i64 0),(.i .i64 0)] [(0,1,(.c (.i .i64 (xgi (p 0))))),(1,1,(.c (.i .i64 (xgi (p 1)))))],
fun p=>.bsl 2 [(.i .i64 0),(.i .i64 0)] 3 [(0,(.t (p 0))),(1,(.t (p 1))),(2,(.t (p 2)))],
fun p=>.call (.fn i_Q28) [(.t (p 0)),(.t (p 1))]]
def sh8:List ((Nat→Nat)→O):=[fun p=>.call (.fn i_Q30) [(.t (p 0)),(.t (p 1))],
fun p=>.mkfn (.func i_Q34) [] [(.t (p 0)),(.t (p 1))],
fun p=>.call (.fn i_Q31) [(.t (p 0)),(.t (p 1))],
fun p=>.call (.fn i_Q36) [(.t (p 0)),(.t (p 1)),(.t (p 2))],
fun p=>.call (.fn i_Q12) [(.t (p 0)),(.c (.i .i64 (xgi (p 1)))),(.c (.i .i64 1073741824))],
fun p=>.call (.fn i_Q7) [(.t (p 0)),(.t (p 1)),(.c (.i .i64 (xgi (p 2))))],
fun p=>.bin .gtr (.t (p 0)) (.c (.i .i64 90)),
fun p=>.build [(.i .i64 0),(.i .i64 0),(.i .i64 0)] [(0,1,(.c (.i .i64 (xgi (p 0))))),(1,1,(.t (p 1))),(2,1,(.c (.i .i64 (xgi (p 2)))))],
fun p=>.bsl 3 [(.i .i64 0),(.i .i64 0),(.i .i64 0)] 3 [(0,(.t (p 0))),(1,(.t (p 1))),(2,(.t (p 2)))],
fun p=>.mn [(.t (p 0)),(.c (.i .i64 4096))],
fun p=>.bin .quo (.t (p 0)) (.t (p 1)),
fun p=>.mv (.c (.i .i64 4096)),
fun p=>.call (.fn i_Q38) [(.t (p 0))],
fun p=>.call (.fn i_Q39) [(.t (p 0))],
fun p=>.call (.fn i_Q40) [(.t (p 0))],
fun p=>.call (.fn i_Q42) [(.t (p 0)),(.t (p 1)),(.t (p 2))],
fun p=>.call (.fn i_Q43) [(.t (p 0)),(.t (p 1)),(.t (p 2))],
fun p=>.mv (.fn i_Q45),
fun p=>.call (.fn i_Q46) [(.t (p 0))],
fun p=>.call (.fn i_Q48) [(.t (p 0))],
fun p=>.call (.fn i_Q47) [(.t (p 0)),(.t (p 1))],
fun p=>.slice 1 (.t (p 0)) (some (.t (p 1))) none none,
fun p=>.bsl 1 [.ns] 3 [(0,(.t (p 0))),(1,(.t (p 1))),(2,(.t (p 2)))],
fun p=>.call (.fn i_Q51) [(.t (p 0))]]
def sh9:List ((Nat→Nat)→O):=[fun p=>.call (.fn i_Q52) [(.t (p 0))],
fun p=>.call (.fn i_Q54) [(.t (p 0))],
fun p=>.call (.fn i_Q56) [(.t (p 0))],
fun p=>.call (.fn i_Q57) [(.t (p 0)),(.c (.i .i64 (xgi (p 1)))),(.c .ns)],
fun p=>.call (.fn i_Q59) [(.t (p 0)),(.t (p 1))],
fun p=>.call (.fn i_Q60) [(.fn i_Q59)],
fun p=>.call (.fn i_Q60) [(.fn i_Q30)],
fun p=>.bsl 1 [.nf] 2 [(0,(.t (p 0))),(1,(.t (p 1)))],
fun p=>.call (.fn i_Q62) [(.t (p 0)),(.t (p 1))],
fun p=>.build [(.i .i64 0),(.i .i64 0),(.b false)] [(0,1,(.t (p 0))),(1,1,(.t (p 1)))],
fun p=>.build [(.i .i64 0),(.i .i64 0),(.b false)] [(0,1,(.t (p 0))),(1,1,(.t (p 1))),(2,1,(.c (.b true)))],
fun p=>.bsl 3 [(.i .i64 0),(.i .i64 0),(.b false)] 2 [(0,(.t (p 0))),(1,(.t (p 1)))],
fun p=>.call (.fn i_Q64) [(.t (p 0))],
fun p=>.call (.fn i_Q66) [(.t (p 0)),(.t (p 1)),(.t (p 2))],
fun p=>.call (.fn i_Q67) [(.t (p 0))],
fun p=>.bin .leq (.t (p 0)) (.c (.i .i64 96)),
fun p=>.call (.fn i_Q68) [(.t (p 0))],
fun p=>.build [.ns,.ns,(.i .i64 0),(.i .i64 0),(.i .i64 0)] [(0,1,(.t (p 0)))],
fun p=>.call (.fn i_Q69) [(.t (p 0))],
fun p=>.build [(.i .i64 0),(.i .i64 0)] [],
fun p=>.call (.fn i_Q70) [(.t (p 0))],
fun p=>.call (.fn i_Q71) [(.t (p 0))],
fun p=>.call (.fn i_Q73) [(.t (p 0))],
fun p=>.bsl 1 [(.i .i64 0)] 2 [(0,(.t (p 0))),(1,(.t (p 1)))]]
def sh10:List ((Nat→Nat)→O):=[fun p=>.call (.fn i_Q76) [(.t (p 0)),(.t (p 1)),(.t (p 2))],
fun p=>.call (.fn i_Q77) [(.t (p 0))],
fun p=>.call (.fn i_Q78) [(.t (p 0)),(.t (p 1)),(.t (p 2))],
fun p=>.build [(.i .i64 0),(.i .i64 0),(.i .i64 0),(.i .i64 0)] [(0,1,(.t (p 0))),(1,1,(.t (p 1))),(2,1,(.t (p 2))),(3,1,(.t (p 3)))],
fun p=>.load 4 true (.t (p 0)),
fun p=>.alloc [.ns],
fun p=>.mkfn (.func i_Q80) [] [(.t (p 0))],
fun p=>.call (.fn i_Q79) [(.t (p 0)),(.t (p 1))],
fun p=>.call (.fn i_Q82) [(.c .ns),(.t (p 0))],
fun p=>.call (.fn i_Q83) [(.c .ns),(.t (p 0))],
fun p=>.call (.fn i_Q85) [(.t (p 0)),(.c (.i .i64 (xgi (p 1))))],
fun p=>.call (.fn i_Q86) [(.t (p 0)),(.c (.i .i64 (xgi (p 1))))],
fun p=>.call (.fn i_Q87) [(.t (p 0)),(.c (.i .i64 (xgi (p 1))))],
fun p=>.call (.fn i_Q88) [(.t (p 0)),(.c (.i .i64 (xgi (p 1))))],
fun p=>.build [(.i .i64 0),(.i .i64 0)] [(0,1,(.c (.i .i64 (-1)))),(1,1,(.t (p 0)))],
fun p=>.bin .lss (.t (p 0)) (.c (.i .i64 8192)),
fun p=>.call (.fn i_Q90) [(.t (p 0)),(.t (p 1))],
fun p=>.mv (.c .nf),
fun p=>.mkfn (.func i_Q91) [] [(.t (p 0))],
fun p=>.alloc [(.i .i64 0)],
fun p=>.slice 2 (.t (p 0)) (some (.t (p 1))) (some (.t (p 2))) none,
fun p=>.mkfn (.func i_Q94) [] [(.t (p 0)),(.t (p 1))],
fun p=>.call (.fn i_Q93) [(.t (p 0)),(.t (p 1))],
fun p=>.mksl [(.b false)] (.t (p 0)) (.t (p 1))]
def sh11:List ((Nat→Nat)→O):=[fun p=>.bin .geq (.t (p 0)) (.c (.i .i64 (-1))),
fun p=>.call (.fn i_Q99) [(.t (p 0))],
fun p=>.call (.fn i_Q100) [(.t (p 0))],
fun p=>.call (.fn i_Q101) [(.t (p 0)),(.t (p 1))],
fun p=>.call (.fn i_Q5) [(.t (p 0)),(.t (p 1))],
fun p=>.store 1 (.t (p 0)) (.c .ns),
fun p=>.call (.fn i_Q102) [(.t (p 0)),(.c (.i .i64 (xgi (p 1))))],
fun p=>.call (.fn i_Q102) [(.t (p 0)),(.t (p 1))],
fun p=>.slice 2 (.t (p 0)) none (some (.t (p 1))) none,
fun p=>.slice 2 (.t (p 0)) none (some (.t (p 1))) (some (.t (p 2))),
fun p=>.iad 2 (.t (p 0)) (.c (.i .i64 (xgi (p 1)))),
fun p=>.call (.fn i_Q103) [(.t (p 0)),(.t (p 1))],
fun p=>.call (.fn i_Q81) [(.t (p 0)),(.t (p 1))],
fun p=>.eq true (.agg [.i,.i,.i]) (.t (p 0)) (.t (p 1)),
fun p=>.appz [(.i .i64 0),(.i .i64 0),(.i .i64 0)] (.t (p 0)) (.t (p 1)),
fun p=>.appz [.ns] (.t (p 0)) (.t (p 1)),
fun p=>.build [(.i .i64 0),(.i .i64 0),(.i .i64 0),(.i .i64 0),(.i .i64 0),(.i .i64 0)] [(3,1,(.c (.i .i64 (xgi (p 0)))))],
fun p=>.build [(.i .i64 0),(.i .i64 0),(.i .i64 0),(.i .i64 0),(.i .i64 0),(.i .i64 0)] [(0,3,(.t (p 0))),(3,1,(.t (p 1)))],
fun p=>.alloc [(.i .i64 0),(.i .i64 0),(.i .i64 0),(.i .i64 0),(.i .i64 0),(.i .i64 0)],
fun p=>.slice 6 (.t (p 0)) none (some (.t (p 1))) none,
fun p=>.call (.fn i_Q105) [(.t (p 0)),(.t (p 1))],
fun p=>.call (.fn i_Q106) [(.t (p 0)),(.t (p 1))],
fun p=>.call (.fn i_Q107) [(.t (p 0))],
fun p=>.call (.fn i_Q87) [(.t (p 0)),(.t (p 1))]]
def sh12:List ((Nat→Nat)→O):=[fun p=>.call (.fn i_Q88) [(.t (p 0)),(.t (p 1))],
fun p=>.call (.fn i_Q108) [(.t (p 0)),(.t (p 1))],
fun p=>.bin .geq (.t (p 0)) (.c (.i .u8 48)),
fun p=>.bin .leq (.t (p 0)) (.c (.i .u8 57)),
fun p=>.bin .eql (.t (p 0)) (.c (.i .u8 95)),
fun p=>.bin .lss (.t (p 0)) (.c (.i .u8 97)),
fun p=>.bin .gtr (.t (p 0)) (.c (.i .u8 122)),
fun p=>.bin .geq (.t (p 0)) (.c (.i .i64 512)),
fun p=>.bin .gtr (.t (p 0)) (.c (.i .i64 255)),
fun p=>.load 5 true (.t (p 0)),
fun p=>.idx 1 5 false (.t (p 0)) (.t (p 1))]
def shB:Nat→List ((Nat→Nat)→O)
 | 0=>sh0
 | 1=>sh1
 | 2=>sh2
 | 3=>sh3
 | 4=>sh4
 | 5=>sh5
 | 6=>sh6
 | 7=>sh7
 | 8=>sh8
 | 9=>sh9
 | 10=>sh10
 | 11=>sh11
 | _=>sh12
def shp (s:Nat) (p:Nat→Nat):O:=xgt (fun _=>.e0) (shB (s / 24)) (s % 24) p
def nps:List Nat:=[1,1,2,1,1,2,2,2,0,0,2,1,2,1,2,1,2,2,2,2,1,2,2,1,1,1,2,2,2,0,2,2,0,2,2,2,2,0,2,2,2,2,2,2,1,2,1,2,1,2,1,2,2,2,2,2,0,2,1,1,2,2,1,2,1,2,0,2,2,0,0,1,2,1,3,1,1,0,1,1,3,1,1,2,1,2,1,2,2,1,3,0,2,1,2,1,1,1,2,2,2,2,1,2,2,2,2,1,1,2,3,3,1,0,3,3,2,2,1,1,1,1,2,1,1,0,1,0,1,0,3,2,3,2,1,0,1,0,1,3,2,3,3,2,1,0,0,2,1,1,2,2,1,3,2,1,1,1,1,2,2,0,1,1,1,1,3,5,2,1,2,0,0,4,1,2,2,1,0,1,5,4,1,1,1,2,1,2,1,2,3,2,2,2,2,3,2,3,1,3,3,1,2,0,1,1,1,3,3,0,1,1,2,2,3,1,1,1,1,2,2,0,0,2,2,2,2,2,1,3,1,1,1,1,1,0,1,1,1,2,3,1,3,4,1,0,1,2,1,1,2,2,2,2,1,1,2,0,1,0,3,2,2,2,1,1,1,2,2,1,2,2,2,3,2,2,2,2,2,2,1,2,0,2,2,2,1,2,2,2,1,1,1,1,1,1,1,1,2]
abbrev Rs:=List TO×List (Bool×List TO)
abbrev Rc:=Nat→Nat→Nat→Bool→Rs
def xfin (s:Nat) (d:Option Nat) (g:Option (Nat×Bool)) (l:List Nat) (r:Rs):Rs:=(⟨d,shp s (fun i=>xgt 0 l i),g⟩::r.1,r.2)
def xpar (R:Nat) (rc:Nat→List Nat→Rs):Nat→Nat→List Nat→Rs
 | 0,n,l=>rc n l
 | f+1,n,l=>xpar R rc f (n / R) (n % R::l)
def xdst (R s:Nat) (rc:Rc) (g:Option (Nat×Bool)) (gn:Nat) (gb:Bool) (p:Nat):Nat→Nat→Rs
 | 0,n=>xpar R (fun n l=>xfin s (some (p+1)) g l (rc n (p+1) gn gb)) (xgt 0 nps s) n []
 | 1,n=>xpar R (fun m l=>xfin s (some (n % R)) g l (rc m (n % R) gn gb)) (xgt 0 nps s) (n / R) []
 | _+2,n=>xpar R (fun n l=>xfin s none g l (rc n p gn gb)) (xgt 0 nps s) n []
def xgud (R s:Nat) (rc:Rc) (p gn:Nat) (gb:Bool):Nat→Nat→Rs
 | 0,n=>xdst R s rc none gn gb p (n % 3) (n / 3)
 | 1,n=>xdst R s rc (some (n % R,true)) (n % R) true p (n / R % 3) (n / R / 3)
 | 2,n=>xdst R s rc (some (n % R,false)) (n % R) false p (n / R % 3) (n / R / 3)
 | _+3,n=>xdst R s rc (some (gn,gb)) gn gb p (n % 3) (n / 3)
def xseg (b:Bool) (r:Rs):Rs:=([],(b,r.1)::r.2)
def xstp (R:Nat) (rc:Rc) (p gn:Nat) (gb:Bool):Nat→Nat→Rs
 | 0,_=>([],[])
 | 1,n=>xseg true (rc n p gn gb)
 | 2,n=>xseg false (rc n p gn gb)
 | s+3,n=>xgud R s rc p gn gb (n % 4) (n / 4)
def xdec (R:Nat):Nat→Rc
 | 0=>fun _ _ _ _=>([],[])
 | f+1=>fun n p gn gb=>xstp R (xdec R f) p gn gb (n % 302) (n / 302)
def xrad (n:Nat):Nat:=xgt 0 [32,64,128,512] (n % 4)
@[go_sem ↓] def k (n:Nat) {l:List TO} (h:(xdec (xrad n) 400 (n / 4) 511 0 true).1=l:=by conv=>lhs;cbv):List TO:=l
@[go_sem ↓] def kd (n:Nat) {l:List (Bool×List TO)} (h:(xdec (xrad n) 400 (n / 4) 511 0 true).2=l:=by conv=>lhs;cbv):List (Bool×List TO):=l
/-! horarium/horariumlaw11.ReduceSteps -/
@[go_sem] def Q0_0:=k 0x844c
@[go_sem] def Q0_1:=k 0x3b56bcaeef642997c92c
@[go_sem] def Q0_2:=k 0x15dbafb58a2fce3c2f0c
@[go_sem] def Q0_3:=k 0xcef45e793df120514c9458085ebb89baf96802d872db24ecf4
@[go_sem] def Q0_4:=k 0x19f58
@[go_sem] def Q0_5:=k 0x120a1a5354c
@[go_sem] def Q0_6:=k 0x301134f5d521c5ea8c3856591af292e7e4f2f2ace499
@[go_sem] def Q0_7:=k 0x6759d7cc78d
@[go_sem] def Q0_8:=k 0x2974257a26d72e04d7e5c1c4e86319750dac67b54109ed0d7c9f0b2379aae70f9
@[go_sem] def Q0_9:=k 0x75ae68f921e5ffec3c68d77dfbe13bc7c62a43148645b07f191d73b636fa9343eb9ee66fc7cca56441fd217fad
@[go_sem] def Q0_10:=k 0x844c
@[go_sem] def Q0_11:=k 0x3161dda1d424d
@[go_sem] def Q0_12:=k 0x9154dce52362f268c
def Q0_13:TC:=(.seq (.seq (.reg Q0_5) (.cond (.t 24) .skip (.exit 0))) (.seq (.block 1 (.seq (.reg Q0_6) (.seq (.seq (.reg Q0_7) (.cond (.t 34) (.seq (.reg Q0_8) .ret) .skip)) (.seq (.seq (.reg Q0_9) (.cond (.t 62) (.seq (.reg Q0_10) .ret) .skip)) (.reg Q0_11))))) (.reg Q0_12)))
@[go_sem] def Q0_14:=k 0x844c
def t_Q0:TF:=⟨64,[.t 2],(.seq (.reg Q0_0) (.seq (.reg Q0_1) (.seq (.reg Q0_2) (.seq (.reg Q0_3) (.seq (.seq (.reg Q0_4) (.block 0 (.loop Q0_13))) (.seq (.reg Q0_14) .ret))))))⟩
/-! (*horarium/horariumkeep.Tape).Config -/
@[go_sem] def Q1_0:=k 0x850c
@[go_sem] def Q1_1:=k 0xbdac
@[go_sem] def Q1_2:=k 0x128cbc8291305b8d69df30c
@[go_sem] def Q1_3:=k 0x12e18
@[go_sem] def Q1_4:=k 0x2dcc72ef80de80ec
@[go_sem] def Q1_5:=k 0x12c3caf58be42e557d6bd158528e97c74bc051e5f6cf6561ff1e381f15c276cada2f90d800d
@[go_sem] def Q1_6:=k 0x17a0bd911d281535f8d
@[go_sem] def Q1_7:=k 0x1b6602134e8cd
@[go_sem] def Q1_8:=kd 0x867c5769869b3bf67484e94bad4ab419ad8acd9659fb54db7819450111a842fc4bede472b9f585ccd48ee5e5a572ad1d
@[go_sem] def Q1_9:=k 0x1a65f772bb9dbd75a0d
def Q1_10:TC:=(.seq (.seq (.reg Q1_7) (.cond (.t 36) .skip (.exit 2))) (.seq (.block 3 (.dreg Q1_8)) (.reg Q1_9)))
@[go_sem] def Q1_11:=k 0xb2239
@[go_sem] def Q1_12:=k 0xb1462305
@[go_sem] def Q1_13:=k 0x28ceddd1d636d
@[go_sem] def Q1_14:=k 0x50f4d56c6ceffdbc7209646bf88f6e5d9bb30de403f47f813bb10c0d
@[go_sem] def Q1_15:=k 0xc177e4ac8fb921
def Q1_16:TC:=(.seq (.reg Q1_12) (.seq (.cond (.t 51) .skip (.exit 4)) (.seq (.block 5 (.seq (.reg Q1_13) (.reg Q1_14))) (.reg Q1_15))))
@[go_sem] def Q1_17:=k 0xe54239c9745e76eacdff254febd9a292ce1062b9b6
@[go_sem] def Q1_18:=k 0x6fbd7ea506b1faacc
def Q1_19:TC:=(.seq (.seq (.reg Q1_4) (.cond (.t 18) .skip (.exit 0))) (.seq (.block 1 (.seq (.reg Q1_5) (.seq (.seq (.reg Q1_6) (.block 2 (.loop Q1_10))) (.seq (.seq (.reg Q1_11) (.block 4 (.loop Q1_16))) (.reg Q1_17))))) (.reg Q1_18)))
@[go_sem] def Q1_20:=k 0x5fae289e9f67c1bf1d6e
@[go_sem] def Q1_21:=k 0x22d0d2bdf865f48ae74a52f5f9a82c14ce5eae
@[go_sem] def Q1_22:=k 0x3112a46718a0f0fa2a38953ae
@[go_sem] def Q1_23:=kd 0x19ecc4655e49f2bca80c5fb25d0c2d95ddcb35365964803e4fba74f317048aea06b8eb74e565c9d508455196d497ba487333bfdc8b9183781d24f2bd224a7f52b12335e4e49b0832f9c735241578924d60727b74dbdb7c8db2e
@[go_sem] def Q1_24:=k 0x272414ed9da176
@[go_sem] def Q1_25:=k 0x72be7320431da4e45b2ace5799b86a2ae
@[go_sem] def Q1_26:=k 0x17bd2842d90d5e8318391e2b914900031579e947536
@[go_sem] def Q1_27:=k 0x6ac3101bbea71ebfb26e
def Q1_28:TC:=(.seq (.seq (.reg Q1_21) (.cond (.t 75) .skip (.exit 6))) (.seq (.block 7 (.seq (.reg Q1_22) (.seq (.dreg Q1_23) (.seq (.seq (.reg Q1_24) (.cond (.t 101) (.reg Q1_25) .skip)) (.reg Q1_26))))) (.reg Q1_27)))
@[go_sem] def Q1_29:=k 0x9ca9717c72207548d8ee
@[go_sem] def Q1_30:=k 0x2c9ec614950a2e
@[go_sem] def Q1_31:=kd 0x18f3b5d6b38b8660b3bd366c8f85234acbf4dcbd435bc711166eaa22c2cf4cf10e173dc5e
@[go_sem] def Q1_32:=k 0xa233e53b02241f1d7b6e
def Q1_33:TC:=(.seq (.seq (.reg Q1_30) (.cond (.t 115) .skip (.exit 8))) (.seq (.block 9 (.dreg Q1_31)) (.reg Q1_32)))
@[go_sem] def Q1_34:=k 0x1612d1a3c4661e1c6378f1bf1af
def t_Q1:TF:=⟨129,[.cell 2 3 true],(.seq (.reg Q1_0) (.seq (.reg Q1_1) (.seq (.reg Q1_2) (.seq (.seq (.reg Q1_3) (.block 0 (.loop Q1_19))) (.seq (.seq (.reg Q1_20) (.block 6 (.loop Q1_28))) (.seq (.seq (.reg Q1_29) (.block 8 (.loop Q1_33))) (.seq (.reg Q1_34) .ret)))))))⟩
/-! horarium/reduce.Table -/
@[go_sem] def Q2_0:=k 0x856bc98cfa8468
@[go_sem] def Q2_1:=k 0x7373057e52aef054d40ec9ad0a33e443fac
@[go_sem] def Q2_2:=k 0x1c2e6cbd2e2c
@[go_sem] def Q2_3:=k 0xda419ee038f4866762798
@[go_sem] def Q2_4:=k 0x24027f97c94c
@[go_sem] def Q2_5:=k 0xe343486ed438a94a98c3d954
@[go_sem] def Q2_6:=k 0x301134f787bd670e86c3d1c11af292e54d8471b09499
@[go_sem] def Q2_7:=k 0x5eaf49e26bc32c78d
@[go_sem] def Q2_8:=k 0x2ec06b5a6ac9405b6228b78160b98351c61d9078beef0b1bec231ba2d4360cd
@[go_sem] def Q2_9:=k 0x3bc3d863d1651113d67a083020c5fabb2c6ff7aa1ddf163bbbf0d
@[go_sem] def Q2_10:=k 0x9ba243463ef56654d
@[go_sem] def Q2_11:=k 0x3ada532c76e6916d2d56ea5a465c2540074407caa8b9c4e3882ade8e
@[go_sem] def Q2_12:=kd 0x2d1c4c88b2ac8d63a7553d2673486e53bee
def t_Q2:TF:=⟨68,[.t 4,.cell 5 6 true,.t 6],(.seq (.reg Q2_0) (.seq (.reg Q2_1) (.seq (.seq (.reg Q2_2) (.cond (.t 19) (.reg Q2_3) .skip)) (.seq (.seq (.reg Q2_4) (.cond (.t 24) (.seq (.reg Q2_5) .ret) .skip)) (.seq (.reg Q2_6) (.seq (.reg Q2_7) (.seq (.reg Q2_8) (.seq (.seq (.reg Q2_9) (.cond (.t 54) (.seq (.reg Q2_10) (.reg Q2_11)) .skip)) (.seq (.dreg Q2_12) .ret)))))))))⟩
/-! horarium/horariumref3.Of -/
@[go_sem] def Q3_0:=k 0x2afc50
@[go_sem] def Q3_1:=k 0x13c4a4947b87e6ac
@[go_sem] def Q3_2:=k 0xc8683f827ec
@[go_sem] def Q3_3:=k 0xdda6e531d0992c
@[go_sem] def Q3_4:=k 0x408c2c2345debc5f81cc
@[go_sem] def Q3_5:=k 0x14d219857500fac
@[go_sem] def Q3_6:=k 0x12cc45c50
@[go_sem] def Q3_7:=k 0x1475430e2b98c
def t_Q3:TF:=⟨18,[.t 2,.t 3],(.seq (.reg Q3_0) (.seq (.seq (.reg Q3_1) (.seq (.reg Q3_2) (.cond (.t 9) (.seq (.reg Q3_3) .ret) .skip))) (.seq (.reg Q3_4) (.seq (.seq (.reg Q3_5) (.cond (.t 16) (.seq (.reg Q3_6) .ret) .skip)) (.seq (.reg Q3_7) .ret)))))⟩
/-! horarium/horariumref3.Total -/
@[go_sem] def Q4_0:=k 0x8438
@[go_sem] def Q4_1:=k 0xbcd8
@[go_sem] def Q4_2:=k 0x9aff78ae6ac
@[go_sem] def Q4_3:=k 0x7479ca4
@[go_sem] def Q4_4:=k 0x3499c0eeed384e2a9e970
@[go_sem] def Q4_5:=k 0x20c1b07b04a0de7bc8230f8766c
@[go_sem] def Q4_6:=k 0x32ea5598eb100
def Q4_7:TC:=(.seq (.reg Q4_3) (.seq (.cond (.t 9) .skip (.exit 0)) (.seq (.block 1 (.seq (.reg Q4_4) (.reg Q4_5))) (.reg Q4_6))))
@[go_sem] def Q4_8:=k 0x1abad0d4918c
def t_Q4:TF:=⟨18,[.t 2],(.seq (.reg Q4_0) (.seq (.reg Q4_1) (.seq (.seq (.reg Q4_2) (.block 0 (.loop Q4_7))) (.seq (.reg Q4_8) .ret))))⟩
/-! horarium/horariumref7.Holds -/
@[go_sem] def Q5_0:=k 0x364bab8468
@[go_sem] def Q5_1:=k 0x2326651cadf32f134
@[go_sem] def Q5_2:=k 0xbd89bc4
@[go_sem] def Q5_3:=k 0x3ff010f802cb200eae8d8
@[go_sem] def Q5_4:=k 0x25bcfc40b2ceadaf1aed2f8e2a68666acf698c
@[go_sem] def Q5_5:=k 0x566d1d5fd9dce2f9a1e589aafa1b94d718d10df012889ce44a98cbc51a334bf366e980c1955
@[go_sem] def Q5_6:=k 0x877178
@[go_sem] def Q5_7:=k 0x716086b5983181
def Q5_8:TC:=(.seq (.reg Q5_2) (.seq (.cond (.t 14) .skip (.exit 0)) (.seq (.block 1 (.seq (.reg Q5_3) (.seq (.reg Q5_4) (.seq (.reg Q5_5) (.cond (.t 35) (.seq (.reg Q5_6) .ret) .skip))))) (.reg Q5_7))))
@[go_sem] def Q5_9:=k 0x4911ee070efe249215
@[go_sem] def Q5_10:=k 0x8fc13ca5
@[go_sem] def Q5_11:=k 0x4a6f8cc22f944e4ebe8338d3470ed9d2d
@[go_sem] def Q5_12:=kd 0x2ef476ef88b64c8da99114ae0fb34a32234d6ca4a4ca4e15eaf0e125021b85318e4232ed099d
@[go_sem] def Q5_13:=k 0x8e8578
@[go_sem] def Q5_14:=k 0xb795d9a12b0f41
def Q5_15:TC:=(.seq (.reg Q5_10) (.seq (.cond (.t 41) .skip (.exit 2)) (.seq (.block 3 (.seq (.reg Q5_11) (.seq (.dreg Q5_12) (.cond (.t 57) (.seq (.reg Q5_13) .ret) .skip)))) (.reg Q5_14))))
@[go_sem] def Q5_16:=k 0xf578
def t_Q5:TF:=⟨59,[.t 4],(.seq (.reg Q5_0) (.seq (.seq (.reg Q5_1) (.block 0 (.loop Q5_8))) (.seq (.seq (.reg Q5_9) (.block 2 (.loop Q5_15))) (.seq (.reg Q5_16) .ret))))⟩
/-! horarium/horariumlaw11.known -/
@[go_sem] def Q6_0:=k 0x130c
@[go_sem] def Q6_1:=k 0xe9bd2743227247e65690
@[go_sem] def Q6_2:=k 0x5e992848b9cf98240
@[go_sem] def Q6_3:=k 0x324859a0b5bfef65ca20d27e0c44ce28fdf6a047ed7af32f667adaf8
@[go_sem] def Q6_4:=k 0x11ca5d053390123b1b7b3a67acfa90801c16588e35b04b26758
@[go_sem] def Q6_5:=k 0x12835a6d1f6771cf81f08603eb5180d
@[go_sem] def Q6_6:=k 0x3c156def044889dafa17a8a9d35a4fe530e5a4c43199
@[go_sem] def Q6_7:=k 0x451898aac0f36d6149c4e41a5da81da943c298c58559
@[go_sem] def Q6_8:=k 0x1bab9eb3eb2346530d500fbc8dadf293d6a16610b96b0f4f4e26814c4369be904559fff55962c06f1a037ad75b5725779bc11fd7c9a9e4612934fa99c0e69f14981b9a79b592cbab5e948bbe6687fb42194f402fed081f494e59243cc68828b0e3b5336c58e9194d7c7d2689f12569543f5c25977333e01b3e581e39812bc52ad8ce6e2d6a1c8e89d8ee00ead155be00d20f309c514ccea8113cc3ffc3061828bab7ecea83052dc5b7250fbda00fea3aa1398a0084e
def t_Q6:TF:=⟨108,[.t 0],(.seq (.reg Q6_0) (.seq (.reg Q6_1) (.seq (.reg Q6_2) (.seq (.reg Q6_3) (.seq (.reg Q6_4) (.seq (.reg Q6_5) (.seq (.reg Q6_6) (.seq (.reg Q6_7) (.seq (.reg Q6_8) .ret)))))))))⟩
/-! (*horarium/horariumkeep.Tape).Table -/
@[go_sem] def Q7_0:=k 0x166d0
@[go_sem] def Q7_1:=k 0x43c28735240c981cc
@[go_sem] def Q7_2:=k 0x7734d6b6a79be3aabda9b18ea7ff9b0c
@[go_sem] def Q7_3:=k 0x1dbf393652cc
@[go_sem] def Q7_4:=k 0xc166307677f28f64cb051d333a9fb80c
@[go_sem] def Q7_5:=k 0xaff323670b61ed4af7e62412c0e62e18ce0a16337a5c033d32d
@[go_sem] def Q7_6:=k 0x1aa3da98cb02d
@[go_sem] def Q7_7:=k 0x2a6e820b7d0e57f970a43408e5ec9dd83442338f04eb6683ce01df446318c6e4096d
@[go_sem] def Q7_8:=k 0x1e1b4a03873e1b6092c76784d
@[go_sem] def Q7_9:=k 0x7fd175af7a6040ff456622d
@[go_sem] def Q7_10:=k 0x24938
@[go_sem] def Q7_11:=k 0x952b6b08e1bb75c0d
@[go_sem] def Q7_12:=k 0x301edb895a2629520457f4019f7d20ae73260c3d68b83b72e
@[go_sem] def Q7_13:=k 0x27971a1016b167a05ed
def Q7_14:TC:=(.seq (.seq (.reg Q7_11) (.cond (.t 55) .skip (.exit 0))) (.seq (.block 1 (.reg Q7_12)) (.reg Q7_13)))
@[go_sem] def Q7_15:=k 0x1975f07dc5438e
def t_Q7:TF:=⟨66,[.t 6],(.seq (.reg Q7_0) (.seq (.reg Q7_1) (.seq (.seq (.reg Q7_2) (.cond (.t 18) (.seq (.seq (.reg Q7_3) (.cond (.t 20) (.seq (.reg Q7_4) .ret) .skip)) (.seq (.reg Q7_5) .ret)) .skip)) (.seq (.seq (.reg Q7_6) (.cond (.t 35) (.seq (.reg Q7_7) .ret) .skip)) (.seq (.reg Q7_8) (.seq (.reg Q7_9) (.seq (.seq (.reg Q7_10) (.block 0 (.loop Q7_14))) (.seq (.reg Q7_15) .ret))))))))⟩
/-! horarium/reduce.Draw -/
@[go_sem] def Q8_0:=k 0x116f1a7a8468
@[go_sem] def Q8_1:=k 0x21f4f252a795c02bd982de84348ab37aac
def t_Q8:TF:=⟨11,[.t 4,.t 5],(.seq (.reg Q8_0) (.seq (.reg Q8_1) .ret))⟩
/-! horarium/reduce.Stuck -/
@[go_sem] def Q9_0:=k 0x11455fd18468
@[go_sem] def Q9_1:=kd 0x13bb44b87590640dc1ec75decffbda94ba4112b1ee4
def t_Q9:TF:=⟨12,[.t 4],(.seq (.reg Q9_0) (.seq (.dreg Q9_1) .ret))⟩
/-! horarium/horariumref3.Same -/
@[go_sem] def Q10_0:=k 0xf58c
@[go_sem] def Q10_1:=k 0x3f2abd0ecf981c02060ae6ac
@[go_sem] def Q10_2:=k 0xf58c
@[go_sem] def Q10_3:=k 0x9ee978001cc
@[go_sem] def Q10_4:=k 0xbd89bc4
@[go_sem] def Q10_5:=k 0x17becb46e84c
@[go_sem] def Q10_6:=kd 0x1eea7fa205b156f1a7d971675d6c972f99e40e1bb41e6c
@[go_sem] def Q10_7:=k 0xf58c
@[go_sem] def Q10_8:=k 0x4f95f6c7d2ea0
def Q10_9:TC:=(.seq (.reg Q10_4) (.seq (.cond (.t 14) .skip (.exit 0)) (.seq (.block 1 (.seq (.reg Q10_5) (.seq (.dreg Q10_6) (.cond (.t 24) (.seq (.reg Q10_7) .ret) .skip)))) (.reg Q10_8))))
@[go_sem] def Q10_10:=k 0xf600
def t_Q10:TF:=⟨26,[.t 4],(.seq (.reg Q10_0) (.seq (.seq (.reg Q10_1) (.cond (.t 10) (.seq (.reg Q10_2) .ret) .skip)) (.seq (.seq (.reg Q10_3) (.block 0 (.loop Q10_9))) (.seq (.reg Q10_10) .ret))))⟩
/-! horarium/reduce.Valid -/
@[go_sem] def Q11_0:=k 0x4f5ce03d08
@[go_sem] def Q11_1:=k 0x17e9c01dde7d02b6ff8525e0ce62545730ffc7450cd80a750ce3b75ef7cb4951488f72ca61a78334c
def t_Q11:TF:=⟨22,[.t 6],(.seq (.reg Q11_0) (.seq (.reg Q11_1) .ret))⟩
/-! horarium/horariumbook.Within -/
@[go_sem] def Q12_0:=k 0x166b8
@[go_sem] def Q12_1:=k 0xfa182776683b24e0fc3a4cf62b2563ba698d1f4c
@[go_sem] def Q12_2:=k 0x17cb514ee44c
@[go_sem] def Q12_3:=k 0x11d5a7465c0a3c549266ebbc107c7e8f31cec
@[go_sem] def Q12_4:=k 0x2271a20f70ac
@[go_sem] def Q12_5:=k 0x18a015f6b15a233fad6c889d2fefba9f4e1ec
@[go_sem] def Q12_6:=k 0x4eae1176fce86b29eb2ddad
def t_Q12:TF:=⟨33,[.t 6],(.seq (.reg Q12_0) (.seq (.seq (.reg Q12_1) (.cond (.t 14) (.seq (.reg Q12_2) .ret) .skip)) (.seq (.reg Q12_3) (.seq (.seq (.reg Q12_4) (.cond (.t 23) (.reg Q12_5) .skip)) (.seq (.reg Q12_6) .ret)))))⟩
/-! (*horarium/horariumkeep.Tape).Next -/
@[go_sem] def Q13_0:=k 0xf578
@[go_sem] def Q13_1:=kd 0xd33a7dad7d8d75548bf43f762cdcf10c9a5291e61988bdce0ce05a231425d9b16c522c
@[go_sem] def Q13_2:=k 0xf578
@[go_sem] def Q13_3:=k 0x26a9a046a39575b2fec320e4c269d988b961846cc
@[go_sem] def Q13_4:=kd 0x1d61929d97782945025e7c2f98011eab892815a0fd8e89c9affce5325200cdc3f81b855fdaf85f1ded
def t_Q13:TF:=⟨40,[.t 4],(.seq (.reg Q13_0) (.seq (.seq (.dreg Q13_1) (.cond (.t 18) (.seq (.reg Q13_2) .ret) .skip)) (.seq (.reg Q13_3) (.seq (.dreg Q13_4) .ret))))⟩
/-! (*horarium/horariumkeep.Tape).frame -/
@[go_sem] def Q14_0:=k 0xf590
@[go_sem] def Q14_1:=k 0xc75cb66e8835ba9d0d57ec
@[go_sem] def Q14_2:=k 0x65de20a9a5b9fd6fdc55fc8782ee59d9e6c
@[go_sem] def Q14_3:=k 0x57ac502190063052935d465c66a21d4799a22c35894d84050c50180f28ec
@[go_sem] def Q14_4:=k 0x332bee3b831bdc4bc81024572510e8958df2f7b8b5b24095c1
@[go_sem] def Q14_5:=k 0x1b738d05c98cd
def t_Q14:TF:=⟨36,[.t 4],(.seq (.reg Q14_0) (.seq (.reg Q14_1) (.seq (.seq (.reg Q14_2) (.seq (.reg Q14_3) (.cond (.t 27) (.seq (.reg Q14_4) .ret) .skip))) (.seq (.reg Q14_5) .ret))))⟩
/-! (*horarium/horariumkeep.Tape).asks -/
@[go_sem] def Q15_0:=k 0x343b5108
@[go_sem] def Q15_1:=k 0x12e30
@[go_sem] def Q15_2:=k 0x253a51b02761f2cb4
@[go_sem] def Q15_3:=k 0x16ce3344
@[go_sem] def Q15_4:=k 0x9c69c4907c7d0800c
@[go_sem] def Q15_5:=k 0x38067b49877d1b9bcb6df26138d6401867cdad
@[go_sem] def Q15_6:=k 0x141b120a32ac090378f7ef6c602d
@[go_sem] def Q15_7:=k 0x783a059010a2c1
def Q15_8:TC:=(.seq (.reg Q15_3) (.seq (.cond (.t 26) .skip (.exit 0)) (.seq (.block 1 (.seq (.reg Q15_4) (.seq (.reg Q15_5) (.reg Q15_6)))) (.reg Q15_7))))
@[go_sem] def Q15_9:=k 0x496a955bebc9bd2b55
@[go_sem] def Q15_10:=k 0x96f1fde5
@[go_sem] def Q15_11:=k 0x2291eefca5e6d
@[go_sem] def Q15_12:=k 0x281d8
@[go_sem] def Q15_13:=k 0x53f4ef66cf0d
@[go_sem] def Q15_14:=k 0xa8ebe105
@[go_sem] def Q15_15:=k 0x22c64472d484fe641cd
@[go_sem] def Q15_16:=kd 0x303741e0f1c39c0274875371efe677616c4d57f18bfa3d3824662010c26e4a734e6a4d3cff1bf9b155ede07fcae
@[go_sem] def Q15_17:=k 0x2066030cb1ae089aefb0b22845daac1242d38e
@[go_sem] def Q15_18:=k 0x2824c
@[go_sem] def Q15_19:=k 0x2cc9beabd828c9499a33f374e
@[go_sem] def Q15_20:=k 0xe8dea811584c142
def Q15_21:TC:=(.seq (.reg Q15_14) (.seq (.cond (.t 48) .skip (.exit 4)) (.seq (.block 5 (.seq (.reg Q15_15) (.seq (.dreg Q15_16) (.seq (.reg Q15_17) (.cond (.t 70) (.reg Q15_18) (.reg Q15_19)))))) (.reg Q15_20))))
@[go_sem] def Q15_22:=k 0x83c8734872895307c208dbda3fccb8eaf5abb50819ce
@[go_sem] def Q15_23:=kd 0x146f0cac90d71371769cde53a1eb12d1c3525f34a6c3ba05fa21ab8c25b4383ca74641c924df115e
@[go_sem] def Q15_24:=k 0x1211c1a12ec0bc82
def Q15_25:TC:=(.seq (.reg Q15_10) (.seq (.cond (.t 43) .skip (.exit 2)) (.seq (.block 3 (.seq (.reg Q15_11) (.seq (.reg Q15_12) (.seq (.seq (.reg Q15_13) (.block 4 (.loop Q15_21))) (.seq (.reg Q15_22) (.cond (.t 81) (.dreg Q15_23) .skip)))))) (.reg Q15_24))))
@[go_sem] def Q15_26:=k 0x1a0e9630db0aa8130effd87d32350e
@[go_sem] def Q15_27:=k 0x1e5f4eb68353638d7f9fb85878e
@[go_sem] def Q15_28:=k 0x2724c23bdb316e
@[go_sem] def Q15_29:=k 0x40f4b943527874bd45037c3ee
@[go_sem] def Q15_30:=k 0x437b02ecc91af2ef03038a66e
@[go_sem] def Q15_31:=k 0x8eda650781585f8ba2ae
def Q15_32:TC:=(.seq (.seq (.reg Q15_28) (.cond (.t 101) .skip (.exit 6))) (.seq (.block 7 (.seq (.reg Q15_29) (.cond (.t 107) (.seq (.reg Q15_30) (.exit 6)) .skip))) (.reg Q15_31)))
@[go_sem] def Q15_33:=k 0x985f876fd37306d9056
@[go_sem] def Q15_34:=k 0x65a68d2e6
@[go_sem] def Q15_35:=k 0x2d74bc4e2d5b6e
@[go_sem] def Q15_36:=k 0x41158
@[go_sem] def Q15_37:=k 0x2b4c9deff840e
@[go_sem] def Q15_38:=k 0x6a1bf7e06
@[go_sem] def Q15_39:=k 0xa9371fb82a7cf58c06ce
@[go_sem] def Q15_40:=k 0x6caeb055d60e8c80ded335e68f0436a770cf841a7f91c7cf
@[go_sem] def Q15_41:=k 0x194a8ee0484a0ddba3
def Q15_42:TC:=(.seq (.reg Q15_38) (.seq (.cond (.t 120) .skip (.exit 10)) (.seq (.block 11 (.seq (.reg Q15_39) (.reg Q15_40))) (.reg Q15_41))))
@[go_sem] def Q15_43:=k 0xe08ad7bd0fa73060e0b52ea39f0a68b94ccce0ada54413542f
@[go_sem] def Q15_44:=kd 0x3ec3183e40f74cdcbf0d3e2c93e61ee84a1c1f7a77b145ec307b76f275ab025c4dbb8698dba44e7265e3d26e820245251ad7990d486cf340deada60df89ebb88c8fb29510f4bc990ee8fb4a26e9f
@[go_sem] def Q15_45:=k 0x1dfc77205bdd932aa3
def Q15_46:TC:=(.seq (.reg Q15_34) (.seq (.cond (.t 115) .skip (.exit 8)) (.seq (.block 9 (.seq (.reg Q15_35) (.seq (.reg Q15_36) (.seq (.seq (.reg Q15_37) (.block 10 (.loop Q15_42))) (.seq (.reg Q15_43) (.cond (.t 136) (.dreg Q15_44) .skip)))))) (.reg Q15_45))))
@[go_sem] def Q15_47:=k 0x1ad6a0d44d5af4ef5e35b
@[go_sem] def Q15_48:=k 0x22f4719362cdbc01768d17
@[go_sem] def Q15_49:=k 0x8dd67a6fa7
@[go_sem] def Q15_50:=k 0xfdb21c5ee6be82f
@[go_sem] def Q15_51:=kd 0x43d2485e04b7327e7b17ef62460092792f02367fa85e907fc3ca7184911f48feb58789af27763fa21f7db6aab69bb6b3a1f
@[go_sem] def Q15_52:=k 0x21eaf6ac7490979723
def Q15_53:TC:=(.seq (.reg Q15_49) (.seq (.cond (.t 161) .skip (.exit 12)) (.seq (.block 13 (.seq (.reg Q15_50) (.dreg Q15_51))) (.reg Q15_52))))
@[go_sem] def Q15_54:=k 0x6cbef961fa4fdb
def t_Q15:TF:=⟨175,[.cell 4 3 true],(.seq (.reg Q15_0) (.seq (.reg Q15_1) (.seq (.seq (.reg Q15_2) (.block 0 (.loop Q15_8))) (.seq (.seq (.reg Q15_9) (.block 2 (.loop Q15_25))) (.seq (.reg Q15_26) (.seq (.seq (.reg Q15_27) (.block 6 (.loop Q15_32))) (.seq (.seq (.reg Q15_33) (.block 8 (.loop Q15_46))) (.seq (.seq (.reg Q15_47) (.cond (.t 156) (.seq (.reg Q15_48) (.block 12 (.loop Q15_53))) .skip)) (.seq (.reg Q15_54) .ret)))))))))⟩
/-! horarium/runs.Of -/
@[go_sem] def Q16_0:=k 0x2afc50
@[go_sem] def Q16_1:=k 0x1c14525537ff908c
@[go_sem] def Q16_2:=k 0x1138e978d1cc
@[go_sem] def Q16_3:=k 0x12024520dd1430c
@[go_sem] def Q16_4:=k 0x12e30
@[go_sem] def Q16_5:=k 0x2a1ac78aab032bac
@[go_sem] def Q16_6:=k 0xf056eeeacdabb7da85de484e9d65551473ccd8c
@[go_sem] def Q16_7:=k 0x1071acad80c
@[go_sem] def Q16_8:=k 0x1c5fbca40da20fb7792f658d4c
def Q16_9:TC:=(.block 1 (.seq (.reg Q16_6) (.seq (.seq (.reg Q16_7) (.cond (.t 22) (.exit 0) .skip)) (.reg Q16_8))))
@[go_sem] def Q16_10:=k 0x4e088eaa95736fcc
@[go_sem] def Q16_11:=k 0x2999574832f610c
@[go_sem] def Q16_12:=k 0x12cc45c50
@[go_sem] def Q16_13:=k 0x145ad7713beeed
def t_Q16:TF:=⟨33,[.t 2,.t 3],(.seq (.reg Q16_0) (.seq (.seq (.reg Q16_1) (.seq (.reg Q16_2) (.cond (.t 12) (.seq (.reg Q16_3) .ret) .skip))) (.seq (.reg Q16_4) (.seq (.reg Q16_5) (.seq (.block 0 (.loop Q16_9)) (.seq (.seq (.reg Q16_10) (.seq (.reg Q16_11) (.cond (.t 31) (.seq (.reg Q16_12) .ret) .skip))) (.seq (.reg Q16_13) .ret)))))))⟩
/-! horarium/bound.Holds -/
@[go_sem] def Q17_0:=k 0x364bab8468
@[go_sem] def Q17_1:=k 0x2326651cadf32f134
@[go_sem] def Q17_2:=k 0xbd89bc4
@[go_sem] def Q17_3:=k 0x3ff010f802cb200eae8d8
@[go_sem] def Q17_4:=k 0x25bcfc40b2dbd3850bd6f9382a68666acf698c
@[go_sem] def Q17_5:=k 0x159b4759cdbc13f4ceea6ded05c7fa85f3ec928a6e335aa7fda4656ba334bf366e980c1955
@[go_sem] def Q17_6:=k 0x877178
@[go_sem] def Q17_7:=k 0x716086b5983181
def Q17_8:TC:=(.seq (.reg Q17_2) (.seq (.cond (.t 14) .skip (.exit 0)) (.seq (.block 1 (.seq (.reg Q17_3) (.seq (.reg Q17_4) (.seq (.reg Q17_5) (.cond (.t 35) (.seq (.reg Q17_6) .ret) .skip))))) (.reg Q17_7))))
@[go_sem] def Q17_9:=k 0x4911ee070efe249215
@[go_sem] def Q17_10:=k 0x8fc13ca5
@[go_sem] def Q17_11:=k 0x4a6f8cc22f944e4ebe8338d3470ed9d2d
@[go_sem] def Q17_12:=kd 0x2ef476ef88b64c8da99114ae0fb3752a709898183cb7172298f0e125021b85318e4232ed099d
@[go_sem] def Q17_13:=k 0x8e8578
@[go_sem] def Q17_14:=k 0xb795d9a12b0f41
def Q17_15:TC:=(.seq (.reg Q17_10) (.seq (.cond (.t 41) .skip (.exit 2)) (.seq (.block 3 (.seq (.reg Q17_11) (.seq (.dreg Q17_12) (.cond (.t 57) (.seq (.reg Q17_13) .ret) .skip)))) (.reg Q17_14))))
@[go_sem] def Q17_16:=k 0xf578
def t_Q17:TF:=⟨59,[.t 4],(.seq (.reg Q17_0) (.seq (.seq (.reg Q17_1) (.block 0 (.loop Q17_8))) (.seq (.seq (.reg Q17_9) (.block 2 (.loop Q17_15))) (.seq (.reg Q17_16) .ret))))⟩
/-! horarium/reduce.Runs -/
@[go_sem] def Q18_0:=k 0x99b1bfa8468
@[go_sem] def Q18_1:=k 0x21cb19c9313b95cc
@[go_sem] def Q18_2:=k 0x1a290
@[go_sem] def Q18_3:=k 0x1d7f8
@[go_sem] def Q18_4:=k 0x6fa377f8bc54ed8a22930a332c772ce3de0dc1b6e028ec
@[go_sem] def Q18_5:=k 0x113a13d38ac
@[go_sem] def Q18_6:=k 0x7a903ddb3463677759ec
@[go_sem] def Q18_7:=k 0x29041b11072c
@[go_sem] def Q18_8:=k 0x4f03c27a72033930c
def Q18_9:TC:=(.seq (.block 1 (.seq (.reg Q18_4) (.seq (.seq (.reg Q18_5) (.cond (.t 23) (.seq (.reg Q18_6) .ret) .skip)) (.reg Q18_7)))) (.reg Q18_8))
def t_Q18:TF:=⟨27,[.t 4,.t 5],(.seq (.reg Q18_0) (.seq (.reg Q18_1) (.seq (.reg Q18_2) (.seq (.reg Q18_3) (.block 0 (.loop Q18_9))))))⟩
/-! horarium/fold.Table -/
@[go_sem] def Q19_0:=k 0x8450
@[go_sem] def Q19_1:=k 0x9b48f69ce7e6ac
@[go_sem] def Q19_2:=k 0x8450
@[go_sem] def Q19_3:=k 0x1bfe2886b37a908c
@[go_sem] def Q19_4:=k 0xf3f214dadf34c9fe4a0b60589853abdcc
@[go_sem] def Q19_5:=k 0x5e31d9d298b24ecf4
@[go_sem] def Q19_6:=k 0x379c41e5b0bb82cc
@[go_sem] def Q19_7:=kd 0x54f8bc032b34af33f91b2887025fc86ad5b8e300f815bfbce9d3fa3bb2ddf2bd7f38bcde1889f24d0b254b4c5f5e79d
@[go_sem] def Q19_8:=kd 0x18e8febfd83c02258fa9106153353172d552397eecea865395d8efd68a49bb091782f6eab1c5f2960a776d0e93549aa695bb537a2d
def Q19_9:TC:=(.block 1 (.seq (.reg Q19_4) (.seq (.seq (.reg Q19_5) (.cond (.t 18) (.seq (.reg Q19_6) .ret) .skip)) (.seq (.dreg Q19_7) (.dreg Q19_8)))))
def t_Q19:TF:=⟨55,[.t 2],(.seq (.reg Q19_0) (.seq (.seq (.reg Q19_1) (.cond (.t 8) (.seq (.reg Q19_2) .ret) .skip)) (.seq (.reg Q19_3) (.block 0 (.loop Q19_9)))))⟩
/-! horarium/node.Right -/
@[go_sem] def Q20_0:=k 0x8438
@[go_sem] def Q20_1:=k 0x3d1f722b9edb24c0f52b9516ed38d9ce6ac
@[go_sem] def Q20_2:=k 0x4150440af331638001cc
@[go_sem] def Q20_3:=k 0x15c038
@[go_sem] def Q20_4:=k 0x558921eab26d5614644c
@[go_sem] def Q20_5:=k 0x557438
@[go_sem] def Q20_6:=k 0xd383ffac082c3281646cc
@[go_sem] def Q20_7:=k 0x639c38
@[go_sem] def Q20_8:=k 0x446c6dbc80f6f94c
@[go_sem] def Q20_9:=k 0x7fec38
@[go_sem] def Q20_10:=k 0x8438
def t_Q20:TF:=⟨25,[.t 2],(.seq (.reg Q20_0) (.seq (.reg Q20_1) (.seq (.block 0 (.seq (.reg Q20_2) (.cond (.t 10) (.seq (.reg Q20_3) .ret) (.seq (.reg Q20_4) (.cond (.t 14) (.seq (.reg Q20_5) .ret) (.seq (.reg Q20_6) (.cond (.t 18) (.seq (.reg Q20_7) .ret) (.seq (.reg Q20_8) (.cond (.t 22) (.seq (.reg Q20_9) .ret) .skip))))))))) (.seq (.reg Q20_10) .ret))))⟩
/-! slices.Clone[[]horarium/api.Node,horarium/api.Node] -/
@[go_sem] def Q21_0:=k 0x8450
@[go_sem] def Q21_1:=k 0x26038a3ccc
@[go_sem] def Q21_2:=k 0x8450
@[go_sem] def Q21_3:=k 0x22ac8731328624726c00
def t_Q21:TF:=⟨8,[.t 2],(.seq (.reg Q21_0) (.seq (.seq (.reg Q21_1) (.cond (.t 4) (.seq (.reg Q21_2) .ret) .skip)) (.seq (.reg Q21_3) .ret)))⟩
/-! horarium/horariumref3.Right -/
@[go_sem] def Q22_0:=k 0x8438
@[go_sem] def Q22_1:=k 0x85c05d0526ae0c
@[go_sem] def Q22_2:=k 0x15c038
@[go_sem] def Q22_3:=k 0x18ef1d916d3957ec
@[go_sem] def Q22_4:=k 0x557438
@[go_sem] def Q22_5:=k 0x22a1797a89e601cc
@[go_sem] def Q22_6:=k 0x639c38
@[go_sem] def Q22_7:=k 0x7a3d775e81dcc25e3d02b03fcdd5ce7e44c
@[go_sem] def Q22_8:=k 0xee0de616cc
@[go_sem] def Q22_9:=k 0x7fec38
@[go_sem] def Q22_10:=k 0x8438
def t_Q22:TF:=⟨21,[.t 2],(.seq (.reg Q22_0) (.seq (.seq (.reg Q22_1) (.cond (.t 7) (.seq (.reg Q22_2) .ret) .skip)) (.seq (.seq (.reg Q22_3) (.cond (.t 10) (.seq (.reg Q22_4) .ret) .skip)) (.seq (.seq (.reg Q22_5) (.cond (.t 13) (.seq (.reg Q22_6) .ret) .skip)) (.seq (.seq (.reg Q22_7) (.seq (.reg Q22_8) (.cond (.t 20) (.seq (.reg Q22_9) .ret) .skip))) (.seq (.reg Q22_10) .ret))))))⟩
/-! horarium/horariumref3.Tidy -/
@[go_sem] def Q23_0:=k 0x8450
@[go_sem] def Q23_1:=k 0xbcf0
@[go_sem] def Q23_2:=k 0x9bc7def1f4c
@[go_sem] def Q23_3:=k 0x8316944
@[go_sem] def Q23_4:=k 0x34e830e558d95b013b610
@[go_sem] def Q23_5:=k 0x27558d9ef2ddaf0c
@[go_sem] def Q23_6:=k 0x58d3c620d7dc94854
@[go_sem] def Q23_7:=kd 0x282b873a2a69600db252f0cd5ae44ae52cec8a8ccccb8be70fa84f00e17c851aa47ec
@[go_sem] def Q23_8:=kd 0x27a0c49b59adc38a9175b5c663e3e5baf8c8df7426c4561722c5470e15a20a7b825ae32ff765da3bfeaadad
@[go_sem] def Q23_9:=k 0x1a0d810599f2ab5e0ef5f8087f0d
@[go_sem] def Q23_10:=k 0x99e332177311a1
def Q23_11:TC:=(.seq (.reg Q23_3) (.seq (.cond (.t 10) .skip (.exit 0)) (.seq (.block 1 (.seq (.reg Q23_4) (.seq (.reg Q23_5) (.seq (.seq (.reg Q23_6) (.cond (.t 17) (.exit 1) .skip)) (.seq (.dreg Q23_7) (.cond (.t 30) (.dreg Q23_8) (.reg Q23_9))))))) (.reg Q23_10))))
@[go_sem] def Q23_12:=k 0x272b479239a2d
def t_Q23:TF:=⟨51,[.t 2],(.seq (.reg Q23_0) (.seq (.reg Q23_1) (.seq (.seq (.reg Q23_2) (.block 0 (.loop Q23_11))) (.seq (.reg Q23_12) .ret))))⟩
/-! horarium/horariumref3.Leaves -/
@[go_sem] def Q24_0:=k 0x8450
@[go_sem] def Q24_1:=k 0x16914669c59ebbccc
def t_Q24:TF:=⟨5,[.t 2],(.seq (.reg Q24_0) (.seq (.reg Q24_1) .ret))⟩
/-! horarium/horariumref3.Sum -/
@[go_sem] def Q25_0:=k 0xf578
@[go_sem] def Q25_1:=k 0x1eb44399354849de72f8aef7f04ae0c
@[go_sem] def Q25_2:=k 0x2dceedcb857a1d8d908c
@[go_sem] def Q25_3:=k 0xf768
@[go_sem] def Q25_4:=k 0x9465e62871d7b278e730c
def t_Q25:TF:=⟨16,[.t 4],(.seq (.reg Q25_0) (.seq (.reg Q25_1) (.seq (.seq (.reg Q25_2) (.cond (.t 12) (.seq (.reg Q25_3) .ret) .skip)) (.seq (.reg Q25_4) .ret))))⟩
/-! horarium/horariumref7.Late -/
@[go_sem] def Q26_0:=k 0x166b8
@[go_sem] def Q26_1:=k 0x2fbb652f67ab1cec
@[go_sem] def Q26_2:=k 0x89d00957f8
@[go_sem] def Q26_3:=k 0xa46446f1a2c
@[go_sem] def Q26_4:=k 0x123d3424
@[go_sem] def Q26_5:=k 0x81932377c44bf80ec
@[go_sem] def Q26_6:=k 0x64e0b1df05ce5dca35d2df7c5a0bf585861f47b24defd3a946e6236886fe3f8fe1e6ca2c9ed
@[go_sem] def Q26_7:=k 0x71b8338a5e3181
def Q26_8:TC:=(.seq (.reg Q26_4) (.seq (.cond (.t 21) .skip (.exit 0)) (.seq (.block 1 (.seq (.reg Q26_5) (.reg Q26_6))) (.reg Q26_7))))
@[go_sem] def Q26_9:=k 0x73e03cbd20d
@[go_sem] def Q26_10:=k 0x166b8
@[go_sem] def Q26_11:=k 0x7a236de1b4d
@[go_sem] def Q26_12:=k 0x1672c
@[go_sem] def Q26_13:=k 0x532c89423c8d
@[go_sem] def Q26_14:=k 0x9a8a5e85
@[go_sem] def Q26_15:=k 0x197b9e0a408b7f72de0494d8bf0d
@[go_sem] def Q26_16:=k 0x8719fc7b0f4fee0ed
@[go_sem] def Q26_17:=k 0xa7858
@[go_sem] def Q26_18:=k 0xf96b6d00d0cbccdd38dd5ef8358f334e31799ac2408bd0e68e35c72cd
@[go_sem] def Q26_19:=k 0x2bcccb03e196ec221ad
def Q26_20:TC:=(.seq (.seq (.reg Q26_18) (.cond (.t 61) .skip (.exit 4))) (.block 5 (.reg Q26_19)))
@[go_sem] def Q26_21:=k 0x287bf1f130f8855b70928baee
@[go_sem] def Q26_22:=k 0xd2da6c45ce334e2
def Q26_23:TC:=(.seq (.reg Q26_14) (.seq (.cond (.t 44) .skip (.exit 2)) (.seq (.block 3 (.seq (.reg Q26_15) (.seq (.seq (.reg Q26_16) (.cond (.t 50) (.exit 3) .skip)) (.seq (.reg Q26_17) (.seq (.block 4 (.loop Q26_20)) (.reg Q26_21)))))) (.reg Q26_22))))
@[go_sem] def Q26_24:=k 0x1aa289dda99d6e
def t_Q26:TF:=⟨69,[.t 6],(.seq (.reg Q26_0) (.seq (.reg Q26_1) (.seq (.reg Q26_2) (.seq (.seq (.reg Q26_3) (.block 0 (.loop Q26_8))) (.seq (.seq (.reg Q26_9) (.cond (.t 38) (.seq (.reg Q26_10) .ret) .skip)) (.seq (.seq (.reg Q26_11) (.cond (.t 40) (.seq (.reg Q26_12) .ret) .skip)) (.seq (.seq (.reg Q26_13) (.block 2 (.loop Q26_23))) (.seq (.reg Q26_24) .ret))))))))⟩
/-! horarium/horariumref7.Budget -/
@[go_sem] def Q27_0:=k 0x166b8
@[go_sem] def Q27_1:=k 0x276bb76e547e730c
@[go_sem] def Q27_2:=k 0x41d6ddc9ce6ba04b8bd8f2c2424dac0c45ee1848087be9964fcb14dfba4a36d41000c4c
@[go_sem] def Q27_3:=k 0x1672c
@[go_sem] def Q27_4:=k 0xa7aaffdb3e80ca50c
@[go_sem] def Q27_5:=k 0x21098
@[go_sem] def Q27_6:=k 0x135002c94489677a14564d
@[go_sem] def Q27_7:=k 0x24938
@[go_sem] def Q27_8:=k 0x2d4ea7f356c1077e3e1ce1e40e04bc2bd1992ad
@[go_sem] def Q27_9:=k 0xa1bb1fc5
@[go_sem] def Q27_10:=k 0x2160e24825380b5808d
@[go_sem] def Q27_11:=k 0x89ea436d0ace2c98d
@[go_sem] def Q27_12:=k 0x24d1e02e7518679236d
@[go_sem] def Q27_13:=k 0xab4e15a6dc2cc1
def Q27_14:TC:=(.seq (.reg Q27_9) (.seq (.cond (.t 46) .skip (.exit 2)) (.seq (.block 3 (.seq (.reg Q27_10) (.seq (.reg Q27_11) (.cond (.t 51) (.reg Q27_12) .skip)))) (.reg Q27_13))))
@[go_sem] def Q27_15:=k 0x8c09263ef1e625756bb7d4d
@[go_sem] def Q27_16:=k 0x5b0cfa0244054f4f24538cd
def Q27_17:TC:=(.seq (.seq (.reg Q27_6) (.cond (.t 34) .skip (.exit 0))) (.seq (.block 1 (.seq (.reg Q27_7) (.seq (.seq (.reg Q27_8) (.block 2 (.loop Q27_14))) (.reg Q27_15)))) (.reg Q27_16)))
@[go_sem] def Q27_18:=k 0x2d7afffac272d
def t_Q27:TF:=⟨59,[.t 6],(.seq (.reg Q27_0) (.seq (.reg Q27_1) (.seq (.seq (.reg Q27_2) (.cond (.t 28) (.seq (.reg Q27_3) .ret) .skip)) (.seq (.reg Q27_4) (.seq (.seq (.reg Q27_5) (.block 0 (.loop Q27_17))) (.seq (.reg Q27_18) .ret))))))⟩
/-! horarium/reduce.Merge -/
@[go_sem] def Q28_0:=k 0x116f1a7a8468
@[go_sem] def Q28_1:=k 0x21f4f252a795c02bd982deb00ae8b37aac
def t_Q28:TF:=⟨11,[.t 4,.t 5],(.seq (.reg Q28_0) (.seq (.reg Q28_1) .ret))⟩
/-! horarium/reduce.Passes -/
@[go_sem] def Q29_0:=k 0x1310
@[go_sem] def Q29_1:=k 0x7610ca240416752300
def t_Q29:TF:=⟨4,[.t 0],(.seq (.reg Q29_0) (.seq (.reg Q29_1) .ret))⟩
/-! (horarium/reduce.rows).draw -/
@[go_sem] def Q30_0:=k 0x89d0f1d108
@[go_sem] def Q30_1:=k 0x6e1023cccbc80a05cd090d7ec
@[go_sem] def Q30_2:=k 0xbd89bc4
@[go_sem] def Q30_3:=k 0x49be3c461e0f0d1fae8b4
@[go_sem] def Q30_4:=k 0xac607483851b85dc091b8
@[go_sem] def Q30_5:=k 0x31e8cfe136b6c1c3c23b80c
@[go_sem] def Q30_6:=k 0x4c745dc7cf600
def Q30_7:TC:=(.seq (.reg Q30_2) (.seq (.cond (.t 14) .skip (.exit 0)) (.seq (.block 1 (.seq (.reg Q30_3) (.seq (.reg Q30_4) (.cond (.t 20) (.seq (.reg Q30_5) .ret) .skip)))) (.reg Q30_6))))
@[go_sem] def Q30_8:=k 0x4179782f5a2af9a8c
def t_Q30:TF:=⟨27,[.t 4,.t 5],(.seq (.reg Q30_0) (.seq (.seq (.reg Q30_1) (.block 0 (.loop Q30_7))) (.seq (.reg Q30_8) .ret)))⟩
/-! slices.ContainsFunc[[]horarium/move.Move,horarium/move.Move] -/
@[go_sem] def Q31_0:=k 0xf58c
@[go_sem] def Q31_1:=k 0x11a4b6643c82e26a574168cae0c
def t_Q31:TF:=⟨9,[.t 4],(.seq (.reg Q31_0) (.seq (.reg Q31_1) .ret))⟩
/-! horarium/move.All -/
@[go_sem] def Q32_0:=k 0xf590
@[go_sem] def Q32_1:=k 0x12e30
@[go_sem] def Q32_2:=k 0x9d58ab7908c
@[go_sem] def Q32_3:=k 0xa050284
@[go_sem] def Q32_4:=k 0x14a9b89c4f0c
@[go_sem] def Q32_5:=k 0x5461e2b296ca5a3ac
@[go_sem] def Q32_6:=k 0x5132007d2a4e4e5ca8ec
@[go_sem] def Q32_7:=k 0x982d85d06faf5c8c4bd92e8ac
@[go_sem] def Q32_8:=k 0xfd5786fa0e170d8111a8c
@[go_sem] def Q32_9:=k 0x34b2770a1a87682a096e476b556e581bad69ea59450d
@[go_sem] def Q32_10:=k 0x75a099b6e37ae0b6c
def Q32_11:TC:=(.seq (.seq (.reg Q32_6) (.cond (.t 19) .skip (.exit 2))) (.seq (.block 3 (.seq (.reg Q32_7) (.seq (.reg Q32_8) (.cond (.t 28) (.reg Q32_9) .skip)))) (.reg Q32_10)))
@[go_sem] def Q32_12:=k 0x714779e6843181
def Q32_13:TC:=(.seq (.reg Q32_3) (.seq (.cond (.t 12) .skip (.exit 0)) (.seq (.block 1 (.seq (.reg Q32_4) (.seq (.reg Q32_5) (.block 2 (.loop Q32_11))))) (.reg Q32_12))))
@[go_sem] def Q32_14:=k 0x1d045985d0a0d
def t_Q32:TF:=⟨38,[.t 4],(.seq (.reg Q32_0) (.seq (.reg Q32_1) (.seq (.seq (.reg Q32_2) (.block 0 (.loop Q32_13))) (.seq (.reg Q32_14) .ret))))⟩
/-! horarium/graph.Depends -/
@[go_sem] def Q33_0:=k 0xa9e4bc8
@[go_sem] def Q33_1:=k 0xc0a77397be512d1bc4548ebf4
@[go_sem] def Q33_2:=k 0x9fb1df9766c
@[go_sem] def Q33_3:=k 0xcc26864
@[go_sem] def Q33_4:=k 0x1943116a34ec
@[go_sem] def Q33_5:=k 0xa39bdee918c
@[go_sem] def Q33_6:=k 0x11536784
@[go_sem] def Q33_7:=k 0x21239672b40c
@[go_sem] def Q33_8:=kd 0x2b1d882442e167ebee63a6476e702ba0d7e81edd708145aca5849405e7d8844e991dc92ea41a5eec2f461d599628346ca2082290a74788f052466f3c824e15f5adeaf8b9605d17aed
@[go_sem] def Q33_9:=k 0x941d4022d6a061
def Q33_10:TC:=(.seq (.reg Q33_6) (.seq (.cond (.t 20) .skip (.exit 2)) (.seq (.block 3 (.seq (.reg Q33_7) (.dreg Q33_8))) (.reg Q33_9))))
@[go_sem] def Q33_11:=k 0x9700391d24d901
def Q33_12:TC:=(.seq (.reg Q33_3) (.seq (.cond (.t 15) .skip (.exit 0)) (.seq (.block 1 (.seq (.reg Q33_4) (.seq (.reg Q33_5) (.block 2 (.loop Q33_10))))) (.reg Q33_11))))
@[go_sem] def Q33_13:=k 0x4b25da043bb1a31195
@[go_sem] def Q33_14:=k 0xbae5c425
@[go_sem] def Q33_15:=k 0x134a62aee8b867626602539
@[go_sem] def Q33_16:=k 0x47232c1d3995d8574efd7fe46f3a7c35a94cb4ba5f6c98f8f63b12b0c61a
@[go_sem] def Q33_17:=kd 0x3dd13d2f735acfca65291febc1a450af174d4ec6afe8e2f56903f0d5158d67fd9adc0ae40700219875b800a60bb6fc3877c9a45bc7b051f23bee
@[go_sem] def Q33_18:=k 0x1020ac00fc4e8642
def Q33_19:TC:=(.seq (.reg Q33_14) (.seq (.cond (.t 53) .skip (.exit 4)) (.seq (.block 5 (.seq (.reg Q33_15) (.seq (.reg Q33_16) (.cond (.t 65) (.dreg Q33_17) .skip)))) (.reg Q33_18))))
@[go_sem] def Q33_20:=k 0x207e67241f5ece
def t_Q33:TF:=⟨84,[.t 2],(.seq (.reg Q33_0) (.seq (.reg Q33_1) (.seq (.seq (.reg Q33_2) (.block 0 (.loop Q33_12))) (.seq (.seq (.reg Q33_13) (.block 4 (.loop Q33_19))) (.seq (.reg Q33_20) .ret)))))⟩
/-! horarium/reduce.Stuck$1 -/
@[go_sem] def Q34_0:=k 0x9bc3d08
@[go_sem] def Q34_1:=k 0x11a4b65287acd89bf659b5a4238
def t_Q34:TF:=⟨9,[.t 4],(.seq (.reg Q34_0) (.seq (.reg Q34_1) .ret))⟩
/-! horarium/move.Fits -/
@[go_sem] def Q35_0:=k 0x22a7da5adbd08
@[go_sem] def Q35_1:=kd 0x4146060cc725bb6f005805bcb0582e5263ddcfcb933795384e88b969c1db94bcf3af583ac
def t_Q35:TF:=⟨20,[.t 6],(.seq (.reg Q35_0) (.seq (.dreg Q35_1) .ret))⟩
/-! horarium/word.Same -/
@[go_sem] def Q36_0:=k 0x166cc
@[go_sem] def Q36_1:=k 0x11afc4b4187e45942efb9dcf647470045179d1950eedaf4d68e01cc
@[go_sem] def Q36_2:=k 0x352faf362125422c
def t_Q36:TF:=⟨20,[.t 6],(.seq (.reg Q36_0) (.seq (.reg Q36_1) (.seq (.reg Q36_2) .ret)))⟩
/-! horarium/runs.Right -/
@[go_sem] def Q37_0:=k 0x844c
@[go_sem] def Q37_1:=k 0xbcd8
@[go_sem] def Q37_2:=k 0x9aff78ae6ac
@[go_sem] def Q37_3:=k 0x7479ca4
@[go_sem] def Q37_4:=k 0x3499c0eeed384e2a9e970
@[go_sem] def Q37_5:=k 0x3bce09aac76aa3332516166449bc39528c2703d1cb0aa4e85be1df3c7f1f7eb18489e74
@[go_sem] def Q37_6:=k 0x844c
@[go_sem] def Q37_7:=k 0x3f1e57d3406689f9abd30fb8f2c
@[go_sem] def Q37_8:=k 0x5ec0b3991c9c0
def Q37_9:TC:=(.seq (.reg Q37_3) (.seq (.cond (.t 9) .skip (.exit 0)) (.seq (.block 1 (.seq (.reg Q37_4) (.seq (.seq (.reg Q37_5) (.cond (.t 25) (.seq (.reg Q37_6) .ret) .skip)) (.reg Q37_7)))) (.reg Q37_8))))
@[go_sem] def Q37_10:=k 0x88ef460bd8a8454632229eaf930cf53561be04c1a5886784cfa0b65286daa913cee4d
def t_Q37:TF:=⟨43,[.t 2],(.seq (.reg Q37_0) (.seq (.reg Q37_1) (.seq (.seq (.reg Q37_2) (.block 0 (.loop Q37_9))) (.seq (.reg Q37_10) .ret))))⟩
/-! horarium/horariumref12.Right -/
@[go_sem] def Q38_0:=k 0x54f4bc8
@[go_sem] def Q38_1:=k 0x3d1f722b9edb24c0f52b9516ed39bcbfad8
@[go_sem] def Q38_2:=k 0xfc53953052c
def t_Q38:TF:=⟨11,[.t 2],(.seq (.reg Q38_0) (.seq (.reg Q38_1) (.seq (.reg Q38_2) .ret)))⟩
/-! horarium/cursor.New -/
@[go_sem] def Q39_0:=k 0x8648
@[go_sem] def Q39_1:=k 0xdda59e7a88a756c
@[go_sem] def Q39_2:=k 0x8648
@[go_sem] def Q39_3:=k 0x57a6f7b19484f75534109f4c
@[go_sem] def Q39_4:=k 0x8a98143dcc
@[go_sem] def Q39_5:=k 0x14779ed3af0c
def t_Q39:TF:=⟨14,[.t 2],(.seq (.reg Q39_0) (.seq (.seq (.reg Q39_1) (.cond (.t 6) (.seq (.reg Q39_2) .ret) .skip)) (.seq (.reg Q39_3) (.seq (.reg Q39_4) (.seq (.reg Q39_5) .ret)))))⟩
/-! (*horarium/cursor.Cursor).Next -/
@[go_sem] def Q40_0:=k 0x4e60a0
@[go_sem] def Q40_1:=kd 0x17525a981e579ede0b16d1123dce0ce05d67be6a54b16c522c
@[go_sem] def Q40_2:=k 0x49f209d0f273f8
@[go_sem] def Q40_3:=kd 0x2a5f8ed71b93dfa9681831d34c9ea4e14e21cba39826c98c59cb2486b188f547cd92c2f2e06e800ac837b56698502b916ff9a8cbe1a13f8ffd9f98ee1394a649806bdecbe546f6c8a5a1e7031e6d
@[go_sem] def Q40_4:=kd 0x1598b1c96a2ea8a75f5108ba3527b973a831fe1cef0af409a9b4ad1836d
@[go_sem] def Q40_5:=k 0xa629c3bcc0d
@[go_sem] def Q40_6:=k 0x943ec78a1a4adda9
def t_Q40:TF:=⟨56,[.cell 2 2 true,.t 3],(.seq (.reg Q40_0) (.seq (.seq (.dreg Q40_1) (.cond (.t 14) (.seq (.reg Q40_2) .ret) .skip)) (.seq (.dreg Q40_3) (.seq (.dreg Q40_4) (.seq (.reg Q40_5) (.seq (.reg Q40_6) .ret))))))⟩
/-! horarium/runs.Tidy -/
@[go_sem] def Q41_0:=k 0x8450
@[go_sem] def Q41_1:=k 0xbcf0
@[go_sem] def Q41_2:=k 0x9bc7def1f4c
@[go_sem] def Q41_3:=k 0x8316944
@[go_sem] def Q41_4:=k 0x34e830e558d95b013b610
@[go_sem] def Q41_5:=k 0x27558d9ef2ddaf0c
@[go_sem] def Q41_6:=k 0x1bb40dd0ee0e2f17c4a6374
@[go_sem] def Q41_7:=kd 0x7ba3fec806f9ac29e944be90a870f835bcc92ca7e03965d6163ffb699bf0eb8ee94ef0fdddaca46d
@[go_sem] def Q41_8:=kd 0x2d08c98f27ecdf03baa7f82da550f58bd5efe6f924474e9f17b84ceabce3be35e920aacbf500bc3c17b7a2d
@[go_sem] def Q41_9:=k 0x13a1a106f5e2d9f6c8828da04c
@[go_sem] def Q41_10:=k 0xa02664177382e1
def Q41_11:TC:=(.seq (.reg Q41_3) (.seq (.cond (.t 10) .skip (.exit 0)) (.seq (.block 1 (.seq (.reg Q41_4) (.seq (.reg Q41_5) (.block 2 (.seq (.reg Q41_6) (.cond (.t 19) .skip (.seq (.dreg Q41_7) (.cond (.t 23) (.dreg Q41_8) (.reg Q41_9))))))))) (.reg Q41_10))))
@[go_sem] def Q41_12:=k 0x92eed97e2d2600b6d
def t_Q41:TF:=⟨54,[.t 2],(.seq (.reg Q41_0) (.seq (.reg Q41_1) (.seq (.seq (.reg Q41_2) (.block 0 (.loop Q41_11))) (.seq (.reg Q41_12) .ret))))⟩
/-! horarium/bound.Late -/
@[go_sem] def Q42_0:=k 0x166b8
@[go_sem] def Q42_1:=k 0xf0573034af7bcdbb0d40c95c4718295f78ee44c
@[go_sem] def Q42_2:=k 0xf1d94c666dbdb757ffcac
@[go_sem] def Q42_3:=k 0x166b8
@[go_sem] def Q42_4:=k 0x11a4b08272e5878f17f32c
@[go_sem] def Q42_5:=k 0x1672c
@[go_sem] def Q42_6:=k 0x53eba9bca9d5fd0c
@[go_sem] def Q42_7:=k 0x24938
@[go_sem] def Q42_8:=k 0x513789a0064d
@[go_sem] def Q42_9:=k 0x76969845
@[go_sem] def Q42_10:=k 0x1ed1932c71d406f1c90f911
@[go_sem] def Q42_11:=k 0xb4cdf8e5bf37f74c2d74e1e69f3a584cfeb22215
@[go_sem] def Q42_12:=k 0x9e22bf25
@[go_sem] def Q42_13:=k 0x20b51e4379d191d1fed
@[go_sem] def Q42_14:=k 0x494eca39f60e705516f3d1b389ac02668223c739a6c3b640ed
@[go_sem] def Q42_15:=k 0xb184c13f529e01
def Q42_16:TC:=(.seq (.reg Q42_12) (.seq (.cond (.t 45) .skip (.exit 3)) (.seq (.block 4 (.seq (.reg Q42_13) (.reg Q42_14))) (.reg Q42_15))))
@[go_sem] def Q42_17:=k 0xb41c93cc64d6a1
def Q42_18:TC:=(.seq (.reg Q42_9) (.seq (.cond (.t 34) .skip (.exit 1)) (.seq (.block 2 (.seq (.reg Q42_10) (.seq (.reg Q42_11) (.block 3 (.loop Q42_16))))) (.reg Q42_17))))
@[go_sem] def Q42_19:=k 0x2d7afffc8772d
def t_Q42:TF:=⟨59,[.t 6],(.seq (.reg Q42_0) (.seq (.reg Q42_1) (.seq (.block 0 (.seq (.reg Q42_2) (.cond (.t 21) (.seq (.reg Q42_3) .ret) (.seq (.reg Q42_4) (.cond (.t 25) (.seq (.reg Q42_5) .ret) .skip))))) (.seq (.reg Q42_6) (.seq (.reg Q42_7) (.seq (.seq (.reg Q42_8) (.block 1 (.loop Q42_18))) (.seq (.reg Q42_19) .ret)))))))⟩
/-! horarium/bound.Budget -/
@[go_sem] def Q43_0:=k 0x166b8
@[go_sem] def Q43_1:=k 0x2a30f15961f6abac
@[go_sem] def Q43_2:=k 0x14ff71998f8974f685745813629dde7d5f7e81204bc9d95f9381c5c8d8044ec
@[go_sem] def Q43_3:=k 0x1672c
@[go_sem] def Q43_4:=k 0x128b196b9743e4db91c46c
@[go_sem] def Q43_5:=k 0x30fdac8c964c
@[go_sem] def Q43_6:=k 0x24938
@[go_sem] def Q43_7:=k 0x5a14f4c83e222b6ed
@[go_sem] def Q43_8:=k 0x281d8
@[go_sem] def Q43_9:=k 0x52963c9fbaad
@[go_sem] def Q43_10:=k 0x8fc13ca5
@[go_sem] def Q43_11:=k 0x2189b4da316a603f1bb9d71
@[go_sem] def Q43_12:=k 0x247360441d6e8252929d5246f859ba76cf4fcc551977266ba430a10e60f493023f8f068653dc2a7866d
@[go_sem] def Q43_13:=k 0xb795d9a12b0f41
def Q43_14:TC:=(.seq (.reg Q43_10) (.seq (.cond (.t 41) .skip (.exit 2)) (.seq (.block 3 (.seq (.reg Q43_11) (.reg Q43_12))) (.reg Q43_13))))
@[go_sem] def Q43_15:=k 0x95e0f3167192407f05a87cd
@[go_sem] def Q43_16:=k 0x5b16c80111764f4f25360cd
def Q43_17:TC:=(.seq (.seq (.reg Q43_7) (.cond (.t 34) .skip (.exit 0))) (.seq (.block 1 (.seq (.reg Q43_8) (.seq (.seq (.reg Q43_9) (.block 2 (.loop Q43_14))) (.reg Q43_15)))) (.reg Q43_16)))
@[go_sem] def Q43_18:=k 0x309c98fbb31ad
def t_Q43:TF:=⟨63,[.t 6],(.seq (.reg Q43_0) (.seq (.reg Q43_1) (.seq (.seq (.reg Q43_2) (.cond (.t 27) (.seq (.reg Q43_3) .ret) .skip)) (.seq (.reg Q43_4) (.seq (.reg Q43_5) (.seq (.seq (.reg Q43_6) (.block 0 (.loop Q43_17))) (.seq (.reg Q43_18) .ret)))))))⟩
/-! slices.Clone[[]horarium/api.Run,horarium/api.Run] -/
@[go_sem] def Q44_0:=k 0x8450
@[go_sem] def Q44_1:=k 0x26038a3ccc
@[go_sem] def Q44_2:=k 0x8450
@[go_sem] def Q44_3:=k 0x22ac8731317f1e3e6c00
def t_Q44:TF:=⟨8,[.t 2],(.seq (.reg Q44_0) (.seq (.seq (.reg Q44_1) (.cond (.t 4) (.seq (.reg Q44_2) .ret) .skip)) (.seq (.reg Q44_3) .ret)))⟩
/-! horarium/reduce.step -/
@[go_sem] def Q45_0:=k 0x116f1a7a8468
@[go_sem] def Q45_1:=k 0x4f108b16f0
@[go_sem] def Q45_2:=k 0xaeecf24
@[go_sem] def Q45_3:=k 0x5461e2b1d59711bec
@[go_sem] def Q45_4:=k 0x74f45793f63cf51e992762a96d6f9780f83afaf2e0618c
@[go_sem] def Q45_5:=k 0x151d74d3607d8fb74599eec7b9c2123e85d4c
@[go_sem] def Q45_6:=k 0x8032cc042d5ac
@[go_sem] def Q45_7:=k 0x62467ff1c0260
def Q45_8:TC:=(.seq (.reg Q45_2) (.seq (.cond (.t 13) .skip (.exit 0)) (.seq (.block 1 (.seq (.reg Q45_3) (.seq (.reg Q45_4) (.seq (.reg Q45_5) (.cond (.t 29) (.seq (.reg Q45_6) .ret) .skip))))) (.reg Q45_7))))
@[go_sem] def Q45_9:=k 0x240338a4234eed
def t_Q45:TF:=⟨33,[.t 4,.t 5],(.seq (.reg Q45_0) (.seq (.seq (.reg Q45_1) (.block 0 (.loop Q45_8))) (.seq (.reg Q45_9) .ret)))⟩
/-! horarium/fold.leaves -/
@[go_sem] def Q46_0:=k 0x8450
@[go_sem] def Q46_1:=k 0xbcf0
@[go_sem] def Q46_2:=k 0x9aff78ae6ac
@[go_sem] def Q46_3:=k 0x7479ca4
@[go_sem] def Q46_4:=k 0x3499c0eeed384e2a9e970
@[go_sem] def Q46_5:=k 0x3a133cff34db4a6fb9745b30cf850cf66c
@[go_sem] def Q46_6:=k 0x392d8798f2240
def Q46_7:TC:=(.seq (.reg Q46_3) (.seq (.cond (.t 9) .skip (.exit 0)) (.seq (.block 1 (.seq (.reg Q46_4) (.reg Q46_5))) (.reg Q46_6))))
@[go_sem] def Q46_8:=k 0x1ddc69d502cc
def t_Q46:TF:=⟨20,[.t 2],(.seq (.reg Q46_0) (.seq (.reg Q46_1) (.seq (.seq (.reg Q46_2) (.block 0 (.loop Q46_7))) (.seq (.reg Q46_8) .ret))))⟩
/-! horarium/fold.best -/
@[go_sem] def Q47_0:=k 0xf6d8
@[go_sem] def Q47_1:=k 0x12f78
@[go_sem] def Q47_2:=k 0x9ee978001cc
@[go_sem] def Q47_3:=k 0xbd89bc4
@[go_sem] def Q47_4:=k 0x17cb51aae84c
@[go_sem] def Q47_5:=k 0x19f58
@[go_sem] def Q47_6:=k 0x8ebf8
@[go_sem] def Q47_7:=k 0x857c6825ffa34efe109860bc374e37594ec
@[go_sem] def Q47_8:=k 0x9bbf6edd199e28346b521f8ccab86b5e8fda595ca8084b1096b28d
@[go_sem] def Q47_9:=k 0x508efb308958f5f38e284d005982d
@[go_sem] def Q47_10:=k 0x50e63e2372e2fe288a3aec4a21f291992ad
@[go_sem] def Q47_11:=k 0x21ac53afad5cd
@[go_sem] def Q47_12:=k 0x1ff8bae39a4fc03970d
@[go_sem] def Q47_13:=k 0x12b60f0d70f77235c7bed570050e8f29e25729cb09e04d
@[go_sem] def Q47_14:=k 0xb623804acbc49ed1a03442bd90a37f2d4d
@[go_sem] def Q47_15:=k 0x866c48d6f1d35c94c
def Q47_16:TC:=(.seq (.seq (.reg Q47_7) (.cond (.t 22) .skip (.exit 2))) (.seq (.block 3 (.seq (.reg Q47_8) (.seq (.reg Q47_9) (.seq (.reg Q47_10) (.seq (.seq (.reg Q47_11) (.cond (.t 44) (.reg Q47_12) .skip)) (.seq (.reg Q47_13) (.cond (.t 54) (.reg Q47_14) .skip))))))) (.reg Q47_15)))
@[go_sem] def Q47_17:=k 0xbc86deb59d8081
def Q47_18:TC:=(.seq (.reg Q47_3) (.seq (.cond (.t 14) .skip (.exit 0)) (.seq (.block 1 (.seq (.reg Q47_4) (.seq (.reg Q47_5) (.seq (.reg Q47_6) (.block 2 (.loop Q47_16)))))) (.reg Q47_17))))
@[go_sem] def Q47_19:=k 0x3e2c5e3a5cdd
def t_Q47:TF:=⟨62,[.cell 4 4 true],(.seq (.reg Q47_0) (.seq (.reg Q47_1) (.seq (.seq (.reg Q47_2) (.block 0 (.loop Q47_18))) (.seq (.reg Q47_19) .ret))))⟩
/-! horarium/fold.same -/
@[go_sem] def Q48_0:=k 0x557450
@[go_sem] def Q48_1:=k 0x55e590
@[go_sem] def Q48_2:=k 0x9c9045357ec
@[go_sem] def Q48_3:=k 0x91b35e4
@[go_sem] def Q48_4:=k 0x48d27d933ba128e9d82ac
@[go_sem] def Q48_5:=k 0x81f1aabb000e7a79a94de6fc9889746fbac
@[go_sem] def Q48_6:=k 0x2e5efbe7f83fbf3c4197c8cbede36c
@[go_sem] def Q48_7:=k 0x4f4ad0455aea0
def Q48_8:TC:=(.seq (.reg Q48_3) (.seq (.cond (.t 11) .skip (.exit 0)) (.seq (.block 1 (.seq (.reg Q48_4) (.seq (.reg Q48_5) (.reg Q48_6)))) (.reg Q48_7))))
@[go_sem] def Q48_9:=k 0x845e4206c55cec3da32c
def t_Q48:TF:=⟨28,[.t 2,.t 3],(.seq (.reg Q48_0) (.seq (.reg Q48_1) (.seq (.seq (.reg Q48_2) (.block 0 (.loop Q48_8))) (.seq (.reg Q48_9) .ret))))⟩
/-! horarium/fold.joined -/
@[go_sem] def Q49_0:=k 0x8450
@[go_sem] def Q49_1:=k 0xe2406ef2c00f56c
@[go_sem] def Q49_2:=k 0x137ad38a030ae6ac
@[go_sem] def Q49_3:=k 0xe346cd2cc8c
@[go_sem] def Q49_4:=k 0xc123bf2b56a9165c20d4077c86a13aaca9bc92c
def t_Q49:TF:=⟨17,[.t 2],(.seq (.reg Q49_0) (.seq (.reg Q49_1) (.seq (.seq (.reg Q49_2) (.cond (.t 8) (.seq (.reg Q49_3) .ret) .skip)) (.seq (.reg Q49_4) .ret))))⟩
/-! slices.Concat[[]horarium/api.Node,horarium/api.Node] -/
@[go_sem] def Q50_0:=k 0x8450
@[go_sem] def Q50_1:=k 0xbcd8
@[go_sem] def Q50_2:=k 0x9d58ab7908c
@[go_sem] def Q50_3:=k 0xa050284
@[go_sem] def Q50_4:=k 0x4e7ec79ff8c074f4c
@[go_sem] def Q50_5:=k 0x13a1a106f5a8abf8e7fa34204c
@[go_sem] def Q50_6:=k 0x1dbf3ca402cc
@[go_sem] def Q50_7:=k 0x4507ba30
@[go_sem] def Q50_8:=k 0x45ff121b784c0
def Q50_9:TC:=(.seq (.reg Q50_3) (.seq (.cond (.t 12) .skip (.exit 0)) (.seq (.block 1 (.seq (.reg Q50_4) (.seq (.reg Q50_5) (.seq (.reg Q50_6) (.cond (.t 20) (.reg Q50_7) .skip))))) (.reg Q50_8))))
@[go_sem] def Q50_10:=k 0x4309d0ce0aa9e54c
@[go_sem] def Q50_11:=k 0xa9df0fb1a8c
@[go_sem] def Q50_12:=k 0x18a1cc84
@[go_sem] def Q50_13:=k 0xa7aaffda7e2a4194c
@[go_sem] def Q50_14:=k 0x5121912d29982af7379de4d
@[go_sem] def Q50_15:=k 0x6bccae5f23c041
def Q50_16:TC:=(.seq (.reg Q50_12) (.seq (.cond (.t 28) .skip (.exit 2)) (.seq (.block 3 (.seq (.reg Q50_13) (.reg Q50_14))) (.reg Q50_15))))
@[go_sem] def Q50_17:=k 0x1b6d49d4ac0cd
def t_Q50:TF:=⟨36,[.t 2],(.seq (.reg Q50_0) (.seq (.reg Q50_1) (.seq (.seq (.reg Q50_2) (.block 0 (.loop Q50_9))) (.seq (.reg Q50_10) (.seq (.seq (.reg Q50_11) (.block 2 (.loop Q50_16))) (.seq (.reg Q50_17) .ret))))))⟩
/-! slices.Concat[[][]horarium/api.Node,[]horarium/api.Node] -/
@[go_sem] def Q51_0:=k 0x8450
@[go_sem] def Q51_1:=k 0xbcd8
@[go_sem] def Q51_2:=k 0x9d58ab7908c
@[go_sem] def Q51_3:=k 0xa050284
@[go_sem] def Q51_4:=k 0x4e7ec79ff8c074f4c
@[go_sem] def Q51_5:=k 0x13a1a106f5a8abf8e7fa34204c
@[go_sem] def Q51_6:=k 0x1dbf3ca402cc
@[go_sem] def Q51_7:=k 0x4507ba30
@[go_sem] def Q51_8:=k 0x45ff121b784c0
def Q51_9:TC:=(.seq (.reg Q51_3) (.seq (.cond (.t 12) .skip (.exit 0)) (.seq (.block 1 (.seq (.reg Q51_4) (.seq (.reg Q51_5) (.seq (.reg Q51_6) (.cond (.t 20) (.reg Q51_7) .skip))))) (.reg Q51_8))))
@[go_sem] def Q51_10:=k 0x4309d0ce0b8c654c
@[go_sem] def Q51_11:=k 0xa9df0fb1a8c
@[go_sem] def Q51_12:=k 0x18a1cc84
@[go_sem] def Q51_13:=k 0xa7aaffda7e2a4194c
@[go_sem] def Q51_14:=k 0x5121912d298c6cf9779de4d
@[go_sem] def Q51_15:=k 0x6bccae5f23c041
def Q51_16:TC:=(.seq (.reg Q51_12) (.seq (.cond (.t 28) .skip (.exit 2)) (.seq (.block 3 (.seq (.reg Q51_13) (.reg Q51_14))) (.reg Q51_15))))
@[go_sem] def Q51_17:=k 0x1b6d49d4ac0cd
def t_Q51:TF:=⟨36,[.t 2],(.seq (.reg Q51_0) (.seq (.reg Q51_1) (.seq (.seq (.reg Q51_2) (.block 0 (.loop Q51_9))) (.seq (.reg Q51_10) (.seq (.seq (.reg Q51_11) (.block 2 (.loop Q51_16))) (.seq (.reg Q51_17) .ret))))))⟩
/-! horarium/node.Length -/
@[go_sem] def Q52_0:=k 0x9bc0438
@[go_sem] def Q52_1:=k 0x9b48f6888e66ac
@[go_sem] def Q52_2:=k 0x9bc0438
@[go_sem] def Q52_3:=k 0x58493bb6455eac738b142f61fbb322ac92c
@[go_sem] def Q52_4:=k 0xaf9ea18fac
@[go_sem] def Q52_5:=k 0x7ed28846280ec
@[go_sem] def Q52_6:=k 0x9bc0438
def t_Q52:TF:=⟨17,[.t 2,.t 3],(.seq (.reg Q52_0) (.seq (.seq (.reg Q52_1) (.cond (.t 8) (.seq (.reg Q52_2) .ret) .skip)) (.seq (.seq (.reg Q52_3) (.seq (.reg Q52_4) (.cond (.t 15) (.seq (.reg Q52_5) .ret) .skip))) (.seq (.reg Q52_6) .ret))))⟩
/-! horarium/node.whole -/
@[go_sem] def Q53_0:=k 0x844c
@[go_sem] def Q53_1:=k 0x191ea253f6bb3ed1401487f09ce179b3177bac072d3b6b22c55e3ccc
def t_Q53:TF:=⟨13,[.t 2],(.seq (.reg Q53_0) (.seq (.reg Q53_1) .ret))⟩
/-! horarium/node.Depth -/
@[go_sem] def Q54_0:=k 0x8438
@[go_sem] def Q54_1:=k 0x851f1b0e2a2e0c
@[go_sem] def Q54_2:=k 0x8438
@[go_sem] def Q54_3:=k 0x517ec93c953103f5627348cf38137c6908c
@[go_sem] def Q54_4:=k 0x14779ed3af0c
def t_Q54:TF:=⟨14,[.t 2],(.seq (.reg Q54_0) (.seq (.seq (.reg Q54_1) (.cond (.t 7) (.seq (.reg Q54_2) .ret) .skip)) (.seq (.reg Q54_3) (.seq (.reg Q54_4) .ret))))⟩
/-! horarium/horariumref3.Depth -/
@[go_sem] def Q55_0:=k 0x8438
@[go_sem] def Q55_1:=k 0x3baca0095c878ee8f56e5c090b7dbc7f427cf039e9fbde3ccc
@[go_sem] def Q55_2:=k 0x8438
@[go_sem] def Q55_3:=k 0x4df9ccc647420730c
def t_Q55:TF:=⟨15,[.t 2],(.seq (.reg Q55_0) (.seq (.seq (.reg Q55_1) (.cond (.t 12) (.seq (.reg Q55_2) .ret) .skip)) (.seq (.reg Q55_3) .ret)))⟩
/-! horarium/horariumref3.Length -/
@[go_sem] def Q56_0:=k 0x9bc0438
@[go_sem] def Q56_1:=k 0x109f6fd05a0cae0c
@[go_sem] def Q56_2:=k 0x9bc0438
@[go_sem] def Q56_3:=k 0x329e30d3d7681d7ec
@[go_sem] def Q56_4:=k 0x7d9880992c
@[go_sem] def Q56_5:=k 0x9bc0438
@[go_sem] def Q56_6:=k 0x7e6e5525a8a6c
def t_Q56:TF:=⟨13,[.t 2,.t 3],(.seq (.reg Q56_0) (.seq (.seq (.reg Q56_1) (.cond (.t 7) (.seq (.reg Q56_2) .ret) .skip)) (.seq (.reg Q56_3) (.seq (.seq (.reg Q56_4) (.cond (.t 11) (.seq (.reg Q56_5) .ret) .skip)) (.seq (.reg Q56_6) .ret)))))⟩
/-! horarium/horariumref3.leaves -/
@[go_sem] def Q57_0:=k 0x166d0
@[go_sem] def Q57_1:=k 0xe1909d20b83550d192f8dc92c
@[go_sem] def Q57_2:=k 0x3399af65db114
@[go_sem] def Q57_3:=kd 0x7e6bf97e673063e929a1d1155c1466e9c24a084ee705a3ac537968815bc1c2a23671d7b1cbd21b2c
@[go_sem] def Q57_4:=k 0x65bb95c12f7715
@[go_sem] def Q57_5:=k 0x30533e3e2696e315ca801b3a7a0fc0f9c0b649b941412d6c1af8d
@[go_sem] def Q57_6:=k 0x88b6ef0d4e35f5
@[go_sem] def Q57_7:=k 0x19f58
@[go_sem] def Q57_8:=k 0x4bff8386e3c0693510c8469666bad2d70ae66d
@[go_sem] def Q57_9:=k 0x6d71076aced9a288e5810718fcce439cc0d
@[go_sem] def Q57_10:=k 0x24184208713224e72cd
def Q57_11:TC:=(.seq (.seq (.reg Q57_8) (.cond (.t 50) .skip (.exit 1))) (.seq (.block 2 (.reg Q57_9)) (.reg Q57_10)))
@[go_sem] def Q57_12:=k 0x2d7afff57372d
@[go_sem] def Q57_13:=k 0x110b196a503f8c5e03b1fcd
@[go_sem] def Q57_14:=k 0x382c19b06
@[go_sem] def Q57_15:=k 0x5b8651cfafcad68e23ce
@[go_sem] def Q57_16:=k 0x97d961ec646e12f5db55a1f22c6e4ce
@[go_sem] def Q57_17:=k 0xdfde103f8041762
def Q57_18:TC:=(.seq (.reg Q57_14) (.seq (.cond (.t 64) .skip (.exit 3)) (.seq (.block 4 (.seq (.reg Q57_15) (.reg Q57_16))) (.reg Q57_17))))
@[go_sem] def Q57_19:=k 0x1c33565d009fee
def t_Q57:TF:=⟨73,[.t 6],(.seq (.reg Q57_0) (.seq (.seq (.reg Q57_1) (.block 0 (.seq (.reg Q57_2) (.cond (.t 15) (.seq (.dreg Q57_3) .ret) (.seq (.reg Q57_4) (.cond (.t 31) (.seq (.reg Q57_5) .ret) (.seq (.reg Q57_6) (.cond (.t 42) (.seq (.seq (.reg Q57_7) (.block 1 (.loop Q57_11))) (.seq (.reg Q57_12) .ret)) .skip)))))))) (.seq (.seq (.reg Q57_13) (.block 3 (.loop Q57_18))) (.seq (.reg Q57_19) .ret))))⟩
/-! horarium/horariumref7.words -/
@[go_sem] def Q58_0:=k 0x8450
@[go_sem] def Q58_1:=k 0xbcf0
@[go_sem] def Q58_2:=k 0x9bc7def1f4c
@[go_sem] def Q58_3:=k 0x8316944
@[go_sem] def Q58_4:=k 0x34e830e558d95b013b610
@[go_sem] def Q58_5:=k 0x166b8
@[go_sem] def Q58_6:=k 0x2ed8a8cfe17ad7fd4f5311d4777460241ae30b10deb0c
@[go_sem] def Q58_7:=k 0x6bda4479d13ecbfc00c218f647b1dec
@[go_sem] def Q58_8:=k 0x80892dc5150a768ac
def Q58_9:TC:=(.seq (.seq (.reg Q58_6) (.cond (.t 21) .skip (.exit 2))) (.seq (.block 3 (.reg Q58_7)) (.reg Q58_8)))
@[go_sem] def Q58_10:=k 0x5bb8276f41120
def Q58_11:TC:=(.seq (.reg Q58_3) (.seq (.cond (.t 10) .skip (.exit 0)) (.seq (.block 1 (.seq (.reg Q58_4) (.seq (.reg Q58_5) (.block 2 (.loop Q58_9))))) (.reg Q58_10))))
@[go_sem] def Q58_12:=k 0x2f15335771ac
def t_Q58:TF:=⟨31,[.t 2],(.seq (.reg Q58_0) (.seq (.reg Q58_1) (.seq (.seq (.reg Q58_2) (.block 0 (.loop Q58_11))) (.seq (.reg Q58_12) .ret))))⟩
/-! (horarium/reduce.rows).tidy -/
@[go_sem] def Q59_0:=k 0x89d0f1d108
@[go_sem] def Q59_1:=k 0x16b6321d097b9f4c
@[go_sem] def Q59_2:=k 0x2c2498197f97b51323bdd885850eac088c
def t_Q59:TF:=⟨14,[.t 4,.t 5],(.seq (.reg Q59_0) (.seq (.reg Q59_1) (.seq (.reg Q59_2) .ret)))⟩
/-! horarium/reduce.pass -/
@[go_sem] def Q60_0:=k 0xe60a4bc8
@[go_sem] def Q60_1:=k 0x4cfa1c354d4
def t_Q60:TF:=⟨4,[.t 2],(.seq (.reg Q60_0) (.seq (.reg Q60_1) .ret))⟩
/-! horarium/move.Do -/
@[go_sem] def Q61_0:=k 0xaa5d108
@[go_sem] def Q61_1:=k 0x196542392a07d7ec
@[go_sem] def Q61_2:=k 0x3adc0c7ff44d5711492c
@[go_sem] def Q61_3:=k 0x1621782a0fac
@[go_sem] def Q61_4:=kd 0x517e4d42ca50058f440092460c78d231c
@[go_sem] def Q61_5:=k 0x1dbfa09e82d4
@[go_sem] def Q61_6:=kd 0x6ca816aebd6d2efb85508e9e94e50ef9c
@[go_sem] def Q61_7:=kd 0x1f134c4cb08735ffa42bf9d9f8cefe9ed65b815981487c96033398d65765388dde798d788286590257b7c0412d
@[go_sem] def Q61_8:=k 0x5d4710ec564aa8d093b472dddb3ed
@[go_sem] def Q61_9:=k 0x7cdb343fefe08966d
def t_Q61:TF:=⟨46,[.t 4],(.seq (.reg Q61_0) (.seq (.reg Q61_1) (.seq (.seq (.reg Q61_2) (.cond (.t 13) (.seq (.reg Q61_3) .ret) .skip)) (.seq (.dreg Q61_4) (.seq (.seq (.reg Q61_5) (.cond (.t 20) (.dreg Q61_6) .skip)) (.seq (.dreg Q61_7) (.seq (.reg Q61_8) (.seq (.reg Q61_9) .ret))))))))⟩
/-! slices.IndexFunc[[]horarium/move.Move,horarium/move.Move] -/
@[go_sem] def Q62_0:=k 0xf578
@[go_sem] def Q62_1:=k 0x9aff78ae6ac
@[go_sem] def Q62_2:=k 0x7479ca4
@[go_sem] def Q62_3:=k 0xfeacca2692c
@[go_sem] def Q62_4:=k 0x1602091fc662e3bfcea4e5ac3115cc
@[go_sem] def Q62_5:=k 0x1ad3ddaab98c
@[go_sem] def Q62_6:=k 0x392d8798f2240
def Q62_7:TC:=(.seq (.reg Q62_2) (.seq (.cond (.t 9) .skip (.exit 0)) (.seq (.block 1 (.seq (.reg Q62_3) (.seq (.reg Q62_4) (.cond (.t 16) (.seq (.reg Q62_5) .ret) .skip)))) (.reg Q62_6))))
@[go_sem] def Q62_8:=k 0xf5ec
def t_Q62:TF:=⟨19,[.t 4],(.seq (.reg Q62_0) (.seq (.seq (.reg Q62_1) (.block 0 (.loop Q62_7))) (.seq (.reg Q62_8) .ret)))⟩
/-! horarium/move.May -/
@[go_sem] def Q63_0:=k 0x1151e63d09a8
@[go_sem] def Q63_1:=kd 0xbc7dc912819fd119efd7a8f29f65f385ea2cfb281d49bf8d3d213097cd2a3f4f39eb24677714b8904957758c19ceb86c
@[go_sem] def Q63_2:=k 0x166cc
@[go_sem] def Q63_3:=k 0xb47fe4798f93de4a00e5dd45e27e05024be91880bcd
@[go_sem] def Q63_4:=k 0xaf2fe6620b8316df16102e26806ff082950c864f2c5abea4e06602e91895f8d
def t_Q63:TF:=⟨43,[.t 6],(.seq (.reg Q63_0) (.seq (.seq (.dreg Q63_1) (.cond (.t 26) (.seq (.reg Q63_2) .ret) .skip)) (.seq (.reg Q63_3) (.seq (.reg Q63_4) .ret))))⟩
/-! horarium/graph.square -/
@[go_sem] def Q64_0:=k 0x8450
@[go_sem] def Q64_1:=k 0xbcf0
@[go_sem] def Q64_2:=k 0x54ff56c
@[go_sem] def Q64_3:=k 0x48a36c4
@[go_sem] def Q64_4:=k 0x2a9d09c1b64b4922845b6c01fbe5b4c
@[go_sem] def Q64_5:=k 0x2618cb1664e80
def Q64_6:TC:=(.seq (.reg Q64_3) (.seq (.cond (.t 6) .skip (.exit 0)) (.seq (.block 1 (.reg Q64_4)) (.reg Q64_5))))
@[go_sem] def Q64_7:=k 0x14779ed3af0c
def t_Q64:TF:=⟨14,[.t 2],(.seq (.reg Q64_0) (.seq (.reg Q64_1) (.seq (.seq (.reg Q64_2) (.block 0 (.loop Q64_6))) (.seq (.reg Q64_7) .ret))))⟩
/-! horarium/graph.is -/
@[go_sem] def Q65_0:=k 0x3650180468
@[go_sem] def Q65_1:=k 0xf71e9cdc00781beb6eea043b87197cf6c00b982faa7cbbac20c
def t_Q65:TF:=⟨14,[.t 4],(.seq (.reg Q65_0) (.seq (.reg Q65_1) .ret))⟩
/-! horarium/word.Differ -/
@[go_sem] def Q66_0:=k 0x1138ced066b8
@[go_sem] def Q66_1:=k 0x281d8
@[go_sem] def Q66_2:=k 0x9e8b2a4
@[go_sem] def Q66_3:=k 0x14cf4bc84f0c
@[go_sem] def Q66_4:=k 0x166c9e9e5fac
@[go_sem] def Q66_5:=k 0x17c7312cac4c
@[go_sem] def Q66_6:=k 0x350e2b8f3b7b8910f360eb29c9db83d3d6324ea4a3b3182096a7e7913ce215149c03b60b105dbc25cce96cd
@[go_sem] def Q66_7:=k 0x636cee507665d35d6c538cd
@[go_sem] def Q66_8:=k 0x6586390e752429d8c
def Q66_9:TC:=(.seq (.seq (.reg Q66_5) (.cond (.t 16) .skip (.exit 2))) (.seq (.block 3 (.seq (.reg Q66_6) (.cond (.t 34) (.seq (.reg Q66_7) .ret) .skip))) (.reg Q66_8)))
@[go_sem] def Q66_10:=k 0x746912e6846a21
def Q66_11:TC:=(.seq (.reg Q66_2) (.seq (.cond (.t 12) .skip (.exit 0)) (.seq (.block 1 (.seq (.reg Q66_3) (.seq (.reg Q66_4) (.block 2 (.loop Q66_9))))) (.reg Q66_10))))
@[go_sem] def Q66_12:=k 0x3f166af7894f529a13a11777b0d1b49fa67aad
def t_Q66:TF:=⟨43,[.t 6,.t 7,.t 8],(.seq (.reg Q66_0) (.seq (.seq (.reg Q66_1) (.block 0 (.loop Q66_11))) (.seq (.reg Q66_12) .ret)))⟩
/-! horarium/runs.part -/
@[go_sem] def Q67_0:=k 0x844c
@[go_sem] def Q67_1:=k 0x6da4860352446def69d0a0c5a7c734e83ccc
def t_Q67:TF:=⟨9,[.t 2],(.seq (.reg Q67_0) (.seq (.reg Q67_1) .ret))⟩
/-! horarium/horariumref12.Where -/
@[go_sem] def Q68_0:=k 0x964d04f4bc8
@[go_sem] def Q68_1:=k 0x5046ea4ad3342729333cff1a80ea3d1b853ee51e6897d72f101cc655ace838ac1bb66c8cfbb6697b2e53bb9fedbd8b7eaac8a82760587263e20dcb737e7ba6a5374628d86cd4a25a00ca11c4f5
@[go_sem] def Q68_2:=k 0x564c038
@[go_sem] def Q68_3:=k 0x4a4837b013ba17f675
@[go_sem] def Q68_4:=k 0xa8ebe105
@[go_sem] def Q68_5:=k 0x2c930e6cd95f8728e88a0f797e042418d
@[go_sem] def Q68_6:=k 0x21184406c2be83da525b75
@[go_sem] def Q68_7:=k 0x9b254abdfd7d115ed
@[go_sem] def Q68_8:=k 0x166b8
@[go_sem] def Q68_9:=k 0xa06ca6144353f9e8d
@[go_sem] def Q68_10:=kd 0x1a78aca4df717602f9b4fd893ac18810f0a9d1ea64dea65711aa525e
@[go_sem] def Q68_11:=k 0xc4b3a8e302ceb1074e
@[go_sem] def Q68_12:=k 0x2a513f0a3e4a642486d
def Q68_13:TC:=(.seq (.seq (.reg Q68_9) (.cond (.t 59) .skip (.exit 2))) (.seq (.block 3 (.seq (.dreg Q68_10) (.cond (.t 70) (.seq (.reg Q68_11) .ret) .skip))) (.reg Q68_12)))
@[go_sem] def Q68_14:=k 0x1948439e882a590d6
@[go_sem] def Q68_15:=k 0xcfc890c135eeb1e9ce
@[go_sem] def Q68_16:=k 0xef21da115853282
def Q68_17:TC:=(.seq (.reg Q68_4) (.seq (.cond (.t 48) .skip (.exit 0)) (.seq (.block 1 (.seq (.reg Q68_5) (.seq (.seq (.reg Q68_6) (.cond (.t 55) (.seq (.reg Q68_7) .ret) .skip)) (.seq (.seq (.reg Q68_8) (.block 2 (.loop Q68_13))) (.seq (.reg Q68_14) (.cond (.t 74) (.seq (.reg Q68_15) .ret) .skip)))))) (.reg Q68_16))))
@[go_sem] def Q68_18:=k 0x927c6ba216cfe556b16
@[go_sem] def Q68_19:=k 0x4754eada6
@[go_sem] def Q68_20:=k 0x84f5404abdc12df66f93eb80e45d6db362e
@[go_sem] def Q68_21:=k 0xaac91ebbb818c8fe831d91e608adfd60c6
@[go_sem] def Q68_22:=k 0xfc1c2f0d690f0a63ce
@[go_sem] def Q68_23:=k 0x1220a13a08b0bc82
def Q68_24:TC:=(.seq (.reg Q68_19) (.seq (.cond (.t 81) .skip (.exit 4)) (.seq (.block 5 (.seq (.reg Q68_20) (.seq (.reg Q68_21) (.cond (.t 90) (.seq (.reg Q68_22) .ret) .skip)))) (.reg Q68_23))))
@[go_sem] def Q68_25:=k 0x9541a5e4c9f0c80f516
@[go_sem] def Q68_26:=k 0x5599737a6
@[go_sem] def Q68_27:=k 0x1b1bf086f6c817da0447ad2fabc02e
@[go_sem] def Q68_28:=k 0x2c90928a49fbe62c526ab12c122c43cc5d329c2ae
@[go_sem] def Q68_29:=k 0x297d2d3f0b452e
@[go_sem] def Q68_30:=k 0x859704e0a608a5e2423b66e
@[go_sem] def Q68_31:=k 0x2af4f13e7d7ae
@[go_sem] def Q68_32:=k 0x63ddfc1a6
@[go_sem] def Q68_33:=k 0x92203fea906d5c0269ac4a72
@[go_sem] def Q68_34:=k 0x71263576b5e4c796a8863ae1c596d1a61b76
@[go_sem] def Q68_35:=k 0x151fe309ab5ef49df2e
@[go_sem] def Q68_36:=k 0x183e400fcdb797e2
def Q68_37:TC:=(.seq (.reg Q68_32) (.seq (.cond (.t 113) .skip (.exit 8)) (.seq (.block 9 (.seq (.reg Q68_33) (.seq (.reg Q68_34) (.cond (.t 121) (.seq (.reg Q68_35) .ret) .skip)))) (.reg Q68_36))))
@[go_sem] def Q68_38:=k 0x4d4901bd04e0e24046f6fd09a
@[go_sem] def Q68_39:=k 0xc6d5757e0beea4f
@[go_sem] def Q68_40:=k 0x27d4ed275babd84554323f5b8f
@[go_sem] def Q68_41:=k 0x19ac81da3bf08e4ce3
def Q68_42:TC:=(.seq (.reg Q68_26) (.seq (.cond (.t 97) .skip (.exit 6)) (.seq (.block 7 (.seq (.reg Q68_27) (.seq (.reg Q68_28) (.seq (.seq (.reg Q68_29) (.cond (.t 107) (.seq (.reg Q68_30) .ret) .skip)) (.seq (.seq (.reg Q68_31) (.block 8 (.loop Q68_37))) (.seq (.reg Q68_38) (.seq (.reg Q68_39) (.cond (.t 128) (.seq (.reg Q68_40) .ret) .skip)))))))) (.reg Q68_41))))
@[go_sem] def Q68_43:=k 0x1ef80438
def t_Q68:TF:=⟨132,[.t 2,.t 3],(.seq (.reg Q68_0) (.seq (.seq (.reg Q68_1) (.cond (.t 43) (.seq (.reg Q68_2) .ret) .skip)) (.seq (.seq (.reg Q68_3) (.block 0 (.loop Q68_17))) (.seq (.seq (.reg Q68_18) (.block 4 (.loop Q68_24))) (.seq (.seq (.reg Q68_25) (.block 6 (.loop Q68_42))) (.seq (.reg Q68_43) .ret))))))⟩
/-! (*horarium/cursor.Cursor).Reset -/
@[go_sem] def Q69_0:=k 0x1272be7980ca88dc4b2f4daca39faa1b6e40eda3739df794ca26828042c
@[go_sem] def Q69_1:=k 0x1139bb0d01cc
def t_Q69:TF:=⟨13,[],(.seq (.reg Q69_0) (.reg Q69_1))⟩
/-! horarium/cursor.part -/
@[go_sem] def Q70_0:=k 0x54f4bc8
@[go_sem] def Q70_1:=k 0x16829f2fc26c7d0d4
@[go_sem] def Q70_2:=k 0x84ac
@[go_sem] def Q70_3:=k 0x2730a1ebe6d2afab4
def t_Q70:TF:=⟨8,[.t 2],(.seq (.reg Q70_0) (.seq (.seq (.reg Q70_1) (.cond (.t 5) (.seq (.reg Q70_2) .ret) .skip)) (.seq (.reg Q70_3) .ret)))⟩
/-! (*horarium/cursor.Cursor).step -/
@[go_sem] def Q71_0:=k 0x1efb0ff32cbc28689618f0dea38f56c
@[go_sem] def Q71_1:=k 0x6c0f7f6931015ce2e108c
@[go_sem] def Q71_2:=k 0x1eb380e68117b4caaf580b3d5aba6c
@[go_sem] def Q71_3:=kd 0x3d0888430312f5e4165000f9cf9aabb409d4a2a070ca8cb4b8cc0ae68b7ec
@[go_sem] def Q71_4:=k 0x355cbbd26979ed9f758edafd2ef7003bec39d220f50d
@[go_sem] def Q71_5:=k 0x15251c7f67e163de82dde512816d
@[go_sem] def Q71_6:=kd 0xddc878a70ed881b97ef191392f815b1dfbe539029749177d834e0773092691d2d
@[go_sem] def Q71_7:=k 0x1b5c41dbdd19c5930de7f92e3b37a6440d
@[go_sem] def Q71_8:=k 0xa33dc445d25cae72d
@[go_sem] def Q71_9:=kd 0x2113f4fb6eeda535c118897529a33173abbc84f74662815c300eaec04014b3e8b3dd1d668daf9fc229911c2e
def Q71_10:TC:=(.seq (.seq (.reg Q71_2) (.cond (.t 17) .skip (.exit 0))) (.block 1 (.seq (.dreg Q71_3) (.seq (.seq (.reg Q71_4) (.seq (.reg Q71_5) (.cond (.t 40) (.seq (.seq (.dreg Q71_6) (.cond (.t 52) (.reg Q71_7) .skip)) (.seq (.reg Q71_8) .ret)) .skip))) (.dreg Q71_9)))))
@[go_sem] def Q71_11:=k 0x6dd019129c67ae1cf3439b294cc239289d026debce2a88a9ce
def t_Q71:TF:=⟨83,[],(.seq (.reg Q71_0) (.seq (.reg Q71_1) (.seq (.block 0 (.loop Q71_10)) (.reg Q71_11))))⟩
/-! horarium/runs.Add -/
@[go_sem] def Q72_0:=k 0xf578
@[go_sem] def Q72_1:=k 0x1eb443993505cd3384cb0ca2a342e0c
@[go_sem] def Q72_2:=k 0x2dceedcb857a1d8d908c
@[go_sem] def Q72_3:=k 0xf768
@[go_sem] def Q72_4:=k 0x9465e62871d7b278e730c
def t_Q72:TF:=⟨16,[.t 4],(.seq (.reg Q72_0) (.seq (.reg Q72_1) (.seq (.seq (.reg Q72_2) (.cond (.t 12) (.seq (.reg Q72_3) .ret) .skip)) (.seq (.reg Q72_4) .ret))))⟩
/-! slices.Clip[[]horarium/api.Run,horarium/api.Run] -/
@[go_sem] def Q73_0:=k 0x8450
@[go_sem] def Q73_1:=k 0x36d242c28cbdeb157bf4edc634cea283ccc
def t_Q73:TF:=⟨9,[.t 2],(.seq (.reg Q73_0) (.seq (.reg Q73_1) .ret))⟩
/-! horarium/bound.spans -/
@[go_sem] def Q74_0:=k 0xf590
@[go_sem] def Q74_1:=k 0x12e30
@[go_sem] def Q74_2:=k 0x166b8
@[go_sem] def Q74_3:=k 0x9e2111bc92c
@[go_sem] def Q74_4:=k 0xaeecf24
@[go_sem] def Q74_5:=k 0x533d7db5e996398511bf0
@[go_sem] def Q74_6:=k 0x29d68bab8302e788f21c43a94ec
@[go_sem] def Q74_7:=k 0x84110b6263b1e89cf39b6e54100c70244a0c1b9b7d1f74
@[go_sem] def Q74_8:=k 0x39dce4b2959b1d18a0d64324bcf714704b450d
@[go_sem] def Q74_9:=k 0x1b79d03b538cd
@[go_sem] def Q74_10:=k 0x7154004e0e3181
def Q74_11:TC:=(.seq (.reg Q74_4) (.seq (.cond (.t 13) .skip (.exit 0)) (.seq (.block 1 (.seq (.reg Q74_5) (.seq (.reg Q74_6) (.seq (.seq (.reg Q74_7) (.cond (.t 28) (.reg Q74_8) .skip)) (.reg Q74_9))))) (.reg Q74_10))))
@[go_sem] def Q74_12:=k 0x1d045985d0a0d
def t_Q74:TF:=⟨38,[.t 4],(.seq (.reg Q74_0) (.seq (.reg Q74_1) (.seq (.reg Q74_2) (.seq (.seq (.reg Q74_3) (.block 0 (.loop Q74_11))) (.seq (.reg Q74_12) .ret)))))⟩
/-! horarium/runs.Length -/
@[go_sem] def Q75_0:=k 0x8438
@[go_sem] def Q75_1:=k 0xbcd8
@[go_sem] def Q75_2:=k 0x9aff78ae6ac
@[go_sem] def Q75_3:=k 0x7479ca4
@[go_sem] def Q75_4:=k 0x3499c0eeed384e2a9e970
@[go_sem] def Q75_5:=k 0x20c1b07b0396e8c858230f8766c
@[go_sem] def Q75_6:=k 0x32ea5598eb100
def Q75_7:TC:=(.seq (.reg Q75_3) (.seq (.cond (.t 9) .skip (.exit 0)) (.seq (.block 1 (.seq (.reg Q75_4) (.reg Q75_5))) (.reg Q75_6))))
@[go_sem] def Q75_8:=k 0x1abad0d4918c
def t_Q75:TF:=⟨18,[.t 2],(.seq (.reg Q75_0) (.seq (.reg Q75_1) (.seq (.seq (.reg Q75_2) (.block 0 (.loop Q75_7))) (.seq (.reg Q75_8) .ret))))⟩
/-! horarium/bound.next -/
@[go_sem] def Q76_0:=k 0x166b8
@[go_sem] def Q76_1:=k 0x9d58ab7908c
@[go_sem] def Q76_2:=k 0xa050284
@[go_sem] def Q76_3:=k 0x52ef0dbf7df52cae74f50
@[go_sem] def Q76_4:=k 0x23eb5eb75cea24a14cc5902784c
@[go_sem] def Q76_5:=k 0xb9b9568f50beb3bddd0230d05783936c
@[go_sem] def Q76_6:=k 0x4f63dd1b82ea0
def Q76_7:TC:=(.seq (.reg Q76_2) (.seq (.cond (.t 12) .skip (.exit 0)) (.seq (.block 1 (.seq (.reg Q76_3) (.seq (.reg Q76_4) (.cond (.t 19) (.seq (.reg Q76_5) .ret) .skip)))) (.reg Q76_6))))
@[go_sem] def Q76_8:=k 0x1a7b702abe4983d439af1aee72534c93b7b2c
def t_Q76:TF:=⟨32,[.t 6],(.seq (.reg Q76_0) (.seq (.seq (.reg Q76_1) (.block 0 (.loop Q76_7))) (.seq (.reg Q76_8) .ret)))⟩
/-! horarium/fold.leaf -/
@[go_sem] def Q77_0:=k 0x82f24bc8
@[go_sem] def Q77_1:=k 0xb2cfe7506c7d0d4
@[go_sem] def Q77_2:=k 0x2c8983567a8fcbcd2afab4
@[go_sem] def Q77_3:=k 0x25433c49825ee5a12c1531645f1c92494
def t_Q77:TF:=⟨14,[.cell 2 3 true],(.seq (.reg Q77_0) (.seq (.seq (.reg Q77_1) (.cond (.t 5) (.seq (.reg Q77_2) .ret) .skip)) (.seq (.reg Q77_3) .ret)))⟩
/-! horarium/fold.again -/
@[go_sem] def Q78_0:=k 0x166b8
@[go_sem] def Q78_1:=k 0x8b358
@[go_sem] def Q78_2:=kd 0x1dd3798569a7acb5426e978f571676d6e5eeb631d1cb89435f4ba94f396240b35ec98a69b3b89ba81387043340022f354c1fe6baf5f9f8799f63eadc609f7fbedb039237d101aac94bd8412764886c623063e86d
@[go_sem] def Q78_3:=k 0x1bc894638c6724bcb4d
def Q78_4:TC:=(.seq (.seq (.dreg Q78_2) (.cond (.t 38) .skip (.exit 0))) (.block 1 (.reg Q78_3)))
@[go_sem] def Q78_5:=k 0x202c35b9a3c8d
def t_Q78:TF:=⟨42,[.t 6],(.seq (.reg Q78_0) (.seq (.reg Q78_1) (.seq (.block 0 (.loop Q78_4)) (.seq (.reg Q78_5) .ret))))⟩
/-! slices.IndexFunc[[][]horarium/api.Node,[]horarium/api.Node] -/
@[go_sem] def Q79_0:=k 0xf578
@[go_sem] def Q79_1:=k 0x9aff78ae6ac
@[go_sem] def Q79_2:=k 0x7479ca4
@[go_sem] def Q79_3:=k 0xfeacca2692c
@[go_sem] def Q79_4:=k 0x1602091fc0422463b3c234ac3115cc
@[go_sem] def Q79_5:=k 0x1ad3ddaab98c
@[go_sem] def Q79_6:=k 0x392d8798f2240
def Q79_7:TC:=(.seq (.reg Q79_2) (.seq (.cond (.t 9) .skip (.exit 0)) (.seq (.block 1 (.seq (.reg Q79_3) (.seq (.reg Q79_4) (.cond (.t 16) (.seq (.reg Q79_5) .ret) .skip)))) (.reg Q79_6))))
@[go_sem] def Q79_8:=k 0xf5ec
def t_Q79:TF:=⟨19,[.t 4],(.seq (.reg Q79_0) (.seq (.seq (.reg Q79_1) (.block 0 (.loop Q79_7))) (.seq (.reg Q79_8) .ret)))⟩
/-! horarium/fold.same$1 -/
@[go_sem] def Q80_0:=k 0xbcec
@[go_sem] def Q80_1:=k 0x3bd97f5dbe7c3a62f8970
def t_Q80:TF:=⟨7,[.t 3],(.seq (.reg Q80_0) (.seq (.reg Q80_1) .ret))⟩
/-! slices.Equal[[]horarium/api.Node,horarium/api.Node] -/
@[go_sem] def Q81_0:=k 0xf58c
@[go_sem] def Q81_1:=k 0x3f2abd0ecf981c02060ae6ac
@[go_sem] def Q81_2:=k 0xf58c
@[go_sem] def Q81_3:=k 0x9ee978001cc
@[go_sem] def Q81_4:=k 0xbd89bc4
@[go_sem] def Q81_5:=k 0x17becb46e84c
@[go_sem] def Q81_6:=kd 0x1eeb0d63a794be63fce801bddde1791043cae952b41e6c
@[go_sem] def Q81_7:=k 0xf58c
@[go_sem] def Q81_8:=k 0x4f95f6c7d2ea0
def Q81_9:TC:=(.seq (.reg Q81_4) (.seq (.cond (.t 14) .skip (.exit 0)) (.seq (.block 1 (.seq (.reg Q81_5) (.seq (.dreg Q81_6) (.cond (.t 24) (.seq (.reg Q81_7) .ret) .skip)))) (.reg Q81_8))))
@[go_sem] def Q81_10:=k 0xf600
def t_Q81:TF:=⟨26,[.t 4],(.seq (.reg Q81_0) (.seq (.seq (.reg Q81_1) (.cond (.t 10) (.seq (.reg Q81_2) .ret) .skip)) (.seq (.seq (.reg Q81_3) (.block 0 (.loop Q81_9))) (.seq (.reg Q81_10) .ret))))⟩
/-! slices.Grow[[]horarium/api.Node,horarium/api.Node] -/
@[go_sem] def Q82_0:=k 0xf590
@[go_sem] def Q82_1:=k 0x7d40d92c20c
@[go_sem] def Q82_2:=k 0x4504a194
@[go_sem] def Q82_3:=k 0xa8bb30f6092d1d545826ccc9dca4c32cb306bec
@[go_sem] def Q82_4:=k 0x177c10c6784c
@[go_sem] def Q82_5:=k 0x75a1ae418bb2effea1e241f65ec27bc14f6e645c8df2b558c
@[go_sem] def Q82_6:=k 0x28eb0e09532c
def t_Q82:TF:=⟨27,[.t 4],(.seq (.reg Q82_0) (.seq (.seq (.reg Q82_1) (.cond (.t 6) (.reg Q82_2) .skip)) (.seq (.seq (.reg Q82_3) (.seq (.reg Q82_4) (.cond (.t 16) (.reg Q82_5) .skip))) (.seq (.reg Q82_6) .ret))))⟩
/-! slices.Grow[[][]horarium/api.Node,[]horarium/api.Node] -/
@[go_sem] def Q83_0:=k 0xf590
@[go_sem] def Q83_1:=k 0x7d40d92c20c
@[go_sem] def Q83_2:=k 0x4504a194
@[go_sem] def Q83_3:=k 0xa8bb30f6092d1d545826ccc9dca4c32cb306bec
@[go_sem] def Q83_4:=k 0x177c10c6784c
@[go_sem] def Q83_5:=k 0x75a1ae41893610e7b38530690d695fa2cf3614ab85f2b558c
@[go_sem] def Q83_6:=k 0x28eb0e09532c
def t_Q83:TF:=⟨27,[.t 4],(.seq (.reg Q83_0) (.seq (.seq (.reg Q83_1) (.cond (.t 6) (.reg Q83_2) .skip)) (.seq (.seq (.reg Q83_3) (.seq (.reg Q83_4) (.cond (.t 16) (.reg Q83_5) .skip))) (.seq (.reg Q83_6) .ret))))⟩
/-! horarium/node.measure -/
@[go_sem] def Q84_0:=k 0x54f8438
@[go_sem] def Q84_1:=k 0x1ed98c40770ae18c
@[go_sem] def Q84_2:=k 0x9fb1de43a6c
@[go_sem] def Q84_3:=k 0xcc26864
@[go_sem] def Q84_4:=k 0x403ead42f72bc1f64b554
@[go_sem] def Q84_5:=kd 0x1dc231f07f270e294ddc9a09634babc7a38e6680c917ec
@[go_sem] def Q84_6:=k 0x10af929db3da82ad176a8c
@[go_sem] def Q84_7:=k 0xf59b502f1f12eeb30d442483eb5cce46d
@[go_sem] def Q84_8:=k 0x3cfd67d99af52aec54b582cdb2bdc28f7a9c71ce382d
@[go_sem] def Q84_9:=k 0x247e93de40669251ae9c390a4461bbe3ede44696b9e41bddecd7ccc124489273117c48d
@[go_sem] def Q84_10:=kd 0x976a81cb278f75d0839fd663e2953c984185e8ca496385a5adb833ae19cf7d12410b5d856dd6b5702ee
@[go_sem] def Q84_11:=k 0x423b25cb2369ce1b2e36c3097a41a3f7b38e
@[go_sem] def Q84_12:=k 0x1611f16426fc1c9461e24f20eb6
@[go_sem] def Q84_13:=k 0x1e465c32e19af0803ea8d4a0e2bf53ca972bcec0a0aa4f2f136
@[go_sem] def Q84_14:=k 0x83af25f9c883dc74184c6f5ad7e7c4d1f0be272ddd0cd8e
@[go_sem] def Q84_15:=kd 0x1fa00c37c027af042ed8cfdc288e87619f67804aeb64c1fe4d85e12341abfb4962f8b6146e
@[go_sem] def Q84_16:=kd 0x9d914a0c35f196a7b8769875ff57703333ae9f7e590405f4f0230ea93f4fb94e0ae
def Q84_17:TC:=(.seq (.seq (.reg Q84_9) (.cond (.t 53) .skip (.exit 2))) (.block 3 (.seq (.dreg Q84_10) (.seq (.reg Q84_11) (.seq (.seq (.reg Q84_12) (.cond (.t 73) (.reg Q84_13) .skip)) (.seq (.reg Q84_14) (.seq (.dreg Q84_15) (.dreg Q84_16))))))))
@[go_sem] def Q84_18:=k 0x155a7e9822647f22
def Q84_19:TC:=(.seq (.reg Q84_3) (.seq (.cond (.t 15) .skip (.exit 0)) (.seq (.block 1 (.seq (.reg Q84_4) (.seq (.dreg Q84_5) (.seq (.seq (.reg Q84_6) (.seq (.reg Q84_7) (.cond (.t 33) (.reg Q84_8) .skip))) (.block 2 (.loop Q84_17)))))) (.reg Q84_18))))
@[go_sem] def Q84_20:=kd 0x14495e82c69f73597aba02ed91e700919caea0f822ba751f4a0a03a13ccee
def t_Q84:TF:=⟨118,[.t 2,.t 3],(.seq (.reg Q84_0) (.seq (.reg Q84_1) (.seq (.seq (.reg Q84_2) (.block 0 (.loop Q84_19))) (.seq (.dreg Q84_20) .ret))))⟩
/-! horarium/node.Size -/
@[go_sem] def Q85_0:=k 0xf578
@[go_sem] def Q85_1:=k 0xfad8aebb1c1d1ffdfe54d9b8cc1df4d5a3136bec
@[go_sem] def Q85_2:=k 0xf578
@[go_sem] def Q85_3:=k 0x84218
@[go_sem] def Q85_4:=k 0x195c1dd630ec
@[go_sem] def Q85_5:=k 0x564037f542614255cd8c
@[go_sem] def Q85_6:=k 0x343f52ae27c8fb1f0c15f6b384a94c
@[go_sem] def Q85_7:=k 0x2bd66d42506c
@[go_sem] def Q85_8:=k 0xf578
@[go_sem] def Q85_9:=k 0x47bf862e10ec1d0a9847af5db7dad
@[go_sem] def Q85_10:=k 0x1a9d97650602d
@[go_sem] def Q85_11:=k 0x54b9fc66aa3d673e2bbcb463cf96d
@[go_sem] def Q85_12:=k 0x7afeb9ef08427300c
def Q85_13:TC:=(.seq (.seq (.reg Q85_5) (.cond (.t 20) .skip (.exit 0))) (.seq (.block 1 (.seq (.reg Q85_6) (.seq (.seq (.reg Q85_7) (.cond (.t 29) (.seq (.reg Q85_8) .ret) .skip)) (.seq (.reg Q85_9) (.seq (.reg Q85_10) (.cond (.t 35) (.seq (.reg Q85_11) .ret) .skip)))))) (.reg Q85_12)))
@[go_sem] def Q85_14:=k 0xf578
def t_Q85:TF:=⟨40,[.t 4],(.seq (.reg Q85_0) (.seq (.seq (.reg Q85_1) (.cond (.t 15) (.seq (.reg Q85_2) .ret) .skip)) (.seq (.reg Q85_3) (.seq (.seq (.reg Q85_4) (.block 0 (.loop Q85_13))) (.seq (.reg Q85_14) .ret)))))⟩
/-! horarium/horariumref3.Size -/
@[go_sem] def Q86_0:=k 0xf578
@[go_sem] def Q86_1:=k 0xe20fffd0e17e4cc1b07b91ade4367be65693334c
@[go_sem] def Q86_2:=k 0xf578
@[go_sem] def Q86_3:=k 0x84218
@[go_sem] def Q86_4:=k 0x17cb5155f84c
@[go_sem] def Q86_5:=k 0x5132007d2a4e4e5594ec
@[go_sem] def Q86_6:=k 0x18f35fd0542bb6da709c93f8470ac
@[go_sem] def Q86_7:=k 0xf578
@[go_sem] def Q86_8:=k 0xa19b912b7a804a86c
@[go_sem] def Q86_9:=k 0x105511da29e825a73eb6add0125804b5ad
@[go_sem] def Q86_10:=k 0x3f3625f4ac91f91a58af73f7d7a24089e128f6ecd16d
@[go_sem] def Q86_11:=k 0x16936de2b8e566aad38ed9a0ed780795cd
@[go_sem] def Q86_12:=k 0x22b01aa3e365a31b18d
@[go_sem] def Q86_13:=k 0x27ec61a5422cd
@[go_sem] def Q86_14:=k 0x799834d0a165e9ee706ef208ebc0d
@[go_sem] def Q86_15:=k 0x75744618fb7a6f76c
def Q86_16:TC:=(.seq (.seq (.reg Q86_5) (.cond (.t 19) .skip (.exit 0))) (.seq (.block 1 (.seq (.seq (.reg Q86_6) (.cond (.t 27) (.seq (.reg Q86_7) .ret) .skip)) (.seq (.reg Q86_8) (.seq (.seq (.reg Q86_9) (.cond (.t 35) (.reg Q86_10) .skip)) (.seq (.seq (.reg Q86_11) (.cond (.t 48) (.reg Q86_12) .skip)) (.seq (.reg Q86_13) (.cond (.t 52) (.seq (.reg Q86_14) .ret) .skip))))))) (.reg Q86_15)))
@[go_sem] def Q86_17:=k 0xf578
def t_Q86:TF:=⟨57,[.t 4],(.seq (.reg Q86_0) (.seq (.seq (.reg Q86_1) (.cond (.t 14) (.seq (.reg Q86_2) .ret) .skip)) (.seq (.reg Q86_3) (.seq (.seq (.reg Q86_4) (.block 0 (.loop Q86_16))) (.seq (.reg Q86_17) .ret)))))⟩
/-! horarium/horariumref3.depth -/
@[go_sem] def Q87_0:=k 0xf578
@[go_sem] def Q87_1:=k 0x12e18
@[go_sem] def Q87_2:=k 0x3de480a922039648d57ec
@[go_sem] def Q87_3:=k 0xaeecf24
@[go_sem] def Q87_4:=k 0x5461e2b1d59711bec
@[go_sem] def Q87_5:=k 0x4d64445953d5fc033ceafb0144e80ec
@[go_sem] def Q87_6:=k 0x42f685f19cc20
def Q87_7:TC:=(.seq (.reg Q87_3) (.seq (.cond (.t 13) .skip (.exit 0)) (.seq (.block 1 (.seq (.reg Q87_4) (.reg Q87_5))) (.reg Q87_6))))
@[go_sem] def Q87_8:=k 0x80308689450a054ac
def t_Q87:TF:=⟨24,[.t 4],(.seq (.reg Q87_0) (.seq (.reg Q87_1) (.seq (.seq (.reg Q87_2) (.block 0 (.loop Q87_7))) (.seq (.reg Q87_8) .ret))))⟩
/-! horarium/horariumref3.length -/
@[go_sem] def Q88_0:=k 0xf578
@[go_sem] def Q88_1:=k 0x12e18
@[go_sem] def Q88_2:=k 0x3de480a922039648d57ec
@[go_sem] def Q88_3:=k 0xaeecf24
@[go_sem] def Q88_4:=k 0x5461e2b1d59711bec
@[go_sem] def Q88_5:=k 0x8fbcdbdfe38a320f0c03803c98e944e80ec
@[go_sem] def Q88_6:=k 0x46181ef1a04c0
def Q88_7:TC:=(.seq (.reg Q88_3) (.seq (.cond (.t 13) .skip (.exit 0)) (.seq (.block 1 (.seq (.reg Q88_4) (.reg Q88_5))) (.reg Q88_6))))
@[go_sem] def Q88_8:=k 0x1c31c53905e7c07b681390a94c
@[go_sem] def Q88_9:=k 0x5d941b46f3934
@[go_sem] def Q88_10:=k 0x2f2e402d99ac
@[go_sem] def Q88_11:=k 0x65bb95ef4dc715
@[go_sem] def Q88_12:=k 0x3049d6301fce5d52dd575c8e41fb0fd716f649b941412d6ec278d
@[go_sem] def Q88_13:=k 0x4fe801929137b33aae7d543885a39358375d2d
def t_Q88:TF:=⟨48,[.t 4],(.seq (.reg Q88_0) (.seq (.reg Q88_1) (.seq (.seq (.reg Q88_2) (.block 0 (.loop Q88_7))) (.seq (.seq (.reg Q88_8) (.block 2 (.seq (.reg Q88_9) (.cond (.t 28) (.seq (.reg Q88_10) .ret) (.seq (.reg Q88_11) (.cond (.t 31) (.seq (.reg Q88_12) .ret) .skip)))))) (.seq (.reg Q88_13) .ret)))))⟩
/-! horarium/horariumref3.Kids -/
@[go_sem] def Q89_0:=k 0xf590
@[go_sem] def Q89_1:=k 0x63ae5b37263d2220d57ec
@[go_sem] def Q89_2:=k 0x166d0
@[go_sem] def Q89_3:=k 0x43c287307070195cc
@[go_sem] def Q89_4:=k 0xea38d11195c3a628632bfff0c
@[go_sem] def Q89_5:=k 0x1c686965fe7729c4c9ab13214c
@[go_sem] def Q89_6:=k 0x554e84e15d2e5857cd0ae04145d1a2c
def Q89_7:TC:=(.seq (.seq (.reg Q89_4) (.cond (.t 17) .skip (.exit 0))) (.seq (.block 1 (.reg Q89_5)) (.reg Q89_6)))
@[go_sem] def Q89_8:=k 0x2a7bdab403cc
def t_Q89:TF:=⟨28,[.t 4],(.seq (.reg Q89_0) (.seq (.reg Q89_1) (.seq (.reg Q89_2) (.seq (.seq (.reg Q89_3) (.block 0 (.loop Q89_7))) (.seq (.reg Q89_8) .ret)))))⟩
/-! horarium/runs.Same -/
@[go_sem] def Q90_0:=k 0xf58c
@[go_sem] def Q90_1:=k 0x45f5ee4f443c3620cae0c
def t_Q90:TF:=⟨8,[.t 4],(.seq (.reg Q90_0) (.seq (.reg Q90_1) .ret))⟩
/-! horarium/reduce.pass$1 -/
@[go_sem] def Q91_0:=k 0x117ba0debd08
@[go_sem] def Q91_1:=k 0x90355a84db256be9449478f95cab11d141b4750
def t_Q91:TF:=⟨13,[.t 5,.t 6],(.seq (.reg Q91_0) (.seq (.reg Q91_1) .ret))⟩
/-! horarium/move.places -/
@[go_sem] def Q92_0:=k 0x9c35108
@[go_sem] def Q92_1:=k 0x255414270b857be84576f2fa7ebd60872f28ed1f43d03537cb6006ce207f5eb6ba818268ecfdd5b0fc1ffffd66a14
def t_Q92:TF:=⟨22,[.t 4],(.seq (.reg Q92_0) (.seq (.reg Q92_1) .ret))⟩
/-! slices.ContainsFunc[[]horarium/api.Run,horarium/api.Run] -/
@[go_sem] def Q93_0:=k 0xf58c
@[go_sem] def Q93_1:=k 0x11a4b6643c82e270b38030cae0c
def t_Q93:TF:=⟨9,[.t 4],(.seq (.reg Q93_0) (.seq (.reg Q93_1) .ret))⟩
/-! horarium/move.May$1 -/
@[go_sem] def Q94_0:=k 0x9bc3d08
@[go_sem] def Q94_1:=k 0x761819950444236d01e9290583ab2ac55b6d9e1f64aa47ab2f642b3eb54c944f287bba146680a87549ec86714ea010cfb67392fd66a14
def t_Q94:TF:=⟨25,[.t 4],(.seq (.reg Q94_0) (.seq (.reg Q94_1) .ret))⟩
/-! horarium/word.Depends -/
@[go_sem] def Q95_0:=k 0x166cc
@[go_sem] def Q95_1:=k 0x2fd3802756a59d5bfb6ca6220d720abd21e5eba3936b78956b0dca68e0fecab64900da38d15878334c
def t_Q95:TF:=⟨22,[.t 6],(.seq (.reg Q95_0) (.seq (.reg Q95_1) .ret))⟩
/-! slices.Equal[[]horarium/api.Run,horarium/api.Run] -/
@[go_sem] def Q96_0:=k 0xf58c
@[go_sem] def Q96_1:=k 0x3f2abd0ecf981c02060ae6ac
@[go_sem] def Q96_2:=k 0xf58c
@[go_sem] def Q96_3:=k 0x9ee978001cc
@[go_sem] def Q96_4:=k 0xbd89bc4
@[go_sem] def Q96_5:=k 0x17becb46e84c
@[go_sem] def Q96_6:=kd 0x1eea7fa205b156f1a7d971675d6c972f99e40e1bb41e6c
@[go_sem] def Q96_7:=k 0xf58c
@[go_sem] def Q96_8:=k 0x4f95f6c7d2ea0
def Q96_9:TC:=(.seq (.reg Q96_4) (.seq (.cond (.t 14) .skip (.exit 0)) (.seq (.block 1 (.seq (.reg Q96_5) (.seq (.dreg Q96_6) (.cond (.t 24) (.seq (.reg Q96_7) .ret) .skip)))) (.reg Q96_8))))
@[go_sem] def Q96_10:=k 0xf600
def t_Q96:TF:=⟨26,[.t 4],(.seq (.reg Q96_0) (.seq (.seq (.reg Q96_1) (.cond (.t 10) (.seq (.reg Q96_2) .ret) .skip)) (.seq (.seq (.reg Q96_3) (.block 0 (.loop Q96_9))) (.seq (.reg Q96_10) .ret))))⟩
/-! horarium/word.Project -/
@[go_sem] def Q97_0:=k 0x166d0
@[go_sem] def Q97_1:=k 0x19f70
@[go_sem] def Q97_2:=k 0x9e2111bc92c
@[go_sem] def Q97_3:=k 0xaeecf24
@[go_sem] def Q97_4:=k 0x5d0b7cafae34218511bf0
@[go_sem] def Q97_5:=k 0x186604df7911353d7d475c72cc07e62376d75612e3d8698350f4
@[go_sem] def Q97_6:=k 0x1fb1def1637f5cffcb183c5f2c
@[go_sem] def Q97_7:=k 0x5f24e6f1bc9c0
def Q97_8:TC:=(.seq (.reg Q97_3) (.seq (.cond (.t 13) .skip (.exit 0)) (.seq (.block 1 (.seq (.reg Q97_4) (.seq (.reg Q97_5) (.cond (.t 25) (.reg Q97_6) .skip)))) (.reg Q97_7))))
@[go_sem] def Q97_9:=k 0x58ed6d99af1d2064d
def t_Q97:TF:=⟨33,[.t 6],(.seq (.reg Q97_0) (.seq (.reg Q97_1) (.seq (.seq (.reg Q97_2) (.block 0 (.loop Q97_8))) (.seq (.reg Q97_9) .ret))))⟩
/-! horarium/runs.Ticks -/
@[go_sem] def Q98_0:=k 0xf578
@[go_sem] def Q98_1:=k 0x12e18
@[go_sem] def Q98_2:=k 0x9c9045357ec
@[go_sem] def Q98_3:=k 0x91b35e4
@[go_sem] def Q98_4:=k 0x48d29ecf4db637d7d82b0
@[go_sem] def Q98_5:=k 0x97f9aa0014fb6d074b7b4
@[go_sem] def Q98_6:=k 0x2de786a897fa33e93d23dcff22c
@[go_sem] def Q98_7:=k 0x45e60545504c0
def Q98_8:TC:=(.seq (.reg Q98_3) (.seq (.cond (.t 11) .skip (.exit 0)) (.seq (.block 1 (.seq (.reg Q98_4) (.seq (.reg Q98_5) (.cond (.t 17) (.reg Q98_6) .skip)))) (.reg Q98_7))))
@[go_sem] def Q98_9:=k 0x2438a8ac0d4c
def t_Q98:TF:=⟨24,[.t 4],(.seq (.reg Q98_0) (.seq (.reg Q98_1) (.seq (.seq (.reg Q98_2) (.block 0 (.loop Q98_8))) (.seq (.reg Q98_9) .ret))))⟩
/-! horarium/horariumref12.Name -/
@[go_sem] def Q99_0:=k 0x844c
@[go_sem] def Q99_1:=k 0xbcd8
@[go_sem] def Q99_2:=k 0x19959e54baec1b3dea0c
@[go_sem] def Q99_3:=k 0x1a15e6c56e318e148df86cabd21f34294e5682713160280755c665348af6d5bb6ae7a92add4d3ed601cc
@[go_sem] def Q99_4:=k 0x10a233363a71bb64f09262af1dbcee2976fb03488237d9410e0278aa6c64ace70de04e30c0e8272bc4904757c99f540bcd
@[go_sem] def Q99_5:=k 0x844c
@[go_sem] def Q99_6:=k 0x37fc510cb6e0f4c8c
def Q99_7:TC:=(.seq (.seq (.reg Q99_2) (.cond (.t 8) .skip (.exit 0))) (.seq (.block 1 (.seq (.reg Q99_3) (.seq (.reg Q99_4) (.cond (.t 44) (.seq (.reg Q99_5) .ret) .skip)))) (.reg Q99_6)))
@[go_sem] def Q99_8:=k 0x45279dceaaa4e3527cdd66c00079533150aa6fb24a75f4070d
def t_Q99:TF:=⟨53,[.t 2],(.seq (.reg Q99_0) (.seq (.seq (.reg Q99_1) (.block 0 (.loop Q99_7))) (.seq (.reg Q99_8) .ret)))⟩
/-! horarium/horariumref12.partRight -/
@[go_sem] def Q100_0:=k 0x9bbcbc8
@[go_sem] def Q100_1:=k 0xd7c428e9aeb40ee09050e0baeeabb84bf84700279ecfd353354
@[go_sem] def Q100_2:=k 0x844c
@[go_sem] def Q100_3:=k 0x245caf1d5fa376994
@[go_sem] def Q100_4:=k 0x123d3424
@[go_sem] def Q100_5:=k 0x2e79018234270039f80f0
@[go_sem] def Q100_6:=k 0x109ce76d7411cb026a74c8bed90018160fc6f485e4348516dde4c51bf332d8e76aab54a59eb77500355cee754d1c5ea3e01f5
@[go_sem] def Q100_7:=k 0x844c
@[go_sem] def Q100_8:=k 0x8481c98a5f8541
def Q100_9:TC:=(.seq (.reg Q100_4) (.seq (.cond (.t 21) .skip (.exit 0)) (.seq (.block 1 (.seq (.reg Q100_5) (.seq (.reg Q100_6) (.cond (.t 41) (.seq (.reg Q100_7) .ret) .skip)))) (.reg Q100_8))))
@[go_sem] def Q100_10:=k 0x14e5324f53bdd5
@[go_sem] def Q100_11:=k 0x9f9307e5
@[go_sem] def Q100_12:=k 0x937a6d69bf84f5
@[go_sem] def Q100_13:=k 0x617fc4a9743546c6ec8377f9d65fc89a0ed
@[go_sem] def Q100_14:=k 0x844c
@[go_sem] def Q100_15:=k 0xab4e15a6dc2cc1
def Q100_16:TC:=(.seq (.reg Q100_11) (.seq (.cond (.t 46) .skip (.exit 2)) (.seq (.block 3 (.seq (.reg Q100_12) (.seq (.reg Q100_13) (.cond (.t 53) (.seq (.reg Q100_14) .ret) .skip)))) (.reg Q100_15))))
@[go_sem] def Q100_17:=k 0x588d095e440b262f72a78370f981bb26c0d95a809a46555
@[go_sem] def Q100_18:=k 0x84c0
@[go_sem] def Q100_19:=k 0x322a05e3d30c8d9243cf145858eae96ff033af3bd353765447a9984221652cec79ca68182ae773419d3343b430adf5dafdac2902264c389f77d2c13e525256
def t_Q100:TF:=⟨83,[.t 2],(.seq (.reg Q100_0) (.seq (.seq (.reg Q100_1) (.cond (.t 16) (.seq (.reg Q100_2) .ret) .skip)) (.seq (.seq (.reg Q100_3) (.block 0 (.loop Q100_9))) (.seq (.seq (.reg Q100_10) (.block 2 (.loop Q100_16))) (.seq (.seq (.reg Q100_17) (.cond (.t 62) (.seq (.reg Q100_18) .ret) .skip)) (.seq (.reg Q100_19) .ret))))))⟩
/-! horarium/horariumref12.chanRight -/
@[go_sem] def Q101_0:=k 0x3650180468
@[go_sem] def Q101_1:=k 0x67d6e2e83c38f0e9c188ceb0792e7b407ff8c2590affed8c70af763cf735414df9849cb355f9eaa83ece0ac627442d62955f4eab23da6cb827a107af06c6c0504fe882730c28cd8bc3dd6bbd8886209414059f06e820df6b7e79197be466683499d5cc7e1d7e15
@[go_sem] def Q101_2:=k 0xf58c
@[go_sem] def Q101_3:=k 0x3c64415112a73f612f0ca5c987b08cf412aba634fa4b8cf804021a33f5407b0a0ed292e36907b65677feb84c623e262557026a3bbcbf7c2ca611fe8886d2f939ad35
def t_Q101:TF:=⟨64,[.t 4],(.seq (.reg Q101_0) (.seq (.seq (.reg Q101_1) (.cond (.t 41) (.seq (.reg Q101_2) .ret) .skip)) (.seq (.reg Q101_3) .ret)))⟩
/-! (*horarium/cursor.Cursor).down -/
@[go_sem] def Q102_0:=k 0x12ec8c10f4ecf5855e6f14626d06981d104aff5e16237594c7c39985d2f288c2feff2f274d93e8980003a83cb50ea38f56c
@[go_sem] def Q102_1:=kd 0x1c8a6a1312e7f704edeb4b879533135e776bc777a434d9371d84cd9b1c58d6d83d01c6948f23a8ff04a06161b9ea68e35370561cccbd846d
@[go_sem] def Q102_2:=k 0x1e7d2ee9f7001f7bdcd
def Q102_3:TC:=(.seq (.seq (.reg Q102_0) (.cond (.t 23) .skip (.exit 0))) (.block 1 (.seq (.dreg Q102_1) (.reg Q102_2))))
@[go_sem] def Q102_4:=k 0x1a6b7e7f158bf30db8e78438070d
def t_Q102:TF:=⟨49,[],(.seq (.block 0 (.loop Q102_3)) (.reg Q102_4))⟩
/-! slices.Equal[[]int,int] -/
@[go_sem] def Q103_0:=k 0xf58c
@[go_sem] def Q103_1:=k 0x3f2abd0ecf981c02060ae6ac
@[go_sem] def Q103_2:=k 0xf58c
@[go_sem] def Q103_3:=k 0x9ee978001cc
@[go_sem] def Q103_4:=k 0xbd89bc4
@[go_sem] def Q103_5:=k 0x17becb46e84c
@[go_sem] def Q103_6:=kd 0x1eea3c4c6486dd58b329ce2e62e1a07b5bb8fcdcb41e6c
@[go_sem] def Q103_7:=k 0xf58c
@[go_sem] def Q103_8:=k 0x4f95f6c7d2ea0
def Q103_9:TC:=(.seq (.reg Q103_4) (.seq (.cond (.t 14) .skip (.exit 0)) (.seq (.block 1 (.seq (.reg Q103_5) (.seq (.dreg Q103_6) (.cond (.t 24) (.seq (.reg Q103_7) .ret) .skip)))) (.reg Q103_8))))
@[go_sem] def Q103_10:=k 0xf600
def t_Q103:TF:=⟨26,[.t 4],(.seq (.reg Q103_0) (.seq (.seq (.reg Q103_1) (.cond (.t 10) (.seq (.reg Q103_2) .ret) .skip)) (.seq (.seq (.reg Q103_3) (.block 0 (.loop Q103_9))) (.seq (.reg Q103_10) .ret))))⟩
/-! horarium/node.kids -/
@[go_sem] def Q104_0:=k 0x54f4bc8
@[go_sem] def Q104_1:=k 0x2e6a217fe243ba3153ff142370c1eedbd6c19dca151935fce01a5cf810d5e07f8ce4b50d0974
@[go_sem] def Q104_2:=k 0x84ac
@[go_sem] def Q104_3:=k 0x2c0343fc44552982ea47644aa528b5914c850eeaff5bea4ceb9e4716b7228eaffc9a24b2234
@[go_sem] def Q104_4:=k 0x14635ac85d84c34dea6151655
@[go_sem] def Q104_5:=k 0x8438
@[go_sem] def Q104_6:=k 0xe21e4660aed5a7d5fd096c757457344beacbba1ece03615f8d5
@[go_sem] def Q104_7:=k 0x1e7ff423d295d2bbdd5
@[go_sem] def Q104_8:=k 0x1dd91baafeaf4528e821867b5
@[go_sem] def Q104_9:=k 0x79838
@[go_sem] def Q104_10:=k 0x84ac
def t_Q104:TF:=⟨49,[.t 2],(.seq (.reg Q104_0) (.seq (.block 0 (.seq (.reg Q104_1) (.cond (.t 3) (.seq (.reg Q104_2) .ret) (.seq (.seq (.reg Q104_3) (.cond (.t 17) .skip (.reg Q104_4))) (.cond (.t 17) (.seq (.reg Q104_5) .ret) (.seq (.reg Q104_6) (.cond (.t 34) (.seq (.reg Q104_7) .ret) (.seq (.reg Q104_8) (.cond (.t 45) (.seq (.reg Q104_9) .ret) .skip))))))))) (.seq (.reg Q104_10) .ret)))⟩
/-! horarium/node.times -/
@[go_sem] def Q105_0:=k 0xf578
@[go_sem] def Q105_1:=k 0x118771ce65121c7760b2c832f7ae0c
def t_Q105:TF:=⟨10,[.t 4],(.seq (.reg Q105_0) (.seq (.reg Q105_1) .ret))⟩
/-! horarium/node.add -/
@[go_sem] def Q106_0:=k 0xf578
@[go_sem] def Q106_1:=k 0x118771ce650d35177242c6ad8cae0c
def t_Q106:TF:=⟨10,[.t 4],(.seq (.reg Q106_0) (.seq (.reg Q106_1) .ret))⟩
/-! horarium/horariumref3.fine -/
@[go_sem] def Q107_0:=k 0x9bbcbc8
@[go_sem] def Q107_1:=k 0x4b2d6c7d0d4
@[go_sem] def Q107_2:=k 0x134f350827ad4
@[go_sem] def Q107_3:=k 0x1b7c47b7f016ae54a172f2f540f26797715f06cb206bd14c862ff42915fc6ec5cc199ab3354
@[go_sem] def Q107_4:=k 0x43beebc0ce034
@[go_sem] def Q107_5:=k 0x46e084c1b40d4
@[go_sem] def Q107_6:=k 0x27f748cb94622eaf86c5d4dd59e2870cf05cd48cf21aebd54
@[go_sem] def Q107_7:=k 0x65bb959dd99f15
@[go_sem] def Q107_8:=k 0x20734be9c56bce0292e9542f050db62b86caf94c8927385929c8d62b088f9bc53150061b719f8795
@[go_sem] def Q107_9:=k 0x844c
def t_Q107:TF:=⟨46,[.t 2],(.seq (.reg Q107_0) (.seq (.seq (.reg Q107_1) (.block 0 (.seq (.reg Q107_2) (.cond (.t 5) (.seq (.reg Q107_3) .ret) (.seq (.seq (.reg Q107_4) (.cond (.t 20) .skip (.reg Q107_5))) (.cond (.t 20) (.seq (.reg Q107_6) .ret) (.seq (.reg Q107_7) (.cond (.t 31) (.seq (.reg Q107_8) .ret) .skip)))))))) (.seq (.reg Q107_9) .ret)))⟩
/-! slices.IndexFunc[[]horarium/api.Run,horarium/api.Run] -/
@[go_sem] def Q108_0:=k 0xf578
@[go_sem] def Q108_1:=k 0x9aff78ae6ac
@[go_sem] def Q108_2:=k 0x7479ca4
@[go_sem] def Q108_3:=k 0xfeacca2692c
@[go_sem] def Q108_4:=k 0x1602091fcdbd62c0f45c132c3115cc
@[go_sem] def Q108_5:=k 0x1ad3ddaab98c
@[go_sem] def Q108_6:=k 0x392d8798f2240
def Q108_7:TC:=(.seq (.reg Q108_2) (.seq (.cond (.t 9) .skip (.exit 0)) (.seq (.block 1 (.seq (.reg Q108_3) (.seq (.reg Q108_4) (.cond (.t 16) (.seq (.reg Q108_5) .ret) .skip)))) (.reg Q108_6))))
@[go_sem] def Q108_8:=k 0xf5ec
def t_Q108:TF:=⟨19,[.t 4],(.seq (.reg Q108_0) (.seq (.seq (.reg Q108_1) (.block 0 (.loop Q108_7))) (.seq (.reg Q108_8) .ret)))⟩
/-! horarium/word.to -/
@[go_sem] def Q109_0:=k 0x166cc
@[go_sem] def Q109_1:=k 0xcfaffdbc2696ad794383e5959b3e1dc607ebeebcd92843083a7784d9abdb20171e3dac6ccfe3d1e437b209ef648350fade2bcbfdc9d66968f63a9c6bef6d90d73b24e06cda53b425f77cf77c35b830d9c74d
def t_Q109:TF:=⟨37,[.t 6],(.seq (.reg Q109_0) (.seq (.reg Q109_1) .ret))⟩
def tpFn:Nat→Option TF
  | 7=>some t_Q0
  | 12=>some t_Q1
  | 13=>some t_Q2
  | 14=>some t_Q3
  | 15=>some t_Q4
  | 17=>some t_Q5
  | 23=>some t_Q6
  | 29=>some t_Q7
  | 30=>some t_Q8
  | 31=>some t_Q9
  | 32=>some t_Q10
  | 33=>some t_Q11
  | 41=>some t_Q12
  | 47=>some t_Q13
  | 48=>some t_Q14
  | 49=>some t_Q15
  | 50=>some t_Q16
  | 51=>some t_Q17
  | 52=>some t_Q18
  | 53=>some t_Q19
  | 54=>some t_Q20
  | 55=>some t_Q21
  | 56=>some t_Q22
  | 57=>some t_Q23
  | 58=>some t_Q24
  | 59=>some t_Q25
  | 60=>some t_Q26
  | 61=>some t_Q27
  | 66=>some t_Q28
  | 67=>some t_Q29
  | 72=>some t_Q30
  | 73=>some t_Q31
  | 74=>some t_Q32
  | 75=>some t_Q33
  | 76=>some t_Q34
  | 77=>some t_Q35
  | 78=>some t_Q36
  | 79=>some t_Q37
  | 80=>some t_Q38
  | 94=>some t_Q39
  | 95=>some t_Q40
  | 96=>some t_Q41
  | 97=>some t_Q42
  | 98=>some t_Q43
  | 99=>some t_Q44
  | 100=>some t_Q45
  | 101=>some t_Q46
  | 102=>some t_Q47
  | 103=>some t_Q48
  | 104=>some t_Q49
  | 105=>some t_Q50
  | 106=>some t_Q51
  | 107=>some t_Q52
  | 108=>some t_Q53
  | 109=>some t_Q54
  | 110=>some t_Q55
  | 111=>some t_Q56
  | 112=>some t_Q57
  | 113=>some t_Q58
  | 118=>some t_Q59
  | 119=>some t_Q60
  | 122=>some t_Q61
  | 123=>some t_Q62
  | 124=>some t_Q63
  | 125=>some t_Q64
  | 126=>some t_Q65
  | 127=>some t_Q66
  | 128=>some t_Q67
  | 129=>some t_Q68
  | 150=>some t_Q69
  | 151=>some t_Q70
  | 152=>some t_Q71
  | 153=>some t_Q72
  | 154=>some t_Q73
  | 155=>some t_Q74
  | 156=>some t_Q75
  | 157=>some t_Q76
  | 158=>some t_Q77
  | 159=>some t_Q78
  | 160=>some t_Q79
  | 161=>some t_Q80
  | 162=>some t_Q81
  | 163=>some t_Q82
  | 164=>some t_Q83
  | 165=>some t_Q84
  | 166=>some t_Q85
  | 167=>some t_Q86
  | 168=>some t_Q87
  | 169=>some t_Q88
  | 170=>some t_Q89
  | 172=>some t_Q90
  | 173=>some t_Q91
  | 177=>some t_Q92
  | 178=>some t_Q93
  | 179=>some t_Q94
  | 180=>some t_Q95
  | 181=>some t_Q96
  | 182=>some t_Q97
  | 183=>some t_Q98
  | 184=>some t_Q99
  | 185=>some t_Q100
  | 186=>some t_Q101
  | 201=>some t_Q102
  | 202=>some t_Q103
  | 203=>some t_Q104
  | 204=>some t_Q105
  | 205=>some t_Q106
  | 206=>some t_Q107
  | 209=>some t_Q108
  | 210=>some t_Q109
  | _=>none
def tpMeth:Nat→String→Option Meth:=fun _ _=>none
def tp:TP:=⟨tpFn,tpMeth⟩
theorem fn_Q0:tp.fn i_Q0=some t_Q0:=rfl
theorem fn_Q1:tp.fn i_Q1=some t_Q1:=rfl
theorem fn_Q2:tp.fn i_Q2=some t_Q2:=rfl
theorem fn_Q3:tp.fn i_Q3=some t_Q3:=rfl
theorem fn_Q4:tp.fn i_Q4=some t_Q4:=rfl
theorem fn_Q5:tp.fn i_Q5=some t_Q5:=rfl
theorem fn_Q6:tp.fn i_Q6=some t_Q6:=rfl
theorem fn_Q7:tp.fn i_Q7=some t_Q7:=rfl
theorem fn_Q8:tp.fn i_Q8=some t_Q8:=rfl
theorem fn_Q9:tp.fn i_Q9=some t_Q9:=rfl
theorem fn_Q10:tp.fn i_Q10=some t_Q10:=rfl
theorem fn_Q11:tp.fn i_Q11=some t_Q11:=rfl
theorem fn_Q12:tp.fn i_Q12=some t_Q12:=rfl
theorem fn_Q13:tp.fn i_Q13=some t_Q13:=rfl
theorem fn_Q14:tp.fn i_Q14=some t_Q14:=rfl
theorem fn_Q15:tp.fn i_Q15=some t_Q15:=rfl
theorem fn_Q16:tp.fn i_Q16=some t_Q16:=rfl
theorem fn_Q17:tp.fn i_Q17=some t_Q17:=rfl
theorem fn_Q18:tp.fn i_Q18=some t_Q18:=rfl
theorem fn_Q19:tp.fn i_Q19=some t_Q19:=rfl
theorem fn_Q20:tp.fn i_Q20=some t_Q20:=rfl
theorem fn_Q21:tp.fn i_Q21=some t_Q21:=rfl
theorem fn_Q22:tp.fn i_Q22=some t_Q22:=rfl
theorem fn_Q23:tp.fn i_Q23=some t_Q23:=rfl
theorem fn_Q24:tp.fn i_Q24=some t_Q24:=rfl
theorem fn_Q25:tp.fn i_Q25=some t_Q25:=rfl
theorem fn_Q26:tp.fn i_Q26=some t_Q26:=rfl
theorem fn_Q27:tp.fn i_Q27=some t_Q27:=rfl
theorem fn_Q28:tp.fn i_Q28=some t_Q28:=rfl
theorem fn_Q29:tp.fn i_Q29=some t_Q29:=rfl
theorem fn_Q30:tp.fn i_Q30=some t_Q30:=rfl
theorem fn_Q31:tp.fn i_Q31=some t_Q31:=rfl
theorem fn_Q32:tp.fn i_Q32=some t_Q32:=rfl
theorem fn_Q33:tp.fn i_Q33=some t_Q33:=rfl
theorem fn_Q34:tp.fn i_Q34=some t_Q34:=rfl
theorem fn_Q35:tp.fn i_Q35=some t_Q35:=rfl
theorem fn_Q36:tp.fn i_Q36=some t_Q36:=rfl
theorem fn_Q37:tp.fn i_Q37=some t_Q37:=rfl
theorem fn_Q38:tp.fn i_Q38=some t_Q38:=rfl
theorem fn_Q39:tp.fn i_Q39=some t_Q39:=rfl
theorem fn_Q40:tp.fn i_Q40=some t_Q40:=rfl
theorem fn_Q41:tp.fn i_Q41=some t_Q41:=rfl
theorem fn_Q42:tp.fn i_Q42=some t_Q42:=rfl
theorem fn_Q43:tp.fn i_Q43=some t_Q43:=rfl
theorem fn_Q44:tp.fn i_Q44=some t_Q44:=rfl
theorem fn_Q45:tp.fn i_Q45=some t_Q45:=rfl
theorem fn_Q46:tp.fn i_Q46=some t_Q46:=rfl
theorem fn_Q47:tp.fn i_Q47=some t_Q47:=rfl
theorem fn_Q48:tp.fn i_Q48=some t_Q48:=rfl
theorem fn_Q49:tp.fn i_Q49=some t_Q49:=rfl
theorem fn_Q50:tp.fn i_Q50=some t_Q50:=rfl
theorem fn_Q51:tp.fn i_Q51=some t_Q51:=rfl
theorem fn_Q52:tp.fn i_Q52=some t_Q52:=rfl
theorem fn_Q53:tp.fn i_Q53=some t_Q53:=rfl
theorem fn_Q54:tp.fn i_Q54=some t_Q54:=rfl
theorem fn_Q55:tp.fn i_Q55=some t_Q55:=rfl
theorem fn_Q56:tp.fn i_Q56=some t_Q56:=rfl
theorem fn_Q57:tp.fn i_Q57=some t_Q57:=rfl
theorem fn_Q58:tp.fn i_Q58=some t_Q58:=rfl
theorem fn_Q59:tp.fn i_Q59=some t_Q59:=rfl
theorem fn_Q60:tp.fn i_Q60=some t_Q60:=rfl
theorem fn_Q61:tp.fn i_Q61=some t_Q61:=rfl
theorem fn_Q62:tp.fn i_Q62=some t_Q62:=rfl
theorem fn_Q63:tp.fn i_Q63=some t_Q63:=rfl
theorem fn_Q64:tp.fn i_Q64=some t_Q64:=rfl
theorem fn_Q65:tp.fn i_Q65=some t_Q65:=rfl
theorem fn_Q66:tp.fn i_Q66=some t_Q66:=rfl
theorem fn_Q67:tp.fn i_Q67=some t_Q67:=rfl
theorem fn_Q68:tp.fn i_Q68=some t_Q68:=rfl
theorem fn_Q69:tp.fn i_Q69=some t_Q69:=rfl
theorem fn_Q70:tp.fn i_Q70=some t_Q70:=rfl
theorem fn_Q71:tp.fn i_Q71=some t_Q71:=rfl
theorem fn_Q72:tp.fn i_Q72=some t_Q72:=rfl
theorem fn_Q73:tp.fn i_Q73=some t_Q73:=rfl
theorem fn_Q74:tp.fn i_Q74=some t_Q74:=rfl
theorem fn_Q75:tp.fn i_Q75=some t_Q75:=rfl
theorem fn_Q76:tp.fn i_Q76=some t_Q76:=rfl
theorem fn_Q77:tp.fn i_Q77=some t_Q77:=rfl
theorem fn_Q78:tp.fn i_Q78=some t_Q78:=rfl
theorem fn_Q79:tp.fn i_Q79=some t_Q79:=rfl
theorem fn_Q80:tp.fn i_Q80=some t_Q80:=rfl
theorem fn_Q81:tp.fn i_Q81=some t_Q81:=rfl
theorem fn_Q82:tp.fn i_Q82=some t_Q82:=rfl
theorem fn_Q83:tp.fn i_Q83=some t_Q83:=rfl
theorem fn_Q84:tp.fn i_Q84=some t_Q84:=rfl
theorem fn_Q85:tp.fn i_Q85=some t_Q85:=rfl
theorem fn_Q86:tp.fn i_Q86=some t_Q86:=rfl
theorem fn_Q87:tp.fn i_Q87=some t_Q87:=rfl
theorem fn_Q88:tp.fn i_Q88=some t_Q88:=rfl
theorem fn_Q89:tp.fn i_Q89=some t_Q89:=rfl
theorem fn_Q90:tp.fn i_Q90=some t_Q90:=rfl
theorem fn_Q91:tp.fn i_Q91=some t_Q91:=rfl
theorem fn_Q92:tp.fn i_Q92=some t_Q92:=rfl
theorem fn_Q93:tp.fn i_Q93=some t_Q93:=rfl
theorem fn_Q94:tp.fn i_Q94=some t_Q94:=rfl
theorem fn_Q95:tp.fn i_Q95=some t_Q95:=rfl
theorem fn_Q96:tp.fn i_Q96=some t_Q96:=rfl
theorem fn_Q97:tp.fn i_Q97=some t_Q97:=rfl
theorem fn_Q98:tp.fn i_Q98=some t_Q98:=rfl
theorem fn_Q99:tp.fn i_Q99=some t_Q99:=rfl
theorem fn_Q100:tp.fn i_Q100=some t_Q100:=rfl
theorem fn_Q101:tp.fn i_Q101=some t_Q101:=rfl
theorem fn_Q102:tp.fn i_Q102=some t_Q102:=rfl
theorem fn_Q103:tp.fn i_Q103=some t_Q103:=rfl
theorem fn_Q104:tp.fn i_Q104=some t_Q104:=rfl
theorem fn_Q105:tp.fn i_Q105=some t_Q105:=rfl
theorem fn_Q106:tp.fn i_Q106=some t_Q106:=rfl
theorem fn_Q107:tp.fn i_Q107=some t_Q107:=rfl
theorem fn_Q108:tp.fn i_Q108=some t_Q108:=rfl
theorem fn_Q109:tp.fn i_Q109=some t_Q109:=rfl
end Go.Ab.T
