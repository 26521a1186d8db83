/- Part of the proof that ReduceAgain returns true for every input of the second form's bound (no other condition). -/
import Derived.Test.YtcjjajphbamjlaaGreatPE
set_option linter.all false
/- The abstract machine's text of the functions, its regions as numbers. Written by a tool. -/
namespace Go.Ab.T
open Go Go.Ab
set_option maxRecDepth 100000
abbrev i_Q0:Nat:=4
abbrev i_Q1:Nat:=12
abbrev i_Q2:Nat:=13
abbrev i_Q3:Nat:=14
abbrev i_Q4:Nat:=15
abbrev i_Q5:Nat:=17
abbrev i_Q6:Nat:=21
abbrev i_Q7:Nat:=23
abbrev i_Q8:Nat:=29
abbrev i_Q9:Nat:=31
abbrev i_Q10:Nat:=33
abbrev i_Q11:Nat:=41
abbrev i_Q12:Nat:=47
abbrev i_Q13:Nat:=48
abbrev i_Q14:Nat:=49
abbrev i_Q15:Nat:=50
abbrev i_Q16:Nat:=51
abbrev i_Q17:Nat:=52
abbrev i_Q18:Nat:=53
abbrev i_Q19:Nat:=54
abbrev i_Q20:Nat:=55
abbrev i_Q21:Nat:=56
abbrev i_Q22:Nat:=57
abbrev i_Q23:Nat:=58
abbrev i_Q24:Nat:=59
abbrev i_Q25:Nat:=60
abbrev i_Q26:Nat:=61
abbrev i_Q27:Nat:=66
abbrev i_Q28:Nat:=67
abbrev i_Q29:Nat:=72
abbrev i_Q30:Nat:=73
abbrev i_Q31:Nat:=74
abbrev i_Q32:Nat:=75
abbrev i_Q33:Nat:=76
abbrev i_Q34:Nat:=77
abbrev i_Q35:Nat:=78
abbrev i_Q36:Nat:=79
abbrev i_Q37:Nat:=80
abbrev i_Q38:Nat:=94
abbrev i_Q39:Nat:=95
abbrev i_Q40:Nat:=96
abbrev i_Q41:Nat:=97
abbrev i_Q42:Nat:=98
abbrev i_Q43:Nat:=99
abbrev i_Q44:Nat:=100
abbrev i_Q45:Nat:=101
abbrev i_Q46:Nat:=102
abbrev i_Q47:Nat:=103
abbrev i_Q48:Nat:=104
abbrev i_Q49:Nat:=105
abbrev i_Q50:Nat:=106
abbrev i_Q51:Nat:=107
abbrev i_Q52:Nat:=108
abbrev i_Q53:Nat:=109
abbrev i_Q54:Nat:=110
abbrev i_Q55:Nat:=111
abbrev i_Q56:Nat:=112
abbrev i_Q57:Nat:=113
abbrev i_Q58:Nat:=118
abbrev i_Q59:Nat:=119
abbrev i_Q60:Nat:=122
abbrev i_Q61:Nat:=123
abbrev i_Q62:Nat:=124
abbrev i_Q63:Nat:=125
abbrev i_Q64:Nat:=126
abbrev i_Q65:Nat:=127
abbrev i_Q66:Nat:=128
abbrev i_Q67:Nat:=129
abbrev i_Q68:Nat:=150
abbrev i_Q69:Nat:=151
abbrev i_Q70:Nat:=152
abbrev i_Q71:Nat:=153
abbrev i_Q72:Nat:=154
abbrev i_Q73:Nat:=155
abbrev i_Q74:Nat:=156
abbrev i_Q75:Nat:=157
abbrev i_Q76:Nat:=158
abbrev i_Q77:Nat:=159
abbrev i_Q78:Nat:=160
abbrev i_Q79:Nat:=161
abbrev i_Q80:Nat:=162
abbrev i_Q81:Nat:=163
abbrev i_Q82:Nat:=164
abbrev i_Q83:Nat:=165
abbrev i_Q84:Nat:=166
abbrev i_Q85:Nat:=167
abbrev i_Q86:Nat:=168
abbrev i_Q87:Nat:=169
abbrev i_Q88:Nat:=170
abbrev i_Q89:Nat:=172
abbrev i_Q90:Nat:=173
abbrev i_Q91:Nat:=177
abbrev i_Q92:Nat:=178
abbrev i_Q93:Nat:=179
abbrev i_Q94:Nat:=180
abbrev i_Q95:Nat:=181
abbrev i_Q96:Nat:=182
abbrev i_Q97:Nat:=183
abbrev i_Q98:Nat:=184
abbrev i_Q99:Nat:=185
abbrev i_Q100:Nat:=186
abbrev i_Q101:Nat:=201
abbrev i_Q102:Nat:=202
abbrev i_Q103:Nat:=203
abbrev i_Q104:Nat:=204
abbrev i_Q105:Nat:=205
abbrev i_Q106:Nat:=206
abbrev i_Q107:Nat:=209
abbrev i_Q108:Nat:=210
def wrs:List Nat:=[i_Q12,i_Q8,i_Q13,i_Q14,i_Q1,i_Q101,i_Q70,i_Q39,i_Q68]
def xgt {α:Type} (z:α):List α→Nat→α
 | [],_=>z
 | x::_,0=>x
 | _::l,n+1=>xgt z l n
def xgi:Nat→Int:=xgt 0 [0,1,2,3,4,5,6,7,8,9,10,11,12,13,14,15,16,17,18,19,20,21,22,23,24,25,26,27,28,29,30,31]
def sh0:List ((Nat→Nat)→O):=[fun p=>.mv (.t (p 0)),
fun p=>.load 1 false (.t (p 0)),
fun p=>.fad (p 0) (.t (p 1)),
fun p=>.mv (.c (.i .i64 (xgi (p 0)))),
fun p=>.len (.t (p 0)),
fun p=>.bin .add (.t (p 0)) (.c (.i .i64 (xgi (p 1)))),
fun p=>.bin .lss (.t (p 0)) (.t (p 1)),
fun p=>.pick (.t (p 0)) (.t (p 1)) (.c (.b false)),
fun p=>.mv (.c (.b false)),
fun p=>.bin .eql (.t (p 0)) (.c (.i .i64 (xgi (p 1)))),
fun p=>.mv (.c .ns),
fun p=>.load 3 true (.t (p 0)),
fun p=>.pick (.t (p 0)) (.c (.b true)) (.t (p 1)),
fun p=>.nck (.t (p 0)),
fun p=>.bin .lss (.t (p 0)) (.c (.i .i64 (xgi (p 1)))),
fun p=>.iad 1 (.t (p 0)) (.t (p 1)),
fun p=>.box (.t (p 0)),
fun p=>.bin .add (.t (p 0)) (.t (p 1)),
fun p=>.iad 2 (.t (p 0)) (.t (p 1)),
fun p=>.un .not (.t (p 0)),
fun p=>.bin .sub (.t (p 0)) (.c (.i .i64 (xgi (p 1)))),
fun p=>.bin .gtr (.t (p 0)) (.c (.i .i64 (xgi (p 1)))),
fun p=>.store 1 (.t (p 0)) (.t (p 1)),
fun p=>.iad 3 (.t (p 0)) (.t (p 1))]
def sh1:List ((Nat→Nat)→O):=[fun p=>.load 2 true (.t (p 0)),
fun p=>.ext (.t (p 0)) 0,
fun p=>.ext (.t (p 0)) 1,
fun p=>.call (.fn i_Q12) [(.t (p 0)),(.c (.i .i64 (xgi (p 1))))],
fun p=>.store 2 (.t (p 0)) (.t (p 1)),
fun p=>.alloc [(.i .i64 0),(.i .i64 0)],
fun p=>.bin .neq (.t (p 0)) (.c (.i .i64 (xgi (p 1)))),
fun p=>.bin .geq (.t (p 0)) (.c (.i .i64 (xgi (p 1)))),
fun p=>.bin .eql (.t (p 0)) (.t (p 1)),
fun p=>.store 6 (.t (p 0)) (.t (p 1)),
fun p=>.mv (.c (.i .i64 (-1))),
fun p=>.iad 6 (.t (p 0)) (.t (p 1)),
fun p=>.bin .sub (.t (p 0)) (.t (p 1)),
fun p=>.mv (.c (.b true)),
fun p=>.app 2 (.t (p 0)) (.t (p 1)),
fun p=>.iad 11 (.t (p 0)) (.t (p 1)),
fun p=>.bin .neq (.t (p 0)) (.t (p 1)),
fun p=>.store 3 (.t (p 0)) (.t (p 1)),
fun p=>.chk 1 false (.t (p 0)) (.t (p 1)),
fun p=>.bsl 2 [(.i .i64 0),(.i .i64 0)] 1 [(0,(.t (p 0)))],
fun p=>.app 1 (.t (p 0)) (.t (p 1)),
fun p=>.bin .geq (.t (p 0)) (.t (p 1)),
fun p=>.load 6 true (.t (p 0)),
fun p=>.bin .gtr (.t (p 0)) (.t (p 1))]
def sh2:List ((Nat→Nat)→O):=[fun p=>.bsl 3 [(.i .i64 0),(.i .i64 0),(.i .i64 0)] 1 [(0,(.t (p 0)))],
fun p=>.bin .add (.c (.i .i64 (xgi (p 0)))) (.t (p 1)),
fun p=>.fload 1 false (.t (p 0)),
fun p=>.bin .rem (.t (p 0)) (.t (p 1)),
fun p=>.mx [(.t (p 0)),(.t (p 1))],
fun p=>.bin .mul (.t (p 0)) (.t (p 1)),
fun p=>.alloc [(.i .i64 0),(.i .i64 0),(.i .i64 0),(.i .i64 0),(.i .i64 0),(.b false)],
fun p=>.build [(.i .i64 0),(.i .i64 0),(.i .i64 0)] [(0,1,(.c (.i .i64 (xgi (p 0))))),(2,1,(.t (p 1)))],
fun p=>.store 1 (.t (p 0)) (.c (.i .i64 (xgi (p 1)))),
fun p=>.alloc [.ns,.ns,.ns],
fun p=>.ext (.t (p 0)) 2,
fun p=>.build [(.i .i64 0),(.i .i64 0)] [(0,1,(.t (p 0))),(1,1,(.t (p 1)))],
fun p=>.load 11 true (.t (p 0)),
fun p=>.bsl 1 [.ns] 1 [(0,(.t (p 0)))],
fun p=>.app 3 (.t (p 0)) (.t (p 1)),
fun p=>.call (.fn i_Q71) [(.t (p 0)),(.t (p 1))],
fun p=>.mn [(.c (.i .i64 4097)),(.t (p 0))],
fun p=>.sidx (.t (p 0)) (.t (p 1)),
fun p=>.alloc [(.s ⟨#[]⟩),(.i .i64 0),(.i .i64 0),(.b false),(.b false),.ns,(.i .i64 0),(.i .i64 0),(.i .i64 0),(.i .i64 0),(.i .i64 0)],
fun p=>.store 11 (.t (p 0)) (.t (p 1)),
fun p=>.call (.fn i_Q12) [(.t (p 0)),(.t (p 1))],
fun p=>.alloc [(.i .i64 0),(.i .i64 0),(.b false),(.i .i64 0),(.i .u32 0),(.i .i64 0)],
fun p=>.call (.fn i_Q32) [(.t (p 0))],
fun p=>.mn [(.t (p 0)),(.t (p 1))]]
def sh3:List ((Nat→Nat)→O):=[fun p=>.call (.fn i_Q40) [(.t (p 0))],
fun p=>.slice 1 (.t (p 0)) (some (.t (p 1))) (some (.t (p 2))) none,
fun p=>.bin .leq (.t (p 0)) (.c (.i .i64 4096)),
fun p=>.bsl 1 [(.i .i64 0)] 1 [(0,(.t (p 0)))],
fun p=>.nck (.c .np),
fun p=>.cap (.t (p 0)),
fun p=>.mn [(.t (p 0)),(.c (.i .i64 4097))],
fun p=>.call (.fn i_Q2) [(.t (p 0)),(.t (p 1))],
fun p=>.chkb 1 [(.i .u32 0)] 3 [(0,(.c (.i .u32 4294967295))),(1,(.c (.i .u32 200))),(2,(.c (.i .u32 3)))] (.t (p 0)),
fun p=>.chka [(.i .i64 0),(.i .i64 0),(.b false),(.i .i64 0),(.i .u32 0),(.i .i64 0)] (.t (p 0)),
fun p=>.call (.fn i_Q16) [(.t (p 0)),(.t (p 1))],
fun p=>.call (.fn i_Q19) [(.t (p 0))],
fun p=>.build [(.i .i64 0),(.i .i64 0),(.i .i64 0)] [(0,1,(.c (.i .i64 (xgi (p 0))))),(2,1,(.c (.i .i64 (xgi (p 1)))))],
fun p=>.bin .leq (.t (p 0)) (.t (p 1)),
fun p=>.call (.fn i_Q3) [(.t (p 0))],
fun p=>.mx [(.t (p 0)),(.c (.i .i64 (xgi (p 1))))],
fun p=>.call (.fn i_Q43) [(.t (p 0))],
fun p=>.call (.t (p 0)) [(.t (p 1)),(.t (p 2))],
fun p=>.alloc [(.i .i64 0),(.i .i64 0),(.i .i64 0),(.i .i64 0)],
fun p=>.store 4 (.t (p 0)) (.t (p 1)),
fun p=>.call (.fn i_Q49) [(.t (p 0))],
fun p=>.slice 1 (.t (p 0)) none (some (.t (p 1))) none,
fun p=>.call (.fn i_Q52) [(.t (p 0))],
fun p=>.call (.fn i_Q54) [(.t (p 0))]]
def sh4:List ((Nat→Nat)→O):=[fun p=>.bin .gtr (.t (p 0)) (.c (.i .i64 4096)),
fun p=>.call (.fn i_Q73) [(.t (p 0)),(.t (p 1))],
fun p=>.mx [(.c (.i .i64 (xgi (p 0)))),(.t (p 1))],
fun p=>.call (.fn i_Q88) [(.t (p 0)),(.t (p 1))],
fun p=>.call (.t (p 0)) [(.t (p 1))],
fun p=>.slen (.t (p 0)),
fun p=>.call (.fn i_Q6) [(.t (p 0)),(.t (p 1))],
fun p=>.bin .mul (.c (.i .i64 (xgi (p 0)))) (.t (p 1)),
fun p=>.app 6 (.t (p 0)) (.t (p 1)),
fun p=>.call (.fn i_Q17) [(.t (p 0)),(.t (p 1))],
fun p=>.call (.fn i_Q20) [(.t (p 0))],
fun p=>.bin .gtr (.t (p 0)) (.c (.i .i64 96)),
fun p=>.call (.fn i_Q24) [(.t (p 0)),(.t (p 1))],
fun p=>.call (.fn i_Q25) [(.t (p 0)),(.t (p 1)),(.t (p 2))],
fun p=>.call (.fn i_Q26) [(.t (p 0)),(.t (p 1)),(.t (p 2))],
fun p=>.eq true (.agg [.i,.i,.i]) (.t (p 0)) (.t (p 1)),
fun p=>.build [(.i .i64 0),(.i .i64 0)] [(1,1,(.c (.i .i64 (xgi (p 0)))))],
fun p=>.call (.fn i_Q9) [(.t (p 0)),(.t (p 1))],
fun p=>.call (.fn i_Q10) [(.t (p 0)),(.t (p 1)),(.t (p 2))],
fun p=>.call (.fn i_Q28) [],
fun p=>.build [(.i .i64 0),(.i .i64 0),(.i .i64 0)] [(0,1,(.c (.i .i64 (xgi (p 0))))),(1,1,(.t (p 1))),(2,1,(.t (p 2)))],
fun p=>.call (.fn i_Q8) [(.t (p 0)),(.t (p 1)),(.t (p 2))],
fun p=>.call (.fn i_Q31) [(.t (p 0)),(.t (p 1))],
fun p=>.call (.fn i_Q36) [(.t (p 0))]]
def sh5:List ((Nat→Nat)→O):=[fun p=>.call (.fn i_Q4) [(.t (p 0))],
fun p=>.bin .eql (.t (p 0)) (.c (.i .i64 (-1))),
fun p=>.call (.fn i_Q48) [(.t (p 0))],
fun p=>.bsl 1 [.ns] 2 [(0,(.t (p 0))),(1,(.t (p 1)))],
fun p=>.bin .gtr (.t (p 0)) (.c (.i .i64 128)),
fun p=>.eq false .sl (.t (p 0)) (.c .ns),
fun p=>.e0,
fun p=>.bin .sub (.c (.i .i64 9223372036854775807)) (.t (p 0)),
fun p=>.mv (.c (.i .i64 9223372036854775807)),
fun p=>.call (.fn i_Q57) [(.t (p 0))],
fun p=>.alloc [(.i .i64 0),(.i .i64 0),(.b false)],
fun p=>.call (.fn i_Q34) [(.t (p 0)),(.t (p 1)),(.t (p 2))],
fun p=>.call (.fn i_Q60) [(.t (p 0)),(.t (p 1))],
fun p=>.call (.fn i_Q62) [(.t (p 0)),(.t (p 1)),(.t (p 2))],
fun p=>.call (.fn i_Q64) [(.t (p 0)),(.t (p 1))],
fun p=>.store 1 (.t (p 0)) (.c (.b true)),
fun p=>.mv (.c .np),
fun p=>.call (.fn i_Q74) [(.t (p 0))],
fun p=>.mkif 9 (.c (.s ⟨#[108,101,110,32,111,117,116,32,111,102,32,114,97,110,103,101]⟩)),
fun p=>.call (.fn i_Q83) [(.t (p 0))],
fun p=>.call (.fn i_Q56) [(.t (p 0)),(.t (p 1)),(.t (p 2))],
fun p=>.call (.fn i_Q91) [(.t (p 0)),(.t (p 1))],
fun p=>.call (.fn i_Q94) [(.t (p 0)),(.t (p 1)),(.t (p 2))],
fun p=>.call (.fn i_Q96) [(.t (p 0)),(.t (p 1)),(.t (p 2))]]
def sh6:List ((Nat→Nat)→O):=[fun p=>.call (.fn i_Q95) [(.t (p 0)),(.t (p 1))],
fun p=>.call (.fn i_Q97) [(.t (p 0)),(.c (.i .i64 (-1)))],
fun p=>.alloc [(.i .i64 0),(.i .i64 0),(.i .i64 0)],
fun p=>.mkif 9 (.c (.s ⟨#[99,97,110,110,111,116,32,98,101,32,110,101,103,97,116,105,118,101]⟩)),
fun p=>.slice 3 (.t (p 0)) none (some (.t (p 1))) none,
fun p=>.bsl 6 [(.i .i64 0),(.i .i64 0),(.i .i64 0),(.i .i64 0),(.i .i64 0),(.i .i64 0)] 1 [(0,(.t (p 0)))],
fun p=>.call (.fn i_Q103) [(.t (p 0))],
fun p=>.iad 6 (.t (p 0)) (.c (.i .i64 (xgi (p 1)))),
fun p=>.call (.fn i_Q85) [(.t (p 0)),(.t (p 1))],
fun p=>.bin .neq (.t (p 0)) (.c (.i .i64 (-1))),
fun p=>.call (.fn i_Q108) [(.t (p 0)),(.t (p 1)),(.t (p 2))],
fun p=>.bin .leq (.t (p 0)) (.c (.i .i64 (xgi (p 1)))),
fun p=>.bin .leq (.t (p 0)) (.c (.i .i64 128)),
fun p=>.build [.ns,(.i .i64 0)] [(0,1,(.t (p 0)))],
fun p=>.call (.fn i_Q1) [(.t (p 0))],
fun p=>.call (.fn i_Q7) [],
fun p=>.bin .add (.c (.i .i64 97)) (.t (p 0)),
fun p=>.conv .i32 (.t (p 0)),
fun p=>.i2s (.t (p 0)),
fun p=>.bin .add (.c (.s ⟨#[112]⟩)) (.t (p 0)),
fun p=>.build [(.s ⟨#[]⟩),(.i .i64 0),(.i .i64 0),(.b false),(.b false),.ns,(.i .i64 0),(.i .i64 0),(.i .i64 0),(.i .i64 0),(.i .i64 0)] [(0,1,(.t (p 0))),(3,1,(.t (p 1))),(4,1,(.t (p 2)))],
fun p=>.bsl 1 [(.i .i64 0)] 5 [(0,(.c (.i .i64 (xgi (p 0))))),(1,(.c (.i .i64 (xgi (p 1))))),(2,(.c (.i .i64 (xgi (p 2))))),(3,(.c (.i .i64 (xgi (p 3))))),(4,(.c (.i .i64 (xgi (p 4)))))],
fun p=>.iada 1 5 (.t (p 0)) (.t (p 1)),
fun p=>.bsl 11 [(.s ⟨#[]⟩),(.i .i64 0),(.i .i64 0),(.b false),(.b false),.ns,(.i .i64 0),(.i .i64 0),(.i .i64 0),(.i .i64 0),(.i .i64 0)] 1 [(0,(.t (p 0)))]]
def sh7:List ((Nat→Nat)→O):=[fun p=>.app 11 (.t (p 0)) (.t (p 1)),
fun p=>.bslc 1 [(.i .u32 0)] 3 [(0,(.c (.i .u32 4294967295))),(1,(.c (.i .u32 200))),(2,(.c (.i .u32 3)))],
fun p=>.alc [(.i .i64 0),(.i .i64 0),(.b false),(.i .i64 0),(.i .u32 0),(.i .i64 0)],
fun p=>.build [(.i .i64 0),(.i .i64 0),(.b false),(.i .i64 0),(.i .u32 0),(.i .i64 0)] [(0,1,(.t (p 0))),(1,1,(.t (p 1))),(2,1,(.t (p 2))),(4,1,(.t (p 3)))],
fun p=>.bsl 6 [(.i .i64 0),(.i .i64 0),(.b false),(.i .i64 0),(.i .u32 0),(.i .i64 0)] 1 [(0,(.t (p 0)))],
fun p=>.call (.fn i_Q13) [(.t (p 0)),(.t (p 1))],
fun p=>.call (.fn i_Q14) [(.t (p 0)),(.t (p 1))],
fun p=>.call (.fn i_Q15) [(.t (p 0))],
fun p=>.build [(.i .i64 0),(.i .i64 0),(.i .i64 0),(.i .i64 0),(.i .i64 0),(.b false)] [],
fun p=>.call (.fn i_Q18) [(.t (p 0))],
fun p=>.build [(.i .i64 0),(.i .i64 0),(.i .i64 0),(.i .i64 0),(.i .i64 0),(.b false)] [(0,1,(.t (p 0))),(1,1,(.t (p 1))),(2,1,(.t (p 2))),(3,1,(.t (p 3))),(4,1,(.t (p 4)))],
fun p=>.build [(.i .i64 0),(.i .i64 0),(.i .i64 0),(.i .i64 0),(.i .i64 0),(.b false)] [(1,1,(.t (p 0))),(2,1,(.t (p 1))),(3,1,(.t (p 2))),(4,1,(.t (p 3))),(5,1,(.c (.b true)))],
fun p=>.call (.fn i_Q21) [(.t (p 0))],
fun p=>.call (.fn i_Q23) [(.t (p 0))],
fun p=>.call (.fn i_Q22) [(.t (p 0))],
fun p=>.mksl [(.s ⟨#[]⟩),(.i .i64 0),(.i .i64 0),(.b false),(.b false),.ns,(.i .i64 0),(.i .i64 0),(.i .i64 0),(.i .i64 0),(.i .i64 0)] (.c (.i .i64 (xgi (p 0)))) (.c (.i .i64 (xgi (p 1)))),
fun p=>.build [.ns,.ns,.ns] [(0,1,(.t (p 0)))],
fun p=>.call (.fn i_Q2) [(.t (p 0)),(.c .ns)],
fun p=>.build [(.i .i64 0),(.i .i64 0)] [(0,1,(.c (.i .i64 (xgi (p 0))))),(1,1,(.c (.i .i64 (xgi (p 1)))))],
fun p=>.bsl 2 [(.i .i64 0),(.i .i64 0)] 3 [(0,(.t (p 0))),(1,(.t (p 1))),(2,(.t (p 2)))],
fun p=>.call (.fn i_Q27) [(.t (p 0)),(.t (p 1))],
fun p=>.mkfn (.func i_Q33) [] [(.t (p 0)),(.t (p 1))],
fun p=>.call (.fn i_Q30) [(.t (p 0)),(.t (p 1))],
fun p=>.call (.fn i_Q35) [(.t (p 0)),(.t (p 1)),(.t (p 2))]]
def sh8:List ((Nat→Nat)→O):=[fun p=>.call (.fn i_Q11) [(.t (p 0)),(.c (.i .i64 (xgi (p 1)))),(.c (.i .i64 1073741824))],
fun p=>.call (.fn i_Q8) [(.t (p 0)),(.t (p 1)),(.c (.i .i64 (xgi (p 2))))],
fun p=>.bin .gtr (.t (p 0)) (.c (.i .i64 90)),
fun p=>.build [(.i .i64 0),(.i .i64 0),(.i .i64 0)] [(0,1,(.c (.i .i64 (xgi (p 0))))),(1,1,(.t (p 1))),(2,1,(.c (.i .i64 (xgi (p 2)))))],
fun p=>.bsl 3 [(.i .i64 0),(.i .i64 0),(.i .i64 0)] 3 [(0,(.t (p 0))),(1,(.t (p 1))),(2,(.t (p 2)))],
fun p=>.mn [(.t (p 0)),(.c (.i .i64 4096))],
fun p=>.iad 1 (.t (p 0)) (.c (.i .i64 (xgi (p 1)))),
fun p=>.bin .quo (.t (p 0)) (.t (p 1)),
fun p=>.mv (.c (.i .i64 4096)),
fun p=>.call (.fn i_Q37) [(.t (p 0))],
fun p=>.call (.fn i_Q38) [(.t (p 0))],
fun p=>.call (.fn i_Q39) [(.t (p 0))],
fun p=>.call (.fn i_Q41) [(.t (p 0)),(.t (p 1)),(.t (p 2))],
fun p=>.call (.fn i_Q42) [(.t (p 0)),(.t (p 1)),(.t (p 2))],
fun p=>.mv (.fn i_Q44),
fun p=>.call (.fn i_Q45) [(.t (p 0))],
fun p=>.call (.fn i_Q47) [(.t (p 0))],
fun p=>.call (.fn i_Q46) [(.t (p 0)),(.t (p 1))],
fun p=>.slice 1 (.t (p 0)) (some (.t (p 1))) none none,
fun p=>.bsl 1 [.ns] 3 [(0,(.t (p 0))),(1,(.t (p 1))),(2,(.t (p 2)))],
fun p=>.call (.fn i_Q50) [(.t (p 0))],
fun p=>.call (.fn i_Q51) [(.t (p 0))],
fun p=>.call (.fn i_Q53) [(.t (p 0))],
fun p=>.call (.fn i_Q55) [(.t (p 0))]]
def sh9:List ((Nat→Nat)→O):=[fun p=>.call (.fn i_Q56) [(.t (p 0)),(.c (.i .i64 (xgi (p 1)))),(.c .ns)],
fun p=>.call (.fn i_Q58) [(.t (p 0)),(.t (p 1))],
fun p=>.call (.fn i_Q59) [(.fn i_Q58)],
fun p=>.call (.fn i_Q59) [(.fn i_Q29)],
fun p=>.bsl 1 [.nf] 2 [(0,(.t (p 0))),(1,(.t (p 1)))],
fun p=>.call (.fn i_Q61) [(.t (p 0)),(.t (p 1))],
fun p=>.build [(.i .i64 0),(.i .i64 0),(.b false)] [(0,1,(.t (p 0))),(1,1,(.t (p 1)))],
fun p=>.build [(.i .i64 0),(.i .i64 0),(.b false)] [(0,1,(.t (p 0))),(1,1,(.t (p 1))),(2,1,(.c (.b true)))],
fun p=>.bsl 3 [(.i .i64 0),(.i .i64 0),(.b false)] 2 [(0,(.t (p 0))),(1,(.t (p 1)))],
fun p=>.call (.fn i_Q63) [(.t (p 0))],
fun p=>.call (.fn i_Q65) [(.t (p 0)),(.t (p 1)),(.t (p 2))],
fun p=>.call (.fn i_Q66) [(.t (p 0))],
fun p=>.bin .leq (.t (p 0)) (.c (.i .i64 96)),
fun p=>.call (.fn i_Q67) [(.t (p 0))],
fun p=>.build [.ns,.ns,(.i .i64 0),(.i .i64 0),(.i .i64 0)] [(0,1,(.t (p 0)))],
fun p=>.call (.fn i_Q68) [(.t (p 0))],
fun p=>.build [(.i .i64 0),(.i .i64 0)] [],
fun p=>.call (.fn i_Q69) [(.t (p 0))],
fun p=>.call (.fn i_Q70) [(.t (p 0))],
fun p=>.call (.fn i_Q72) [(.t (p 0))],
fun p=>.bsl 1 [(.i .i64 0)] 2 [(0,(.t (p 0))),(1,(.t (p 1)))],
fun p=>.call (.fn i_Q75) [(.t (p 0)),(.t (p 1)),(.t (p 2))],
fun p=>.call (.fn i_Q76) [(.t (p 0))],
fun p=>.call (.fn i_Q77) [(.t (p 0)),(.t (p 1)),(.t (p 2))]]
def sh10:List ((Nat→Nat)→O):=[fun p=>.build [(.i .i64 0),(.i .i64 0),(.i .i64 0),(.i .i64 0)] [(0,1,(.t (p 0))),(1,1,(.t (p 1))),(2,1,(.t (p 2))),(3,1,(.t (p 3)))],
fun p=>.load 4 true (.t (p 0)),
fun p=>.alloc [.ns],
fun p=>.mkfn (.func i_Q79) [] [(.t (p 0))],
fun p=>.call (.fn i_Q78) [(.t (p 0)),(.t (p 1))],
fun p=>.call (.fn i_Q81) [(.c .ns),(.t (p 0))],
fun p=>.call (.fn i_Q82) [(.c .ns),(.t (p 0))],
fun p=>.call (.fn i_Q84) [(.t (p 0)),(.c (.i .i64 (xgi (p 1))))],
fun p=>.call (.fn i_Q85) [(.t (p 0)),(.c (.i .i64 (xgi (p 1))))],
fun p=>.call (.fn i_Q86) [(.t (p 0)),(.c (.i .i64 (xgi (p 1))))],
fun p=>.call (.fn i_Q87) [(.t (p 0)),(.c (.i .i64 (xgi (p 1))))],
fun p=>.build [(.i .i64 0),(.i .i64 0)] [(0,1,(.c (.i .i64 (-1)))),(1,1,(.t (p 0)))],
fun p=>.bin .lss (.t (p 0)) (.c (.i .i64 8192)),
fun p=>.call (.fn i_Q89) [(.t (p 0)),(.t (p 1))],
fun p=>.mv (.c .nf),
fun p=>.mkfn (.func i_Q90) [] [(.t (p 0))],
fun p=>.alloc [(.i .i64 0)],
fun p=>.slice 2 (.t (p 0)) (some (.t (p 1))) (some (.t (p 2))) none,
fun p=>.mkfn (.func i_Q93) [] [(.t (p 0)),(.t (p 1))],
fun p=>.call (.fn i_Q92) [(.t (p 0)),(.t (p 1))],
fun p=>.mksl [(.b false)] (.t (p 0)) (.t (p 1)),
fun p=>.bin .geq (.t (p 0)) (.c (.i .i64 (-1))),
fun p=>.call (.fn i_Q98) [(.t (p 0))],
fun p=>.call (.fn i_Q99) [(.t (p 0))]]
def sh11:List ((Nat→Nat)→O):=[fun p=>.call (.fn i_Q100) [(.t (p 0)),(.t (p 1))],
fun p=>.call (.fn i_Q5) [(.t (p 0)),(.t (p 1))],
fun p=>.store 1 (.t (p 0)) (.c .ns),
fun p=>.call (.fn i_Q101) [(.t (p 0)),(.c (.i .i64 (xgi (p 1))))],
fun p=>.call (.fn i_Q101) [(.t (p 0)),(.t (p 1))],
fun p=>.slice 2 (.t (p 0)) none (some (.t (p 1))) none,
fun p=>.slice 2 (.t (p 0)) none (some (.t (p 1))) (some (.t (p 2))),
fun p=>.iad 2 (.t (p 0)) (.c (.i .i64 (xgi (p 1)))),
fun p=>.call (.fn i_Q102) [(.t (p 0)),(.t (p 1))],
fun p=>.call (.fn i_Q80) [(.t (p 0)),(.t (p 1))],
fun p=>.appz [(.i .i64 0),(.i .i64 0),(.i .i64 0)] (.t (p 0)) (.t (p 1)),
fun p=>.appz [.ns] (.t (p 0)) (.t (p 1)),
fun p=>.build [(.i .i64 0),(.i .i64 0),(.i .i64 0),(.i .i64 0),(.i .i64 0),(.i .i64 0)] [(3,1,(.c (.i .i64 (xgi (p 0)))))],
fun p=>.build [(.i .i64 0),(.i .i64 0),(.i .i64 0),(.i .i64 0),(.i .i64 0),(.i .i64 0)] [(0,3,(.t (p 0))),(3,1,(.t (p 1)))],
fun p=>.alloc [(.i .i64 0),(.i .i64 0),(.i .i64 0),(.i .i64 0),(.i .i64 0),(.i .i64 0)],
fun p=>.slice 6 (.t (p 0)) none (some (.t (p 1))) none,
fun p=>.call (.fn i_Q104) [(.t (p 0)),(.t (p 1))],
fun p=>.call (.fn i_Q105) [(.t (p 0)),(.t (p 1))],
fun p=>.call (.fn i_Q106) [(.t (p 0))],
fun p=>.call (.fn i_Q86) [(.t (p 0)),(.t (p 1))],
fun p=>.call (.fn i_Q87) [(.t (p 0)),(.t (p 1))],
fun p=>.call (.fn i_Q107) [(.t (p 0)),(.t (p 1))],
fun p=>.eq true (.agg [.i,.i]) (.t (p 0)) (.t (p 1)),
fun p=>.bin .geq (.t (p 0)) (.c (.i .u8 48))]
def sh12:List ((Nat→Nat)→O):=[fun p=>.bin .leq (.t (p 0)) (.c (.i .u8 57)),
fun p=>.bin .eql (.t (p 0)) (.c (.i .u8 95)),
fun p=>.bin .lss (.t (p 0)) (.c (.i .u8 97)),
fun p=>.bin .gtr (.t (p 0)) (.c (.i .u8 122)),
fun p=>.bin .geq (.t (p 0)) (.c (.i .i64 512)),
fun p=>.bin .gtr (.t (p 0)) (.c (.i .i64 255)),
fun p=>.load 5 true (.t (p 0)),
fun p=>.idx 1 5 false (.t (p 0)) (.t (p 1))]
def shB:Nat→List ((Nat→Nat)→O)
 | 0=>sh0
 | 1=>sh1
 | 2=>sh2
 | 3=>sh3
 | 4=>sh4
 | 5=>sh5
 | 6=>sh6
 | 7=>sh7
 | 8=>sh8
 | 9=>sh9
 | 10=>sh10
 | 11=>sh11
 | _=>sh12
def shp (s:Nat) (p:Nat→Nat):O:=xgt (fun _=>.e0) (shB (s / 24)) (s % 24) p
def nps:List Nat:=[1,1,2,1,1,2,2,2,0,2,0,1,2,1,2,2,1,2,2,1,2,2,2,2,1,1,1,2,2,0,2,2,2,2,0,2,2,0,2,2,2,2,2,1,2,2,1,2,1,2,1,2,2,2,0,2,2,0,1,2,1,1,2,2,1,2,0,2,2,0,1,2,1,3,1,1,0,1,1,2,1,1,2,1,2,2,1,2,1,3,0,2,1,2,1,1,1,2,2,2,2,1,2,2,2,2,1,1,2,3,3,2,1,2,3,0,3,3,2,1,1,1,1,2,1,1,0,1,0,1,0,3,2,3,2,1,0,1,0,1,3,2,3,3,2,1,0,0,2,1,1,2,2,1,3,2,1,1,1,0,1,1,1,1,3,5,2,1,2,0,0,4,1,2,2,1,0,1,5,4,1,1,1,2,1,1,2,3,2,2,2,3,2,3,1,3,3,1,2,2,0,1,1,1,3,3,0,1,1,2,2,3,1,1,1,1,2,2,0,0,2,2,2,2,2,1,3,1,1,1,1,1,0,1,1,1,2,3,1,3,4,1,0,1,2,1,1,2,2,2,2,1,1,2,0,1,0,3,2,2,2,1,1,1,2,2,1,2,2,2,3,2,2,2,2,2,1,2,0,2,2,2,1,2,2,2,2,1,1,1,1,1,1,1,1,2]
abbrev Rs:=List TO×List (Bool×List TO)
abbrev Rc:=Nat→Nat→Nat→Bool→Rs
def xfin (s:Nat) (d:Option Nat) (g:Option (Nat×Bool)) (l:List Nat) (r:Rs):Rs:=(⟨d,shp s (fun i=>xgt 0 l i),g⟩::r.1,r.2)
def xpar (R:Nat) (rc:Nat→List Nat→Rs):Nat→Nat→List Nat→Rs
 | 0,n,l=>rc n l
 | f+1,n,l=>xpar R rc f (n / R) (n % R::l)
def xdst (R s:Nat) (rc:Rc) (g:Option (Nat×Bool)) (gn:Nat) (gb:Bool) (p:Nat):Nat→Nat→Rs
 | 0,n=>xpar R (fun n l=>xfin s (some (p+1)) g l (rc n (p+1) gn gb)) (xgt 0 nps s) n []
 | 1,n=>xpar R (fun m l=>xfin s (some (n % R)) g l (rc m (n % R) gn gb)) (xgt 0 nps s) (n / R) []
 | _+2,n=>xpar R (fun n l=>xfin s none g l (rc n p gn gb)) (xgt 0 nps s) n []
def xgud (R s:Nat) (rc:Rc) (p gn:Nat) (gb:Bool):Nat→Nat→Rs
 | 0,n=>xdst R s rc none gn gb p (n % 3) (n / 3)
 | 1,n=>xdst R s rc (some (n % R,true)) (n % R) true p (n / R % 3) (n / R / 3)
 | 2,n=>xdst R s rc (some (n % R,false)) (n % R) false p (n / R % 3) (n / R / 3)
 | _+3,n=>xdst R s rc (some (gn,gb)) gn gb p (n % 3) (n / 3)
def xseg (b:Bool) (r:Rs):Rs:=([],(b,r.1)::r.2)
def xstp (R:Nat) (rc:Rc) (p gn:Nat) (gb:Bool):Nat→Nat→Rs
 | 0,_=>([],[])
 | 1,n=>xseg true (rc n p gn gb)
 | 2,n=>xseg false (rc n p gn gb)
 | s+3,n=>xgud R s rc p gn gb (n % 4) (n / 4)
def xdec (R:Nat):Nat→Rc
 | 0=>fun _ _ _ _=>([],[])
 | f+1=>fun n p gn gb=>xstp R (xdec R f) p gn gb (n % 299) (n / 299)
def xrad (n:Nat):Nat:=xgt 0 [32,64,128,512] (n % 4)
@[go_sem ↓] def k (n:Nat) {l:List TO} (h:(xdec (xrad n) 400 (n / 4) 511 0 true).1=l:=by conv=>lhs;cbv):List TO:=l
@[go_sem ↓] def kd (n:Nat) {l:List (Bool×List TO)} (h:(xdec (xrad n) 400 (n / 4) 511 0 true).2=l:=by conv=>lhs;cbv):List (Bool×List TO):=l
/-! horarium/horariumlaw11.ReduceAgain -/
@[go_sem] def Q0_0:=k 0x82fc
@[go_sem] def Q0_1:=k 0x327522e166c3782a9b365916b37c
@[go_sem] def Q0_2:=k 0x231f005879ff919c4
@[go_sem] def Q0_3:=k 0x11275814
@[go_sem] def Q0_4:=k 0x7732a6fe5ee2e1248
@[go_sem] def Q0_5:=k 0x368c975d00cc819bd8172ad3c6c83940c0f04d635122f8cffc801a68
@[go_sem] def Q0_6:=k 0x86e325d52c017d8255cb8682be41e6abdb648d258b8e8e63c48484cbe8d9
@[go_sem] def Q0_7:=k 0x6e1131cb082e8072fcfae61d0556f5d1b96e8bb2c050687496bf06bef5f60adcb10f9bd01437b58672b895861544953a9a1f09711b80ca27c3816bfbbf51ab45b82e47b3e0dfb695e048ca1f944b5c17ae431b0cc4ee03d8e5ebae086f76c6d0e
@[go_sem] def Q0_8:=k 0x82fc
@[go_sem] def Q0_9:=k 0xd43f81000773722
def Q0_10:TC:=(.seq (.reg Q0_3) (.seq (.cond (.t 20) .skip (.exit 0)) (.seq (.block 1 (.seq (.reg Q0_4) (.seq (.reg Q0_5) (.seq (.reg Q0_6) (.seq (.reg Q0_7) (.cond (.t 68) (.seq (.reg Q0_8) .ret) .skip)))))) (.reg Q0_9))))
@[go_sem] def Q0_11:=k 0x35ba3979219a
def t_Q0:TF:=⟨71,[.t 2],(.seq (.reg Q0_0) (.seq (.reg Q0_1) (.seq (.seq (.reg Q0_2) (.block 0 (.loop Q0_10))) (.seq (.reg Q0_11) .ret))))⟩
/-! (*horarium/horariumkeep.Tape).Config -/
@[go_sem] def Q1_0:=k 0x83c0
@[go_sem] def Q1_1:=k 0xbbd0
@[go_sem] def Q1_2:=k 0x11d2d68684e43c847ee6b8c
@[go_sem] def Q1_3:=k 0x12b18
@[go_sem] def Q1_4:=k 0x2c72813b486b5dbc
@[go_sem] def Q1_5:=k 0x10512fd74a3ff3cc60468e0723cdebd1e73f2d2b95658f6fb70904f50abd47f1aa383c1c00d
@[go_sem] def Q1_6:=k 0x16ee43c8afc822d4ccd
@[go_sem] def Q1_7:=k 0x1adb59a8bd8ed
@[go_sem] def Q1_8:=kd 0x6bf77507e145b8b0580341ff460c0165945604a30b09e740b884b15d4cdf1e60d9300b53fb7cf46982127e37495ea3c1
@[go_sem] def Q1_9:=k 0x199e9073ce75205490d
def Q1_10:TC:=(.seq (.seq (.reg Q1_7) (.cond (.t 36) .skip (.exit 2))) (.seq (.block 3 (.dreg Q1_8)) (.reg Q1_9)))
@[go_sem] def Q1_11:=k 0xb05e9
@[go_sem] def Q1_12:=k 0xaf835225
@[go_sem] def Q1_13:=k 0x2800580173dfd
@[go_sem] def Q1_14:=k 0x49ffe5093d94f896806ea8cd73d0e6a829a48daf07c788d16b27ce0d
@[go_sem] def Q1_15:=k 0xbda4c86d0d72a1
def Q1_16:TC:=(.seq (.reg Q1_12) (.seq (.cond (.t 51) .skip (.exit 4)) (.seq (.block 5 (.seq (.reg Q1_13) (.reg Q1_14))) (.reg Q1_15))))
@[go_sem] def Q1_17:=k 0xd5c8bf1807705e418c276b27a80cbeef09f861bea6
@[go_sem] def Q1_18:=k 0x6c71742dbfc8a45ec
def Q1_19:TC:=(.seq (.seq (.reg Q1_4) (.cond (.t 18) .skip (.exit 0))) (.seq (.block 1 (.seq (.reg Q1_5) (.seq (.seq (.reg Q1_6) (.block 2 (.loop Q1_10))) (.seq (.seq (.reg Q1_11) (.block 4 (.loop Q1_16))) (.reg Q1_17))))) (.reg Q1_18)))
@[go_sem] def Q1_20:=k 0x5cdb6d74614184c6f6fe
@[go_sem] def Q1_21:=k 0x20ca9d5adcb25013567a492f553bcf816baf1e
@[go_sem] def Q1_22:=k 0x2f26da730da587d36025d279e
@[go_sem] def Q1_23:=kd 0x12478fa2396e59290802710b6fdf00a03d4d2ed11413480ed7c4531365b3993c642138a085485488779ce9ec0cc2948e6e0a43c3d8e7be66f29908e75f104a2aec5af8ccc166125fe95f6a32e60c7725fa14899b7077317234a
@[go_sem] def Q1_24:=k 0x265dff45525106
@[go_sem] def Q1_25:=k 0x6d28277709b374af2aa107be224be691e
@[go_sem] def Q1_26:=k 0x1622f5eb9ed857acff17dfcd590cf4938c3666f6166
@[go_sem] def Q1_27:=k 0x679ca017b0b41378ff7e
def Q1_28:TC:=(.seq (.seq (.reg Q1_21) (.cond (.t 75) .skip (.exit 6))) (.seq (.block 7 (.seq (.reg Q1_22) (.seq (.dreg Q1_23) (.seq (.seq (.reg Q1_24) (.cond (.t 101) (.reg Q1_25) .skip)) (.reg Q1_26))))) (.reg Q1_27)))
@[go_sem] def Q1_29:=k 0x980a14dc998a04b099be
@[go_sem] def Q1_30:=k 0x2bbcf56df169de
@[go_sem] def Q1_31:=kd 0x1544b0950e0c06da5847561f14d69a1d5d34852d75f303f85a35c4303cf9af2309bd48012
@[go_sem] def Q1_32:=k 0x9d6aae2e41a553d5d9fe
def Q1_33:TC:=(.seq (.seq (.reg Q1_30) (.cond (.t 115) .skip (.exit 8))) (.seq (.block 9 (.dreg Q1_31)) (.reg Q1_32)))
@[go_sem] def Q1_34:=k 0x15359b205d13735e43b469baa9f
def t_Q1:TF:=⟨129,[.cell 2 3 true],(.seq (.reg Q1_0) (.seq (.reg Q1_1) (.seq (.reg Q1_2) (.seq (.seq (.reg Q1_3) (.block 0 (.loop Q1_19))) (.seq (.seq (.reg Q1_20) (.block 6 (.loop Q1_28))) (.seq (.seq (.reg Q1_29) (.block 8 (.loop Q1_33))) (.seq (.reg Q1_34) .ret)))))))⟩
/-! horarium/reduce.Table -/
@[go_sem] def Q2_0:=k 0x81660ea932c31c
@[go_sem] def Q2_1:=k 0x6ba821004aef77f6dadf17aeccb6a64a59c
@[go_sem] def Q2_2:=k 0x1b9fccff13dc
@[go_sem] def Q2_3:=k 0xd1b657302acd5e8da3828
@[go_sem] def Q2_4:=k 0x234c40056c2c
@[go_sem] def Q2_5:=k 0xd8326d84867730103da3d50c
@[go_sem] def Q2_6:=k 0x2c60a549f9b8cbe7faf35b5a5b1e3367a7eaaec13ca9
@[go_sem] def Q2_7:=k 0x5be413ed4eebd70cd
@[go_sem] def Q2_8:=k 0x2979247d93095521c1f8eeb0ca707432ae8d01e20672ded644290329e3ae4ed
@[go_sem] def Q2_9:=k 0x36162a34774066c8d8fd98e9ea7876db96881179d04e40cdf198d
@[go_sem] def Q2_10:=k 0x970aaaa225de3222d
@[go_sem] def Q2_11:=k 0x3542d489cb0bf56ebd2e2077e7c2760704fe9c31116d8ac64e7cc64e
@[go_sem] def Q2_12:=kd 0x29a5dd13988962196f8045063e6e0464afa
def t_Q2:TF:=⟨68,[.t 4,.cell 5 6 true,.t 6],(.seq (.reg Q2_0) (.seq (.reg Q2_1) (.seq (.seq (.reg Q2_2) (.cond (.t 19) (.reg Q2_3) .skip)) (.seq (.seq (.reg Q2_4) (.cond (.t 24) (.seq (.reg Q2_5) .ret) .skip)) (.seq (.reg Q2_6) (.seq (.reg Q2_7) (.seq (.reg Q2_8) (.seq (.seq (.reg Q2_9) (.cond (.t 54) (.seq (.reg Q2_10) (.reg Q2_11)) .skip)) (.seq (.dreg Q2_12) .ret)))))))))⟩
/-! horarium/horariumref3.Of -/
@[go_sem] def Q3_0:=k 0x2a8f04
@[go_sem] def Q3_1:=k 0x132f52897235231c
@[go_sem] def Q3_2:=k 0xc471e061b3c
@[go_sem] def Q3_3:=k 0xd71cabd68e8b5c
@[go_sem] def Q3_4:=k 0x3e054d57e23cdb5b7b6c
@[go_sem] def Q3_5:=k 0x1434d6afd95ed9c
@[go_sem] def Q3_6:=k 0x126d2a704
@[go_sem] def Q3_7:=k 0x140dba29495cc
def t_Q3:TF:=⟨18,[.t 2,.t 3],(.seq (.reg Q3_0) (.seq (.seq (.reg Q3_1) (.seq (.reg Q3_2) (.cond (.t 9) (.seq (.reg Q3_3) .ret) .skip))) (.seq (.reg Q3_4) (.seq (.seq (.reg Q3_5) (.cond (.t 16) (.seq (.reg Q3_6) .ret) .skip)) (.seq (.reg Q3_7) .ret)))))⟩
/-! horarium/horariumref3.Total -/
@[go_sem] def Q4_0:=k 0x82e8
@[go_sem] def Q4_1:=k 0xbaf8
@[go_sem] def Q4_2:=k 0x97ef0e9231c
@[go_sem] def Q4_3:=k 0x7351964
@[go_sem] def Q4_4:=k 0x328a9e01d4c4d3b93d3a4
@[go_sem] def Q4_5:=k 0x1f295ffe64551f9d30d279df97c
@[go_sem] def Q4_6:=k 0x31e8a918495d0
def Q4_7:TC:=(.seq (.reg Q4_3) (.seq (.cond (.t 9) .skip (.exit 0)) (.seq (.block 1 (.seq (.reg Q4_4) (.reg Q4_5))) (.reg Q4_6))))
@[go_sem] def Q4_8:=k 0x1a338a8691cc
def t_Q4:TF:=⟨18,[.t 2],(.seq (.reg Q4_0) (.seq (.reg Q4_1) (.seq (.seq (.reg Q4_2) (.block 0 (.loop Q4_7))) (.seq (.reg Q4_8) .ret))))⟩
/-! horarium/horariumref7.Holds -/
@[go_sem] def Q5_0:=k 0x3538f1031c
@[go_sem] def Q5_1:=k 0x221ce3061fe508764
@[go_sem] def Q5_2:=k 0xbba7bb4
@[go_sem] def Q5_3:=k 0x3d6f4b2116736b9693638
@[go_sem] def Q5_4:=k 0x2330e31d7fb28f40cf9931b83932c4de720dcc
@[go_sem] def Q5_5:=k 0x4be824f6e09723919fc03f684c41565865ba35295775321d80fd5734a9814e83a6aa9de3435
@[go_sem] def Q5_6:=k 0x861908
@[go_sem] def Q5_7:=k 0x6f22be8662f911
def Q5_8:TC:=(.seq (.reg Q5_2) (.seq (.cond (.t 14) .skip (.exit 0)) (.seq (.block 1 (.seq (.reg Q5_3) (.seq (.reg Q5_4) (.seq (.reg Q5_5) (.cond (.t 35) (.seq (.reg Q5_6) .ret) .skip))))) (.reg Q5_7))))
@[go_sem] def Q5_9:=k 0x46e9fd132e66243515
@[go_sem] def Q5_10:=k 0x8e53a965
@[go_sem] def Q5_11:=k 0x461ba121b1b08e0d737ece171dc03e55d
@[go_sem] def Q5_12:=kd 0x28d4832edc653e86b7712c9aab3d98bd8cf309d38ff101e62a4212d66997023ddf7bf09787e1
@[go_sem] def Q5_13:=k 0x8d1b08
@[go_sem] def Q5_14:=k 0xb3f4c18002ca71
def Q5_15:TC:=(.seq (.reg Q5_10) (.seq (.cond (.t 41) .skip (.exit 2)) (.seq (.block 3 (.seq (.reg Q5_11) (.seq (.dreg Q5_12) (.cond (.t 57) (.seq (.reg Q5_13) .ret) .skip)))) (.reg Q5_14))))
@[go_sem] def Q5_16:=k 0xf308
def t_Q5:TF:=⟨59,[.t 4],(.seq (.reg Q5_0) (.seq (.seq (.reg Q5_1) (.block 0 (.loop Q5_8))) (.seq (.seq (.reg Q5_9) (.block 2 (.loop Q5_15))) (.seq (.reg Q5_16) .ret))))⟩
/-! horarium/horariumref3.Nodes -/
@[go_sem] def Q6_0:=k 0xf31c
@[go_sem] def Q6_1:=k 0x3c1758692b1f5a5c0109231c
@[go_sem] def Q6_2:=k 0xf31c
@[go_sem] def Q6_3:=k 0x9bc53ef3b6c
@[go_sem] def Q6_4:=k 0xbba7bb4
@[go_sem] def Q6_5:=k 0x17469f8f35ac
@[go_sem] def Q6_6:=kd 0x1bfa8146f42cbfed2481d12e7135ff728bef327604cc98
@[go_sem] def Q6_7:=k 0xf31c
@[go_sem] def Q6_8:=k 0x4e0331a87ce60
def Q6_9:TC:=(.seq (.reg Q6_4) (.seq (.cond (.t 14) .skip (.exit 0)) (.seq (.block 1 (.seq (.reg Q6_5) (.seq (.dreg Q6_6) (.cond (.t 24) (.seq (.reg Q6_7) .ret) .skip)))) (.reg Q6_8))))
@[go_sem] def Q6_10:=k 0xf390
def t_Q6:TF:=⟨26,[.t 4],(.seq (.reg Q6_0) (.seq (.seq (.reg Q6_1) (.cond (.t 10) (.seq (.reg Q6_2) .ret) .skip)) (.seq (.seq (.reg Q6_3) (.block 0 (.loop Q6_9))) (.seq (.reg Q6_10) .ret))))⟩
/-! horarium/horariumlaw11.known -/
@[go_sem] def Q7_0:=k 0x12dc
@[go_sem] def Q7_1:=k 0xe09686d7cc2c6d69aa78
@[go_sem] def Q7_2:=k 0x5bce9993c749edf0c
@[go_sem] def Q7_3:=k 0x2d0d974d248fb2a3efebafd945a009a5560b7f6eefef384094edfe18
@[go_sem] def Q7_4:=k 0x1019a407e2326bbef9ef9f78fbb064ef3276f63ee5e8d35c688
@[go_sem] def Q7_5:=k 0x119c95e147769bbbf48760b8f59e26d
@[go_sem] def Q7_6:=k 0x3778bbb46a4d3625ced20cb6d6f47b609da506bcf929
@[go_sem] def Q7_7:=k 0x3fcacc863953ca4ed6c9aca647d5315f50ac71be4989
@[go_sem] def Q7_8:=k 0xee681e6860d16b2dbf3f1e5a36afc68b6cdadafdd4dd1e01bbc98578456831975c135202491ae95921c208c4d6392c410e65dd10aaa1e5c0af51ea0ab465fbeb7cfc44bfdf8b1eb9bef166c49e9b66c2515f79c916e239cd4313d1c4977416c406a32aa161093cf57f5e89ec78ddf8283c7ddec99b9bbfe98b4e3611f093cb59df364ad574b6967590b2177679cc9272890c44df4c3d44b124d7dfbd6a0c00a642471d145b3d696e1f1e0a95c192edaf5620c685ae
def t_Q7:TF:=⟨108,[.t 0],(.seq (.reg Q7_0) (.seq (.reg Q7_1) (.seq (.reg Q7_2) (.seq (.reg Q7_3) (.seq (.reg Q7_4) (.seq (.reg Q7_5) (.seq (.reg Q7_6) (.seq (.reg Q7_7) (.seq (.reg Q7_8) .ret)))))))))⟩
/-! (*horarium/horariumkeep.Tape).Table -/
@[go_sem] def Q8_0:=k 0x16344
@[go_sem] def Q8_1:=k 0x41c2b281ed8b0fb6c
@[go_sem] def Q8_2:=k 0x704688ad9bcebf3e54f7215ea3962f8c
@[go_sem] def Q8_3:=k 0x1d28ad1849ec
@[go_sem] def Q8_4:=k 0xb62792aa37b59cb8ce40eb0fc8f02c0c
@[go_sem] def Q8_5:=k 0xa0d4769f20b1e1b8ca1436216eb930c90904a895f2ad98cc45d
@[go_sem] def Q8_6:=k 0x1a1d0847da0dd
@[go_sem] def Q8_7:=k 0x25a41837629e8e03f884b879e56ace9801b3224d77366699d43fd8e25a81e131f4fd
@[go_sem] def Q8_8:=k 0x1ced9289fd8ef654b08385dad
@[go_sem] def Q8_9:=k 0x7ad083dbab8a42d077d25dd
@[go_sem] def Q8_10:=k 0x24368
@[go_sem] def Q8_11:=k 0x90c4a6799cc3ad60d
@[go_sem] def Q8_12:=k 0x2c6d3ebc979d45bfad3d25a09caff23bfab5218a863150e5e
@[go_sem] def Q8_13:=k 0x266c0d86a6f30a47e3d
def Q8_14:TC:=(.seq (.seq (.reg Q8_11) (.cond (.t 55) .skip (.exit 0))) (.seq (.block 1 (.reg Q8_12)) (.reg Q8_13)))
@[go_sem] def Q8_15:=k 0x18f5164e2696ce
def t_Q8:TF:=⟨66,[.t 6],(.seq (.reg Q8_0) (.seq (.reg Q8_1) (.seq (.seq (.reg Q8_2) (.cond (.t 18) (.seq (.seq (.reg Q8_3) (.cond (.t 20) (.seq (.reg Q8_4) .ret) .skip)) (.seq (.reg Q8_5) .ret)) .skip)) (.seq (.seq (.reg Q8_6) (.cond (.t 35) (.seq (.reg Q8_7) .ret) .skip)) (.seq (.reg Q8_8) (.seq (.reg Q8_9) (.seq (.seq (.reg Q8_10) (.block 0 (.loop Q8_14))) (.seq (.reg Q8_15) .ret))))))))⟩
/-! horarium/reduce.Stuck -/
@[go_sem] def Q9_0:=k 0x10edf906431c
@[go_sem] def Q9_1:=kd 0x120933263272f10d9634427bd52c9892d180277cdb4
def t_Q9:TF:=⟨12,[.t 4],(.seq (.reg Q9_0) (.seq (.dreg Q9_1) .ret))⟩
/-! horarium/reduce.Valid -/
@[go_sem] def Q10_0:=k 0x4dcb547b2c
@[go_sem] def Q10_1:=k 0x1461fe665054d511c0389d26a9c03302cbed041db2aa3ad0b5fb180d73bed835a8c925f8363eb5d2c
def t_Q10:TF:=⟨22,[.t 6],(.seq (.reg Q10_0) (.seq (.reg Q10_1) .ret))⟩
/-! horarium/horariumbook.Within -/
@[go_sem] def Q11_0:=k 0x16328
@[go_sem] def Q11_1:=k 0xe6e593a808361bc7830639f56ecf0ac6c3a35b2c
@[go_sem] def Q11_2:=k 0x1752e6351bac
@[go_sem] def Q11_3:=k 0x10a17b00311929ee71fbdae6f303f618653bc
@[go_sem] def Q11_4:=k 0x21c351a9241c
@[go_sem] def Q11_5:=k 0x16f6926af38088c73a9eed15bcc7cdfa8143c
@[go_sem] def Q11_6:=k 0x4b9991724df94809a97a89d
def t_Q11:TF:=⟨33,[.t 6],(.seq (.reg Q11_0) (.seq (.seq (.reg Q11_1) (.cond (.t 14) (.seq (.reg Q11_2) .ret) .skip)) (.seq (.reg Q11_3) (.seq (.seq (.reg Q11_4) (.cond (.t 23) (.reg Q11_5) .skip)) (.seq (.reg Q11_6) .ret)))))⟩
/-! (*horarium/horariumkeep.Tape).Next -/
@[go_sem] def Q12_0:=k 0xf308
@[go_sem] def Q12_1:=kd 0xb5d9e8d2179947fbb8d121fed1130d5ac1ce82b24532ff835d86b1e51227b092c04708
@[go_sem] def Q12_2:=k 0xf308
@[go_sem] def Q12_3:=k 0x23b1df14795061cc3cd38e9587dcb15d6cdbb3bec
@[go_sem] def Q12_4:=kd 0x190b28d95ff1400ca4f560014bbc3df5531574aa2086ba482b0670ce5e42e8afc45d937d313de45779
def t_Q12:TF:=⟨40,[.t 4],(.seq (.reg Q12_0) (.seq (.seq (.dreg Q12_1) (.cond (.t 18) (.seq (.reg Q12_2) .ret) .skip)) (.seq (.reg Q12_3) (.seq (.dreg Q12_4) .ret))))⟩
/-! (*horarium/horariumkeep.Tape).frame -/
@[go_sem] def Q13_0:=k 0xf324
@[go_sem] def Q13_1:=k 0xbf8ec8863a61257423933c
@[go_sem] def Q13_2:=k 0x5efdeb25b338e156a42ba796c87ed87fd7c
@[go_sem] def Q13_3:=k 0x4dc646b95a7346a17798d392d5f9427650fd3d61dcf1659dbaed3b1ce1bc
@[go_sem] def Q13_4:=k 0x2f3e5ca4ef7ca44330ac542726be10e78b0163cf846b653dcd
@[go_sem] def Q13_5:=k 0x1ae89fc8cd0ed
def t_Q13:TF:=⟨36,[.t 4],(.seq (.reg Q13_0) (.seq (.reg Q13_1) (.seq (.seq (.reg Q13_2) (.seq (.reg Q13_3) (.cond (.t 27) (.seq (.reg Q13_4) .ret) .skip))) (.seq (.reg Q13_5) .ret))))⟩
/-! (*horarium/horariumkeep.Tape).asks -/
@[go_sem] def Q14_0:=k 0x3496bd2c
@[go_sem] def Q14_1:=k 0x12b34
@[go_sem] def Q14_2:=k 0x24211daad40ba6a24
@[go_sem] def Q14_3:=k 0x16943474
@[go_sem] def Q14_4:=k 0x97cc49077545aeea8
@[go_sem] def Q14_5:=k 0x343e65203fc613506ce204b3b1c9b1a3b9c09d
@[go_sem] def Q14_6:=k 0x132073410ae92a17a246b6f098dd
@[go_sem] def Q14_7:=k 0x75d9933c6f6931
def Q14_8:TC:=(.seq (.reg Q14_3) (.seq (.cond (.t 26) .skip (.exit 0)) (.seq (.block 1 (.seq (.reg Q14_4) (.seq (.reg Q14_5) (.reg Q14_6)))) (.reg Q14_7))))
@[go_sem] def Q14_9:=k 0x474006c0be6bb3a935
@[go_sem] def Q14_10:=k 0x95722185
@[go_sem] def Q14_11:=k 0x21e2fafad5d7d
@[go_sem] def Q14_12:=k 0x27b78
@[go_sem] def Q14_13:=k 0x524c0b8b018d
@[go_sem] def Q14_14:=k 0xa73e4dd5
@[go_sem] def Q14_15:=k 0x21bf9841214124a8a09
@[go_sem] def Q14_16:=kd 0x291904464b40d55f026c80bccdf5af293773cc03fa19a878049cb127b0773003b000b58ecb19e993e81902acaaa
@[go_sem] def Q14_17:=k 0x1e83c841b38366eb6d73aef77e8066f7dabece
@[go_sem] def Q14_18:=k 0x27bf4
@[go_sem] def Q14_19:=k 0x2b08e5668f3e5b7c1042ff72e
@[go_sem] def Q14_20:=k 0xe44424668e84f72
def Q14_21:TC:=(.seq (.reg Q14_14) (.seq (.cond (.t 48) .skip (.exit 4)) (.seq (.block 5 (.seq (.reg Q14_15) (.seq (.dreg Q14_16) (.seq (.reg Q14_17) (.cond (.t 70) (.reg Q14_18) (.reg Q14_19)))))) (.reg Q14_20))))
@[go_sem] def Q14_22:=k 0x7ae34db5c39dd895d263bf100e62e3814f37a9a4d76e
@[go_sem] def Q14_23:=kd 0x116ac98eb9da6b10c2e1759ee41da8d516efdfc4ffa94cd99af687c4a6f37bcb0201b10fd3f33f52
@[go_sem] def Q14_24:=k 0x11b64f75fad84092
def Q14_25:TC:=(.seq (.reg Q14_10) (.seq (.cond (.t 43) .skip (.exit 2)) (.seq (.block 3 (.seq (.reg Q14_11) (.seq (.reg Q14_12) (.seq (.seq (.reg Q14_13) (.block 4 (.loop Q14_21))) (.seq (.reg Q14_22) (.cond (.t 81) (.dreg Q14_23) .skip)))))) (.reg Q14_24))))
@[go_sem] def Q14_26:=k 0x18c9c89b4b59ffac698c55e9c4988e
@[go_sem] def Q14_27:=k 0x1d2eed94a5ab5db5079fcbd50ce
@[go_sem] def Q14_28:=k 0x265ea8e24678fe
@[go_sem] def Q14_29:=k 0x3e69c288866684c75fcc7513e
@[go_sem] def Q14_30:=k 0x40d6bf6ca5f79125b1cc8317e
@[go_sem] def Q14_31:=k 0x8aa356c312d4e442e91e
def Q14_32:TC:=(.seq (.seq (.reg Q14_28) (.cond (.t 101) .skip (.exit 6))) (.seq (.block 7 (.seq (.reg Q14_29) (.cond (.t 107) (.seq (.reg Q14_30) (.exit 6)) .skip))) (.reg Q14_31)))
@[go_sem] def Q14_33:=k 0x93e09041183806c79b6
@[go_sem] def Q14_34:=k 0x64a40ca06
@[go_sem] def Q14_35:=k 0x2c8eb0c26109fe
@[go_sem] def Q14_36:=k 0x406fc
@[go_sem] def Q14_37:=k 0x2a717ca11da0e
@[go_sem] def Q14_38:=k 0x690e20a56
@[go_sem] def Q14_39:=k 0xa438f039949a44f64a8a
@[go_sem] def Q14_40:=k 0x6558b5aff09c06893539c9af8284fb61c9d2241cbcbd426f
@[go_sem] def Q14_41:=k 0x18ca903bedbe4c72e3
def Q14_42:TC:=(.seq (.reg Q14_38) (.seq (.cond (.t 120) .skip (.exit 10)) (.seq (.block 11 (.seq (.reg Q14_39) (.reg Q14_40))) (.reg Q14_41))))
@[go_sem] def Q14_43:=k 0xd162dbef67b11cbef1b4987599764ff548758c59190dfecadf
@[go_sem] def Q14_44:=kd 0x2feec64c45b9a7bd2128a81d56442403d819db6ae6694affceeca1de312a0faf2434bebada0d90199ec51e8ab9f80080885000a70ecc867124e279ea08b44cdfa53ee6770dd924f7113b2c00b323
@[go_sem] def Q14_45:=k 0x1d64b5d5df5d11b463
def Q14_46:TC:=(.seq (.reg Q14_34) (.seq (.cond (.t 115) .skip (.exit 8)) (.seq (.block 9 (.seq (.reg Q14_35) (.seq (.reg Q14_36) (.seq (.seq (.reg Q14_37) (.block 10 (.loop Q14_42))) (.seq (.reg Q14_43) (.cond (.t 136) (.dreg Q14_44) .skip)))))) (.reg Q14_45))))
@[go_sem] def Q14_47:=k 0x1a0be6cf361ab4e722c8b
@[go_sem] def Q14_48:=k 0x21ec68974d1a3c0172d497
@[go_sem] def Q14_49:=k 0x8c6dc734e7
@[go_sem] def Q14_50:=k 0xf8ae331a6f78cdf
@[go_sem] def Q14_51:=kd 0x393c1204f38b14ded4a33d3b3bd517e4a01ca49312ba29121ba783ccc05d0fa199674315d7405de8d822f65ee19b2a72903
@[go_sem] def Q14_52:=k 0x213f4faa63a89615a3
def Q14_53:TC:=(.seq (.reg Q14_49) (.seq (.cond (.t 161) .skip (.exit 12)) (.seq (.block 13 (.seq (.reg Q14_50) (.dreg Q14_51))) (.reg Q14_52))))
@[go_sem] def Q14_54:=k 0x6a98a090768dcb
def t_Q14:TF:=⟨175,[.cell 4 3 true],(.seq (.reg Q14_0) (.seq (.reg Q14_1) (.seq (.seq (.reg Q14_2) (.block 0 (.loop Q14_8))) (.seq (.seq (.reg Q14_9) (.block 2 (.loop Q14_25))) (.seq (.reg Q14_26) (.seq (.seq (.reg Q14_27) (.block 6 (.loop Q14_32))) (.seq (.seq (.reg Q14_33) (.block 8 (.loop Q14_46))) (.seq (.seq (.reg Q14_47) (.cond (.t 156) (.seq (.reg Q14_48) (.block 12 (.loop Q14_53))) .skip)) (.seq (.reg Q14_54) .ret)))))))))⟩
/-! horarium/runs.Of -/
@[go_sem] def Q15_0:=k 0x2a8f04
@[go_sem] def Q15_1:=k 0x1b4038a622408b4c
@[go_sem] def Q15_2:=k 0x10e1be66c36c
@[go_sem] def Q15_3:=k 0x117a3db980f338c
@[go_sem] def Q15_4:=k 0x12b34
@[go_sem] def Q15_5:=k 0x28dcbcf6be84639c
@[go_sem] def Q15_6:=k 0xdde410ff512b5cba5b69c6d1d6d2d30499257cc
@[go_sem] def Q15_7:=k 0x101e6973c0c
@[go_sem] def Q15_8:=k 0x1afe0d654c75cc52952a95e62c
def Q15_9:TC:=(.block 1 (.seq (.reg Q15_6) (.seq (.seq (.reg Q15_7) (.cond (.t 22) (.exit 0) .skip)) (.reg Q15_8))))
@[go_sem] def Q15_10:=k 0x4bbb1fb97756c66c
@[go_sem] def Q15_11:=k 0x285f211ee28368c
@[go_sem] def Q15_12:=k 0x126d2a704
@[go_sem] def Q15_13:=k 0x13f3d4418428bd
def t_Q15:TF:=⟨33,[.t 2,.t 3],(.seq (.reg Q15_0) (.seq (.seq (.reg Q15_1) (.seq (.reg Q15_2) (.cond (.t 12) (.seq (.reg Q15_3) .ret) .skip))) (.seq (.reg Q15_4) (.seq (.reg Q15_5) (.seq (.block 0 (.loop Q15_9)) (.seq (.seq (.reg Q15_10) (.seq (.reg Q15_11) (.cond (.t 31) (.seq (.reg Q15_12) .ret) .skip))) (.seq (.reg Q15_13) .ret)))))))⟩
/-! horarium/bound.Holds -/
@[go_sem] def Q16_0:=k 0x3538f1031c
@[go_sem] def Q16_1:=k 0x221ce3061fe508764
@[go_sem] def Q16_2:=k 0xbba7bb4
@[go_sem] def Q16_3:=k 0x3d6f4b2116736b9693638
@[go_sem] def Q16_4:=k 0x2330e31d7fbecf2e3f24f1a62932c4de720dcc
@[go_sem] def Q16_5:=k 0x12fa093f5a356f12f84d6cafed460780e7e28d3c42caa73b9e25308ac814e83a6aa9de3435
@[go_sem] def Q16_6:=k 0x861908
@[go_sem] def Q16_7:=k 0x6f22be8662f911
def Q16_8:TC:=(.seq (.reg Q16_2) (.seq (.cond (.t 14) .skip (.exit 0)) (.seq (.block 1 (.seq (.reg Q16_3) (.seq (.reg Q16_4) (.seq (.reg Q16_5) (.cond (.t 35) (.seq (.reg Q16_6) .ret) .skip))))) (.reg Q16_7))))
@[go_sem] def Q16_9:=k 0x46e9fd132e66243515
@[go_sem] def Q16_10:=k 0x8e53a965
@[go_sem] def Q16_11:=k 0x461ba121b1b08e0d737ece171dc03e55d
@[go_sem] def Q16_12:=kd 0x28d4832edc653e86b7712c9aab3dbf353f6c90bea0b16d4c653712d66997023ddf7bf09787e1
@[go_sem] def Q16_13:=k 0x8d1b08
@[go_sem] def Q16_14:=k 0xb3f4c18002ca71
def Q16_15:TC:=(.seq (.reg Q16_10) (.seq (.cond (.t 41) .skip (.exit 2)) (.seq (.block 3 (.seq (.reg Q16_11) (.seq (.dreg Q16_12) (.cond (.t 57) (.seq (.reg Q16_13) .ret) .skip)))) (.reg Q16_14))))
@[go_sem] def Q16_16:=k 0xf308
def t_Q16:TF:=⟨59,[.t 4],(.seq (.reg Q16_0) (.seq (.seq (.reg Q16_1) (.block 0 (.loop Q16_8))) (.seq (.seq (.reg Q16_9) (.block 2 (.loop Q16_15))) (.seq (.reg Q16_16) .ret))))⟩
/-! horarium/reduce.Runs -/
@[go_sem] def Q17_0:=k 0x96a7fd2c31c
@[go_sem] def Q17_1:=k 0x20cbd6d955ab3d6c
@[go_sem] def Q17_2:=k 0x19e64
@[go_sem] def Q17_3:=k 0x1d348
@[go_sem] def Q17_4:=k 0x660b928849c67a40ea7e58a17b1a8ce0287f04fdda21bc
@[go_sem] def Q17_5:=k 0x10e2da6781c
@[go_sem] def Q17_6:=k 0x75c3f878199872b8203c
@[go_sem] def Q17_7:=k 0x283487d6965c
@[go_sem] def Q17_8:=k 0x4caeea192ebddfb8c
def Q17_9:TC:=(.seq (.block 1 (.seq (.reg Q17_4) (.seq (.seq (.reg Q17_5) (.cond (.t 23) (.seq (.reg Q17_6) .ret) .skip)) (.reg Q17_7)))) (.reg Q17_8))
def t_Q17:TF:=⟨27,[.t 4,.t 5],(.seq (.reg Q17_0) (.seq (.reg Q17_1) (.seq (.reg Q17_2) (.seq (.reg Q17_3) (.block 0 (.loop Q17_9))))))⟩
/-! horarium/fold.Table -/
@[go_sem] def Q18_0:=k 0x8304
@[go_sem] def Q18_1:=k 0x96b2d21b25e31c
@[go_sem] def Q18_2:=k 0x8304
@[go_sem] def Q18_3:=k 0x1b2ab6414e5f8b4c
@[go_sem] def Q18_4:=k 0xe37acff778b53518b9b7dbdac1f77416c
@[go_sem] def Q18_5:=k 0x5b6a54b00a4001bc4
@[go_sem] def Q18_6:=k 0x35f832e7298b81ec
@[go_sem] def Q18_7:=kd 0x46fed39c0aedaf5ca1abb590bd9663a88f060a9c25a3ee1dea78d8f41d83f36a62be02b11ba38c0a62204cb2845ab61
@[go_sem] def Q18_8:=kd 0x1466c56756970b80ad64709b9f478e826721f7d3dc76a53f66d0f1c9d1a706e5fa50384b369020f517bfea2a4577ecda1093afa109
def Q18_9:TC:=(.block 1 (.seq (.reg Q18_4) (.seq (.seq (.reg Q18_5) (.cond (.t 18) (.seq (.reg Q18_6) .ret) .skip)) (.seq (.dreg Q18_7) (.dreg Q18_8)))))
def t_Q18:TF:=⟨55,[.t 2],(.seq (.reg Q18_0) (.seq (.seq (.reg Q18_1) (.cond (.t 8) (.seq (.reg Q18_2) .ret) .skip)) (.seq (.reg Q18_3) (.block 0 (.loop Q18_9)))))⟩
/-! horarium/node.Right -/
@[go_sem] def Q19_0:=k 0x82e8
@[go_sem] def Q19_1:=k 0x38ff4995ec151d760011574ebbecf9d631c
@[go_sem] def Q19_2:=k 0x3ec1b8137abab90f3b6c
@[go_sem] def Q19_3:=k 0x1588e8
@[go_sem] def Q19_4:=k 0x522fed64317e38ca9bac
@[go_sem] def Q19_5:=k 0x549ae8
@[go_sem] def Q19_6:=k 0xcb3c4580523224e2d7bec
@[go_sem] def Q19_7:=k 0x629ee8
@[go_sem] def Q19_8:=k 0x426795a1355da42c
@[go_sem] def Q19_9:=k 0x7ea6e8
@[go_sem] def Q19_10:=k 0x82e8
def t_Q19:TF:=⟨25,[.t 2],(.seq (.reg Q19_0) (.seq (.reg Q19_1) (.seq (.block 0 (.seq (.reg Q19_2) (.cond (.t 10) (.seq (.reg Q19_3) .ret) (.seq (.reg Q19_4) (.cond (.t 14) (.seq (.reg Q19_5) .ret) (.seq (.reg Q19_6) (.cond (.t 18) (.seq (.reg Q19_7) .ret) (.seq (.reg Q19_8) (.cond (.t 22) (.seq (.reg Q19_9) .ret) .skip))))))))) (.seq (.reg Q19_10) .ret))))⟩
/-! slices.Clone[[]horarium/api.Node,horarium/api.Node] -/
@[go_sem] def Q20_0:=k 0x8304
@[go_sem] def Q20_1:=k 0x254523baec
@[go_sem] def Q20_2:=k 0x8304
@[go_sem] def Q20_3:=k 0x21510a2275e6b5ef3304
def t_Q20:TF:=⟨8,[.t 2],(.seq (.reg Q20_0) (.seq (.seq (.reg Q20_1) (.cond (.t 4) (.seq (.reg Q20_2) .ret) .skip)) (.seq (.reg Q20_3) .ret)))⟩
/-! horarium/horariumref3.Right -/
@[go_sem] def Q21_0:=k 0x82e8
@[go_sem] def Q21_1:=k 0x81d1841c07eb0c
@[go_sem] def Q21_2:=k 0x1588e8
@[go_sem] def Q21_3:=k 0x1832c4b59f62533c
@[go_sem] def Q21_4:=k 0x549ae8
@[go_sem] def Q21_5:=k 0x219be3912de5fb6c
@[go_sem] def Q21_6:=k 0x629ee8
@[go_sem] def Q21_7:=k 0x71fd3b6b77d0a20f093ebdbaced24e8dbac
@[go_sem] def Q21_8:=k 0xe95878c3ec
@[go_sem] def Q21_9:=k 0x7ea6e8
@[go_sem] def Q21_10:=k 0x82e8
def t_Q21:TF:=⟨21,[.t 2],(.seq (.reg Q21_0) (.seq (.seq (.reg Q21_1) (.cond (.t 7) (.seq (.reg Q21_2) .ret) .skip)) (.seq (.seq (.reg Q21_3) (.cond (.t 10) (.seq (.reg Q21_4) .ret) .skip)) (.seq (.seq (.reg Q21_5) (.cond (.t 13) (.seq (.reg Q21_6) .ret) .skip)) (.seq (.seq (.reg Q21_7) (.seq (.reg Q21_8) (.cond (.t 20) (.seq (.reg Q21_9) .ret) .skip))) (.seq (.reg Q21_10) .ret))))))⟩
/-! horarium/horariumref3.Tidy -/
@[go_sem] def Q22_0:=k 0x8304
@[go_sem] def Q22_1:=k 0xbb14
@[go_sem] def Q22_2:=k 0x98b37ea5b2c
@[go_sem] def Q22_3:=k 0x81c9374
@[go_sem] def Q22_4:=k 0x32d5fbe69bdde1c9b4db4
@[go_sem] def Q22_5:=k 0x262c7041ba26b18c
@[go_sem] def Q22_6:=k 0x5634cf6a9e706a5b4
@[go_sem] def Q22_7:=kd 0x22ee248c44466cadb6af8633c7da64f59235a4273fa92fa75c17fd40acc79b88e85f8
@[go_sem] def Q22_8:=kd 0x21713179def43c7844adfdab749212a8fca610adbd3471fd4c527a18dcc8a86b56266111aed604b5d28c0e9
@[go_sem] def Q22_9:=k 0x18c8c0f0057d1edb4ba9d0e2f98d
@[go_sem] def Q22_10:=k 0x96d865b461d1e1
def Q22_11:TC:=(.seq (.reg Q22_3) (.seq (.cond (.t 10) .skip (.exit 0)) (.seq (.block 1 (.seq (.reg Q22_4) (.seq (.reg Q22_5) (.seq (.seq (.reg Q22_6) (.cond (.t 17) (.exit 1) .skip)) (.seq (.dreg Q22_7) (.cond (.t 30) (.dreg Q22_8) (.reg Q22_9))))))) (.reg Q22_10))))
@[go_sem] def Q22_12:=k 0x26650d36c11dd
def t_Q22:TF:=⟨51,[.t 2],(.seq (.reg Q22_0) (.seq (.reg Q22_1) (.seq (.seq (.reg Q22_2) (.block 0 (.loop Q22_11))) (.seq (.reg Q22_12) .ret))))⟩
/-! horarium/horariumref3.Leaves -/
@[go_sem] def Q23_0:=k 0x8304
@[go_sem] def Q23_1:=k 0x15e6cf42a3c377aec
def t_Q23:TF:=⟨5,[.t 2],(.seq (.reg Q23_0) (.seq (.reg Q23_1) .ret))⟩
/-! horarium/horariumref3.Sum -/
@[go_sem] def Q24_0:=k 0xf308
@[go_sem] def Q24_1:=k 0x1ceb42ee9bf9a809e27315ccb77ab0c
@[go_sem] def Q24_2:=k 0x2c03dc610f207ee3cb4c
@[go_sem] def Q24_3:=k 0xf4fc
@[go_sem] def Q24_4:=k 0x8e96b6385d84e2324ab8c
def t_Q24:TF:=⟨16,[.t 4],(.seq (.reg Q24_0) (.seq (.reg Q24_1) (.seq (.seq (.reg Q24_2) (.cond (.t 12) (.seq (.reg Q24_3) .ret) .skip)) (.seq (.reg Q24_4) .ret))))⟩
/-! horarium/horariumref7.Late -/
@[go_sem] def Q25_0:=k 0x16328
@[go_sem] def Q25_1:=k 0x2e52d8c46d1493bc
@[go_sem] def Q25_2:=k 0x8716af9348
@[go_sem] def Q25_3:=k 0xa124528d1dc
@[go_sem] def Q25_4:=k 0x120ed224
@[go_sem] def Q25_5:=k 0x7dc061f093f358c58
@[go_sem] def Q25_6:=k 0x57b81f224b6a3b424439dab2676ca791f24dd8d785fb620edff8ebb289a210bad60d066783d
@[go_sem] def Q25_7:=k 0x6f78afa5e9f911
def Q25_8:TC:=(.seq (.reg Q25_4) (.seq (.cond (.t 21) .skip (.exit 0)) (.seq (.block 1 (.seq (.reg Q25_5) (.reg Q25_6))) (.reg Q25_7))))
@[go_sem] def Q25_9:=k 0x7195a3e550d
@[go_sem] def Q25_10:=k 0x16328
@[go_sem] def Q25_11:=k 0x77b9238c12d
@[go_sem] def Q25_12:=k 0x163a4
@[go_sem] def Q25_13:=k 0x51879b96294d
@[go_sem] def Q25_14:=k 0x99015d95
@[go_sem] def Q25_15:=k 0x183df8ca40839cb8828e1f22998d
@[go_sem] def Q25_16:=k 0x831d7b3591655cdbd
@[go_sem] def Q25_17:=k 0xa5db8
@[go_sem] def Q25_18:=k 0xdf7ab3d867288965b4cb0e42963e29a70e6cc7ef457fea5b1b62459ed
@[go_sem] def Q25_19:=k 0x2a81f206a1e36ebe29d
def Q25_20:TC:=(.seq (.seq (.reg Q25_18) (.cond (.t 61) .skip (.exit 4))) (.block 5 (.reg Q25_19)))
@[go_sem] def Q25_21:=k 0x26e63a7bc46788ee493ea56be
@[go_sem] def Q25_22:=k 0xceaf54a10d6c702
def Q25_23:TC:=(.seq (.reg Q25_14) (.seq (.cond (.t 44) .skip (.exit 2)) (.seq (.block 3 (.seq (.reg Q25_15) (.seq (.seq (.reg Q25_16) (.cond (.t 50) (.exit 3) .skip)) (.seq (.reg Q25_17) (.seq (.block 4 (.loop Q25_20)) (.reg Q25_21)))))) (.reg Q25_22))))
@[go_sem] def Q25_24:=k 0x1a1bbe660b36fe
def t_Q25:TF:=⟨69,[.t 6],(.seq (.reg Q25_0) (.seq (.reg Q25_1) (.seq (.reg Q25_2) (.seq (.seq (.reg Q25_3) (.block 0 (.loop Q25_8))) (.seq (.seq (.reg Q25_9) (.cond (.t 38) (.seq (.reg Q25_10) .ret) .skip)) (.seq (.seq (.reg Q25_11) (.cond (.t 40) (.seq (.reg Q25_12) .ret) .skip)) (.seq (.seq (.reg Q25_13) (.block 2 (.loop Q25_23))) (.seq (.reg Q25_24) .ret))))))))⟩
/-! horarium/horariumref7.Budget -/
@[go_sem] def Q26_0:=k 0x16328
@[go_sem] def Q26_1:=k 0x2641f2a76810eb8c
@[go_sem] def Q26_2:=k 0x39405080acd8626750613947d19b6571187bde96fa03cccffaf9766c036c87083d69fac
@[go_sem] def Q26_3:=k 0x163a4
@[go_sem] def Q26_4:=k 0xa2b880a40edb7708c
@[go_sem] def Q26_5:=k 0x20b58
@[go_sem] def Q26_6:=k 0x128e77d4cd3296562400ad
@[go_sem] def Q26_7:=k 0x24368
@[go_sem] def Q26_8:=k 0x2a3fc4e6f9e1b1b661687aae2de5a942e11811d
@[go_sem] def Q26_9:=k 0xa01fd5b5
@[go_sem] def Q26_10:=k 0x2064c19ee85092c11e9
@[go_sem] def Q26_11:=k 0x85d882ecc1239fdcd
@[go_sem] def Q26_12:=k 0x23bbc0db8532ca39dfd
@[go_sem] def Q26_13:=k 0xa7eb239686ea31
def Q26_14:TC:=(.seq (.reg Q26_9) (.seq (.cond (.t 46) .skip (.exit 2)) (.seq (.block 3 (.seq (.reg Q26_10) (.seq (.reg Q26_11) (.cond (.t 51) (.reg Q26_12) .skip)))) (.reg Q26_13))))
@[go_sem] def Q26_15:=k 0x868dc3eb3ca15194d273e2d
@[go_sem] def Q26_16:=k 0x577c8074d7f2c39e710e0ed
def Q26_17:TC:=(.seq (.seq (.reg Q26_6) (.cond (.t 34) .skip (.exit 0))) (.seq (.block 1 (.seq (.reg Q26_7) (.seq (.seq (.reg Q26_8) (.block 2 (.loop Q26_14))) (.reg Q26_15)))) (.reg Q26_16)))
@[go_sem] def Q26_18:=k 0x2c94d4bc3e65d
def t_Q26:TF:=⟨59,[.t 6],(.seq (.reg Q26_0) (.seq (.reg Q26_1) (.seq (.seq (.reg Q26_2) (.cond (.t 28) (.seq (.reg Q26_3) .ret) .skip)) (.seq (.reg Q26_4) (.seq (.seq (.reg Q26_5) (.block 0 (.loop Q26_17))) (.seq (.reg Q26_18) .ret))))))⟩
/-! horarium/reduce.Merge -/
@[go_sem] def Q27_0:=k 0x1116e072c31c
@[go_sem] def Q27_1:=k 0x1faa3248d6a4d3f544934f37e6594de51c
def t_Q27:TF:=⟨11,[.t 4,.t 5],(.seq (.reg Q27_0) (.seq (.reg Q27_1) .ret))⟩
/-! horarium/reduce.Passes -/
@[go_sem] def Q28_0:=k 0x12e4
@[go_sem] def Q28_1:=k 0x71719599e3c9074234
def t_Q28:TF:=⟨4,[.t 0],(.seq (.reg Q28_0) (.seq (.reg Q28_1) .ret))⟩
/-! (horarium/reduce.rows).draw -/
@[go_sem] def Q29_0:=k 0x871875fd2c
@[go_sem] def Q29_1:=k 0x68b431d815658d76e1ee8533c
@[go_sem] def Q29_2:=k 0xbba7bb4
@[go_sem] def Q29_3:=k 0x46db32ea81097e8513608
@[go_sem] def Q29_4:=k 0xa5a0f68aa1a4e27f991f8
@[go_sem] def Q29_5:=k 0x2ff4a398c2a097f092f2c0c
@[go_sem] def Q29_6:=k 0x4af1716879650
def Q29_7:TC:=(.seq (.reg Q29_2) (.seq (.cond (.t 14) .skip (.exit 0)) (.seq (.block 1 (.seq (.reg Q29_3) (.seq (.reg Q29_4) (.cond (.t 20) (.seq (.reg Q29_5) .ret) .skip)))) (.reg Q29_6))))
@[go_sem] def Q29_8:=k 0x3f8ae6b0196b54c4c
def t_Q29:TF:=⟨27,[.t 4,.t 5],(.seq (.reg Q29_0) (.seq (.seq (.reg Q29_1) (.block 0 (.loop Q29_7))) (.seq (.reg Q29_8) .ret)))⟩
/-! slices.ContainsFunc[[]horarium/move.Move,horarium/move.Move] -/
@[go_sem] def Q30_0:=k 0xf31c
@[go_sem] def Q30_1:=k 0x10c8c91e78be47396bc38a2eb0c
def t_Q30:TF:=⟨9,[.t 4],(.seq (.reg Q30_0) (.seq (.reg Q30_1) .ret))⟩
/-! horarium/move.All -/
@[go_sem] def Q31_0:=k 0xf324
@[go_sem] def Q31_1:=k 0x12b34
@[go_sem] def Q31_2:=k 0x9a3c5eccb4c
@[go_sem] def Q31_3:=k 0x9eb8794
@[go_sem] def Q31_4:=k 0x14412641c18c
@[go_sem] def Q31_5:=k 0x51e47eb75bbf02f9c
@[go_sem] def Q31_6:=k 0x4e044b7264e47c3561bc
@[go_sem] def Q31_7:=k 0x90c496e37ff0e9acf1b76b01c
@[go_sem] def Q31_8:=k 0xf36ca2486da51cf674c4c
@[go_sem] def Q31_9:=k 0x30a6eb17f7620cde64ce1abee347df9ee2f92c7a808d
@[go_sem] def Q31_10:=k 0x7228172b6fcb881fc
def Q31_11:TC:=(.seq (.seq (.reg Q31_6) (.cond (.t 19) .skip (.exit 2))) (.seq (.block 3 (.seq (.reg Q31_7) (.seq (.reg Q31_8) (.cond (.t 28) (.reg Q31_9) .skip)))) (.reg Q31_10)))
@[go_sem] def Q31_12:=k 0x6f0a307d60f911
def Q31_13:TC:=(.seq (.reg Q31_3) (.seq (.cond (.t 12) .skip (.exit 0)) (.seq (.block 1 (.seq (.reg Q31_4) (.seq (.reg Q31_5) (.block 2 (.loop Q31_11))))) (.reg Q31_12))))
@[go_sem] def Q31_14:=k 0x1c717fe8d410d
def t_Q31:TF:=⟨38,[.t 4],(.seq (.reg Q31_0) (.seq (.reg Q31_1) (.seq (.seq (.reg Q31_2) (.block 0 (.loop Q31_13))) (.seq (.reg Q31_14) .ret))))⟩
/-! horarium/graph.Depends -/
@[go_sem] def Q32_0:=k 0xb638b0c
@[go_sem] def Q32_1:=k 0xb745ff98d46e7670c1d28d544
@[go_sem] def Q32_2:=k 0x9c89b05797c
@[go_sem] def Q32_3:=k 0xca1f5c4
@[go_sem] def Q32_4:=k 0x18c338b56fbc
@[go_sem] def Q32_5:=k 0xa05fe0b91cc
@[go_sem] def Q32_6:=k 0x11275814
@[go_sem] def Q32_7:=k 0x207be07a920c
@[go_sem] def Q32_8:=kd 0x2099daf1f59e3d6b5aa2c29745a801db54f443346dd92044e5107082b6865f2eb04df2b9a581a2aae717808d51aa8602aad8745a571d0245905f718fba44627af66a52b99da8370b9
@[go_sem] def Q32_9:=k 0x912fab616b61c1
def Q32_10:TC:=(.seq (.reg Q32_6) (.seq (.cond (.t 20) .skip (.exit 2)) (.seq (.block 3 (.seq (.reg Q32_7) (.dreg Q32_8))) (.reg Q32_9))))
@[go_sem] def Q32_11:=k 0x9404088ae699d1
def Q32_12:TC:=(.seq (.reg Q32_3) (.seq (.cond (.t 15) .skip (.exit 0)) (.seq (.block 1 (.seq (.reg Q32_4) (.seq (.reg Q32_5) (.block 2 (.loop Q32_10))))) (.reg Q32_11))))
@[go_sem] def Q32_13:=k 0x48ee37248e7599d1d5
@[go_sem] def Q32_14:=k 0xb90a7a25
@[go_sem] def Q32_15:=k 0x12890fa9e83e2e9d456b6a9
@[go_sem] def Q32_16:=k 0x4060e0e8fb79e657da8b0bfd674390fa66fe16a932a385d568ff56ac5e6a
@[go_sem] def Q32_17:=kd 0x31229304a6a6b70558750385dc48b0dee650ad244efb27df55b91a587d9da31abc82a4832014ea731f1a21c342ce3d176418670e651a7f5b8afa
@[go_sem] def Q32_18:=k 0xfcf0d7ed6fe0ff2
def Q32_19:TC:=(.seq (.reg Q32_14) (.seq (.cond (.t 53) .skip (.exit 4)) (.seq (.block 5 (.seq (.reg Q32_15) (.seq (.reg Q32_16) (.cond (.t 65) (.dreg Q32_17) .skip)))) (.reg Q32_18))))
@[go_sem] def Q32_20:=k 0x1fd9f51d4257ee
def t_Q32:TF:=⟨84,[.t 2],(.seq (.reg Q32_0) (.seq (.reg Q32_1) (.seq (.seq (.reg Q32_2) (.block 0 (.loop Q32_12))) (.seq (.seq (.reg Q32_13) (.block 4 (.loop Q32_19))) (.seq (.reg Q32_20) .ret)))))⟩
/-! horarium/reduce.Stuck$1 -/
@[go_sem] def Q33_0:=k 0x9a37b2c
@[go_sem] def Q33_1:=k 0x10c8c90d7553d11fa6eb4cb2d38
def t_Q33:TF:=⟨9,[.t 4],(.seq (.reg Q33_0) (.seq (.reg Q33_1) .ret))⟩
/-! horarium/move.Fits -/
@[go_sem] def Q34_0:=k 0x21f8777957b2c
@[go_sem] def Q34_1:=kd 0x383205e5630c1d3dc05228ea658430b2a482051bab9263055081adee0b37a04ee7bc71268
def t_Q34:TF:=⟨20,[.t 6],(.seq (.reg Q34_0) (.seq (.dreg Q34_1) .ret))⟩
/-! horarium/word.Same -/
@[go_sem] def Q35_0:=k 0x1633c
@[go_sem] def Q35_1:=k 0xfd8dedb2a3261c88814ad130bee6f6f568f06c9218d4aafb043b6c
@[go_sem] def Q35_2:=k 0x339defc77a7a95dc
def t_Q35:TF:=⟨20,[.t 6],(.seq (.reg Q35_0) (.seq (.reg Q35_1) (.seq (.reg Q35_2) .ret)))⟩
/-! horarium/runs.Right -/
@[go_sem] def Q36_0:=k 0x82fc
@[go_sem] def Q36_1:=k 0xbaf8
@[go_sem] def Q36_2:=k 0x97ef0e9231c
@[go_sem] def Q36_3:=k 0x7351964
@[go_sem] def Q36_4:=k 0x328a9e01d4c4d3b93d3a4
@[go_sem] def Q36_5:=k 0x3400fe6124f7d0312359bb74772875574253330ccad73a31789e536002a01c946a5fd84
@[go_sem] def Q36_6:=k 0x82fc
@[go_sem] def Q36_7:=k 0x3c0b905f99d61083af807a10a5c
@[go_sem] def Q36_8:=k 0x5ce12c987a6b0
def Q36_9:TC:=(.seq (.reg Q36_3) (.seq (.cond (.t 9) .skip (.exit 0)) (.seq (.block 1 (.seq (.reg Q36_4) (.seq (.seq (.reg Q36_5) (.cond (.t 25) (.seq (.reg Q36_6) .ret) .skip)) (.reg Q36_7)))) (.reg Q36_8))))
@[go_sem] def Q36_10:=k 0x784480658a9fab2f7e341067c3a01e53736f323145dcf8fe1da7a5c81fe7a9509dcad
def t_Q36:TF:=⟨43,[.t 2],(.seq (.reg Q36_0) (.seq (.reg Q36_1) (.seq (.seq (.reg Q36_2) (.block 0 (.loop Q36_9))) (.seq (.reg Q36_10) .ret))))⟩
/-! horarium/horariumref12.Right -/
@[go_sem] def Q37_0:=k 0x541cb0c
@[go_sem] def Q37_1:=k 0x38ff4995ec151d760011574ebbedda86548
@[go_sem] def Q37_2:=k 0xf7569a5095c
def t_Q37:TF:=⟨11,[.t 2],(.seq (.reg Q37_0) (.seq (.reg Q37_1) (.seq (.reg Q37_2) .ret)))⟩
/-! horarium/cursor.New -/
@[go_sem] def Q38_0:=k 0x84fc
@[go_sem] def Q38_1:=k 0xd71b21e9b7a72fc
@[go_sem] def Q38_2:=k 0x84fc
@[go_sem] def Q38_3:=k 0x53625faf9efc16e7c1a3db2c
@[go_sem] def Q38_4:=k 0x87da1d016c
@[go_sem] def Q38_5:=k 0x14100a05b18c
def t_Q38:TF:=⟨14,[.t 2],(.seq (.reg Q38_0) (.seq (.seq (.reg Q38_1) (.cond (.t 6) (.seq (.reg Q38_2) .ret) .skip)) (.seq (.reg Q38_3) (.seq (.reg Q38_4) (.seq (.reg Q38_5) .ret)))))⟩
/-! (*horarium/cursor.Cursor).Next -/
@[go_sem] def Q39_0:=k 0x4d9950
@[go_sem] def Q39_1:=kd 0x14e5764642836395056158dbc8f35d86b508fbaffb42c04708
@[go_sem] def Q39_2:=k 0x47c3a70a01c54c
@[go_sem] def Q39_3:=kd 0x1ec91ecaeda8d44112b72af0b8126aac413554097664980c922f339206e87c68f36d7e7fdea33da6126d2a433e772bf049cc47fdd1b6bf3a376888816aea7c1f20065ef488b0bd39bce14c9d8c99
@[go_sem] def Q39_4:=kd 0x13287c8bfe18621af956713bbf987ec5c630a6ebc63c1ff03a05696f7d9
@[go_sem] def Q39_5:=k 0xa2e0b4cae0d
@[go_sem] def Q39_6:=k 0x8fe036f431172e8d
def t_Q39:TF:=⟨56,[.cell 2 2 true,.t 3],(.seq (.reg Q39_0) (.seq (.seq (.dreg Q39_1) (.cond (.t 14) (.seq (.reg Q39_2) .ret) .skip)) (.seq (.dreg Q39_3) (.seq (.dreg Q39_4) (.seq (.reg Q39_5) (.seq (.reg Q39_6) .ret))))))⟩
/-! horarium/runs.Tidy -/
@[go_sem] def Q40_0:=k 0x8304
@[go_sem] def Q40_1:=k 0xbb14
@[go_sem] def Q40_2:=k 0x98b37ea5b2c
@[go_sem] def Q40_3:=k 0x81c9374
@[go_sem] def Q40_4:=k 0x32d5fbe69bdde1c9b4db4
@[go_sem] def Q40_5:=k 0x262c7041ba26b18c
@[go_sem] def Q40_6:=k 0x1a9e6c029a6462047a7be04
@[go_sem] def Q40_7:=kd 0x6a71e42b6a6bdb13f02055675d5b1682f3c67aca1cd02fcc5befda0789a701ce487fc689e8796a19
@[go_sem] def Q40_8:=kd 0x26012b9dca00aa44f08ed7d55c819bb5dd77aec57ae95765a0e92190b5d6defbb6133ff12807c4d5eb1a109
@[go_sem] def Q40_9:=k 0x12acec099bf0999b10988421ac
@[go_sem] def Q40_10:=k 0x9cfbe634624201
def Q40_11:TC:=(.seq (.reg Q40_3) (.seq (.cond (.t 10) .skip (.exit 0)) (.seq (.block 1 (.seq (.reg Q40_4) (.seq (.reg Q40_5) (.block 2 (.seq (.reg Q40_6) (.cond (.t 19) .skip (.seq (.dreg Q40_7) (.cond (.t 23) (.dreg Q40_8) (.reg Q40_9))))))))) (.reg Q40_10))))
@[go_sem] def Q40_12:=k 0x8e98f9d93a9f381fd
def t_Q40:TF:=⟨54,[.t 2],(.seq (.reg Q40_0) (.seq (.reg Q40_1) (.seq (.seq (.reg Q40_2) (.block 0 (.loop Q40_11))) (.seq (.reg Q40_12) .ret))))⟩
/-! horarium/bound.Late -/
@[go_sem] def Q41_0:=k 0x16328
@[go_sem] def Q41_1:=k 0xdde44de10a2a4435329074942d807b6ce251bac
@[go_sem] def Q41_2:=k 0xe8619564d239811edb21c
@[go_sem] def Q41_3:=k 0x16328
@[go_sem] def Q41_4:=k 0x10f3e000781a896df9945c
@[go_sem] def Q41_5:=k 0x163a4
@[go_sem] def Q41_6:=k 0x5171c2b760266c8c
@[go_sem] def Q41_7:=k 0x24368
@[go_sem] def Q41_8:=k 0x4f9c836bf8ad
@[go_sem] def Q41_9:=k 0x756904f5
@[go_sem] def Q41_10:=k 0x1d9cb91ab1a33cc38354135
@[go_sem] def Q41_11:=k 0xa899c228721a4969cb6e262a22573d53e6b05d15
@[go_sem] def Q41_12:=k 0x9c9099a5
@[go_sem] def Q41_13:=k 0x1fbe0f0d700049cd5d9
@[go_sem] def Q41_14:=k 0x43021c480019a2026fe44cd5f46e244a6d1b5546512639bdbd
@[go_sem] def Q41_15:=k 0xae025d12065a51
def Q41_16:TC:=(.seq (.reg Q41_12) (.seq (.cond (.t 45) .skip (.exit 3)) (.seq (.block 4 (.seq (.reg Q41_13) (.reg Q41_14))) (.reg Q41_15))))
@[go_sem] def Q41_17:=k 0xb08d10207b9261
def Q41_18:TC:=(.seq (.reg Q41_9) (.seq (.cond (.t 34) .skip (.exit 1)) (.seq (.block 2 (.seq (.reg Q41_10) (.seq (.reg Q41_11) (.block 3 (.loop Q41_16))))) (.reg Q41_17))))
@[go_sem] def Q41_19:=k 0x2c94d4bdfee5d
def t_Q41:TF:=⟨59,[.t 6],(.seq (.reg Q41_0) (.seq (.reg Q41_1) (.seq (.block 0 (.seq (.reg Q41_2) (.cond (.t 21) (.seq (.reg Q41_3) .ret) (.seq (.reg Q41_4) (.cond (.t 25) (.seq (.reg Q41_5) .ret) .skip))))) (.seq (.reg Q41_6) (.seq (.reg Q41_7) (.seq (.seq (.reg Q41_8) (.block 1 (.loop Q41_18))) (.seq (.reg Q41_19) .ret)))))))⟩
/-! horarium/bound.Budget -/
@[go_sem] def Q42_0:=k 0x16328
@[go_sem] def Q42_1:=k 0x28f23f5bc614239c
@[go_sem] def Q42_2:=k 0x12a089da27270fc11c363920efd483383dbf071fcc802321142dbf973f6d7bc
@[go_sem] def Q42_3:=k 0x163a4
@[go_sem] def Q42_4:=k 0x11d143d5a143fbe4a7f47c
@[go_sem] def Q42_5:=k 0x3005bd49a0ac
@[go_sem] def Q42_6:=k 0x24368
@[go_sem] def Q42_7:=k 0x576c838615c323cbd
@[go_sem] def Q42_8:=k 0x27b78
@[go_sem] def Q42_9:=k 0x50f44797851d
@[go_sem] def Q42_10:=k 0x8e53a965
@[go_sem] def Q42_11:=k 0x20399a6bc819b3e581fe5a5
@[go_sem] def Q42_12:=k 0x1f6195a9ff0d24e91aed7b49bd71731c79d42493b404328ccc8c164f39e42bfbf3d758a99337f5ce17d
@[go_sem] def Q42_13:=k 0xb3f4c18002ca71
def Q42_14:TC:=(.seq (.reg Q42_10) (.seq (.cond (.t 41) .skip (.exit 2)) (.seq (.block 3 (.seq (.reg Q42_11) (.reg Q42_12))) (.reg Q42_13))))
@[go_sem] def Q42_15:=k 0x9002ec4ba1c8cf6793a226d
@[go_sem] def Q42_16:=k 0x5785ec3170d2d39e71ee4ed
def Q42_17:TC:=(.seq (.seq (.reg Q42_7) (.cond (.t 34) .skip (.exit 0))) (.seq (.block 1 (.seq (.reg Q42_8) (.seq (.seq (.reg Q42_9) (.block 2 (.loop Q42_14))) (.reg Q42_15)))) (.reg Q42_16)))
@[go_sem] def Q42_18:=k 0x2fa694fd2ca9d
def t_Q42:TF:=⟨63,[.t 6],(.seq (.reg Q42_0) (.seq (.reg Q42_1) (.seq (.seq (.reg Q42_2) (.cond (.t 27) (.seq (.reg Q42_3) .ret) .skip)) (.seq (.reg Q42_4) (.seq (.reg Q42_5) (.seq (.seq (.reg Q42_6) (.block 0 (.loop Q42_17))) (.seq (.reg Q42_18) .ret)))))))⟩
/-! slices.Clone[[]horarium/api.Run,horarium/api.Run] -/
@[go_sem] def Q43_0:=k 0x8304
@[go_sem] def Q43_1:=k 0x254523baec
@[go_sem] def Q43_2:=k 0x8304
@[go_sem] def Q43_3:=k 0x21510a2274c00dd73304
def t_Q43:TF:=⟨8,[.t 2],(.seq (.reg Q43_0) (.seq (.seq (.reg Q43_1) (.cond (.t 4) (.seq (.reg Q43_2) .ret) .skip)) (.seq (.reg Q43_3) .ret)))⟩
/-! horarium/reduce.step -/
@[go_sem] def Q44_0:=k 0x1116e072c31c
@[go_sem] def Q44_1:=k 0x4d8069a328
@[go_sem] def Q44_2:=k 0xad301a4
@[go_sem] def Q44_3:=k 0x51e47eb69e6f9bbd8
@[go_sem] def Q44_4:=k 0x6ae780a5c920a9a9e88721d64d1c939f5a4792fb5a59cc
@[go_sem] def Q44_5:=k 0x13b09931cb21a0d763c4caea77cfe8f1bee2c
@[go_sem] def Q44_6:=k 0x7daa01a4e749c
@[go_sem] def Q44_7:=k 0x605525188dec0
def Q44_8:TC:=(.seq (.reg Q44_2) (.seq (.cond (.t 13) .skip (.exit 0)) (.seq (.block 1 (.seq (.reg Q44_3) (.seq (.reg Q44_4) (.seq (.reg Q44_5) (.cond (.t 29) (.seq (.reg Q44_6) .ret) .skip))))) (.reg Q44_7))))
@[go_sem] def Q44_9:=k 0x234cf7b95418bd
def t_Q44:TF:=⟨33,[.t 4,.t 5],(.seq (.reg Q44_0) (.seq (.seq (.reg Q44_1) (.block 0 (.loop Q44_8))) (.seq (.reg Q44_9) .ret)))⟩
/-! horarium/fold.leaves -/
@[go_sem] def Q45_0:=k 0x8304
@[go_sem] def Q45_1:=k 0xbb14
@[go_sem] def Q45_2:=k 0x97ef0e9231c
@[go_sem] def Q45_3:=k 0x7351964
@[go_sem] def Q45_4:=k 0x328a9e01d4c4d3b93d3a4
@[go_sem] def Q45_5:=k 0x3627ba59220138b7b0db1a579b6f63797c
@[go_sem] def Q45_6:=k 0x380c2998505f0
def Q45_7:TC:=(.seq (.reg Q45_3) (.seq (.cond (.t 9) .skip (.exit 0)) (.seq (.block 1 (.seq (.reg Q45_4) (.reg Q45_5))) (.reg Q45_6))))
@[go_sem] def Q45_8:=k 0x1d454ac701ec
def t_Q45:TF:=⟨20,[.t 2],(.seq (.reg Q45_0) (.seq (.reg Q45_1) (.seq (.seq (.reg Q45_2) (.block 0 (.loop Q45_7))) (.seq (.reg Q45_8) .ret))))⟩
/-! horarium/fold.best -/
@[go_sem] def Q46_0:=k 0xf464
@[go_sem] def Q46_1:=k 0x12c74
@[go_sem] def Q46_2:=k 0x9bc53ef3b6c
@[go_sem] def Q46_3:=k 0xbba7bb4
@[go_sem] def Q46_4:=k 0x1752e69035ac
@[go_sem] def Q46_5:=k 0x19b38
@[go_sem] def Q46_6:=k 0x8d548
@[go_sem] def Q46_7:=k 0x7c79d17557c64fb80229c7ed9d070965fbc
@[go_sem] def Q46_8:=k 0x8cf3235d28987bc1bb69307c8e9e2f3c5d26fb9c643ba541eea84d
@[go_sem] def Q46_9:=k 0x4ca2cf83fb11333eab0cdd5a284dd
@[go_sem] def Q46_10:=k 0x4c321c16aba7d2e924a2664beec2211811d
@[go_sem] def Q46_11:=k 0x2101e9b959d6d
@[go_sem] def Q46_12:=k 0x1f073ab00a25a31158d
@[go_sem] def Q46_13:=k 0x11465e084f1494c09bcaa4f949f29298b1b52b5fa481ad
@[go_sem] def Q46_14:=k 0xab8c7cd3b583f6c5fe27fa3d831203362d
@[go_sem] def Q46_15:=k 0x8274e82ffad202c2c
def Q46_16:TC:=(.seq (.seq (.reg Q46_7) (.cond (.t 22) .skip (.exit 2))) (.seq (.block 3 (.seq (.reg Q46_8) (.seq (.reg Q46_9) (.seq (.reg Q46_10) (.seq (.seq (.reg Q46_11) (.cond (.t 44) (.reg Q46_12) .skip)) (.seq (.reg Q46_13) (.cond (.t 54) (.reg Q46_14) .skip))))))) (.reg Q46_15)))
@[go_sem] def Q46_17:=k 0xb8ccc486683a91
def Q46_18:TC:=(.seq (.reg Q46_3) (.seq (.cond (.t 14) .skip (.exit 0)) (.seq (.block 1 (.seq (.reg Q46_4) (.seq (.reg Q46_5) (.seq (.reg Q46_6) (.block 2 (.loop Q46_16)))))) (.reg Q46_17))))
@[go_sem] def Q46_19:=k 0x3cf1b7fd8651
def t_Q46:TF:=⟨62,[.cell 4 4 true],(.seq (.reg Q46_0) (.seq (.reg Q46_1) (.seq (.seq (.reg Q46_2) (.block 0 (.loop Q46_18))) (.seq (.reg Q46_19) .ret))))⟩
/-! horarium/fold.same -/
@[go_sem] def Q47_0:=k 0x5b9d04
@[go_sem] def Q47_1:=k 0x5c0d24
@[go_sem] def Q47_2:=k 0x9977eeb933c
@[go_sem] def Q47_3:=k 0x9040d84
@[go_sem] def Q47_4:=k 0x45f8b312228ffeceac7b8
@[go_sem] def Q47_5:=k 0x792c4c2b04d65fdaf2e5138daef94ffeb9c
@[go_sem] def Q47_6:=k 0x2bacc84f8d8a9017d459f4c00f7dfc
@[go_sem] def Q47_7:=k 0x4db9877870e60
def Q47_8:TC:=(.seq (.reg Q47_3) (.seq (.cond (.t 11) .skip (.exit 0)) (.seq (.block 1 (.seq (.reg Q47_4) (.seq (.reg Q47_5) (.reg Q47_6)))) (.reg Q47_7))))
@[go_sem] def Q47_9:=k 0x7f2fba468e093ca78c5c
def t_Q47:TF:=⟨28,[.t 2,.t 3],(.seq (.reg Q47_0) (.seq (.reg Q47_1) (.seq (.seq (.reg Q47_2) (.block 0 (.loop Q47_8))) (.seq (.reg Q47_9) .ret))))⟩
/-! horarium/fold.joined -/
@[go_sem] def Q48_0:=k 0x8304
@[go_sem] def Q48_1:=k 0xdb936bb369cb2fc
@[go_sem] def Q48_2:=k 0x12e7adb1e229231c
@[go_sem] def Q48_3:=k 0xdec8984d14c
@[go_sem] def Q48_4:=k 0xb250609a0757cdad75a78cbea12d89588ee035c
def t_Q48:TF:=⟨17,[.t 2],(.seq (.reg Q48_0) (.seq (.reg Q48_1) (.seq (.seq (.reg Q48_2) (.cond (.t 8) (.seq (.reg Q48_3) .ret) .skip)) (.seq (.reg Q48_4) .ret))))⟩
/-! slices.Concat[[]horarium/api.Node,horarium/api.Node] -/
@[go_sem] def Q49_0:=k 0x8304
@[go_sem] def Q49_1:=k 0xbaf8
@[go_sem] def Q49_2:=k 0x9a3c5eccb4c
@[go_sem] def Q49_3:=k 0x9eb8794
@[go_sem] def Q49_4:=k 0x4c2ddbb8ee5f241c8
@[go_sem] def Q49_5:=k 0x12acec099bb823156d0e9e21ac
@[go_sem] def Q49_6:=k 0x1d28b15d81ec
@[go_sem] def Q49_7:=k 0x43a8fc34
@[go_sem] def Q49_8:=k 0x449cd4c86a630
def Q49_9:TC:=(.seq (.reg Q49_3) (.seq (.cond (.t 12) .skip (.exit 0)) (.seq (.block 1 (.seq (.reg Q49_4) (.seq (.reg Q49_5) (.seq (.reg Q49_6) (.cond (.t 20) (.reg Q49_7) .skip))))) (.reg Q49_8))))
@[go_sem] def Q49_10:=k 0x410f6f4df34f222c
@[go_sem] def Q49_11:=k 0xa6836004c4c
@[go_sem] def Q49_12:=k 0x18632894
@[go_sem] def Q49_13:=k 0xa2b880a352669e2c8
@[go_sem] def Q49_14:=k 0x4df4809b412dc2fabfdf4ad
@[go_sem] def Q49_15:=k 0x69ab20457088f1
def Q49_16:TC:=(.seq (.reg Q49_12) (.seq (.cond (.t 28) .skip (.exit 2)) (.seq (.block 3 (.seq (.reg Q49_13) (.reg Q49_14))) (.reg Q49_15))))
@[go_sem] def Q49_17:=k 0x1ae27c492d4ed
def t_Q49:TF:=⟨36,[.t 2],(.seq (.reg Q49_0) (.seq (.reg Q49_1) (.seq (.seq (.reg Q49_2) (.block 0 (.loop Q49_9))) (.seq (.reg Q49_10) (.seq (.seq (.reg Q49_11) (.block 2 (.loop Q49_16))) (.seq (.reg Q49_17) .ret))))))⟩
/-! slices.Concat[[][]horarium/api.Node,[]horarium/api.Node] -/
@[go_sem] def Q50_0:=k 0x8304
@[go_sem] def Q50_1:=k 0xbaf8
@[go_sem] def Q50_2:=k 0x9a3c5eccb4c
@[go_sem] def Q50_3:=k 0x9eb8794
@[go_sem] def Q50_4:=k 0x4c2ddbb8ee5f241c8
@[go_sem] def Q50_5:=k 0x12acec099bb823156d0e9e21ac
@[go_sem] def Q50_6:=k 0x1d28b15d81ec
@[go_sem] def Q50_7:=k 0x43a8fc34
@[go_sem] def Q50_8:=k 0x449cd4c86a630
def Q50_9:TC:=(.seq (.reg Q50_3) (.seq (.cond (.t 12) .skip (.exit 0)) (.seq (.block 1 (.seq (.reg Q50_4) (.seq (.reg Q50_5) (.seq (.reg Q50_6) (.cond (.t 20) (.reg Q50_7) .skip))))) (.reg Q50_8))))
@[go_sem] def Q50_10:=k 0x410f6f4df42f622c
@[go_sem] def Q50_11:=k 0xa6836004c4c
@[go_sem] def Q50_12:=k 0x18632894
@[go_sem] def Q50_13:=k 0xa2b880a352669e2c8
@[go_sem] def Q50_14:=k 0x4df4809b411ff3199fdf4ad
@[go_sem] def Q50_15:=k 0x69ab20457088f1
def Q50_16:TC:=(.seq (.reg Q50_12) (.seq (.cond (.t 28) .skip (.exit 2)) (.seq (.block 3 (.seq (.reg Q50_13) (.reg Q50_14))) (.reg Q50_15))))
@[go_sem] def Q50_17:=k 0x1ae27c492d4ed
def t_Q50:TF:=⟨36,[.t 2],(.seq (.reg Q50_0) (.seq (.reg Q50_1) (.seq (.seq (.reg Q50_2) (.block 0 (.loop Q50_9))) (.seq (.reg Q50_10) (.seq (.seq (.reg Q50_11) (.block 2 (.loop Q50_16))) (.seq (.reg Q50_17) .ret))))))⟩
/-! horarium/node.Length -/
@[go_sem] def Q51_0:=k 0x9a342e8
@[go_sem] def Q51_1:=k 0x96b2d2053fa31c
@[go_sem] def Q51_2:=k 0x9a342e8
@[go_sem] def Q51_3:=k 0x5253b52e3111d18d8e24337ec44eccfc35c
@[go_sem] def Q51_4:=k 0xac25a76d9c
@[go_sem] def Q51_5:=k 0x7c50b4a745dbc
@[go_sem] def Q51_6:=k 0x9a342e8
def t_Q51:TF:=⟨17,[.t 2,.t 3],(.seq (.reg Q51_0) (.seq (.seq (.reg Q51_1) (.cond (.t 8) (.seq (.reg Q51_2) .ret) .skip)) (.seq (.seq (.reg Q51_3) (.seq (.reg Q51_4) (.cond (.t 15) (.seq (.reg Q51_5) .ret) .skip))) (.seq (.reg Q51_6) .ret))))⟩
/-! horarium/node.whole -/
@[go_sem] def Q52_0:=k 0x82fc
@[go_sem] def Q52_1:=k 0x1681d4b5537412fb36afdb9a7ba64db0e1a063bb061d7cc81e257aec
def t_Q52:TF:=⟨13,[.t 2],(.seq (.reg Q52_0) (.seq (.reg Q52_1) .ret))⟩
/-! horarium/node.Depth -/
@[go_sem] def Q53_0:=k 0x82e8
@[go_sem] def Q53_1:=k 0x8130607dbe6b0c
@[go_sem] def Q53_2:=k 0x82e8
@[go_sem] def Q53_3:=k 0x4bfe9a326ffe49a903207972c23554e8b4c
@[go_sem] def Q53_4:=k 0x14100a05b18c
def t_Q53:TF:=⟨14,[.t 2],(.seq (.reg Q53_0) (.seq (.seq (.reg Q53_1) (.cond (.t 7) (.seq (.reg Q53_2) .ret) .skip)) (.seq (.reg Q53_3) (.seq (.reg Q53_4) .ret))))⟩
/-! horarium/horariumref3.Depth -/
@[go_sem] def Q54_0:=k 0x82e8
@[go_sem] def Q54_1:=k 0x3601275475d2e1b794c18f5b3630d244b88708955d9ca57aec
@[go_sem] def Q54_2:=k 0x82e8
@[go_sem] def Q54_3:=k 0x4baccd5971a61eb8c
def t_Q54:TF:=⟨15,[.t 2],(.seq (.reg Q54_0) (.seq (.seq (.reg Q54_1) (.cond (.t 12) (.seq (.reg Q54_2) .ret) .skip)) (.seq (.reg Q54_3) .ret)))⟩
/-! horarium/horariumref3.Length -/
@[go_sem] def Q55_0:=k 0x9a342e8
@[go_sem] def Q55_1:=k 0x1021de989a5eab0c
@[go_sem] def Q55_2:=k 0x9a342e8
@[go_sem] def Q55_3:=k 0x311fd7e30daa1133c
@[go_sem] def Q55_4:=k 0x7b1ce10b5c
@[go_sem] def Q55_5:=k 0x9a342e8
@[go_sem] def Q55_6:=k 0x7bee7c9ec7b7c
def t_Q55:TF:=⟨13,[.t 2,.t 3],(.seq (.reg Q55_0) (.seq (.seq (.reg Q55_1) (.cond (.t 7) (.seq (.reg Q55_2) .ret) .skip)) (.seq (.reg Q55_3) (.seq (.seq (.reg Q55_4) (.cond (.t 11) (.seq (.reg Q55_5) .ret) .skip)) (.seq (.reg Q55_6) .ret)))))⟩
/-! horarium/horariumref3.leaves -/
@[go_sem] def Q56_0:=k 0x16344
@[go_sem] def Q56_1:=k 0xd694f8469ae5bea477264035c
@[go_sem] def Q56_2:=k 0x32948b7a615e0
@[go_sem] def Q56_3:=kd 0x69a0b8a6264abac6e96af177b61bb18547d3d4038a84b5c0d4be4916e980eb4a5feca4b0ec2df348
@[go_sem] def Q56_4:=k 0x63b8bb9bf11ce1
@[go_sem] def Q56_5:=k 0x2bbbd131cf88009f4193fa78a605a476cebae7e63d3a511a654cd
@[go_sem] def Q56_6:=k 0x86030b670f8d91
@[go_sem] def Q56_7:=k 0x19b38
@[go_sem] def Q56_8:=k 0x46de4dac206e8af160ce5f6ead46d111eed17d
@[go_sem] def Q56_9:=k 0x671410c1d655066a3fe50fecf893292ae0d
@[go_sem] def Q56_10:=k 0x23079ccac492b7959ed
def Q56_11:TC:=(.seq (.seq (.reg Q56_8) (.cond (.t 50) .skip (.exit 1))) (.seq (.block 2 (.reg Q56_9)) (.reg Q56_10)))
@[go_sem] def Q56_12:=k 0x2c94d4b6fce5d
@[go_sem] def Q56_13:=k 0x10604c2b6ae2ccf7c93fe6d
@[go_sem] def Q56_14:=k 0x379d406d6
@[go_sem] def Q56_15:=k 0x58d2fa771fa56de8470a
@[go_sem] def Q56_16:=k 0x907491027f0fb516d9e526072aabeee
@[go_sem] def Q56_17:=k 0xdb711bbc927a742
def Q56_18:TC:=(.seq (.reg Q56_14) (.seq (.cond (.t 64) .skip (.exit 3)) (.seq (.block 4 (.seq (.reg Q56_15) (.reg Q56_16))) (.reg Q56_17))))
@[go_sem] def Q56_19:=k 0x1ba49e8563e73e
def t_Q56:TF:=⟨73,[.t 6],(.seq (.reg Q56_0) (.seq (.seq (.reg Q56_1) (.block 0 (.seq (.reg Q56_2) (.cond (.t 15) (.seq (.dreg Q56_3) .ret) (.seq (.reg Q56_4) (.cond (.t 31) (.seq (.reg Q56_5) .ret) (.seq (.reg Q56_6) (.cond (.t 42) (.seq (.seq (.reg Q56_7) (.block 1 (.loop Q56_11))) (.seq (.reg Q56_12) .ret)) .skip)))))))) (.seq (.seq (.reg Q56_13) (.block 3 (.loop Q56_18))) (.seq (.reg Q56_19) .ret))))⟩
/-! horarium/horariumref7.words -/
@[go_sem] def Q57_0:=k 0x8304
@[go_sem] def Q57_1:=k 0xbb14
@[go_sem] def Q57_2:=k 0x98b37ea5b2c
@[go_sem] def Q57_3:=k 0x81c9374
@[go_sem] def Q57_4:=k 0x32d5fbe69bdde1c9b4db4
@[go_sem] def Q57_5:=k 0x16328
@[go_sem] def Q57_6:=k 0x2ad2196ae19535037e917d989bb7a219431f137b3378c
@[go_sem] def Q57_7:=k 0x6594f43ed25bdd8ea17a38307809a3c
@[go_sem] def Q57_8:=k 0x7cbe45324acf1f01c
def Q57_9:TC:=(.seq (.seq (.reg Q57_6) (.cond (.t 21) .skip (.exit 2))) (.seq (.block 3 (.reg Q57_7)) (.reg Q57_8)))
@[go_sem] def Q57_10:=k 0x59e7fa687aea0
def Q57_11:TC:=(.seq (.reg Q57_3) (.seq (.cond (.t 10) .skip (.exit 0)) (.seq (.block 1 (.seq (.reg Q57_4) (.seq (.reg Q57_5) (.block 2 (.loop Q57_9))))) (.reg Q57_10))))
@[go_sem] def Q57_12:=k 0x2e26ec296a9c
def t_Q57:TF:=⟨31,[.t 2],(.seq (.reg Q57_0) (.seq (.reg Q57_1) (.seq (.seq (.reg Q57_2) (.block 0 (.loop Q57_11))) (.seq (.reg Q57_12) .ret))))⟩
/-! (horarium/reduce.rows).tidy -/
@[go_sem] def Q58_0:=k 0x871875fd2c
@[go_sem] def Q58_1:=k 0x160aa407eb9b5b2c
@[go_sem] def Q58_2:=k 0x2929d52b238aeee229910f19c70d32d74c
def t_Q58:TF:=⟨14,[.t 4,.t 5],(.seq (.reg Q58_0) (.seq (.reg Q58_1) (.seq (.reg Q58_2) .ret)))⟩
/-! horarium/reduce.pass -/
@[go_sem] def Q59_0:=k 0xe1208b0c
@[go_sem] def Q59_1:=k 0x4b748b580e8
def t_Q59:TF:=⟨4,[.t 2],(.seq (.reg Q59_0) (.seq (.reg Q59_1) .ret))⟩
/-! horarium/move.Do -/
@[go_sem] def Q60_0:=k 0xb6afd2c
@[go_sem] def Q60_1:=k 0x18a56e571020933c
@[go_sem] def Q60_2:=k 0x388dec38849958c8c35c
@[go_sem] def Q60_3:=k 0x15b17835ed9c
@[go_sem] def Q60_4:=kd 0x4bfe256df0d8342967b0776530e7a1d40
@[go_sem] def Q60_5:=k 0x1d291459c1f4
@[go_sem] def Q60_6:=kd 0x655290e94b646eeaf23243030b62dbd60
@[go_sem] def Q60_7:=kd 0x19f6cdde0958bf50d100651a12e9c3e79789b43af3962a701303ff3e904f0e06129ae4341ceb48ce06745d38c9
@[go_sem] def Q60_8:=k 0x58bc5ab4a7cb1f849444d87ede93d
@[go_sem] def Q60_9:=k 0x792c16e5496cac97d
def t_Q60:TF:=⟨46,[.t 4],(.seq (.reg Q60_0) (.seq (.reg Q60_1) (.seq (.seq (.reg Q60_2) (.cond (.t 13) (.seq (.reg Q60_3) .ret) .skip)) (.seq (.dreg Q60_4) (.seq (.seq (.reg Q60_5) (.cond (.t 20) (.dreg Q60_6) .skip)) (.seq (.dreg Q60_7) (.seq (.reg Q60_8) (.seq (.reg Q60_9) .ret))))))))⟩
/-! slices.IndexFunc[[]horarium/move.Move,horarium/move.Move] -/
@[go_sem] def Q61_0:=k 0xf308
@[go_sem] def Q61_1:=k 0x97ef0e9231c
@[go_sem] def Q61_2:=k 0x7351964
@[go_sem] def Q61_3:=k 0xf9a3ecb135c
@[go_sem] def Q61_4:=k 0x14ba765275757768216d89c58a3d6c
@[go_sem] def Q61_5:=k 0x1a4c189695cc
@[go_sem] def Q61_6:=k 0x380c2998505f0
def Q61_7:TC:=(.seq (.reg Q61_2) (.seq (.cond (.t 9) .skip (.exit 0)) (.seq (.block 1 (.seq (.reg Q61_3) (.seq (.reg Q61_4) (.cond (.t 16) (.seq (.reg Q61_5) .ret) .skip)))) (.reg Q61_6))))
@[go_sem] def Q61_8:=k 0xf384
def t_Q61:TF:=⟨19,[.t 4],(.seq (.reg Q61_0) (.seq (.seq (.reg Q61_1) (.block 0 (.loop Q61_7))) (.seq (.reg Q61_8) .ret)))⟩
/-! horarium/move.May -/
@[go_sem] def Q62_0:=k 0x10fa400eb53c
@[go_sem] def Q62_1:=kd 0x9a5ff229c6cfcdde3d2aea597d54fa111142fea7fbb97159d82884ac32e8c7123cd9bdf38700b4929c1004fe834f3718
@[go_sem] def Q62_2:=k 0x1633c
@[go_sem] def Q62_3:=k 0xa6a4eac2d1a5c70088769e563fc892670529d9efc6d
@[go_sem] def Q62_4:=k 0x9cf798e3a84fa598f05f693dc6465e00a9731d407ee7de575eaf0189da04ccd
def t_Q62:TF:=⟨43,[.t 6],(.seq (.reg Q62_0) (.seq (.seq (.dreg Q62_1) (.cond (.t 26) (.seq (.reg Q62_2) .ret) .skip)) (.seq (.reg Q62_3) (.seq (.reg Q62_4) .ret))))⟩
/-! horarium/graph.square -/
@[go_sem] def Q63_0:=k 0x8304
@[go_sem] def Q63_1:=k 0xbb14
@[go_sem] def Q63_2:=k 0x54272fc
@[go_sem] def Q63_3:=k 0x47eab34
@[go_sem] def Q63_4:=k 0x2822c41c0193ce25a0713d0c797612c
@[go_sem] def Q63_5:=k 0x2557fde82f590
def Q63_6:TC:=(.seq (.reg Q63_3) (.seq (.cond (.t 6) .skip (.exit 0)) (.seq (.block 1 (.reg Q63_4)) (.reg Q63_5))))
@[go_sem] def Q63_7:=k 0x14100a05b18c
def t_Q63:TF:=⟨14,[.t 2],(.seq (.reg Q63_0) (.seq (.reg Q63_1) (.seq (.seq (.reg Q63_2) (.block 0 (.loop Q63_6))) (.seq (.reg Q63_7) .ret))))⟩
/-! horarium/graph.is -/
@[go_sem] def Q64_0:=k 0x353d52431c
@[go_sem] def Q64_1:=k 0xdfa3dbb47bd17bbb568097001a65e1e272d38ccf5b4ea70ad0c
def t_Q64:TF:=⟨14,[.t 4],(.seq (.reg Q64_0) (.seq (.reg Q64_1) .ret))⟩
/-! horarium/word.Differ -/
@[go_sem] def Q65_0:=k 0x10e1a6a2e328
@[go_sem] def Q65_1:=k 0x27b78
@[go_sem] def Q65_2:=k 0x9cf7fb4
@[go_sem] def Q65_3:=k 0x1465fb44c18c
@[go_sem] def Q65_4:=k 0x15fb2257f59c
@[go_sem] def Q65_5:=k 0x174edb13afac
@[go_sem] def Q65_6:=k 0x2d39074996c4fdbb777b421e59c17b9b8d24c42c3cb4d7837bfcfdd97df118b1229b41c29df059831c743ed
@[go_sem] def Q65_7:=k 0x5f8886e0d83a9d7ea30e0ed
@[go_sem] def Q65_8:=k 0x62875950e8c6cdfcc
def Q65_9:TC:=(.seq (.seq (.reg Q65_5) (.cond (.t 16) .skip (.exit 2))) (.seq (.block 3 (.seq (.reg Q65_6) (.cond (.t 34) (.seq (.reg Q65_7) .ret) .skip))) (.reg Q65_8)))
@[go_sem] def Q65_10:=k 0x721bf0bd613121
def Q65_11:TC:=(.seq (.reg Q65_2) (.seq (.cond (.t 12) .skip (.exit 0)) (.seq (.block 1 (.seq (.reg Q65_3) (.seq (.reg Q65_4) (.block 2 (.loop Q65_9))))) (.reg Q65_10))))
@[go_sem] def Q65_12:=k 0x3a3eb1474550148584d324a261e17f3634651d
def t_Q65:TF:=⟨43,[.t 6,.t 7,.t 8],(.seq (.reg Q65_0) (.seq (.seq (.reg Q65_1) (.block 0 (.loop Q65_11))) (.seq (.reg Q65_12) .ret)))⟩
/-! horarium/runs.part -/
@[go_sem] def Q66_0:=k 0x82fc
@[go_sem] def Q66_1:=k 0x663df3afbb6afb9a2973a415cc6dfea5baec
def t_Q66:TF:=⟨9,[.t 2],(.seq (.reg Q66_0) (.seq (.reg Q66_1) .ret))⟩
/-! horarium/horariumref12.Where -/
@[go_sem] def Q67_0:=k 0x9354601cb0c
@[go_sem] def Q67_1:=k 0x3cb33febcad1433d4d30fdae650785142ec452557ba356edd4a3379565da0f06d3579292bd536773b091442a9fbbdde9d27af0aa917d1eff4ded79c514628a5266ffca4492ed46d886511197c5
@[go_sem] def Q67_2:=k 0x55708e8
@[go_sem] def Q67_3:=k 0x48171ef2a66d17b985
@[go_sem] def Q67_4:=k 0xa73e4dd5
@[go_sem] def Q67_5:=k 0x29fb99f51944e2bff5a92be41a78389cd
@[go_sem] def Q67_6:=k 0x1fcc92097bc6a6f5518a05
@[go_sem] def Q67_7:=k 0x969163a147afe663d
@[go_sem] def Q67_8:=k 0x16328
@[go_sem] def Q67_9:=k 0x9bb0ddd816bf3a64d
@[go_sem] def Q67_10:=kd 0x17f4cdd8b7317162b00e57c556eca32712ce12f259d5e854d8aef992
@[go_sem] def Q67_11:=k 0xbee5dbb38f2767bf2e
@[go_sem] def Q67_12:=k 0x291198ff287346d4e7d
def Q67_13:TC:=(.seq (.seq (.reg Q67_9) (.cond (.t 59) .skip (.exit 2))) (.seq (.block 3 (.seq (.dreg Q67_10) (.cond (.t 70) (.seq (.reg Q67_11) .ret) .skip))) (.reg Q67_12)))
@[go_sem] def Q67_14:=k 0x188945ff7e544002e
@[go_sem] def Q67_15:=k 0xc9a70eb6072f689f6e
@[go_sem] def Q67_16:=k 0xea67a4e68e8bf92
def Q67_17:TC:=(.seq (.reg Q67_4) (.seq (.cond (.t 48) .skip (.exit 0)) (.seq (.block 1 (.seq (.reg Q67_5) (.seq (.seq (.reg Q67_6) (.cond (.t 55) (.seq (.reg Q67_7) .ret) .skip)) (.seq (.seq (.reg Q67_8) (.block 2 (.loop Q67_13))) (.seq (.reg Q67_14) (.cond (.t 74) (.seq (.reg Q67_15) .ret) .skip)))))) (.reg Q67_16))))
@[go_sem] def Q67_18:=k 0x8e29ec8b3f27e30f796
@[go_sem] def Q67_19:=k 0x469f847e6
@[go_sem] def Q67_20:=k 0x7d3a415a40c2b037bf0e547a46b926c87de
@[go_sem] def Q67_21:=k 0xa0dafdf205b6e1b20d95cbfe34b716f0c6
@[go_sem] def Q67_22:=k 0xf4abd9993f37c0386e
@[go_sem] def Q67_23:=k 0x11c4e3c93f704092
def Q67_24:TC:=(.seq (.reg Q67_19) (.seq (.cond (.t 81) .skip (.exit 4)) (.seq (.block 5 (.seq (.reg Q67_20) (.seq (.reg Q67_21) (.cond (.t 90) (.seq (.reg Q67_22) .ret) .skip)))) (.reg Q67_23))))
@[go_sem] def Q67_25:=k 0x90da39958730c387896
@[go_sem] def Q67_26:=k 0x54bfc48e6
@[go_sem] def Q67_27:=k 0x19ca059ae512cad000607dfce088de
@[go_sem] def Q67_28:=k 0x298e842ecacff8f22a05feb7875e3adc39ef2b91e
@[go_sem] def Q67_29:=k 0x28ab351feba95e
@[go_sem] def Q67_30:=k 0x805c3c50eaddcb5d404197e
@[go_sem] def Q67_31:=k 0x2a1b8ba48819e
@[go_sem] def Q67_32:=k 0x62e0049e6
@[go_sem] def Q67_33:=k 0x8c67d546ef7569c6d8148a26
@[go_sem] def Q67_34:=k 0x6a920fd5b292ed602b35b8deb5a3a9a1ea06
@[go_sem] def Q67_35:=k 0x148052190f72fff125e
@[go_sem] def Q67_36:=k 0x17c38f47fff70a82
def Q67_37:TC:=(.seq (.reg Q67_32) (.seq (.cond (.t 113) .skip (.exit 8)) (.seq (.block 9 (.seq (.reg Q67_33) (.seq (.reg Q67_34) (.cond (.t 121) (.seq (.reg Q67_35) .ret) .skip)))) (.reg Q67_36))))
@[go_sem] def Q67_38:=k 0x4a427c083bb6676f8faf342aa
@[go_sem] def Q67_39:=k 0xc2e731aeeedc2af
@[go_sem] def Q67_40:=k 0x2645bfa9b3f55e41efb06e32cf
@[go_sem] def Q67_41:=k 0x192a9381ab988ce303
def Q67_42:TC:=(.seq (.reg Q67_26) (.seq (.cond (.t 97) .skip (.exit 6)) (.seq (.block 7 (.seq (.reg Q67_27) (.seq (.reg Q67_28) (.seq (.seq (.reg Q67_29) (.cond (.t 107) (.seq (.reg Q67_30) .ret) .skip)) (.seq (.seq (.reg Q67_31) (.block 8 (.loop Q67_37))) (.seq (.reg Q67_38) (.seq (.reg Q67_39) (.cond (.t 128) (.seq (.reg Q67_40) .ret) .skip)))))))) (.reg Q67_41))))
@[go_sem] def Q67_43:=k 0x2069c2e8
def t_Q67:TF:=⟨132,[.t 2,.t 3],(.seq (.reg Q67_0) (.seq (.seq (.reg Q67_1) (.cond (.t 43) (.seq (.reg Q67_2) .ret) .skip)) (.seq (.seq (.reg Q67_3) (.block 0 (.loop Q67_17))) (.seq (.seq (.reg Q67_18) (.block 4 (.loop Q67_24))) (.seq (.seq (.reg Q67_25) (.block 6 (.loop Q67_42))) (.seq (.reg Q67_43) .ret))))))⟩
/-! (*horarium/cursor.Cursor).Reset -/
@[go_sem] def Q68_0:=k 0x105d8945331a80a0a10f67cb391b0dc1f93a56bc730eb473ae4230142dc
@[go_sem] def Q68_1:=k 0x10e28de5fb6c
def t_Q68:TF:=⟨13,[],(.seq (.reg Q68_0) (.reg Q68_1))⟩
/-! horarium/cursor.part -/
@[go_sem] def Q69_0:=k 0x541cb0c
@[go_sem] def Q69_1:=k 0x15d893f436087bcf4
@[go_sem] def Q69_2:=k 0x8364
@[go_sem] def Q69_3:=k 0x26089b7ca8dc8a524
def t_Q69:TF:=⟨8,[.t 2],(.seq (.reg Q69_0) (.seq (.seq (.reg Q69_1) (.cond (.t 5) (.seq (.reg Q69_2) .ret) .skip)) (.seq (.reg Q69_3) .ret)))⟩
/-! (*horarium/cursor.Cursor).step -/
@[go_sem] def Q70_0:=k 0x1d2def79734ce873b26ad5fed28f2fc
@[go_sem] def Q70_1:=k 0x67d496fbfb32da2af0b4c
@[go_sem] def Q70_2:=k 0x1cea89b6d67e829724ab841932b37c
@[go_sem] def Q70_3:=kd 0x359ac8a4eded9ad479cdc2c2e3b72c587b285b9f79d27d9a0caf105c281f8
@[go_sem] def Q70_4:=k 0x31441e06965c2ac55098c3150d0e7632ac60e1b4788d
@[go_sem] def Q70_5:=k 0x141d8983c1cf31887adec1d200fd
@[go_sem] def Q70_6:=kd 0xc2c9e343be6db40665b614640bf6e809d2ed184a18b6909f9a31b1da927ce87c9
@[go_sem] def Q70_7:=k 0x19c50431907da6c109a21c0a6ae219ba0d
@[go_sem] def Q70_8:=k 0x9e6cb4b753d97c65d
@[go_sem] def Q70_9:=kd 0x1bea20e01ecc9f5018ae13a28b131694186b77f91373272ca14039771d2660d9795f63a925943623ebb41d8a
def Q70_10:TC:=(.seq (.seq (.reg Q70_2) (.cond (.t 17) .skip (.exit 0))) (.block 1 (.seq (.dreg Q70_3) (.seq (.seq (.reg Q70_4) (.seq (.reg Q70_5) (.cond (.t 40) (.seq (.seq (.dreg Q70_6) (.cond (.t 52) (.reg Q70_7) .skip)) (.seq (.reg Q70_8) .ret)) .skip))) (.dreg Q70_9)))))
@[go_sem] def Q70_11:=k 0x64605a0b6d3d12e3c2056300f55edb2a1f25e082da2a1c7f6e
def t_Q70:TF:=⟨83,[],(.seq (.reg Q70_0) (.seq (.reg Q70_1) (.seq (.block 0 (.loop Q70_10)) (.reg Q70_11))))⟩
/-! horarium/runs.Add -/
@[go_sem] def Q71_0:=k 0xf308
@[go_sem] def Q71_1:=k 0x1ceb42ee9bb9c5ae1c59a3bd77f6b0c
@[go_sem] def Q71_2:=k 0x2c03dc610f207ee3cb4c
@[go_sem] def Q71_3:=k 0xf4fc
@[go_sem] def Q71_4:=k 0x8e96b6385d84e2324ab8c
def t_Q71:TF:=⟨16,[.t 4],(.seq (.reg Q71_0) (.seq (.reg Q71_1) (.seq (.seq (.reg Q71_2) (.cond (.t 12) (.seq (.reg Q71_3) .ret) .skip)) (.seq (.reg Q71_4) .ret))))⟩
/-! slices.Clip[[]horarium/api.Run,horarium/api.Run] -/
@[go_sem] def Q72_0:=k 0x8304
@[go_sem] def Q72_1:=k 0x331ef99c6cac719fee9150fdf4355817aec
def t_Q72:TF:=⟨9,[.t 2],(.seq (.reg Q72_0) (.seq (.reg Q72_1) .ret))⟩
/-! horarium/bound.spans -/
@[go_sem] def Q73_0:=k 0xf324
@[go_sem] def Q73_1:=k 0x12b34
@[go_sem] def Q73_2:=k 0x16328
@[go_sem] def Q73_3:=k 0x9b00cee035c
@[go_sem] def Q73_4:=k 0xad301a4
@[go_sem] def Q73_5:=k 0x4ffb4be09fb88efb1bbe4
@[go_sem] def Q73_6:=k 0x27cd0799a50f13898983cb6dfbc
@[go_sem] def Q73_7:=k 0x78b7bee5a13e45d4bf23fb235331ca34a3f3a40edc8404
@[go_sem] def Q73_8:=k 0x35f50d0ebab4c4c50b592ee1e6442fd9e7808d
@[go_sem] def Q73_9:=k 0x1aeec34cce0ed
@[go_sem] def Q73_10:=k 0x6f167781e1f911
def Q73_11:TC:=(.seq (.reg Q73_4) (.seq (.cond (.t 13) .skip (.exit 0)) (.seq (.block 1 (.seq (.reg Q73_5) (.seq (.reg Q73_6) (.seq (.seq (.reg Q73_7) (.cond (.t 28) (.reg Q73_8) .skip)) (.reg Q73_9))))) (.reg Q73_10))))
@[go_sem] def Q73_12:=k 0x1c717fe8d410d
def t_Q73:TF:=⟨38,[.t 4],(.seq (.reg Q73_0) (.seq (.reg Q73_1) (.seq (.reg Q73_2) (.seq (.seq (.reg Q73_3) (.block 0 (.loop Q73_11))) (.seq (.reg Q73_12) .ret)))))⟩
/-! horarium/runs.Length -/
@[go_sem] def Q74_0:=k 0x82e8
@[go_sem] def Q74_1:=k 0xbaf8
@[go_sem] def Q74_2:=k 0x97ef0e9231c
@[go_sem] def Q74_3:=k 0x7351964
@[go_sem] def Q74_4:=k 0x328a9e01d4c4d3b93d3a4
@[go_sem] def Q74_5:=k 0x1f295ffe636324aa1b3279df97c
@[go_sem] def Q74_6:=k 0x31e8a918495d0
def Q74_7:TC:=(.seq (.reg Q74_3) (.seq (.cond (.t 9) .skip (.exit 0)) (.seq (.block 1 (.seq (.reg Q74_4) (.reg Q74_5))) (.reg Q74_6))))
@[go_sem] def Q74_8:=k 0x1a338a8691cc
def t_Q74:TF:=⟨18,[.t 2],(.seq (.reg Q74_0) (.seq (.reg Q74_1) (.seq (.seq (.reg Q74_2) (.block 0 (.loop Q74_7))) (.seq (.reg Q74_8) .ret))))⟩
/-! horarium/bound.next -/
@[go_sem] def Q75_0:=k 0x16328
@[go_sem] def Q75_1:=k 0x9a3c5eccb4c
@[go_sem] def Q75_2:=k 0x9eb8794
@[go_sem] def Q75_3:=k 0x4fafedfbd89f80eaa41d4
@[go_sem] def Q75_4:=k 0x222ba18b787310fb8e003ed5dac
@[go_sem] def Q75_5:=k 0xaeecf6402b928b572d64708a648e75fc
@[go_sem] def Q75_6:=k 0x4dd2158874e60
def Q75_7:TC:=(.seq (.reg Q75_2) (.seq (.cond (.t 12) .skip (.exit 0)) (.seq (.block 1 (.seq (.reg Q75_3) (.seq (.reg Q75_4) (.cond (.t 19) (.seq (.reg Q75_5) .ret) .skip)))) (.reg Q75_6))))
@[go_sem] def Q75_8:=k 0x18b1d6c2eadffc380fde784b4e42394f4885c
def t_Q75:TF:=⟨32,[.t 6],(.seq (.reg Q75_0) (.seq (.seq (.reg Q75_1) (.block 0 (.loop Q75_7))) (.seq (.reg Q75_8) .ret)))⟩
/-! horarium/fold.leaf -/
@[go_sem] def Q76_0:=k 0x82858b0c
@[go_sem] def Q76_1:=k 0xad900cd4087bcf4
@[go_sem] def Q76_2:=k 0x2acb27d49d952b09c8a524
@[go_sem] def Q76_3:=k 0x2318969b48dd081de8294510675490d54
def t_Q76:TF:=⟨14,[.cell 2 3 true],(.seq (.reg Q76_0) (.seq (.seq (.reg Q76_1) (.cond (.t 5) (.seq (.reg Q76_2) .ret) .skip)) (.seq (.reg Q76_3) .ret)))⟩
/-! horarium/fold.again -/
@[go_sem] def Q77_0:=k 0x16328
@[go_sem] def Q77_1:=k 0x89d38
@[go_sem] def Q77_2:=kd 0x15ab6e5273686936e852771dd4c06fc537e694367f36f981e8d3b40bf2fb2f0a3ef180343e54db74b0b7c03a87e2a68eff04b314a582a522effbdc7bb0edcbcde1462718714ec4126a4529430b182b556a356319
@[go_sem] def Q77_3:=k 0x1af6b6c95f51f76b92d
def Q77_4:TC:=(.seq (.seq (.dreg Q77_2) (.cond (.t 38) .skip (.exit 0))) (.block 1 (.reg Q77_3)))
@[go_sem] def Q77_5:=k 0x1f8963ab2294d
def t_Q77:TF:=⟨42,[.t 6],(.seq (.reg Q77_0) (.seq (.reg Q77_1) (.seq (.block 0 (.loop Q77_4)) (.seq (.reg Q77_5) .ret))))⟩
/-! slices.IndexFunc[[][]horarium/api.Node,[]horarium/api.Node] -/
@[go_sem] def Q78_0:=k 0xf308
@[go_sem] def Q78_1:=k 0x97ef0e9231c
@[go_sem] def Q78_2:=k 0x7351964
@[go_sem] def Q78_3:=k 0xf9a3ecb135c
@[go_sem] def Q78_4:=k 0x14ba76526f92217312fe49458a3d6c
@[go_sem] def Q78_5:=k 0x1a4c189695cc
@[go_sem] def Q78_6:=k 0x380c2998505f0
def Q78_7:TC:=(.seq (.reg Q78_2) (.seq (.cond (.t 9) .skip (.exit 0)) (.seq (.block 1 (.seq (.reg Q78_3) (.seq (.reg Q78_4) (.cond (.t 16) (.seq (.reg Q78_5) .ret) .skip)))) (.reg Q78_6))))
@[go_sem] def Q78_8:=k 0xf384
def t_Q78:TF:=⟨19,[.t 4],(.seq (.reg Q78_0) (.seq (.seq (.reg Q78_1) (.block 0 (.loop Q78_7))) (.seq (.reg Q78_8) .ret)))⟩
/-! horarium/fold.same$1 -/
@[go_sem] def Q79_0:=k 0xbb0c
@[go_sem] def Q79_1:=k 0x3981b5648a0a227a8b500
def t_Q79:TF:=⟨7,[.t 3],(.seq (.reg Q79_0) (.seq (.reg Q79_1) .ret))⟩
/-! slices.Equal[[]horarium/api.Node,horarium/api.Node] -/
@[go_sem] def Q80_0:=k 0xf31c
@[go_sem] def Q80_1:=k 0x3c1758692b1f5a5c0109231c
@[go_sem] def Q80_2:=k 0xf31c
@[go_sem] def Q80_3:=k 0x9bc53ef3b6c
@[go_sem] def Q80_4:=k 0xbba7bb4
@[go_sem] def Q80_5:=k 0x17469f8f35ac
@[go_sem] def Q80_6:=kd 0x1bfa8146f42cbfed2481d12e7135ff728bef327604cc98
@[go_sem] def Q80_7:=k 0xf31c
@[go_sem] def Q80_8:=k 0x4e0331a87ce60
def Q80_9:TC:=(.seq (.reg Q80_4) (.seq (.cond (.t 14) .skip (.exit 0)) (.seq (.block 1 (.seq (.reg Q80_5) (.seq (.dreg Q80_6) (.cond (.t 24) (.seq (.reg Q80_7) .ret) .skip)))) (.reg Q80_8))))
@[go_sem] def Q80_10:=k 0xf390
def t_Q80:TF:=⟨26,[.t 4],(.seq (.reg Q80_0) (.seq (.seq (.reg Q80_1) (.cond (.t 10) (.seq (.reg Q80_2) .ret) .skip)) (.seq (.seq (.reg Q80_3) (.block 0 (.loop Q80_9))) (.seq (.reg Q80_10) .ret))))⟩
/-! slices.Grow[[]horarium/api.Node,horarium/api.Node] -/
@[go_sem] def Q81_0:=k 0xf324
@[go_sem] def Q81_1:=k 0x7ac6f8c6d0c
@[go_sem] def Q81_2:=k 0x43a5eb78
@[go_sem] def Q81_3:=k 0x9bc778341887d3a63015173d8b173e58129953c
@[go_sem] def Q81_4:=k 0x170536f05dac
@[go_sem] def Q81_5:=k 0x6a747f3a68cbac6947a33124531c3950f64f63712c5a48bcc
@[go_sem] def Q81_6:=k 0x281bf995845c
def t_Q81:TF:=⟨27,[.t 4],(.seq (.reg Q81_0) (.seq (.seq (.reg Q81_1) (.cond (.t 6) (.reg Q81_2) .skip)) (.seq (.seq (.reg Q81_3) (.seq (.reg Q81_4) (.cond (.t 16) (.reg Q81_5) .skip))) (.seq (.reg Q81_6) .ret))))⟩
/-! slices.Grow[[][]horarium/api.Node,[]horarium/api.Node] -/
@[go_sem] def Q82_0:=k 0xf324
@[go_sem] def Q82_1:=k 0x7ac6f8c6d0c
@[go_sem] def Q82_2:=k 0x43a5eb78
@[go_sem] def Q82_3:=k 0x9bc778341887d3a63015173d8b173e58129953c
@[go_sem] def Q82_4:=k 0x170536f05dac
@[go_sem] def Q82_5:=k 0x6a747f3a66698046e4859f0c4cbcf25ac19d63ef755a48bcc
@[go_sem] def Q82_6:=k 0x281bf995845c
def t_Q82:TF:=⟨27,[.t 4],(.seq (.reg Q82_0) (.seq (.seq (.reg Q82_1) (.cond (.t 6) (.reg Q82_2) .skip)) (.seq (.seq (.reg Q82_3) (.seq (.reg Q82_4) (.cond (.t 16) (.reg Q82_5) .skip))) (.seq (.reg Q82_6) .ret))))⟩
/-! horarium/node.measure -/
@[go_sem] def Q83_0:=k 0x54202e8
@[go_sem] def Q83_1:=k 0x1df0855ab31949ac
@[go_sem] def Q83_2:=k 0x9c89af0737c
@[go_sem] def Q83_3:=k 0xca1f5c4
@[go_sem] def Q83_4:=k 0x3dbad40b94640f958b018
@[go_sem] def Q83_5:=kd 0x1aa9e1dbf2d5ebd4c32c0cb799abf9a4f2d161098659f8
@[go_sem] def Q83_6:=k 0x10085a92ef7f8bf8bc544c
@[go_sem] def Q83_7:=k 0xe7539d8afc9b21e7f3f28250068dd447d
@[go_sem] def Q83_8:=k 0x384ee64418ae775541b382fd4098b58aabb8ebde94dd
@[go_sem] def Q83_9:=k 0x200d70ce72700c8bb51d74f7436b525dbe18cf83f25ae9f5e1201d3fb980699b16c1d4d
@[go_sem] def Q83_10:=kd 0x7fc7c5eb8d2974e392d03737ad56d76e09a1989ed56ba7040dceb139e9cb5e0e8751001aaae3f9f22ba
@[go_sem] def Q83_11:=k 0x3e6157ccf97e10de60deb41932f262ca6ece
@[go_sem] def Q83_12:=k 0x1534c3ce23ebc111b753aefa726
@[go_sem] def Q83_13:=k 0x1bf36e8e0c31841de4934d670617f84d90a97e8fc5d5af08766
@[go_sem] def Q83_14:=k 0x79936f2b070d3c1a7f6782cb4668f208623bd1abe5e17ce
@[go_sem] def Q83_15:=kd 0x1b7fff53ebcdac537e135fc4366f8b726a571742db717520d27f17c1a9d116890c3174261a
@[go_sem] def Q83_16:=kd 0x8a639d1f88e02920598504508b1a208cbda64ce8576ed3579bcb92855b754446baa
def Q83_17:TC:=(.seq (.seq (.reg Q83_9) (.cond (.t 53) .skip (.exit 2))) (.block 3 (.seq (.dreg Q83_10) (.seq (.reg Q83_11) (.seq (.seq (.reg Q83_12) (.cond (.t 73) (.reg Q83_13) .skip)) (.seq (.reg Q83_14) (.seq (.dreg Q83_15) (.dreg Q83_16))))))))
@[go_sem] def Q83_18:=k 0x14ee6d97926bf9a2
def Q83_19:TC:=(.seq (.reg Q83_3) (.seq (.cond (.t 15) .skip (.exit 0)) (.seq (.block 1 (.seq (.reg Q83_4) (.seq (.dreg Q83_5) (.seq (.seq (.reg Q83_6) (.seq (.reg Q83_7) (.cond (.t 33) (.reg Q83_8) .skip))) (.block 2 (.loop Q83_17)))))) (.reg Q83_18))))
@[go_sem] def Q83_20:=kd 0x122d3ec3a597d59785a58e442d84de05a4f1e50a3072ea2733a3962a5f93a
def t_Q83:TF:=⟨118,[.t 2,.t 3],(.seq (.reg Q83_0) (.seq (.reg Q83_1) (.seq (.seq (.reg Q83_2) (.block 0 (.loop Q83_19))) (.seq (.dreg Q83_20) .ret))))⟩
/-! horarium/node.Size -/
@[go_sem] def Q84_0:=k 0xf308
@[go_sem] def Q84_1:=k 0xe7975431f7548517254cd5ab78da19a5abed153c
@[go_sem] def Q84_2:=k 0xf308
@[go_sem] def Q84_3:=k 0x82d18
@[go_sem] def Q84_4:=k 0x18dbc65c55bc
@[go_sem] def Q84_5:=k 0x52dfd8c6bad1fcae97cc
@[go_sem] def Q84_6:=k 0x3135a802ad55761538dcabebebdc2c
@[go_sem] def Q84_7:=k 0x2af8929b827c
@[go_sem] def Q84_8:=k 0xf308
@[go_sem] def Q84_9:=k 0x44412d05afe0e852dd981e9ebb89d
@[go_sem] def Q84_10:=k 0x1a16e4c5998dd
@[go_sem] def Q84_11:=k 0x5099dc65cf7c9425389af1c680cfd
@[go_sem] def Q84_12:=k 0x775dabc99ccd1b80c
def Q84_13:TC:=(.seq (.seq (.reg Q84_5) (.cond (.t 20) .skip (.exit 0))) (.seq (.block 1 (.seq (.reg Q84_6) (.seq (.seq (.reg Q84_7) (.cond (.t 29) (.seq (.reg Q84_8) .ret) .skip)) (.seq (.reg Q84_9) (.seq (.reg Q84_10) (.cond (.t 35) (.seq (.reg Q84_11) .ret) .skip)))))) (.reg Q84_12)))
@[go_sem] def Q84_14:=k 0xf308
def t_Q84:TF:=⟨40,[.t 4],(.seq (.reg Q84_0) (.seq (.seq (.reg Q84_1) (.cond (.t 15) (.seq (.reg Q84_2) .ret) .skip)) (.seq (.reg Q84_3) (.seq (.seq (.reg Q84_4) (.block 0 (.loop Q84_13))) (.seq (.reg Q84_14) .ret)))))⟩
/-! horarium/horariumref3.Size -/
@[go_sem] def Q85_0:=k 0xf308
@[go_sem] def Q85_1:=k 0xd0b5ac18f703e909304877102125a61cbbccdd2c
@[go_sem] def Q85_2:=k 0xf308
@[go_sem] def Q85_3:=k 0x82d18
@[go_sem] def Q85_4:=k 0x1752e63c1dac
@[go_sem] def Q85_5:=k 0x4e044b7264e47c2e5fbc
@[go_sem] def Q85_6:=k 0x177ff36d6d3e791729d969b6ba41c
@[go_sem] def Q85_7:=k 0xf308
@[go_sem] def Q85_8:=k 0x9cd6d8dbdeacffe7c
@[go_sem] def Q85_9:=k 0xf61f95297dbe55c497fa48ed148a1a49d
@[go_sem] def Q85_10:=k 0x3a5bfbf9be3f0fe680746c296083205fde8325d108fd
@[go_sem] def Q85_11:=k 0x154366d8f03dcf083e1715dd807ca47d6d
@[go_sem] def Q85_12:=k 0x21aa15dbe39295ce1cd
@[go_sem] def Q85_13:=k 0x272255d5d51ed
@[go_sem] def Q85_14:=k 0x73ac845fbb504abec999425e6c60d
@[go_sem] def Q85_15:=k 0x71fd1260eecb17ffc
def Q85_16:TC:=(.seq (.seq (.reg Q85_5) (.cond (.t 19) .skip (.exit 0))) (.seq (.block 1 (.seq (.seq (.reg Q85_6) (.cond (.t 27) (.seq (.reg Q85_7) .ret) .skip)) (.seq (.reg Q85_8) (.seq (.seq (.reg Q85_9) (.cond (.t 35) (.reg Q85_10) .skip)) (.seq (.seq (.reg Q85_11) (.cond (.t 48) (.reg Q85_12) .skip)) (.seq (.reg Q85_13) (.cond (.t 52) (.seq (.reg Q85_14) .ret) .skip))))))) (.reg Q85_15)))
@[go_sem] def Q85_17:=k 0xf308
def t_Q85:TF:=⟨57,[.t 4],(.seq (.reg Q85_0) (.seq (.seq (.reg Q85_1) (.cond (.t 14) (.seq (.reg Q85_2) .ret) .skip)) (.seq (.reg Q85_3) (.seq (.seq (.reg Q85_4) (.block 0 (.loop Q85_16))) (.seq (.reg Q85_17) .ret)))))⟩
/-! horarium/horariumref3.depth -/
@[go_sem] def Q86_0:=k 0xf308
@[go_sem] def Q86_1:=k 0x12b18
@[go_sem] def Q86_2:=k 0x3b783d8d810c35ae3933c
@[go_sem] def Q86_3:=k 0xad301a4
@[go_sem] def Q86_4:=k 0x51e47eb69e6f9bbd8
@[go_sem] def Q86_5:=k 0x48e4581e71c7df9e2972badc6a75dbc
@[go_sem] def Q86_6:=k 0x41a3a2986ae20
def Q86_7:TC:=(.seq (.reg Q86_3) (.seq (.cond (.t 13) .skip (.exit 0)) (.seq (.block 1 (.seq (.reg Q86_4) (.reg Q86_5))) (.reg Q86_6))))
@[go_sem] def Q86_8:=k 0x7c683b9d48ceaee1c
def t_Q86:TF:=⟨24,[.t 4],(.seq (.reg Q86_0) (.seq (.reg Q86_1) (.seq (.seq (.reg Q86_2) (.block 0 (.loop Q86_7))) (.seq (.reg Q86_8) .ret))))⟩
/-! horarium/horariumref3.length -/
@[go_sem] def Q87_0:=k 0xf308
@[go_sem] def Q87_1:=k 0x12b18
@[go_sem] def Q87_2:=k 0x3b783d8d810c35ae3933c
@[go_sem] def Q87_3:=k 0xad301a4
@[go_sem] def Q87_4:=k 0x51e47eb69e6f9bbd8
@[go_sem] def Q87_5:=k 0x860924060202e4ec8b67cbd5555d6a75dbc
@[go_sem] def Q87_6:=k 0x44b562d86e630
def Q87_7:TC:=(.seq (.reg Q87_3) (.seq (.cond (.t 13) .skip (.exit 0)) (.seq (.block 1 (.seq (.reg Q87_4) (.reg Q87_5))) (.reg Q87_6))))
@[go_sem] def Q87_8:=k 0x1ad253afa2ce0f9e5c88e6dc2c
@[go_sem] def Q87_9:=k 0x5bba858ba32b0
@[go_sem] def Q87_10:=k 0x2e3f7a396e9c
@[go_sem] def Q87_11:=k 0x63b8bbc99a24e1
@[go_sem] def Q87_12:=k 0x2bb34def9f68387e47253a4b917ad4c8e70de7e63d3a511d060cd
@[go_sem] def Q87_13:=k 0x4a8343aa49d44dfcad09c958977ddfec90455d
def t_Q87:TF:=⟨48,[.t 4],(.seq (.reg Q87_0) (.seq (.reg Q87_1) (.seq (.seq (.reg Q87_2) (.block 0 (.loop Q87_7))) (.seq (.seq (.reg Q87_8) (.block 2 (.seq (.reg Q87_9) (.cond (.t 28) (.seq (.reg Q87_10) .ret) (.seq (.reg Q87_11) (.cond (.t 31) (.seq (.reg Q87_12) .ret) .skip)))))) (.seq (.reg Q87_13) .ret)))))⟩
/-! horarium/horariumref3.Kids -/
@[go_sem] def Q88_0:=k 0xf324
@[go_sem] def Q88_1:=k 0x5fc7644300741c183933c
@[go_sem] def Q88_2:=k 0x16344
@[go_sem] def Q88_3:=k 0x41c2b27d51b6c7d6c
@[go_sem] def Q88_4:=k 0xded137e0d0ab84bb62cb5b98c
@[go_sem] def Q88_5:=k 0x1b064e0541703453a17996e82c
@[go_sem] def Q88_6:=k 0x5058c93fb79c26205007dbe16b5d1dc
def Q88_7:TC:=(.seq (.seq (.reg Q88_4) (.cond (.t 17) .skip (.exit 0))) (.seq (.block 1 (.reg Q88_5)) (.reg Q88_6)))
@[go_sem] def Q88_8:=k 0x29a4d9dfc86c
def t_Q88:TF:=⟨28,[.t 4],(.seq (.reg Q88_0) (.seq (.reg Q88_1) (.seq (.reg Q88_2) (.seq (.seq (.reg Q88_3) (.block 0 (.loop Q88_7))) (.seq (.reg Q88_8) .ret)))))⟩
/-! horarium/runs.Same -/
@[go_sem] def Q89_0:=k 0xf31c
@[go_sem] def Q89_1:=k 0x4338d00e81acacf02eb0c
def t_Q89:TF:=⟨8,[.t 4],(.seq (.reg Q89_0) (.seq (.reg Q89_1) .ret))⟩
/-! horarium/reduce.pass$1 -/
@[go_sem] def Q90_0:=k 0x11232773fb2c
@[go_sem] def Q90_1:=k 0x85238d8aaee2ed910d12b42303fafe04cf15f30
def t_Q90:TF:=⟨13,[.t 5,.t 6],(.seq (.reg Q90_0) (.seq (.reg Q90_1) .ret))⟩
/-! horarium/move.places -/
@[go_sem] def Q91_0:=k 0x9aa7d2c
@[go_sem] def Q91_1:=k 0x1f30497b39d1ac09a41923238922b49e5354f11510b12404fdf29b9333b6041cbc69a624936fbd5bbf33158d63114
def t_Q91:TF:=⟨22,[.t 4],(.seq (.reg Q91_0) (.seq (.reg Q91_1) .ret))⟩
/-! slices.ContainsFunc[[]horarium/api.Run,horarium/api.Run] -/
@[go_sem] def Q92_0:=k 0xf31c
@[go_sem] def Q92_1:=k 0x10c8c91e78be473f8f440a2eb0c
def t_Q92:TF:=⟨9,[.t 4],(.seq (.reg Q92_0) (.seq (.reg Q92_1) .ret))⟩
/-! horarium/move.May$1 -/
@[go_sem] def Q93_0:=k 0x9a37b2c
@[go_sem] def Q93_1:=k 0x5fc22f8c735d478378a284dc4055d9b97d44e3707d740832a8cdc7b3caa51e192ce17ac99dcdffdbf9719cc051a30cd0fee42f0d63114
def t_Q93:TF:=⟨25,[.t 4],(.seq (.reg Q93_0) (.seq (.reg Q93_1) .ret))⟩
/-! horarium/word.Depends -/
@[go_sem] def Q94_0:=k 0x1633c
@[go_sem] def Q94_1:=k 0x28c3fcbb10a57f24756e50a841a0fc265fd55e39133f7e5400912c384e5a708d04af6a21dfa90b5d2c
def t_Q94:TF:=⟨22,[.t 6],(.seq (.reg Q94_0) (.seq (.reg Q94_1) .ret))⟩
/-! slices.Equal[[]horarium/api.Run,horarium/api.Run] -/
@[go_sem] def Q95_0:=k 0xf31c
@[go_sem] def Q95_1:=k 0x3c1758692b1f5a5c0109231c
@[go_sem] def Q95_2:=k 0xf31c
@[go_sem] def Q95_3:=k 0x9bc53ef3b6c
@[go_sem] def Q95_4:=k 0xbba7bb4
@[go_sem] def Q95_5:=k 0x17469f8f35ac
@[go_sem] def Q95_6:=kd 0x1bfb0efff78310b5876ac526823c9b9840723b9b24cc98
@[go_sem] def Q95_7:=k 0xf31c
@[go_sem] def Q95_8:=k 0x4e0331a87ce60
def Q95_9:TC:=(.seq (.reg Q95_4) (.seq (.cond (.t 14) .skip (.exit 0)) (.seq (.block 1 (.seq (.reg Q95_5) (.seq (.dreg Q95_6) (.cond (.t 24) (.seq (.reg Q95_7) .ret) .skip)))) (.reg Q95_8))))
@[go_sem] def Q95_10:=k 0xf390
def t_Q95:TF:=⟨26,[.t 4],(.seq (.reg Q95_0) (.seq (.seq (.reg Q95_1) (.cond (.t 10) (.seq (.reg Q95_2) .ret) .skip)) (.seq (.seq (.reg Q95_3) (.block 0 (.loop Q95_9))) (.seq (.reg Q95_10) .ret))))⟩
/-! horarium/word.Project -/
@[go_sem] def Q96_0:=k 0x16344
@[go_sem] def Q96_1:=k 0x19b54
@[go_sem] def Q96_2:=k 0x9b00cee035c
@[go_sem] def Q96_3:=k 0xad301a4
@[go_sem] def Q96_4:=k 0x596708a484930ffb1bbe4
@[go_sem] def Q96_5:=k 0x1614915fe29b0703a06627598081c016a972120829608e62a5c4
@[go_sem] def Q96_6:=k 0x1e26caafa0cc96dc763a26925c
@[go_sem] def Q96_7:=k 0x5d4364d88a6b0
def Q96_8:TC:=(.seq (.reg Q96_3) (.seq (.cond (.t 13) .skip (.exit 0)) (.seq (.block 1 (.seq (.reg Q96_4) (.seq (.reg Q96_5) (.cond (.t 25) (.reg Q96_6) .skip)))) (.reg Q96_7))))
@[go_sem] def Q96_9:=k 0x564db499d32aff8ad
def t_Q96:TF:=⟨33,[.t 6],(.seq (.reg Q96_0) (.seq (.reg Q96_1) (.seq (.seq (.reg Q96_2) (.block 0 (.loop Q96_8))) (.seq (.reg Q96_9) .ret))))⟩
/-! horarium/runs.Ticks -/
@[go_sem] def Q97_0:=k 0xf308
@[go_sem] def Q97_1:=k 0x12b18
@[go_sem] def Q97_2:=k 0x9977eeb933c
@[go_sem] def Q97_3:=k 0x9040d84
@[go_sem] def Q97_4:=k 0x45f8d3532cabf1da2c7c4
@[go_sem] def Q97_5:=k 0x9206a7a19643ece1431a4
@[go_sem] def Q97_6:=k 0x2bab52a7e11536c13ec15af4ddc
@[go_sem] def Q97_7:=k 0x448446b866630
def Q97_8:TC:=(.seq (.reg Q97_3) (.seq (.cond (.t 11) .skip (.exit 0)) (.seq (.block 1 (.seq (.reg Q97_4) (.seq (.reg Q97_5) (.cond (.t 17) (.reg Q97_6) .skip)))) (.reg Q97_7))))
@[go_sem] def Q97_9:=k 0x23815957e62c
def t_Q97:TF:=⟨24,[.t 4],(.seq (.reg Q97_0) (.seq (.reg Q97_1) (.seq (.seq (.reg Q97_2) (.block 0 (.loop Q97_8))) (.seq (.reg Q97_9) .ret))))⟩
/-! horarium/horariumref12.Name -/
@[go_sem] def Q98_0:=k 0x82fc
@[go_sem] def Q98_1:=k 0xbaf8
@[go_sem] def Q98_2:=k 0x189538d3488ce2b6f10c
@[go_sem] def Q98_3:=k 0x16037f18b65fd180ecf8156b883d6230556f821388647d08014a74c13e6034a22700b0f1882416263b6c
@[go_sem] def Q98_4:=k 0xde5cecb9ec177f9b208e816651e598af6aed5371dde28afe6cfe55e387a67a5748ea512a4cdb77877733cfde31294fc6d
@[go_sem] def Q98_5:=k 0x82fc
@[go_sem] def Q98_6:=k 0x36556c81f1b3a114c
def Q98_7:TC:=(.seq (.seq (.reg Q98_2) (.cond (.t 8) .skip (.exit 0))) (.seq (.block 1 (.seq (.reg Q98_3) (.seq (.reg Q98_4) (.cond (.t 44) (.seq (.reg Q98_5) .ret) .skip)))) (.reg Q98_6)))
@[go_sem] def Q98_8:=k 0x3f364c5a42133bca16f1bc2defc03d978f498fb0297f25ed8d
def t_Q98:TF:=⟨53,[.t 2],(.seq (.reg Q98_0) (.seq (.seq (.reg Q98_1) (.block 0 (.loop Q98_7))) (.seq (.reg Q98_8) .ret)))⟩
/-! horarium/horariumref12.partRight -/
@[go_sem] def Q99_0:=k 0x9a30b0c
@[go_sem] def Q99_1:=k 0xc344068015e1481561a7c7281ab4b6bf557792685ed3169dd34
@[go_sem] def Q99_2:=k 0x82fc
@[go_sem] def Q99_3:=k 0x234a053b892ac0dd4
@[go_sem] def Q99_4:=k 0x120ed224
@[go_sem] def Q99_5:=k 0x2ca747f74516fb7ed8c64
@[go_sem] def Q99_6:=k 0xde162045052f2b53342922dcee137222669da0f556d4655607205d21a3d6232f8851ec73e5bb0b48e6fb4715aaafd93d6445
@[go_sem] def Q99_7:=k 0x82fc
@[go_sem] def Q99_8:=k 0x81e33125eb4971
def Q99_9:TC:=(.seq (.reg Q99_4) (.seq (.cond (.t 21) .skip (.exit 0)) (.seq (.block 1 (.seq (.reg Q99_5) (.seq (.reg Q99_6) (.cond (.t 41) (.seq (.reg Q99_7) .ret) .skip)))) (.reg Q99_8))))
@[go_sem] def Q99_10:=k 0x147b72ea5d8175
@[go_sem] def Q99_11:=k 0x9dfd39d5
@[go_sem] def Q99_12:=k 0x909010ae6d1649
@[go_sem] def Q99_13:=k 0x5bd48f56a759e45f7bdf4cb61822befadbd
@[go_sem] def Q99_14:=k 0x82fc
@[go_sem] def Q99_15:=k 0xa7eb239686ea31
def Q99_16:TC:=(.seq (.reg Q99_11) (.seq (.cond (.t 46) .skip (.exit 2)) (.seq (.block 3 (.seq (.reg Q99_12) (.seq (.reg Q99_13) (.cond (.t 53) (.seq (.reg Q99_14) .ret) .skip)))) (.reg Q99_15))))
@[go_sem] def Q99_17:=k 0x51c0ee22da90c8ffd83c7ee0e490a776340f647bb9b2235
@[go_sem] def Q99_18:=k 0x8370
@[go_sem] def Q99_19:=k 0x28ad294cb4c3d0884e20c04577ef47b4244d91d1e2ad5a53f259c82c06647d7f160872c7405a9b47dc1acccd0a64fd4589303d4d323252ee088c7e0e2de6b6
def t_Q99:TF:=⟨83,[.t 2],(.seq (.reg Q99_0) (.seq (.seq (.reg Q99_1) (.cond (.t 16) (.seq (.reg Q99_2) .ret) .skip)) (.seq (.seq (.reg Q99_3) (.block 0 (.loop Q99_9))) (.seq (.seq (.reg Q99_10) (.block 2 (.loop Q99_16))) (.seq (.seq (.reg Q99_17) (.cond (.t 62) (.seq (.reg Q99_18) .ret) .skip)) (.seq (.reg Q99_19) .ret))))))⟩
/-! horarium/horariumref12.chanRight -/
@[go_sem] def Q100_0:=k 0x353d52431c
@[go_sem] def Q100_1:=k 0x47c4f6c03b82812be31b1a127e69017fd521b78edbd7418592182d1091986ab3bedcea92999a926cf01a2612a0f4f5ece0d46961cad63e48bc07fc82d032f2b8b5d20e1768f31c326a777810f092b971dcfd62fe408d015b8a1f46deb459f0618e1caac61d3315
@[go_sem] def Q100_2:=k 0xf31c
@[go_sem] def Q100_3:=k 0x30005ee1462ef3fdf10758e9ea6cc9bee2257990d7d76fb6c6ec1cf9579b39e34d23a98248251a361f71e3f0c1c52777cfdff8ed502151d6283b27f56c9572274d65
def t_Q100:TF:=⟨64,[.t 4],(.seq (.reg Q100_0) (.seq (.seq (.reg Q100_1) (.cond (.t 41) (.seq (.reg Q100_2) .ret) .skip)) (.seq (.reg Q100_3) .ret)))⟩
/-! (*horarium/cursor.Cursor).down -/
@[go_sem] def Q101_0:=k 0xf7fb195290b685eceddc468cecc37707d4ce24e34df63cec64a7f684fa9a8d57869d5d340bbce6347192a98f0fcd28f2fc
@[go_sem] def Q101_1:=kd 0x1675b6a199e18a82483bcd1b95451b520d46e68bf2ceb3a13913adb32ca89eead3980917ad69b544caa875c6aaa0140a913bce90c93a6219
@[go_sem] def Q101_2:=k 0x1d96e1a890b2323816d
def Q101_3:TC:=(.seq (.seq (.reg Q101_0) (.cond (.t 23) .skip (.exit 0))) (.block 1 (.seq (.dreg Q101_1) (.reg Q101_2))))
@[go_sem] def Q101_4:=k 0x19222ad89a000f82a244ea90ed8d
def t_Q101:TF:=⟨49,[],(.seq (.block 0 (.loop Q101_3)) (.reg Q101_4))⟩
/-! slices.Equal[[]int,int] -/
@[go_sem] def Q102_0:=k 0xf31c
@[go_sem] def Q102_1:=k 0x3c1758692b1f5a5c0109231c
@[go_sem] def Q102_2:=k 0xf31c
@[go_sem] def Q102_3:=k 0x9bc53ef3b6c
@[go_sem] def Q102_4:=k 0xbba7bb4
@[go_sem] def Q102_5:=k 0x17469f8f35ac
@[go_sem] def Q102_6:=kd 0x1bfa47c73850ff3de1309268b621ca38933ae84b04cc98
@[go_sem] def Q102_7:=k 0xf31c
@[go_sem] def Q102_8:=k 0x4e0331a87ce60
def Q102_9:TC:=(.seq (.reg Q102_4) (.seq (.cond (.t 14) .skip (.exit 0)) (.seq (.block 1 (.seq (.reg Q102_5) (.seq (.dreg Q102_6) (.cond (.t 24) (.seq (.reg Q102_7) .ret) .skip)))) (.reg Q102_8))))
@[go_sem] def Q102_10:=k 0xf390
def t_Q102:TF:=⟨26,[.t 4],(.seq (.reg Q102_0) (.seq (.seq (.reg Q102_1) (.cond (.t 10) (.seq (.reg Q102_2) .ret) .skip)) (.seq (.seq (.reg Q102_3) (.block 0 (.loop Q102_9))) (.seq (.reg Q102_10) .ret))))⟩
/-! horarium/node.kids -/
@[go_sem] def Q103_0:=k 0x541cb0c
@[go_sem] def Q103_1:=k 0x285c391aaddf5ed206b2b3cf64244c4ac8e67492bb1c5c3c220f04e141a23481457246687504
@[go_sem] def Q103_2:=k 0x8364
@[go_sem] def Q103_3:=k 0x26458f95884bce1be3a6a532529c1717c679ab9c37b98b57cb082887f0dd392397e726b05e4
@[go_sem] def Q103_4:=k 0x1397086dd013b1ea1a014e0b5
@[go_sem] def Q103_5:=k 0x82e8
@[go_sem] def Q103_6:=k 0xceaff49edcf0e3f4c723a4498c0e85402692f54db3ea415c0f5
@[go_sem] def Q103_7:=k 0x1d9991f535e73198175
@[go_sem] def Q103_8:=k 0x1cadfb6f6ac33cf8caf1829a5
@[go_sem] def Q103_9:=k 0x784e8
@[go_sem] def Q103_10:=k 0x8364
def t_Q103:TF:=⟨49,[.t 2],(.seq (.reg Q103_0) (.seq (.block 0 (.seq (.reg Q103_1) (.cond (.t 3) (.seq (.reg Q103_2) .ret) (.seq (.seq (.reg Q103_3) (.cond (.t 17) .skip (.reg Q103_4))) (.cond (.t 17) (.seq (.reg Q103_5) .ret) (.seq (.reg Q103_6) (.cond (.t 34) (.seq (.reg Q103_7) .ret) (.seq (.reg Q103_8) (.cond (.t 45) (.seq (.reg Q103_9) .ret) .skip))))))))) (.seq (.reg Q103_10) .ret)))⟩
/-! horarium/node.times -/
@[go_sem] def Q104_0:=k 0xf308
@[go_sem] def Q104_1:=k 0x1082893ceb621e4f4b87b2be96eb0c
def t_Q104:TF:=⟨10,[.t 4],(.seq (.reg Q104_0) (.seq (.reg Q104_1) .ret))⟩
/-! horarium/node.add -/
@[go_sem] def Q105_0:=k 0xf308
@[go_sem] def Q105_1:=k 0x1082893ceb5d6810a03e097502eb0c
def t_Q105:TF:=⟨10,[.t 4],(.seq (.reg Q105_0) (.seq (.reg Q105_1) .ret))⟩
/-! horarium/horariumref3.fine -/
@[go_sem] def Q106_0:=k 0x9a30b0c
@[go_sem] def Q106_1:=k 0x49b1087bcf4
@[go_sem] def Q106_2:=k 0x12ed7c5a16540
@[go_sem] def Q106_3:=k 0x17e677585630b3ce6488bcb6ce7f757c61b7a728ad9f26234209f06be8cbff6224719e8dd34
@[go_sem] def Q106_4:=k 0x42681238bb030
@[go_sem] def Q106_5:=k 0x4579d2799ec40
@[go_sem] def Q106_6:=k 0x24881555988e8ddb70287e3859f3af26894c3628cc3ec5e34
@[go_sem] def Q106_7:=k 0x63b8bb78f520e1
@[go_sem] def Q106_8:=k 0x1c37b0d9fbd2edf3c5f9c1013362761258f336ff2c91de78a743d6c32a9d6800cf60a2ada59650d5
@[go_sem] def Q106_9:=k 0x82fc
def t_Q106:TF:=⟨46,[.t 2],(.seq (.reg Q106_0) (.seq (.seq (.reg Q106_1) (.block 0 (.seq (.reg Q106_2) (.cond (.t 5) (.seq (.reg Q106_3) .ret) (.seq (.seq (.reg Q106_4) (.cond (.t 20) .skip (.reg Q106_5))) (.cond (.t 20) (.seq (.reg Q106_6) .ret) (.seq (.reg Q106_7) (.cond (.t 31) (.seq (.reg Q106_8) .ret) .skip)))))))) (.seq (.reg Q106_9) .ret)))⟩
/-! slices.IndexFunc[[]horarium/api.Run,horarium/api.Run] -/
@[go_sem] def Q107_0:=k 0xf308
@[go_sem] def Q107_1:=k 0x97ef0e9231c
@[go_sem] def Q107_2:=k 0x7351964
@[go_sem] def Q107_3:=k 0xf9a3ecb135c
@[go_sem] def Q107_4:=k 0x14ba76527d1d0096e5fb41758a3d6c
@[go_sem] def Q107_5:=k 0x1a4c189695cc
@[go_sem] def Q107_6:=k 0x380c2998505f0
def Q107_7:TC:=(.seq (.reg Q107_2) (.seq (.cond (.t 9) .skip (.exit 0)) (.seq (.block 1 (.seq (.reg Q107_3) (.seq (.reg Q107_4) (.cond (.t 16) (.seq (.reg Q107_5) .ret) .skip)))) (.reg Q107_6))))
@[go_sem] def Q107_8:=k 0xf384
def t_Q107:TF:=⟨19,[.t 4],(.seq (.reg Q107_0) (.seq (.seq (.reg Q107_1) (.block 0 (.loop Q107_7))) (.seq (.reg Q107_8) .ret)))⟩
/-! horarium/word.to -/
@[go_sem] def Q108_0:=k 0x1633c
@[go_sem] def Q108_1:=k 0x9867ebb2c663bdf082f566d31dddf15a055910c6cefa0e4fd43159424f6d2250f8b9b92245c4a9a46a19205d6f0c3aa793778297c43bceaf2d92c693c3f1144a71e3729d6349b410fa88dfc36dba3e319f2d
def t_Q108:TF:=⟨37,[.t 6],(.seq (.reg Q108_0) (.seq (.reg Q108_1) .ret))⟩
def tpFn:Nat→Option TF
  | 4=>some t_Q0
  | 12=>some t_Q1
  | 13=>some t_Q2
  | 14=>some t_Q3
  | 15=>some t_Q4
  | 17=>some t_Q5
  | 21=>some t_Q6
  | 23=>some t_Q7
  | 29=>some t_Q8
  | 31=>some t_Q9
  | 33=>some t_Q10
  | 41=>some t_Q11
  | 47=>some t_Q12
  | 48=>some t_Q13
  | 49=>some t_Q14
  | 50=>some t_Q15
  | 51=>some t_Q16
  | 52=>some t_Q17
  | 53=>some t_Q18
  | 54=>some t_Q19
  | 55=>some t_Q20
  | 56=>some t_Q21
  | 57=>some t_Q22
  | 58=>some t_Q23
  | 59=>some t_Q24
  | 60=>some t_Q25
  | 61=>some t_Q26
  | 66=>some t_Q27
  | 67=>some t_Q28
  | 72=>some t_Q29
  | 73=>some t_Q30
  | 74=>some t_Q31
  | 75=>some t_Q32
  | 76=>some t_Q33
  | 77=>some t_Q34
  | 78=>some t_Q35
  | 79=>some t_Q36
  | 80=>some t_Q37
  | 94=>some t_Q38
  | 95=>some t_Q39
  | 96=>some t_Q40
  | 97=>some t_Q41
  | 98=>some t_Q42
  | 99=>some t_Q43
  | 100=>some t_Q44
  | 101=>some t_Q45
  | 102=>some t_Q46
  | 103=>some t_Q47
  | 104=>some t_Q48
  | 105=>some t_Q49
  | 106=>some t_Q50
  | 107=>some t_Q51
  | 108=>some t_Q52
  | 109=>some t_Q53
  | 110=>some t_Q54
  | 111=>some t_Q55
  | 112=>some t_Q56
  | 113=>some t_Q57
  | 118=>some t_Q58
  | 119=>some t_Q59
  | 122=>some t_Q60
  | 123=>some t_Q61
  | 124=>some t_Q62
  | 125=>some t_Q63
  | 126=>some t_Q64
  | 127=>some t_Q65
  | 128=>some t_Q66
  | 129=>some t_Q67
  | 150=>some t_Q68
  | 151=>some t_Q69
  | 152=>some t_Q70
  | 153=>some t_Q71
  | 154=>some t_Q72
  | 155=>some t_Q73
  | 156=>some t_Q74
  | 157=>some t_Q75
  | 158=>some t_Q76
  | 159=>some t_Q77
  | 160=>some t_Q78
  | 161=>some t_Q79
  | 162=>some t_Q80
  | 163=>some t_Q81
  | 164=>some t_Q82
  | 165=>some t_Q83
  | 166=>some t_Q84
  | 167=>some t_Q85
  | 168=>some t_Q86
  | 169=>some t_Q87
  | 170=>some t_Q88
  | 172=>some t_Q89
  | 173=>some t_Q90
  | 177=>some t_Q91
  | 178=>some t_Q92
  | 179=>some t_Q93
  | 180=>some t_Q94
  | 181=>some t_Q95
  | 182=>some t_Q96
  | 183=>some t_Q97
  | 184=>some t_Q98
  | 185=>some t_Q99
  | 186=>some t_Q100
  | 201=>some t_Q101
  | 202=>some t_Q102
  | 203=>some t_Q103
  | 204=>some t_Q104
  | 205=>some t_Q105
  | 206=>some t_Q106
  | 209=>some t_Q107
  | 210=>some t_Q108
  | _=>none
def tpMeth:Nat→String→Option Meth:=fun _ _=>none
def tp:TP:=⟨tpFn,tpMeth⟩
theorem fn_Q0:tp.fn i_Q0=some t_Q0:=rfl
theorem fn_Q1:tp.fn i_Q1=some t_Q1:=rfl
theorem fn_Q2:tp.fn i_Q2=some t_Q2:=rfl
theorem fn_Q3:tp.fn i_Q3=some t_Q3:=rfl
theorem fn_Q4:tp.fn i_Q4=some t_Q4:=rfl
theorem fn_Q5:tp.fn i_Q5=some t_Q5:=rfl
theorem fn_Q6:tp.fn i_Q6=some t_Q6:=rfl
theorem fn_Q7:tp.fn i_Q7=some t_Q7:=rfl
theorem fn_Q8:tp.fn i_Q8=some t_Q8:=rfl
theorem fn_Q9:tp.fn i_Q9=some t_Q9:=rfl
theorem fn_Q10:tp.fn i_Q10=some t_Q10:=rfl
theorem fn_Q11:tp.fn i_Q11=some t_Q11:=rfl
theorem fn_Q12:tp.fn i_Q12=some t_Q12:=rfl
theorem fn_Q13:tp.fn i_Q13=some t_Q13:=rfl
theorem fn_Q14:tp.fn i_Q14=some t_Q14:=rfl
theorem fn_Q15:tp.fn i_Q15=some t_Q15:=rfl
theorem fn_Q16:tp.fn i_Q16=some t_Q16:=rfl
theorem fn_Q17:tp.fn i_Q17=some t_Q17:=rfl
theorem fn_Q18:tp.fn i_Q18=some t_Q18:=rfl
theorem fn_Q19:tp.fn i_Q19=some t_Q19:=rfl
theorem fn_Q20:tp.fn i_Q20=some t_Q20:=rfl
theorem fn_Q21:tp.fn i_Q21=some t_Q21:=rfl
theorem fn_Q22:tp.fn i_Q22=some t_Q22:=rfl
theorem fn_Q23:tp.fn i_Q23=some t_Q23:=rfl
theorem fn_Q24:tp.fn i_Q24=some t_Q24:=rfl
theorem fn_Q25:tp.fn i_Q25=some t_Q25:=rfl
theorem fn_Q26:tp.fn i_Q26=some t_Q26:=rfl
theorem fn_Q27:tp.fn i_Q27=some t_Q27:=rfl
theorem fn_Q28:tp.fn i_Q28=some t_Q28:=rfl
theorem fn_Q29:tp.fn i_Q29=some t_Q29:=rfl
theorem fn_Q30:tp.fn i_Q30=some t_Q30:=rfl
theorem fn_Q31:tp.fn i_Q31=some t_Q31:=rfl
theorem fn_Q32:tp.fn i_Q32=some t_Q32:=rfl
theorem fn_Q33:tp.fn i_Q33=some t_Q33:=rfl
theorem fn_Q34:tp.fn i_Q34=some t_Q34:=rfl
theorem fn_Q35:tp.fn i_Q35=some t_Q35:=rfl
theorem fn_Q36:tp.fn i_Q36=some t_Q36:=rfl
theorem fn_Q37:tp.fn i_Q37=some t_Q37:=rfl
theorem fn_Q38:tp.fn i_Q38=some t_Q38:=rfl
theorem fn_Q39:tp.fn i_Q39=some t_Q39:=rfl
theorem fn_Q40:tp.fn i_Q40=some t_Q40:=rfl
theorem fn_Q41:tp.fn i_Q41=some t_Q41:=rfl
theorem fn_Q42:tp.fn i_Q42=some t_Q42:=rfl
theorem fn_Q43:tp.fn i_Q43=some t_Q43:=rfl
theorem fn_Q44:tp.fn i_Q44=some t_Q44:=rfl
theorem fn_Q45:tp.fn i_Q45=some t_Q45:=rfl
theorem fn_Q46:tp.fn i_Q46=some t_Q46:=rfl
theorem fn_Q47:tp.fn i_Q47=some t_Q47:=rfl
theorem fn_Q48:tp.fn i_Q48=some t_Q48:=rfl
theorem fn_Q49:tp.fn i_Q49=some t_Q49:=rfl
theorem fn_Q50:tp.fn i_Q50=some t_Q50:=rfl
theorem fn_Q51:tp.fn i_Q51=some t_Q51:=rfl
theorem fn_Q52:tp.fn i_Q52=some t_Q52:=rfl
theorem fn_Q53:tp.fn i_Q53=some t_Q53:=rfl
theorem fn_Q54:tp.fn i_Q54=some t_Q54:=rfl
theorem fn_Q55:tp.fn i_Q55=some t_Q55:=rfl
theorem fn_Q56:tp.fn i_Q56=some t_Q56:=rfl
theorem fn_Q57:tp.fn i_Q57=some t_Q57:=rfl
theorem fn_Q58:tp.fn i_Q58=some t_Q58:=rfl
theorem fn_Q59:tp.fn i_Q59=some t_Q59:=rfl
theorem fn_Q60:tp.fn i_Q60=some t_Q60:=rfl
theorem fn_Q61:tp.fn i_Q61=some t_Q61:=rfl
theorem fn_Q62:tp.fn i_Q62=some t_Q62:=rfl
theorem fn_Q63:tp.fn i_Q63=some t_Q63:=rfl
theorem fn_Q64:tp.fn i_Q64=some t_Q64:=rfl
theorem fn_Q65:tp.fn i_Q65=some t_Q65:=rfl
theorem fn_Q66:tp.fn i_Q66=some t_Q66:=rfl
theorem fn_Q67:tp.fn i_Q67=some t_Q67:=rfl
theorem fn_Q68:tp.fn i_Q68=some t_Q68:=rfl
theorem fn_Q69:tp.fn i_Q69=some t_Q69:=rfl
theorem fn_Q70:tp.fn i_Q70=some t_Q70:=rfl
theorem fn_Q71:tp.fn i_Q71=some t_Q71:=rfl
theorem fn_Q72:tp.fn i_Q72=some t_Q72:=rfl
theorem fn_Q73:tp.fn i_Q73=some t_Q73:=rfl
theorem fn_Q74:tp.fn i_Q74=some t_Q74:=rfl
theorem fn_Q75:tp.fn i_Q75=some t_Q75:=rfl
theorem fn_Q76:tp.fn i_Q76=some t_Q76:=rfl
theorem fn_Q77:tp.fn i_Q77=some t_Q77:=rfl
theorem fn_Q78:tp.fn i_Q78=some t_Q78:=rfl
theorem fn_Q79:tp.fn i_Q79=some t_Q79:=rfl
theorem fn_Q80:tp.fn i_Q80=some t_Q80:=rfl
theorem fn_Q81:tp.fn i_Q81=some t_Q81:=rfl
theorem fn_Q82:tp.fn i_Q82=some t_Q82:=rfl
theorem fn_Q83:tp.fn i_Q83=some t_Q83:=rfl
theorem fn_Q84:tp.fn i_Q84=some t_Q84:=rfl
theorem fn_Q85:tp.fn i_Q85=some t_Q85:=rfl
theorem fn_Q86:tp.fn i_Q86=some t_Q86:=rfl
theorem fn_Q87:tp.fn i_Q87=some t_Q87:=rfl
theorem fn_Q88:tp.fn i_Q88=some t_Q88:=rfl
theorem fn_Q89:tp.fn i_Q89=some t_Q89:=rfl
theorem fn_Q90:tp.fn i_Q90=some t_Q90:=rfl
theorem fn_Q91:tp.fn i_Q91=some t_Q91:=rfl
theorem fn_Q92:tp.fn i_Q92=some t_Q92:=rfl
theorem fn_Q93:tp.fn i_Q93=some t_Q93:=rfl
theorem fn_Q94:tp.fn i_Q94=some t_Q94:=rfl
theorem fn_Q95:tp.fn i_Q95=some t_Q95:=rfl
theorem fn_Q96:tp.fn i_Q96=some t_Q96:=rfl
theorem fn_Q97:tp.fn i_Q97=some t_Q97:=rfl
theorem fn_Q98:tp.fn i_Q98=some t_Q98:=rfl
theorem fn_Q99:tp.fn i_Q99=some t_Q99:=rfl
theorem fn_Q100:tp.fn i_Q100=some t_Q100:=rfl
theorem fn_Q101:tp.fn i_Q101=some t_Q101:=rfl
theorem fn_Q102:tp.fn i_Q102=some t_Q102:=rfl
theorem fn_Q103:tp.fn i_Q103=some t_Q103:=rfl
theorem fn_Q104:tp.fn i_Q104=some t_Q104:=rfl
theorem fn_Q105:tp.fn i_Q105=some t_Q105:=rfl
theorem fn_Q106:tp.fn i_Q106=some t_Q106:=rfl
theorem fn_Q107:tp.fn i_Q107=some t_Q107:=rfl
theorem fn_Q108:tp.fn i_Q108=some t_Q108:=rfl
end Go.Ab.T
