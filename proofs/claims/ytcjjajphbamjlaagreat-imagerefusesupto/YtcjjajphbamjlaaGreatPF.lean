/- Part of a proof that a law returns true for every input of the second form's bound (no other condition). -/
import Derived.Test.YtcjjajphbamjlaaGreatPE
set_option linter.all false
/- The abstract machine's text of the functions, its regions as numbers. Written by a tool. -/
namespace Go.Ab.T
open Go Go.Ab
set_option maxRecDepth 100000
abbrev i_Q0:Nat:=10
abbrev i_Q1:Nat:=12
abbrev i_Q2:Nat:=14
abbrev i_Q3:Nat:=15
abbrev i_Q4:Nat:=17
abbrev i_Q5:Nat:=21
abbrev i_Q6:Nat:=29
abbrev i_Q7:Nat:=39
abbrev i_Q8:Nat:=40
abbrev i_Q9:Nat:=41
abbrev i_Q10:Nat:=43
abbrev i_Q11:Nat:=44
abbrev i_Q12:Nat:=45
abbrev i_Q13:Nat:=46
abbrev i_Q14:Nat:=47
abbrev i_Q15:Nat:=48
abbrev i_Q16:Nat:=49
abbrev i_Q17:Nat:=50
abbrev i_Q18:Nat:=51
abbrev i_Q19:Nat:=54
abbrev i_Q20:Nat:=55
abbrev i_Q21:Nat:=56
abbrev i_Q22:Nat:=57
abbrev i_Q23:Nat:=58
abbrev i_Q24:Nat:=59
abbrev i_Q25:Nat:=60
abbrev i_Q26:Nat:=61
abbrev i_Q27:Nat:=80
abbrev i_Q28:Nat:=85
abbrev i_Q29:Nat:=86
abbrev i_Q30:Nat:=87
abbrev i_Q31:Nat:=88
abbrev i_Q32:Nat:=89
abbrev i_Q33:Nat:=90
abbrev i_Q34:Nat:=91
abbrev i_Q35:Nat:=92
abbrev i_Q36:Nat:=93
abbrev i_Q37:Nat:=94
abbrev i_Q38:Nat:=95
abbrev i_Q39:Nat:=96
abbrev i_Q40:Nat:=97
abbrev i_Q41:Nat:=98
abbrev i_Q42:Nat:=107
abbrev i_Q43:Nat:=108
abbrev i_Q44:Nat:=109
abbrev i_Q45:Nat:=110
abbrev i_Q46:Nat:=111
abbrev i_Q47:Nat:=112
abbrev i_Q48:Nat:=113
abbrev i_Q49:Nat:=129
abbrev i_Q50:Nat:=136
abbrev i_Q51:Nat:=137
abbrev i_Q52:Nat:=138
abbrev i_Q53:Nat:=139
abbrev i_Q54:Nat:=140
abbrev i_Q55:Nat:=141
abbrev i_Q56:Nat:=142
abbrev i_Q57:Nat:=143
abbrev i_Q58:Nat:=144
abbrev i_Q59:Nat:=145
abbrev i_Q60:Nat:=146
abbrev i_Q61:Nat:=147
abbrev i_Q62:Nat:=148
abbrev i_Q63:Nat:=149
abbrev i_Q64:Nat:=150
abbrev i_Q65:Nat:=151
abbrev i_Q66:Nat:=152
abbrev i_Q67:Nat:=153
abbrev i_Q68:Nat:=154
abbrev i_Q69:Nat:=155
abbrev i_Q70:Nat:=156
abbrev i_Q71:Nat:=157
abbrev i_Q72:Nat:=165
abbrev i_Q73:Nat:=166
abbrev i_Q74:Nat:=167
abbrev i_Q75:Nat:=168
abbrev i_Q76:Nat:=169
abbrev i_Q77:Nat:=170
abbrev i_Q78:Nat:=178
abbrev i_Q79:Nat:=184
abbrev i_Q80:Nat:=185
abbrev i_Q81:Nat:=186
abbrev i_Q82:Nat:=189
abbrev i_Q83:Nat:=190
abbrev i_Q84:Nat:=191
abbrev i_Q85:Nat:=192
abbrev i_Q86:Nat:=193
abbrev i_Q87:Nat:=194
abbrev i_Q88:Nat:=195
abbrev i_Q89:Nat:=196
abbrev i_Q90:Nat:=197
abbrev i_Q91:Nat:=198
abbrev i_Q92:Nat:=199
abbrev i_Q93:Nat:=200
abbrev i_Q94:Nat:=201
abbrev i_Q95:Nat:=203
abbrev i_Q96:Nat:=204
abbrev i_Q97:Nat:=205
abbrev i_Q98:Nat:=206
abbrev i_Q99:Nat:=209
abbrev i_Q100:Nat:=212
abbrev i_Q101:Nat:=213
abbrev i_Q102:Nat:=214
abbrev i_Q103:Nat:=215
abbrev i_Q104:Nat:=216
abbrev i_Q105:Nat:=217
abbrev i_Q106:Nat:=218
def wrs:List Nat:=[i_Q14,i_Q6,i_Q15,i_Q16,i_Q1,i_Q94,i_Q66,i_Q38,i_Q64,i_Q62,i_Q59,i_Q61,i_Q92,i_Q60,i_Q33]
def xgt {α:Type} (z:α):List α→Nat→α
 | [],_=>z
 | x::_,0=>x
 | _::l,n+1=>xgt z l n
def xgi:Nat→Int:=xgt 0 [0,1,2,3,4,5,6,7,8,9,10,11,12,13,14,15,16,17,18,19,20,21,22,23,24,25,26,27,28,29,30,31]
def xsh0:List ((Nat→Nat)→O):=[fun p=>.mv (.t (p 0)),
fun p=>.fad (p 0) (.t (p 1)),
fun p=>.load 1 false (.t (p 0)),
fun p=>.mv (.c (.i .i64 (xgi (p 0)))),
fun p=>.len (.t (p 0)),
fun p=>.bin .add (.t (p 0)) (.c (.i .i64 (xgi (p 1)))),
fun p=>.bin .lss (.t (p 0)) (.t (p 1)),
fun p=>.pick (.t (p 0)) (.c (.b true)) (.t (p 1)),
fun p=>.bin .eql (.t (p 0)) (.c (.i .i64 (xgi (p 1)))),
fun p=>.pick (.t (p 0)) (.t (p 1)) (.c (.b false)),
fun p=>.nck (.t (p 0)),
fun p=>.mv (.c (.b false)),
fun p=>.bin .lss (.t (p 0)) (.c (.i .i64 (xgi (p 1)))),
fun p=>.mv (.c .ns),
fun p=>.store 1 (.t (p 0)) (.t (p 1)),
fun p=>.load 3 true (.t (p 0)),
fun p=>.iad 1 (.t (p 0)) (.t (p 1)),
fun p=>.bin .sub (.t (p 0)) (.c (.i .i64 (xgi (p 1)))),
fun p=>.box (.t (p 0)),
fun p=>.bin .gtr (.t (p 0)) (.c (.i .i64 (xgi (p 1)))),
fun p=>.un .not (.t (p 0)),
fun p=>.ext (.t (p 0)) 0,
fun p=>.ext (.t (p 0)) 1,
fun p=>.bin .add (.t (p 0)) (.t (p 1))]
def xsh1:List ((Nat→Nat)→O):=[fun p=>.iad 2 (.t (p 0)) (.t (p 1)),
fun p=>.iad 3 (.t (p 0)) (.t (p 1)),
fun p=>.call (.fn i_Q14) [(.t (p 0)),(.c (.i .i64 (xgi (p 1))))],
fun p=>.load 2 true (.t (p 0)),
fun p=>.store 3 (.t (p 0)) (.t (p 1)),
fun p=>.bin .neq (.t (p 0)) (.c (.i .i64 (xgi (p 1)))),
fun p=>.store 2 (.t (p 0)) (.t (p 1)),
fun p=>.bin .geq (.t (p 0)) (.c (.i .i64 (xgi (p 1)))),
fun p=>.alloc [(.i .i64 0),(.i .i64 0)],
fun p=>.alloc [.ns,.ns,.ns],
fun p=>.iad 6 (.t (p 0)) (.t (p 1)),
fun p=>.app 1 (.t (p 0)) (.t (p 1)),
fun p=>.bin .neq (.t (p 0)) (.t (p 1)),
fun p=>.iad 11 (.t (p 0)) (.t (p 1)),
fun p=>.bin .geq (.t (p 0)) (.t (p 1)),
fun p=>.load 11 true (.t (p 0)),
fun p=>.load 6 true (.t (p 0)),
fun p=>.mv (.c (.i .i64 (-1))),
fun p=>.chk 1 false (.t (p 0)) (.t (p 1)),
fun p=>.bin .eql (.t (p 0)) (.t (p 1)),
fun p=>.bin .sub (.t (p 0)) (.t (p 1)),
fun p=>.call (.fn i_Q55) [(.t (p 0)),(.t (p 1))],
fun p=>.call (.fn i_Q59) [(.t (p 0)),(.c (.i .i64 (xgi (p 1))))],
fun p=>.bin .add (.c (.i .i64 (xgi (p 0)))) (.t (p 1))]
def xsh2:List ((Nat→Nat)→O):=[fun p=>.bsl 2 [(.i .i64 0),(.i .i64 0)] 1 [(0,(.t (p 0)))],
fun p=>.mv (.c (.b true)),
fun p=>.conv .u8 (.t (p 0)),
fun p=>.app 2 (.t (p 0)) (.t (p 1)),
fun p=>.alloc [(.s ⟨#[]⟩),(.i .i64 0),(.i .i64 0),(.b false),(.b false),.ns,(.i .i64 0),(.i .i64 0),(.i .i64 0),(.i .i64 0),(.i .i64 0)],
fun p=>.store 11 (.t (p 0)) (.t (p 1)),
fun p=>.fload 1 false (.t (p 0)),
fun p=>.store 6 (.t (p 0)) (.t (p 1)),
fun p=>.bsl 1 [(.i .i64 0)] 1 [(0,(.t (p 0)))],
fun p=>.bin .rem (.t (p 0)) (.t (p 1)),
fun p=>.bin .gtr (.t (p 0)) (.t (p 1)),
fun p=>.mx [(.t (p 0)),(.t (p 1))],
fun p=>.slen (.t (p 0)),
fun p=>.build [(.i .i64 0),(.i .i64 0)] [(0,1,(.t (p 0))),(1,1,(.t (p 1)))],
fun p=>.alloc [(.i .i64 0),(.i .i64 0),(.b false),(.i .i64 0),(.i .u32 0),(.i .i64 0)],
fun p=>.bsl 3 [(.i .i64 0),(.i .i64 0),(.i .i64 0)] 1 [(0,(.t (p 0)))],
fun p=>.sidx (.t (p 0)) (.t (p 1)),
fun p=>.call (.fn i_Q10) [(.t (p 0))],
fun p=>.call (.fn i_Q11) [(.t (p 0))],
fun p=>.e0,
fun p=>.build [.ns,.ns,.ns] [],
fun p=>.mn [(.t (p 0)),(.t (p 1))],
fun p=>.store 1 (.t (p 0)) (.c (.i .i64 (xgi (p 1)))),
fun p=>.load 5 true (.t (p 0))]
def xsh3:List ((Nat→Nat)→O):=[fun p=>.slice 1 (.t (p 0)) none (some (.t (p 1))) none,
fun p=>.call (.fn i_Q62) [(.t (p 0))],
fun p=>.bin .leq (.t (p 0)) (.c (.i .i64 4096)),
fun p=>.mn [(.c (.i .i64 4097)),(.t (p 0))],
fun p=>.conv .u64 (.t (p 0)),
fun p=>.bin .xor (.t (p 0)) (.t (p 1)),
fun p=>.call (.fn i_Q14) [(.t (p 0)),(.t (p 1))],
fun p=>.bsl 1 [.ns] 1 [(0,(.t (p 0)))],
fun p=>.app 3 (.t (p 0)) (.t (p 1)),
fun p=>.mv (.c (.i .u32 0)),
fun p=>.bsl 1 [(.i .i64 0)] 2 [(0,(.t (p 0))),(1,(.t (p 1)))],
fun p=>.mn [(.t (p 0)),(.c (.i .i64 4097))],
fun p=>.bin .leq (.t (p 0)) (.c (.i .i64 (xgi (p 1)))),
fun p=>.mv (.c (.s ⟨#[]⟩)),
fun p=>.bsl 11 [(.s ⟨#[]⟩),(.i .i64 0),(.i .i64 0),(.b false),(.b false),.ns,(.i .i64 0),(.i .i64 0),(.i .i64 0),(.i .i64 0),(.i .i64 0)] 1 [(0,(.t (p 0)))],
fun p=>.chkb 1 [(.i .u32 0)] 3 [(0,(.c (.i .u32 4294967295))),(1,(.c (.i .u32 200))),(2,(.c (.i .u32 3)))] (.t (p 0)),
fun p=>.chka [(.i .i64 0),(.i .i64 0),(.b false),(.i .i64 0),(.i .u32 0),(.i .i64 0)] (.t (p 0)),
fun p=>.app 6 (.t (p 0)) (.t (p 1)),
fun p=>.build [(.i .i64 0),(.i .i64 0),(.i .i64 0)] [(0,1,(.c (.i .i64 (xgi (p 0))))),(2,1,(.t (p 1)))],
fun p=>.bin .shr (.t (p 0)) (.c (.i .u64 8)),
fun p=>.build [(.i .i64 0),(.i .i64 0),(.i .i64 0)] [(0,1,(.c (.i .i64 (xgi (p 0))))),(2,1,(.c (.i .i64 (xgi (p 1)))))],
fun p=>.bin .leq (.t (p 0)) (.t (p 1)),
fun p=>.call (.fn i_Q35) [(.t (p 0)),(.t (p 1))],
fun p=>.call (.fn i_Q2) [(.t (p 0))]]
def xsh4:List ((Nat→Nat)→O):=[fun p=>.iad 1 (.t (p 0)) (.c (.i .i64 (xgi (p 1)))),
fun p=>.mx [(.t (p 0)),(.c (.i .i64 (xgi (p 1))))],
fun p=>.call (.fn i_Q43) [(.t (p 0))],
fun p=>.call (.fn i_Q45) [(.t (p 0))],
fun p=>.call (.fn i_Q57) [(.t (p 0)),(.t (p 1))],
fun p=>.idx 1 5 false (.t (p 0)) (.t (p 1)),
fun p=>.conv .i64 (.t (p 0)),
fun p=>.slice 1 (.t (p 0)) (some (.t (p 1))) none none,
fun p=>.call (.fn i_Q61) [(.t (p 0))],
fun p=>.conv .u32 (.t (p 0)),
fun p=>.mv (.c .np),
fun p=>.call (.fn i_Q67) [(.t (p 0)),(.t (p 1))],
fun p=>.call (.fn i_Q69) [(.t (p 0)),(.t (p 1))],
fun p=>.mx [(.c (.i .i64 (xgi (p 0)))),(.t (p 1))],
fun p=>.call (.fn i_Q77) [(.t (p 0)),(.t (p 1))],
fun p=>.store 1 (.t (p 0)) (.c (.b true)),
fun p=>.call (.fn i_Q12) [(.t (p 0)),(.t (p 1))],
fun p=>.iada 1 5 (.t (p 0)) (.t (p 1)),
fun p=>.app 11 (.t (p 0)) (.t (p 1)),
fun p=>.bsl 6 [(.i .i64 0),(.i .i64 0),(.b false),(.i .i64 0),(.i .u32 0),(.i .i64 0)] 1 [(0,(.t (p 0)))],
fun p=>.bin .gtr (.t (p 0)) (.c (.i .i64 96)),
fun p=>.call (.fn i_Q24) [(.t (p 0)),(.t (p 1))],
fun p=>.call (.fn i_Q25) [(.t (p 0)),(.t (p 1)),(.t (p 2))],
fun p=>.call (.fn i_Q26) [(.t (p 0)),(.t (p 1)),(.t (p 2))]]
def xsh5:List ((Nat→Nat)→O):=[fun p=>.call (.fn i_Q6) [(.t (p 0)),(.t (p 1)),(.t (p 2))],
fun p=>.bin .shr (.t (p 0)) (.c (.i .u64 24)),
fun p=>.bin .shr (.t (p 0)) (.c (.i .u64 16)),
fun p=>.bsl 1 [(.i .u8 0)] 4 [(0,(.t (p 0))),(1,(.t (p 1))),(2,(.t (p 2))),(3,(.t (p 3)))],
fun p=>.build [(.i .i64 0),(.i .i64 0)] [],
fun p=>.bsl 1 [(.i .u8 0)] 4 [(0,(.c (.i .u8 72))),(1,(.c (.i .u8 79))),(2,(.c (.i .u8 82))),(3,(.c (.i .u8 65)))],
fun p=>.mark (.t (p 0)),
fun p=>.call (.fn i_Q13) [(.t (p 0))],
fun p=>.call (.fn i_Q3) [(.t (p 0))],
fun p=>.call (.fn i_Q19) [(.t (p 0))],
fun p=>.bin .gtr (.t (p 0)) (.c (.i .i64 128)),
fun p=>.eq false .sl (.t (p 0)) (.c .ns),
fun p=>.bin .sub (.c (.i .i64 9223372036854775807)) (.t (p 0)),
fun p=>.mv (.c (.i .i64 9223372036854775807)),
fun p=>.call (.fn i_Q48) [(.t (p 0))],
fun p=>.slice 1 (.t (p 0)) (some (.t (p 1))) (some (.t (p 2))) none,
fun p=>.mv (.c (.i .u32 4294967295)),
fun p=>.un .xor (.t (p 0)),
fun p=>.call (.fn i_Q54) [(.t (p 0))],
fun p=>.call (.fn i_Q53) [(.t (p 0))],
fun p=>.call (.fn i_Q52) [(.t (p 0))],
fun p=>.bsl 1 [(.i .i64 0)] 3 [(0,(.t (p 0))),(1,(.t (p 1))),(2,(.t (p 2)))],
fun p=>.alloc [(.i .i64 0),(.i .i64 0),(.i .i64 0)],
fun p=>.call (.fn i_Q70) [(.t (p 0))]]
def xsh6:List ((Nat→Nat)→O):=[fun p=>.call (.fn i_Q72) [(.t (p 0))],
fun p=>.bin .gtr (.t (p 0)) (.c (.i .i64 4096)),
fun p=>.call (.fn i_Q47) [(.t (p 0)),(.t (p 1)),(.t (p 2))],
fun p=>.bin .shl (.t (p 0)) (.c (.i .u64 24)),
fun p=>.bin .shr (.t (p 0)) (.c (.i .u64 31)),
fun p=>.bin .shl (.t (p 0)) (.c (.i .u64 1)),
fun p=>.nck (.c .np),
fun p=>.call (.fn i_Q90) [(.t (p 0)),(.t (p 1))],
fun p=>.call (.fn i_Q90) [(.t (p 0)),(.c (.i .i64 (xgi (p 1))))],
fun p=>.call (.fn i_Q93) [(.t (p 0))],
fun p=>.eq true .b (.t (p 0)) (.t (p 1)),
fun p=>.bsl 6 [(.i .i64 0),(.i .i64 0),(.i .i64 0),(.i .i64 0),(.i .i64 0),(.i .i64 0)] 1 [(0,(.t (p 0)))],
fun p=>.call (.fn i_Q95) [(.t (p 0))],
fun p=>.iad 6 (.t (p 0)) (.c (.i .i64 (xgi (p 1)))),
fun p=>.bin .mul (.t (p 0)) (.t (p 1)),
fun p=>.call (.fn i_Q74) [(.t (p 0)),(.t (p 1))],
fun p=>.call (.fn i_Q102) [(.t (p 0)),(.t (p 1))],
fun p=>.cap (.t (p 0)),
fun p=>.bsl 1 [(.i .u8 0)] 1 [(0,(.t (p 0)))],
fun p=>.mv (.c (.i .u64 0)),
fun p=>.un .neg (.t (p 0)),
fun p=>.bin .leq (.t (p 0)) (.c (.i .i64 128)),
fun p=>.call (.t (p 0)) [(.t (p 1))],
fun p=>.build [.ns,(.i .i64 0)] [(0,1,(.t (p 0)))]]
def xsh7:List ((Nat→Nat)→O):=[fun p=>.call (.fn i_Q1) [(.t (p 0))],
fun p=>.call (.fn i_Q9) [(.t (p 0)),(.c (.i .i64 (xgi (p 1)))),(.t (p 2))],
fun p=>.bin .and (.t (p 0)) (.c (.i .i64 (xgi (p 1)))),
fun p=>.bin .shl (.c (.i .u8 1)) (.t (p 0)),
fun p=>.bsl 1 [(.i .u8 0)] 1 [(0,(.c (.i .u8 1)))],
fun p=>.call (.fn i_Q8) [],
fun p=>.bin .add (.c (.i .i64 97)) (.t (p 0)),
fun p=>.conv .i32 (.t (p 0)),
fun p=>.i2s (.t (p 0)),
fun p=>.bin .add (.c (.s ⟨#[112]⟩)) (.t (p 0)),
fun p=>.build [(.s ⟨#[]⟩),(.i .i64 0),(.i .i64 0),(.b false),(.b false),.ns,(.i .i64 0),(.i .i64 0),(.i .i64 0),(.i .i64 0),(.i .i64 0)] [(0,1,(.t (p 0))),(3,1,(.t (p 1))),(4,1,(.t (p 2)))],
fun p=>.bin .mul (.c (.i .i64 (xgi (p 0)))) (.t (p 1)),
fun p=>.bsl 1 [(.i .i64 0)] 5 [(0,(.c (.i .i64 (xgi (p 0))))),(1,(.c (.i .i64 (xgi (p 1))))),(2,(.c (.i .i64 (xgi (p 2))))),(3,(.c (.i .i64 (xgi (p 3))))),(4,(.c (.i .i64 (xgi (p 4)))))],
fun p=>.bslc 1 [(.i .u32 0)] 3 [(0,(.c (.i .u32 4294967295))),(1,(.c (.i .u32 200))),(2,(.c (.i .u32 3)))],
fun p=>.alc [(.i .i64 0),(.i .i64 0),(.b false),(.i .i64 0),(.i .u32 0),(.i .i64 0)],
fun p=>.build [(.i .i64 0),(.i .i64 0),(.b false),(.i .i64 0),(.i .u32 0),(.i .i64 0)] [(0,1,(.t (p 0))),(1,1,(.t (p 1))),(2,1,(.t (p 2))),(4,1,(.t (p 3)))],
fun p=>.call (.fn i_Q15) [(.t (p 0)),(.t (p 1))],
fun p=>.call (.fn i_Q16) [(.t (p 0)),(.t (p 1))],
fun p=>.call (.fn i_Q21) [(.t (p 0))],
fun p=>.call (.fn i_Q23) [(.t (p 0))],
fun p=>.call (.fn i_Q22) [(.t (p 0))],
fun p=>.eq true (.agg [.i,.i,.i]) (.t (p 0)) (.t (p 1)),
fun p=>.build [(.i .i64 0),(.i .i64 0),(.i .i64 0)] [(0,1,(.c (.i .i64 (xgi (p 0))))),(1,1,(.t (p 1))),(2,1,(.t (p 2)))],
fun p=>.call (.fn i_Q28) [(.t (p 0))]]
def xsh8:List ((Nat→Nat)→O):=[fun p=>.build [(.s ⟨#[]⟩),(.i .i64 0),(.i .i64 0),(.b false),(.b false),.ns,(.i .i64 0),(.i .i64 0),(.i .i64 0),(.i .i64 0),(.i .i64 0)] [(0,1,(.c (.s ⟨#[97]⟩))),(5,1,(.t (p 0)))],
fun p=>.build [.ns,.ns,.ns] [(0,1,(.t (p 0))),(2,1,(.t (p 1)))],
fun p=>.call (.fn i_Q11) [(.c .ns)],
fun p=>.call (.fn i_Q7) [(.t (p 0))],
fun p=>.call (.fn i_Q29) [(.t (p 0))],
fun p=>.call (.fn i_Q31) [(.t (p 0))],
fun p=>.call (.fn i_Q30) [(.t (p 0))],
fun p=>.call (.fn i_Q32) [(.t (p 0))],
fun p=>.slice 1 (.t (p 0)) (some (.c (.i .i64 (xgi (p 1))))) none none,
fun p=>.call (.fn i_Q34) [(.t (p 0))],
fun p=>.call (.fn i_Q33) [(.t (p 0))],
fun p=>.call (.fn i_Q36) [(.t (p 0)),(.t (p 1))],
fun p=>.call (.fn i_Q5) [(.t (p 0)),(.t (p 1))],
fun p=>.call (.fn i_Q9) [(.t (p 0)),(.c (.i .i64 (xgi (p 1)))),(.c (.i .i64 1073741824))],
fun p=>.call (.fn i_Q6) [(.t (p 0)),(.t (p 1)),(.c (.i .i64 (xgi (p 2))))],
fun p=>.bin .gtr (.t (p 0)) (.c (.i .i64 90)),
fun p=>.build [(.i .i64 0),(.i .i64 0),(.i .i64 0)] [(0,1,(.c (.i .i64 (xgi (p 0))))),(1,1,(.t (p 1))),(2,1,(.c (.i .i64 (xgi (p 2)))))],
fun p=>.bsl 3 [(.i .i64 0),(.i .i64 0),(.i .i64 0)] 3 [(0,(.t (p 0))),(1,(.t (p 1))),(2,(.t (p 2)))],
fun p=>.mn [(.t (p 0)),(.c (.i .i64 4096))],
fun p=>.bin .quo (.t (p 0)) (.t (p 1)),
fun p=>.mv (.c (.i .i64 4096)),
fun p=>.call (.fn i_Q27) [(.t (p 0))],
fun p=>.call (.fn i_Q37) [(.t (p 0))],
fun p=>.call (.fn i_Q38) [(.t (p 0))]]
def xsh9:List ((Nat→Nat)→O):=[fun p=>.call (.fn i_Q39) [(.t (p 0))],
fun p=>.call (.fn i_Q40) [(.t (p 0)),(.t (p 1)),(.t (p 2))],
fun p=>.bin .eql (.t (p 0)) (.c (.i .i64 (-1))),
fun p=>.call (.fn i_Q41) [(.t (p 0)),(.t (p 1)),(.t (p 2))],
fun p=>.call (.fn i_Q42) [(.t (p 0))],
fun p=>.call (.fn i_Q44) [(.t (p 0))],
fun p=>.call (.fn i_Q46) [(.t (p 0))],
fun p=>.call (.fn i_Q47) [(.t (p 0)),(.c (.i .i64 (xgi (p 1)))),(.c .ns)],
fun p=>.call (.fn i_Q49) [(.t (p 0))],
fun p=>.call (.fn i_Q50) [(.t (p 0)),(.t (p 1))],
fun p=>.call (.fn i_Q51) [(.t (p 0))],
fun p=>.bsl 1 [.ns] 2 [(0,(.t (p 0))),(1,(.t (p 1)))],
fun p=>.call (.fn i_Q56) [(.t (p 0)),(.t (p 1))],
fun p=>.call (.fn i_Q58) [(.t (p 0))],
fun p=>.call (.fn i_Q60) [(.t (p 0))],
fun p=>.build [(.i .i64 0),(.i .i64 0),(.b false),(.i .i64 0),(.i .u32 0),(.i .i64 0)] [(0,1,(.t (p 0))),(1,1,(.t (p 1))),(2,1,(.t (p 2))),(3,1,(.t (p 3)))],
fun p=>.call (.fn i_Q59) [(.t (p 0)),(.c (.i .i64 4294967295))],
fun p=>.call (.fn i_Q59) [(.t (p 0)),(.c (.i .i64 128))],
fun p=>.build [(.i .i64 0),(.i .i64 0),(.i .i64 0)] [(0,1,(.t (p 0))),(1,1,(.t (p 1))),(2,1,(.t (p 2)))],
fun p=>.build [.ns,(.b false)] [(0,1,(.t (p 0)))],
fun p=>.call (.fn i_Q63) [(.t (p 0)),(.t (p 1))],
fun p=>.eq true (.agg [.i,.i,.b,.i,.i,.i]) (.t (p 0)) (.t (p 1)),
fun p=>.call (.fn i_Q20) [(.t (p 0))],
fun p=>.build [.ns,.ns,(.i .i64 0),(.i .i64 0),(.i .i64 0)] [(0,1,(.t (p 0)))]]
def xsh10:List ((Nat→Nat)→O):=[fun p=>.call (.fn i_Q64) [(.t (p 0))],
fun p=>.call (.fn i_Q65) [(.t (p 0))],
fun p=>.call (.fn i_Q66) [(.t (p 0))],
fun p=>.call (.fn i_Q68) [(.t (p 0))],
fun p=>.call (.fn i_Q71) [(.t (p 0)),(.t (p 1)),(.t (p 2))],
fun p=>.call (.fn i_Q73) [(.t (p 0)),(.c (.i .i64 (xgi (p 1))))],
fun p=>.call (.fn i_Q74) [(.t (p 0)),(.c (.i .i64 (xgi (p 1))))],
fun p=>.call (.fn i_Q75) [(.t (p 0)),(.c (.i .i64 (xgi (p 1))))],
fun p=>.call (.fn i_Q76) [(.t (p 0)),(.c (.i .i64 (xgi (p 1))))],
fun p=>.build [(.i .i64 0),(.i .i64 0)] [(0,1,(.c (.i .i64 (-1)))),(1,1,(.t (p 0)))],
fun p=>.bin .lss (.t (p 0)) (.c (.i .i64 8192)),
fun p=>.call (.fn i_Q79) [(.t (p 0))],
fun p=>.call (.fn i_Q80) [(.t (p 0))],
fun p=>.call (.fn i_Q81) [(.t (p 0)),(.t (p 1))],
fun p=>.call (.fn i_Q4) [(.t (p 0)),(.t (p 1))],
fun p=>.bin .eql (.t (p 0)) (.c (.i .u32 1)),
fun p=>.bin .xor (.t (p 0)) (.c (.i .u32 79764919)),
fun p=>.call (.fn i_Q82) [(.t (p 0))],
fun p=>.slice 11 (.t (p 0)) none (some (.t (p 1))) none,
fun p=>.mkfn (.func i_Q84) [] [(.t (p 0))],
fun p=>.call (.fn i_Q83) [(.t (p 0)),(.t (p 1))],
fun p=>.call (.fn i_Q85) [(.t (p 0))],
fun p=>.call (.fn i_Q86) [(.t (p 0)),(.t (p 1))],
fun p=>.call (.fn i_Q87) [(.t (p 0)),(.t (p 1))]]
def xsh11:List ((Nat→Nat)→O):=[fun p=>.mkif 9 (.c (.s ⟨#[108,101,110,32,111,117,116,32,111,102,32,114,97,110,103,101]⟩)),
fun p=>.call (.fn i_Q88) [(.c .ns),(.t (p 0))],
fun p=>.call (.fn i_Q89) [(.t (p 0)),(.t (p 1))],
fun p=>.call (.fn i_Q91) [(.t (p 0))],
fun p=>.call (.fn i_Q92) [(.t (p 0)),(.c (.i .i64 (xgi (p 1))))],
fun p=>.build [(.s ⟨#[]⟩),(.i .i64 0),(.i .i64 0),(.b false),(.b false),.ns,(.i .i64 0),(.i .i64 0),(.i .i64 0),(.i .i64 0),(.i .i64 0)] [(0,1,(.t (p 0))),(1,1,(.t (p 1))),(2,1,(.t (p 2))),(3,1,(.t (p 3))),(4,1,(.t (p 4)))],
fun p=>.call (.fn i_Q59) [(.t (p 0)),(.c (.i .i64 512))],
fun p=>.call (.fn i_Q59) [(.t (p 0)),(.c (.i .i64 255))],
fun p=>.eq true (.agg [.i,.i,.i,.i,.i]) (.t (p 0)) (.t (p 1)),
fun p=>.eq true (.agg [.i,.i]) (.t (p 0)) (.t (p 1)),
fun p=>.store 1 (.t (p 0)) (.c .ns),
fun p=>.call (.fn i_Q94) [(.t (p 0)),(.c (.i .i64 (xgi (p 1))))],
fun p=>.call (.fn i_Q94) [(.t (p 0)),(.t (p 1))],
fun p=>.slice 2 (.t (p 0)) none (some (.t (p 1))) none,
fun p=>.slice 2 (.t (p 0)) none (some (.t (p 1))) (some (.t (p 2))),
fun p=>.iad 2 (.t (p 0)) (.c (.i .i64 (xgi (p 1)))),
fun p=>.build [(.i .i64 0),(.i .i64 0),(.i .i64 0),(.i .i64 0),(.i .i64 0),(.i .i64 0)] [(3,1,(.c (.i .i64 (xgi (p 0)))))],
fun p=>.build [(.i .i64 0),(.i .i64 0),(.i .i64 0),(.i .i64 0),(.i .i64 0),(.i .i64 0)] [(0,3,(.t (p 0))),(3,1,(.t (p 1)))],
fun p=>.alloc [(.i .i64 0),(.i .i64 0),(.i .i64 0),(.i .i64 0),(.i .i64 0),(.i .i64 0)],
fun p=>.slice 6 (.t (p 0)) none (some (.t (p 1))) none,
fun p=>.call (.fn i_Q96) [(.t (p 0)),(.t (p 1))],
fun p=>.call (.fn i_Q97) [(.t (p 0)),(.t (p 1))],
fun p=>.call (.fn i_Q98) [(.t (p 0))],
fun p=>.call (.fn i_Q75) [(.t (p 0)),(.t (p 1))]]
def xsh12:List ((Nat→Nat)→O):=[fun p=>.call (.fn i_Q76) [(.t (p 0)),(.t (p 1))],
fun p=>.call (.fn i_Q99) [(.t (p 0)),(.t (p 1))],
fun p=>.bin .geq (.t (p 0)) (.c (.i .u8 48)),
fun p=>.bin .leq (.t (p 0)) (.c (.i .u8 57)),
fun p=>.bin .eql (.t (p 0)) (.c (.i .u8 95)),
fun p=>.bin .lss (.t (p 0)) (.c (.i .u8 97)),
fun p=>.bin .gtr (.t (p 0)) (.c (.i .u8 122)),
fun p=>.bin .geq (.t (p 0)) (.c (.i .i64 512)),
fun p=>.bin .gtr (.t (p 0)) (.c (.i .i64 255)),
fun p=>.bin .geq (.t (p 0)) (.c (.i .u8 97)),
fun p=>.bin .leq (.t (p 0)) (.c (.i .u8 122)),
fun p=>.bin .lss (.t (p 0)) (.c (.i .u8 48)),
fun p=>.bin .gtr (.t (p 0)) (.c (.i .u8 57)),
fun p=>.bin .neq (.t (p 0)) (.c (.i .u8 95)),
fun p=>.call (.fn i_Q100) [(.t (p 0)),(.t (p 1))],
fun p=>.call (.fn i_Q101) [(.t (p 0))],
fun p=>.call (.fn i_Q102) [(.t (p 0)),(.c (.i .i64 4096))],
fun p=>.call (.fn i_Q17) [(.t (p 0))],
fun p=>.mkfn (.func i_Q103) [] [(.t (p 0))],
fun p=>.call (.fn i_Q78) [(.t (p 0)),(.t (p 1))],
fun p=>.call (.fn i_Q18) [(.t (p 0)),(.t (p 1))],
fun p=>.mkif 9 (.c (.s ⟨#[99,97,110,110,111,116,32,98,101,32,110,101,103,97,116,105,118,101]⟩)),
fun p=>.appz [(.i .u8 0)] (.t (p 0)) (.t (p 1)),
fun p=>.bin .mul (.c (.i .u32 79764919)) (.t (p 0))]
def xsh13:List ((Nat→Nat)→O):=[fun p=>.call (.fn i_Q104) [(.t (p 0))],
fun p=>.bin .gtr (.t (p 0)) (.c (.i .u64 0)),
fun p=>.call (.fn i_Q105) [(.t (p 0))],
fun p=>.bin .add (.t (p 0)) (.c (.i .u8 128)),
fun p=>.bsl 1 [.ns] 3 [(0,(.t (p 0))),(1,(.t (p 1))),(2,(.t (p 2)))],
fun p=>.slice 1 (.t (p 0)) none (some (.t (p 1))) (some (.t (p 2))),
fun p=>.call (.fn i_Q106) [(.t (p 0)),(.t (p 1))],
fun p=>.bin .andNot (.t (p 0)) (.c (.i .u8 128)),
fun p=>.slice 1 (.t (p 0)) (some (.c (.i .i64 (xgi (p 1))))) (some (.t (p 2))) none,
fun p=>.bin .shl (.t (p 0)) (.c (.i .u64 8)),
fun p=>.bin .or (.t (p 0)) (.t (p 1)),
fun p=>.bin .geq (.t (p 0)) (.c (.i .u8 128)),
fun p=>.call (.fn i_Q90) [(.c .ns),(.t (p 0))],
fun p=>.call (.fn i_Q102) [(.t (p 0)),(.c (.i .i64 511))],
fun p=>.call (.fn i_Q102) [(.t (p 0)),(.c (.i .i64 255))],
fun p=>.b2s (.t (p 0))]
def xshB:Nat→List ((Nat→Nat)→O)
 | 0=>xsh0
 | 1=>xsh1
 | 2=>xsh2
 | 3=>xsh3
 | 4=>xsh4
 | 5=>xsh5
 | 6=>xsh6
 | 7=>xsh7
 | 8=>xsh8
 | 9=>xsh9
 | 10=>xsh10
 | 11=>xsh11
 | 12=>xsh12
 | _=>xsh13
def shp (s:Nat) (p:Nat→Nat):O:=xgt (fun _=>.e0) (xshB (s / 24)) (s % 24) p
def nps:List Nat:=[1,2,1,1,1,2,2,2,2,2,1,0,2,0,2,1,2,2,1,2,1,1,1,2,2,2,2,1,2,2,2,2,0,0,2,2,2,2,2,1,1,0,2,2,2,2,2,2,1,0,1,2,0,2,1,2,1,2,2,2,1,2,0,1,2,1,1,0,0,2,2,1,2,1,1,1,1,2,2,1,2,0,2,1,2,0,1,1,1,2,2,1,2,2,2,1,2,2,1,1,2,2,1,2,1,1,0,2,2,2,2,1,2,2,2,1,1,2,3,3,3,1,1,4,0,0,1,1,1,1,1,1,1,0,1,3,0,1,1,1,1,3,0,1,1,1,3,1,1,1,0,2,2,1,2,1,1,2,2,2,2,1,1,0,1,1,2,1,1,3,2,1,0,0,1,1,1,1,3,2,5,0,0,4,2,2,1,1,1,2,3,1,1,2,0,1,1,1,1,1,2,1,1,2,2,2,3,1,3,3,1,2,0,1,1,1,1,3,1,3,1,1,1,2,1,2,1,2,2,1,1,4,1,1,3,1,2,2,1,1,1,1,1,1,3,2,2,2,2,1,1,1,1,2,2,1,1,1,2,1,2,1,2,2,0,1,2,1,2,5,1,1,2,2,1,2,2,2,3,2,1,2,0,2,2,2,1,2,2,2,1,1,1,1,1,1,1,1,1,1,1,1,2,1,1,1,1,2,2,0,2,1,1,1,1,1,3,3,2,1,3,1,2,1,1,1,1,1]
abbrev Rs:=List TO×List (Bool×List TO)
abbrev Rc:=Nat→Nat→Nat→Bool→Rs
def xfin (s:Nat) (d:Option Nat) (g:Option (Nat×Bool)) (l:List Nat) (r:Rs):Rs:=(⟨d,shp s (fun i=>xgt 0 l i),g⟩::r.1,r.2)
def xpar (R:Nat) (rc:Nat→List Nat→Rs):Nat→Nat→List Nat→Rs
 | 0,n,l=>rc n l
 | f+1,n,l=>xpar R rc f (n / R) (n % R::l)
def xdst (R s:Nat) (rc:Rc) (g:Option (Nat×Bool)) (gn:Nat) (gb:Bool) (p:Nat):Nat→Nat→Rs
 | 0,n=>xpar R (fun n l=>xfin s (some (p+1)) g l (rc n (p+1) gn gb)) (xgt 0 nps s) n []
 | 1,n=>xpar R (fun m l=>xfin s (some (n % R)) g l (rc m (n % R) gn gb)) (xgt 0 nps s) (n / R) []
 | _+2,n=>xpar R (fun n l=>xfin s none g l (rc n p gn gb)) (xgt 0 nps s) n []
def xgud (R s:Nat) (rc:Rc) (p gn:Nat) (gb:Bool):Nat→Nat→Rs
 | 0,n=>xdst R s rc none gn gb p (n % 3) (n / 3)
 | 1,n=>xdst R s rc (some (n % R,true)) (n % R) true p (n / R % 3) (n / R / 3)
 | 2,n=>xdst R s rc (some (n % R,false)) (n % R) false p (n / R % 3) (n / R / 3)
 | _+3,n=>xdst R s rc (some (gn,gb)) gn gb p (n % 3) (n / 3)
def xseg (b:Bool) (r:Rs):Rs:=([],(b,r.1)::r.2)
def xstp (R:Nat) (rc:Rc) (p gn:Nat) (gb:Bool):Nat→Nat→Rs
 | 0,_=>([],[])
 | 1,n=>xseg true (rc n p gn gb)
 | 2,n=>xseg false (rc n p gn gb)
 | s+3,n=>xgud R s rc p gn gb (n % 4) (n / 4)
def xdec (R:Nat):Nat→Rc
 | 0=>fun _ _ _ _=>([],[])
 | f+1=>fun n p gn gb=>xstp R (xdec R f) p gn gb (n % 331) (n / 331)
def xrad (n:Nat):Nat:=xgt 0 [32,64,128,512] (n % 4)
@[go_sem ↓] def k (n:Nat) {l:List TO} (h:(xdec (xrad n) 400 (n / 4) 511 0 true).1=l:=by conv=>lhs;cbv):List TO:=l
@[go_sem ↓] def kd (n:Nat) {l:List (Bool×List TO)} (h:(xdec (xrad n) 400 (n / 4) 511 0 true).2=l:=by conv=>lhs;cbv):List (Bool×List TO):=l
/-! horarium/horariumlaw14.ImageRefuses -/
@[go_sem] def Q0_0:=k 0x18948
@[go_sem] def Q0_1:=k 0xcc4b4bf467a167b77d9c7c90f1dc
@[go_sem] def Q0_2:=k 0x14f787152aea0387d4906385895d6963f668
@[go_sem] def Q0_3:=k 0x307be2d1d6fca03a5e4795044a6291ae07aa2e7c
@[go_sem] def Q0_4:=k 0x1a86c7e0b8e169b6170ab501c0ebc55019da3e9bbb94def1fad32dca962f121cca1493a78da66dede77a4a5cb37abd
@[go_sem] def Q0_5:=k 0x18948
@[go_sem] def Q0_6:=k 0xb0eec1bc17934b37fbd03b2eb4192de79cd
@[go_sem] def Q0_7:=k 0x31b46b3cc900f292243929
@[go_sem] def Q0_8:=k 0xbdb7dee791ffb947a6ccf7531925dd5cec318b51ae8f55264bcfb22d8ed4e4e
@[go_sem] def Q0_9:=k 0x1bc2b0f60f95a65309e5189f7b6e67fbbc6b95fc77f8fe
@[go_sem] def Q0_10:=k 0x1ba904c47c6d4dcb742362ae2f3142bc5e0927f6fe15449c5518cc2cd390fe05a
@[go_sem] def Q0_11:=k 0x105edf05a6d5516ffcd998ffd1f64d43b1ec2262570ed13b25826c1612fce
def t_Q0:TF:=⟨90,[.t 6],(.seq (.reg Q0_0) (.seq (.reg Q0_1) (.seq (.reg Q0_2) (.seq (.reg Q0_3) (.seq (.seq (.reg Q0_4) (.cond (.t 48) (.seq (.reg Q0_5) .ret) .skip)) (.seq (.reg Q0_6) (.seq (.reg Q0_7) (.seq (.reg Q0_8) (.seq (.reg Q0_9) (.seq (.reg Q0_10) (.seq (.reg Q0_11) .ret)))))))))))⟩
/-! (*horarium/horariumkeep.Tape).Config -/
@[go_sem] def Q1_0:=k 0x9160
@[go_sem] def Q1_1:=k 0xcf70
@[go_sem] def Q1_2:=k 0x1ac4b521004d58d0cc67b8c
@[go_sem] def Q1_3:=k 0x14b18
@[go_sem] def Q1_4:=k 0x3c4cbbd343b77fbc
@[go_sem] def Q1_5:=k 0x43bcf9e0696fd40d115782e1dd838a9da31f35b1c7a1a9d51ca994f661722749b2d1437c00d
@[go_sem] def Q1_6:=k 0x1f1bf126a3f6f8d14cd
@[go_sem] def Q1_7:=k 0x20e9be7572ced
@[go_sem] def Q1_8:=kd 0x3f2f8b1d9ab1406253458e88831a67b3d85ac10774b588518f2677399c1881e46890fad3f619b6d6462f9a1ecda096915
@[go_sem] def Q1_9:=k 0x22c1baa4732220da90d
def Q1_10:TC:=(.seq (.seq (.reg Q1_7) (.cond (.t 36) .skip (.exit 2))) (.seq (.block 3 (.dreg Q1_8)) (.reg Q1_9)))
@[go_sem] def Q1_11:=k 0xc33e9
@[go_sem] def Q1_12:=k 0xc24c061d
@[go_sem] def Q1_13:=k 0x31058ca8377fd
@[go_sem] def Q1_14:=k 0xb8c613e4d500299c4989dfd4df873523a7ba79e77533da6677640e0d
@[go_sem] def Q1_15:=k 0xe8689287d062a1
def Q1_16:TC:=(.seq (.reg Q1_12) (.seq (.cond (.t 51) .skip (.exit 4)) (.seq (.block 5 (.seq (.reg Q1_13) (.reg Q1_14))) (.reg Q1_15))))
@[go_sem] def Q1_17:=k 0x1b395caa3d7f1ff49fe8e4c61ea560581f4ba6c34a2
@[go_sem] def Q1_18:=k 0x931ecbc0b0a0e79ec
def Q1_19:TC:=(.seq (.seq (.reg Q1_4) (.cond (.t 18) .skip (.exit 0))) (.seq (.block 1 (.seq (.reg Q1_5) (.seq (.seq (.reg Q1_6) (.block 2 (.loop Q1_10))) (.seq (.seq (.reg Q1_11) (.block 4 (.loop Q1_16))) (.reg Q1_17))))) (.reg Q1_18)))
@[go_sem] def Q1_20:=k 0x7df9b320250ad24490fe
@[go_sem] def Q1_21:=k 0x3c5a77888d00421f0826ab9919c1338680551e
@[go_sem] def Q1_22:=k 0x46d0a37862a195bb986defd9e
@[go_sem] def Q1_23:=kd 0x281e196ca41e1f5391165c3e859171566000ed7fe634e2d9993482c846b49485b27f220b02ec1596e8a9b4b640e9464fe9f00b2b92b294b8fd655ca76d64fc9c23877c78befa1c32d485b3ccb679a12945f9252fbb85909c14ca
@[go_sem] def Q1_24:=k 0x2f04e20a75ab02
@[go_sem] def Q1_25:=k 0xb57b8a5a073a76e875f7e4b83263ccf1e
@[go_sem] def Q1_26:=k 0x2d1a6e3fc6904b046f8ec7d12a247652b7229fadf62
@[go_sem] def Q1_27:=k 0x8c90d90c25285389c97e
def Q1_28:TC:=(.seq (.seq (.reg Q1_21) (.cond (.t 75) .skip (.exit 6))) (.seq (.block 7 (.seq (.reg Q1_22) (.seq (.dreg Q1_23) (.seq (.seq (.reg Q1_24) (.cond (.t 101) (.reg Q1_25) .skip)) (.reg Q1_26))))) (.reg Q1_27)))
@[go_sem] def Q1_29:=k 0xce43f50ea182ba2f3bbe
@[go_sem] def Q1_30:=k 0x3599e1a11817de
@[go_sem] def Q1_31:=kd 0x6c3423af4c5dfa2230068984c3251054842b9441d68cac3c01ca8d5c950229ccbf2cdc166
@[go_sem] def Q1_32:=k 0xd58f8804a20993f093fe
def Q1_33:TC:=(.seq (.seq (.reg Q1_30) (.cond (.t 115) .skip (.exit 8))) (.seq (.block 9 (.dreg Q1_31)) (.reg Q1_32)))
@[go_sem] def Q1_34:=k 0x1fda6f4043bda8717a4b79ea09f
def t_Q1:TF:=⟨129,[.cell 2 3 true],(.seq (.reg Q1_0) (.seq (.reg Q1_1) (.seq (.reg Q1_2) (.seq (.seq (.reg Q1_3) (.block 0 (.loop Q1_19))) (.seq (.seq (.reg Q1_20) (.block 6 (.loop Q1_28))) (.seq (.seq (.reg Q1_29) (.block 8 (.loop Q1_33))) (.seq (.reg Q1_34) .ret)))))))⟩
/-! horarium/horariumref3.Of -/
@[go_sem] def Q2_0:=k 0x2f1d10
@[go_sem] def Q2_1:=k 0x1a06fb9e5daec91c
@[go_sem] def Q2_2:=k 0xf0be0290d3c
@[go_sem] def Q2_3:=k 0x123d4bdb872895c
@[go_sem] def Q2_4:=k 0x5d255b8130eecf6d3f6c
@[go_sem] def Q2_5:=k 0x1b69712b9e2039c
@[go_sem] def Q2_6:=k 0x169493510
@[go_sem] def Q2_7:=k 0x1893630a0bdcc
def t_Q2:TF:=⟨18,[.t 2,.t 3],(.seq (.reg Q2_0) (.seq (.seq (.reg Q2_1) (.seq (.reg Q2_2) (.cond (.t 9) (.seq (.reg Q2_3) .ret) .skip))) (.seq (.reg Q2_4) (.seq (.seq (.reg Q2_5) (.cond (.t 16) (.seq (.reg Q2_6) .ret) .skip)) (.seq (.reg Q2_7) .ret)))))⟩
/-! horarium/horariumref3.Total -/
@[go_sem] def Q3_0:=k 0x90e8
@[go_sem] def Q3_1:=k 0xcef8
@[go_sem] def Q3_2:=k 0xba31e11491c
@[go_sem] def Q3_3:=k 0x7fa9164
@[go_sem] def Q3_4:=k 0x4be7da96f8354e64211bc
@[go_sem] def Q3_5:=k 0x33cf110f3fd665d45aa9ae0437c
@[go_sem] def Q3_6:=k 0x3d29ce345b7d0
def Q3_7:TC:=(.seq (.reg Q3_3) (.seq (.cond (.t 9) .skip (.exit 0)) (.seq (.block 1 (.seq (.reg Q3_4) (.reg Q3_5))) (.reg Q3_6))))
@[go_sem] def Q3_8:=k 0x201c189139cc
def t_Q3:TF:=⟨18,[.t 2],(.seq (.reg Q3_0) (.seq (.reg Q3_1) (.seq (.seq (.reg Q3_2) (.block 0 (.loop Q3_7))) (.seq (.reg Q3_8) .ret))))⟩
/-! horarium/horariumref7.Holds -/
@[go_sem] def Q4_0:=k 0x4138c11124
@[go_sem] def Q4_1:=k 0x2e4787be319724560
@[go_sem] def Q4_2:=k 0xcfbd1b4
@[go_sem] def Q4_3:=k 0x5c449699fae545f4b5234
@[go_sem] def Q4_4:=k 0x47b39b23ca3f4f290b970099879e127e72f5cc
@[go_sem] def Q4_5:=k 0x11ca7c275ec84fb0ab2c2cb5a09c97599d5123c45e22a0fbdaac822b377e3b9650b8c407c031
@[go_sem] def Q4_6:=k 0x947308
@[go_sem] def Q4_7:=k 0x883268d3455311
def Q4_8:TC:=(.seq (.reg Q4_2) (.seq (.cond (.t 14) .skip (.exit 0)) (.seq (.block 1 (.seq (.reg Q4_3) (.seq (.reg Q4_4) (.seq (.reg Q4_5) (.cond (.t 35) (.seq (.reg Q4_6) .ret) .skip))))) (.reg Q4_7))))
@[go_sem] def Q4_9:=k 0x6034be74af7e681511
@[go_sem] def Q4_10:=k 0x9d8f2165
@[go_sem] def Q4_11:=k 0x8108b444ef0ca1a32efb7125c1c3ee35d
@[go_sem] def Q4_12:=kd 0xa980a1ed1e170310e6b0d7cdc0d15c95e00e6ff8a0a0e0c68f4c8d044e9467ab47a99b6de535
@[go_sem] def Q4_13:=k 0x9c3508
@[go_sem] def Q4_14:=k 0xdc894c1705a871
def Q4_15:TC:=(.seq (.reg Q4_10) (.seq (.cond (.t 41) .skip (.exit 2)) (.seq (.block 3 (.seq (.reg Q4_11) (.seq (.dreg Q4_12) (.cond (.t 57) (.seq (.reg Q4_13) .ret) .skip)))) (.reg Q4_14))))
@[go_sem] def Q4_16:=k 0x10d08
def t_Q4:TF:=⟨59,[.t 4],(.seq (.reg Q4_0) (.seq (.seq (.reg Q4_1) (.block 0 (.loop Q4_8))) (.seq (.seq (.reg Q4_9) (.block 2 (.loop Q4_15))) (.seq (.reg Q4_16) .ret))))⟩
/-! horarium/horariumref3.Nodes -/
@[go_sem] def Q5_0:=k 0x10d28
@[go_sem] def Q5_1:=k 0x63e7e408c0c793faf631491c
@[go_sem] def Q5_2:=k 0x10d28
@[go_sem] def Q5_3:=k 0xbee58d77f6c
@[go_sem] def Q5_4:=k 0xcfbd1b4
@[go_sem] def Q5_5:=k 0x1c864be151ac
@[go_sem] def Q5_6:=kd 0x4d570d1fb5c606ebb044faf13327d1f9e5aad098c5fa18
@[go_sem] def Q5_7:=k 0x10d28
@[go_sem] def Q5_8:=k 0x5f9ab64c12660
def Q5_9:TC:=(.seq (.reg Q5_4) (.seq (.cond (.t 14) .skip (.exit 0)) (.seq (.block 1 (.seq (.reg Q5_5) (.seq (.dreg Q5_6) (.cond (.t 24) (.seq (.reg Q5_7) .ret) .skip)))) (.reg Q5_8))))
@[go_sem] def Q5_10:=k 0x10dc0
def t_Q5:TF:=⟨26,[.t 4],(.seq (.reg Q5_0) (.seq (.seq (.reg Q5_1) (.cond (.t 10) (.seq (.reg Q5_2) .ret) .skip)) (.seq (.seq (.reg Q5_3) (.block 0 (.loop Q5_9))) (.seq (.reg Q5_10) .ret))))⟩
/-! (*horarium/horariumkeep.Tape).Table -/
@[go_sem] def Q6_0:=k 0x18950
@[go_sem] def Q6_1:=k 0x5936ec63dc3c8ff6c
@[go_sem] def Q6_2:=k 0xcea510c917a6a2a3d95747561fff7f8c
@[go_sem] def Q6_3:=k 0x23bbf545bdec
@[go_sem] def Q6_4:=k 0x14f4263b32aa80e20efbe9ee94dc86c0c
@[go_sem] def Q6_5:=k 0x19195e8f3c8a86d991c8e3f95497492d1e8ef6a8320637ad625d
@[go_sem] def Q6_6:=k 0x200082b27eedd
@[go_sem] def Q6_7:=k 0x7f82726507c2d9dd19e964da6ed528ca133eebd23b71f4dc865e082753cda191cefd
@[go_sem] def Q6_8:=k 0x2b72135c2330c1d761b9879ad
@[go_sem] def Q6_9:=k 0xb87302189da1ca95b0d53dd
@[go_sem] def Q6_10:=k 0x28168
@[go_sem] def Q6_11:=k 0xc466a0d90256b160d
@[go_sem] def Q6_12:=k 0x64350a33fa8e6c74a0c2a8d2f19388a1c74702abe67b16c5e
@[go_sem] def Q6_13:=k 0x342029168b446b4d03d
def Q6_14:TC:=(.seq (.seq (.reg Q6_11) (.cond (.t 55) .skip (.exit 0))) (.seq (.block 1 (.reg Q6_12)) (.reg Q6_13)))
@[go_sem] def Q6_15:=k 0x1e95d4dec31ece
def t_Q6:TF:=⟨66,[.t 6],(.seq (.reg Q6_0) (.seq (.reg Q6_1) (.seq (.seq (.reg Q6_2) (.cond (.t 18) (.seq (.seq (.reg Q6_3) (.cond (.t 20) (.seq (.reg Q6_4) .ret) .skip)) (.seq (.reg Q6_5) .ret)) .skip)) (.seq (.seq (.reg Q6_6) (.cond (.t 35) (.seq (.reg Q6_7) .ret) .skip)) (.seq (.reg Q6_8) (.seq (.reg Q6_9) (.seq (.seq (.reg Q6_10) (.block 0 (.loop Q6_14))) (.seq (.reg Q6_15) .ret))))))))⟩
/-! horarium/horariumref1.Seal -/
@[go_sem] def Q7_0:=k 0x9110
@[go_sem] def Q7_1:=k 0x129e3a405a858cfc
@[go_sem] def Q7_2:=k 0xc7eeb0197bb4c0709ff5514e4dea2c719eda087d5fc0b08bd0a86a1a39a138c16e53c932275ad028
def t_Q7:TF:=⟨22,[.t 2],(.seq (.reg Q7_0) (.seq (.reg Q7_1) (.seq (.reg Q7_2) .ret)))⟩
/-! horarium/horariumlaw14.known -/
@[go_sem] def Q8_0:=k 0x14e8
@[go_sem] def Q8_1:=k 0x4bff592a3af336aafcb909682adbcbc8dcbcb0bf2e056c
@[go_sem] def Q8_2:=k 0x135aa70b8be87614ebadcc4d1fa390b2ee48
@[go_sem] def Q8_3:=k 0x2d5b1f2f3dbd4ae32717af7d832a27f42ef9265c
@[go_sem] def Q8_4:=k 0x1a9c8ae1ac460d33f9b84ed061e38fbfab7b5
@[go_sem] def Q8_5:=k 0x1ea4bf1136a54a6f980f606ddf67d69b9d1fd
@[go_sem] def Q8_6:=k 0x845d6fbddc261fe43e0561fa14d30a2e86f477f64ec2e5cd31
@[go_sem] def Q8_7:=k 0x1a7406b9f911d6daedd205573e3c86411429685eeeead9a1aff5ff28d58bebd5dfdb000347b3ee78d82338afc0f12c04cc0e17b0f4f7e6dcb5e435e780a68c6c0210f3512f550f8b31b7cd0877d982b23e4bdcdd52787a35b2223f2615637a31d12de6ba06e21b14539e
def t_Q8:TF:=⟨81,[.t 0],(.seq (.reg Q8_0) (.seq (.reg Q8_1) (.seq (.reg Q8_2) (.seq (.reg Q8_3) (.seq (.reg Q8_4) (.seq (.reg Q8_5) (.seq (.reg Q8_6) (.seq (.reg Q8_7) .ret))))))))⟩
/-! horarium/horariumbook.Within -/
@[go_sem] def Q9_0:=k 0x18928
@[go_sem] def Q9_1:=k 0x208cd4e1c5bba03b83b331537694af1ee3fcb872c
@[go_sem] def Q9_2:=k 0x1c95573d77ac
@[go_sem] def Q9_3:=k 0x21e29d9b5cce6e575b7356919ebc3c34eb5bc
@[go_sem] def Q9_4:=k 0x296061512a1c
@[go_sem] def Q9_5:=k 0x2ec996ed8140f88d539970acbfeab2a30a63c
@[go_sem] def Q9_6:=k 0x718a3309d940f41a1b9de9d
def t_Q9:TF:=⟨33,[.t 6],(.seq (.reg Q9_0) (.seq (.seq (.reg Q9_1) (.cond (.t 14) (.seq (.reg Q9_2) .ret) .skip)) (.seq (.reg Q9_3) (.seq (.seq (.reg Q9_4) (.cond (.t 23) (.reg Q9_5) .skip)) (.seq (.reg Q9_6) .ret)))))⟩
/-! horarium/image.Bytes -/
@[go_sem] def Q10_0:=k 0x5a560a5314
@[go_sem] def Q10_1:=k 0x166132154ba7cd48
@[go_sem] def Q10_2:=k 0xd2a6808cf2c
@[go_sem] def Q10_3:=k 0x106a671e7f24b4c
@[go_sem] def Q10_4:=k 0x5a3af7a31c1b9ee264398
def t_Q10:TF:=⟨13,[.t 2,.t 3],(.seq (.reg Q10_0) (.seq (.seq (.reg Q10_1) (.seq (.reg Q10_2) (.cond (.t 8) (.seq (.reg Q10_3) .ret) .skip))) (.seq (.reg Q10_4) .ret)))⟩
/-! horarium/image.Read -/
@[go_sem] def Q11_0:=k 0x2f1d60
@[go_sem] def Q11_1:=k 0xa7bd74b0ca224204ae80556da25ebcf015c
@[go_sem] def Q11_2:=k 0xd2bb06039c
@[go_sem] def Q11_3:=k 0x2fcc8b9e4655a4cc
@[go_sem] def Q11_4:=k 0x421d00fa3a9dfbcc
@[go_sem] def Q11_5:=k 0x2c26c22617cebd0c
@[go_sem] def Q11_6:=k 0x1685b8696ff559bcc092425ea2f40c
@[go_sem] def Q11_7:=k 0x1762d7025634d9fc5f9423da27f42e1fee98
@[go_sem] def Q11_8:=k 0x65da4bb029af751c6603c8e3b92eb7c2d6f0daa37a9d
@[go_sem] def Q11_9:=k 0x2bf619e54fa5a082d
@[go_sem] def Q11_10:=k 0xc2a0b27ac399a169
def t_Q11:TF:=⟨40,[.cell 2 3 true,.t 3],(.seq (.reg Q11_0) (.seq (.reg Q11_1) (.seq (.seq (.reg Q11_2) (.cond (.t 15) (.seq (.reg Q11_3) .ret) .skip)) (.seq (.seq (.reg Q11_4) (.cond (.t 19) (.seq (.reg Q11_5) .ret) .skip)) (.seq (.reg Q11_6) (.seq (.seq (.reg Q11_7) (.seq (.reg Q11_8) (.cond (.t 37) (.seq (.reg Q11_9) .ret) .skip))) (.seq (.reg Q11_10) .ret)))))))⟩
/-! horarium/horariumref12.Same -/
@[go_sem] def Q12_0:=k 0x1a63b1ded124
@[go_sem] def Q12_1:=k 0xe1fb6c24afd616cd4c889c7227131ee3aae4e3de53a610f6f036c6b8f2088d58
@[go_sem] def Q12_2:=k 0x10d28
@[go_sem] def Q12_3:=k 0x3054ca21ae38cb3f0
@[go_sem] def Q12_4:=k 0x15fe1244
@[go_sem] def Q12_5:=k 0x2d738549523c
@[go_sem] def Q12_6:=kd 0x1f4c5debd51c85feb03f941272bd63ccecc5592f9c4b50fd496f823c3df0a64b75
@[go_sem] def Q12_7:=k 0x10d28
@[go_sem] def Q12_8:=k 0x8c7cc2ff2e9121
def Q12_9:TC:=(.seq (.reg Q12_4) (.seq (.cond (.t 23) .skip (.exit 0)) (.seq (.block 1 (.seq (.reg Q12_5) (.seq (.dreg Q12_6) (.cond (.t 36) (.seq (.reg Q12_7) .ret) .skip)))) (.reg Q12_8))))
@[go_sem] def Q12_10:=k 0x10dc0
def t_Q12:TF:=⟨38,[.t 4],(.seq (.reg Q12_0) (.seq (.seq (.reg Q12_1) (.cond (.t 18) (.seq (.reg Q12_2) .ret) .skip)) (.seq (.seq (.reg Q12_3) (.block 0 (.loop Q12_9))) (.seq (.reg Q12_10) .ret))))⟩
/-! horarium/image.Size -/
@[go_sem] def Q13_0:=k 0x5d1d314
@[go_sem] def Q13_1:=k 0x742175c655c1384ad47c9a606b1b8e04b58
@[go_sem] def Q13_2:=k 0x2863c52a7b4d875c
def t_Q13:TF:=⟨12,[.t 2],(.seq (.reg Q13_0) (.seq (.reg Q13_1) (.seq (.reg Q13_2) .ret)))⟩
/-! (*horarium/horariumkeep.Tape).Next -/
@[go_sem] def Q14_0:=k 0x10d08
@[go_sem] def Q14_1:=kd 0x343bb484c5db19d2e9408592ecc53dad73d31982040351c1dc5a403951c7d7ec19ec888
@[go_sem] def Q14_2:=k 0x10d08
@[go_sem] def Q14_3:=k 0x5082f3e7bfdee2489dcd655f6b6c9d4fc2672efec
@[go_sem] def Q14_4:=kd 0x7f691bbe2f6bfe6c58cd0cbb0909b8c370651ac6916a18d4aab9b3e97ee81aa12126d2478e13a82cf9
def t_Q14:TF:=⟨40,[.t 4],(.seq (.reg Q14_0) (.seq (.seq (.dreg Q14_1) (.cond (.t 18) (.seq (.reg Q14_2) .ret) .skip)) (.seq (.reg Q14_3) (.seq (.dreg Q14_4) .ret))))⟩
/-! (*horarium/horariumkeep.Tape).frame -/
@[go_sem] def Q15_0:=k 0x10d30
@[go_sem] def Q15_1:=k 0x11fb0fd3eb97a6bf2cbc53c
@[go_sem] def Q15_2:=k 0xc18b7475d8d7f49ac775b8f43df5f9e477c
@[go_sem] def Q15_3:=k 0x10776474ce99b9724db5405e03119aa6b7e6c1d878e309909e461bd4243bc
@[go_sem] def Q15_4:=k 0x6a8f8fbcf6bccef177e15d187c0eeaf6694e5ebab4b488e7ed
@[go_sem] def Q15_5:=k 0x20fa03ab524ed
def t_Q15:TF:=⟨36,[.t 4],(.seq (.reg Q15_0) (.seq (.reg Q15_1) (.seq (.seq (.reg Q15_2) (.seq (.reg Q15_3) (.cond (.t 27) (.seq (.reg Q15_4) .ret) .skip))) (.seq (.reg Q15_5) .ret))))⟩
/-! (*horarium/horariumkeep.Tape).asks -/
@[go_sem] def Q16_0:=k 0x22f19134
@[go_sem] def Q16_1:=k 0x14b40
@[go_sem] def Q16_2:=k 0x3103e042d7bf53020
@[go_sem] def Q16_3:=k 0x18fed274
@[go_sem] def Q16_4:=k 0xcdf01d80c899e52ac
@[go_sem] def Q16_5:=k 0x6a7240d49ee05006a8924e5bb8a730620df69d
@[go_sem] def Q16_6:=k 0x1fccc47c433b611413076218e6dd
@[go_sem] def Q16_7:=k 0x906cd68dd1cf31
def Q16_8:TC:=(.seq (.reg Q16_3) (.seq (.cond (.t 26) .skip (.exit 0)) (.seq (.block 1 (.seq (.reg Q16_4) (.seq (.reg Q16_5) (.reg Q16_6)))) (.reg Q16_7))))
@[go_sem] def Q16_9:=k 0x60a977c20904591531
@[go_sem] def Q16_10:=k 0xa570a585
@[go_sem] def Q16_11:=k 0x29873200d677d
@[go_sem] def Q16_12:=k 0x2bf78
@[go_sem] def Q16_13:=k 0x64dae533918d
@[go_sem] def Q16_14:=k 0xb9246fd5
@[go_sem] def Q16_15:=k 0x2dc8f9d6c4e3bb2320d
@[go_sem] def Q16_16:=kd 0xd11638def67b32a4b4aa02f4f444b8c8d2ac50e8f177906adb52a84b88473a1714b658764087fc7ce4c2a6ec42a
@[go_sem] def Q16_17:=k 0x3829bf930213ddf89babe504c67d0cf27e46ce
@[go_sem] def Q16_18:=k 0x2c010
@[go_sem] def Q16_19:=k 0x40a1c02002afd3b0968d2a32e
@[go_sem] def Q16_20:=k 0x117bd8a4ef6d0d72
def Q16_21:TC:=(.seq (.reg Q16_14) (.seq (.cond (.t 48) .skip (.exit 4)) (.seq (.block 5 (.seq (.reg Q16_15) (.seq (.dreg Q16_16) (.seq (.reg Q16_17) (.cond (.t 70) (.reg Q16_18) (.reg Q16_19)))))) (.reg Q16_20))))
@[go_sem] def Q16_22:=k 0xfa6255e08e18e1ee240ac6f1c41376065d59aebf9b6e
@[go_sem] def Q16_23:=kd 0x589c4eff5701aead9ac169947944644e7cdbd734b1e0fc34cc672ed56472b05340d9bebb77d8f0a6
@[go_sem] def Q16_24:=k 0x15b4cd1679dd6a92
def Q16_25:TC:=(.seq (.reg Q16_10) (.seq (.cond (.t 43) .skip (.exit 2)) (.seq (.block 3 (.seq (.reg Q16_11) (.seq (.reg Q16_12) (.seq (.seq (.reg Q16_13) (.block 4 (.loop Q16_21))) (.seq (.reg Q16_22) (.cond (.t 81) (.dreg Q16_23) .skip)))))) (.reg Q16_24))))
@[go_sem] def Q16_26:=k 0x2936689fa5c175c9da6f22e8bdc88e
@[go_sem] def Q16_27:=k 0x2bd43af7f41d3c5975cfe3b98ce
@[go_sem] def Q16_28:=k 0x2f05ad3370d2fe
@[go_sem] def Q16_29:=k 0x5dbc3bf93e2b479b6f176c33e
@[go_sem] def Q16_30:=k 0x6160ddff79d6016584177bb7e
@[go_sem] def Q16_31:=k 0xbc159ccd852524694f1e
def Q16_32:TC:=(.seq (.seq (.reg Q16_28) (.cond (.t 101) .skip (.exit 6))) (.seq (.block 7 (.seq (.reg Q16_29) (.cond (.t 107) (.seq (.reg Q16_30) (.exit 6)) .skip))) (.reg Q16_31)))
@[go_sem] def Q16_33:=k 0xc89e66d1108427815b2
@[go_sem] def Q16_34:=k 0x6f6967e06
@[go_sem] def Q16_35:=k 0x369ae89839c3fe
@[go_sem] def Q16_36:=k 0x4752c
@[go_sem] def Q16_37:=k 0x3403a90a39a0e
@[go_sem] def Q16_38:=k 0x744c6dc56
@[go_sem] def Q16_39:=k 0xdecb2e03f39bb7de228e
@[go_sem] def Q16_40:=k 0xce7e59375cdb6ddcf8b029b8598598b82b1df0fc0598266f
@[go_sem] def Q16_41:=k 0x1e61b7ff88e65b7ae3
def Q16_42:TC:=(.seq (.reg Q16_38) (.seq (.cond (.t 120) .skip (.exit 10)) (.seq (.block 11 (.seq (.reg Q16_39) (.reg Q16_40))) (.reg Q16_41))))
@[go_sem] def Q16_43:=k 0x1aa9fd4bf502af935946cdad5e7434ff6f6750b2c195e59d8df
@[go_sem] def Q16_44:=kd 0x2ea37d1a74c7538fc1aba3b44dc4594d987db836aba55d073f4a400ca707ab0511c3da44f842be6b99f9779efd91d6a5ed399d439575c2be10bcee69e1cc0e534a7db092df0b619493c718c848077
@[go_sem] def Q16_45:=k 0x240589e9fa0d214c63
def Q16_46:TC:=(.seq (.reg Q16_34) (.seq (.cond (.t 115) .skip (.exit 8)) (.seq (.block 9 (.seq (.reg Q16_35) (.seq (.reg Q16_36) (.seq (.seq (.reg Q16_37) (.block 10 (.loop Q16_42))) (.seq (.reg Q16_43) (.cond (.t 136) (.dreg Q16_44) .skip)))))) (.reg Q16_45))))
@[go_sem] def Q16_47:=k 0x2356100b3ae239199ca9b
@[go_sem] def Q16_48:=k 0x2e05c5c9d3706c819a8493
@[go_sem] def Q16_49:=k 0x9b753efce7
@[go_sem] def Q16_50:=k 0x130c2141f67b5adf
@[go_sem] def Q16_51:=kd 0x142590a867580814b58e5d009ac64ae543da5443a84654f1b6d4d971118cc5bae9a06567c16ce577be280fabdacf94aade57
@[go_sem] def Q16_52:=k 0x28be9e7382a8a625a3
def Q16_53:TC:=(.seq (.reg Q16_49) (.seq (.cond (.t 161) .skip (.exit 12)) (.seq (.block 13 (.seq (.reg Q16_50) (.dreg Q16_51))) (.reg Q16_52))))
@[go_sem] def Q16_54:=k 0x82a22b155ea3db
def t_Q16:TF:=⟨175,[.cell 4 3 true],(.seq (.reg Q16_0) (.seq (.reg Q16_1) (.seq (.seq (.reg Q16_2) (.block 0 (.loop Q16_8))) (.seq (.seq (.reg Q16_9) (.block 2 (.loop Q16_25))) (.seq (.reg Q16_26) (.seq (.seq (.reg Q16_27) (.block 6 (.loop Q16_32))) (.seq (.seq (.reg Q16_33) (.block 8 (.loop Q16_46))) (.seq (.seq (.reg Q16_47) (.cond (.t 156) (.seq (.reg Q16_48) (.block 12 (.loop Q16_53))) .skip)) (.seq (.reg Q16_54) .ret)))))))))⟩
/-! horarium/runs.Of -/
@[go_sem] def Q17_0:=k 0x2f1d10
@[go_sem] def Q17_1:=k 0x24f8583979ac434c
@[go_sem] def Q17_2:=k 0x14b04889c76c
@[go_sem] def Q17_3:=k 0x17b5fa129f3438c
@[go_sem] def Q17_4:=k 0x14b40
@[go_sem] def Q17_5:=k 0x376fa47ef7dfb99c
@[go_sem] def Q17_6:=k 0x1f47c704a044b4ceb07a5e27c41c4c30714a3fcc
@[go_sem] def Q17_7:=k 0x13c0d65fc0c
@[go_sem] def Q17_8:=k 0x2ce08d6cebbd22d5cd89eaf22c
def Q17_9:TC:=(.block 1 (.seq (.reg Q17_6) (.seq (.seq (.reg Q17_7) (.cond (.t 22) (.exit 0) .skip)) (.reg Q17_8))))
@[go_sem] def Q17_10:=k 0x66bdb22992472a6c
@[go_sem] def Q17_11:=k 0x36c4e65a1b4a68c
@[go_sem] def Q17_12:=k 0x169493510
@[go_sem] def Q17_13:=k 0x1873a619ac6abd
def t_Q17:TF:=⟨33,[.t 2,.t 3],(.seq (.reg Q17_0) (.seq (.seq (.reg Q17_1) (.seq (.reg Q17_2) (.cond (.t 12) (.seq (.reg Q17_3) .ret) .skip))) (.seq (.reg Q17_4) (.seq (.reg Q17_5) (.seq (.block 0 (.loop Q17_9)) (.seq (.seq (.reg Q17_10) (.seq (.reg Q17_11) (.cond (.t 31) (.seq (.reg Q17_12) .ret) .skip))) (.seq (.reg Q17_13) .ret)))))))⟩
/-! horarium/bound.Holds -/
@[go_sem] def Q18_0:=k 0x4138c11124
@[go_sem] def Q18_1:=k 0x2e4787be319724560
@[go_sem] def Q18_2:=k 0xcfbd1b4
@[go_sem] def Q18_3:=k 0x5c449699fae545f4b5234
@[go_sem] def Q18_4:=k 0x47b39b23ca54886f4182a001b79e127e72f5cc
@[go_sem] def Q18_5:=k 0x4729f0a30351d3f7846e0e9dc05442b80997f607dcf9b872166297e3323b9650b8c407c031
@[go_sem] def Q18_6:=k 0x947308
@[go_sem] def Q18_7:=k 0x883268d3455311
def Q18_8:TC:=(.seq (.reg Q18_2) (.seq (.cond (.t 14) .skip (.exit 0)) (.seq (.block 1 (.seq (.reg Q18_3) (.seq (.reg Q18_4) (.seq (.reg Q18_5) (.cond (.t 35) (.seq (.reg Q18_6) .ret) .skip))))) (.reg Q18_7))))
@[go_sem] def Q18_9:=k 0x6034be74af7e681511
@[go_sem] def Q18_10:=k 0x9d8f2165
@[go_sem] def Q18_11:=k 0x8108b444ef0ca1a32efb7125c1c3ee35d
@[go_sem] def Q18_12:=kd 0xa980a1ed1e170310e6b0d7cdc0d1c1b155c8fdb820ff2fe084988d044e9467ab47a99b6de535
@[go_sem] def Q18_13:=k 0x9c3508
@[go_sem] def Q18_14:=k 0xdc894c1705a871
def Q18_15:TC:=(.seq (.reg Q18_10) (.seq (.cond (.t 41) .skip (.exit 2)) (.seq (.block 3 (.seq (.reg Q18_11) (.seq (.dreg Q18_12) (.cond (.t 57) (.seq (.reg Q18_13) .ret) .skip)))) (.reg Q18_14))))
@[go_sem] def Q18_16:=k 0x10d08
def t_Q18:TF:=⟨59,[.t 4],(.seq (.reg Q18_0) (.seq (.seq (.reg Q18_1) (.block 0 (.loop Q18_8))) (.seq (.seq (.reg Q18_9) (.block 2 (.loop Q18_15))) (.seq (.reg Q18_16) .ret))))⟩
/-! horarium/node.Right -/
@[go_sem] def Q19_0:=k 0x90e8
@[go_sem] def Q19_1:=k 0x742175c655c1384ad47c9a606b24f27491c
@[go_sem] def Q19_2:=k 0x5e4054f2f53a26b77f6c
@[go_sem] def Q19_3:=k 0x17d6e8
@[go_sem] def Q19_4:=k 0x7b6edb93f7655523f7ac
@[go_sem] def Q19_5:=k 0x5da8e8
@[go_sem] def Q19_6:=k 0x1313ac48869173534fafec
@[go_sem] def Q19_7:=k 0x6d2ce8
@[go_sem] def Q19_8:=k 0x5a169f0d3da9702c
@[go_sem] def Q19_9:=k 0x8c34e8
@[go_sem] def Q19_10:=k 0x90e8
def t_Q19:TF:=⟨25,[.t 2],(.seq (.reg Q19_0) (.seq (.reg Q19_1) (.seq (.block 0 (.seq (.reg Q19_2) (.cond (.t 10) (.seq (.reg Q19_3) .ret) (.seq (.reg Q19_4) (.cond (.t 14) (.seq (.reg Q19_5) .ret) (.seq (.reg Q19_6) (.cond (.t 18) (.seq (.reg Q19_7) .ret) (.seq (.reg Q19_8) (.cond (.t 22) (.seq (.reg Q19_9) .ret) .skip))))))))) (.seq (.reg Q19_10) .ret))))⟩
/-! slices.Clone[[]horarium/api.Node,horarium/api.Node] -/
@[go_sem] def Q20_0:=k 0x9110
@[go_sem] def Q20_1:=k 0x2da5354eec
@[go_sem] def Q20_2:=k 0x9110
@[go_sem] def Q20_3:=k 0x32095a537cbb89439218
def t_Q20:TF:=⟨8,[.t 2],(.seq (.reg Q20_0) (.seq (.seq (.reg Q20_1) (.cond (.t 4) (.seq (.reg Q20_2) .ret) .skip)) (.seq (.reg Q20_3) .ret)))⟩
/-! horarium/horariumref3.Right -/
@[go_sem] def Q21_0:=k 0x90e8
@[go_sem] def Q21_1:=k 0xb010358d300b0c
@[go_sem] def Q21_2:=k 0x17d6e8
@[go_sem] def Q21_3:=k 0x20d42a737a53853c
@[go_sem] def Q21_4:=k 0x5da8e8
@[go_sem] def Q21_5:=k 0x2d98807bfef73f6c
@[go_sem] def Q21_6:=k 0x6d2ce8
@[go_sem] def Q21_7:=k 0xe84072de1cd3c9973d17b63e2769f62f7ac
@[go_sem] def Q21_8:=k 0x11df5c477ec
@[go_sem] def Q21_9:=k 0x8c34e8
@[go_sem] def Q21_10:=k 0x90e8
def t_Q21:TF:=⟨21,[.t 2],(.seq (.reg Q21_0) (.seq (.seq (.reg Q21_1) (.cond (.t 7) (.seq (.reg Q21_2) .ret) .skip)) (.seq (.seq (.reg Q21_3) (.cond (.t 10) (.seq (.reg Q21_4) .ret) .skip)) (.seq (.seq (.reg Q21_5) (.cond (.t 13) (.seq (.reg Q21_6) .ret) .skip)) (.seq (.seq (.reg Q21_7) (.seq (.reg Q21_8) (.cond (.t 20) (.seq (.reg Q21_9) .ret) .skip))) (.seq (.reg Q21_10) .ret))))))⟩
/-! horarium/horariumref3.Tidy -/
@[go_sem] def Q22_0:=k 0x9110
@[go_sem] def Q22_1:=k 0xcf20
@[go_sem] def Q22_2:=k 0xbb229d2872c
@[go_sem] def Q22_3:=k 0x8fad174
@[go_sem] def Q22_4:=k 0x4c590b2b0c13e5f6251cc
@[go_sem] def Q22_5:=k 0x33c9daf51091418c
@[go_sem] def Q22_6:=k 0x74f3c6091f22ac1b0
@[go_sem] def Q22_7:=kd 0x91027b8e8e0ad1db04aae2b0345d79017a5cf07a1c17e395b776442ac2463243abb78
@[go_sem] def Q22_8:=kd 0xbc58eef1630cc1d5ba6a9955af1c053e89855decdcaf28812a2d2033f59c64abd7f605948feedbb96ca6a69
@[go_sem] def Q22_9:=k 0x2934b22f7e35517af9328aab898d
@[go_sem] def Q22_10:=k 0xb8dc6cffc479e1
def Q22_11:TC:=(.seq (.reg Q22_3) (.seq (.cond (.t 10) .skip (.exit 0)) (.seq (.block 1 (.seq (.reg Q22_4) (.seq (.reg Q22_5) (.seq (.seq (.reg Q22_6) (.cond (.t 17) (.exit 1) .skip)) (.seq (.dreg Q22_7) (.cond (.t 30) (.dreg Q22_8) (.reg Q22_9))))))) (.reg Q22_10))))
@[go_sem] def Q22_12:=k 0x2f0d82b91bfdd
def t_Q22:TF:=⟨51,[.t 2],(.seq (.reg Q22_0) (.seq (.reg Q22_1) (.seq (.seq (.reg Q22_2) (.block 0 (.loop Q22_11))) (.seq (.reg Q22_12) .ret))))⟩
/-! horarium/horariumref3.Leaves -/
@[go_sem] def Q23_0:=k 0x9110
@[go_sem] def Q23_1:=k 0x1db684d571f894eec
def t_Q23:TF:=⟨5,[.t 2],(.seq (.reg Q23_0) (.seq (.reg Q23_1) .ret))⟩
/-! horarium/horariumref3.Sum -/
@[go_sem] def Q24_0:=k 0x10d08
@[go_sem] def Q24_1:=k 0x3539b6b1056096518276436d59a4b0c
@[go_sem] def Q24_2:=k 0x421abe1f57ec1c8c034c
@[go_sem] def Q24_3:=k 0x10f10
@[go_sem] def Q24_4:=k 0xd625abc456a8b78ecfb8c
def t_Q24:TF:=⟨16,[.t 4],(.seq (.reg Q24_0) (.seq (.reg Q24_1) (.seq (.seq (.reg Q24_2) (.cond (.t 12) (.seq (.reg Q24_3) .ret) .skip)) (.seq (.reg Q24_4) .ret))))⟩
/-! horarium/horariumref7.Late -/
@[go_sem] def Q25_0:=k 0x18928
@[go_sem] def Q25_1:=k 0x3ed865dcb24e35bc
@[go_sem] def Q25_2:=k 0xd2b2238548
@[go_sem] def Q25_3:=k 0xc57ab567fdc
@[go_sem] def Q25_4:=k 0x13fd9224
@[go_sem] def Q25_5:=k 0xaa9a0d1bd7bfd125c
@[go_sem] def Q25_6:=k 0x16c283e9b56026e37cb1d4f00b2620ae5b30dc83a07c58aecbdc7a0a0fde12c0f57719948a3d
@[go_sem] def Q25_7:=k 0x889bbb356c5311
def Q25_8:TC:=(.seq (.reg Q25_4) (.seq (.cond (.t 21) .skip (.exit 0)) (.seq (.block 1 (.seq (.reg Q25_5) (.reg Q25_6))) (.reg Q25_7))))
@[go_sem] def Q25_9:=k 0x8b3256f350d
@[go_sem] def Q25_10:=k 0x18928
@[go_sem] def Q25_11:=k 0x92b83682d2d
@[go_sem] def Q25_12:=k 0x189c0
@[go_sem] def Q25_13:=k 0x63ea2941a14d
@[go_sem] def Q25_14:=k 0xa9616795
@[go_sem] def Q25_15:=k 0x284df012a59fdc94315d5b05298d
@[go_sem] def Q25_16:=k 0xb1e0d9d4de68befbd
@[go_sem] def Q25_17:=k 0xb79b8
@[go_sem] def Q25_18:=k 0x2abda08ee5cda92b7240d31ad545ff17e2b98ecbf33663f4e96e500ded
@[go_sem] def Q25_19:=k 0x39ab1442a9fcd03d89d
def Q25_20:TC:=(.seq (.seq (.reg Q25_18) (.cond (.t 61) .skip (.exit 4))) (.block 5 (.reg Q25_19)))
@[go_sem] def Q25_21:=k 0x3a6bc9be6182980dd4483d8be
@[go_sem] def Q25_22:=k 0xfd4ae10915b5b02
def Q25_23:TC:=(.seq (.reg Q25_14) (.seq (.cond (.t 44) .skip (.exit 2)) (.seq (.block 3 (.seq (.reg Q25_15) (.seq (.seq (.reg Q25_16) (.cond (.t 50) (.exit 3) .skip)) (.seq (.reg Q25_17) (.seq (.block 4 (.loop Q25_20)) (.reg Q25_21)))))) (.reg Q25_22))))
@[go_sem] def Q25_24:=k 0x1ffeeef6a4d0fe
def t_Q25:TF:=⟨69,[.t 6],(.seq (.reg Q25_0) (.seq (.reg Q25_1) (.seq (.reg Q25_2) (.seq (.seq (.reg Q25_3) (.block 0 (.loop Q25_8))) (.seq (.seq (.reg Q25_9) (.cond (.t 38) (.seq (.reg Q25_10) .ret) .skip)) (.seq (.seq (.reg Q25_11) (.cond (.t 40) (.seq (.reg Q25_12) .ret) .skip)) (.seq (.seq (.reg Q25_13) (.block 2 (.loop Q25_23))) (.seq (.reg Q25_24) .ret))))))))⟩
/-! horarium/horariumref7.Budget -/
@[go_sem] def Q26_0:=k 0x18928
@[go_sem] def Q26_1:=k 0x33e709415f0a7b8c
@[go_sem] def Q26_2:=k 0xedac2e589fd68a4c931e37c42a49c0708cdbc16029384d4be3e476b116ab0bd303ffbac
@[go_sem] def Q26_3:=k 0x189c0
@[go_sem] def Q26_4:=k 0xdcc1a03dbeb39a08c
@[go_sem] def Q26_5:=k 0x24358
@[go_sem] def Q26_6:=k 0x1bde801fed08f51c523cad
@[go_sem] def Q26_7:=k 0x28168
@[go_sem] def Q26_8:=k 0x56151ec0490c53d1ecbe8d1e241757e9a3ce71d
@[go_sem] def Q26_9:=k 0xb142ebb5
@[go_sem] def Q26_10:=k 0x2bf26f4e615b1d0aded
@[go_sem] def Q26_11:=k 0xb5954109fb16d25cd
@[go_sem] def Q26_12:=k 0x307a5f98b8542b3d7fd
@[go_sem] def Q26_13:=k 0xcdc8c5ef69b031
def Q26_14:TC:=(.seq (.reg Q26_9) (.seq (.cond (.t 46) .skip (.exit 2)) (.seq (.block 3 (.seq (.reg Q26_10) (.seq (.reg Q26_11) (.cond (.t 51) (.reg Q26_12) .skip)))) (.reg Q26_13))))
@[go_sem] def Q26_15:=k 0xca14733aea301ac0a548a2d
@[go_sem] def Q26_16:=k 0x83643c76fca04b7943f34ed
def Q26_17:TC:=(.seq (.seq (.reg Q26_6) (.cond (.t 34) .skip (.exit 0))) (.seq (.block 1 (.seq (.reg Q26_7) (.seq (.seq (.reg Q26_8) (.block 2 (.loop Q26_14))) (.reg Q26_15)))) (.reg Q26_16)))
@[go_sem] def Q26_18:=k 0x36a26eff1445d
def t_Q26:TF:=⟨59,[.t 6],(.seq (.reg Q26_0) (.seq (.reg Q26_1) (.seq (.seq (.reg Q26_2) (.cond (.t 28) (.seq (.reg Q26_3) .ret) .skip)) (.seq (.reg Q26_4) (.seq (.seq (.reg Q26_5) (.block 0 (.loop Q26_17))) (.seq (.reg Q26_18) .ret))))))⟩
/-! horarium/horariumref12.Right -/
@[go_sem] def Q27_0:=k 0x5d1d314
@[go_sem] def Q27_1:=k 0x742175c655c1384ad47c9a606b253100b58
@[go_sem] def Q27_2:=k 0x12f1cfaf875c
def t_Q27:TF:=⟨11,[.t 2],(.seq (.reg Q27_0) (.seq (.reg Q27_1) (.seq (.reg Q27_2) .ret)))⟩
/-! horarium/horariumref1.Sum -/
@[go_sem] def Q28_0:=k 0x9220
@[go_sem] def Q28_1:=k 0xd10c
@[go_sem] def Q28_2:=k 0x10d08
@[go_sem] def Q28_3:=k 0x24eb79cfa9857ee9130c
@[go_sem] def Q28_4:=k 0xcfc7b601d13f4170a5d7be6c0a61d62c56c
@[go_sem] def Q28_5:=k 0x49f0b072e48c44b4c
def Q28_6:TC:=(.seq (.seq (.reg Q28_3) (.cond (.t 8) .skip (.exit 0))) (.seq (.block 1 (.reg Q28_4)) (.reg Q28_5)))
@[go_sem] def Q28_7:=k 0x41ec47eabe8f79cc
def t_Q28:TF:=⟨19,[.t 2],(.seq (.reg Q28_0) (.seq (.reg Q28_1) (.seq (.seq (.reg Q28_2) (.block 0 (.loop Q28_6))) (.seq (.reg Q28_7) .ret))))⟩
/-! horarium/config.Right -/
@[go_sem] def Q29_0:=k 0x5d1d314
@[go_sem] def Q29_1:=k 0x742175c655c1384ad47c9a606b255008b58
@[go_sem] def Q29_2:=k 0x12f1cfaf875c
def t_Q29:TF:=⟨11,[.t 2],(.seq (.reg Q29_0) (.seq (.reg Q29_1) (.seq (.reg Q29_2) .ret)))⟩
/-! horarium/sum.Seal -/
@[go_sem] def Q30_0:=k 0x9110
@[go_sem] def Q30_1:=k 0x34145a8dbfa221c137511439648e898eec
def t_Q30:TF:=⟨9,[.t 2],(.seq (.reg Q30_0) (.seq (.reg Q30_1) .ret))⟩
/-! horarium/image.body -/
@[go_sem] def Q31_0:=k 0xf845314
@[go_sem] def Q31_1:=k 0x1148f4d68788c2f64261b4054fee174e75539b0
@[go_sem] def Q31_2:=k 0x313e3cf8902156a30
@[go_sem] def Q31_3:=k 0x19ff1284
@[go_sem] def Q31_4:=k 0x53ddeccadd05b2ee69310
@[go_sem] def Q31_5:=kd 0x90061ed9c0d5090c233803f75a22353b8a371a8e68c18751be00afcb08392bb9
@[go_sem] def Q31_6:=kd 0xb10d79da4eefc393ddb63080e17d8b090fc841b218d17984f50ec4d2246079e10ac5b9e99
@[go_sem] def Q31_7:=k 0x63a02c38cee0ff4401
@[go_sem] def Q31_8:=k 0xd8aa8055
@[go_sem] def Q31_9:=k 0x1c00cd7f69598c6a17842ad
@[go_sem] def Q31_10:=k 0x65b2a51b727df2fda1385270580ae5517f1fa8d6962eb7a6e
@[go_sem] def Q31_11:=k 0xf9e2375ab8b1cf2
def Q31_12:TC:=(.seq (.reg Q31_8) (.seq (.cond (.t 56) .skip (.exit 2)) (.seq (.block 3 (.seq (.reg Q31_9) (.reg Q31_10))) (.reg Q31_11))))
@[go_sem] def Q31_13:=k 0x1889cf289c37af2
@[go_sem] def Q31_14:=k 0x42f40354e
@[go_sem] def Q31_15:=k 0x10b56da50d7e74c2
@[go_sem] def Q31_16:=k 0x202b17c918d7063883633fc38aa13e
@[go_sem] def Q31_17:=k 0x11fe8ec2f4c58992
def Q31_18:TC:=(.seq (.reg Q31_14) (.seq (.cond (.t 70) .skip (.exit 4)) (.seq (.block 5 (.seq (.reg Q31_15) (.reg Q31_16))) (.reg Q31_17))))
@[go_sem] def Q31_19:=k 0x122685f90199c7a2
def Q31_20:TC:=(.seq (.reg Q31_3) (.seq (.cond (.t 27) .skip (.exit 0)) (.seq (.block 1 (.seq (.reg Q31_4) (.seq (.dreg Q31_5) (.seq (.dreg Q31_6) (.seq (.seq (.reg Q31_7) (.block 2 (.loop Q31_12))) (.seq (.reg Q31_13) (.block 4 (.loop Q31_18)))))))) (.reg Q31_19))))
@[go_sem] def Q31_21:=k 0x42f38c6dc5752285192cef3a90e7f47530290159e
@[go_sem] def Q31_22:=k 0xc276a207f6d79b77a02
@[go_sem] def Q31_23:=k 0x5505e1a56
@[go_sem] def Q31_24:=k 0xa5a8d7fe219701678f7560d6
@[go_sem] def Q31_25:=kd 0x5c394fb343c950b1cb52c5b8fed2b0d4061b69b6842175c75de02d8f98a4f933f1faa
@[go_sem] def Q31_26:=k 0x4e75455b1743f06bb9f32bca4cd48f1fedcc9da29b2f942f949e0fa80e66b35a90e
@[go_sem] def Q31_27:=k 0x1a4172ec9c1605c2
def Q31_28:TC:=(.seq (.reg Q31_23) (.seq (.cond (.t 88) .skip (.exit 6)) (.seq (.block 7 (.seq (.reg Q31_24) (.seq (.dreg Q31_25) (.reg Q31_26)))) (.reg Q31_27))))
@[go_sem] def Q31_29:=k 0x5e5e5da235288aeb1f3a5ab5973a635d10a9853be
@[go_sem] def Q31_30:=k 0xca36ef2b20a9943b822
@[go_sem] def Q31_31:=k 0x7640d6876
@[go_sem] def Q31_32:=k 0xe2576efc9de7e724aeae
@[go_sem] def Q31_33:=k 0x1ad1bd762b694e42130355f3ac9e219b752c28f
@[go_sem] def Q31_34:=k 0xbc310ad22d38df
@[go_sem] def Q31_35:=k 0x8040a4b327
@[go_sem] def Q31_36:=k 0xd7fae507de27611557350a11183
@[go_sem] def Q31_37:=k 0x34f28c207a1d2f7670b8665f5b05c903d9928e860d4bfa3fa9858af173e85b431956d3f
@[go_sem] def Q31_38:=k 0x22262f712f819f5be3
def Q31_39:TC:=(.seq (.reg Q31_35) (.seq (.cond (.t 133) .skip (.exit 10)) (.seq (.block 11 (.seq (.reg Q31_36) (.reg Q31_37))) (.reg Q31_38))))
@[go_sem] def Q31_40:=k 0x226113728ed6df99f3
def Q31_41:TC:=(.seq (.reg Q31_31) (.seq (.cond (.t 122) .skip (.exit 8)) (.seq (.block 9 (.seq (.reg Q31_32) (.seq (.reg Q31_33) (.seq (.reg Q31_34) (.block 10 (.loop Q31_39)))))) (.reg Q31_40))))
@[go_sem] def Q31_42:=k 0x1147a2c4575817ef
def t_Q31:TF:=⟨148,[.t 2],(.seq (.reg Q31_0) (.seq (.reg Q31_1) (.seq (.seq (.reg Q31_2) (.block 0 (.loop Q31_20))) (.seq (.reg Q31_21) (.seq (.seq (.reg Q31_22) (.block 6 (.loop Q31_28))) (.seq (.reg Q31_29) (.seq (.seq (.reg Q31_30) (.block 8 (.loop Q31_41))) (.seq (.reg Q31_42) .ret))))))))⟩
/-! horarium/sum.Open -/
@[go_sem] def Q32_0:=k 0x6d2d10
@[go_sem] def Q32_1:=k 0x64f51605d063246100b0c
@[go_sem] def Q32_2:=kd 0x23bbab2480d6664de3812f2900b69718bf9b725e71e8c392c5c9c34938a6742386d5c98
@[go_sem] def Q32_3:=k 0x6d2d10
@[go_sem] def Q32_4:=k 0xb50d7a4322888ecb2277ed22a1c
def t_Q32:TF:=⟨26,[.t 2,.t 3],(.seq (.reg Q32_0) (.seq (.reg Q32_1) (.seq (.seq (.dreg Q32_2) (.cond (.t 21) (.seq (.reg Q32_3) .ret) .skip)) (.seq (.reg Q32_4) .ret))))⟩
/-! horarium/image.read -/
@[go_sem] def Q33_0:=k 0x9160
@[go_sem] def Q33_1:=k 0xcf70
@[go_sem] def Q33_2:=k 0x174bd5ecbc91c
@[go_sem] def Q33_3:=k 0x7fa9164
@[go_sem] def Q33_4:=kd 0x3a6c53dbc4f1ea774b1895b89823f8cf769e3ca4d81c270fa1acdacc924
@[go_sem] def Q33_5:=k 0x40ecbe745f5e0
def Q33_6:TC:=(.seq (.reg Q33_3) (.seq (.cond (.t 9) .skip (.exit 0)) (.seq (.block 1 (.dreg Q33_4)) (.reg Q33_5))))
@[go_sem] def Q33_7:=k 0x18b6d17d0b1dc
@[go_sem] def Q33_8:=k 0x13fd9224
@[go_sem] def Q33_9:=k 0x3893a5b0b7cefae8cb3cb3552ce3138cbb913817fb8aeca19d4cfaa1c
@[go_sem] def Q33_10:=k 0x1c7adba172e6f887873c8583a4f914b11c52446f62d0e98ad
@[go_sem] def Q33_11:=k 0x233660800b2315c9081c1cd2dc9b8e224358d721
@[go_sem] def Q33_12:=k 0xa6b33d356e4391
def Q33_13:TC:=(.seq (.reg Q33_8) (.seq (.cond (.t 21) .skip (.exit 2)) (.seq (.block 3 (.seq (.reg Q33_9) (.seq (.reg Q33_10) (.reg Q33_11)))) (.reg Q33_12))))
@[go_sem] def Q33_14:=k 0x193767b827fd8d
@[go_sem] def Q33_15:=k 0xb9246fd5
@[go_sem] def Q33_16:=k 0x14b40
@[go_sem] def Q33_17:=k 0x65cf193bf5cd
@[go_sem] def Q33_18:=k 0xc8e77815
@[go_sem] def Q33_19:=k 0x2c4552f7aa250a2e61a7d553089699886945dd6bb828cded49f700cfd820d
@[go_sem] def Q33_20:=k 0xeffd7eccb1dec1
def Q33_21:TC:=(.seq (.reg Q33_18) (.seq (.cond (.t 52) .skip (.exit 6)) (.seq (.block 7 (.reg Q33_19)) (.reg Q33_20))))
@[go_sem] def Q33_22:=k 0x1c096919f7bcca22a599ab4269f5356d704e974b0c2
@[go_sem] def Q33_23:=k 0x108b1c94ef6c1532
def Q33_24:TC:=(.seq (.reg Q33_15) (.seq (.cond (.t 48) .skip (.exit 4)) (.seq (.block 5 (.seq (.reg Q33_16) (.seq (.seq (.reg Q33_17) (.block 6 (.loop Q33_21))) (.reg Q33_22)))) (.reg Q33_23))))
@[go_sem] def Q33_25:=k 0x13422973a636a
def t_Q33:TF:=⟨72,[.cell 2 3 true],(.seq (.reg Q33_0) (.seq (.reg Q33_1) (.seq (.seq (.reg Q33_2) (.block 0 (.loop Q33_6))) (.seq (.seq (.reg Q33_7) (.block 2 (.loop Q33_13))) (.seq (.seq (.reg Q33_14) (.block 4 (.loop Q33_24))) (.seq (.reg Q33_25) .ret))))))⟩
/-! horarium/code.Read -/
@[go_sem] def Q34_0:=k 0x9284
@[go_sem] def Q34_1:=k 0x23e347ae807d96af4eec
def t_Q34:TF:=⟨6,[.t 2],(.seq (.reg Q34_0) (.seq (.reg Q34_1) .ret))⟩
/-! slices.Equal[[]byte,byte] -/
@[go_sem] def Q35_0:=k 0x10d28
@[go_sem] def Q35_1:=k 0x63e7e408c0c793faf631491c
@[go_sem] def Q35_2:=k 0x10d28
@[go_sem] def Q35_3:=k 0xbee58d77f6c
@[go_sem] def Q35_4:=k 0xcfbd1b4
@[go_sem] def Q35_5:=k 0x1c864be151ac
@[go_sem] def Q35_6:=kd 0x4d55d7bc4516e06d0c68e2d61b5bf8ac5e71b9bc65fa18
@[go_sem] def Q35_7:=k 0x10d28
@[go_sem] def Q35_8:=k 0x5f9ab64c12660
def Q35_9:TC:=(.seq (.reg Q35_4) (.seq (.cond (.t 14) .skip (.exit 0)) (.seq (.block 1 (.seq (.reg Q35_5) (.seq (.dreg Q35_6) (.cond (.t 24) (.seq (.reg Q35_7) .ret) .skip)))) (.reg Q35_8))))
@[go_sem] def Q35_10:=k 0x10dc0
def t_Q35:TF:=⟨26,[.t 4],(.seq (.reg Q35_0) (.seq (.seq (.reg Q35_1) (.cond (.t 10) (.seq (.reg Q35_2) .ret) .skip)) (.seq (.seq (.reg Q35_3) (.block 0 (.loop Q35_9))) (.seq (.reg Q35_10) .ret))))⟩
/-! horarium/horariumref12.But -/
@[go_sem] def Q36_0:=k 0x1a63b1ded124
@[go_sem] def Q36_1:=k 0x23d94782101202fa4e9e044542cdce0d24196e8840b9ef6cac316a88606d6ab5f29e0f6480194b30
@[go_sem] def Q36_2:=k 0x10d28
@[go_sem] def Q36_3:=k 0x313e3cf89021d2c30
@[go_sem] def Q36_4:=k 0x19ff1284
@[go_sem] def Q36_5:=k 0x34f965e9527c
@[go_sem] def Q36_6:=kd 0x22dfea43f79d446220c35e5821cbabef8e252081d6383c6cde669f5abe16114635
@[go_sem] def Q36_7:=k 0x10d28
@[go_sem] def Q36_8:=k 0x9bc4b312b38961
def Q36_9:TC:=(.seq (.reg Q36_4) (.seq (.cond (.t 27) .skip (.exit 0)) (.seq (.block 1 (.seq (.reg Q36_5) (.seq (.dreg Q36_6) (.cond (.t 40) (.seq (.reg Q36_7) .ret) .skip)))) (.reg Q36_8))))
@[go_sem] def Q36_10:=k 0x61588db60f474a4b61
@[go_sem] def Q36_11:=k 0xb142ebb5
@[go_sem] def Q36_12:=k 0x2c4a5a72cadad
@[go_sem] def Q36_13:=kd 0xc310560f4fe2c553c3ed69ddafb6c95e83e544aa3cc895d2b786e70f0ed45
@[go_sem] def Q36_14:=k 0x10d28
@[go_sem] def Q36_15:=k 0xe097772f6ae681
def Q36_16:TC:=(.seq (.reg Q36_11) (.seq (.cond (.t 46) .skip (.exit 2)) (.seq (.block 3 (.seq (.reg Q36_12) (.seq (.dreg Q36_13) (.cond (.t 58) (.seq (.reg Q36_14) .ret) .skip)))) (.reg Q36_15))))
@[go_sem] def Q36_17:=k 0x10dc0
def t_Q36:TF:=⟨60,[.t 4],(.seq (.reg Q36_0) (.seq (.seq (.reg Q36_1) (.cond (.t 22) (.seq (.reg Q36_2) .ret) .skip)) (.seq (.seq (.reg Q36_3) (.block 0 (.loop Q36_9))) (.seq (.seq (.reg Q36_10) (.block 2 (.loop Q36_16))) (.seq (.reg Q36_17) .ret)))))⟩
/-! horarium/cursor.New -/
@[go_sem] def Q37_0:=k 0x9284
@[go_sem] def Q37_1:=k 0x123d2bce03060cfc
@[go_sem] def Q37_2:=k 0x9284
@[go_sem] def Q37_3:=k 0x8aa22a3b9b02b3a9de3d072c
@[go_sem] def Q37_4:=k 0xa66d09c56c
@[go_sem] def Q37_5:=k 0x18963810418c
def t_Q37:TF:=⟨14,[.t 2],(.seq (.reg Q37_0) (.seq (.seq (.reg Q37_1) (.cond (.t 6) (.seq (.reg Q37_2) .ret) .skip)) (.seq (.reg Q37_3) (.seq (.reg Q37_4) (.seq (.reg Q37_5) .ret)))))⟩
/-! (*horarium/cursor.Cursor).Next -/
@[go_sem] def Q38_0:=k 0x6d2d5c
@[go_sem] def Q38_1:=kd 0x3ff14beeb8486223c6a133c4a38dc5a4084c77fe51719ec888
@[go_sem] def Q38_2:=k 0x615f76bf06e39c
@[go_sem] def Q38_3:=kd 0x31cd44ba4c22bb40053097d5634e4fe6e69c24360a1ea5f5a3648b472ba06b096e834eaf39b1c870a074e60b4ce7f087b326803858569dc2fd9854abf1b785b5e27b34396747fbfa48d5772cdba19
@[go_sem] def Q38_4:=kd 0x40e6067222b8b9d9492e35ee16b1c975eaf62670da581d6be9c68649559
@[go_sem] def Q38_5:=k 0xc797235ee0d
@[go_sem] def Q38_6:=k 0xc34dbd693b807a99
def t_Q38:TF:=⟨56,[.cell 2 2 true,.t 3],(.seq (.reg Q38_0) (.seq (.seq (.dreg Q38_1) (.cond (.t 14) (.seq (.reg Q38_2) .ret) .skip)) (.seq (.dreg Q38_3) (.seq (.dreg Q38_4) (.seq (.reg Q38_5) (.seq (.reg Q38_6) .ret))))))⟩
/-! horarium/runs.Tidy -/
@[go_sem] def Q39_0:=k 0x9110
@[go_sem] def Q39_1:=k 0xcf20
@[go_sem] def Q39_2:=k 0xbb229d2872c
@[go_sem] def Q39_3:=k 0x8fad174
@[go_sem] def Q39_4:=k 0x4c590b2b0c13e5f6251cc
@[go_sem] def Q39_5:=k 0x33c9daf51091418c
@[go_sem] def Q39_6:=k 0x27fa40f7bea8d034acbf800
@[go_sem] def Q39_7:=kd 0x1e930705d10e085d275fbf743641dddefdd17a948ef1ad740d6aa9414d60706e89e72a4c71e30b799
@[go_sem] def Q39_8:=kd 0xd60b06cf64b5c5931444a31f4b82ec297a8b70c2f46f776623154f2185b5f4dfabbfa2e8b4f3cbd98abe289
@[go_sem] def Q39_9:=k 0x1f0cb0e8a3b8802c0eee577dac
@[go_sem] def Q39_10:=k 0xc0624d7fc4f601
def Q39_11:TC:=(.seq (.reg Q39_3) (.seq (.cond (.t 10) .skip (.exit 0)) (.seq (.block 1 (.seq (.reg Q39_4) (.seq (.reg Q39_5) (.block 2 (.seq (.reg Q39_6) (.cond (.t 19) .skip (.seq (.dreg Q39_7) (.cond (.t 23) (.dreg Q39_8) (.reg Q39_9))))))))) (.reg Q39_10))))
@[go_sem] def Q39_12:=k 0xc174c533cbe413bfd
def t_Q39:TF:=⟨54,[.t 2],(.seq (.reg Q39_0) (.seq (.reg Q39_1) (.seq (.seq (.reg Q39_2) (.block 0 (.loop Q39_11))) (.seq (.reg Q39_12) .ret))))⟩
/-! horarium/bound.Late -/
@[go_sem] def Q40_0:=k 0x18928
@[go_sem] def Q40_1:=k 0x1f47cec55f3fdc07d7baf8ecd0b51c7c1c8d77ac
@[go_sem] def Q40_2:=k 0x15d008e5df2bb8a2fb781c
@[go_sem] def Q40_3:=k 0x18928
@[go_sem] def Q40_4:=k 0x1975d9ba1945fd1208325c
@[go_sem] def Q40_5:=k 0x189c0
@[go_sem] def Q40_6:=k 0x6e7dfe6ac4d89c8c
@[go_sem] def Q40_7:=k 0x28168
@[go_sem] def Q40_8:=k 0x6190531734ad
@[go_sem] def Q40_9:=k 0x81f9d2f5
@[go_sem] def Q40_10:=k 0x2c791f1d85f6de8b4c7954d
@[go_sem] def Q40_11:=k 0x157860b71e27c6c24c178c7ec7d9a4c44bf033d11
@[go_sem] def Q40_12:=k 0xad5229a5
@[go_sem] def Q40_13:=k 0x2b104881e0becdfebdd
@[go_sem] def Q40_14:=k 0xa75117e2a7dcba4e74e480609cbf4d7308cc208836ff69dfbd
@[go_sem] def Q40_15:=k 0xd53f9aaa892c51
def Q40_16:TC:=(.seq (.reg Q40_12) (.seq (.cond (.t 45) .skip (.exit 3)) (.seq (.block 4 (.seq (.reg Q40_13) (.reg Q40_14))) (.reg Q40_15))))
@[go_sem] def Q40_17:=k 0xd85d0974de6a61
def Q40_18:TC:=(.seq (.reg Q40_9) (.seq (.cond (.t 34) .skip (.exit 1)) (.seq (.block 2 (.seq (.reg Q40_10) (.seq (.reg Q40_11) (.block 3 (.loop Q40_16))))) (.reg Q40_17))))
@[go_sem] def Q40_19:=k 0x36a26f0104c5d
def t_Q40:TF:=⟨59,[.t 6],(.seq (.reg Q40_0) (.seq (.reg Q40_1) (.seq (.block 0 (.seq (.reg Q40_2) (.cond (.t 21) (.seq (.reg Q40_3) .ret) (.seq (.reg Q40_4) (.cond (.t 25) (.seq (.reg Q40_5) .ret) .skip))))) (.seq (.reg Q40_6) (.seq (.reg Q40_7) (.seq (.seq (.reg Q40_8) (.block 1 (.loop Q40_18))) (.seq (.reg Q40_19) .ret)))))))⟩
/-! horarium/bound.Budget -/
@[go_sem] def Q41_0:=k 0x18928
@[go_sem] def Q41_1:=k 0x378cd2ca8385f99c
@[go_sem] def Q41_2:=k 0x3f1979854ca5af18fe30267f38850ed65cd6e0c29dccd0dd8986570b86039bc
@[go_sem] def Q41_3:=k 0x189c0
@[go_sem] def Q41_4:=k 0x1ac25874080e2083109e7c
@[go_sem] def Q41_5:=k 0x3ad9fc93dcac
@[go_sem] def Q41_6:=k 0x28168
@[go_sem] def Q41_7:=k 0x769ab3b5e2261febd
@[go_sem] def Q41_8:=k 0x2bf78
@[go_sem] def Q41_9:=k 0x63359c446b1d
@[go_sem] def Q41_10:=k 0x9d8f2165
@[go_sem] def Q41_11:=k 0x3065ae435b135dc175ce3bd
@[go_sem] def Q41_12:=k 0x9037fa91af08ade043717f14a487bad86e9bc19c1ed6d3f4671f2ceabcede498cfc14390ad8746d6b7d
@[go_sem] def Q41_13:=k 0xdc894c1705a871
def Q41_14:TC:=(.seq (.reg Q41_10) (.seq (.cond (.t 41) .skip (.exit 2)) (.seq (.block 3 (.seq (.reg Q41_11) (.reg Q41_12))) (.reg Q41_13))))
@[go_sem] def Q41_15:=k 0xd848abdeb63aae64969066d
@[go_sem] def Q41_16:=k 0x837262897f185b7944eb8ed
def Q41_17:TC:=(.seq (.seq (.reg Q41_7) (.cond (.t 34) .skip (.exit 0))) (.seq (.block 1 (.seq (.reg Q41_8) (.seq (.seq (.reg Q41_9) (.block 2 (.loop Q41_14))) (.reg Q41_15)))) (.reg Q41_16)))
@[go_sem] def Q41_18:=k 0x3a655f401c09d
def t_Q41:TF:=⟨63,[.t 6],(.seq (.reg Q41_0) (.seq (.reg Q41_1) (.seq (.seq (.reg Q41_2) (.cond (.t 27) (.seq (.reg Q41_3) .ret) .skip)) (.seq (.reg Q41_4) (.seq (.reg Q41_5) (.seq (.seq (.reg Q41_6) (.block 0 (.loop Q41_17))) (.seq (.reg Q41_18) .ret)))))))⟩
/-! horarium/node.Length -/
@[go_sem] def Q42_0:=k 0xd9410e8
@[go_sem] def Q42_1:=k 0xcc6faf26d8c91c
@[go_sem] def Q42_2:=k 0xd9410e8
@[go_sem] def Q42_3:=k 0xa7bd74b0ca224204ae80556da25b679415c
@[go_sem] def Q42_4:=k 0xd2ef63839c
@[go_sem] def Q42_5:=k 0xc57c770807fbc
@[go_sem] def Q42_6:=k 0xd9410e8
def t_Q42:TF:=⟨17,[.t 2,.t 3],(.seq (.reg Q42_0) (.seq (.seq (.reg Q42_1) (.cond (.t 8) (.seq (.reg Q42_2) .ret) .skip)) (.seq (.seq (.reg Q42_3) (.seq (.reg Q42_4) (.cond (.t 15) (.seq (.reg Q42_5) .ret) .skip))) (.seq (.reg Q42_6) .ret))))⟩
/-! horarium/node.whole -/
@[go_sem] def Q43_0:=k 0x9108
@[go_sem] def Q43_1:=k 0x44df5686505ca913cdfa998679db45614ad869b0d3fe5f63bccd8eec
def t_Q43:TF:=⟨13,[.t 2],(.seq (.reg Q43_0) (.seq (.reg Q43_1) .ret))⟩
/-! horarium/node.Depth -/
@[go_sem] def Q44_0:=k 0x90e8
@[go_sem] def Q44_1:=k 0xaf41544a978b0c
@[go_sem] def Q44_2:=k 0x90e8
@[go_sem] def Q44_3:=k 0x9ad674ce42c768b9a205a3aa548ca38034c
@[go_sem] def Q44_4:=k 0x18963810418c
def t_Q44:TF:=⟨14,[.t 2],(.seq (.reg Q44_0) (.seq (.seq (.reg Q44_1) (.cond (.t 7) (.seq (.reg Q44_2) .ret) .skip)) (.seq (.reg Q44_3) (.seq (.reg Q44_4) .ret))))⟩
/-! horarium/horariumref3.Depth -/
@[go_sem] def Q45_0:=k 0x90e8
@[go_sem] def Q45_1:=k 0x95470d27f57202bc5e8a74198a2b692963752215b3936d8eec
@[go_sem] def Q45_2:=k 0x90e8
@[go_sem] def Q45_3:=k 0x66aa438b9e811bb8c
def t_Q45:TF:=⟨15,[.t 2],(.seq (.reg Q45_0) (.seq (.seq (.reg Q45_1) (.cond (.t 12) (.seq (.reg Q45_2) .ret) .skip)) (.seq (.reg Q45_3) .ret)))⟩
/-! horarium/horariumref3.Length -/
@[go_sem] def Q46_0:=k 0xd9410e8
@[go_sem] def Q46_1:=k 0x15e2cdd8270fcb0c
@[go_sem] def Q46_2:=k 0xd9410e8
@[go_sem] def Q46_3:=k 0x42a51d5fcb068c53c
@[go_sem] def Q46_4:=k 0x970530895c
@[go_sem] def Q46_5:=k 0xd9410e8
@[go_sem] def Q46_6:=k 0xc50418ff7c57c
def t_Q46:TF:=⟨13,[.t 2,.t 3],(.seq (.reg Q46_0) (.seq (.seq (.reg Q46_1) (.cond (.t 7) (.seq (.reg Q46_2) .ret) .skip)) (.seq (.reg Q46_3) (.seq (.seq (.reg Q46_4) (.cond (.t 11) (.seq (.reg Q46_5) .ret) .skip)) (.seq (.reg Q46_6) .ret)))))⟩
/-! horarium/horariumref3.leaves -/
@[go_sem] def Q47_0:=k 0x18950
@[go_sem] def Q47_1:=k 0x164c3c6c878255be26c7ac415c
@[go_sem] def Q47_2:=k 0x3dfc731f737dc
@[go_sem] def Q47_3:=kd 0x2929176bc7617952c6e8422068ff4cb579db94dc17267d18b5d3ce89b1953709b4b921adce60ee4c8
@[go_sem] def Q47_4:=k 0x7a357b6934dedd
@[go_sem] def Q47_5:=k 0x78e3605898fb3d8ddbe1f938f0cb2f2f867949be3f1a9d2ca1ccd
@[go_sem] def Q47_6:=k 0xa43b4f7456918d
@[go_sem] def Q47_7:=k 0x1c738
@[go_sem] def Q47_8:=k 0x9064f10ab369fd3c26e97a55a846d5d31a5b7d
@[go_sem] def Q47_9:=k 0xbdb7cb211621109a354e8afe1aec6b3ee0d
@[go_sem] def Q47_10:=k 0x2f85fbdcd5681850ded
def Q47_11:TC:=(.seq (.seq (.reg Q47_8) (.cond (.t 50) .skip (.exit 1))) (.seq (.block 2 (.reg Q47_9)) (.reg Q47_10)))
@[go_sem] def Q47_12:=k 0x36a26ef942c5d
@[go_sem] def Q47_13:=k 0x189835698c8fb6e5bb5626d
@[go_sem] def Q47_14:=k 0x3d90f88d6
@[go_sem] def Q47_15:=k 0x788104e7a0568c26cf0e
@[go_sem] def Q47_16:=k 0xf02b5bbed17928bf57e9409232c52ee
@[go_sem] def Q47_17:=k 0x10ced17a67ac5342
def Q47_18:TC:=(.seq (.reg Q47_14) (.seq (.cond (.t 64) .skip (.exit 3)) (.seq (.block 4 (.seq (.reg Q47_15) (.reg Q47_16))) (.reg Q47_17))))
@[go_sem] def Q47_19:=k 0x21e06715eb993e
def t_Q47:TF:=⟨73,[.t 6],(.seq (.reg Q47_0) (.seq (.seq (.reg Q47_1) (.block 0 (.seq (.reg Q47_2) (.cond (.t 15) (.seq (.dreg Q47_3) .ret) (.seq (.reg Q47_4) (.cond (.t 31) (.seq (.reg Q47_5) .ret) (.seq (.reg Q47_6) (.cond (.t 42) (.seq (.seq (.reg Q47_7) (.block 1 (.loop Q47_11))) (.seq (.reg Q47_12) .ret)) .skip)))))))) (.seq (.seq (.reg Q47_13) (.block 3 (.loop Q47_18))) (.seq (.reg Q47_19) .ret))))⟩
/-! horarium/horariumref7.words -/
@[go_sem] def Q48_0:=k 0x9110
@[go_sem] def Q48_1:=k 0xcf20
@[go_sem] def Q48_2:=k 0xbb229d2872c
@[go_sem] def Q48_3:=k 0x8fad174
@[go_sem] def Q48_4:=k 0x4c590b2b0c13e5f6251cc
@[go_sem] def Q48_5:=k 0x18928
@[go_sem] def Q48_6:=k 0x6aebe9ae514647228a53aaeba664ab3e14e8eaaf7c78c
@[go_sem] def Q48_7:=k 0xbaf6aa315ca692a83a5e927e2c32c3c
@[go_sem] def Q48_8:=k 0xa93be18ef8276f61c
def Q48_9:TC:=(.seq (.seq (.reg Q48_6) (.cond (.t 21) .skip (.exit 2))) (.seq (.block 3 (.reg Q48_7)) (.reg Q48_8)))
@[go_sem] def Q48_10:=k 0x6e2e190611ea0
def Q48_11:TC:=(.seq (.reg Q48_3) (.seq (.cond (.t 10) .skip (.exit 0)) (.seq (.block 1 (.seq (.reg Q48_4) (.seq (.reg Q48_5) (.block 2 (.loop Q48_9))))) (.reg Q48_10))))
@[go_sem] def Q48_12:=k 0x388f3234609c
def t_Q48:TF:=⟨31,[.t 2],(.seq (.reg Q48_0) (.seq (.reg Q48_1) (.seq (.seq (.reg Q48_2) (.block 0 (.loop Q48_11))) (.seq (.reg Q48_12) .ret))))⟩
/-! horarium/horariumref12.Where -/
@[go_sem] def Q49_0:=k 0xb48d691d314
@[go_sem] def Q49_1:=k 0x4161e0000ddbd31ee5a5c1a2f22dae68eeab498214fd84d3b2f79cb4617b67a1c054f29af41a4336d9482a084de505eee4a26c14d5ebfbe57f59dad8a244b0f98d856d7c1a2aa55f3c3a95379c1
@[go_sem] def Q49_2:=k 0x5e956e8
@[go_sem] def Q49_3:=k 0x61cd470368c55a4381
@[go_sem] def Q49_4:=k 0xb9246fd5
@[go_sem] def Q49_5:=k 0x4d44e648786357144a3dd9ebaacc931cd
@[go_sem] def Q49_6:=k 0x2fc1da25a6f0dc8d9a4401
@[go_sem] def Q49_7:=k 0xcc44d56459445b83d
@[go_sem] def Q49_8:=k 0x18928
@[go_sem] def Q49_9:=k 0xd3382349d791dfe4d
@[go_sem] def Q49_10:=kd 0x42383ee2d595e4f6a10df97dbb0c0cd4daaf2b08924662b8b9a95ae6
@[go_sem] def Q49_11:=k 0x102fb9c77308c756b2e
@[go_sem] def Q49_12:=k 0x37b75b6e75f4a77b87d
def Q49_13:TC:=(.seq (.seq (.reg Q49_9) (.cond (.t 59) .skip (.exit 2))) (.seq (.block 3 (.seq (.dreg Q49_10) (.cond (.t 70) (.seq (.reg Q49_11) .ret) .skip))) (.reg Q49_12)))
@[go_sem] def Q49_14:=k 0x21497fbd431a8b1da
@[go_sem] def Q49_15:=k 0x11192c2d7ce9476636e
@[go_sem] def Q49_16:=k 0x11f436acef6d8992
def Q49_17:TC:=(.seq (.reg Q49_4) (.seq (.cond (.t 48) .skip (.exit 0)) (.seq (.block 1 (.seq (.reg Q49_5) (.seq (.seq (.reg Q49_6) (.cond (.t 55) (.seq (.reg Q49_7) .ret) .skip)) (.seq (.seq (.reg Q49_8) (.block 2 (.loop Q49_13))) (.seq (.reg Q49_14) (.cond (.t 74) (.seq (.reg Q49_15) .ret) .skip)))))) (.reg Q49_16))))
@[go_sem] def Q49_18:=k 0xc0de19ade6b41b5c792
@[go_sem] def Q49_19:=k 0x4e2e72fe6
@[go_sem] def Q49_20:=k 0xe67c2451783f374f6d08c68d8bf7cda75de
@[go_sem] def Q49_21:=k 0x1280e80e2e340efe4bba7a20564fb2cf0ae
@[go_sem] def Q49_22:=k 0x14bef5af12c9cd75c6e
@[go_sem] def Q49_23:=k 0x15c6ab0df7756a92
def Q49_24:TC:=(.seq (.reg Q49_19) (.seq (.cond (.t 81) .skip (.exit 4)) (.seq (.block 5 (.seq (.reg Q49_20) (.seq (.reg Q49_21) (.cond (.t 90) (.seq (.reg Q49_22) .ret) .skip)))) (.reg Q49_23))))
@[go_sem] def Q49_25:=k 0xc483e3a054bd13da892
@[go_sem] def Q49_26:=k 0x5dd1b90e6
@[go_sem] def Q49_27:=k 0x2ae06a6c2662c888b14412a886d6de
@[go_sem] def Q49_28:=k 0x54abf4f52cca6eefca68b74afd28c861cf8371f1e
@[go_sem] def Q49_29:=k 0x31d6f1420e275e
@[go_sem] def Q49_30:=k 0xc0c72c5ca7b548a84aaa37e
@[go_sem] def Q49_31:=k 0x339a56cec179e
@[go_sem] def Q49_32:=k 0x6d74ff1e6
@[go_sem] def Q49_33:=k 0xd2de5195991f05eb0467383e
@[go_sem] def Q49_34:=k 0xc425343682d64b0c99d9eee4c0e26bcea402
@[go_sem] def Q49_35:=k 0x1bd02c040be951cf05e
@[go_sem] def Q49_36:=k 0x1d1f684ce7fcee82
def Q49_37:TC:=(.seq (.reg Q49_32) (.seq (.cond (.t 113) .skip (.exit 8)) (.seq (.block 9 (.seq (.reg Q49_33) (.seq (.reg Q49_34) (.cond (.t 121) (.seq (.reg Q49_35) .ret) .skip)))) (.reg Q49_36))))
@[go_sem] def Q49_38:=k 0x6f86f0859efc519b1eb792cba
@[go_sem] def Q49_39:=k 0xeeda99d0f64beaf
@[go_sem] def Q49_40:=k 0x397ac2eb4f65a7ec5ab9253acf
@[go_sem] def Q49_41:=k 0x1ed761eac4989bf703
def Q49_42:TC:=(.seq (.reg Q49_26) (.seq (.cond (.t 97) .skip (.exit 6)) (.seq (.block 7 (.seq (.reg Q49_27) (.seq (.reg Q49_28) (.seq (.seq (.reg Q49_29) (.cond (.t 107) (.seq (.reg Q49_30) .ret) .skip)) (.seq (.seq (.reg Q49_31) (.block 8 (.loop Q49_37))) (.seq (.reg Q49_38) (.seq (.reg Q49_39) (.cond (.t 128) (.seq (.reg Q49_40) .ret) .skip)))))))) (.reg Q49_41))))
@[go_sem] def Q49_43:=k 0x2aab90e8
def t_Q49:TF:=⟨132,[.t 2,.t 3],(.seq (.reg Q49_0) (.seq (.seq (.reg Q49_1) (.cond (.t 43) (.seq (.reg Q49_2) .ret) .skip)) (.seq (.seq (.reg Q49_3) (.block 0 (.loop Q49_17))) (.seq (.seq (.reg Q49_18) (.block 4 (.loop Q49_24))) (.seq (.seq (.reg Q49_25) (.block 6 (.loop Q49_42))) (.seq (.reg Q49_43) .ret))))))⟩
/-! horarium/horariumref1.Next -/
@[go_sem] def Q50_0:=k 0x10e40
@[go_sem] def Q50_1:=k 0x249fa14d4024a1cfbbbbb3e02b872c
@[go_sem] def Q50_2:=k 0x14b18
@[go_sem] def Q50_3:=k 0x170a0e3d877c
@[go_sem] def Q50_4:=k 0x3ebb3790ef61b5bc
@[go_sem] def Q50_5:=k 0x4557b4dc44dc71dc
@[go_sem] def Q50_6:=k 0x12de577f9fc
@[go_sem] def Q50_7:=k 0x53eedb011ba42a1c
@[go_sem] def Q50_8:=k 0x6ea4ec659b16d439c
def Q50_9:TC:=(.seq (.seq (.reg Q50_3) (.cond (.t 13) .skip (.exit 0))) (.seq (.block 1 (.seq (.reg Q50_4) (.seq (.reg Q50_5) (.seq (.reg Q50_6) (.cond (.t 21) (.reg Q50_7) .skip))))) (.reg Q50_8)))
@[go_sem] def Q50_10:=k 0x2d6478dda63c
def t_Q50:TF:=⟨25,[.t 4],(.seq (.reg Q50_0) (.seq (.reg Q50_1) (.seq (.seq (.reg Q50_2) (.block 0 (.loop Q50_9))) (.seq (.reg Q50_10) .ret))))⟩
/-! horarium/config.Where -/
@[go_sem] def Q51_0:=k 0xb48d691d314
@[go_sem] def Q51_1:=k 0x38cb1608b6f09c1838071f1812eceae4b35643bb9fc9fc99e6da136ac041b3bfb69d4d8ddc6b876e3b041bbd16a399d4469b1fa9c7b62bb1b48ce4351b479489a31a8471e9f5be57263e4524371
@[go_sem] def Q51_2:=k 0x5e956e8
@[go_sem] def Q51_3:=k 0x60a977c20900590d31
@[go_sem] def Q51_4:=k 0xa570a585
@[go_sem] def Q51_5:=k 0x4c3acc47f08b857a806ce5c2dfc66677d
@[go_sem] def Q51_6:=k 0x8f87843e03aa1462e8bd28c8f804071a908a0b86091249305173b7c1e48990db1
@[go_sem] def Q51_7:=k 0xd73631d289446726d
@[go_sem] def Q51_8:=k 0x37a1a8b2d0543519
@[go_sem] def Q51_9:=k 0xe5cd58ab855476aad
@[go_sem] def Q51_10:=k 0xf1fa8a679d6a0d2
def Q51_11:TC:=(.seq (.reg Q51_4) (.seq (.cond (.t 43) .skip (.exit 0)) (.seq (.block 1 (.seq (.reg Q51_5) (.seq (.seq (.reg Q51_6) (.cond (.t 58) (.seq (.reg Q51_7) .ret) .skip)) (.seq (.reg Q51_8) (.cond (.t 62) (.seq (.reg Q51_9) .ret) .skip))))) (.reg Q51_10))))
@[go_sem] def Q51_12:=k 0xbe21c238142e1b2ded2
@[go_sem] def Q51_13:=k 0x4273fe726
@[go_sem] def Q51_14:=k 0xc9615371172a11dbe1f69c1504e4aa32d1e
@[go_sem] def Q51_15:=k 0x84a79d7621e010f47cccf8a
@[go_sem] def Q51_16:=k 0x118de56444c9cb4ef8e
@[go_sem] def Q51_17:=k 0x1276746cdd4205b2
def Q51_18:TC:=(.seq (.reg Q51_13) (.seq (.cond (.t 69) .skip (.exit 2)) (.seq (.block 3 (.seq (.reg Q51_14) (.seq (.reg Q51_15) (.cond (.t 76) (.seq (.reg Q51_16) .ret) .skip)))) (.reg Q51_17))))
@[go_sem] def Q51_19:=k 0xc152d2ec347613a43b2
@[go_sem] def Q51_20:=k 0x5022dbc06
@[go_sem] def Q51_21:=k 0x24dfbaa3a2eb6421d5d4e3edf101fe
@[go_sem] def Q51_22:=k 0x4ec60de3d78bdd1861b50346a
@[go_sem] def Q51_23:=k 0x2a5110c1cc365e
@[go_sem] def Q51_24:=k 0xa47b03b1ee1b299c858b27e
@[go_sem] def Q51_25:=k 0x163ff9d2267de6b2
def Q51_26:TC:=(.seq (.reg Q51_20) (.seq (.cond (.t 83) .skip (.exit 4)) (.seq (.block 5 (.seq (.reg Q51_21) (.seq (.reg Q51_22) (.seq (.reg Q51_23) (.cond (.t 91) (.seq (.reg Q51_24) .ret) .skip))))) (.reg Q51_25))))
@[go_sem] def Q51_27:=k 0x2aab90e8
def t_Q51:TF:=⟨95,[.t 2,.t 3],(.seq (.reg Q51_0) (.seq (.seq (.reg Q51_1) (.cond (.t 38) (.seq (.reg Q51_2) .ret) .skip)) (.seq (.seq (.reg Q51_3) (.block 0 (.loop Q51_11))) (.seq (.seq (.reg Q51_12) (.block 2 (.loop Q51_18))) (.seq (.seq (.reg Q51_19) (.block 4 (.loop Q51_26))) (.seq (.reg Q51_27) .ret))))))⟩
/-! slices.Concat[[]byte,byte] -/
@[go_sem] def Q52_0:=k 0x9110
@[go_sem] def Q52_1:=k 0xcef8
@[go_sem] def Q52_2:=k 0xbd04155034c
@[go_sem] def Q52_3:=k 0xafb5194
@[go_sem] def Q52_4:=k 0x675959527c9dad1cc
@[go_sem] def Q52_5:=k 0x1f0cb0e8a3525dcff46ea8bdac
@[go_sem] def Q52_6:=k 0x23bbf907b5ec
@[go_sem] def Q52_7:=k 0x54e6d22c
@[go_sem] def Q52_8:=k 0x5415b668fec30
def Q52_9:TC:=(.seq (.reg Q52_3) (.seq (.cond (.t 12) .skip (.exit 0)) (.seq (.block 1 (.seq (.reg Q52_4) (.seq (.reg Q52_5) (.seq (.reg Q52_6) (.cond (.t 20) (.reg Q52_7) .skip))))) (.reg Q52_8))))
@[go_sem] def Q52_10:=k 0x5843ba512336ee2c
@[go_sem] def Q52_11:=k 0xcc0fd68e44c
@[go_sem] def Q52_12:=k 0x1aff5294
@[go_sem] def Q52_13:=k 0xdcc1a03cd8bded2cc
@[go_sem] def Q52_14:=k 0x7513b7ae2bb0fafaa27b0ad
@[go_sem] def Q52_15:=k 0x817f2d1792d6f1
def Q52_16:TC:=(.seq (.reg Q52_12) (.seq (.cond (.t 28) .skip (.exit 2)) (.seq (.block 3 (.seq (.reg Q52_13) (.reg Q52_14))) (.reg Q52_15))))
@[go_sem] def Q52_17:=k 0x20f27dcbca8ed
def t_Q52:TF:=⟨36,[.t 2],(.seq (.reg Q52_0) (.seq (.reg Q52_1) (.seq (.seq (.reg Q52_2) (.block 0 (.loop Q52_9))) (.seq (.reg Q52_10) (.seq (.seq (.reg Q52_11) (.block 2 (.loop Q52_16))) (.seq (.reg Q52_17) .ret))))))⟩
/-! horarium/sum.tail -/
@[go_sem] def Q53_0:=k 0x9110
@[go_sem] def Q53_1:=k 0x4b7e9b90af3bead70a4a9ca81a9a9c21b360a5bb762a71104c1620ec22ceec
def t_Q53:TF:=⟨15,[.t 2],(.seq (.reg Q53_0) (.seq (.reg Q53_1) .ret))⟩
/-! horarium/sum.Of -/
@[go_sem] def Q54_0:=k 0x9220
@[go_sem] def Q54_1:=k 0xd10c
@[go_sem] def Q54_2:=k 0xba31e11491c
@[go_sem] def Q54_3:=k 0x7fa9164
@[go_sem] def Q54_4:=k 0x5176a01bd5e7a119c
@[go_sem] def Q54_5:=k 0xc78e6871b7efecde8037c
@[go_sem] def Q54_6:=k 0x3966ddf4579c0
def Q54_7:TC:=(.seq (.reg Q54_3) (.seq (.cond (.t 9) .skip (.exit 0)) (.seq (.block 1 (.seq (.reg Q54_4) (.reg Q54_5))) (.reg Q54_6))))
@[go_sem] def Q54_8:=k 0x3e467e61a2ce3bbc
def t_Q54:TF:=⟨18,[.t 2],(.seq (.reg Q54_0) (.seq (.reg Q54_1) (.seq (.seq (.reg Q54_2) (.block 0 (.loop Q54_7))) (.seq (.reg Q54_8) .ret))))⟩
/-! horarium/image.nums -/
@[go_sem] def Q55_0:=k 0x10d30
@[go_sem] def Q55_1:=k 0xbb229da492c
@[go_sem] def Q55_2:=k 0x8fad174
@[go_sem] def Q55_3:=k 0x58fc8fc5ae79a51ac
@[go_sem] def Q55_4:=k 0xd460e97416b72c3b1fb8c
@[go_sem] def Q55_5:=k 0x3d47e5c5df7d0
def Q55_6:TC:=(.seq (.reg Q55_2) (.seq (.cond (.t 10) .skip (.exit 0)) (.seq (.block 1 (.seq (.reg Q55_3) (.reg Q55_4))) (.reg Q55_5))))
@[go_sem] def Q55_7:=k 0x203a2ffbf3cc
def t_Q55:TF:=⟨18,[.t 4],(.seq (.reg Q55_0) (.seq (.seq (.reg Q55_1) (.block 0 (.loop Q55_6))) (.seq (.reg Q55_7) .ret)))⟩
/-! horarium/code.Text -/
@[go_sem] def Q56_0:=k 0x10d30
@[go_sem] def Q56_1:=k 0x116a535c247820b9728813df7ce03809e18b0b0c
def t_Q56:TF:=⟨12,[.t 4],(.seq (.reg Q56_0) (.seq (.reg Q56_1) .ret))⟩
/-! horarium/code.Flag -/
@[go_sem] def Q57_0:=k 0x10d30
@[go_sem] def Q57_1:=k 0x90d0c
@[go_sem] def Q57_2:=k 0x340df73c46ed1491c
@[go_sem] def Q57_3:=k 0x42a51d5fc5350c53c
def t_Q57:TF:=⟨10,[.t 4],(.seq (.reg Q57_0) (.seq (.seq (.reg Q57_1) (.cond (.t 5) (.seq (.reg Q57_2) .ret) .skip)) (.seq (.reg Q57_3) .ret)))⟩
/-! slices.Clone[[]byte,byte] -/
@[go_sem] def Q58_0:=k 0x9110
@[go_sem] def Q58_1:=k 0x2da5354eec
@[go_sem] def Q58_2:=k 0x9110
@[go_sem] def Q58_3:=k 0x32095a537a1678569218
def t_Q58:TF:=⟨8,[.t 2],(.seq (.reg Q58_0) (.seq (.seq (.reg Q58_1) (.cond (.t 4) (.seq (.reg Q58_2) .ret) .skip)) (.seq (.reg Q58_3) .ret)))⟩
/-! (*horarium/code.Reader).Count -/
@[go_sem] def Q59_0:=k 0x10d08
@[go_sem] def Q59_1:=k 0x1a2429e9c09a891c
@[go_sem] def Q59_2:=k 0x10c87a89ae4f69354ff0f6cf73dc56bb48f3c
@[go_sem] def Q59_3:=k 0x7d2ef8c5913ab56df7ac
@[go_sem] def Q59_4:=k 0x10d08
@[go_sem] def Q59_5:=k 0x221ba842fbdc
def t_Q59:TF:=⟨19,[.t 4],(.seq (.reg Q59_0) (.seq (.reg Q59_1) (.seq (.seq (.reg Q59_2) (.cond (.t 14) (.seq (.reg Q59_3) (.seq (.reg Q59_4) .ret)) .skip)) (.seq (.reg Q59_5) .ret))))⟩
/-! horarium/image.part -/
@[go_sem] def Q60_0:=k 0x91ac
@[go_sem] def Q60_1:=k 0x4ae3a3978f91ab917f893b32f58e890a737beb1b26eca78b5bf1ed79f8790b0c
@[go_sem] def Q60_2:=k 0x1875eeccb35bc
@[go_sem] def Q60_3:=k 0x11fd1204
@[go_sem] def Q60_4:=kd 0x27259cc86927a390100d9b0bc2d7f2a27d1337b3437381b2530cc9bc90df5b7289123f599004374fc04
@[go_sem] def Q60_5:=k 0x72ffdd63b9cb0
def Q60_6:TC:=(.seq (.reg Q60_3) (.seq (.cond (.t 19) .skip (.exit 0)) (.seq (.block 1 (.dreg Q60_4)) (.reg Q60_5))))
@[go_sem] def Q60_7:=k 0x798b8
@[go_sem] def Q60_8:=k 0x78946aed
@[go_sem] def Q60_9:=k 0x1f188ba4810cd
@[go_sem] def Q60_10:=k 0x804dbbcaf2a95a05d6d7c8e250004e962dd
@[go_sem] def Q60_11:=k 0x948a0d6b180d41
def Q60_12:TC:=(.seq (.reg Q60_8) (.seq (.cond (.t 32) .skip (.exit 2)) (.seq (.block 3 (.seq (.reg Q60_9) (.reg Q60_10))) (.reg Q60_11))))
@[go_sem] def Q60_13:=k 0x27a7d36853d9
def t_Q60:TF:=⟨41,[.cell 2 11 true],(.seq (.reg Q60_0) (.seq (.reg Q60_1) (.seq (.seq (.reg Q60_2) (.block 0 (.loop Q60_6))) (.seq (.seq (.reg Q60_7) (.block 2 (.loop Q60_12))) (.seq (.reg Q60_13) .ret)))))⟩
/-! (*horarium/code.Reader).Flag -/
@[go_sem] def Q61_0:=k 0x9108
@[go_sem] def Q61_1:=k 0x8f8d1ebd0ba7fadfa60eec
def t_Q61:TF:=⟨6,[.t 2],(.seq (.reg Q61_0) (.seq (.reg Q61_1) .ret))⟩
/-! (*horarium/code.Reader).Num -/
@[go_sem] def Q62_0:=k 0x90e8
@[go_sem] def Q62_1:=k 0x8d325cfa53ce1ff49f88d9d9add729c387fd1d87ce722c91c
@[go_sem] def Q62_2:=k 0x37082cfae50dcc8a04406bfc839b00daafceb7b8c
@[go_sem] def Q62_3:=k 0xa7a130fc0f8bdef56c0c
@[go_sem] def Q62_4:=k 0x90e8
@[go_sem] def Q62_5:=k 0x5f88be9bafacfe9f8183cadb07d02951937fcf9eb99bfbca8e63d
@[go_sem] def Q62_6:=k 0x1f1105a8da0cd
def t_Q62:TF:=⟨34,[.t 2],(.seq (.reg Q62_0) (.seq (.reg Q62_1) (.seq (.seq (.reg Q62_2) (.cond (.t 20) (.seq (.reg Q62_3) (.seq (.reg Q62_4) .ret)) .skip)) (.seq (.reg Q62_5) (.seq (.reg Q62_6) .ret)))))⟩
/-! horarium/horariumref12.sameParts -/
@[go_sem] def Q63_0:=k 0x1a63b1ded124
@[go_sem] def Q63_1:=k 0x29882eb3bd006e93e37d0c41b97b94a7508db0038611aa619f0d0c8a8075f59823c470dedf193e824f48971a5c88fe552e247b87e4195b64bd83f10380e685c25a37b03ff6baba57b56866ff2431da45a953a826c570dd576e20b0b6998376d7d09cdbec0fc4d8487dd3aad4be16b7fe8b35c9087cad1ef79308d24d3a15ac5a42397cef5f609121
@[go_sem] def Q63_2:=k 0x10d28
@[go_sem] def Q63_3:=k 0x644f422cd523d17231
@[go_sem] def Q63_4:=k 0xe47cc685
@[go_sem] def Q63_5:=k 0x3880245f5887d
@[go_sem] def Q63_6:=kd 0xf1bd0e6b56a88fc3627d280403fbccff2163d2f411d8cee3761a716d8d7d47436
@[go_sem] def Q63_7:=k 0x10d28
@[go_sem] def Q63_8:=k 0x1108a6a7f2189152
def Q63_9:TC:=(.seq (.reg Q63_4) (.seq (.cond (.t 59) .skip (.exit 0)) (.seq (.block 1 (.seq (.reg Q63_5) (.seq (.dreg Q63_6) (.cond (.t 71) (.seq (.reg Q63_7) .ret) .skip)))) (.reg Q63_8))))
@[go_sem] def Q63_10:=k 0x10dc0
def t_Q63:TF:=⟨73,[.t 4],(.seq (.reg Q63_0) (.seq (.seq (.reg Q63_1) (.cond (.t 54) (.seq (.reg Q63_2) .ret) .skip)) (.seq (.seq (.reg Q63_3) (.block 0 (.loop Q63_9))) (.seq (.reg Q63_10) .ret))))⟩
/-! (*horarium/cursor.Cursor).Reset -/
@[go_sem] def Q64_0:=k 0x37703770b4047c8c51156f4600a3053163a0658a51c19a96557bb4950dc
@[go_sem] def Q64_1:=k 0x14b136f83f6c
def t_Q64:TF:=⟨13,[],(.seq (.reg Q64_0) (.reg Q64_1))⟩
/-! horarium/cursor.part -/
@[go_sem] def Q65_0:=k 0x5d1d314
@[go_sem] def Q65_1:=k 0x1da32eba64f9090f0
@[go_sem] def Q65_2:=k 0x9180
@[go_sem] def Q65_3:=k 0x33993e0c148e98b20
def t_Q65:TF:=⟨8,[.t 2],(.seq (.reg Q65_0) (.seq (.seq (.reg Q65_1) (.cond (.t 5) (.seq (.reg Q65_2) .ret) .skip)) (.seq (.reg Q65_3) .ret)))⟩
/-! (*horarium/cursor.Cursor).step -/
@[go_sem] def Q66_0:=k 0x35b491f8e89203bba6fe2ab4ea04cfc
@[go_sem] def Q66_1:=k 0x9bf056a170af3abe6834c
@[go_sem] def Q66_2:=k 0x35387f5222790cc27aa34820aa3d7c
@[go_sem] def Q66_3:=kd 0xc9054976c79db5ca25f0a55b044cc59583c2949aa158fe138b132ee40f778
@[go_sem] def Q66_4:=k 0x6f1f5b86b5bdd7c18e16ef65cb083f2469f50216a88d
@[go_sem] def Q66_5:=k 0x21718ae70d1510ba932fe7345afd
@[go_sem] def Q66_6:=kd 0x2da78258048bba0403232254bef8be195cca34957e7dd922fa94d7dee004efd949
@[go_sem] def Q66_7:=k 0x2f6df2ca1be3d941670ddba8d4ca7c7a0d
@[go_sem] def Q66_8:=k 0xd6ed81c8a2cb9245d
@[go_sem] def Q66_9:=kd 0x9d374429553f6ee91eb15d9cf0e075d459260725f7067e9aa0d1e8f281d37133c8c3200f9e9e02d1fa3dbf0a
def Q66_10:TC:=(.seq (.seq (.reg Q66_2) (.cond (.t 17) .skip (.exit 0))) (.block 1 (.seq (.dreg Q66_3) (.seq (.seq (.reg Q66_4) (.seq (.reg Q66_5) (.cond (.t 40) (.seq (.seq (.dreg Q66_6) (.cond (.t 52) (.reg Q66_7) .skip)) (.seq (.reg Q66_8) .ret)) .skip))) (.dreg Q66_9)))))
@[go_sem] def Q66_11:=k 0xfaa2b24b175ef95937625b3ea88bebc52da26418c0169e436e
def t_Q66:TF:=⟨83,[],(.seq (.reg Q66_0) (.seq (.reg Q66_1) (.seq (.block 0 (.loop Q66_10)) (.reg Q66_11))))⟩
/-! horarium/runs.Add -/
@[go_sem] def Q67_0:=k 0x10d08
@[go_sem] def Q67_1:=k 0x3539b6b10500a47b889af6ac3624b0c
@[go_sem] def Q67_2:=k 0x421abe1f57ec1c8c034c
@[go_sem] def Q67_3:=k 0x10f10
@[go_sem] def Q67_4:=k 0xd625abc456a8b78ecfb8c
def t_Q67:TF:=⟨16,[.t 4],(.seq (.reg Q67_0) (.seq (.reg Q67_1) (.seq (.seq (.reg Q67_2) (.cond (.t 12) (.seq (.reg Q67_3) .ret) .skip)) (.seq (.reg Q67_4) .ret))))⟩
/-! slices.Clip[[]horarium/api.Run,horarium/api.Run] -/
@[go_sem] def Q68_0:=k 0x9110
@[go_sem] def Q68_1:=k 0x6828b44d61ea340e035e387a3bfbdc98eec
def t_Q68:TF:=⟨9,[.t 2],(.seq (.reg Q68_0) (.seq (.reg Q68_1) .ret))⟩
/-! horarium/bound.spans -/
@[go_sem] def Q69_0:=k 0x10d30
@[go_sem] def Q69_1:=k 0x14b40
@[go_sem] def Q69_2:=k 0x18928
@[go_sem] def Q69_3:=k 0xbdf4d16415c
@[go_sem] def Q69_4:=k 0xbfb91a4
@[go_sem] def Q69_5:=k 0x781ed51dc5a68fac311fc
@[go_sem] def Q69_6:=k 0x422c21c605c35be874bfe3b81bc
@[go_sem] def Q69_7:=k 0x12d6d60b249b07d5498a9c492e41391a051bf3119eafe00
@[go_sem] def Q69_8:=k 0x6df01770ddf0cc120a8a2405bc1c9b0d0fb08d
@[go_sem] def Q69_9:=k 0x2101898fb34ed
@[go_sem] def Q69_10:=k 0x88235d0e645311
def Q69_11:TC:=(.seq (.reg Q69_4) (.seq (.cond (.t 13) .skip (.exit 0)) (.seq (.block 1 (.seq (.reg Q69_5) (.seq (.reg Q69_6) (.seq (.seq (.reg Q69_7) (.cond (.t 28) (.reg Q69_8) .skip)) (.reg Q69_9))))) (.reg Q69_10))))
@[go_sem] def Q69_12:=k 0x22db7bcb5a10d
def t_Q69:TF:=⟨38,[.t 4],(.seq (.reg Q69_0) (.seq (.reg Q69_1) (.seq (.reg Q69_2) (.seq (.seq (.reg Q69_3) (.block 0 (.loop Q69_11))) (.seq (.reg Q69_12) .ret)))))⟩
/-! horarium/runs.Length -/
@[go_sem] def Q70_0:=k 0x90e8
@[go_sem] def Q70_1:=k 0xcef8
@[go_sem] def Q70_2:=k 0xba31e11491c
@[go_sem] def Q70_3:=k 0x7fa9164
@[go_sem] def Q70_4:=k 0x4be7da96f8354e64211bc
@[go_sem] def Q70_5:=k 0x33cf110f3f8d7216d169ae0437c
@[go_sem] def Q70_6:=k 0x3d29ce345b7d0
def Q70_7:TC:=(.seq (.reg Q70_3) (.seq (.cond (.t 9) .skip (.exit 0)) (.seq (.block 1 (.seq (.reg Q70_4) (.reg Q70_5))) (.reg Q70_6))))
@[go_sem] def Q70_8:=k 0x201c189139cc
def t_Q70:TF:=⟨18,[.t 2],(.seq (.reg Q70_0) (.seq (.reg Q70_1) (.seq (.seq (.reg Q70_2) (.block 0 (.loop Q70_7))) (.seq (.reg Q70_8) .ret))))⟩
/-! horarium/bound.next -/
@[go_sem] def Q71_0:=k 0x18928
@[go_sem] def Q71_1:=k 0xbd04155034c
@[go_sem] def Q71_2:=k 0xafb5194
@[go_sem] def Q71_3:=k 0x77ada489b1c7f81a2d1ec
@[go_sem] def Q71_4:=k 0x38cfadc3a10d41fc253ad6e79ac
@[go_sem] def Q71_5:=k 0x141f44d02cb7901319ea54179060faffc
@[go_sem] def Q71_6:=k 0x5f5e87290a660
def Q71_7:TC:=(.seq (.reg Q71_2) (.seq (.cond (.t 12) .skip (.exit 0)) (.seq (.block 1 (.seq (.reg Q71_3) (.seq (.reg Q71_4) (.cond (.t 19) (.seq (.reg Q71_5) .ret) .skip)))) (.reg Q71_6))))
@[go_sem] def Q71_8:=k 0x3250befdf154fda0160dee354c026063ea65c
def t_Q71:TF:=⟨32,[.t 6],(.seq (.reg Q71_0) (.seq (.seq (.reg Q71_1) (.block 0 (.loop Q71_7))) (.seq (.reg Q71_8) .ret)))⟩
/-! horarium/node.measure -/
@[go_sem] def Q72_0:=k 0x5d210e8
@[go_sem] def Q72_1:=k 0x289e21c2aeabc7bc
@[go_sem] def Q72_2:=k 0xbfd6498bd7c
@[go_sem] def Q72_3:=k 0xdfc11c4
@[go_sem] def Q72_4:=k 0x5cb50236bbef610a39220
@[go_sem] def Q72_5:=kd 0x51975cd76a129fb30aa148cd17864d67030ebb78820f78
@[go_sem] def Q72_6:=k 0x181421e7d3021cffc7ec4c
@[go_sem] def Q72_7:=k 0x1a9c2edadb1e1ce16ce37e37a92e03ee7d
@[go_sem] def Q72_8:=k 0x7f01a43632ea10277e84a6b485df4f16488d710562dd
@[go_sem] def Q72_9:=k 0x7832ea4270750f5cf2ea728b04b700d4eb26f2624f6fbb2f9d7b65a02a78b2ebd13154d
@[go_sem] def Q72_10:=kd 0x2cfa9c3f1d2baba7562006d0e6e6eb454c3b11d93f865af47c47793ab2324798a27ab32a0b5f8b49683a
@[go_sem] def Q72_11:=k 0x72cfea1fd9576fcc49ab1cfefac59757f6ce
@[go_sem] def Q72_12:=k 0x1fd933d2c5436efabd539094d22
@[go_sem] def Q72_13:=k 0x3f0b80fe0dffe33722dcf9e2a8ad67b99b6fd020b55590a4562
@[go_sem] def Q72_14:=k 0x11238c4219f962c8c7c9f6d8d70bee37129f3606abeeffce
@[go_sem] def Q72_15:=kd 0x7229e2bbba51d386064214eb22b317a44868b25aae3256af78746227cbd867dae0f9fe739a
@[go_sem] def Q72_16:=kd 0x206f7babf2936337e95562bf926450c0e68c5fcde539dde15e27a974bb3c1d71252a
def Q72_17:TC:=(.seq (.seq (.reg Q72_9) (.cond (.t 53) .skip (.exit 2))) (.block 3 (.seq (.dreg Q72_10) (.seq (.reg Q72_11) (.seq (.seq (.reg Q72_12) (.cond (.t 73) (.reg Q72_13) .skip)) (.seq (.reg Q72_14) (.seq (.dreg Q72_15) (.dreg Q72_16))))))))
@[go_sem] def Q72_18:=k 0x19a6c20fe77189a2
def Q72_19:TC:=(.seq (.reg Q72_3) (.seq (.cond (.t 15) .skip (.exit 0)) (.seq (.block 1 (.seq (.reg Q72_4) (.seq (.dreg Q72_5) (.seq (.seq (.reg Q72_6) (.seq (.reg Q72_7) (.cond (.t 33) (.reg Q72_8) .skip))) (.block 2 (.loop Q72_17)))))) (.reg Q72_18))))
@[go_sem] def Q72_20:=kd 0x379f07b287c0a900218108090d0f4409943efb1b7f53544ff5d485e931eba
def t_Q72:TF:=⟨118,[.t 2,.t 3],(.seq (.reg Q72_0) (.seq (.reg Q72_1) (.seq (.seq (.reg Q72_2) (.block 0 (.loop Q72_19))) (.seq (.dreg Q72_20) .ret))))⟩
/-! horarium/node.Size -/
@[go_sem] def Q73_0:=k 0x10d08
@[go_sem] def Q73_1:=k 0x20a5d79e65ec885d1de632f8b5f48b9c56b95873c
@[go_sem] def Q73_2:=k 0x10d08
@[go_sem] def Q73_3:=k 0x90d18
@[go_sem] def Q73_4:=k 0x1e76cf6577bc
@[go_sem] def Q73_5:=k 0x7c770db51bf644fb7fcc
@[go_sem] def Q73_6:=k 0x5a92404e17b294cde3dc8268f4682c
@[go_sem] def Q73_7:=k 0x34a93248ec7c
@[go_sem] def Q73_8:=k 0x10d08
@[go_sem] def Q73_9:=k 0x717aa66fa94a33d6233eded13ee9d
@[go_sem] def Q73_10:=k 0x1ff8fcd00e6dd
@[go_sem] def Q73_11:=k 0x86018f49d5411899608153271e6fd
@[go_sem] def Q73_12:=k 0xa1f04e7cc0a56b80c
def Q73_13:TC:=(.seq (.seq (.reg Q73_5) (.cond (.t 20) .skip (.exit 0))) (.seq (.block 1 (.seq (.reg Q73_6) (.seq (.seq (.reg Q73_7) (.cond (.t 29) (.seq (.reg Q73_8) .ret) .skip)) (.seq (.reg Q73_9) (.seq (.reg Q73_10) (.cond (.t 35) (.seq (.reg Q73_11) .ret) .skip)))))) (.reg Q73_12)))
@[go_sem] def Q73_14:=k 0x10d08
def t_Q73:TF:=⟨40,[.t 4],(.seq (.reg Q73_0) (.seq (.seq (.reg Q73_1) (.cond (.t 15) (.seq (.reg Q73_2) .ret) .skip)) (.seq (.reg Q73_3) (.seq (.seq (.reg Q73_4) (.block 0 (.loop Q73_13))) (.seq (.reg Q73_14) .ret)))))⟩
/-! horarium/horariumref3.Size -/
@[go_sem] def Q74_0:=k 0x10d08
@[go_sem] def Q74_1:=k 0x1d6c12dc0a45042929e8d8ef2bda28511e375492c
@[go_sem] def Q74_2:=k 0x10d08
@[go_sem] def Q74_3:=k 0x90d18
@[go_sem] def Q74_4:=k 0x1c95574539ac
@[go_sem] def Q74_5:=k 0x752b6c0ca7c2347b41bc
@[go_sem] def Q74_6:=k 0x2b4054c6e91e649dba6b488742a1c
@[go_sem] def Q74_7:=k 0x10d08
@[go_sem] def Q74_8:=k 0xd4c6f764a4ed3a87c
@[go_sem] def Q74_9:=k 0x1c4fec338112f3247ffd3806023dc25a9d
@[go_sem] def Q74_10:=k 0x83a208cad50d2b05b68a151fe0a918ee8a8e66f962fd
@[go_sem] def Q74_11:=k 0x2722b1cd0f3aa19113450814fbf1c5816d
@[go_sem] def Q74_12:=k 0x2dabcb8af7cff6589cd
@[go_sem] def Q74_13:=k 0x2ff579e0505ed
@[go_sem] def Q74_14:=k 0xc051583049e2582e0caa98211060d
@[go_sem] def Q74_15:=k 0x9aa4bb6a8923679fc
def Q74_16:TC:=(.seq (.seq (.reg Q74_5) (.cond (.t 19) .skip (.exit 0))) (.seq (.block 1 (.seq (.seq (.reg Q74_6) (.cond (.t 27) (.seq (.reg Q74_7) .ret) .skip)) (.seq (.reg Q74_8) (.seq (.seq (.reg Q74_9) (.cond (.t 35) (.reg Q74_10) .skip)) (.seq (.seq (.reg Q74_11) (.cond (.t 48) (.reg Q74_12) .skip)) (.seq (.reg Q74_13) (.cond (.t 52) (.seq (.reg Q74_14) .ret) .skip))))))) (.reg Q74_15)))
@[go_sem] def Q74_17:=k 0x10d08
def t_Q74:TF:=⟨57,[.t 4],(.seq (.reg Q74_0) (.seq (.seq (.reg Q74_1) (.cond (.t 14) (.seq (.reg Q74_2) .ret) .skip)) (.seq (.reg Q74_3) (.seq (.seq (.reg Q74_4) (.block 0 (.loop Q74_16))) (.seq (.reg Q74_17) .ret)))))⟩
/-! horarium/horariumref3.depth -/
@[go_sem] def Q75_0:=k 0x10d08
@[go_sem] def Q75_1:=k 0x14b18
@[go_sem] def Q75_2:=k 0x595089cbf6a2de94bc53c
@[go_sem] def Q75_3:=k 0xbfb91a4
@[go_sem] def Q75_4:=k 0x6f19a593f62fb11dc
@[go_sem] def Q75_5:=k 0x8628c13767386bad58e3e49bef37fbc
@[go_sem] def Q75_6:=k 0x5070ddba7ee20
def Q75_7:TC:=(.seq (.reg Q75_3) (.seq (.cond (.t 13) .skip (.exit 0)) (.seq (.block 1 (.seq (.reg Q75_4) (.reg Q75_5))) (.reg Q75_6))))
@[go_sem] def Q75_8:=k 0xa8c7285fb626f341c
def t_Q75:TF:=⟨24,[.t 4],(.seq (.reg Q75_0) (.seq (.reg Q75_1) (.seq (.seq (.reg Q75_2) (.block 0 (.loop Q75_7))) (.seq (.reg Q75_8) .ret))))⟩
/-! horarium/horariumref3.length -/
@[go_sem] def Q76_0:=k 0x10d08
@[go_sem] def Q76_1:=k 0x14b18
@[go_sem] def Q76_2:=k 0x595089cbf6a2de94bc53c
@[go_sem] def Q76_3:=k 0xbfb91a4
@[go_sem] def Q76_4:=k 0x6f19a593f62fb11dc
@[go_sem] def Q76_5:=k 0x111190478a17cd08fdab4bd5e3c3cef37fbc
@[go_sem] def Q76_6:=k 0x5433cdfa82c30
def Q76_7:TC:=(.seq (.reg Q76_3) (.seq (.cond (.t 13) .skip (.exit 0)) (.seq (.block 1 (.seq (.reg Q76_4) (.reg Q76_5))) (.reg Q76_6))))
@[go_sem] def Q76_8:=k 0x2c97eb63672d82df9b2e2f682c
@[go_sem] def Q76_9:=k 0x7069d8c4522ac
@[go_sem] def Q76_10:=k 0x38ad49c5e49c
@[go_sem] def Q76_11:=k 0x7a357b9bc0e6dd
@[go_sem] def Q76_12:=k 0x78cbd87375d2f33d880a1f67067b3afab85349be3f1a9d2f8a8cd
@[go_sem] def Q76_13:=k 0x97d1da031b3df10595c0784d1b08cf82b1435d
def t_Q76:TF:=⟨48,[.t 4],(.seq (.reg Q76_0) (.seq (.reg Q76_1) (.seq (.seq (.reg Q76_2) (.block 0 (.loop Q76_7))) (.seq (.seq (.reg Q76_8) (.block 2 (.seq (.reg Q76_9) (.cond (.t 28) (.seq (.reg Q76_10) .ret) (.seq (.reg Q76_11) (.cond (.t 31) (.seq (.reg Q76_12) .ret) .skip)))))) (.seq (.reg Q76_13) .ret)))))⟩
/-! horarium/horariumref3.Kids -/
@[go_sem] def Q77_0:=k 0x10d30
@[go_sem] def Q77_1:=k 0x8fd87e9f34a7de76bc53c
@[go_sem] def Q77_2:=k 0x18950
@[go_sem] def Q77_3:=k 0x5936ec5e368ed816c
@[go_sem] def Q77_4:=k 0x17273dadde87828927e9c3498c
@[go_sem] def Q77_5:=k 0x2cee45d85e87b3d13830c3f42c
@[go_sem] def Q77_6:=k 0x93e14853d9cac2b95edf1123f037fdc
def Q77_7:TC:=(.seq (.seq (.reg Q77_4) (.cond (.t 17) .skip (.exit 0))) (.seq (.block 1 (.reg Q77_5)) (.reg Q77_6)))
@[go_sem] def Q77_8:=k 0x3308e16cec6c
def t_Q77:TF:=⟨28,[.t 4],(.seq (.reg Q77_0) (.seq (.reg Q77_1) (.seq (.reg Q77_2) (.seq (.seq (.reg Q77_3) (.block 0 (.loop Q77_7))) (.seq (.reg Q77_8) .ret)))))⟩
/-! slices.ContainsFunc[[]horarium/api.Run,horarium/api.Run] -/
@[go_sem] def Q78_0:=k 0x10d28
@[go_sem] def Q78_1:=k 0x1be7c58febc6c92d829462b0b0c
def t_Q78:TF:=⟨9,[.t 4],(.seq (.reg Q78_0) (.seq (.reg Q78_1) .ret))⟩
/-! horarium/horariumref12.Name -/
@[go_sem] def Q79_0:=k 0x9108
@[go_sem] def Q79_1:=k 0xcef8
@[go_sem] def Q79_2:=k 0x24eb79d012d7c5e1510c
@[go_sem] def Q79_3:=k 0x7bfb55c3144392f6a5f9eaaefdd24c0a676ed1f8b2952c74874e0f28f1498435e1d574062fee0c8e7f6c
@[go_sem] def Q79_4:=k 0x56a63877673eb7efd24a2c9b8738aeb5d81a4a0c9ccdc91da8cec6e32861bfa6f253ec00d52b97624057dd58198bb5a06d
@[go_sem] def Q79_5:=k 0x9108
@[go_sem] def Q79_6:=k 0x49b653db438bc894c
def Q79_7:TC:=(.seq (.seq (.reg Q79_2) (.cond (.t 8) .skip (.exit 0))) (.seq (.block 1 (.seq (.reg Q79_3) (.seq (.reg Q79_4) (.cond (.t 44) (.seq (.reg Q79_5) .ret) .skip)))) (.reg Q79_6)))
@[go_sem] def Q79_8:=k 0x9dd684d904e17b055137cc51287b213e177ae4a3315e1dfd8d
def t_Q79:TF:=⟨53,[.t 2],(.seq (.reg Q79_0) (.seq (.seq (.reg Q79_1) (.block 0 (.loop Q79_7))) (.seq (.reg Q79_8) .ret)))⟩
/-! horarium/horariumref12.partRight -/
@[go_sem] def Q80_0:=k 0xd93d314
@[go_sem] def Q80_1:=k 0x21bbfd239e2e94926217495ee6ac5e3d7b01f243e82a84eac930
@[go_sem] def Q80_2:=k 0x9108
@[go_sem] def Q80_3:=k 0x2fe010b63d62d35d0
@[go_sem] def Q80_4:=k 0x13fd9224
@[go_sem] def Q80_5:=k 0x43100ecb11fcc83c5127c
@[go_sem] def Q80_6:=k 0x568a9d5a32b34c849142a869351ebacfc02951d43da1f0d4e4937b79e229176ca21393d8f12d3c01442ed54023372b183f641
@[go_sem] def Q80_7:=k 0x9108
@[go_sem] def Q80_8:=k 0x9f2d5cb56dc771
def Q80_9:TC:=(.seq (.reg Q80_4) (.seq (.cond (.t 21) .skip (.exit 0)) (.seq (.block 1 (.seq (.reg Q80_5) (.seq (.reg Q80_6) (.cond (.t 41) (.seq (.reg Q80_7) .ret) .skip)))) (.reg Q80_8))))
@[go_sem] def Q80_10:=k 0x1918e2c4e00571
@[go_sem] def Q80_11:=k 0xaee5cfcd
@[go_sem] def Q80_12:=k 0xb12969c731af41
@[go_sem] def Q80_13:=k 0xa903fb391f7f676c840e30355162a97cfbd
@[go_sem] def Q80_14:=k 0x9108
@[go_sem] def Q80_15:=k 0xcdc8c5ef69b031
def Q80_16:TC:=(.seq (.reg Q80_11) (.seq (.cond (.t 46) .skip (.exit 2)) (.seq (.block 3 (.seq (.reg Q80_12) (.seq (.reg Q80_13) (.cond (.t 53) (.seq (.reg Q80_14) .ret) .skip)))) (.reg Q80_15))))
@[go_sem] def Q80_17:=k 0xb86677879d9617b406b6ea79dea80b6cc43d9de143dee31
@[go_sem] def Q80_18:=k 0x91a0
@[go_sem] def Q80_19:=k 0x1580fa29c4396d3c344398bbce5dfce8d87418695b35492a0ae4ce295d9b06176442f2ffc3cabe12bdda3762e5fcadc6e9746ebb694631dacc357e2d1b262b2
def t_Q80:TF:=⟨83,[.t 2],(.seq (.reg Q80_0) (.seq (.seq (.reg Q80_1) (.cond (.t 16) (.seq (.reg Q80_2) .ret) .skip)) (.seq (.seq (.reg Q80_3) (.block 0 (.loop Q80_9))) (.seq (.seq (.reg Q80_10) (.block 2 (.loop Q80_16))) (.seq (.seq (.reg Q80_17) (.cond (.t 62) (.seq (.reg Q80_18) .ret) .skip)) (.seq (.reg Q80_19) .ret))))))⟩
/-! horarium/horariumref12.chanRight -/
@[go_sem] def Q81_0:=k 0x4140831124
@[go_sem] def Q81_1:=k 0xc107386f60103fbab15c5811c041ccef2c720820642ac7e2666704d35bb7178f89fe9570be6413a4af0b6d79262f3eaff67b76d515ff90d84fb7cd74768143a6573b418465c3b03bc6d81192a5aff9ade2a70398b56209dbca3a2430407a44f3c4c18d35e605311
@[go_sem] def Q81_2:=k 0x10d28
@[go_sem] def Q81_3:=k 0x1f193dfcc1901cdac1627a59b8331daa9508f5cea8c189575c231bec35b315cac1c9abd742f6fba2a8936a7b6bcb6ade25861e33d04080b32d7191e6a088e4b2b4b61
def t_Q81:TF:=⟨64,[.t 4],(.seq (.reg Q81_0) (.seq (.seq (.reg Q81_1) (.cond (.t 41) (.seq (.reg Q81_2) .ret) .skip)) (.seq (.reg Q81_3) .ret)))⟩
/-! horarium/config.Name -/
@[go_sem] def Q82_0:=k 0x9108
@[go_sem] def Q82_1:=k 0xba3545f491c
@[go_sem] def Q82_2:=k 0x7fa9164
@[go_sem] def Q82_3:=k 0x1300db97515c
@[go_sem] def Q82_4:=k 0xb9d986470c63a0c8e7f6c
@[go_sem] def Q82_5:=k 0xf74b11b400c46da1fc740c590f6477b819c
@[go_sem] def Q82_6:=k 0x33e56c24a60536ea1c305f0aabf88242052cabbff2e9ea9de58e37a90ca723d28f711f83ffe14f736010090ea716e1cd981fd
@[go_sem] def Q82_7:=k 0x9108
@[go_sem] def Q82_8:=k 0x8f6d0e7ae0cf31
def Q82_9:TC:=(.seq (.reg Q82_2) (.seq (.cond (.t 9) .skip (.exit 0)) (.seq (.block 1 (.seq (.reg Q82_3) (.seq (.reg Q82_4) (.seq (.reg Q82_5) (.seq (.reg Q82_6) (.cond (.t 37) (.seq (.reg Q82_7) .ret) .skip)))))) (.reg Q82_8))))
@[go_sem] def Q82_10:=k 0x8ba37ef12dbed051c6a72a4100be8ed96b350a0e024404892d
def t_Q82:TF:=⟨47,[.t 2],(.seq (.reg Q82_0) (.seq (.seq (.reg Q82_1) (.block 0 (.loop Q82_9))) (.seq (.reg Q82_10) .ret)))⟩
/-! slices.ContainsFunc[[]horarium/api.Part,horarium/api.Part] -/
@[go_sem] def Q83_0:=k 0x10d28
@[go_sem] def Q83_1:=k 0x1be7c58febc6c92f09c5fcb0b0c
def t_Q83:TF:=⟨9,[.t 4],(.seq (.reg Q83_0) (.seq (.reg Q83_1) .ret))⟩
/-! horarium/config.Where$1 -/
@[go_sem] def Q84_0:=k 0xd941124
@[go_sem] def Q84_1:=k 0x6bd3943fee988dab5f9a90fc9bb89100
def t_Q84:TF:=⟨9,[.t 3],(.seq (.reg Q84_0) (.seq (.reg Q84_1) .ret))⟩
/-! horarium/config.part -/
@[go_sem] def Q85_0:=k 0xd93d314
@[go_sem] def Q85_1:=k 0x1746be6eacb20
@[go_sem] def Q85_2:=k 0x7eb0d7c
@[go_sem] def Q85_3:=k 0x261fcea0252f0
@[go_sem] def Q85_4:=k 0xb33402939d6757eea4853ae0040d876c
@[go_sem] def Q85_5:=k 0x9108
@[go_sem] def Q85_6:=k 0x40ecbe745f5e0
def Q85_7:TC:=(.seq (.reg Q85_2) (.seq (.cond (.t 9) .skip (.exit 0)) (.seq (.block 1 (.seq (.reg Q85_3) (.seq (.reg Q85_4) (.cond (.t 16) (.seq (.reg Q85_5) .ret) .skip)))) (.reg Q85_6))))
@[go_sem] def Q85_8:=k 0x4c5608e14b905ae672b0921a52b747e02126666863a6c73e0
@[go_sem] def Q85_9:=k 0x56fd2bbca58bda3d53a9f82db5cf70c2ecf4ed5dda598a4471c5ba8bfa949ea6939a4ea3cd571c1bcd497327b8d49ed0d968c8540ac2dd011124a186cfe82ee18d04819a3210fb4d2ae9d346fdadd1e06bae661
def t_Q85:TF:=⟨54,[.t 2],(.seq (.reg Q85_0) (.seq (.seq (.reg Q85_1) (.block 0 (.loop Q85_7))) (.seq (.reg Q85_8) (.seq (.reg Q85_9) .ret))))⟩
/-! horarium/config.channel -/
@[go_sem] def Q86_0:=k 0x1a63b1ded124
@[go_sem] def Q86_1:=k 0x5d2cb18
@[go_sem] def Q86_2:=k 0xf0c5e31cb40
@[go_sem] def Q86_3:=k 0x7863e28d18
@[go_sem] def Q86_4:=k 0x2d609eab933590db987187a0560
@[go_sem] def Q86_5:=k 0x4032312cb46ecffc9523907f055d767c46ad2b6fffd4f78c213cbbd0b1c18394245dac9343aa665d68a7cb61d0fd95436498acb45f9b805c46c146e9bff68e71a692df79ac5b8427a1e1438f4f0494ba599111371ff032f0c920c2f1a1277205a1
def t_Q86:TF:=⟨48,[.t 4],(.seq (.reg Q86_0) (.seq (.reg Q86_1) (.seq (.seq (.reg Q86_2) (.cond (.t 9) (.reg Q86_3) .skip)) (.seq (.reg Q86_4) (.seq (.reg Q86_5) .ret)))))⟩
/-! horarium/config.table -/
@[go_sem] def Q87_0:=k 0x4138c11124
@[go_sem] def Q87_1:=k 0x8def758b6476eae0ed71fde706c7a1ec73c
@[go_sem] def Q87_2:=k 0x1691c0b9897c
@[go_sem] def Q87_3:=k 0x1a95c7c9c59c
@[go_sem] def Q87_4:=k 0x388bfa0ab211c1ac
@[go_sem] def Q87_5:=k 0x7d2d08
@[go_sem] def Q87_6:=k 0x11ce4097dbdea7c621b618
def t_Q87:TF:=⟨21,[.t 4],(.seq (.reg Q87_0) (.seq (.reg Q87_1) (.seq (.seq (.reg Q87_2) (.cond (.t 13) (.seq (.reg Q87_3) .ret) .skip)) (.seq (.seq (.reg Q87_4) (.cond (.t 17) (.seq (.reg Q87_5) .ret) .skip)) (.seq (.reg Q87_6) .ret)))))⟩
/-! slices.Grow[[]byte,byte] -/
@[go_sem] def Q88_0:=k 0x10d30
@[go_sem] def Q88_1:=k 0x9676734cd0c
@[go_sem] def Q88_2:=k 0x54e36e00
@[go_sem] def Q88_3:=k 0x15f5e87f16e6f2dff554c8eea65377217bf2873c
@[go_sem] def Q88_4:=k 0x1c361f40f9ac
@[go_sem] def Q88_5:=k 0x126431937a9f98f0fe8e88308072c8f6dd4e4ebbb5106cf3cc
@[go_sem] def Q88_6:=k 0x3127691e225c
def t_Q88:TF:=⟨27,[.t 4],(.seq (.reg Q88_0) (.seq (.seq (.reg Q88_1) (.cond (.t 6) (.reg Q88_2) .skip)) (.seq (.seq (.reg Q88_3) (.seq (.reg Q88_4) (.cond (.t 16) (.reg Q88_5) .skip))) (.seq (.reg Q88_6) .ret))))⟩
/-! horarium/sum.Next -/
@[go_sem] def Q89_0:=k 0x10e40
@[go_sem] def Q89_1:=k 0x214c1bb28793c5c9ff9367cfab491c
@[go_sem] def Q89_2:=k 0x2bf78
@[go_sem] def Q89_3:=k 0xaebcdac
@[go_sem] def Q89_4:=k 0x33acaca9cb9dfb8c
@[go_sem] def Q89_5:=k 0x3f3bce30bd16f7577dd25d9e98b7ac
@[go_sem] def Q89_6:=k 0x4c8fd5e8f7010
def Q89_7:TC:=(.seq (.reg Q89_3) (.seq (.cond (.t 12) .skip (.exit 0)) (.seq (.block 1 (.seq (.reg Q89_4) (.reg Q89_5))) (.reg Q89_6))))
@[go_sem] def Q89_8:=k 0x27c0107cec0c
def t_Q89:TF:=⟨22,[.t 4],(.seq (.reg Q89_0) (.seq (.reg Q89_1) (.seq (.seq (.reg Q89_2) (.block 0 (.loop Q89_7))) (.seq (.reg Q89_8) .ret))))⟩
/-! horarium/code.Put -/
@[go_sem] def Q90_0:=k 0x10d30
@[go_sem] def Q90_1:=k 0x14b40
@[go_sem] def Q90_2:=k 0x218ceb48b068873c
@[go_sem] def Q90_3:=k 0x97a82a0d5c
@[go_sem] def Q90_4:=k 0x3c6d556641d0cfea6d6379afb9039c
@[go_sem] def Q90_5:=k 0x3024116c4945097c
def Q90_6:TC:=(.seq (.seq (.reg Q90_3) (.cond (.t 11) .skip (.exit 0))) (.seq (.block 1 (.reg Q90_4)) (.reg Q90_5)))
@[go_sem] def Q90_7:=k 0x11f12e5b9ec
@[go_sem] def Q90_8:=k 0xa454e9c46900776ab60c
@[go_sem] def Q90_9:=k 0x2d235199683c
@[go_sem] def Q90_10:=k 0x635245387796305c
@[go_sem] def Q90_11:=k 0x6aa9723ea8cb285d83ff9e8f0f40e4adc5de7d
def t_Q90:TF:=⟨34,[.t 4],(.seq (.reg Q90_0) (.seq (.reg Q90_1) (.seq (.seq (.reg Q90_2) (.block 0 (.loop Q90_6))) (.seq (.reg Q90_7) (.seq (.reg Q90_8) (.seq (.seq (.reg Q90_9) (.cond (.t 25) (.reg Q90_10) .skip)) (.seq (.reg Q90_11) .ret)))))))⟩
/-! slices.Clip[[]byte,byte] -/
@[go_sem] def Q91_0:=k 0x9110
@[go_sem] def Q91_1:=k 0x6828b44d620ba593ebba3b6bfbfbdc98eec
def t_Q91:TF:=⟨9,[.t 2],(.seq (.reg Q91_0) (.seq (.reg Q91_1) .ret))⟩
/-! (*horarium/code.Reader).Text -/
@[go_sem] def Q92_0:=k 0x10e50
@[go_sem] def Q92_1:=k 0x2ac9a434f06f062f0cc32247836be196b8b9fb1f5bd74429fa5453c
@[go_sem] def Q92_2:=k 0x40b57b40c25ccd00f184b699eab95d8d391af35bc
@[go_sem] def Q92_3:=k 0xbcda4d174eb473b9263c
@[go_sem] def Q92_4:=k 0x10e50
@[go_sem] def Q92_5:=k 0x687f07c46e86ddfe5838eb18c8653e92ecda6beaccae748a9a06d
@[go_sem] def Q92_6:=k 0x21eabfbb562fd
def t_Q92:TF:=⟨37,[.t 4],(.seq (.reg Q92_0) (.seq (.reg Q92_1) (.seq (.seq (.reg Q92_2) (.cond (.t 23) (.seq (.reg Q92_3) (.seq (.reg Q92_4) .ret)) .skip)) (.seq (.reg Q92_5) (.seq (.reg Q92_6) .ret)))))⟩
/-! horarium/code.Get -/
@[go_sem] def Q93_0:=k 0x5d210e8
@[go_sem] def Q93_1:=k 0x2479f3fc39f5034c
@[go_sem] def Q93_2:=k 0x5d210e8
@[go_sem] def Q93_3:=k 0x35abae2783198d47f95d23e583bd7c
@[go_sem] def Q93_4:=k 0x3dadc2739ed02e30b1ce87c0c8697178d99a0bbcc
@[go_sem] def Q93_5:=k 0x5d210e8
@[go_sem] def Q93_6:=k 0x14d98
@[go_sem] def Q93_7:=k 0x2f2a0ce312e8b19b7190e532e44c
@[go_sem] def Q93_8:=k 0x1e0012c4
@[go_sem] def Q93_9:=k 0x1e327ec728027b54efd
@[go_sem] def Q93_10:=k 0x7eaccbb60ffc3f08370931fb06a1e6dd
@[go_sem] def Q93_11:=k 0x947b01a6370d41
def Q93_12:TC:=(.seq (.reg Q93_8) (.seq (.cond (.t 31) .skip (.exit 0)) (.seq (.block 1 (.seq (.reg Q93_9) (.reg Q93_10))) (.reg Q93_11))))
@[go_sem] def Q93_13:=k 0x9606de3137f405b3d
@[go_sem] def Q93_14:=k 0x26fb512eb2ac2b6a0d435d
@[go_sem] def Q93_15:=k 0xabe9972438a065b9d
@[go_sem] def Q93_16:=kd 0x369a9e2c10f5c798af6bb52e4254e04c848573a10f019
@[go_sem] def Q93_17:=k 0x5d210e8
@[go_sem] def Q93_18:=k 0x31bcbc5689facbe5e5a8de3cc83d
def t_Q93:TF:=⟨59,[.t 2,.t 3],(.seq (.reg Q93_0) (.seq (.seq (.reg Q93_1) (.cond (.t 11) (.seq (.reg Q93_2) .ret) .skip)) (.seq (.reg Q93_3) (.seq (.seq (.reg Q93_4) (.cond (.t 24) (.seq (.reg Q93_5) .ret) .skip)) (.seq (.reg Q93_6) (.seq (.seq (.reg Q93_7) (.block 0 (.loop Q93_12))) (.seq (.reg Q93_13) (.seq (.seq (.reg Q93_14) (.cond (.t 45) (.reg Q93_15) .skip)) (.seq (.seq (.dreg Q93_16) (.cond (.t 55) (.seq (.reg Q93_17) .ret) .skip)) (.seq (.reg Q93_18) .ret))))))))))⟩
/-! (*horarium/cursor.Cursor).down -/
@[go_sem] def Q94_0:=k 0x766c0c27085027d5a2e34ae19ef489e8ce98fe1854855a785aa3dcd97cbeefead05d1f7dc698b7852d062394ab72ea04cfc
@[go_sem] def Q94_1:=kd 0x101bb8322256999e8b6abab9f9063c929fb7d7dbc680dad3ef445c6428849b311204cdf11e5188d1f188eac4042b7464cadb395e8ee61af99
@[go_sem] def Q94_2:=k 0x282486285327926056d
def Q94_3:TC:=(.seq (.seq (.reg Q94_0) (.cond (.t 23) .skip (.exit 0))) (.block 1 (.seq (.dreg Q94_1) (.reg Q94_2))))
@[go_sem] def Q94_4:=k 0x29c958587f44c33081b23bb1fd8d
def t_Q94:TF:=⟨49,[],(.seq (.block 0 (.loop Q94_3)) (.reg Q94_4))⟩
/-! horarium/node.kids -/
@[go_sem] def Q95_0:=k 0x5d1d314
@[go_sem] def Q95_1:=k 0xa78d409355f35889be0df5e5b9a9d51390305b69f1f6454495282070e0bfd5afc2cbc9a14f00
@[go_sem] def Q95_2:=k 0x9180
@[go_sem] def Q95_3:=k 0x9ee1a7b03173db8f69bde7789a2d66c6e88a5ce9ea994263be0daca566b540c3000497433e0
@[go_sem] def Q95_4:=k 0x1d6bd69eedb4e9a05f8571cb1
@[go_sem] def Q95_5:=k 0x90e8
@[go_sem] def Q95_6:=k 0x20416edf6bbd18f05afe348d53b5c4dcb267efdd4ed5fc5814f1
@[go_sem] def Q95_7:=k 0x28282bf1c9c0c1c0571
@[go_sem] def Q95_8:=k 0x2b129288848b846b8475abfa1
@[go_sem] def Q95_9:=k 0x852e8
@[go_sem] def Q95_10:=k 0x9180
def t_Q95:TF:=⟨49,[.t 2],(.seq (.reg Q95_0) (.seq (.block 0 (.seq (.reg Q95_1) (.cond (.t 3) (.seq (.reg Q95_2) .ret) (.seq (.seq (.reg Q95_3) (.cond (.t 17) .skip (.reg Q95_4))) (.cond (.t 17) (.seq (.reg Q95_5) .ret) (.seq (.reg Q95_6) (.cond (.t 34) (.seq (.reg Q95_7) .ret) (.seq (.reg Q95_8) (.cond (.t 45) (.seq (.reg Q95_9) .ret) .skip))))))))) (.seq (.reg Q95_10) .ret)))⟩
/-! horarium/node.times -/
@[go_sem] def Q96_0:=k 0x10d08
@[go_sem] def Q96_1:=k 0x1e6306ef5f64ba629385518f49cb0c
def t_Q96:TF:=⟨10,[.t 4],(.seq (.reg Q96_0) (.seq (.reg Q96_1) .ret))⟩
/-! horarium/node.add -/
@[go_sem] def Q97_0:=k 0x10d08
@[go_sem] def Q97_1:=k 0x1e6306ef5f5da56d777e37eb6b0b0c
def t_Q97:TF:=⟨10,[.t 4],(.seq (.reg Q97_0) (.seq (.reg Q97_1) .ret))⟩
/-! horarium/horariumref3.fine -/
@[go_sem] def Q98_0:=k 0xd93d314
@[go_sem] def Q98_1:=k 0x5a5039090f0
@[go_sem] def Q98_2:=k 0x173224f024b3c
@[go_sem] def Q98_3:=k 0x63383cc014b3fad051c10fb704a9e6468cb5cf93da3740948a7fcbd1701a5e7a7396d09c930
@[go_sem] def Q98_4:=k 0x5161994edb02c
@[go_sem] def Q98_5:=k 0x5524898fd723c
@[go_sem] def Q98_6:=k 0x5b37c1e6777aa927336139ecac8c7d2dad4456137930daa30
@[go_sem] def Q98_7:=k 0x7a357b427a62dd
@[go_sem] def Q98_8:=k 0x75247a2244fbd285844f2588d7dd9b7bc529ed2985a00acfcc24d7c499e0042c193b195b7e3898d1
@[go_sem] def Q98_9:=k 0x9108
def t_Q98:TF:=⟨46,[.t 2],(.seq (.reg Q98_0) (.seq (.seq (.reg Q98_1) (.block 0 (.seq (.reg Q98_2) (.cond (.t 5) (.seq (.reg Q98_3) .ret) (.seq (.seq (.reg Q98_4) (.cond (.t 20) .skip (.reg Q98_5))) (.cond (.t 20) (.seq (.reg Q98_6) .ret) (.seq (.reg Q98_7) (.cond (.t 31) (.seq (.reg Q98_8) .ret) .skip)))))))) (.seq (.reg Q98_9) .ret)))⟩
/-! slices.IndexFunc[[]horarium/api.Run,horarium/api.Run] -/
@[go_sem] def Q99_0:=k 0x10d08
@[go_sem] def Q99_1:=k 0xba31e11491c
@[go_sem] def Q99_2:=k 0x7fa9164
@[go_sem] def Q99_3:=k 0x131ef319515c
@[go_sem] def Q99_4:=k 0x2627063c3d6f3a556053c26dd3416c
@[go_sem] def Q99_5:=k 0x203a3022bdcc
@[go_sem] def Q99_6:=k 0x44afaeb4633f0
def Q99_7:TC:=(.seq (.reg Q99_2) (.seq (.cond (.t 9) .skip (.exit 0)) (.seq (.block 1 (.seq (.reg Q99_3) (.seq (.reg Q99_4) (.cond (.t 16) (.seq (.reg Q99_5) .ret) .skip)))) (.reg Q99_6))))
@[go_sem] def Q99_8:=k 0x10da0
def t_Q99:TF:=⟨19,[.t 4],(.seq (.reg Q99_0) (.seq (.seq (.reg Q99_1) (.block 0 (.loop Q99_7))) (.seq (.reg Q99_8) .ret)))⟩
/-! slices.IndexFunc[[]horarium/api.Part,horarium/api.Part] -/
@[go_sem] def Q100_0:=k 0x10d08
@[go_sem] def Q100_1:=k 0xba31e11491c
@[go_sem] def Q100_2:=k 0x7fa9164
@[go_sem] def Q100_3:=k 0x131ef319515c
@[go_sem] def Q100_4:=k 0x2627063c480bc866a59af53dd3416c
@[go_sem] def Q100_5:=k 0x203a3022bdcc
@[go_sem] def Q100_6:=k 0x44afaeb4633f0
def Q100_7:TC:=(.seq (.reg Q100_2) (.seq (.cond (.t 9) .skip (.exit 0)) (.seq (.block 1 (.seq (.reg Q100_3) (.seq (.reg Q100_4) (.cond (.t 16) (.seq (.reg Q100_5) .ret) .skip)))) (.reg Q100_6))))
@[go_sem] def Q100_8:=k 0x10da0
def t_Q100:TF:=⟨19,[.t 4],(.seq (.reg Q100_0) (.seq (.seq (.reg Q100_1) (.block 0 (.loop Q100_7))) (.seq (.reg Q100_8) .ret)))⟩
/-! horarium/config.procs -/
@[go_sem] def Q101_0:=k 0x9108
@[go_sem] def Q101_1:=k 0xb9412500b0c
@[go_sem] def Q101_2:=k 0x6fa5154
@[go_sem] def Q101_3:=k 0x3d5097460faf15d21d1ac
@[go_sem] def Q101_4:=k 0xb77865f4f2a1974b4b32be9c7ce9f5aa6a530a8fca4a9c770
@[go_sem] def Q101_5:=k 0x9108
@[go_sem] def Q101_6:=k 0x4fda67e2eae20
def Q101_7:TC:=(.seq (.reg Q101_2) (.seq (.cond (.t 8) .skip (.exit 0)) (.seq (.block 1 (.seq (.reg Q101_3) (.seq (.reg Q101_4) (.cond (.t 20) (.seq (.reg Q101_5) .ret) .skip)))) (.reg Q101_6))))
@[go_sem] def Q101_8:=k 0x160bd038311e3c05bfdd570a4225ea73c9152063e252a1c
def t_Q101:TF:=⟨30,[.t 2],(.seq (.reg Q101_0) (.seq (.seq (.reg Q101_1) (.block 0 (.loop Q101_7))) (.seq (.reg Q101_8) .ret)))⟩
/-! horarium/config.within -/
@[go_sem] def Q102_0:=k 0x10d28
@[go_sem] def Q102_1:=k 0x45a94d29778f7fd482dec24c5affff0054e599cb0c
def t_Q102:TF:=⟨12,[.t 4],(.seq (.reg Q102_0) (.seq (.reg Q102_1) .ret))⟩
/-! horarium/config.table$1 -/
@[go_sem] def Q103_0:=k 0xd941124
@[go_sem] def Q103_1:=k 0xeaedcb15d84eaf3323032d45b0fc9bb89100
def t_Q103:TF:=⟨10,[.t 3],(.seq (.reg Q103_0) (.seq (.reg Q103_1) .ret))⟩
/-! horarium/code.great -/
@[go_sem] def Q104_0:=k 0x9368
@[go_sem] def Q104_1:=k 0x5a476ec8eec
@[go_sem] def Q104_2:=k 0x32095a6c67d937420b0c
@[go_sem] def Q104_3:=k 0x211832188985c53c
def t_Q104:TF:=⟨10,[.t 2],(.seq (.reg Q104_0) (.seq (.seq (.reg Q104_1) (.cond (.t 4) (.seq (.reg Q104_2) .ret) .skip)) (.seq (.reg Q104_3) .ret)))⟩
/-! slices.Reverse[[]byte,byte] -/
@[go_sem] def Q105_0:=k 0xa4aa58b374fe7a07bb8ceccfc
@[go_sem] def Q105_1:=k 0x1a7205cf535d0b2c
@[go_sem] def Q105_2:=kd 0x2f838b9e2348a7737a8c254f078c83bb8327e6ae6dff6b2fd02e1419ef22858930f95832bd32d770a47cb8
@[go_sem] def Q105_3:=k 0x567cff8c2577a5f694bfd0900d5055c
def Q105_4:TC:=(.seq (.seq (.reg Q105_1) (.cond (.t 9) .skip (.exit 0))) (.seq (.block 1 (.dreg Q105_2)) (.reg Q105_3)))
def t_Q105:TF:=⟨28,[],(.seq (.reg Q105_0) (.block 0 (.loop Q105_4)))⟩
/-! horarium/code.Cut -/
@[go_sem] def Q106_0:=k 0x2f9a50
@[go_sem] def Q106_1:=k 0x9ad6756debd1c42bf9ecafaa548d2f2434c
@[go_sem] def Q106_2:=k 0x611304e2b19aa75a204cf387d6fe6ddf14748feca482345165e976fc4731a14e175cec6471084498c
@[go_sem] def Q106_3:=k 0x2f9a50
@[go_sem] def Q106_4:=k 0x1a470f3f290d482abf50aa16514ce77fa96bbf26a6c6d752272e645933c61c8d
def t_Q106:TF:=⟨39,[.t 4,.t 5],(.seq (.reg Q106_0) (.seq (.reg Q106_1) (.seq (.seq (.reg Q106_2) (.cond (.t 28) (.seq (.reg Q106_3) .ret) .skip)) (.seq (.reg Q106_4) .ret))))⟩
def tpFn:Nat→Option TF
  | 10=>some t_Q0
  | 12=>some t_Q1
  | 14=>some t_Q2
  | 15=>some t_Q3
  | 17=>some t_Q4
  | 21=>some t_Q5
  | 29=>some t_Q6
  | 39=>some t_Q7
  | 40=>some t_Q8
  | 41=>some t_Q9
  | 43=>some t_Q10
  | 44=>some t_Q11
  | 45=>some t_Q12
  | 46=>some t_Q13
  | 47=>some t_Q14
  | 48=>some t_Q15
  | 49=>some t_Q16
  | 50=>some t_Q17
  | 51=>some t_Q18
  | 54=>some t_Q19
  | 55=>some t_Q20
  | 56=>some t_Q21
  | 57=>some t_Q22
  | 58=>some t_Q23
  | 59=>some t_Q24
  | 60=>some t_Q25
  | 61=>some t_Q26
  | 80=>some t_Q27
  | 85=>some t_Q28
  | 86=>some t_Q29
  | 87=>some t_Q30
  | 88=>some t_Q31
  | 89=>some t_Q32
  | 90=>some t_Q33
  | 91=>some t_Q34
  | 92=>some t_Q35
  | 93=>some t_Q36
  | 94=>some t_Q37
  | 95=>some t_Q38
  | 96=>some t_Q39
  | 97=>some t_Q40
  | 98=>some t_Q41
  | 107=>some t_Q42
  | 108=>some t_Q43
  | 109=>some t_Q44
  | 110=>some t_Q45
  | 111=>some t_Q46
  | 112=>some t_Q47
  | 113=>some t_Q48
  | 129=>some t_Q49
  | 136=>some t_Q50
  | 137=>some t_Q51
  | 138=>some t_Q52
  | 139=>some t_Q53
  | 140=>some t_Q54
  | 141=>some t_Q55
  | 142=>some t_Q56
  | 143=>some t_Q57
  | 144=>some t_Q58
  | 145=>some t_Q59
  | 146=>some t_Q60
  | 147=>some t_Q61
  | 148=>some t_Q62
  | 149=>some t_Q63
  | 150=>some t_Q64
  | 151=>some t_Q65
  | 152=>some t_Q66
  | 153=>some t_Q67
  | 154=>some t_Q68
  | 155=>some t_Q69
  | 156=>some t_Q70
  | 157=>some t_Q71
  | 165=>some t_Q72
  | 166=>some t_Q73
  | 167=>some t_Q74
  | 168=>some t_Q75
  | 169=>some t_Q76
  | 170=>some t_Q77
  | 178=>some t_Q78
  | 184=>some t_Q79
  | 185=>some t_Q80
  | 186=>some t_Q81
  | 189=>some t_Q82
  | 190=>some t_Q83
  | 191=>some t_Q84
  | 192=>some t_Q85
  | 193=>some t_Q86
  | 194=>some t_Q87
  | 195=>some t_Q88
  | 196=>some t_Q89
  | 197=>some t_Q90
  | 198=>some t_Q91
  | 199=>some t_Q92
  | 200=>some t_Q93
  | 201=>some t_Q94
  | 203=>some t_Q95
  | 204=>some t_Q96
  | 205=>some t_Q97
  | 206=>some t_Q98
  | 209=>some t_Q99
  | 212=>some t_Q100
  | 213=>some t_Q101
  | 214=>some t_Q102
  | 215=>some t_Q103
  | 216=>some t_Q104
  | 217=>some t_Q105
  | 218=>some t_Q106
  | _=>none
def tpMeth:Nat→String→Option Meth:=fun _ _=>none
def tp:TP:=⟨tpFn,tpMeth⟩
theorem fn_Q0:tp.fn i_Q0=some t_Q0:=rfl
theorem fn_Q1:tp.fn i_Q1=some t_Q1:=rfl
theorem fn_Q2:tp.fn i_Q2=some t_Q2:=rfl
theorem fn_Q3:tp.fn i_Q3=some t_Q3:=rfl
theorem fn_Q4:tp.fn i_Q4=some t_Q4:=rfl
theorem fn_Q5:tp.fn i_Q5=some t_Q5:=rfl
theorem fn_Q6:tp.fn i_Q6=some t_Q6:=rfl
theorem fn_Q7:tp.fn i_Q7=some t_Q7:=rfl
theorem fn_Q8:tp.fn i_Q8=some t_Q8:=rfl
theorem fn_Q9:tp.fn i_Q9=some t_Q9:=rfl
theorem fn_Q10:tp.fn i_Q10=some t_Q10:=rfl
theorem fn_Q11:tp.fn i_Q11=some t_Q11:=rfl
theorem fn_Q12:tp.fn i_Q12=some t_Q12:=rfl
theorem fn_Q13:tp.fn i_Q13=some t_Q13:=rfl
theorem fn_Q14:tp.fn i_Q14=some t_Q14:=rfl
theorem fn_Q15:tp.fn i_Q15=some t_Q15:=rfl
theorem fn_Q16:tp.fn i_Q16=some t_Q16:=rfl
theorem fn_Q17:tp.fn i_Q17=some t_Q17:=rfl
theorem fn_Q18:tp.fn i_Q18=some t_Q18:=rfl
theorem fn_Q19:tp.fn i_Q19=some t_Q19:=rfl
theorem fn_Q20:tp.fn i_Q20=some t_Q20:=rfl
theorem fn_Q21:tp.fn i_Q21=some t_Q21:=rfl
theorem fn_Q22:tp.fn i_Q22=some t_Q22:=rfl
theorem fn_Q23:tp.fn i_Q23=some t_Q23:=rfl
theorem fn_Q24:tp.fn i_Q24=some t_Q24:=rfl
theorem fn_Q25:tp.fn i_Q25=some t_Q25:=rfl
theorem fn_Q26:tp.fn i_Q26=some t_Q26:=rfl
theorem fn_Q27:tp.fn i_Q27=some t_Q27:=rfl
theorem fn_Q28:tp.fn i_Q28=some t_Q28:=rfl
theorem fn_Q29:tp.fn i_Q29=some t_Q29:=rfl
theorem fn_Q30:tp.fn i_Q30=some t_Q30:=rfl
theorem fn_Q31:tp.fn i_Q31=some t_Q31:=rfl
theorem fn_Q32:tp.fn i_Q32=some t_Q32:=rfl
theorem fn_Q33:tp.fn i_Q33=some t_Q33:=rfl
theorem fn_Q34:tp.fn i_Q34=some t_Q34:=rfl
theorem fn_Q35:tp.fn i_Q35=some t_Q35:=rfl
theorem fn_Q36:tp.fn i_Q36=some t_Q36:=rfl
theorem fn_Q37:tp.fn i_Q37=some t_Q37:=rfl
theorem fn_Q38:tp.fn i_Q38=some t_Q38:=rfl
theorem fn_Q39:tp.fn i_Q39=some t_Q39:=rfl
theorem fn_Q40:tp.fn i_Q40=some t_Q40:=rfl
theorem fn_Q41:tp.fn i_Q41=some t_Q41:=rfl
theorem fn_Q42:tp.fn i_Q42=some t_Q42:=rfl
theorem fn_Q43:tp.fn i_Q43=some t_Q43:=rfl
theorem fn_Q44:tp.fn i_Q44=some t_Q44:=rfl
theorem fn_Q45:tp.fn i_Q45=some t_Q45:=rfl
theorem fn_Q46:tp.fn i_Q46=some t_Q46:=rfl
theorem fn_Q47:tp.fn i_Q47=some t_Q47:=rfl
theorem fn_Q48:tp.fn i_Q48=some t_Q48:=rfl
theorem fn_Q49:tp.fn i_Q49=some t_Q49:=rfl
theorem fn_Q50:tp.fn i_Q50=some t_Q50:=rfl
theorem fn_Q51:tp.fn i_Q51=some t_Q51:=rfl
theorem fn_Q52:tp.fn i_Q52=some t_Q52:=rfl
theorem fn_Q53:tp.fn i_Q53=some t_Q53:=rfl
theorem fn_Q54:tp.fn i_Q54=some t_Q54:=rfl
theorem fn_Q55:tp.fn i_Q55=some t_Q55:=rfl
theorem fn_Q56:tp.fn i_Q56=some t_Q56:=rfl
theorem fn_Q57:tp.fn i_Q57=some t_Q57:=rfl
theorem fn_Q58:tp.fn i_Q58=some t_Q58:=rfl
theorem fn_Q59:tp.fn i_Q59=some t_Q59:=rfl
theorem fn_Q60:tp.fn i_Q60=some t_Q60:=rfl
theorem fn_Q61:tp.fn i_Q61=some t_Q61:=rfl
theorem fn_Q62:tp.fn i_Q62=some t_Q62:=rfl
theorem fn_Q63:tp.fn i_Q63=some t_Q63:=rfl
theorem fn_Q64:tp.fn i_Q64=some t_Q64:=rfl
theorem fn_Q65:tp.fn i_Q65=some t_Q65:=rfl
theorem fn_Q66:tp.fn i_Q66=some t_Q66:=rfl
theorem fn_Q67:tp.fn i_Q67=some t_Q67:=rfl
theorem fn_Q68:tp.fn i_Q68=some t_Q68:=rfl
theorem fn_Q69:tp.fn i_Q69=some t_Q69:=rfl
theorem fn_Q70:tp.fn i_Q70=some t_Q70:=rfl
theorem fn_Q71:tp.fn i_Q71=some t_Q71:=rfl
theorem fn_Q72:tp.fn i_Q72=some t_Q72:=rfl
theorem fn_Q73:tp.fn i_Q73=some t_Q73:=rfl
theorem fn_Q74:tp.fn i_Q74=some t_Q74:=rfl
theorem fn_Q75:tp.fn i_Q75=some t_Q75:=rfl
theorem fn_Q76:tp.fn i_Q76=some t_Q76:=rfl
theorem fn_Q77:tp.fn i_Q77=some t_Q77:=rfl
theorem fn_Q78:tp.fn i_Q78=some t_Q78:=rfl
theorem fn_Q79:tp.fn i_Q79=some t_Q79:=rfl
theorem fn_Q80:tp.fn i_Q80=some t_Q80:=rfl
theorem fn_Q81:tp.fn i_Q81=some t_Q81:=rfl
theorem fn_Q82:tp.fn i_Q82=some t_Q82:=rfl
theorem fn_Q83:tp.fn i_Q83=some t_Q83:=rfl
theorem fn_Q84:tp.fn i_Q84=some t_Q84:=rfl
theorem fn_Q85:tp.fn i_Q85=some t_Q85:=rfl
theorem fn_Q86:tp.fn i_Q86=some t_Q86:=rfl
theorem fn_Q87:tp.fn i_Q87=some t_Q87:=rfl
theorem fn_Q88:tp.fn i_Q88=some t_Q88:=rfl
theorem fn_Q89:tp.fn i_Q89=some t_Q89:=rfl
theorem fn_Q90:tp.fn i_Q90=some t_Q90:=rfl
theorem fn_Q91:tp.fn i_Q91=some t_Q91:=rfl
theorem fn_Q92:tp.fn i_Q92=some t_Q92:=rfl
theorem fn_Q93:tp.fn i_Q93=some t_Q93:=rfl
theorem fn_Q94:tp.fn i_Q94=some t_Q94:=rfl
theorem fn_Q95:tp.fn i_Q95=some t_Q95:=rfl
theorem fn_Q96:tp.fn i_Q96=some t_Q96:=rfl
theorem fn_Q97:tp.fn i_Q97=some t_Q97:=rfl
theorem fn_Q98:tp.fn i_Q98=some t_Q98:=rfl
theorem fn_Q99:tp.fn i_Q99=some t_Q99:=rfl
theorem fn_Q100:tp.fn i_Q100=some t_Q100:=rfl
theorem fn_Q101:tp.fn i_Q101=some t_Q101:=rfl
theorem fn_Q102:tp.fn i_Q102=some t_Q102:=rfl
theorem fn_Q103:tp.fn i_Q103=some t_Q103:=rfl
theorem fn_Q104:tp.fn i_Q104=some t_Q104:=rfl
theorem fn_Q105:tp.fn i_Q105=some t_Q105:=rfl
theorem fn_Q106:tp.fn i_Q106=some t_Q106:=rfl
end Go.Ab.T
