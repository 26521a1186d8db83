/- Part of a proof that a law returns true for every input of the second form's bound (no other condition). -/
import Derived.Test.YtcjjajphbamjlaaGreatPE
set_option linter.all false
/- The abstract machine's text of the functions, its regions as numbers. Written by a tool. -/
namespace Go.Ab.T
open Go Go.Ab
set_option maxRecDepth 100000
abbrev i_Q0:Nat:=11
abbrev i_Q1:Nat:=12
abbrev i_Q2:Nat:=14
abbrev i_Q3:Nat:=15
abbrev i_Q4:Nat:=17
abbrev i_Q5:Nat:=21
abbrev i_Q6:Nat:=29
abbrev i_Q7:Nat:=39
abbrev i_Q8:Nat:=40
abbrev i_Q9:Nat:=41
abbrev i_Q10:Nat:=43
abbrev i_Q11:Nat:=44
abbrev i_Q12:Nat:=45
abbrev i_Q13:Nat:=46
abbrev i_Q14:Nat:=47
abbrev i_Q15:Nat:=48
abbrev i_Q16:Nat:=49
abbrev i_Q17:Nat:=50
abbrev i_Q18:Nat:=51
abbrev i_Q19:Nat:=54
abbrev i_Q20:Nat:=55
abbrev i_Q21:Nat:=56
abbrev i_Q22:Nat:=57
abbrev i_Q23:Nat:=58
abbrev i_Q24:Nat:=59
abbrev i_Q25:Nat:=60
abbrev i_Q26:Nat:=61
abbrev i_Q27:Nat:=80
abbrev i_Q28:Nat:=85
abbrev i_Q29:Nat:=86
abbrev i_Q30:Nat:=87
abbrev i_Q31:Nat:=88
abbrev i_Q32:Nat:=89
abbrev i_Q33:Nat:=90
abbrev i_Q34:Nat:=91
abbrev i_Q35:Nat:=92
abbrev i_Q36:Nat:=93
abbrev i_Q37:Nat:=94
abbrev i_Q38:Nat:=95
abbrev i_Q39:Nat:=96
abbrev i_Q40:Nat:=97
abbrev i_Q41:Nat:=98
abbrev i_Q42:Nat:=107
abbrev i_Q43:Nat:=108
abbrev i_Q44:Nat:=109
abbrev i_Q45:Nat:=110
abbrev i_Q46:Nat:=111
abbrev i_Q47:Nat:=112
abbrev i_Q48:Nat:=113
abbrev i_Q49:Nat:=129
abbrev i_Q50:Nat:=136
abbrev i_Q51:Nat:=137
abbrev i_Q52:Nat:=138
abbrev i_Q53:Nat:=139
abbrev i_Q54:Nat:=140
abbrev i_Q55:Nat:=141
abbrev i_Q56:Nat:=142
abbrev i_Q57:Nat:=143
abbrev i_Q58:Nat:=144
abbrev i_Q59:Nat:=145
abbrev i_Q60:Nat:=146
abbrev i_Q61:Nat:=147
abbrev i_Q62:Nat:=148
abbrev i_Q63:Nat:=149
abbrev i_Q64:Nat:=150
abbrev i_Q65:Nat:=151
abbrev i_Q66:Nat:=152
abbrev i_Q67:Nat:=153
abbrev i_Q68:Nat:=154
abbrev i_Q69:Nat:=155
abbrev i_Q70:Nat:=156
abbrev i_Q71:Nat:=157
abbrev i_Q72:Nat:=165
abbrev i_Q73:Nat:=166
abbrev i_Q74:Nat:=167
abbrev i_Q75:Nat:=168
abbrev i_Q76:Nat:=169
abbrev i_Q77:Nat:=170
abbrev i_Q78:Nat:=178
abbrev i_Q79:Nat:=184
abbrev i_Q80:Nat:=185
abbrev i_Q81:Nat:=186
abbrev i_Q82:Nat:=189
abbrev i_Q83:Nat:=190
abbrev i_Q84:Nat:=191
abbrev i_Q85:Nat:=192
abbrev i_Q86:Nat:=193
abbrev i_Q87:Nat:=194
abbrev i_Q88:Nat:=195
abbrev i_Q89:Nat:=196
abbrev i_Q90:Nat:=197
abbrev i_Q91:Nat:=198
abbrev i_Q92:Nat:=199
abbrev i_Q93:Nat:=200
abbrev i_Q94:Nat:=201
abbrev i_Q95:Nat:=203
abbrev i_Q96:Nat:=204
abbrev i_Q97:Nat:=205
abbrev i_Q98:Nat:=206
abbrev i_Q99:Nat:=209
abbrev i_Q100:Nat:=212
abbrev i_Q101:Nat:=213
abbrev i_Q102:Nat:=214
abbrev i_Q103:Nat:=215
abbrev i_Q104:Nat:=216
abbrev i_Q105:Nat:=217
abbrev i_Q106:Nat:=218
def wrs:List Nat:=[i_Q14,i_Q6,i_Q15,i_Q16,i_Q1,i_Q94,i_Q66,i_Q38,i_Q64,i_Q62,i_Q59,i_Q61,i_Q92,i_Q60,i_Q33]
def xgt {α:Type} (z:α):List α→Nat→α
 | [],_=>z
 | x::_,0=>x
 | _::l,n+1=>xgt z l n
def xgi:Nat→Int:=xgt 0 [0,1,2,3,4,5,6,7,8,9,10,11,12,13,14,15,16,17,18,19,20,21,22,23,24,25,26,27,28,29,30,31]
def xsh0:List ((Nat→Nat)→O):=[fun p=>.mv (.t (p 0)),
fun p=>.fad (p 0) (.t (p 1)),
fun p=>.load 1 false (.t (p 0)),
fun p=>.mv (.c (.i .i64 (xgi (p 0)))),
fun p=>.len (.t (p 0)),
fun p=>.bin .add (.t (p 0)) (.c (.i .i64 (xgi (p 1)))),
fun p=>.bin .lss (.t (p 0)) (.t (p 1)),
fun p=>.pick (.t (p 0)) (.c (.b true)) (.t (p 1)),
fun p=>.pick (.t (p 0)) (.t (p 1)) (.c (.b false)),
fun p=>.bin .eql (.t (p 0)) (.c (.i .i64 (xgi (p 1)))),
fun p=>.nck (.t (p 0)),
fun p=>.mv (.c (.b false)),
fun p=>.bin .lss (.t (p 0)) (.c (.i .i64 (xgi (p 1)))),
fun p=>.mv (.c .ns),
fun p=>.load 3 true (.t (p 0)),
fun p=>.store 1 (.t (p 0)) (.t (p 1)),
fun p=>.box (.t (p 0)),
fun p=>.iad 1 (.t (p 0)) (.t (p 1)),
fun p=>.bin .sub (.t (p 0)) (.c (.i .i64 (xgi (p 1)))),
fun p=>.bin .gtr (.t (p 0)) (.c (.i .i64 (xgi (p 1)))),
fun p=>.un .not (.t (p 0)),
fun p=>.ext (.t (p 0)) 0,
fun p=>.ext (.t (p 0)) 1,
fun p=>.bin .add (.t (p 0)) (.t (p 1))]
def xsh1:List ((Nat→Nat)→O):=[fun p=>.iad 2 (.t (p 0)) (.t (p 1)),
fun p=>.iad 3 (.t (p 0)) (.t (p 1)),
fun p=>.call (.fn i_Q14) [(.t (p 0)),(.c (.i .i64 (xgi (p 1))))],
fun p=>.load 2 true (.t (p 0)),
fun p=>.store 2 (.t (p 0)) (.t (p 1)),
fun p=>.store 3 (.t (p 0)) (.t (p 1)),
fun p=>.bin .geq (.t (p 0)) (.c (.i .i64 (xgi (p 1)))),
fun p=>.alloc [(.i .i64 0),(.i .i64 0)],
fun p=>.bin .neq (.t (p 0)) (.c (.i .i64 (xgi (p 1)))),
fun p=>.iad 6 (.t (p 0)) (.t (p 1)),
fun p=>.bin .eql (.t (p 0)) (.t (p 1)),
fun p=>.bin .neq (.t (p 0)) (.t (p 1)),
fun p=>.alloc [.ns,.ns,.ns],
fun p=>.iad 11 (.t (p 0)) (.t (p 1)),
fun p=>.bin .geq (.t (p 0)) (.t (p 1)),
fun p=>.load 11 true (.t (p 0)),
fun p=>.load 6 true (.t (p 0)),
fun p=>.mv (.c (.i .i64 (-1))),
fun p=>.chk 1 false (.t (p 0)) (.t (p 1)),
fun p=>.app 1 (.t (p 0)) (.t (p 1)),
fun p=>.bin .sub (.t (p 0)) (.t (p 1)),
fun p=>.call (.fn i_Q55) [(.t (p 0)),(.t (p 1))],
fun p=>.call (.fn i_Q59) [(.t (p 0)),(.c (.i .i64 (xgi (p 1))))],
fun p=>.bin .add (.c (.i .i64 (xgi (p 0)))) (.t (p 1))]
def xsh2:List ((Nat→Nat)→O):=[fun p=>.bsl 2 [(.i .i64 0),(.i .i64 0)] 1 [(0,(.t (p 0)))],
fun p=>.mv (.c (.b true)),
fun p=>.conv .u8 (.t (p 0)),
fun p=>.app 2 (.t (p 0)) (.t (p 1)),
fun p=>.alloc [(.s ⟨#[]⟩),(.i .i64 0),(.i .i64 0),(.b false),(.b false),.ns,(.i .i64 0),(.i .i64 0),(.i .i64 0),(.i .i64 0),(.i .i64 0)],
fun p=>.store 11 (.t (p 0)) (.t (p 1)),
fun p=>.fload 1 false (.t (p 0)),
fun p=>.store 6 (.t (p 0)) (.t (p 1)),
fun p=>.bsl 1 [(.i .i64 0)] 1 [(0,(.t (p 0)))],
fun p=>.bin .rem (.t (p 0)) (.t (p 1)),
fun p=>.bin .gtr (.t (p 0)) (.t (p 1)),
fun p=>.mx [(.t (p 0)),(.t (p 1))],
fun p=>.slen (.t (p 0)),
fun p=>.call (.fn i_Q10) [(.t (p 0))],
fun p=>.build [(.i .i64 0),(.i .i64 0)] [(0,1,(.t (p 0))),(1,1,(.t (p 1)))],
fun p=>.alloc [(.i .i64 0),(.i .i64 0),(.b false),(.i .i64 0),(.i .u32 0),(.i .i64 0)],
fun p=>.bsl 3 [(.i .i64 0),(.i .i64 0),(.i .i64 0)] 1 [(0,(.t (p 0)))],
fun p=>.sidx (.t (p 0)) (.t (p 1)),
fun p=>.build [.ns,.ns,.ns] [],
fun p=>.mn [(.t (p 0)),(.t (p 1))],
fun p=>.store 1 (.t (p 0)) (.c (.i .i64 (xgi (p 1)))),
fun p=>.load 5 true (.t (p 0)),
fun p=>.slice 1 (.t (p 0)) none (some (.t (p 1))) none,
fun p=>.call (.fn i_Q62) [(.t (p 0))]]
def xsh3:List ((Nat→Nat)→O):=[fun p=>.bin .leq (.t (p 0)) (.c (.i .i64 4096)),
fun p=>.mn [(.c (.i .i64 4097)),(.t (p 0))],
fun p=>.call (.fn i_Q13) [(.t (p 0))],
fun p=>.call (.fn i_Q14) [(.t (p 0)),(.t (p 1))],
fun p=>.bsl 1 [.ns] 1 [(0,(.t (p 0)))],
fun p=>.app 3 (.t (p 0)) (.t (p 1)),
fun p=>.mv (.c (.i .u32 0)),
fun p=>.bsl 1 [(.i .i64 0)] 2 [(0,(.t (p 0))),(1,(.t (p 1)))],
fun p=>.mn [(.t (p 0)),(.c (.i .i64 4097))],
fun p=>.bin .leq (.t (p 0)) (.c (.i .i64 (xgi (p 1)))),
fun p=>.mv (.c (.s ⟨#[]⟩)),
fun p=>.b2s (.t (p 0)),
fun p=>.bsl 11 [(.s ⟨#[]⟩),(.i .i64 0),(.i .i64 0),(.b false),(.b false),.ns,(.i .i64 0),(.i .i64 0),(.i .i64 0),(.i .i64 0),(.i .i64 0)] 1 [(0,(.t (p 0)))],
fun p=>.chkb 1 [(.i .u32 0)] 3 [(0,(.c (.i .u32 4294967295))),(1,(.c (.i .u32 200))),(2,(.c (.i .u32 3)))] (.t (p 0)),
fun p=>.chka [(.i .i64 0),(.i .i64 0),(.b false),(.i .i64 0),(.i .u32 0),(.i .i64 0)] (.t (p 0)),
fun p=>.app 6 (.t (p 0)) (.t (p 1)),
fun p=>.build [(.i .i64 0),(.i .i64 0),(.i .i64 0)] [(0,1,(.c (.i .i64 (xgi (p 0))))),(2,1,(.t (p 1)))],
fun p=>.e0,
fun p=>.bin .shr (.t (p 0)) (.c (.i .u64 8)),
fun p=>.build [(.i .i64 0),(.i .i64 0),(.i .i64 0)] [(0,1,(.c (.i .i64 (xgi (p 0))))),(2,1,(.c (.i .i64 (xgi (p 1)))))],
fun p=>.bin .leq (.t (p 0)) (.t (p 1)),
fun p=>.call (.fn i_Q35) [(.t (p 0)),(.t (p 1))],
fun p=>.call (.fn i_Q2) [(.t (p 0))],
fun p=>.iad 1 (.t (p 0)) (.c (.i .i64 (xgi (p 1))))]
def xsh4:List ((Nat→Nat)→O):=[fun p=>.mx [(.t (p 0)),(.c (.i .i64 (xgi (p 1))))],
fun p=>.call (.fn i_Q43) [(.t (p 0))],
fun p=>.call (.fn i_Q45) [(.t (p 0))],
fun p=>.call (.fn i_Q57) [(.t (p 0)),(.t (p 1))],
fun p=>.idx 1 5 false (.t (p 0)) (.t (p 1)),
fun p=>.conv .i64 (.t (p 0)),
fun p=>.slice 1 (.t (p 0)) (some (.t (p 1))) none none,
fun p=>.call (.fn i_Q61) [(.t (p 0))],
fun p=>.conv .u32 (.t (p 0)),
fun p=>.mv (.c .np),
fun p=>.call (.fn i_Q67) [(.t (p 0)),(.t (p 1))],
fun p=>.call (.fn i_Q69) [(.t (p 0)),(.t (p 1))],
fun p=>.mx [(.c (.i .i64 (xgi (p 0)))),(.t (p 1))],
fun p=>.call (.fn i_Q77) [(.t (p 0)),(.t (p 1))],
fun p=>.bin .xor (.t (p 0)) (.t (p 1)),
fun p=>.store 1 (.t (p 0)) (.c (.b true)),
fun p=>.conv .u64 (.t (p 0)),
fun p=>.build [.ns,(.i .i64 0)] [(0,1,(.t (p 0)))],
fun p=>.call (.fn i_Q1) [(.t (p 0))],
fun p=>.call (.fn i_Q12) [(.t (p 0)),(.t (p 1))],
fun p=>.iada 1 5 (.t (p 0)) (.t (p 1)),
fun p=>.app 11 (.t (p 0)) (.t (p 1)),
fun p=>.bsl 6 [(.i .i64 0),(.i .i64 0),(.b false),(.i .i64 0),(.i .u32 0),(.i .i64 0)] 1 [(0,(.t (p 0)))],
fun p=>.bin .gtr (.t (p 0)) (.c (.i .i64 96))]
def xsh5:List ((Nat→Nat)→O):=[fun p=>.call (.fn i_Q24) [(.t (p 0)),(.t (p 1))],
fun p=>.call (.fn i_Q25) [(.t (p 0)),(.t (p 1)),(.t (p 2))],
fun p=>.call (.fn i_Q26) [(.t (p 0)),(.t (p 1)),(.t (p 2))],
fun p=>.call (.fn i_Q6) [(.t (p 0)),(.t (p 1)),(.t (p 2))],
fun p=>.bin .shr (.t (p 0)) (.c (.i .u64 24)),
fun p=>.bin .shr (.t (p 0)) (.c (.i .u64 16)),
fun p=>.bsl 1 [(.i .u8 0)] 4 [(0,(.t (p 0))),(1,(.t (p 1))),(2,(.t (p 2))),(3,(.t (p 3)))],
fun p=>.build [(.i .i64 0),(.i .i64 0)] [],
fun p=>.call (.fn i_Q11) [(.t (p 0))],
fun p=>.bsl 1 [(.i .u8 0)] 4 [(0,(.c (.i .u8 72))),(1,(.c (.i .u8 79))),(2,(.c (.i .u8 82))),(3,(.c (.i .u8 65)))],
fun p=>.mark (.t (p 0)),
fun p=>.call (.fn i_Q3) [(.t (p 0))],
fun p=>.call (.fn i_Q19) [(.t (p 0))],
fun p=>.bin .gtr (.t (p 0)) (.c (.i .i64 128)),
fun p=>.eq false .sl (.t (p 0)) (.c .ns),
fun p=>.bin .sub (.c (.i .i64 9223372036854775807)) (.t (p 0)),
fun p=>.mv (.c (.i .i64 9223372036854775807)),
fun p=>.call (.fn i_Q48) [(.t (p 0))],
fun p=>.slice 1 (.t (p 0)) (some (.t (p 1))) (some (.t (p 2))) none,
fun p=>.mv (.c (.i .u32 4294967295)),
fun p=>.un .xor (.t (p 0)),
fun p=>.call (.fn i_Q54) [(.t (p 0))],
fun p=>.call (.fn i_Q53) [(.t (p 0))],
fun p=>.call (.fn i_Q52) [(.t (p 0))]]
def xsh6:List ((Nat→Nat)→O):=[fun p=>.bsl 1 [(.i .i64 0)] 3 [(0,(.t (p 0))),(1,(.t (p 1))),(2,(.t (p 2)))],
fun p=>.alloc [(.i .i64 0),(.i .i64 0),(.i .i64 0)],
fun p=>.call (.fn i_Q70) [(.t (p 0))],
fun p=>.call (.fn i_Q72) [(.t (p 0))],
fun p=>.bin .gtr (.t (p 0)) (.c (.i .i64 4096)),
fun p=>.call (.fn i_Q47) [(.t (p 0)),(.t (p 1)),(.t (p 2))],
fun p=>.bin .shl (.t (p 0)) (.c (.i .u64 24)),
fun p=>.bin .shr (.t (p 0)) (.c (.i .u64 31)),
fun p=>.bin .shl (.t (p 0)) (.c (.i .u64 1)),
fun p=>.nck (.c .np),
fun p=>.call (.fn i_Q90) [(.t (p 0)),(.t (p 1))],
fun p=>.call (.fn i_Q90) [(.t (p 0)),(.c (.i .i64 (xgi (p 1))))],
fun p=>.call (.fn i_Q93) [(.t (p 0))],
fun p=>.eq true .b (.t (p 0)) (.t (p 1)),
fun p=>.bsl 6 [(.i .i64 0),(.i .i64 0),(.i .i64 0),(.i .i64 0),(.i .i64 0),(.i .i64 0)] 1 [(0,(.t (p 0)))],
fun p=>.call (.fn i_Q95) [(.t (p 0))],
fun p=>.iad 6 (.t (p 0)) (.c (.i .i64 (xgi (p 1)))),
fun p=>.bin .mul (.t (p 0)) (.t (p 1)),
fun p=>.call (.fn i_Q74) [(.t (p 0)),(.t (p 1))],
fun p=>.call (.fn i_Q102) [(.t (p 0)),(.t (p 1))],
fun p=>.cap (.t (p 0)),
fun p=>.bsl 1 [(.i .u8 0)] 1 [(0,(.t (p 0)))],
fun p=>.mv (.c (.i .u64 0)),
fun p=>.un .neg (.t (p 0))]
def xsh7:List ((Nat→Nat)→O):=[fun p=>.bin .leq (.t (p 0)) (.c (.i .i64 128)),
fun p=>.call (.t (p 0)) [(.t (p 1))],
fun p=>.eq false .b (.t (p 0)) (.t (p 1)),
fun p=>.call (.fn i_Q8) [],
fun p=>.bin .add (.c (.i .i64 97)) (.t (p 0)),
fun p=>.conv .i32 (.t (p 0)),
fun p=>.i2s (.t (p 0)),
fun p=>.bin .add (.c (.s ⟨#[112]⟩)) (.t (p 0)),
fun p=>.build [(.s ⟨#[]⟩),(.i .i64 0),(.i .i64 0),(.b false),(.b false),.ns,(.i .i64 0),(.i .i64 0),(.i .i64 0),(.i .i64 0),(.i .i64 0)] [(0,1,(.t (p 0))),(3,1,(.t (p 1))),(4,1,(.t (p 2)))],
fun p=>.bin .mul (.c (.i .i64 (xgi (p 0)))) (.t (p 1)),
fun p=>.bsl 1 [(.i .i64 0)] 5 [(0,(.c (.i .i64 (xgi (p 0))))),(1,(.c (.i .i64 (xgi (p 1))))),(2,(.c (.i .i64 (xgi (p 2))))),(3,(.c (.i .i64 (xgi (p 3))))),(4,(.c (.i .i64 (xgi (p 4)))))],
fun p=>.bslc 1 [(.i .u32 0)] 3 [(0,(.c (.i .u32 4294967295))),(1,(.c (.i .u32 200))),(2,(.c (.i .u32 3)))],
fun p=>.alc [(.i .i64 0),(.i .i64 0),(.b false),(.i .i64 0),(.i .u32 0),(.i .i64 0)],
fun p=>.build [(.i .i64 0),(.i .i64 0),(.b false),(.i .i64 0),(.i .u32 0),(.i .i64 0)] [(0,1,(.t (p 0))),(1,1,(.t (p 1))),(2,1,(.t (p 2))),(4,1,(.t (p 3)))],
fun p=>.call (.fn i_Q15) [(.t (p 0)),(.t (p 1))],
fun p=>.call (.fn i_Q16) [(.t (p 0)),(.t (p 1))],
fun p=>.call (.fn i_Q21) [(.t (p 0))],
fun p=>.call (.fn i_Q23) [(.t (p 0))],
fun p=>.call (.fn i_Q22) [(.t (p 0))],
fun p=>.eq true (.agg [.i,.i,.i]) (.t (p 0)) (.t (p 1)),
fun p=>.build [(.i .i64 0),(.i .i64 0),(.i .i64 0)] [(0,1,(.c (.i .i64 (xgi (p 0))))),(1,1,(.t (p 1))),(2,1,(.t (p 2)))],
fun p=>.call (.fn i_Q28) [(.t (p 0))],
fun p=>.build [(.s ⟨#[]⟩),(.i .i64 0),(.i .i64 0),(.b false),(.b false),.ns,(.i .i64 0),(.i .i64 0),(.i .i64 0),(.i .i64 0),(.i .i64 0)] [(0,1,(.c (.s ⟨#[97]⟩))),(5,1,(.t (p 0)))],
fun p=>.build [.ns,.ns,.ns] [(0,1,(.t (p 0))),(2,1,(.t (p 1)))]]
def xsh8:List ((Nat→Nat)→O):=[fun p=>.call (.fn i_Q11) [(.c .ns)],
fun p=>.call (.fn i_Q7) [(.t (p 0))],
fun p=>.call (.fn i_Q29) [(.t (p 0))],
fun p=>.call (.fn i_Q31) [(.t (p 0))],
fun p=>.call (.fn i_Q30) [(.t (p 0))],
fun p=>.call (.fn i_Q32) [(.t (p 0))],
fun p=>.slice 1 (.t (p 0)) (some (.c (.i .i64 (xgi (p 1))))) none none,
fun p=>.call (.fn i_Q34) [(.t (p 0))],
fun p=>.call (.fn i_Q33) [(.t (p 0))],
fun p=>.call (.fn i_Q36) [(.t (p 0)),(.t (p 1))],
fun p=>.call (.fn i_Q5) [(.t (p 0)),(.t (p 1))],
fun p=>.call (.fn i_Q9) [(.t (p 0)),(.c (.i .i64 (xgi (p 1)))),(.c (.i .i64 1073741824))],
fun p=>.call (.fn i_Q6) [(.t (p 0)),(.t (p 1)),(.c (.i .i64 (xgi (p 2))))],
fun p=>.bin .gtr (.t (p 0)) (.c (.i .i64 90)),
fun p=>.build [(.i .i64 0),(.i .i64 0),(.i .i64 0)] [(0,1,(.c (.i .i64 (xgi (p 0))))),(1,1,(.t (p 1))),(2,1,(.c (.i .i64 (xgi (p 2)))))],
fun p=>.bsl 3 [(.i .i64 0),(.i .i64 0),(.i .i64 0)] 3 [(0,(.t (p 0))),(1,(.t (p 1))),(2,(.t (p 2)))],
fun p=>.mn [(.t (p 0)),(.c (.i .i64 4096))],
fun p=>.bin .quo (.t (p 0)) (.t (p 1)),
fun p=>.mv (.c (.i .i64 4096)),
fun p=>.call (.fn i_Q27) [(.t (p 0))],
fun p=>.call (.fn i_Q37) [(.t (p 0))],
fun p=>.call (.fn i_Q38) [(.t (p 0))],
fun p=>.call (.fn i_Q39) [(.t (p 0))],
fun p=>.call (.fn i_Q40) [(.t (p 0)),(.t (p 1)),(.t (p 2))]]
def xsh9:List ((Nat→Nat)→O):=[fun p=>.bin .eql (.t (p 0)) (.c (.i .i64 (-1))),
fun p=>.call (.fn i_Q41) [(.t (p 0)),(.t (p 1)),(.t (p 2))],
fun p=>.call (.fn i_Q42) [(.t (p 0))],
fun p=>.call (.fn i_Q44) [(.t (p 0))],
fun p=>.call (.fn i_Q46) [(.t (p 0))],
fun p=>.call (.fn i_Q47) [(.t (p 0)),(.c (.i .i64 (xgi (p 1)))),(.c .ns)],
fun p=>.call (.fn i_Q49) [(.t (p 0))],
fun p=>.call (.fn i_Q50) [(.t (p 0)),(.t (p 1))],
fun p=>.call (.fn i_Q51) [(.t (p 0))],
fun p=>.bsl 1 [.ns] 2 [(0,(.t (p 0))),(1,(.t (p 1)))],
fun p=>.call (.fn i_Q56) [(.t (p 0)),(.t (p 1))],
fun p=>.call (.fn i_Q58) [(.t (p 0))],
fun p=>.call (.fn i_Q60) [(.t (p 0))],
fun p=>.build [(.i .i64 0),(.i .i64 0),(.b false),(.i .i64 0),(.i .u32 0),(.i .i64 0)] [(0,1,(.t (p 0))),(1,1,(.t (p 1))),(2,1,(.t (p 2))),(3,1,(.t (p 3)))],
fun p=>.call (.fn i_Q59) [(.t (p 0)),(.c (.i .i64 4294967295))],
fun p=>.call (.fn i_Q59) [(.t (p 0)),(.c (.i .i64 128))],
fun p=>.build [(.i .i64 0),(.i .i64 0),(.i .i64 0)] [(0,1,(.t (p 0))),(1,1,(.t (p 1))),(2,1,(.t (p 2)))],
fun p=>.build [.ns,(.b false)] [(0,1,(.t (p 0)))],
fun p=>.call (.fn i_Q63) [(.t (p 0)),(.t (p 1))],
fun p=>.eq true (.agg [.i,.i,.b,.i,.i,.i]) (.t (p 0)) (.t (p 1)),
fun p=>.call (.fn i_Q20) [(.t (p 0))],
fun p=>.build [.ns,.ns,(.i .i64 0),(.i .i64 0),(.i .i64 0)] [(0,1,(.t (p 0)))],
fun p=>.call (.fn i_Q64) [(.t (p 0))],
fun p=>.call (.fn i_Q65) [(.t (p 0))]]
def xsh10:List ((Nat→Nat)→O):=[fun p=>.call (.fn i_Q66) [(.t (p 0))],
fun p=>.call (.fn i_Q68) [(.t (p 0))],
fun p=>.call (.fn i_Q71) [(.t (p 0)),(.t (p 1)),(.t (p 2))],
fun p=>.call (.fn i_Q73) [(.t (p 0)),(.c (.i .i64 (xgi (p 1))))],
fun p=>.call (.fn i_Q74) [(.t (p 0)),(.c (.i .i64 (xgi (p 1))))],
fun p=>.call (.fn i_Q75) [(.t (p 0)),(.c (.i .i64 (xgi (p 1))))],
fun p=>.call (.fn i_Q76) [(.t (p 0)),(.c (.i .i64 (xgi (p 1))))],
fun p=>.build [(.i .i64 0),(.i .i64 0)] [(0,1,(.c (.i .i64 (-1)))),(1,1,(.t (p 0)))],
fun p=>.bin .lss (.t (p 0)) (.c (.i .i64 8192)),
fun p=>.call (.fn i_Q79) [(.t (p 0))],
fun p=>.call (.fn i_Q80) [(.t (p 0))],
fun p=>.call (.fn i_Q81) [(.t (p 0)),(.t (p 1))],
fun p=>.call (.fn i_Q4) [(.t (p 0)),(.t (p 1))],
fun p=>.bin .eql (.t (p 0)) (.c (.i .u32 1)),
fun p=>.bin .xor (.t (p 0)) (.c (.i .u32 79764919)),
fun p=>.call (.fn i_Q82) [(.t (p 0))],
fun p=>.slice 11 (.t (p 0)) none (some (.t (p 1))) none,
fun p=>.mkfn (.func i_Q84) [] [(.t (p 0))],
fun p=>.call (.fn i_Q83) [(.t (p 0)),(.t (p 1))],
fun p=>.call (.fn i_Q85) [(.t (p 0))],
fun p=>.call (.fn i_Q86) [(.t (p 0)),(.t (p 1))],
fun p=>.call (.fn i_Q87) [(.t (p 0)),(.t (p 1))],
fun p=>.mkif 9 (.c (.s ⟨#[108,101,110,32,111,117,116,32,111,102,32,114,97,110,103,101]⟩)),
fun p=>.call (.fn i_Q88) [(.c .ns),(.t (p 0))]]
def xsh11:List ((Nat→Nat)→O):=[fun p=>.call (.fn i_Q89) [(.t (p 0)),(.t (p 1))],
fun p=>.call (.fn i_Q91) [(.t (p 0))],
fun p=>.call (.fn i_Q92) [(.t (p 0)),(.c (.i .i64 (xgi (p 1))))],
fun p=>.build [(.s ⟨#[]⟩),(.i .i64 0),(.i .i64 0),(.b false),(.b false),.ns,(.i .i64 0),(.i .i64 0),(.i .i64 0),(.i .i64 0),(.i .i64 0)] [(0,1,(.t (p 0))),(1,1,(.t (p 1))),(2,1,(.t (p 2))),(3,1,(.t (p 3))),(4,1,(.t (p 4)))],
fun p=>.call (.fn i_Q59) [(.t (p 0)),(.c (.i .i64 512))],
fun p=>.call (.fn i_Q59) [(.t (p 0)),(.c (.i .i64 255))],
fun p=>.eq true (.agg [.i,.i,.i,.i,.i]) (.t (p 0)) (.t (p 1)),
fun p=>.eq true (.agg [.i,.i]) (.t (p 0)) (.t (p 1)),
fun p=>.store 1 (.t (p 0)) (.c .ns),
fun p=>.call (.fn i_Q94) [(.t (p 0)),(.c (.i .i64 (xgi (p 1))))],
fun p=>.call (.fn i_Q94) [(.t (p 0)),(.t (p 1))],
fun p=>.slice 2 (.t (p 0)) none (some (.t (p 1))) none,
fun p=>.slice 2 (.t (p 0)) none (some (.t (p 1))) (some (.t (p 2))),
fun p=>.iad 2 (.t (p 0)) (.c (.i .i64 (xgi (p 1)))),
fun p=>.build [(.i .i64 0),(.i .i64 0),(.i .i64 0),(.i .i64 0),(.i .i64 0),(.i .i64 0)] [(3,1,(.c (.i .i64 (xgi (p 0)))))],
fun p=>.build [(.i .i64 0),(.i .i64 0),(.i .i64 0),(.i .i64 0),(.i .i64 0),(.i .i64 0)] [(0,3,(.t (p 0))),(3,1,(.t (p 1)))],
fun p=>.alloc [(.i .i64 0),(.i .i64 0),(.i .i64 0),(.i .i64 0),(.i .i64 0),(.i .i64 0)],
fun p=>.slice 6 (.t (p 0)) none (some (.t (p 1))) none,
fun p=>.call (.fn i_Q96) [(.t (p 0)),(.t (p 1))],
fun p=>.call (.fn i_Q97) [(.t (p 0)),(.t (p 1))],
fun p=>.call (.fn i_Q98) [(.t (p 0))],
fun p=>.call (.fn i_Q75) [(.t (p 0)),(.t (p 1))],
fun p=>.call (.fn i_Q76) [(.t (p 0)),(.t (p 1))],
fun p=>.call (.fn i_Q99) [(.t (p 0)),(.t (p 1))]]
def xsh12:List ((Nat→Nat)→O):=[fun p=>.bin .geq (.t (p 0)) (.c (.i .u8 48)),
fun p=>.bin .leq (.t (p 0)) (.c (.i .u8 57)),
fun p=>.bin .eql (.t (p 0)) (.c (.i .u8 95)),
fun p=>.bin .lss (.t (p 0)) (.c (.i .u8 97)),
fun p=>.bin .gtr (.t (p 0)) (.c (.i .u8 122)),
fun p=>.bin .geq (.t (p 0)) (.c (.i .i64 512)),
fun p=>.bin .gtr (.t (p 0)) (.c (.i .i64 255)),
fun p=>.bin .geq (.t (p 0)) (.c (.i .u8 97)),
fun p=>.bin .leq (.t (p 0)) (.c (.i .u8 122)),
fun p=>.bin .lss (.t (p 0)) (.c (.i .u8 48)),
fun p=>.bin .gtr (.t (p 0)) (.c (.i .u8 57)),
fun p=>.bin .neq (.t (p 0)) (.c (.i .u8 95)),
fun p=>.call (.fn i_Q100) [(.t (p 0)),(.t (p 1))],
fun p=>.call (.fn i_Q101) [(.t (p 0))],
fun p=>.call (.fn i_Q102) [(.t (p 0)),(.c (.i .i64 4096))],
fun p=>.call (.fn i_Q17) [(.t (p 0))],
fun p=>.mkfn (.func i_Q103) [] [(.t (p 0))],
fun p=>.call (.fn i_Q78) [(.t (p 0)),(.t (p 1))],
fun p=>.call (.fn i_Q18) [(.t (p 0)),(.t (p 1))],
fun p=>.mkif 9 (.c (.s ⟨#[99,97,110,110,111,116,32,98,101,32,110,101,103,97,116,105,118,101]⟩)),
fun p=>.appz [(.i .u8 0)] (.t (p 0)) (.t (p 1)),
fun p=>.bin .mul (.c (.i .u32 79764919)) (.t (p 0)),
fun p=>.call (.fn i_Q104) [(.t (p 0))],
fun p=>.bin .gtr (.t (p 0)) (.c (.i .u64 0))]
def xsh13:List ((Nat→Nat)→O):=[fun p=>.call (.fn i_Q105) [(.t (p 0))],
fun p=>.bin .add (.t (p 0)) (.c (.i .u8 128)),
fun p=>.bsl 1 [.ns] 3 [(0,(.t (p 0))),(1,(.t (p 1))),(2,(.t (p 2)))],
fun p=>.slice 1 (.t (p 0)) none (some (.t (p 1))) (some (.t (p 2))),
fun p=>.call (.fn i_Q106) [(.t (p 0)),(.t (p 1))],
fun p=>.bin .andNot (.t (p 0)) (.c (.i .u8 128)),
fun p=>.slice 1 (.t (p 0)) (some (.c (.i .i64 (xgi (p 1))))) (some (.t (p 2))) none,
fun p=>.bin .shl (.t (p 0)) (.c (.i .u64 8)),
fun p=>.bin .or (.t (p 0)) (.t (p 1)),
fun p=>.bin .geq (.t (p 0)) (.c (.i .u8 128)),
fun p=>.call (.fn i_Q90) [(.c .ns),(.t (p 0))],
fun p=>.call (.fn i_Q102) [(.t (p 0)),(.c (.i .i64 511))],
fun p=>.call (.fn i_Q102) [(.t (p 0)),(.c (.i .i64 255))]]
def xshB:Nat→List ((Nat→Nat)→O)
 | 0=>xsh0
 | 1=>xsh1
 | 2=>xsh2
 | 3=>xsh3
 | 4=>xsh4
 | 5=>xsh5
 | 6=>xsh6
 | 7=>xsh7
 | 8=>xsh8
 | 9=>xsh9
 | 10=>xsh10
 | 11=>xsh11
 | 12=>xsh12
 | _=>xsh13
def shp (s:Nat) (p:Nat→Nat):O:=xgt (fun _=>.e0) (xshB (s / 24)) (s % 24) p
def nps:List Nat:=[1,2,1,1,1,2,2,2,2,2,1,0,2,0,1,2,1,2,2,2,1,1,1,2,2,2,2,1,2,2,2,0,2,2,2,2,0,2,2,1,1,0,2,2,2,2,2,2,1,0,1,2,0,2,1,2,1,2,2,2,1,1,2,0,1,2,0,2,2,1,2,1,1,1,1,2,1,2,0,2,1,2,0,1,1,1,1,2,2,0,1,2,2,2,1,2,2,1,1,2,2,1,2,1,1,0,2,2,2,2,2,1,1,1,1,2,2,2,1,1,2,3,3,3,1,1,4,0,1,0,1,1,1,1,1,1,0,1,3,0,1,1,1,1,3,0,1,1,1,3,1,1,1,0,2,2,1,2,1,1,2,2,2,2,1,1,0,1,1,2,2,0,1,1,1,1,3,2,5,0,0,4,2,2,1,1,1,2,3,1,1,2,0,1,1,1,1,1,2,1,1,2,2,2,3,1,3,3,1,2,0,1,1,1,1,3,1,3,1,1,1,2,1,2,1,2,2,1,1,4,1,1,3,1,2,2,1,1,1,1,1,1,3,2,2,2,2,1,1,1,1,2,2,1,1,1,2,1,2,1,2,2,0,1,2,1,2,5,1,1,2,2,1,2,2,2,3,2,1,2,0,2,2,2,1,2,2,2,1,1,1,1,1,1,1,1,1,1,1,1,2,1,1,1,1,2,2,0,2,1,1,1,1,1,3,3,2,1,3,1,2,1,1,1,1]
abbrev Rs:=List TO×List (Bool×List TO)
abbrev Rc:=Nat→Nat→Nat→Bool→Rs
def xfin (s:Nat) (d:Option Nat) (g:Option (Nat×Bool)) (l:List Nat) (r:Rs):Rs:=(⟨d,shp s (fun i=>xgt 0 l i),g⟩::r.1,r.2)
def xpar (R:Nat) (rc:Nat→List Nat→Rs):Nat→Nat→List Nat→Rs
 | 0,n,l=>rc n l
 | f+1,n,l=>xpar R rc f (n / R) (n % R::l)
def xdst (R s:Nat) (rc:Rc) (g:Option (Nat×Bool)) (gn:Nat) (gb:Bool) (p:Nat):Nat→Nat→Rs
 | 0,n=>xpar R (fun n l=>xfin s (some (p+1)) g l (rc n (p+1) gn gb)) (xgt 0 nps s) n []
 | 1,n=>xpar R (fun m l=>xfin s (some (n % R)) g l (rc m (n % R) gn gb)) (xgt 0 nps s) (n / R) []
 | _+2,n=>xpar R (fun n l=>xfin s none g l (rc n p gn gb)) (xgt 0 nps s) n []
def xgud (R s:Nat) (rc:Rc) (p gn:Nat) (gb:Bool):Nat→Nat→Rs
 | 0,n=>xdst R s rc none gn gb p (n % 3) (n / 3)
 | 1,n=>xdst R s rc (some (n % R,true)) (n % R) true p (n / R % 3) (n / R / 3)
 | 2,n=>xdst R s rc (some (n % R,false)) (n % R) false p (n / R % 3) (n / R / 3)
 | _+3,n=>xdst R s rc (some (gn,gb)) gn gb p (n % 3) (n / 3)
def xseg (b:Bool) (r:Rs):Rs:=([],(b,r.1)::r.2)
def xstp (R:Nat) (rc:Rc) (p gn:Nat) (gb:Bool):Nat→Nat→Rs
 | 0,_=>([],[])
 | 1,n=>xseg true (rc n p gn gb)
 | 2,n=>xseg false (rc n p gn gb)
 | s+3,n=>xgud R s rc p gn gb (n % 4) (n / 4)
def xdec (R:Nat):Nat→Rc
 | 0=>fun _ _ _ _=>([],[])
 | f+1=>fun n p gn gb=>xstp R (xdec R f) p gn gb (n % 328) (n / 328)
def xrad (n:Nat):Nat:=xgt 0 [32,64,128,512] (n % 4)
@[go_sem ↓] def k (n:Nat) {l:List TO} (h:(xdec (xrad n) 400 (n / 4) 511 0 true).1=l:=by conv=>lhs;cbv):List TO:=l
@[go_sem ↓] def kd (n:Nat) {l:List (Bool×List TO)} (h:(xdec (xrad n) 400 (n / 4) 511 0 true).2=l:=by conv=>lhs;cbv):List (Bool×List TO):=l
/-! horarium/horariumlaw14.ImageSizes -/
@[go_sem] def Q0_0:=k 0x10ab8
@[go_sem] def Q0_1:=k 0x20a69d92004aff6d4a3bc80ed19ff01cb8c70475aa9fbdcc3ab90c
@[go_sem] def Q0_2:=k 0x11670a012be69fa1ab573e57c4cc12ab52c4
@[go_sem] def Q0_3:=k 0x152f7e7d2c35c238b4bb090f6004f1f43644
@[go_sem] def Q0_4:=kd 0x4eddb040cdd46fe6a01ca91c5f5d10772af018f36bc5ff97a9f92a08dc3b95b7242bcdf93d0739162a98aaeb5e0bcd3d90d5e4d5060e7a88fde96c533fc26faffd16dc2adabd52253dcdd68adf82f2b8d30675e2328344217f5bf9f6f65
def t_Q0:TF:=⟨63,[.t 4],(.seq (.reg Q0_0) (.seq (.reg Q0_1) (.seq (.reg Q0_2) (.seq (.reg Q0_3) (.seq (.dreg Q0_4) .ret)))))⟩
/-! (*horarium/horariumkeep.Tape).Config -/
@[go_sem] def Q1_0:=k 0x901c
@[go_sem] def Q1_1:=k 0xcd9c
@[go_sem] def Q1_2:=k 0x19cfa0d6cc4f45f5ce1340c
@[go_sem] def Q1_3:=k 0x14818
@[go_sem] def Q1_4:=k 0x3aaccc0d240c5c8c
@[go_sem] def Q1_5:=k 0x3ba1a8d8e8dcc9a6ba1597a6b25c763b44ea4a6c6065a5f2547b87a8925e0e78537adfa000d
@[go_sem] def Q1_6:=k 0x1e455b428b4e180020d
@[go_sem] def Q1_7:=k 0x2051b3f4c1d0d
@[go_sem] def Q1_8:=kd 0x33b7610d568a257bc5a4a15a8812b958853593269aad8e6736e9ee194556b15ba5703bd957bd25e021dcd0a14d20d6c85
@[go_sem] def Q1_9:=k 0x21d1fba6392aa2c980d
def Q1_10:TC:=(.seq (.seq (.reg Q1_7) (.cond (.t 36) .skip (.exit 2))) (.seq (.block 3 (.dreg Q1_8)) (.reg Q1_9)))
@[go_sem] def Q1_11:=k 0xc1799
@[go_sem] def Q1_12:=k 0xc089353d
@[go_sem] def Q1_13:=k 0x302318995528d
@[go_sem] def Q1_14:=k 0xaa3c91bffc04ebf55aea6f82da10ab23c06de01a53ac81ca513fd00d
@[go_sem] def Q1_15:=k 0xe436f8e24e1c21
def Q1_16:TC:=(.seq (.reg Q1_12) (.seq (.cond (.t 51) .skip (.exit 4)) (.seq (.block 5 (.seq (.reg Q1_13) (.reg Q1_14))) (.reg Q1_15))))
@[go_sem] def Q1_17:=k 0x198b0a35343223ab8e9debe450b15e0fa42706b3992
@[go_sem] def Q1_18:=k 0x8f27fc670a61b150c
def Q1_19:TC:=(.seq (.seq (.reg Q1_4) (.cond (.t 18) .skip (.exit 0))) (.seq (.block 1 (.seq (.reg Q1_5) (.seq (.seq (.reg Q1_6) (.block 2 (.loop Q1_10))) (.seq (.seq (.reg Q1_11) (.block 4 (.loop Q1_16))) (.reg Q1_17))))) (.reg Q1_18)))
@[go_sem] def Q1_20:=k 0x7a94be4433fb4df06a8e
@[go_sem] def Q1_21:=k 0x392511bef8205dd935febedf5c3cad5365a58e
@[go_sem] def Q1_22:=k 0x444849cbdc45c422dbe32d18e
@[go_sem] def Q1_23:=kd 0x1d2b927aedb05fc7c4d2b7640ab8481bcb313fee88b267d1a505bb3708a5d94203ccd0ae296a39de791609f6944239d6b0ad133a8ea51eefb29449a3c32c959d9d4fee022522b66e10b26238edf207cc458be7084b7dfc04df66
@[go_sem] def Q1_24:=k 0x2e2bae902a5a92
@[go_sem] def Q1_25:=k 0xad67f1c98942e962f50709cb2e9f8958e
@[go_sem] def Q1_26:=k 0x2a517f8185f9b50b29f5c03ef9c53b243da7fd5cb92
@[go_sem] def Q1_27:=k 0x88c73fc7e2c5a807168e
def Q1_28:TC:=(.seq (.seq (.reg Q1_21) (.cond (.t 75) .skip (.exit 6))) (.seq (.block 7 (.seq (.reg Q1_22) (.seq (.dreg Q1_23) (.seq (.seq (.reg Q1_24) (.cond (.t 101) (.reg Q1_25) .skip)) (.reg Q1_26))))) (.reg Q1_27)))
@[go_sem] def Q1_29:=k 0xc8b52c79a2ba85fafc8e
@[go_sem] def Q1_30:=k 0x34a245fcec778e
@[go_sem] def Q1_31:=kd 0x5d890a29bf62da3bb772e6a39e8575ba0dbf006cdda84563fa1fbb09ba177f0f5809e6086
@[go_sem] def Q1_32:=k 0xcfce6d3b7a95a86cf28e
def Q1_33:TC:=(.seq (.seq (.reg Q1_30) (.cond (.t 115) .skip (.exit 8))) (.seq (.block 9 (.dreg Q1_31)) (.reg Q1_32)))
@[go_sem] def Q1_34:=k 0x1eb6cd7a3e066801163161e598f
def t_Q1:TF:=⟨129,[.cell 2 3 true],(.seq (.reg Q1_0) (.seq (.reg Q1_1) (.seq (.reg Q1_2) (.seq (.seq (.reg Q1_3) (.block 0 (.loop Q1_19))) (.seq (.seq (.reg Q1_20) (.block 6 (.loop Q1_28))) (.seq (.seq (.reg Q1_29) (.block 8 (.loop Q1_33))) (.seq (.reg Q1_34) .ret)))))))⟩
/-! horarium/horariumref3.Of -/
@[go_sem] def Q2_0:=k 0x2eafc0
@[go_sem] def Q2_1:=k 0x19537390b133858c
@[go_sem] def Q2_2:=k 0xec661c2c08c
@[go_sem] def Q2_3:=k 0x11bf7cae0c13b8c
@[go_sem] def Q2_4:=k 0x59d08e393af2e16ab90c
@[go_sem] def Q2_5:=k 0x1aacd4b2e63e18c
@[go_sem] def Q2_6:=k 0x162c4afc0
@[go_sem] def Q2_7:=k 0x1821dc44c9a0c
def t_Q2:TF:=⟨18,[.t 2,.t 3],(.seq (.reg Q2_0) (.seq (.seq (.reg Q2_1) (.seq (.reg Q2_2) (.cond (.t 9) (.seq (.reg Q2_3) .ret) .skip))) (.seq (.reg Q2_4) (.seq (.seq (.reg Q2_5) (.cond (.t 16) (.seq (.reg Q2_6) .ret) .skip)) (.seq (.reg Q2_7) .ret)))))⟩
/-! horarium/horariumref3.Total -/
@[go_sem] def Q3_0:=k 0x8f98
@[go_sem] def Q3_1:=k 0xcd18
@[go_sem] def Q3_2:=k 0xb6d5c3b858c
@[go_sem] def Q3_3:=k 0x7e80e24
@[go_sem] def Q3_4:=k 0x4930d931be1cd7083fbec
@[go_sem] def Q3_5:=k 0x3180d17cab5f61e127fab32068c
@[go_sem] def Q3_6:=k 0x3c0f43bfb9ca0
def Q3_7:TC:=(.seq (.reg Q3_3) (.seq (.cond (.t 9) .skip (.exit 0)) (.seq (.block 1 (.seq (.reg Q3_4) (.reg Q3_5))) (.reg Q3_6))))
@[go_sem] def Q3_8:=k 0x1f87c43d3a0c
def t_Q3:TF:=⟨18,[.t 2],(.seq (.reg Q3_0) (.seq (.reg Q3_1) (.seq (.seq (.reg Q3_2) (.block 0 (.loop Q3_7))) (.seq (.reg Q3_8) .ret))))⟩
/-! horarium/horariumref7.Holds -/
@[go_sem] def Q4_0:=k 0x400b848fcc
@[go_sem] def Q4_1:=k 0x2d084dc476ac7db90
@[go_sem] def Q4_2:=k 0xcddb1a4
@[go_sem] def Q4_3:=k 0x58f7d6d77b28aed399f90
@[go_sem] def Q4_4:=k 0x43463de564c97b6944b7a390979e95a963da0c
@[go_sem] def Q4_5:=k 0xfce16633687d4aba83c064f40b80fc19f20570f8e2e3d6faf86418ff4a1c1969634a199db11
@[go_sem] def Q4_6:=k 0x931a98
@[go_sem] def Q4_7:=k 0x85bd4114101aa1
def Q4_8:TC:=(.seq (.reg Q4_2) (.seq (.cond (.t 14) .skip (.exit 0)) (.seq (.block 1 (.seq (.reg Q4_3) (.seq (.reg Q4_4) (.seq (.reg Q4_5) (.cond (.t 35) (.seq (.reg Q4_6) .ret) .skip))))) (.reg Q4_7))))
@[go_sem] def Q4_9:=k 0x5d9d21e19c0e27b811
@[go_sem] def Q4_10:=k 0x9c218e25
@[go_sem] def Q4_11:=k 0x7a2c9599c228f1ec3c79ede4a04312b8d
@[go_sem] def Q4_12:=kd 0x9537843bfe76eefe295c16bca700d4626539ee02d56fb722bf26f7d9ad346cd8e7879bff3485
@[go_sem] def Q4_13:=k 0x9aca98
@[go_sem] def Q4_14:=k 0xd88e8a3bdd63a1
def Q4_15:TC:=(.seq (.reg Q4_10) (.seq (.cond (.t 41) .skip (.exit 2)) (.seq (.block 3 (.seq (.reg Q4_11) (.seq (.dreg Q4_12) (.cond (.t 57) (.seq (.reg Q4_13) .ret) .skip)))) (.reg Q4_14))))
@[go_sem] def Q4_16:=k 0x10a98
def t_Q4:TF:=⟨59,[.t 4],(.seq (.reg Q4_0) (.seq (.seq (.reg Q4_1) (.block 0 (.loop Q4_8))) (.seq (.seq (.reg Q4_9) (.block 2 (.loop Q4_15))) (.seq (.reg Q4_16) .ret))))⟩
/-! horarium/horariumref3.Nodes -/
@[go_sem] def Q5_0:=k 0x10ab8
@[go_sem] def Q5_1:=k 0x5f75aa52ee95ed86043b858c
@[go_sem] def Q5_2:=k 0x10ab8
@[go_sem] def Q5_3:=k 0xbb73b7cb90c
@[go_sem] def Q5_4:=k 0xcddb1a4
@[go_sem] def Q5_5:=k 0x1c0287499f0c
@[go_sem] def Q5_6:=kd 0x469c055ab39fa6f8840c015fab07f3babfd908c0971364
@[go_sem] def Q5_7:=k 0x10ab8
@[go_sem] def Q5_8:=k 0x5de1128cbc620
def Q5_9:TC:=(.seq (.reg Q5_4) (.seq (.cond (.t 14) .skip (.exit 0)) (.seq (.block 1 (.seq (.reg Q5_5) (.seq (.dreg Q5_6) (.cond (.t 24) (.seq (.reg Q5_7) .ret) .skip)))) (.reg Q5_8))))
@[go_sem] def Q5_10:=k 0x10b50
def t_Q5:TF:=⟨26,[.t 4],(.seq (.reg Q5_0) (.seq (.seq (.reg Q5_1) (.cond (.t 10) (.seq (.reg Q5_2) .ret) .skip)) (.seq (.seq (.reg Q5_3) (.block 0 (.loop Q5_9))) (.seq (.reg Q5_10) .ret))))⟩
/-! (*horarium/horariumkeep.Tape).Table -/
@[go_sem] def Q6_0:=k 0x185c0
@[go_sem] def Q6_1:=k 0x56cf898c31fa0b90c
@[go_sem] def Q6_2:=k 0xc3a8acb871cc36c30656f29bfcbc940c
@[go_sem] def Q6_3:=k 0x2316e3c2750c
@[go_sem] def Q6_4:=k 0x13d6f944e52eeda575a2e06259ce3200c
@[go_sem] def Q6_5:=k 0x171fd9c3fb2e7d78791cdda05aa73910aa79a802d72aa48e538d
@[go_sem] def Q6_6:=k 0x1f6cae093df8d
@[go_sem] def Q6_7:=k 0x724ff282d52798ee1b0f1144752f081c89b22b59ed1e4dc7e29a828f20b2ba80ba8d
@[go_sem] def Q6_8:=k 0x29e44ea23c63e057293835f0d
@[go_sem] def Q6_9:=k 0xb1da4614ffb628f004f178d
@[go_sem] def Q6_10:=k 0x27b98
@[go_sem] def Q6_11:=k 0xbf1be39e1142e900d
@[go_sem] def Q6_12:=k 0x5d2af28d055ad307188c14c5cb6086b043a83c3562f42c38e
@[go_sem] def Q6_13:=k 0x32b89b60e493867488d
def Q6_14:TC:=(.seq (.seq (.reg Q6_11) (.cond (.t 55) .skip (.exit 0))) (.seq (.block 1 (.reg Q6_12)) (.reg Q6_13)))
@[go_sem] def Q6_15:=k 0x1e088b5344720e
def t_Q6:TF:=⟨66,[.t 6],(.seq (.reg Q6_0) (.seq (.reg Q6_1) (.seq (.seq (.reg Q6_2) (.cond (.t 18) (.seq (.seq (.reg Q6_3) (.cond (.t 20) (.seq (.reg Q6_4) .ret) .skip)) (.seq (.reg Q6_5) .ret)) .skip)) (.seq (.seq (.reg Q6_6) (.cond (.t 35) (.seq (.reg Q6_7) .ret) .skip)) (.seq (.reg Q6_8) (.seq (.reg Q6_9) (.seq (.seq (.reg Q6_10) (.block 0 (.loop Q6_14))) (.seq (.reg Q6_15) .ret))))))))⟩
/-! horarium/horariumref1.Seal -/
@[go_sem] def Q7_0:=k 0x8fc0
@[go_sem] def Q7_1:=k 0x121dcdb029810a8c
@[go_sem] def Q7_2:=k 0xab433aea0abdf27be662cde31130b0b48c3cd40020fecb8312da9c5ebc891c6d31f343f2479896f0
def t_Q7:TF:=⟨22,[.t 2],(.seq (.reg Q7_0) (.seq (.reg Q7_1) (.seq (.reg Q7_2) .ret)))⟩
/-! horarium/horariumlaw14.known -/
@[go_sem] def Q8_0:=k 0x14b8
@[go_sem] def Q8_1:=k 0x456257bd130e1f81ad1575a85d35d87fdc25f73a230888
@[go_sem] def Q8_2:=k 0x1228bad5c3cd4790e304cd494a3dd8ccd044
@[go_sem] def Q8_3:=k 0x2a2b755becfbc780c25880c89800e576f877b38c
@[go_sem] def Q8_4:=k 0x18f7e7848a5f060c334fbe2e458e209b9aa0d
@[go_sem] def Q8_5:=k 0x1cc0600948a7b8263bd6380f0105e808c7e15
@[go_sem] def Q8_6:=k 0x78d888ad481909fac1d691881e8937960e47b6815b7ba69291
@[go_sem] def Q8_7:=k 0x130f6e7bf124782dd73b8fb90bc68b8d5c8e42b9f041635ce08c87cc929740cd5c90f66016c8b752ab7eba7f21e05959c6edb39b923e8fb4f702e7c29795bfb029f4c169b8197cb339b1195f6fd3a9e7a0dd865ec812088255cc8317eea21e315953a04827fcb8e7618e
def t_Q8:TF:=⟨81,[.t 0],(.seq (.reg Q8_0) (.seq (.reg Q8_1) (.seq (.reg Q8_2) (.seq (.reg Q8_3) (.seq (.reg Q8_4) (.seq (.reg Q8_5) (.seq (.reg Q8_6) (.seq (.reg Q8_7) .ret))))))))⟩
/-! horarium/horariumbook.Within -/
@[go_sem] def Q9_0:=k 0x18598
@[go_sem] def Q9_1:=k 0x1e4374b134b8972bf58b4497e6a247a7ed123c30c
@[go_sem] def Q9_2:=k 0x1c114d25af0c
@[go_sem] def Q9_3:=k 0x1fcb00b58b27799a549b2838e244ae765ec8c
@[go_sem] def Q9_4:=k 0x28a13e6f5d8c
@[go_sem] def Q9_5:=k 0x2be608f6549025e442ed00ed9ba6cdf67d88c
@[go_sem] def Q9_6:=k 0x6d7aadfdcc48f0a8b9ea98d
def t_Q9:TF:=⟨33,[.t 6],(.seq (.reg Q9_0) (.seq (.seq (.reg Q9_1) (.cond (.t 14) (.seq (.reg Q9_2) .ret) .skip)) (.seq (.reg Q9_3) (.seq (.seq (.reg Q9_4) (.cond (.t 23) (.reg Q9_5) .skip)) (.seq (.reg Q9_6) .ret)))))⟩
/-! horarium/image.Bytes -/
@[go_sem] def Q10_0:=k 0x58b4e0524c
@[go_sem] def Q10_1:=k 0x15c6d321f496f844
@[go_sem] def Q10_2:=k 0xced99c2830c
@[go_sem] def Q10_3:=k 0xff92c7e0c0fe0c
@[go_sem] def Q10_4:=k 0x5700dbddf1c58f4ce2bc4
def t_Q10:TF:=⟨13,[.t 2,.t 3],(.seq (.reg Q10_0) (.seq (.seq (.reg Q10_1) (.seq (.reg Q10_2) (.cond (.t 8) (.seq (.reg Q10_3) .ret) .skip))) (.seq (.reg Q10_4) .ret)))⟩
/-! horarium/image.Read -/
@[go_sem] def Q11_0:=k 0x2eb01c
@[go_sem] def Q11_1:=k 0x9d6210c5188ddd1a18fa8e88e5ad6b27b8c
@[go_sem] def Q11_2:=k 0xceedc3e18c
@[go_sem] def Q11_3:=k 0x2e82d623ef65ed94
@[go_sem] def Q11_4:=k 0x4054f77ae91cea0c
@[go_sem] def Q11_5:=k 0x2af635c5c82ee394
@[go_sem] def Q11_6:=k 0x1553343d0d03f2c92d94fe4249e00c
@[go_sem] def Q11_7:=k 0x15f12f5b36ddf44207689800e576b83473c4
@[go_sem] def Q11_8:=k 0x5eb29c6123d4c1b47fc0d4b6878535e009ec070a498d
@[go_sem] def Q11_9:=k 0x2ac6dd18f68653695
@[go_sem] def Q11_10:=k 0xbd6264153065b345
def t_Q11:TF:=⟨40,[.cell 2 3 true,.t 3],(.seq (.reg Q11_0) (.seq (.reg Q11_1) (.seq (.seq (.reg Q11_2) (.cond (.t 15) (.seq (.reg Q11_3) .ret) .skip)) (.seq (.seq (.reg Q11_4) (.cond (.t 19) (.seq (.reg Q11_5) .ret) .skip)) (.seq (.reg Q11_6) (.seq (.seq (.reg Q11_7) (.seq (.reg Q11_8) (.cond (.t 37) (.seq (.reg Q11_9) .ret) .skip))) (.seq (.reg Q11_10) .ret)))))))⟩
/-! horarium/horariumref12.Same -/
@[go_sem] def Q12_0:=k 0x19e9c8828fcc
@[go_sem] def Q12_1:=k 0xc8c1ba5f395f93069038df245d20aa3c361c6a2cac3de2be47551240c326e5c4
@[go_sem] def Q12_2:=k 0x10ab8
@[go_sem] def Q12_3:=k 0x2f076904673c00510
@[go_sem] def Q12_4:=k 0x15cb0b24
@[go_sem] def Q12_5:=k 0x2ca18f90f88c
@[go_sem] def Q12_6:=kd 0x1bcdfe2a6937e66d1ce18cdc5f4a6c117d1a669df8e82216f3a63235e3f8b24485
@[go_sem] def Q12_7:=k 0x10ab8
@[go_sem] def Q12_8:=k 0x89f3c976a85821
def Q12_9:TC:=(.seq (.reg Q12_4) (.seq (.cond (.t 23) .skip (.exit 0)) (.seq (.block 1 (.seq (.reg Q12_5) (.seq (.dreg Q12_6) (.cond (.t 36) (.seq (.reg Q12_7) .ret) .skip)))) (.reg Q12_8))))
@[go_sem] def Q12_10:=k 0x10b50
def t_Q12:TF:=⟨38,[.t 4],(.seq (.reg Q12_0) (.seq (.seq (.reg Q12_1) (.cond (.t 18) (.seq (.reg Q12_2) .ret) .skip)) (.seq (.seq (.reg Q12_3) (.block 0 (.loop Q12_9))) (.seq (.reg Q12_10) .ret))))⟩
/-! horarium/image.Size -/
@[go_sem] def Q13_0:=k 0x5c4524c
@[go_sem] def Q13_1:=k 0x6cf5d77cea3775e05d96d2278933b0935c4
@[go_sem] def Q13_2:=k 0x274d2b451d538b8c
def t_Q13:TF:=⟨12,[.t 2],(.seq (.reg Q13_0) (.seq (.reg Q13_1) (.seq (.reg Q13_2) .ret)))⟩
/-! (*horarium/horariumkeep.Tape).Next -/
@[go_sem] def Q14_0:=k 0x10a98
@[go_sem] def Q14_1:=kd 0x2d90b9fe76ce1067a3717ac3c1b4a0152628e0525ae3505ad759a060328b7c70d144f64
@[go_sem] def Q14_2:=k 0x10a98
@[go_sem] def Q14_3:=k 0x4adb11323e7ad6a39278f04b724cb4917e342a50c
@[go_sem] def Q14_4:=kd 0x6e2373a49ae503fd58eb70a0c91bfc23654f2efd4916504c5ff1e8002ba6a2ddc8fe226738dddb0b65
def t_Q14:TF:=⟨40,[.t 4],(.seq (.reg Q14_0) (.seq (.seq (.dreg Q14_1) (.cond (.t 18) (.seq (.reg Q14_2) .ret) .skip)) (.seq (.reg Q14_3) (.seq (.dreg Q14_4) .ret))))⟩
/-! (*horarium/horariumkeep.Tape).frame -/
@[go_sem] def Q15_0:=k 0x10ac0
@[go_sem] def Q15_1:=k 0x1156704938995c48124008c
@[go_sem] def Q15_2:=k 0xb5982db4c5c56187ceac6cb993e005f668c
@[go_sem] def Q15_3:=k 0xec3193d5e16e5a9474290e92f837507ece828b5e31d47e255937a1dbbc8c
@[go_sem] def Q15_4:=k 0x63133548e71867499d3d8d1361921f8f07a42a1ab2edad8ff9
@[go_sem] def Q15_5:=k 0x2061ae2dd5d0d
def t_Q15:TF:=⟨36,[.t 4],(.seq (.reg Q15_0) (.seq (.reg Q15_1) (.seq (.seq (.reg Q15_2) (.seq (.reg Q15_3) (.cond (.t 27) (.seq (.reg Q15_4) .ret) .skip))) (.seq (.reg Q15_5) .ret))))⟩
/-! (*horarium/horariumkeep.Tape).asks -/
@[go_sem] def Q16_0:=k 0x25827d4c
@[go_sem] def Q16_1:=k 0x14840
@[go_sem] def Q16_2:=k 0x2fb1c76f0cbc86d90
@[go_sem] def Q16_3:=k 0x18c4d3a4
@[go_sem] def Q16_4:=k 0xc863975e8c8a0c150
@[go_sem] def Q16_5:=k 0x63dfb23e24275444214beba4523001234ae98d
@[go_sem] def Q16_6:=k 0x1e627a421a825b79204e93dd1f8d
@[go_sem] def Q16_7:=k 0x8dd1ac423095a1
def Q16_8:TC:=(.seq (.reg Q16_3) (.seq (.cond (.t 26) .skip (.exit 0)) (.seq (.block 1 (.seq (.reg Q16_4) (.seq (.reg Q16_5) (.reg Q16_6)))) (.reg Q16_7))))
@[go_sem] def Q16_9:=k 0x5e0eb60b28920f9311
@[go_sem] def Q16_10:=k 0xa3f0c925
@[go_sem] def Q16_11:=k 0x28c75bb18668d
@[go_sem] def Q16_12:=k 0x2b918
@[go_sem] def Q16_13:=k 0x6309003fc40d
@[go_sem] def Q16_14:=k 0xb776dca5
@[go_sem] def Q16_15:=k 0x2c8d28938a7bdd67a51
@[go_sem] def Q16_16:=kd 0xb4be12e089dff723c8b44a918f92e5a5bc0ff9b599241ff3412dff097530f2877dc83a1652e90af25013bfaf766
@[go_sem] def Q16_17:=k 0x352d615e3b589fb8104a940fb80db2e85e320e
@[go_sem] def Q16_18:=k 0x2b9b0
@[go_sem] def Q16_19:=k 0x3e5202a9e9c418309a783630e
@[go_sem] def Q16_20:=k 0x112b14ade2d09ba2
def Q16_21:TC:=(.seq (.reg Q16_14) (.seq (.cond (.t 48) .skip (.exit 4)) (.seq (.block 5 (.seq (.reg Q16_15) (.seq (.dreg Q16_16) (.seq (.reg Q16_17) (.cond (.t 70) (.reg Q16_18) (.reg Q16_19)))))) (.reg Q16_20))))
@[go_sem] def Q16_22:=k 0xeaec9749da2db26e3d16543042536c806ba753a4590e
@[go_sem] def Q16_23:=kd 0x4c992ae19daf2e399a041c9109090bad915d7ab7f63cf0977e24078b85c0380842fa2ea1c289b086
@[go_sem] def Q16_24:=k 0x155087b395f4eea2
def Q16_25:TC:=(.seq (.reg Q16_10) (.seq (.cond (.t 43) .skip (.exit 2)) (.seq (.block 3 (.seq (.reg Q16_11) (.seq (.reg Q16_12) (.seq (.seq (.reg Q16_13) (.block 4 (.loop Q16_21))) (.seq (.reg Q16_22) (.cond (.t 81) (.dreg Q16_23) .skip)))))) (.reg Q16_24))))
@[go_sem] def Q16_26:=k 0x2760e1cd76b5727b55ad2fe3702c0e
@[go_sem] def Q16_27:=k 0x2a42f393c6bc97c6db8e9f7620e
@[go_sem] def Q16_28:=k 0x2e2c75b8441a8e
@[go_sem] def Q16_29:=k 0x5a6209589ccde513e7006508e
@[go_sem] def Q16_30:=k 0x5de5507bb7e5b01ee7007468e
@[go_sem] def Q16_31:=k 0xb7043d1683d9a8e4958e
def Q16_32:TC:=(.seq (.seq (.reg Q16_28) (.cond (.t 101) .skip (.exit 6))) (.seq (.block 7 (.seq (.reg Q16_29) (.cond (.t 107) (.seq (.reg Q16_30) (.exit 6)) .skip))) (.reg Q16_31)))
@[go_sem] def Q16_33:=k 0xc33691aeed47076ff12
@[go_sem] def Q16_34:=k 0x6e66e7526
@[go_sem] def Q16_35:=k 0x359ea9abed728e
@[go_sem] def Q16_36:=k 0x46ad4
@[go_sem] def Q16_37:=k 0x331362055f00e
@[go_sem] def Q16_38:=k 0x733e968a6
@[go_sem] def Q16_39:=k 0xd8ca6330c8cf85486652
@[go_sem] def Q16_40:=k 0xc1be5eb10d1657aceb97f21e3f2e7e2688ccfcffeac3a10f
@[go_sem] def Q16_41:=k 0x1dd55f2f365a9a1223
def Q16_42:TC:=(.seq (.reg Q16_38) (.seq (.cond (.t 120) .skip (.exit 10)) (.seq (.block 11 (.seq (.reg Q16_39) (.reg Q16_40))) (.reg Q16_41))))
@[go_sem] def Q16_43:=k 0x19048505966f5d94b055544163a080b130f116c59152cc54f8f
@[go_sem] def Q16_44:=kd 0x247959d2083ed222476b54d180a52f09b55aca4fa29f23a36a16535f4955bd4fd6c6edbf42bc9b14b12678bfe2de11ec4d66b9e8dc0c052072c0c0e0f059a89c4dca7b9124e9496627f62030d8487
@[go_sem] def Q16_45:=k 0x235f2370b18c9fd623
def Q16_46:TC:=(.seq (.reg Q16_34) (.seq (.cond (.t 115) .skip (.exit 8)) (.seq (.block 9 (.seq (.reg Q16_35) (.seq (.reg Q16_36) (.seq (.seq (.reg Q16_37) (.block 10 (.loop Q16_42))) (.seq (.reg Q16_43) (.cond (.t 136) (.dreg Q16_44) .skip)))))) (.reg Q16_45))))
@[go_sem] def Q16_47:=k 0x226251e331990259613c7
@[go_sem] def Q16_48:=k 0x2cc8512b0e341c0196cc13
@[go_sem] def Q16_49:=k 0x9a0c8bc227
@[go_sem] def Q16_50:=k 0x12b424332f06ff8f
@[go_sem] def Q16_51:=kd 0x1141fbf7b2b6f6374140676743511701fe064d682ab626ea618e9569d7bebe311ccd13914d3179247f4e5a3adbe20b0e3c87
@[go_sem] def Q16_52:=k 0x280266afddc0a4a423
def Q16_53:TC:=(.seq (.reg Q16_49) (.seq (.cond (.t 161) .skip (.exit 12)) (.seq (.block 13 (.seq (.reg Q16_50) (.dreg Q16_51))) (.reg Q16_52))))
@[go_sem] def Q16_54:=k 0x8046b7c19ae1c7
def t_Q16:TF:=⟨175,[.cell 4 3 true],(.seq (.reg Q16_0) (.seq (.reg Q16_1) (.seq (.seq (.reg Q16_2) (.block 0 (.loop Q16_8))) (.seq (.seq (.reg Q16_9) (.block 2 (.loop Q16_25))) (.seq (.reg Q16_26) (.seq (.seq (.reg Q16_27) (.block 6 (.loop Q16_32))) (.seq (.seq (.reg Q16_33) (.block 8 (.loop Q16_46))) (.seq (.seq (.reg Q16_47) (.cond (.t 156) (.seq (.reg Q16_48) (.block 12 (.loop Q16_53))) .skip)) (.seq (.reg Q16_54) .ret)))))))))⟩
/-! horarium/runs.Of -/
@[go_sem] def Q17_0:=k 0x2eafc0
@[go_sem] def Q17_1:=k 0x23f954dcd1fc3e0c
@[go_sem] def Q17_2:=k 0x1450b9c3790c
@[go_sem] def Q17_3:=k 0x17126d3e0c1f40c
@[go_sem] def Q17_4:=k 0x14840
@[go_sem] def Q17_5:=k 0x35f1410cfe1d718c
@[go_sem] def Q17_6:=k 0x1d153e8c25769c51e7c0d5f69183347752024a0c
@[go_sem] def Q17_7:=k 0x136599ca00c
@[go_sem] def Q17_8:=k 0x2ae146893d5de34f1f60c00b0c
def Q17_9:TC:=(.block 1 (.seq (.reg Q17_6) (.seq (.seq (.reg Q17_7) (.cond (.t 22) (.exit 0) .skip)) (.reg Q17_8))))
@[go_sem] def Q17_10:=k 0x63f901aa1173010c
@[go_sem] def Q17_11:=k 0x354b955cc277c0c
@[go_sem] def Q17_12:=k 0x162c4afc0
@[go_sem] def Q17_13:=k 0x1802b1f0dca48d
def t_Q17:TF:=⟨33,[.t 2,.t 3],(.seq (.reg Q17_0) (.seq (.seq (.reg Q17_1) (.seq (.reg Q17_2) (.cond (.t 12) (.seq (.reg Q17_3) .ret) .skip))) (.seq (.reg Q17_4) (.seq (.reg Q17_5) (.seq (.block 0 (.loop Q17_9)) (.seq (.seq (.reg Q17_10) (.seq (.reg Q17_11) (.cond (.t 31) (.seq (.reg Q17_12) .ret) .skip))) (.seq (.reg Q17_13) .ret)))))))⟩
/-! horarium/bound.Holds -/
@[go_sem] def Q18_0:=k 0x400b848fcc
@[go_sem] def Q18_1:=k 0x2d084dc476ac7db90
@[go_sem] def Q18_2:=k 0xcddb1a4
@[go_sem] def Q18_3:=k 0x58f7d6d77b28aed399f90
@[go_sem] def Q18_4:=k 0x43463de564dcbcb116b3f390979e95a963da0c
@[go_sem] def Q18_5:=k 0x3f385991cfbc787c42e857bc77f8b7c4c828ebeed72cc34e64b49df4a1c1969634a199db11
@[go_sem] def Q18_6:=k 0x931a98
@[go_sem] def Q18_7:=k 0x85bd4114101aa1
def Q18_8:TC:=(.seq (.reg Q18_2) (.seq (.cond (.t 14) .skip (.exit 0)) (.seq (.block 1 (.seq (.reg Q18_3) (.seq (.reg Q18_4) (.seq (.reg Q18_5) (.cond (.t 35) (.seq (.reg Q18_6) .ret) .skip))))) (.reg Q18_7))))
@[go_sem] def Q18_9:=k 0x5d9d21e19c0e27b811
@[go_sem] def Q18_10:=k 0x9c218e25
@[go_sem] def Q18_11:=k 0x7a2c9599c228f1ec3c79ede4a04312b8d
@[go_sem] def Q18_12:=kd 0x9537843bfe76eefe295c16bca7012ce11c00bfa628226f22bf26f7d9ad346cd8e7879bff3485
@[go_sem] def Q18_13:=k 0x9aca98
@[go_sem] def Q18_14:=k 0xd88e8a3bdd63a1
def Q18_15:TC:=(.seq (.reg Q18_10) (.seq (.cond (.t 41) .skip (.exit 2)) (.seq (.block 3 (.seq (.reg Q18_11) (.seq (.dreg Q18_12) (.cond (.t 57) (.seq (.reg Q18_13) .ret) .skip)))) (.reg Q18_14))))
@[go_sem] def Q18_16:=k 0x10a98
def t_Q18:TF:=⟨59,[.t 4],(.seq (.reg Q18_0) (.seq (.seq (.reg Q18_1) (.block 0 (.loop Q18_8))) (.seq (.seq (.reg Q18_9) (.block 2 (.loop Q18_15))) (.seq (.reg Q18_16) .ret))))⟩
/-! horarium/node.Right -/
@[go_sem] def Q19_0:=k 0x8f98
@[go_sem] def Q19_1:=k 0x6cf5d77cea3775e05d96d227893d1df858c
@[go_sem] def Q19_2:=k 0x5ae168e1ad10cb7cb90c
@[go_sem] def Q19_3:=k 0x179f98
@[go_sem] def Q19_4:=k 0x7704c2bb80a7f5dbaf0c
@[go_sem] def Q19_5:=k 0x5ccf98
@[go_sem] def Q19_6:=k 0x1265039485a56abc18a50c
@[go_sem] def Q19_7:=k 0x6c2f98
@[go_sem] def Q19_8:=k 0x57a935213dfe5b0c
@[go_sem] def Q19_9:=k 0x8aef98
@[go_sem] def Q19_10:=k 0x8f98
def t_Q19:TF:=⟨25,[.t 2],(.seq (.reg Q19_0) (.seq (.reg Q19_1) (.seq (.block 0 (.seq (.reg Q19_2) (.cond (.t 10) (.seq (.reg Q19_3) .ret) (.seq (.reg Q19_4) (.cond (.t 14) (.seq (.reg Q19_5) .ret) (.seq (.reg Q19_6) (.cond (.t 18) (.seq (.reg Q19_7) .ret) (.seq (.reg Q19_8) (.cond (.t 22) (.seq (.reg Q19_9) .ret) .skip))))))))) (.seq (.reg Q19_10) .ret))))⟩
/-! slices.Clone[[]horarium/api.Node,horarium/api.Node] -/
@[go_sem] def Q20_0:=k 0x8fc0
@[go_sem] def Q20_1:=k 0x2cd666cd0c
@[go_sem] def Q20_2:=k 0x8fc0
@[go_sem] def Q20_3:=k 0x303f3dbe25bd84185970
def t_Q20:TF:=⟨8,[.t 2],(.seq (.reg Q20_0) (.seq (.seq (.reg Q20_1) (.cond (.t 4) (.seq (.reg Q20_2) .ret) .skip)) (.seq (.reg Q20_3) .ret)))⟩
/-! horarium/horariumref3.Right -/
@[go_sem] def Q21_0:=k 0x8f98
@[go_sem] def Q21_1:=k 0xab598625fb480c
@[go_sem] def Q21_2:=k 0x179f98
@[go_sem] def Q21_3:=k 0x1ff1b9fff310008c
@[go_sem] def Q21_4:=k 0x5ccf98
@[go_sem] def Q21_5:=k 0x2c5dfdf415d0b90c
@[go_sem] def Q21_6:=k 0x6c2f98
@[go_sem] def Q21_7:=k 0xd9e957edf16764e8ff373a02993cc0daf0c
@[go_sem] def Q21_8:=k 0x118ccfd650c
@[go_sem] def Q21_9:=k 0x8aef98
@[go_sem] def Q21_10:=k 0x8f98
def t_Q21:TF:=⟨21,[.t 2],(.seq (.reg Q21_0) (.seq (.seq (.reg Q21_1) (.cond (.t 7) (.seq (.reg Q21_2) .ret) .skip)) (.seq (.seq (.reg Q21_3) (.cond (.t 10) (.seq (.reg Q21_4) .ret) .skip)) (.seq (.seq (.reg Q21_5) (.cond (.t 13) (.seq (.reg Q21_6) .ret) .skip)) (.seq (.seq (.reg Q21_7) (.seq (.reg Q21_8) (.cond (.t 20) (.seq (.reg Q21_9) .ret) .skip))) (.seq (.reg Q21_10) .ret))))))⟩
/-! horarium/horariumref3.Tidy -/
@[go_sem] def Q22_0:=k 0x8fc0
@[go_sem] def Q22_1:=k 0xcd40
@[go_sem] def Q22_2:=k 0xb7c227bc30c
@[go_sem] def Q22_3:=k 0x8e5fba4
@[go_sem] def Q22_4:=k 0x499dfd75463a63981e96c
@[go_sem] def Q22_5:=k 0x3264a09d7014440c
@[go_sem] def Q22_6:=k 0x71cd0f28b52e01f10
@[go_sem] def Q22_7:=kd 0x7fa7c0c8ccd7a0104ad47faa3623cbef15568d54f9a02491b37164f9f00b7d6ddab64
@[go_sem] def Q22_8:=kd 0xa156c2afcca0388e733835ecceef3be5625714c59f61fee7ad8835a8e8746dd6c3c478426d4ab493afe0765
@[go_sem] def Q22_9:=k 0x275f3ee1b9fb70712af6b089040d
@[go_sem] def Q22_10:=k 0xb5867804b33a21
def Q22_11:TC:=(.seq (.reg Q22_3) (.seq (.cond (.t 10) .skip (.exit 0)) (.seq (.block 1 (.seq (.reg Q22_4) (.seq (.reg Q22_5) (.seq (.seq (.reg Q22_6) (.cond (.t 17) (.exit 1) .skip)) (.seq (.dreg Q22_7) (.cond (.t 30) (.dreg Q22_8) (.reg Q22_9))))))) (.reg Q22_10))))
@[go_sem] def Q22_12:=k 0x2e34270c2378d
def t_Q22:TF:=⟨51,[.t 2],(.seq (.reg Q22_0) (.seq (.reg Q22_1) (.seq (.seq (.reg Q22_2) (.block 0 (.loop Q22_11))) (.seq (.reg Q22_12) .ret))))⟩
/-! horarium/horariumref3.Leaves -/
@[go_sem] def Q23_0:=k 0x8fc0
@[go_sem] def Q23_1:=k 0x1ce9907b62f40cd0c
def t_Q23:TF:=⟨5,[.t 2],(.seq (.reg Q23_0) (.seq (.reg Q23_1) .ret))⟩
/-! horarium/horariumref3.Sum -/
@[go_sem] def Q24_0:=k 0x10a98
@[go_sem] def Q24_1:=k 0x3265568b56cd8f0873dfee74723480c
@[go_sem] def Q24_2:=k 0x3fbd870f13e899243e0c
@[go_sem] def Q24_3:=k 0x10cac
@[go_sem] def Q24_4:=k 0xce7d095fd7f1d1925340c
def t_Q24:TF:=⟨16,[.t 4],(.seq (.reg Q24_0) (.seq (.reg Q24_1) (.seq (.seq (.reg Q24_2) (.cond (.t 12) (.seq (.reg Q24_3) .ret) .skip)) (.seq (.reg Q24_4) .ret))))⟩
/-! horarium/horariumref7.Late -/
@[go_sem] def Q25_0:=k 0x18598
@[go_sem] def Q25_1:=k 0x3d26e6ed428bec8c
@[go_sem] def Q25_2:=k 0xcee4f60098
@[go_sem] def Q25_3:=k 0xc1ea774378c
@[go_sem] def Q25_4:=k 0x13cf3024
@[go_sem] def Q25_5:=k 0xa6014528cdbab1dd0
@[go_sem] def Q25_6:=k 0x140936fe0eec91b49cdc2f069c1ec5cdf8f7eb95b6ef2ed00212f11fa0afac6bcea92418388d
@[go_sem] def Q25_7:=k 0x8624aceef81aa1
def Q25_8:TC:=(.seq (.reg Q25_4) (.seq (.cond (.t 21) .skip (.exit 0)) (.seq (.block 1 (.seq (.reg Q25_5) (.reg Q25_6))) (.reg Q25_7))))
@[go_sem] def Q25_9:=k 0x88af60ab80d
@[go_sem] def Q25_10:=k 0x18598
@[go_sem] def Q25_11:=k 0x90127fbd30d
@[go_sem] def Q25_12:=k 0x18630
@[go_sem] def Q25_13:=k 0x621c9c5d8e0d
@[go_sem] def Q25_14:=k 0xa7d866a5
@[go_sem] def Q25_15:=k 0x2682c234a088f366737dc280040d
@[go_sem] def Q25_16:=k 0xad15dfe40a56adc8d
@[go_sem] def Q25_17:=k 0xb5f18
@[go_sem] def Q25_18:=k 0x26aae25a7691dc478804f970b7fc1bf8b681c871911ced64bb10fff50d
@[go_sem] def Q25_19:=k 0x381d4b184eeb8b5998d
def Q25_20:TC:=(.seq (.seq (.reg Q25_18) (.cond (.t 61) .skip (.exit 4))) (.block 5 (.reg Q25_19)))
@[go_sem] def Q25_21:=k 0x3854e943bec2e1eb60b25748e
@[go_sem] def Q25_22:=k 0xf8b8ce5a54eed22
def Q25_23:TC:=(.seq (.reg Q25_14) (.seq (.cond (.t 44) .skip (.exit 2)) (.seq (.block 3 (.seq (.reg Q25_15) (.seq (.seq (.reg Q25_16) (.cond (.t 50) (.exit 3) .skip)) (.seq (.reg Q25_17) (.seq (.block 4 (.loop Q25_20)) (.reg Q25_21)))))) (.reg Q25_22))))
@[go_sem] def Q25_24:=k 0x1f6b2153266a8e
def t_Q25:TF:=⟨69,[.t 6],(.seq (.reg Q25_0) (.seq (.reg Q25_1) (.seq (.reg Q25_2) (.seq (.seq (.reg Q25_3) (.block 0 (.loop Q25_8))) (.seq (.seq (.reg Q25_9) (.cond (.t 38) (.seq (.reg Q25_10) .ret) .skip)) (.seq (.seq (.reg Q25_11) (.cond (.t 40) (.seq (.reg Q25_12) .ret) .skip)) (.seq (.seq (.reg Q25_13) (.block 2 (.loop Q25_23))) (.seq (.reg Q25_24) .ret))))))))⟩
/-! horarium/horariumref7.Budget -/
@[go_sem] def Q26_0:=k 0x18598
@[go_sem] def Q26_1:=k 0x328105a0efcb340c
@[go_sem] def Q26_2:=k 0xd13a83ee793725e551d92a6dd4739fda828281ef1a3841b6d8d36d42aeb370d8cbd0f0c
@[go_sem] def Q26_3:=k 0x18630
@[go_sem] def Q26_4:=k 0xd6cee320876066c0c
@[go_sem] def Q26_5:=k 0x23e18
@[go_sem] def Q26_6:=k 0x1adf57dc13e2097b19e70d
@[go_sem] def Q26_7:=k 0x27b98
@[go_sem] def Q26_8:=k 0x50c471233324469b0267980b433293eacfcd58d
@[go_sem] def Q26_9:=k 0xafa7a1a5
@[go_sem] def Q26_10:=k 0x2ac34bc151b36073f51
@[go_sem] def Q26_11:=k 0xb0b0b1d92654c5a0d
@[go_sem] def Q26_12:=k 0x2f2bfafd3303866528d
@[go_sem] def Q26_13:=k 0xca12298f146da1
def Q26_14:TC:=(.seq (.reg Q26_9) (.seq (.cond (.t 46) .skip (.exit 2)) (.seq (.block 3 (.seq (.reg Q26_10) (.seq (.reg Q26_11) (.cond (.t 51) (.reg Q26_12) .skip)))) (.reg Q26_13))))
@[go_sem] def Q26_15:=k 0xc2da4c2b0d09bc486104b0d
@[go_sem] def Q26_16:=k 0x7eb1463665675f8be1add0d
def Q26_17:TC:=(.seq (.seq (.reg Q26_6) (.cond (.t 34) .skip (.exit 0))) (.seq (.block 1 (.seq (.reg Q26_7) (.seq (.seq (.reg Q26_8) (.block 2 (.loop Q26_14))) (.reg Q26_15)))) (.reg Q26_16)))
@[go_sem] def Q26_18:=k 0x35a60d511038d
def t_Q26:TF:=⟨59,[.t 6],(.seq (.reg Q26_0) (.seq (.reg Q26_1) (.seq (.seq (.reg Q26_2) (.cond (.t 28) (.seq (.reg Q26_3) .ret) .skip)) (.seq (.reg Q26_4) (.seq (.seq (.reg Q26_5) (.block 0 (.loop Q26_17))) (.seq (.reg Q26_18) .ret))))))⟩
/-! horarium/horariumref12.Right -/
@[go_sem] def Q27_0:=k 0x5c4524c
@[go_sem] def Q27_1:=k 0x6cf5d77cea3775e05d96d227893d5bf35c4
@[go_sem] def Q27_2:=k 0x129a4c3b8b8c
def t_Q27:TF:=⟨11,[.t 2],(.seq (.reg Q27_0) (.seq (.reg Q27_1) (.seq (.reg Q27_2) .ret)))⟩
/-! horarium/horariumref1.Sum -/
@[go_sem] def Q28_0:=k 0x90c4
@[go_sem] def Q28_1:=k 0xcf38
@[go_sem] def Q28_2:=k 0x10a98
@[go_sem] def Q28_3:=k 0x239974a2ea5f7b02080c
@[go_sem] def Q28_4:=k 0xc2f3658b35d3915d2613d1b15165afbc90c
@[go_sem] def Q28_5:=k 0x47f2a9b98d610fe0c
def Q28_6:TC:=(.seq (.seq (.reg Q28_3) (.cond (.t 8) .skip (.exit 0))) (.seq (.block 1 (.reg Q28_4)) (.reg Q28_5)))
@[go_sem] def Q28_7:=k 0x40258e4d0bc53a0c
def t_Q28:TF:=⟨19,[.t 2],(.seq (.reg Q28_0) (.seq (.reg Q28_1) (.seq (.seq (.reg Q28_2) (.block 0 (.loop Q28_6))) (.seq (.reg Q28_7) .ret))))⟩
/-! horarium/config.Right -/
@[go_sem] def Q29_0:=k 0x5c4524c
@[go_sem] def Q29_1:=k 0x6cf5d77cea3775e05d96d227893d7ab35c4
@[go_sem] def Q29_2:=k 0x129a4c3b8b8c
def t_Q29:TF:=⟨11,[.t 2],(.seq (.reg Q29_0) (.seq (.reg Q29_1) (.seq (.reg Q29_2) .ret)))⟩
/-! horarium/sum.Seal -/
@[go_sem] def Q30_0:=k 0x8fc0
@[go_sem] def Q30_1:=k 0x30dd26523da978016c3e34485c82e2cd0c
def t_Q30:TF:=⟨9,[.t 2],(.seq (.reg Q30_0) (.seq (.reg Q30_1) .ret))⟩
/-! horarium/image.body -/
@[go_sem] def Q31_0:=k 0xf60524c
@[go_sem] def Q31_1:=k 0x10121beb6a15748b40235f2c0bb4d4a98225e90
@[go_sem] def Q31_2:=k 0x2fea9192991cd4b10
@[go_sem] def Q31_3:=k 0x19c2c124
@[go_sem] def Q31_4:=k 0x50de1768f081a035eaf20
@[go_sem] def Q31_5:=kd 0x811e0e520f5b32db09345a8149494b7cc3f228353234f001bbe54d2c1f6f3b65
@[go_sem] def Q31_6:=kd 0x9bdd0b9c7d868ab22944f7e8dbc1f3af5853528034a6abdaea3cb3e90d576f73222833365
@[go_sem] def Q31_7:=k 0x60f0f91939e1917291
@[go_sem] def Q31_8:=k 0xd6b3c8a5
@[go_sem] def Q31_9:=k 0x1b0069a63a38b61e313666d
@[go_sem] def Q31_10:=k 0x5e8dbecc101fadf5bd5fedd8a084b4a55657e0376f9ea810e
@[go_sem] def Q31_11:=k 0xf55fe3e5dceafa2
def Q31_12:TC:=(.seq (.reg Q31_8) (.seq (.cond (.t 56) .skip (.exit 2)) (.seq (.block 3 (.seq (.reg Q31_9) (.reg Q31_10))) (.reg Q31_11))))
@[go_sem] def Q31_13:=k 0x181873fdce9ed12
@[go_sem] def Q31_14:=k 0x4258aa5be
@[go_sem] def Q31_15:=k 0x10683e432ddae49e
@[go_sem] def Q31_16:=k 0x1ebc9aebfa1c3cb708bc95b28da08e
@[go_sem] def Q31_17:=k 0x11ab6efb351116a2
def Q31_18:TC:=(.seq (.reg Q31_14) (.seq (.cond (.t 70) .skip (.exit 4)) (.seq (.block 5 (.seq (.reg Q31_15) (.reg Q31_16))) (.reg Q31_17))))
@[go_sem] def Q31_19:=k 0x11d2ad929ff15422
def Q31_20:TC:=(.seq (.reg Q31_3) (.seq (.cond (.t 27) .skip (.exit 0)) (.seq (.block 1 (.seq (.reg Q31_4) (.seq (.dreg Q31_5) (.seq (.dreg Q31_6) (.seq (.seq (.reg Q31_7) (.block 2 (.loop Q31_12))) (.seq (.reg Q31_13) (.block 4 (.loop Q31_18)))))))) (.reg Q31_19))))
@[go_sem] def Q31_21:=k 0x3ed144f9c7b7343069d580c3637f5941ea1ef118e
@[go_sem] def Q31_22:=k 0xbd39424578e7f930292
@[go_sem] def Q31_23:=k 0x54409b8a6
@[go_sem] def Q31_24:=k 0x9fbc2496d409cab1b568b692
@[go_sem] def Q31_25:=kd 0x52adbe35b8725d87f69b3195f71d051b0858c4fc1a388cc7e4575f8d92bf0be4ed766
@[go_sem] def Q31_26:=k 0x46fb2270819130c3f346b53f7cfeaf4e67046edb63c94bae880ffcf29be89f4980e
@[go_sem] def Q31_27:=k 0x19c8298049d97f22
def Q31_28:TC:=(.seq (.reg Q31_23) (.seq (.cond (.t 88) .skip (.exit 6)) (.seq (.block 7 (.seq (.reg Q31_24) (.seq (.dreg Q31_25) (.reg Q31_26)))) (.reg Q31_27))))
@[go_sem] def Q31_29:=k 0x588ab5f187766244486f87face942ca50a1f73c8e
@[go_sem] def Q31_30:=k 0xc4c4180ca328efb2d92
@[go_sem] def Q31_31:=k 0x752e763a6
@[go_sem] def Q31_32:=k 0xdc3e2b2f1533a4466152
@[go_sem] def Q31_33:=k 0x1964bc248501e12d2437a88ce673794238f1c0f
@[go_sem] def Q31_34:=k 0xb8cbb3405e4f8f
@[go_sem] def Q31_35:=k 0x7f17110827
@[go_sem] def Q31_36:=k 0xd0417afc30e7fabac292b8c45f3
@[go_sem] def Q31_37:=k 0x3056f3aed832359273ccdac60ec35bef495aee95ce64920d865503dfadddda19991c08f
@[go_sem] def Q31_38:=k 0x21886f51c2d89dea23
def Q31_39:TC:=(.seq (.reg Q31_35) (.seq (.cond (.t 133) .skip (.exit 10)) (.seq (.block 11 (.seq (.reg Q31_36) (.reg Q31_37))) (.reg Q31_38))))
@[go_sem] def Q31_40:=k 0x21c2434838469e27a3
def Q31_41:TC:=(.seq (.reg Q31_31) (.seq (.cond (.t 122) .skip (.exit 8)) (.seq (.block 9 (.seq (.reg Q31_32) (.seq (.reg Q31_33) (.seq (.reg Q31_34) (.block 10 (.loop Q31_39)))))) (.reg Q31_40))))
@[go_sem] def Q31_42:=k 0x10f7cffc2394650f
def t_Q31:TF:=⟨148,[.t 2],(.seq (.reg Q31_0) (.seq (.reg Q31_1) (.seq (.seq (.reg Q31_2) (.block 0 (.loop Q31_20))) (.seq (.reg Q31_21) (.seq (.seq (.reg Q31_22) (.block 6 (.loop Q31_28))) (.seq (.reg Q31_29) (.seq (.seq (.reg Q31_30) (.block 8 (.loop Q31_41))) (.seq (.reg Q31_42) .ret))))))))⟩
/-! horarium/sum.Open -/
@[go_sem] def Q32_0:=k 0x6c2fc0
@[go_sem] def Q32_1:=k 0x6158c4389215e4dfb480c
@[go_sem] def Q32_2:=kd 0x1f2be9edf5c67455aae7341680f4cdfe55206c73a4502aa665e9f859cfb892ca1c6b364
@[go_sem] def Q32_3:=k 0x6c2fc0
@[go_sem] def Q32_4:=k 0xacfec76101874222a9123e75d8c
def t_Q32:TF:=⟨26,[.t 2,.t 3],(.seq (.reg Q32_0) (.seq (.reg Q32_1) (.seq (.seq (.dreg Q32_2) (.cond (.t 21) (.seq (.reg Q32_3) .ret) .skip)) (.seq (.reg Q32_4) .ret))))⟩
/-! horarium/image.read -/
@[go_sem] def Q33_0:=k 0x901c
@[go_sem] def Q33_1:=k 0xcd9c
@[go_sem] def Q33_2:=k 0x16e038497858c
@[go_sem] def Q33_3:=k 0x7e80e24
@[go_sem] def Q33_4:=kd 0x32f711a95893fe4859f60e492e2078852ad6e8afb14db5e9a6056bad084
@[go_sem] def Q33_5:=k 0x3fc0d3bfbda20
def Q33_6:TC:=(.seq (.reg Q33_3) (.seq (.cond (.t 9) .skip (.exit 0)) (.seq (.block 1 (.dreg Q33_4)) (.reg Q33_5))))
@[go_sem] def Q33_7:=k 0x1844a711a678c
@[go_sem] def Q33_8:=k 0x13cf3024
@[go_sem] def Q33_9:=k 0x332f5c03963b880e989af2d959e4fb00c999e1d72a62a2645049b5d8c
@[go_sem] def Q33_10:=k 0x1a3d3f4fd44011347e6a8ed9c200fe199bd694908469f870d
@[go_sem] def Q33_11:=k 0x2109c94dee8b07e863a1748c457e9ca2520f5591
@[go_sem] def Q33_12:=k 0xa3b12ceefa06a1
def Q33_13:TC:=(.seq (.reg Q33_8) (.seq (.cond (.t 21) .skip (.exit 2)) (.seq (.block 3 (.seq (.reg Q33_9) (.seq (.reg Q33_10) (.reg Q33_11)))) (.reg Q33_12))))
@[go_sem] def Q33_14:=k 0x18c2eb4762e40d
@[go_sem] def Q33_15:=k 0xb776dca5
@[go_sem] def Q33_16:=k 0x14840
@[go_sem] def Q33_17:=k 0x63f8cc7bda0d
@[go_sem] def Q33_18:=k 0xc71552a5
@[go_sem] def Q33_19:=k 0x280d40ace5c0157d44c0dc466d928025350ab6f55b88e19b138524be1b00d
@[go_sem] def Q33_20:=k 0xeba8df26269721
def Q33_21:TC:=(.seq (.reg Q33_18) (.seq (.cond (.t 52) .skip (.exit 6)) (.seq (.block 7 (.reg Q33_19)) (.reg Q33_20))))
@[go_sem] def Q33_22:=k 0x1a4e3e15f4cb83c1a5422924b0cc2c0b7a68f2bb492
@[go_sem] def Q33_23:=k 0x103eb0ade2cfa5a2
def Q33_24:TC:=(.seq (.reg Q33_15) (.seq (.cond (.t 48) .skip (.exit 4)) (.seq (.block 5 (.seq (.reg Q33_16) (.seq (.seq (.reg Q33_17) (.block 6 (.loop Q33_21))) (.reg Q33_22)))) (.reg Q33_23))))
@[go_sem] def Q33_25:=k 0x12e93406d6346
def t_Q33:TF:=⟨72,[.cell 2 3 true],(.seq (.reg Q33_0) (.seq (.reg Q33_1) (.seq (.seq (.reg Q33_2) (.block 0 (.loop Q33_6))) (.seq (.seq (.reg Q33_7) (.block 2 (.loop Q33_13))) (.seq (.seq (.reg Q33_14) (.block 4 (.loop Q33_24))) (.seq (.reg Q33_25) .ret))))))⟩
/-! horarium/code.Read -/
@[go_sem] def Q34_0:=k 0x9130
@[go_sem] def Q34_1:=k 0x229ab52b8c700d88cd0c
def t_Q34:TF:=⟨6,[.t 2],(.seq (.reg Q34_0) (.seq (.reg Q34_1) .ret))⟩
/-! slices.Equal[[]byte,byte] -/
@[go_sem] def Q35_0:=k 0x10ab8
@[go_sem] def Q35_1:=k 0x5f75aa52ee95ed86043b858c
@[go_sem] def Q35_2:=k 0x10ab8
@[go_sem] def Q35_3:=k 0xbb73b7cb90c
@[go_sem] def Q35_4:=k 0xcddb1a4
@[go_sem] def Q35_5:=k 0x1c0287499f0c
@[go_sem] def Q35_6:=kd 0x469aea2b924e418ac81d20cbcec12176746b06c0971364
@[go_sem] def Q35_7:=k 0x10ab8
@[go_sem] def Q35_8:=k 0x5de1128cbc620
def Q35_9:TC:=(.seq (.reg Q35_4) (.seq (.cond (.t 14) .skip (.exit 0)) (.seq (.block 1 (.seq (.reg Q35_5) (.seq (.dreg Q35_6) (.cond (.t 24) (.seq (.reg Q35_7) .ret) .skip)))) (.reg Q35_8))))
@[go_sem] def Q35_10:=k 0x10b50
def t_Q35:TF:=⟨26,[.t 4],(.seq (.reg Q35_0) (.seq (.seq (.reg Q35_1) (.cond (.t 10) (.seq (.reg Q35_2) .ret) .skip)) (.seq (.seq (.reg Q35_3) (.block 0 (.loop Q35_9))) (.seq (.reg Q35_10) .ret))))⟩
/-! horarium/horariumref12.But -/
@[go_sem] def Q36_0:=k 0x19e9c8828fcc
@[go_sem] def Q36_1:=k 0x1efd2f5019fe33fe4db2cf84dc2748ee51ffde138ba24908466084b7cf66a8f099605d9d11d12310
@[go_sem] def Q36_2:=k 0x10ab8
@[go_sem] def Q36_3:=k 0x2fea9192991d4fb10
@[go_sem] def Q36_4:=k 0x19c2c124
@[go_sem] def Q36_5:=k 0x3404afb0ae8c
@[go_sem] def Q36_6:=kd 0x1efb57ad7f5d0239e14f25ebe60968955154f17e03af3b5c6a8eedede2206d7485
@[go_sem] def Q36_7:=k 0x10ab8
@[go_sem] def Q36_8:=k 0x98f52286094e21
def Q36_9:TC:=(.seq (.reg Q36_4) (.seq (.cond (.t 27) .skip (.exit 0)) (.seq (.block 1 (.seq (.reg Q36_5) (.seq (.dreg Q36_6) (.cond (.t 40) (.seq (.reg Q36_7) .ret) .skip)))) (.reg Q36_8))))
@[go_sem] def Q36_10:=k 0x5eb914497b5200eb91
@[go_sem] def Q36_11:=k 0xafa7a1a5
@[go_sem] def Q36_12:=k 0x2b7dc17473f0d
@[go_sem] def Q36_13:=kd 0xaedfea8e56f77d058f09e16ef553d09236d8c913f594bc8fd480d13069885
@[go_sem] def Q36_14:=k 0x10ab8
@[go_sem] def Q36_15:=k 0xdc89f98f15a121
def Q36_16:TC:=(.seq (.reg Q36_11) (.seq (.cond (.t 46) .skip (.exit 2)) (.seq (.block 3 (.seq (.reg Q36_12) (.seq (.dreg Q36_13) (.cond (.t 58) (.seq (.reg Q36_14) .ret) .skip)))) (.reg Q36_15))))
@[go_sem] def Q36_17:=k 0x10b50
def t_Q36:TF:=⟨60,[.t 4],(.seq (.reg Q36_0) (.seq (.seq (.reg Q36_1) (.cond (.t 22) (.seq (.reg Q36_2) .ret) .skip)) (.seq (.seq (.reg Q36_3) (.block 0 (.loop Q36_9))) (.seq (.seq (.reg Q36_10) (.block 2 (.loop Q36_16))) (.seq (.reg Q36_17) .ret)))))⟩
/-! horarium/cursor.New -/
@[go_sem] def Q37_0:=k 0x9130
@[go_sem] def Q37_1:=k 0x11bf62bef2bb0a8c
@[go_sem] def Q37_2:=k 0x9130
@[go_sem] def Q37_3:=k 0x8476bda85fce2edbd16bc30c
@[go_sem] def Q37_4:=k 0xa36c6fc90c
@[go_sem] def Q37_5:=k 0x1824a43c440c
def t_Q37:TF:=⟨14,[.t 2],(.seq (.reg Q37_0) (.seq (.seq (.reg Q37_1) (.cond (.t 6) (.seq (.reg Q37_2) .ret) .skip)) (.seq (.reg Q37_3) (.seq (.reg Q37_4) (.seq (.reg Q37_5) .ret)))))⟩
/-! (*horarium/cursor.Cursor).Next -/
@[go_sem] def Q38_0:=k 0x6c3008
@[go_sem] def Q38_1:=kd 0x39d94cb7348fa34648c5ae3505ad759a0a8f5632c70d144f64
@[go_sem] def Q38_2:=k 0x5ec009b92c0108
@[go_sem] def Q38_3:=kd 0x2536e7b32aedd6dc1faf6b2bd4d0b83a1b468c8e54644c047aaa0738b7ecc1cc935e5b905a3af09b4f23c16f656a92c631f65ca22a346a5b237d305d4baffb3996680da68dc7b22adbe888ac71365
@[go_sem] def Q38_4:=kd 0x3a2e78bc0739e6f02008f5bc056ac0972a51278bf1e815323a973656365
@[go_sem] def Q38_5:=k 0xc3fd314d00d
@[go_sem] def Q38_6:=k 0xbe0c4fa6bc72cb79
def t_Q38:TF:=⟨56,[.cell 2 2 true,.t 3],(.seq (.reg Q38_0) (.seq (.seq (.dreg Q38_1) (.cond (.t 14) (.seq (.reg Q38_2) .ret) .skip)) (.seq (.dreg Q38_3) (.seq (.dreg Q38_4) (.seq (.reg Q38_5) (.seq (.reg Q38_6) .ret))))))⟩
/-! horarium/runs.Tidy -/
@[go_sem] def Q39_0:=k 0x8fc0
@[go_sem] def Q39_1:=k 0xcd40
@[go_sem] def Q39_2:=k 0xb7c227bc30c
@[go_sem] def Q39_3:=k 0x8e5fba4
@[go_sem] def Q39_4:=k 0x499dfd75463a63981e96c
@[go_sem] def Q39_5:=k 0x3264a09d7014440c
@[go_sem] def Q39_6:=k 0x268c3cc3619b7c73ae15290
@[go_sem] def Q39_7:=kd 0x1aabdc27b9ec35ea7bd6d74a705009e50630e83b8b069586d820ea0231465dda8c62d021cd62f7365
@[go_sem] def Q39_8:=kd 0xb75992b334de0a9aa84f6c2ed95a98106ba4dae82a43e2bcf28f924257a95d0d16c4938b7e2cb493cd6cf65
@[go_sem] def Q39_9:=k 0x1daaf2fe277e2e06e9d42ebf0c
@[go_sem] def Q39_10:=k 0xbce99804b3b521
def Q39_11:TC:=(.seq (.reg Q39_3) (.seq (.cond (.t 10) .skip (.exit 0)) (.seq (.block 1 (.seq (.reg Q39_4) (.seq (.reg Q39_5) (.block 2 (.seq (.reg Q39_6) (.cond (.t 19) .skip (.seq (.dreg Q39_7) (.cond (.t 23) (.dreg Q39_8) (.reg Q39_9))))))))) (.reg Q39_10))))
@[go_sem] def Q39_12:=k 0xbc3e57e8f7e1ab28d
def t_Q39:TF:=⟨54,[.t 2],(.seq (.reg Q39_0) (.seq (.reg Q39_1) (.seq (.seq (.reg Q39_2) (.block 0 (.loop Q39_11))) (.seq (.reg Q39_12) .ret))))⟩
/-! horarium/bound.Late -/
@[go_sem] def Q40_0:=k 0x18598
@[go_sem] def Q40_1:=k 0x1d1545d258de97fbcae7657accf0a504b925af0c
@[go_sem] def Q40_2:=k 0x150853ff3ea40e70752d8c
@[go_sem] def Q40_3:=k 0x18598
@[go_sem] def Q40_4:=k 0x188cbf3a9325c9897dd38c
@[go_sem] def Q40_5:=k 0x18630
@[go_sem] def Q40_6:=k 0x6b83d6935c750c0c
@[go_sem] def Q40_7:=k 0x27b98
@[go_sem] def Q40_8:=k 0x5fcda25b270d
@[go_sem] def Q40_9:=k 0x80cc3fa5
@[go_sem] def Q40_10:=k 0x2ae1f08b83464580d2bdd6d
@[go_sem] def Q40_11:=k 0x14250140e5071cce83eab0f99d9eab0ec0ec17811
@[go_sem] def Q40_12:=k 0xabc00425
@[go_sem] def Q40_13:=k 0x29e73ce9254f21fa1d1
@[go_sem] def Q40_14:=k 0x9a272e57d7ca7b8bbcea0e904f5b59e5810e18b17b942d5c8d
@[go_sem] def Q40_15:=k 0xd166834b3ce8a1
def Q40_16:TC:=(.seq (.reg Q40_12) (.seq (.cond (.t 45) .skip (.exit 3)) (.seq (.block 4 (.seq (.reg Q40_13) (.reg Q40_14))) (.reg Q40_15))))
@[go_sem] def Q40_17:=k 0xd4758e60f52621
def Q40_18:TC:=(.seq (.reg Q40_9) (.seq (.cond (.t 34) .skip (.exit 1)) (.seq (.block 2 (.seq (.reg Q40_10) (.seq (.reg Q40_11) (.block 3 (.loop Q40_16))))) (.reg Q40_17))))
@[go_sem] def Q40_19:=k 0x35a60d52fc38d
def t_Q40:TF:=⟨59,[.t 6],(.seq (.reg Q40_0) (.seq (.reg Q40_1) (.seq (.block 0 (.seq (.reg Q40_2) (.cond (.t 21) (.seq (.reg Q40_3) .ret) (.seq (.reg Q40_4) (.cond (.t 25) (.seq (.reg Q40_5) .ret) .skip))))) (.seq (.reg Q40_6) (.seq (.reg Q40_7) (.seq (.seq (.reg Q40_8) (.block 1 (.loop Q40_18))) (.seq (.reg Q40_19) .ret)))))))⟩
/-! horarium/bound.Budget -/
@[go_sem] def Q41_0:=k 0x18598
@[go_sem] def Q41_1:=k 0x360da60fbeb1718c
@[go_sem] def Q41_2:=k 0x3891965f8f784fd22a134448b00e3bfc1af415824e852452f35594654bd4c8c
@[go_sem] def Q41_3:=k 0x18630
@[go_sem] def Q41_4:=k 0x19cd59c7b76b0bb928ce8c
@[go_sem] def Q41_5:=k 0x39ca1ff8e70c
@[go_sem] def Q41_6:=k 0x27b98
@[go_sem] def Q41_7:=k 0x7368971adfb29848d
@[go_sem] def Q41_8:=k 0x2b918
@[go_sem] def Q41_9:=k 0x616b516c358d
@[go_sem] def Q41_10:=k 0x9c218e25
@[go_sem] def Q41_11:=k 0x2eaa926666ed1c3e8812bed
@[go_sem] def Q41_12:=k 0x7dceeb7d0807c76e14720a950a9192c7f235a8c643c91c41133e02deb85ba75ff7a25ba17969513c68d
@[go_sem] def Q41_13:=k 0xd88e8a3bdd63a1
def Q41_14:TC:=(.seq (.reg Q41_10) (.seq (.cond (.t 41) .skip (.exit 2)) (.seq (.block 3 (.seq (.reg Q41_11) (.reg Q41_12))) (.reg Q41_13))))
@[go_sem] def Q41_15:=k 0xd08c7932e95545f9f20a10d
@[go_sem] def Q41_16:=k 0x7ebeeabed6675f8be2a3d0d
def Q41_17:TC:=(.seq (.seq (.reg Q41_7) (.cond (.t 34) .skip (.exit 0))) (.seq (.block 1 (.seq (.reg Q41_8) (.seq (.seq (.reg Q41_9) (.block 2 (.loop Q41_14))) (.reg Q41_15)))) (.reg Q41_16)))
@[go_sem] def Q41_18:=k 0x39579d521598d
def t_Q41:TF:=⟨63,[.t 6],(.seq (.reg Q41_0) (.seq (.reg Q41_1) (.seq (.seq (.reg Q41_2) (.cond (.t 27) (.seq (.reg Q41_3) .ret) .skip)) (.seq (.reg Q41_4) (.seq (.reg Q41_5) (.seq (.seq (.reg Q41_6) (.block 0 (.loop Q41_17))) (.seq (.reg Q41_18) .ret)))))))⟩
/-! horarium/node.Length -/
@[go_sem] def Q42_0:=k 0xd748f98
@[go_sem] def Q42_1:=k 0xc6ede7fd99858c
@[go_sem] def Q42_2:=k 0xd748f98
@[go_sem] def Q42_3:=k 0x9d6210c5188ddd1a18fa8e88e5aa6a67b8c
@[go_sem] def Q42_4:=k 0xcf1fbbe18c
@[go_sem] def Q42_5:=k 0xc1ec2fc4c5c8c
@[go_sem] def Q42_6:=k 0xd748f98
def t_Q42:TF:=⟨17,[.t 2,.t 3],(.seq (.reg Q42_0) (.seq (.seq (.reg Q42_1) (.cond (.t 8) (.seq (.reg Q42_2) .ret) .skip)) (.seq (.seq (.reg Q42_3) (.seq (.reg Q42_4) (.cond (.t 15) (.seq (.reg Q42_5) .ret) .skip))) (.seq (.reg Q42_6) .ret))))⟩
/-! horarium/node.whole -/
@[go_sem] def Q43_0:=k 0x8fb8
@[go_sem] def Q43_1:=k 0x3e4f101c14da788f6d5f9b4efcef5c9c3973d6ec85b94e4d897acd0c
def t_Q43:TF:=⟨13,[.t 2],(.seq (.reg Q43_0) (.seq (.reg Q43_1) .ret))⟩
/-! horarium/node.Depth -/
@[go_sem] def Q44_0:=k 0x8f98
@[go_sem] def Q44_1:=k 0xaa88d63759480c
@[go_sem] def Q44_2:=k 0x8f98
@[go_sem] def Q44_3:=k 0x9147024d41f21ae33e219f708e8e0663e0c
@[go_sem] def Q44_4:=k 0x1824a43c440c
def t_Q44:TF:=⟨14,[.t 2],(.seq (.reg Q44_0) (.seq (.seq (.reg Q44_1) (.cond (.t 7) (.seq (.reg Q44_2) .ret) .skip)) (.seq (.reg Q44_3) (.seq (.reg Q44_4) .ret))))⟩
/-! horarium/horariumref3.Depth -/
@[go_sem] def Q45_0:=k 0x8f98
@[go_sem] def Q45_1:=k 0x88495c0e215588814ef99fd510aaf7f63192393bd5b97acd0c
@[go_sem] def Q45_2:=k 0x8f98
@[go_sem] def Q45_3:=k 0x63e61922e1653340c
def t_Q45:TF:=⟨15,[.t 2],(.seq (.reg Q45_0) (.seq (.seq (.reg Q45_1) (.cond (.t 12) (.seq (.reg Q45_2) .ret) .skip)) (.seq (.reg Q45_3) .ret)))⟩
/-! horarium/horariumref3.Length -/
@[go_sem] def Q46_0:=k 0xd748f98
@[go_sem] def Q46_1:=k 0x154bd8b3a04f480c
@[go_sem] def Q46_2:=k 0xd748f98
@[go_sem] def Q46_3:=k 0x40d968db22f48008c
@[go_sem] def Q46_4:=k 0x944fbb3b8c
@[go_sem] def Q46_5:=k 0xd748f98
@[go_sem] def Q46_6:=k 0xc175fdc43b68c
def t_Q46:TF:=⟨13,[.t 2,.t 3],(.seq (.reg Q46_0) (.seq (.seq (.reg Q46_1) (.cond (.t 7) (.seq (.reg Q46_2) .ret) .skip)) (.seq (.reg Q46_3) (.seq (.seq (.reg Q46_4) (.cond (.t 11) (.seq (.reg Q46_5) .ret) .skip)) (.seq (.reg Q46_6) .ret)))))⟩
/-! horarium/horariumref3.leaves -/
@[go_sem] def Q47_0:=k 0x185c0
@[go_sem] def Q47_1:=k 0x154e34cda547acfea5a9247b8c
@[go_sem] def Q47_2:=k 0x3cde1b9bf9cb0
@[go_sem] def Q47_3:=kd 0x22f04b31a378adcbfa343aba974943a3cc1b609b8d8e07c5c5fc6719278c132382865591c8a98df64
@[go_sem] def Q47_4:=k 0x7800f197f684b1
@[go_sem] def Q47_5:=k 0x6e5e27e8d77a8937392d4b70c6b91f9580994e0f8bc6acbaec20d
@[go_sem] def Q47_6:=k 0xa144a65817e931
@[go_sem] def Q47_7:=k 0x1c318
@[go_sem] def Q47_8:=k 0x877a8be6446c1bfacf1ed3a5df7c6acbfe468d
@[go_sem] def Q47_9:=k 0xb3a1c56a901a5c484a8012562852494d00d
@[go_sem] def Q47_10:=k 0x2e3e2d03269f837f50d
def Q47_11:TC:=(.seq (.seq (.reg Q47_8) (.cond (.t 50) .skip (.exit 1))) (.seq (.block 2 (.reg Q47_9)) (.reg Q47_10)))
@[go_sem] def Q47_12:=k 0x35a60d4b4c38d
@[go_sem] def Q47_13:=k 0x17b7083742dbe972496410d
@[go_sem] def Q47_14:=k 0x3d021f4a6
@[go_sem] def Q47_15:=k 0x7541cdb2cddc2180f252
@[go_sem] def Q47_16:=k 0xe57b276a3a56f0daf40ec65b2302d0e
@[go_sem] def Q47_17:=k 0x10812cced8cfe322
def Q47_18:TC:=(.seq (.reg Q47_14) (.seq (.cond (.t 64) .skip (.exit 3)) (.seq (.block 4 (.seq (.reg Q47_15) (.reg Q47_16))) (.reg Q47_17))))
@[go_sem] def Q47_19:=k 0x2143e9526ee08e
def t_Q47:TF:=⟨73,[.t 6],(.seq (.reg Q47_0) (.seq (.seq (.reg Q47_1) (.block 0 (.seq (.reg Q47_2) (.cond (.t 15) (.seq (.dreg Q47_3) .ret) (.seq (.reg Q47_4) (.cond (.t 31) (.seq (.reg Q47_5) .ret) (.seq (.reg Q47_6) (.cond (.t 42) (.seq (.seq (.reg Q47_7) (.block 1 (.loop Q47_11))) (.seq (.reg Q47_12) .ret)) .skip)))))))) (.seq (.seq (.reg Q47_13) (.block 3 (.loop Q47_18))) (.seq (.reg Q47_19) .ret))))⟩
/-! horarium/horariumref7.words -/
@[go_sem] def Q48_0:=k 0x8fc0
@[go_sem] def Q48_1:=k 0xcd40
@[go_sem] def Q48_2:=k 0xb7c227bc30c
@[go_sem] def Q48_3:=k 0x8e5fba4
@[go_sem] def Q48_4:=k 0x499dfd75463a63981e96c
@[go_sem] def Q48_5:=k 0x18598
@[go_sem] def Q48_6:=k 0x628267d0a4863816be06d4ed4fb2bb105dadfab49540c
@[go_sem] def Q48_7:=k 0xb10621386b9114b8a789526e334e88c
@[go_sem] def Q48_8:=k 0xa4ac8905afe237d8c
def Q48_9:TC:=(.seq (.seq (.reg Q48_6) (.cond (.t 21) .skip (.exit 2))) (.seq (.block 3 (.reg Q48_7)) (.reg Q48_8)))
@[go_sem] def Q48_10:=k 0x6c31204f4bc20
def Q48_11:TC:=(.seq (.reg Q48_3) (.seq (.cond (.t 10) .skip (.exit 0)) (.seq (.block 1 (.seq (.reg Q48_4) (.seq (.reg Q48_5) (.block 2 (.loop Q48_9))))) (.reg Q48_10))))
@[go_sem] def Q48_12:=k 0x3789ec40598c
def t_Q48:TF:=⟨31,[.t 2],(.seq (.reg Q48_0) (.seq (.reg Q48_1) (.seq (.seq (.reg Q48_2) (.block 0 (.loop Q48_11))) (.seq (.reg Q48_12) .ret))))⟩
/-! horarium/horariumref12.Where -/
@[go_sem] def Q49_0:=k 0xb14b5c4524c
@[go_sem] def Q49_1:=k 0x32ab51884051abcb5806087fc44c9608ce34cf93629c49d4e1a66417f4ccad243ec8bd0d7500527a65658c250e08b44986fdc6c08b05e1cd6095144440447c790406e3d8cf40a2bad58ce134c91
@[go_sem] def Q49_2:=k 0x5db9f98
@[go_sem] def Q49_3:=k 0x5f2aa87307ce1a0691
@[go_sem] def Q49_4:=k 0xb776dca5
@[go_sem] def Q49_5:=k 0x492949f84db8c1aad38e57153739e7a0d
@[go_sem] def Q49_6:=k 0x2e0c9ecc7b8809ce597291
@[go_sem] def Q49_7:=k 0xc6c3d42d7bc5b088d
@[go_sem] def Q49_8:=k 0x18598
@[go_sem] def Q49_9:=k 0xcd872f154aff2060d
@[go_sem] def Q49_10:=kd 0x3c74f574aeea762f3ea50ac253331fa499aae873b4b76d1fba95c086
@[go_sem] def Q49_11:=k 0xfc0132da15f0cc230e
@[go_sem] def Q49_12:=k 0x36370943162382abe8d
def Q49_13:TC:=(.seq (.seq (.reg Q49_9) (.cond (.t 59) .skip (.exit 2))) (.seq (.block 3 (.seq (.dreg Q49_10) (.cond (.t 70) (.seq (.reg Q49_11) .ret) .skip))) (.reg Q49_12)))
@[go_sem] def Q49_14:=k 0x2063e57c9528b212a
@[go_sem] def Q49_15:=k 0x10a33b4d047f0cd190e
@[go_sem] def Q49_16:=k 0x11a146ade2d116a2
def Q49_17:TC:=(.seq (.reg Q49_4) (.seq (.cond (.t 48) .skip (.exit 0)) (.seq (.block 1 (.seq (.reg Q49_5) (.seq (.seq (.reg Q49_6) (.cond (.t 55) (.seq (.reg Q49_7) .ret) .skip)) (.seq (.seq (.reg Q49_8) (.block 2 (.loop Q49_13))) (.seq (.reg Q49_14) (.cond (.t 74) (.seq (.reg Q49_15) .ret) .skip)))))) (.reg Q49_16))))
@[go_sem] def Q49_18:=k 0xbbabbbe7c307f915412
@[go_sem] def Q49_19:=k 0x4d790ca26
@[go_sem] def Q49_20:=k 0xda3b4bc012cbc19953c5470a01d732fc78e
@[go_sem] def Q49_21:=k 0x1185146e03f9278eb783e57bdeca28a80ae
@[go_sem] def Q49_22:=k 0x142fdbb4679f12d310e
@[go_sem] def Q49_23:=k 0x15621321de34eea2
def Q49_24:TC:=(.seq (.reg Q49_19) (.seq (.cond (.t 81) .skip (.exit 4)) (.seq (.block 5 (.seq (.reg Q49_20) (.seq (.reg Q49_21) (.cond (.t 90) (.seq (.reg Q49_22) .ret) .skip)))) (.reg Q49_23))))
@[go_sem] def Q49_25:=k 0xbf385cbdf508ef52c12
@[go_sem] def Q49_26:=k 0x5cf80a226
@[go_sem] def Q49_27:=k 0x28f7ee6a1c55673be85c02bf1f9f8e
@[go_sem] def Q49_28:=k 0x4f71945b437827c1344f3bc53ae5caccbacac158e
@[go_sem] def Q49_29:=k 0x30f0b61baa8b8e
@[go_sem] def Q49_30:=k 0xb9e23028eca2ca5b3ab068e
@[go_sem] def Q49_31:=k 0x32abf650cc18e
@[go_sem] def Q49_32:=k 0x6c7707a26
@[go_sem] def Q49_33:=k 0xcb53b0b00f83553148cf77ee
@[go_sem] def Q49_34:=k 0xb9b7b4d9533be41eaf6205c252ce71ca7292
@[go_sem] def Q49_35:=k 0x1b105267047f172238e
@[go_sem] def Q49_36:=k 0x1c98e063ca3c6122
def Q49_37:TC:=(.seq (.reg Q49_32) (.seq (.cond (.t 113) .skip (.exit 8)) (.seq (.block 9 (.seq (.reg Q49_33) (.seq (.reg Q49_34) (.cond (.t 121) (.seq (.reg Q49_35) .ret) .skip)))) (.reg Q49_36))))
@[go_sem] def Q49_38:=k 0x6b89d8f04ba08e3b67a5c9ec6
@[go_sem] def Q49_39:=k 0xea8b3a1a953970f
@[go_sem] def Q49_40:=k 0x376c8160b334c99a7b2954120f
@[go_sem] def Q49_41:=k 0x1e48e98fa0409a8d23
def Q49_42:TC:=(.seq (.reg Q49_26) (.seq (.cond (.t 97) .skip (.exit 6)) (.seq (.block 7 (.seq (.reg Q49_27) (.seq (.reg Q49_28) (.seq (.seq (.reg Q49_29) (.cond (.t 107) (.seq (.reg Q49_30) .ret) .skip)) (.seq (.seq (.reg Q49_31) (.block 8 (.loop Q49_37))) (.seq (.reg Q49_38) (.seq (.reg Q49_39) (.cond (.t 128) (.seq (.reg Q49_40) .ret) .skip)))))))) (.reg Q49_41))))
@[go_sem] def Q49_43:=k 0x2a488f98
def t_Q49:TF:=⟨132,[.t 2,.t 3],(.seq (.reg Q49_0) (.seq (.seq (.reg Q49_1) (.cond (.t 43) (.seq (.reg Q49_2) .ret) .skip)) (.seq (.seq (.reg Q49_3) (.block 0 (.loop Q49_17))) (.seq (.seq (.reg Q49_18) (.block 4 (.loop Q49_24))) (.seq (.seq (.reg Q49_25) (.block 6 (.loop Q49_42))) (.seq (.reg Q49_43) .ret))))))⟩
/-! horarium/horariumref1.Next -/
@[go_sem] def Q50_0:=k 0x10bc4
@[go_sem] def Q50_1:=k 0x22ad30f0d368cea8f02b226123c30c
@[go_sem] def Q50_2:=k 0x14818
@[go_sem] def Q50_3:=k 0x169fa093668c
@[go_sem] def Q50_4:=k 0x3d0a81ea4fffec8c
@[go_sem] def Q50_5:=k 0x437964b5dd76678c
@[go_sem] def Q50_6:=k 0x1287333028c
@[go_sem] def Q50_7:=k 0x51abe671587b5d8c
@[go_sem] def Q50_8:=k 0x6ba9b8134be19e18c
def Q50_9:TC:=(.seq (.seq (.reg Q50_3) (.cond (.t 13) .skip (.exit 0))) (.seq (.block 1 (.seq (.reg Q50_4) (.seq (.reg Q50_5) (.seq (.reg Q50_6) (.cond (.t 21) (.reg Q50_7) .skip))))) (.reg Q50_8)))
@[go_sem] def Q50_10:=k 0x2c92c8a7d88c
def t_Q50:TF:=⟨25,[.t 4],(.seq (.reg Q50_0) (.seq (.reg Q50_1) (.seq (.seq (.reg Q50_2) (.block 0 (.loop Q50_9))) (.seq (.reg Q50_10) .ret))))⟩
/-! horarium/config.Where -/
@[go_sem] def Q51_0:=k 0xb14b5c4524c
@[go_sem] def Q51_1:=k 0x2c0353cad6417e87765c63d70c69ac8d009eff8f7f72d82515c50d0fc17caf5531330a9bedffc305ea01704409d6816b8ab5e4d9199ff6f211ad22eef49517ffbccb2a4c36a1a3945798e121911
@[go_sem] def Q51_2:=k 0x5db9f98
@[go_sem] def Q51_3:=k 0x5e0eb60b288e18d311
@[go_sem] def Q51_4:=k 0xa3f0c925
@[go_sem] def Q51_5:=k 0x482d558db3ce62bcc1cf3084cb650668d
@[go_sem] def Q51_6:=k 0x80ac8e40a971851038092f001a7fce21311aabdd5d17ef46b594f498a8e583f11
@[go_sem] def Q51_7:=k 0xd169b54d7bc5bc10d
@[go_sem] def Q51_8:=k 0x3621ef658b6b5f29
@[go_sem] def Q51_9:=k 0xdf9c37b9dfc5cb70d
@[go_sem] def Q51_10:=k 0xed9cbb395ee34a2
def Q51_11:TC:=(.seq (.reg Q51_4) (.seq (.cond (.t 43) .skip (.exit 0)) (.seq (.block 1 (.seq (.reg Q51_5) (.seq (.seq (.reg Q51_6) (.cond (.t 58) (.seq (.reg Q51_7) .ret) .skip)) (.seq (.reg Q51_8) (.cond (.t 62) (.seq (.reg Q51_9) .ret) .skip))))) (.reg Q51_10))))
@[go_sem] def Q51_12:=k 0xb90243471d87f8e7212
@[go_sem] def Q51_13:=k 0x41d9ce826
@[go_sem] def Q51_14:=k 0xbeac96f3e63e39442a0dae68ab0c1bbe58e
@[go_sem] def Q51_15:=k 0x7fe91c891d18b5751505e46
@[go_sem] def Q51_16:=k 0x1114cf60679f10b140e
@[go_sem] def Q51_17:=k 0x12212ac925b191a2
def Q51_18:TC:=(.seq (.reg Q51_13) (.seq (.cond (.t 69) .skip (.exit 2)) (.seq (.block 3 (.seq (.reg Q51_14) (.seq (.reg Q51_15) (.cond (.t 76) (.seq (.reg Q51_16) .ret) .skip)))) (.reg Q51_17))))
@[go_sem] def Q51_19:=k 0xbc1d50028948ef1cf12
@[go_sem] def Q51_20:=k 0x4f68ec526
@[go_sem] def Q51_21:=k 0x233ba1ce7ff5f6a91c9859456dc28e
@[go_sem] def Q51_22:=k 0x4bf4d68d6f638cddfb253bb46
@[go_sem] def Q51_23:=k 0x298d961b69338e
@[go_sem] def Q51_24:=k 0x9e991bba4c42bb94f69ae8e
@[go_sem] def Q51_25:=k 0x15d93185fcf569a2
def Q51_26:TC:=(.seq (.reg Q51_20) (.seq (.cond (.t 83) .skip (.exit 4)) (.seq (.block 5 (.seq (.reg Q51_21) (.seq (.reg Q51_22) (.seq (.reg Q51_23) (.cond (.t 91) (.seq (.reg Q51_24) .ret) .skip))))) (.reg Q51_25))))
@[go_sem] def Q51_27:=k 0x2a488f98
def t_Q51:TF:=⟨95,[.t 2,.t 3],(.seq (.reg Q51_0) (.seq (.seq (.reg Q51_1) (.cond (.t 38) (.seq (.reg Q51_2) .ret) .skip)) (.seq (.seq (.reg Q51_3) (.block 0 (.loop Q51_11))) (.seq (.seq (.reg Q51_12) (.block 2 (.loop Q51_18))) (.seq (.seq (.reg Q51_19) (.block 4 (.loop Q51_26))) (.seq (.reg Q51_27) .ret))))))⟩
/-! slices.Concat[[]byte,byte] -/
@[go_sem] def Q52_0:=k 0x8fc0
@[go_sem] def Q52_1:=k 0xcd18
@[go_sem] def Q52_2:=k 0xb99aefc3e0c
@[go_sem] def Q52_3:=k 0xae1d6a4
@[go_sem] def Q52_4:=k 0x64907734dcabdc450
@[go_sem] def Q52_5:=k 0x1daaf2fe271acc2b275a3cbf0c
@[go_sem] def Q52_6:=k 0x2316e685b50c
@[go_sem] def Q52_7:=k 0x53806424
@[go_sem] def Q52_8:=k 0x5291496df0da0
def Q52_9:TC:=(.seq (.reg Q52_3) (.seq (.cond (.t 12) .skip (.exit 0)) (.seq (.block 1 (.seq (.reg Q52_4) (.seq (.reg Q52_5) (.seq (.reg Q52_6) (.cond (.t 20) (.reg Q52_7) .skip))))) (.reg Q52_8))))
@[go_sem] def Q52_10:=k 0x55e2e4f22778ab0c
@[go_sem] def Q52_11:=k 0xc861300160c
@[go_sem] def Q52_12:=k 0x1ac0aea4
@[go_sem] def Q52_13:=k 0xd6cee31fa5a9c9c50
@[go_sem] def Q52_14:=k 0x70e3d01da72e67853ebc70d
@[go_sem] def Q52_15:=k 0x7f28f8c9df9fa1
def Q52_16:TC:=(.seq (.reg Q52_12) (.seq (.cond (.t 28) .skip (.exit 2)) (.seq (.block 3 (.seq (.reg Q52_13) (.reg Q52_14))) (.reg Q52_15))))
@[go_sem] def Q52_17:=k 0x205a4b0ecbd0d
def t_Q52:TF:=⟨36,[.t 2],(.seq (.reg Q52_0) (.seq (.reg Q52_1) (.seq (.seq (.reg Q52_2) (.block 0 (.loop Q52_9))) (.seq (.reg Q52_10) (.seq (.seq (.reg Q52_11) (.block 2 (.loop Q52_16))) (.seq (.reg Q52_17) .ret))))))⟩
/-! horarium/sum.tail -/
@[go_sem] def Q53_0:=k 0x8fc0
@[go_sem] def Q53_1:=k 0x431143ab3736fe9295458b885a878006b386c87f29e08a5177d73a34cacd0c
def t_Q53:TF:=⟨15,[.t 2],(.seq (.reg Q53_0) (.seq (.reg Q53_1) .ret))⟩
/-! horarium/sum.Of -/
@[go_sem] def Q54_0:=k 0x90c4
@[go_sem] def Q54_1:=k 0xcf38
@[go_sem] def Q54_2:=k 0xb6d5c3b858c
@[go_sem] def Q54_3:=k 0x7e80e24
@[go_sem] def Q54_4:=k 0x4f44b49c36fc3fbd0
@[go_sem] def Q54_5:=k 0xc06b5c70db7097a3c068c
@[go_sem] def Q54_6:=k 0x385db3bfb5f20
def Q54_7:TC:=(.seq (.reg Q54_3) (.seq (.cond (.t 9) .skip (.exit 0)) (.seq (.block 1 (.seq (.reg Q54_4) (.reg Q54_5))) (.reg Q54_6))))
@[go_sem] def Q54_8:=k 0x3c98edde4584fc8c
def t_Q54:TF:=⟨18,[.t 2],(.seq (.reg Q54_0) (.seq (.reg Q54_1) (.seq (.seq (.reg Q54_2) (.block 0 (.loop Q54_7))) (.seq (.reg Q54_8) .ret))))⟩
/-! horarium/image.nums -/
@[go_sem] def Q55_0:=k 0x10ac0
@[go_sem] def Q55_1:=k 0xb7c2283730c
@[go_sem] def Q55_2:=k 0x8e5fba4
@[go_sem] def Q55_3:=k 0x5696bf7fc38c1e950
@[go_sem] def Q55_4:=k 0xccc87851c71555065340c
@[go_sem] def Q55_5:=k 0x3c2cd04f19ca0
def Q55_6:TC:=(.seq (.reg Q55_2) (.seq (.cond (.t 10) .skip (.exit 0)) (.seq (.block 1 (.seq (.reg Q55_3) (.reg Q55_4))) (.reg Q55_5))))
@[go_sem] def Q55_7:=k 0x1fa550a62a0c
def t_Q55:TF:=⟨18,[.t 4],(.seq (.reg Q55_0) (.seq (.seq (.reg Q55_1) (.block 0 (.loop Q55_6))) (.seq (.reg Q55_7) .ret)))⟩
/-! horarium/code.Text -/
@[go_sem] def Q56_0:=k 0x10ac0
@[go_sem] def Q56_1:=k 0x10312259e1e520c22642ec782d20095a0123480c
def t_Q56:TF:=⟨12,[.t 4],(.seq (.reg Q56_0) (.seq (.reg Q56_1) .ret))⟩
/-! horarium/code.Flag -/
@[go_sem] def Q57_0:=k 0x10ac0
@[go_sem] def Q57_1:=k 0x8f80c
@[go_sem] def Q57_2:=k 0x32a6e720f0e15858c
@[go_sem] def Q57_3:=k 0x40d968db1d7d6008c
def t_Q57:TF:=⟨10,[.t 4],(.seq (.reg Q57_0) (.seq (.seq (.reg Q57_1) (.cond (.t 5) (.seq (.reg Q57_2) .ret) .skip)) (.seq (.reg Q57_3) .ret)))⟩
/-! slices.Clone[[]byte,byte] -/
@[go_sem] def Q58_0:=k 0x8fc0
@[go_sem] def Q58_1:=k 0x2cd666cd0c
@[go_sem] def Q58_2:=k 0x8fc0
@[go_sem] def Q58_3:=k 0x303f3dbe23c72f985970
def t_Q58:TF:=⟨8,[.t 2],(.seq (.reg Q58_0) (.seq (.seq (.reg Q58_1) (.cond (.t 4) (.seq (.reg Q58_2) .ret) .skip)) (.seq (.reg Q58_3) .ret)))⟩
/-! (*horarium/code.Reader).Count -/
@[go_sem] def Q59_0:=k 0x10a98
@[go_sem] def Q59_1:=k 0x196fd893449d858c
@[go_sem] def Q59_2:=k 0xfbf318626f736e06002e1cc447714e92708c
@[go_sem] def Q59_3:=k 0x78b54e7bd0d0ca41af0c
@[go_sem] def Q59_4:=k 0x10a98
@[go_sem] def Q59_5:=k 0x217e18ccd78c
def t_Q59:TF:=⟨19,[.t 4],(.seq (.reg Q59_0) (.seq (.reg Q59_1) (.seq (.seq (.reg Q59_2) (.cond (.t 14) (.seq (.reg Q59_3) (.seq (.reg Q59_4) .ret)) .skip)) (.seq (.reg Q59_5) .ret))))⟩
/-! horarium/image.part -/
@[go_sem] def Q60_0:=k 0x905c
@[go_sem] def Q60_1:=k 0x42879d13339c2cce8246c3c2605ce3b5c53ba13e320214adc787b339357f480c
@[go_sem] def Q60_2:=k 0x1804f01d9ec8c
@[go_sem] def Q60_3:=k 0x11d35524
@[go_sem] def Q60_4:=kd 0x205586cf30c45ad171a1d5e0c81ee08f62b834c7b57a27036ba228cbe0e3dc66b48b8ae43e901bec884
@[go_sem] def Q60_5:=k 0x70eca159af9a0
def Q60_6:TC:=(.seq (.reg Q60_3) (.seq (.cond (.t 19) .skip (.exit 0)) (.seq (.block 1 (.dreg Q60_4)) (.reg Q60_5))))
@[go_sem] def Q60_7:=k 0x78718
@[go_sem] def Q60_8:=k 0x777ca4bd
@[go_sem] def Q60_9:=k 0x1e88e646ca20d
@[go_sem] def Q60_10:=k 0x797b8d05d9273f4df2bbc9df6224bcdbf8d
@[go_sem] def Q60_11:=k 0x91dbe1d940d321
def Q60_12:TC:=(.seq (.reg Q60_8) (.seq (.cond (.t 32) .skip (.exit 2)) (.seq (.block 3 (.seq (.reg Q60_9) (.reg Q60_10))) (.reg Q60_11))))
@[go_sem] def Q60_13:=k 0x26f0a577d129
def t_Q60:TF:=⟨41,[.cell 2 11 true],(.seq (.reg Q60_0) (.seq (.reg Q60_1) (.seq (.seq (.reg Q60_2) (.block 0 (.loop Q60_6))) (.seq (.seq (.reg Q60_7) (.block 2 (.loop Q60_12))) (.seq (.reg Q60_13) .ret)))))⟩
/-! (*horarium/code.Reader).Flag -/
@[go_sem] def Q61_0:=k 0x8fb8
@[go_sem] def Q61_1:=k 0x8a6ad4b1341b254d56cd0c
def t_Q61:TF:=⟨6,[.t 2],(.seq (.reg Q61_0) (.seq (.reg Q61_1) .ret))⟩
/-! (*horarium/code.Reader).Num -/
@[go_sem] def Q62_0:=k 0x8f98
@[go_sem] def Q62_1:=k 0x80e8b7c1857d6ddc1db6cb32c664343d9c35f06d0d1ff858c
@[go_sem] def Q62_2:=k 0x332a801a156b43c1ee819ef53717deaad3dc1340c
@[go_sem] def Q62_3:=k 0xa1a2e8792f3b6fc3200c
@[go_sem] def Q62_4:=k 0x8f98
@[go_sem] def Q62_5:=k 0x5738613201cd6d729fe989d584d16184f206bc43642694b8dd88d
@[go_sem] def Q62_6:=k 0x1e81830be220d
def t_Q62:TF:=⟨34,[.t 2],(.seq (.reg Q62_0) (.seq (.reg Q62_1) (.seq (.seq (.reg Q62_2) (.cond (.t 20) (.seq (.reg Q62_3) (.seq (.reg Q62_4) .ret)) .skip)) (.seq (.reg Q62_5) (.seq (.reg Q62_6) .ret)))))⟩
/-! horarium/horariumref12.sameParts -/
@[go_sem] def Q63_0:=k 0x19e9c8828fcc
@[go_sem] def Q63_1:=k 0x1a95a43b875189e2b59b233330347a77e4ebff830092d4912405bdf339c69884757cf3fd50e7ebb6d555b4dd5b207499ef1f311af778c11f0b694ddf2ac2d1ad5a2bbb6dc8de7cbab232f5fcd497a43856d666da7527501e9b43d86401e90a22466fb36b6654adb2164e8d1868f4c795b5028282093ecc19390300da7ac35ff3ec4d30ea4e204591
@[go_sem] def Q63_2:=k 0x10ab8
@[go_sem] def Q63_3:=k 0x619b57578ca1640b11
@[go_sem] def Q63_4:=k 0xe26aa125
@[go_sem] def Q63_5:=k 0x377b23f123e8d
@[go_sem] def Q63_6:=kd 0xd8b7f116b9fa9308a349eec25655a37299a2b4c0052618e565724fd7260acf486
@[go_sem] def Q63_7:=k 0x10ab8
@[go_sem] def Q63_8:=k 0x10b9f6d48bf020a2
def Q63_9:TC:=(.seq (.reg Q63_4) (.seq (.cond (.t 59) .skip (.exit 0)) (.seq (.block 1 (.seq (.reg Q63_5) (.seq (.dreg Q63_6) (.cond (.t 71) (.seq (.reg Q63_7) .ret) .skip)))) (.reg Q63_8))))
@[go_sem] def Q63_10:=k 0x10b50
def t_Q63:TF:=⟨73,[.t 4],(.seq (.reg Q63_0) (.seq (.seq (.reg Q63_1) (.cond (.t 54) (.seq (.reg Q63_2) .ret) .skip)) (.seq (.seq (.reg Q63_3) (.block 0 (.loop Q63_9))) (.seq (.reg Q63_10) .ret))))⟩
/-! (*horarium/cursor.Cursor).Reset -/
@[go_sem] def Q64_0:=k 0x31b34e4f4463637ced8d80011a7693b091e76806893b0b9b26a5ae28f8c
@[go_sem] def Q64_1:=k 0x1451a13ab90c
def t_Q64:TF:=⟨13,[],(.seq (.reg Q64_0) (.reg Q64_1))⟩
/-! horarium/cursor.part -/
@[go_sem] def Q65_0:=k 0x5c4524c
@[go_sem] def Q65_1:=k 0x1cd6c3b76f1c87d10
@[go_sem] def Q65_2:=k 0x9030
@[go_sem] def Q65_3:=k 0x3235531404abf3590
def t_Q65:TF:=⟨8,[.t 2],(.seq (.reg Q65_0) (.seq (.seq (.reg Q65_1) (.cond (.t 5) (.seq (.reg Q65_2) .ret) .skip)) (.seq (.reg Q65_3) .ret)))⟩
/-! (*horarium/cursor.Cursor).step -/
@[go_sem] def Q66_0:=k 0x32d9a6d678f3b5be75e7d6d457f0a8c
@[go_sem] def Q66_1:=k 0x965c986fc2f2624c03e0c
@[go_sem] def Q66_2:=k 0x32642d07d70cc6f369059b7780f68c
@[go_sem] def Q66_3:=kd 0xb294e44fcb90525e92a03a2f13791093c85586ac86788293027d52b14ab64
@[go_sem] def Q66_4:=k 0x6750f8aba12bdadb5f0ee3a7d6fa3ee07a9b072d2c0d
@[go_sem] def Q66_5:=k 0x1ff486e6a3923a8694e0b62eda8d
@[go_sem] def Q66_6:=kd 0x288ee29a025bb26352223e528190ba9de3e3e760ae3b0757e1c75164415a78ff65
@[go_sem] def Q66_7:=k 0x2ce8715c65737a530fd0e23c655f32f00d
@[go_sem] def Q66_8:=k 0xd122f96817d96038d
@[go_sem] def Q66_9:=kd 0x86abeb35f360aed67a2c77ae25796a8d83e0a9e82b04c29587fd8328c71c564023b9e983b884450b2be0ef66
def Q66_10:TC:=(.seq (.seq (.reg Q66_2) (.cond (.t 17) .skip (.exit 0))) (.block 1 (.seq (.dreg Q66_3) (.seq (.seq (.reg Q66_4) (.seq (.reg Q66_5) (.cond (.t 40) (.seq (.seq (.dreg Q66_6) (.cond (.t 52) (.reg Q66_7) .skip)) (.seq (.reg Q66_8) .ret)) .skip))) (.dreg Q66_9)))))
@[go_sem] def Q66_11:=k 0xe6eaab7bd17cff4d18b89e83f3d5413f7975fab98a2e32190e
def t_Q66:TF:=⟨83,[],(.seq (.reg Q66_0) (.seq (.reg Q66_1) (.seq (.block 0 (.loop Q66_10)) (.reg Q66_11))))⟩
/-! horarium/runs.Add -/
@[go_sem] def Q67_0:=k 0x10a98
@[go_sem] def Q67_1:=k 0x3265568b56710ba064a05f549eb480c
@[go_sem] def Q67_2:=k 0x3fbd870f13e899243e0c
@[go_sem] def Q67_3:=k 0x10cac
@[go_sem] def Q67_4:=k 0xce7d095fd7f1d1925340c
def t_Q67:TF:=⟨16,[.t 4],(.seq (.reg Q67_0) (.seq (.reg Q67_1) (.seq (.seq (.reg Q67_2) (.cond (.t 12) (.seq (.reg Q67_3) .ret) .skip)) (.seq (.reg Q67_4) .ret))))⟩
/-! slices.Clip[[]horarium/api.Run,horarium/api.Run] -/
@[go_sem] def Q68_0:=k 0x8fc0
@[go_sem] def Q68_1:=k 0x61ba4be14511b3d11f47ec302197ae2cd0c
def t_Q68:TF:=⟨9,[.t 2],(.seq (.reg Q68_0) (.seq (.reg Q68_1) .ret))⟩
/-! horarium/bound.spans -/
@[go_sem] def Q69_0:=k 0x10ac0
@[go_sem] def Q69_1:=k 0x14840
@[go_sem] def Q69_2:=k 0x18598
@[go_sem] def Q69_3:=k 0xba8753c7b8c
@[go_sem] def Q69_4:=k 0xbdfc424
@[go_sem] def Q69_5:=k 0x73d3043d3ca50947bb1ec
@[go_sem] def Q69_6:=k 0x3f3a3e16deb7b59ec2bfe0a0c8c
@[go_sem] def Q69_7:=k 0x115b65677334769ae176c850df08b3f451e329b3a026290
@[go_sem] def Q69_8:=k 0x672656a82eed1831941df37493dc8d61dbec0d
@[go_sem] def Q69_9:=k 0x20691151add0d
@[go_sem] def Q69_10:=k 0x85ae7ad0381aa1
def Q69_11:TC:=(.seq (.reg Q69_4) (.seq (.cond (.t 13) .skip (.exit 0)) (.seq (.block 1 (.seq (.reg Q69_5) (.seq (.reg Q69_6) (.seq (.seq (.reg Q69_7) (.cond (.t 28) (.reg Q69_8) .skip)) (.reg Q69_9))))) (.reg Q69_10))))
@[go_sem] def Q69_12:=k 0x223a762ddd80d
def t_Q69:TF:=⟨38,[.t 4],(.seq (.reg Q69_0) (.seq (.reg Q69_1) (.seq (.reg Q69_2) (.seq (.seq (.reg Q69_3) (.block 0 (.loop Q69_11))) (.seq (.reg Q69_12) .ret)))))⟩
/-! horarium/runs.Length -/
@[go_sem] def Q70_0:=k 0x8f98
@[go_sem] def Q70_1:=k 0xcd18
@[go_sem] def Q70_2:=k 0xb6d5c3b858c
@[go_sem] def Q70_3:=k 0x7e80e24
@[go_sem] def Q70_4:=k 0x4930d931be1cd7083fbec
@[go_sem] def Q70_5:=k 0x3180d17caafc0056a7fab32068c
@[go_sem] def Q70_6:=k 0x3c0f43bfb9ca0
def Q70_7:TC:=(.seq (.reg Q70_3) (.seq (.cond (.t 9) .skip (.exit 0)) (.seq (.block 1 (.seq (.reg Q70_4) (.reg Q70_5))) (.reg Q70_6))))
@[go_sem] def Q70_8:=k 0x1f87c43d3a0c
def t_Q70:TF:=⟨18,[.t 2],(.seq (.reg Q70_0) (.seq (.reg Q70_1) (.seq (.seq (.reg Q70_2) (.block 0 (.loop Q70_7))) (.seq (.reg Q70_8) .ret))))⟩
/-! horarium/bound.next -/
@[go_sem] def Q71_0:=k 0x18598
@[go_sem] def Q71_1:=k 0xb99aefc3e0c
@[go_sem] def Q71_2:=k 0xae1d6a4
@[go_sem] def Q71_3:=k 0x7365dff9b4877cb7dc46c
@[go_sem] def Q71_4:=k 0x36487083681f491972685fb5f0c
@[go_sem] def Q71_5:=k 0x130d691c85c33c900b04d94626dfc928c
@[go_sem] def Q71_6:=k 0x5da5f96dfc620
def Q71_7:TC:=(.seq (.reg Q71_2) (.seq (.cond (.t 12) .skip (.exit 0)) (.seq (.block 1 (.seq (.reg Q71_3) (.seq (.reg Q71_4) (.cond (.t 19) (.seq (.reg Q71_5) .ret) .skip)))) (.reg Q71_6))))
@[go_sem] def Q71_8:=k 0x2f356d1d8323931fd5ee5c6551f3ac2f7b38c
def t_Q71:TF:=⟨32,[.t 6],(.seq (.reg Q71_0) (.seq (.seq (.reg Q71_1) (.block 0 (.loop Q71_7))) (.seq (.reg Q71_8) .ret)))⟩
/-! horarium/node.measure -/
@[go_sem] def Q72_0:=k 0x5c48f98
@[go_sem] def Q72_1:=k 0x2785f54bb1402fe4
@[go_sem] def Q72_2:=k 0xbc601bcf68c
@[go_sem] def Q72_3:=k 0xddb9f24
@[go_sem] def Q72_4:=k 0x5964428b9ea6296b78cf0
@[go_sem] def Q72_5:=kd 0x49d0c96408da963de992ea47f67e1dde1f887d673aab64
@[go_sem] def Q72_6:=k 0x1737ade419fafccb1ed60c
@[go_sem] def Q72_7:=k 0x193206a99c16d777f939bc4836bacc4e8d
@[go_sem] def Q72_8:=k 0x76159aabccd8474960c416ec1a6c21aeb946bacdbf8d
@[go_sem] def Q72_9:=k 0x6ac8178ac28823582a206009d204c90c72c49c4cf8ad7bd79f0c7b1053df2989c2f6e0d
@[go_sem] def Q72_10:=kd 0x26877295ca592e263446962cc972587ea13188b642ce8d4f1013d4afbfe969a1cf26bdeaa62c47515b66
@[go_sem] def Q72_11:=k 0x6cb5582e8f9bacfde125a571d08fbeaab20e
@[go_sem] def Q72_12:=k 0x1eb59cd29a5f12ed1cac106e592
@[go_sem] def Q72_13:=k 0x3a9db9ae64cf95026078bbcbdd39382afc27266dc92c107db92
@[go_sem] def Q72_14:=k 0xfef5418da394247a1a5330ebb8b740ac2ea01146d084a0e
@[go_sem] def Q72_15:=kd 0x6480360a035778e6677be87e0055191332f10bf999fce9244907ca639e0e86dcedb6c67366
@[go_sem] def Q72_16:=kd 0x1cd09a2a0809f4b200b34924eb23ab07f07a57879d86976f3e2f8ccf6eedba293766
def Q72_17:TC:=(.seq (.seq (.reg Q72_9) (.cond (.t 53) .skip (.exit 2))) (.block 3 (.seq (.dreg Q72_10) (.seq (.reg Q72_11) (.seq (.seq (.reg Q72_12) (.cond (.t 73) (.reg Q72_13) .skip)) (.seq (.reg Q72_14) (.seq (.dreg Q72_15) (.dreg Q72_16))))))))
@[go_sem] def Q72_18:=k 0x19304339e7790422
def Q72_19:TC:=(.seq (.reg Q72_3) (.seq (.cond (.t 15) .skip (.exit 0)) (.seq (.block 1 (.seq (.reg Q72_4) (.seq (.dreg Q72_5) (.seq (.seq (.reg Q72_6) (.seq (.reg Q72_7) (.cond (.t 33) (.reg Q72_8) .skip))) (.block 2 (.loop Q72_17)))))) (.reg Q72_18))))
@[go_sem] def Q72_20:=kd 0x32520b59b779db6fb9783091396b4dfa3e3e584b4cd7dde47536bb88dfb66
def t_Q72:TF:=⟨118,[.t 2,.t 3],(.seq (.reg Q72_0) (.seq (.reg Q72_1) (.seq (.seq (.reg Q72_2) (.block 0 (.loop Q72_19))) (.seq (.dreg Q72_20) .ret))))⟩
/-! horarium/node.Size -/
@[go_sem] def Q73_0:=k 0x10a98
@[go_sem] def Q73_1:=k 0x1e5ab72185af95bf54707d4e9408447714e73b08c
@[go_sem] def Q73_2:=k 0x10a98
@[go_sem] def Q73_3:=k 0x8f818
@[go_sem] def Q73_4:=k 0x1dea152d9c8c
@[go_sem] def Q73_5:=k 0x78038232d6837b144a0c
@[go_sem] def Q73_6:=k 0x55c19838f58d257cc560f688679b0c
@[go_sem] def Q73_7:=k 0x33b5eea69e8c
@[go_sem] def Q73_8:=k 0x10a98
@[go_sem] def Q73_9:=k 0x6c6dcdddf8dd0dc8219f8fadc298d
@[go_sem] def Q73_10:=k 0x1f654ae751f8d
@[go_sem] def Q73_11:=k 0x800ada85ef233defdaecc3824fa8d
@[go_sem] def Q73_12:=k 0x9d93482823623400c
def Q73_13:TC:=(.seq (.seq (.reg Q73_5) (.cond (.t 20) .skip (.exit 0))) (.seq (.block 1 (.seq (.reg Q73_6) (.seq (.seq (.reg Q73_7) (.cond (.t 29) (.seq (.reg Q73_8) .ret) .skip)) (.seq (.reg Q73_9) (.seq (.reg Q73_10) (.cond (.t 35) (.seq (.reg Q73_11) .ret) .skip)))))) (.reg Q73_12)))
@[go_sem] def Q73_14:=k 0x10a98
def t_Q73:TF:=⟨40,[.t 4],(.seq (.reg Q73_0) (.seq (.seq (.reg Q73_1) (.cond (.t 15) (.seq (.reg Q73_2) .ret) .skip)) (.seq (.reg Q73_3) (.seq (.seq (.reg Q73_4) (.block 0 (.loop Q73_13))) (.seq (.reg Q73_14) .ret)))))⟩
/-! horarium/horariumref3.Size -/
@[go_sem] def Q74_0:=k 0x10a98
@[go_sem] def Q74_1:=k 0x1b5af4b7695e1ae22e0ddc9a3263a25388673730c
@[go_sem] def Q74_2:=k 0x10a98
@[go_sem] def Q74_3:=k 0x8f818
@[go_sem] def Q74_4:=k 0x1c114d2d5f0c
@[go_sem] def Q74_5:=k 0x70faabbc2d807b140c8c
@[go_sem] def Q74_6:=k 0x28f3b643e5a5791b3db9388675d8c
@[go_sem] def Q74_7:=k 0x10a98
@[go_sem] def Q74_8:=k 0xcf0b4430fba9b3e8c
@[go_sem] def Q74_9:=k 0x1ace99ae78b83408e56f362df9a18f498d
@[go_sem] def Q74_10:=k 0x7a62caad9d305232a1f1b889f81a60ed44e2cbdd9a8d
@[go_sem] def Q74_11:=k 0x250e11a494898f587738d18531a192690d
@[go_sem] def Q74_12:=k 0x2c70c3908dd7818ba0d
@[go_sem] def Q74_13:=k 0x2f17eee79350d
@[go_sem] def Q74_14:=k 0xb7c24dfad81fa28dc69b0e4f1100d
@[go_sem] def Q74_15:=k 0x967a074a96e23028c
def Q74_16:TC:=(.seq (.seq (.reg Q74_5) (.cond (.t 19) .skip (.exit 0))) (.seq (.block 1 (.seq (.seq (.reg Q74_6) (.cond (.t 27) (.seq (.reg Q74_7) .ret) .skip)) (.seq (.reg Q74_8) (.seq (.seq (.reg Q74_9) (.cond (.t 35) (.reg Q74_10) .skip)) (.seq (.seq (.reg Q74_11) (.cond (.t 48) (.reg Q74_12) .skip)) (.seq (.reg Q74_13) (.cond (.t 52) (.seq (.reg Q74_14) .ret) .skip))))))) (.reg Q74_15)))
@[go_sem] def Q74_17:=k 0x10a98
def t_Q74:TF:=⟨57,[.t 4],(.seq (.reg Q74_0) (.seq (.seq (.reg Q74_1) (.cond (.t 14) (.seq (.reg Q74_2) .ret) .skip)) (.seq (.reg Q74_3) (.seq (.seq (.reg Q74_4) (.block 0 (.loop Q74_16))) (.seq (.reg Q74_17) .ret)))))⟩
/-! horarium/horariumref3.depth -/
@[go_sem] def Q75_0:=k 0x10a98
@[go_sem] def Q75_1:=k 0x14818
@[go_sem] def Q75_2:=k 0x561ed0d06b3014924008c
@[go_sem] def Q75_3:=k 0xbdfc424
@[go_sem] def Q75_4:=k 0x6c1b4c1e693bbb1d0
@[go_sem] def Q75_5:=k 0x7f06e03aa7d98b4a4fb7c9f5b0c5c8c
@[go_sem] def Q75_6:=k 0x4efd45fd4d020
def Q75_7:TC:=(.seq (.reg Q75_3) (.seq (.cond (.t 13) .skip (.exit 0)) (.seq (.block 1 (.seq (.reg Q75_4) (.reg Q75_5))) (.reg Q75_6))))
@[go_sem] def Q75_8:=k 0xa43af4f9afe1bcd8c
def t_Q75:TF:=⟨24,[.t 4],(.seq (.reg Q75_0) (.seq (.reg Q75_1) (.seq (.seq (.reg Q75_2) (.block 0 (.loop Q75_7))) (.seq (.reg Q75_8) .ret))))⟩
/-! horarium/horariumref3.length -/
@[go_sem] def Q76_0:=k 0x10a98
@[go_sem] def Q76_1:=k 0x14818
@[go_sem] def Q76_2:=k 0x561ed0d06b3014924008c
@[go_sem] def Q76_3:=k 0xbdfc424
@[go_sem] def Q76_4:=k 0x6c1b4c1e693bbb1d0
@[go_sem] def Q76_5:=k 0x1003c3f965c16ee80601aa481cff5b0c5c8c
@[go_sem] def Q76_6:=k 0x52aed5fd50da0
def Q76_7:TC:=(.seq (.reg Q76_3) (.seq (.cond (.t 13) .skip (.exit 0)) (.seq (.block 1 (.seq (.reg Q76_4) (.reg Q76_5))) (.reg Q76_6))))
@[go_sem] def Q76_8:=k 0x2a9be134c6ae20c4aca9279b0c
@[go_sem] def Q76_9:=k 0x6e628ee501c30
@[go_sem] def Q76_10:=k 0x37a778cfb98c
@[go_sem] def Q76_11:=k 0x7800f1ca0d44b1
@[go_sem] def Q76_12:=k 0x6e48ac3fdc3643da143cc3210944201980994e0f8bc6acbdce20d
@[go_sem] def Q76_13:=k 0x8e7215bd423833ce7a4112001455f224922b8d
def t_Q76:TF:=⟨48,[.t 4],(.seq (.reg Q76_0) (.seq (.reg Q76_1) (.seq (.seq (.reg Q76_2) (.block 0 (.loop Q76_7))) (.seq (.seq (.reg Q76_8) (.block 2 (.seq (.reg Q76_9) (.cond (.t 28) (.seq (.reg Q76_10) .ret) (.seq (.reg Q76_11) (.cond (.t 31) (.seq (.reg Q76_12) .ret) .skip)))))) (.seq (.reg Q76_13) .ret)))))⟩
/-! horarium/horariumref3.Kids -/
@[go_sem] def Q77_0:=k 0x10ac0
@[go_sem] def Q77_1:=k 0x8ab382499e4e2b124008c
@[go_sem] def Q77_2:=k 0x185c0
@[go_sem] def Q77_3:=k 0x56cf8986a65fa690c
@[go_sem] def Q77_4:=k 0x161f75cf7c8777c468215b040c
@[go_sem] def Q77_5:=k 0x2aee62a459d77e5ae586d5bb0c
@[go_sem] def Q77_6:=k 0x8c04aa8e9dc43f04adef67f5b1c378c
def Q77_7:TC:=(.seq (.seq (.reg Q77_4) (.cond (.t 17) .skip (.exit 0))) (.seq (.block 1 (.reg Q77_5)) (.reg Q77_6)))
@[go_sem] def Q77_8:=k 0x321d20d6b10c
def t_Q77:TF:=⟨28,[.t 4],(.seq (.reg Q77_0) (.seq (.reg Q77_1) (.seq (.reg Q77_2) (.seq (.seq (.reg Q77_3) (.block 0 (.loop Q77_7))) (.seq (.reg Q77_8) .ret)))))⟩
/-! slices.ContainsFunc[[]horarium/api.Run,horarium/api.Run] -/
@[go_sem] def Q78_0:=k 0x10ab8
@[go_sem] def Q78_1:=k 0x1aa9d9f6ace4df123935923480c
def t_Q78:TF:=⟨9,[.t 4],(.seq (.reg Q78_0) (.seq (.reg Q78_1) .ret))⟩
/-! horarium/horariumref12.Name -/
@[go_sem] def Q79_0:=k 0x8fb8
@[go_sem] def Q79_1:=k 0xcd18
@[go_sem] def Q79_2:=k 0x239974a351cb3afa580c
@[go_sem] def Q79_3:=k 0x6a34003f1b602658f64eb3cf46c4617dc3e30e93817645e55569ffabe1206e6f33bec3b8420575a4b90c
@[go_sem] def Q79_4:=k 0x498d218b7dbf5e49d682a08156a76dae7e07dfa89c130a9e74b4be2c51994a0c177487f7101acaad75afb3f1fa568e910d
@[go_sem] def Q79_5:=k 0x8fb8
@[go_sem] def Q79_6:=k 0x47b9dfb38d6094e0c
def Q79_7:TC:=(.seq (.seq (.reg Q79_2) (.cond (.t 8) .skip (.exit 0))) (.seq (.block 1 (.seq (.reg Q79_3) (.seq (.reg Q79_4) (.cond (.t 44) (.seq (.reg Q79_5) .ret) .skip)))) (.reg Q79_6)))
@[go_sem] def Q79_8:=k 0x916b84b9fb00591a546ba33683c1825f8604a6ae0a9732e40d
def t_Q79:TF:=⟨53,[.t 2],(.seq (.reg Q79_0) (.seq (.seq (.reg Q79_1) (.block 0 (.loop Q79_7))) (.seq (.reg Q79_8) .ret)))⟩
/-! horarium/horariumref12.partRight -/
@[go_sem] def Q80_0:=k 0xd74524c
@[go_sem] def Q80_1:=k 0x1ecc6f76b7108a3a306022857b9483b57e33eddbe19d16977310
@[go_sem] def Q80_2:=k 0x8fb8
@[go_sem] def Q80_3:=k 0x2e95d4bd4e699da10
@[go_sem] def Q80_4:=k 0x13cf3024
@[go_sem] def Q80_5:=k 0x40aa03b255796dc6b1dec
@[go_sem] def Q80_6:=k 0x4975b333abeff6329d48b33a79c8cdc20e2ffae41b91e7a9d3ae2a06185466432369529a414b052441b2ab7fe4a0ace435891
@[go_sem] def Q80_7:=k 0x8fb8
@[go_sem] def Q80_8:=k 0x9c4e0ceef98ba1
def Q80_9:TC:=(.seq (.reg Q80_4) (.seq (.cond (.t 21) .skip (.exit 0)) (.seq (.block 1 (.seq (.reg Q80_5) (.seq (.reg Q80_6) (.cond (.t 41) (.seq (.reg Q80_7) .ret) .skip)))) (.reg Q80_8))))
@[go_sem] def Q80_10:=k 0x18a4f20729c911
@[go_sem] def Q80_11:=k 0xad5001bd
@[go_sem] def Q80_12:=k 0xadf705cddf409d
@[go_sem] def Q80_13:=k 0xa007b6ebef06eed0e3d9a757fdc3a0fdc8d
@[go_sem] def Q80_14:=k 0x8fb8
@[go_sem] def Q80_15:=k 0xca12298f146da1
def Q80_16:TC:=(.seq (.reg Q80_11) (.seq (.cond (.t 46) .skip (.exit 2)) (.seq (.block 3 (.seq (.reg Q80_12) (.seq (.reg Q80_13) (.cond (.t 53) (.seq (.reg Q80_14) .ret) .skip)))) (.reg Q80_15))))
@[go_sem] def Q80_17:=k 0xab72459b2c985a918c202bcbe13171191a37f5c91f4ab11
@[go_sem] def Q80_18:=k 0x9050
@[go_sem] def Q80_19:=k 0x11c2ee5cb82eca9d3a117ae1c6c34c7bc269169137a7724063d4bb56f1ed3d4b2387e5adf88f0d1d3531c11f3ba5801a1b19912694225c0e85baf747f8df712
def t_Q80:TF:=⟨83,[.t 2],(.seq (.reg Q80_0) (.seq (.seq (.reg Q80_1) (.cond (.t 16) (.seq (.reg Q80_2) .ret) .skip)) (.seq (.seq (.reg Q80_3) (.block 0 (.loop Q80_9))) (.seq (.seq (.reg Q80_10) (.block 2 (.loop Q80_16))) (.seq (.seq (.reg Q80_17) (.cond (.t 62) (.seq (.reg Q80_18) .ret) .skip)) (.seq (.reg Q80_19) .ret))))))⟩
/-! horarium/horariumref12.chanRight -/
@[go_sem] def Q81_0:=k 0x4013348fcc
@[go_sem] def Q81_1:=k 0x89d2530e68cc02cf279a2ab932b80bef09f801b329ae9c5e429ed05761619f5fb0423d5d935d6266da018352f4dd9611c4b3da2d1c2dda101a5e4683c45af4d0fa989d6f610bfbb27ea6e62e53bccd566dfb7b5a63bcea832ab3bc04fec963b6c60b1540e200811
@[go_sem] def Q81_2:=k 0x10ab8
@[go_sem] def Q81_3:=k 0x1939117e57a49acfb5e55fe793af54aff67babd30a6a54e49e3fb80edd484ab5fc9fe959ca29a2144b901aac027c6ccc7ab1cd98d03e2546decc6a42e833b55d8eb91
def t_Q81:TF:=⟨64,[.t 4],(.seq (.reg Q81_0) (.seq (.seq (.reg Q81_1) (.cond (.t 41) (.seq (.reg Q81_2) .ret) .skip)) (.seq (.reg Q81_3) .ret)))⟩
/-! horarium/config.Name -/
@[go_sem] def Q82_0:=k 0x8fb8
@[go_sem] def Q82_1:=k 0xb6d920b858c
@[go_sem] def Q82_2:=k 0x7e80e24
@[go_sem] def Q82_3:=k 0x12a912a1fb8c
@[go_sem] def Q82_4:=k 0xb333f808bc20575a4b90c
@[go_sem] def Q82_5:=k 0xe8062ef630c9d91ff31cfee0da74dfe318c
@[go_sem] def Q82_6:=k 0x2c0d2ea80e371e6f46c64ab170c16880d703d9c13d67b82b9b30bff4d0c7a9f751852876bec08bbbd93249f2cbce90cb9c28d
@[go_sem] def Q82_7:=k 0x8fb8
@[go_sem] def Q82_8:=k 0x8cd681c0d895a1
def Q82_9:TC:=(.seq (.reg Q82_2) (.seq (.cond (.t 9) .skip (.exit 0)) (.seq (.block 1 (.seq (.reg Q82_3) (.seq (.reg Q82_4) (.seq (.reg Q82_5) (.seq (.reg Q82_6) (.cond (.t 37) (.seq (.reg Q82_7) .ret) .skip)))))) (.reg Q82_8))))
@[go_sem] def Q82_10:=k 0x80a70bcb587fffd1621d872784ff39b386858a88a80131730d
def t_Q82:TF:=⟨47,[.t 2],(.seq (.reg Q82_0) (.seq (.seq (.reg Q82_1) (.block 0 (.loop Q82_9))) (.seq (.reg Q82_10) .ret)))⟩
/-! slices.ContainsFunc[[]horarium/api.Part,horarium/api.Part] -/
@[go_sem] def Q83_0:=k 0x10ab8
@[go_sem] def Q83_1:=k 0x1aa9d9f6ace4df13b958123480c
def t_Q83:TF:=⟨9,[.t 4],(.seq (.reg Q83_0) (.seq (.reg Q83_1) .ret))⟩
/-! horarium/config.Where$1 -/
@[go_sem] def Q84_0:=k 0xd748fcc
@[go_sem] def Q84_1:=k 0x6618155e54fb432614751427b9d06a90
def t_Q84:TF:=⟨9,[.t 3],(.seq (.reg Q84_0) (.seq (.reg Q84_1) .ret))⟩
/-! horarium/config.part -/
@[go_sem] def Q85_0:=k 0xd74524c
@[go_sem] def Q85_1:=k 0x16db35bcd3590
@[go_sem] def Q85_2:=k 0x7d8ae3c
@[go_sem] def Q85_3:=k 0x256fb1b39fd1c
@[go_sem] def Q85_4:=k 0xa9ad1813c9e57e236a92ae1ba68b790c
@[go_sem] def Q85_5:=k 0x8fb8
@[go_sem] def Q85_6:=k 0x3fc0d3bfbda20
def Q85_7:TC:=(.seq (.reg Q85_2) (.seq (.cond (.t 9) .skip (.exit 0)) (.seq (.block 1 (.seq (.reg Q85_3) (.seq (.reg Q85_4) (.cond (.t 16) (.seq (.reg Q85_5) .ret) .skip)))) (.reg Q85_6))))
@[go_sem] def Q85_8:=k 0x46548e8695476909ef97997e7d3a4711deac44a6aaac21790
@[go_sem] def Q85_9:=k 0x42cd7adffa117e455309fdae24854d36d84f1c0ed0c931f084fcbe8f8d6d0071f9a578cf6656731b3b6697cad727e50d0ae9b8083c221acb9169bdeb7fe56ac2045a9e72ee491c7249de3124af77d27614db391
def t_Q85:TF:=⟨54,[.t 2],(.seq (.reg Q85_0) (.seq (.seq (.reg Q85_1) (.block 0 (.loop Q85_7))) (.seq (.reg Q85_8) (.seq (.reg Q85_9) .ret))))⟩
/-! horarium/config.channel -/
@[go_sem] def Q86_0:=k 0x19e9c8828fcc
@[go_sem] def Q86_1:=k 0x5c54818
@[go_sem] def Q86_2:=k 0xec6dbc51090
@[go_sem] def Q86_3:=k 0x7637ccf818
@[go_sem] def Q86_4:=k 0x2b5ba4c1b76372a104769d1db90
@[go_sem] def Q86_5:=k 0x2ead97c47a68f66712a2896ed0d9d394a960a4b96dc9545ecc3762781b283760486524641104a84a2dab7b246974180859bdba8d84791b925fec1b7fe28448ecafda3fd3ff48f6c77039dc6072b6735b73c67f82c9f83c566c3a8b0d8c4e319191
def t_Q86:TF:=⟨48,[.t 4],(.seq (.reg Q86_0) (.seq (.reg Q86_1) (.seq (.seq (.reg Q86_2) (.cond (.t 9) (.reg Q86_3) .skip)) (.seq (.reg Q86_4) (.seq (.reg Q86_5) .ret)))))⟩
/-! horarium/config.table -/
@[go_sem] def Q87_0:=k 0x400b848fcc
@[go_sem] def Q87_1:=k 0x852bf46c976efa4e1348b058377b015b08c
@[go_sem] def Q87_2:=k 0x162981d3168c
@[go_sem] def Q87_3:=k 0x1a1af8d3918c
@[go_sem] def Q87_4:=k 0x3705eebf53ac1f0c
@[go_sem] def Q87_5:=k 0x7c0a98
@[go_sem] def Q87_6:=k 0x112b3b4b9ca4ec4a35c7c4
def t_Q87:TF:=⟨21,[.t 4],(.seq (.reg Q87_0) (.seq (.reg Q87_1) (.seq (.seq (.reg Q87_2) (.cond (.t 13) (.seq (.reg Q87_3) .ret) .skip)) (.seq (.seq (.reg Q87_4) (.cond (.t 17) (.seq (.reg Q87_5) .ret) .skip)) (.seq (.reg Q87_6) .ret)))))⟩
/-! slices.Grow[[]byte,byte] -/
@[go_sem] def Q88_0:=k 0x10ac0
@[go_sem] def Q88_1:=k 0x93bf672f80c
@[go_sem] def Q88_2:=k 0x537d07d8
@[go_sem] def Q88_3:=k 0x146afa024cadca4c87acd73c46c222a57aebb08c
@[go_sem] def Q88_4:=k 0x1bb3cd2f5f0c
@[go_sem] def Q88_5:=k 0x10ca75968ed1eeee244c9874fb210ee329d08c16007ae62a0c
@[go_sem] def Q88_6:=k 0x304458a8538c
def t_Q88:TF:=⟨27,[.t 4],(.seq (.reg Q88_0) (.seq (.seq (.reg Q88_1) (.cond (.t 6) (.reg Q88_2) .skip)) (.seq (.seq (.reg Q88_3) (.seq (.reg Q88_4) (.cond (.t 16) (.reg Q88_5) .skip))) (.seq (.reg Q88_6) .ret))))⟩
/-! horarium/sum.Next -/
@[go_sem] def Q89_0:=k 0x10bc4
@[go_sem] def Q89_1:=k 0x1f86f05ff063a29c02021f6123858c
@[go_sem] def Q89_2:=k 0x2b918
@[go_sem] def Q89_3:=k 0xad276bc
@[go_sem] def Q89_4:=k 0x32483b9afd3f340c
@[go_sem] def Q89_5:=k 0x3bdf358507ad4dd97ff8778ab5af0c
@[go_sem] def Q89_6:=k 0x4b2e296de92a0
def Q89_7:TC:=(.seq (.reg Q89_3) (.seq (.cond (.t 12) .skip (.exit 0)) (.seq (.block 1 (.seq (.reg Q89_4) (.reg Q89_5))) (.reg Q89_6))))
@[go_sem] def Q89_8:=k 0x270870a7200c
def t_Q89:TF:=⟨22,[.t 4],(.seq (.reg Q89_0) (.seq (.reg Q89_1) (.seq (.seq (.reg Q89_2) (.block 0 (.loop Q89_7))) (.seq (.reg Q89_8) .ret))))⟩
/-! horarium/code.Put -/
@[go_sem] def Q90_0:=k 0x10ac0
@[go_sem] def Q90_1:=k 0x14840
@[go_sem] def Q90_2:=k 0x20a57e74b6cfb08c
@[go_sem] def Q90_3:=k 0x94ec6c9b8c
@[go_sem] def Q90_4:=k 0x3936eefb8d75635de6cc67108be18c
@[go_sem] def Q90_5:=k 0x2ed8002efc8f168c
def Q90_6:TC:=(.seq (.seq (.reg Q90_3) (.cond (.t 11) .skip (.exit 0))) (.seq (.block 1 (.reg Q90_4)) (.reg Q90_5)))
@[go_sem] def Q90_7:=k 0x119e59d150c
@[go_sem] def Q90_8:=k 0x9e745dccba79b225900c
@[go_sem] def Q90_9:=k 0x2c52ce77888c
@[go_sem] def Q90_10:=k 0x60a52b41aa64238c
@[go_sem] def Q90_11:=k 0x641379a9ea7a1122c93238d780906fba8ece8d
def t_Q90:TF:=⟨34,[.t 4],(.seq (.reg Q90_0) (.seq (.reg Q90_1) (.seq (.seq (.reg Q90_2) (.block 0 (.loop Q90_6))) (.seq (.reg Q90_7) (.seq (.reg Q90_8) (.seq (.seq (.reg Q90_9) (.cond (.t 25) (.reg Q90_10) .skip)) (.seq (.reg Q90_11) .ret)))))))⟩
/-! slices.Clip[[]byte,byte] -/
@[go_sem] def Q91_0:=k 0x8fc0
@[go_sem] def Q91_1:=k 0x61ba4be14531a85334f58c302197ae2cd0c
def t_Q91:TF:=⟨9,[.t 2],(.seq (.reg Q91_0) (.seq (.reg Q91_1) .ret))⟩
/-! (*horarium/code.Reader).Text -/
@[go_sem] def Q92_0:=k 0x10bd4
@[go_sem] def Q92_1:=k 0x26b5c2571b43f02cf0dec5c03110f6ad1c1086c4e48d0f45e80008c
@[go_sem] def Q92_2:=k 0x3c29c75747d6c431d96c55768007c99e29081ec8c
@[go_sem] def Q92_3:=k 0xb619b577de70c283d88c
@[go_sem] def Q92_4:=k 0x10bd4
@[go_sem] def Q92_5:=k 0x5f6700dc9035e2ebc71d3848f678d2f73c817ad347ab14b8e910d
@[go_sem] def Q92_6:=k 0x214e122dd9a8d
def t_Q92:TF:=⟨37,[.t 4],(.seq (.reg Q92_0) (.seq (.reg Q92_1) (.seq (.seq (.reg Q92_2) (.cond (.t 23) (.seq (.reg Q92_3) (.seq (.reg Q92_4) .ret)) .skip)) (.seq (.reg Q92_5) (.seq (.reg Q92_6) .ret)))))⟩
/-! horarium/code.Get -/
@[go_sem] def Q93_0:=k 0x5c48f98
@[go_sem] def Q93_1:=k 0x237e5a6e5efc3e0c
@[go_sem] def Q93_2:=k 0x5c48f98
@[go_sem] def Q93_3:=k 0x32d13bf7337021cacb6286be2ef68c
@[go_sem] def Q93_4:=k 0x39588cdc848ce785ade84c939c24f7be68f46ea0c
@[go_sem] def Q93_5:=k 0x5c48f98
@[go_sem] def Q93_6:=k 0x14aa4
@[go_sem] def Q93_7:=k 0x2d10b7bde80ffc17cb402be8160c
@[go_sem] def Q93_8:=k 0x1dba7724
@[go_sem] def Q93_9:=k 0x1d62332997d3b7504d1
@[go_sem] def Q93_10:=k 0x77f0c674c8fd25c6ec1ffed8e8051f8d
@[go_sem] def Q93_11:=k 0x91cd1b9568d321
def Q93_12:TC:=(.seq (.reg Q93_8) (.seq (.cond (.t 31) .skip (.exit 0)) (.seq (.block 1 (.seq (.reg Q93_9) (.reg Q93_10))) (.reg Q93_11))))
@[go_sem] def Q93_13:=k 0x91fc024583816908d
@[go_sem] def Q93_14:=k 0x259678aca9e657f8ba2b8d
@[go_sem] def Q93_15:=k 0xa747c49bbcbf6218d
@[go_sem] def Q93_16:=kd 0x324edb66bb2f97ad195b85d7558eb1a9612c8bc389365
@[go_sem] def Q93_17:=k 0x5c48f98
@[go_sem] def Q93_18:=k 0x2f8617272df4c8b556fcf010888d
def t_Q93:TF:=⟨59,[.t 2,.t 3],(.seq (.reg Q93_0) (.seq (.seq (.reg Q93_1) (.cond (.t 11) (.seq (.reg Q93_2) .ret) .skip)) (.seq (.reg Q93_3) (.seq (.seq (.reg Q93_4) (.cond (.t 24) (.seq (.reg Q93_5) .ret) .skip)) (.seq (.reg Q93_6) (.seq (.seq (.reg Q93_7) (.block 0 (.loop Q93_12))) (.seq (.reg Q93_13) (.seq (.seq (.reg Q93_14) (.cond (.t 45) (.reg Q93_15) .skip)) (.seq (.seq (.dreg Q93_16) (.cond (.t 55) (.seq (.reg Q93_17) .ret) .skip)) (.seq (.reg Q93_18) .ret))))))))))⟩
/-! (*horarium/cursor.Cursor).down -/
@[go_sem] def Q94_0:=k 0x62b517077677eb0c39711dbab8f8fc57dc9586ed4229e2cf7ae6feeb551a58ded58d1c5950fca97f832fcf53cad457f0a8c
@[go_sem] def Q94_1:=kd 0xcf24865a64869f5b1aa044784f5e1b229013b17e03ba9d9c8a8fa63a8e0dd6139539682b621c792701b4f859697ed700720516e8cdbd7365
@[go_sem] def Q94_2:=k 0x270fa079837f7d9c90d
def Q94_3:TC:=(.seq (.seq (.reg Q94_0) (.cond (.t 23) .skip (.exit 0))) (.block 1 (.seq (.dreg Q94_1) (.reg Q94_2))))
@[go_sem] def Q94_4:=k 0x27ed47c000152466a4846492e40d
def t_Q94:TF:=⟨49,[],(.seq (.block 0 (.loop Q94_3)) (.reg Q94_4))⟩
/-! horarium/node.kids -/
@[go_sem] def Q95_0:=k 0x5c4524c
@[go_sem] def Q95_1:=k 0x937fe76ee8e3f1ff45ebc297127dffff0d8f77dbaf3cbd51d2923b3f0d6a6558da3abbb4ba90
@[go_sem] def Q95_2:=k 0x9030
@[go_sem] def Q95_3:=k 0x8bddf1276c32f56ce237585ff9d06eca03662dc9654d71ef4b52496261dee50eacaa9cc1790
@[go_sem] def Q95_4:=k 0x1c5e787f1931228c68e16e711
@[go_sem] def Q95_5:=k 0x8f98
@[go_sem] def Q95_6:=k 0x1db7c6a4ffe93b785b185ef98217192e6cd2f9e269df8e17dd11
@[go_sem] def Q95_7:=k 0x27132d19e0195c9c911
@[go_sem] def Q95_8:=k 0x2988383176a3d92644e1a8191
@[go_sem] def Q95_9:=k 0x83f98
@[go_sem] def Q95_10:=k 0x9030
def t_Q95:TF:=⟨49,[.t 2],(.seq (.reg Q95_0) (.seq (.block 0 (.seq (.reg Q95_1) (.cond (.t 3) (.seq (.reg Q95_2) .ret) (.seq (.seq (.reg Q95_3) (.cond (.t 17) .skip (.reg Q95_4))) (.cond (.t 17) (.seq (.reg Q95_5) .ret) (.seq (.reg Q95_6) (.cond (.t 34) (.seq (.reg Q95_7) .ret) (.seq (.reg Q95_8) (.cond (.t 45) (.seq (.reg Q95_9) .ret) .skip))))))))) (.seq (.reg Q95_10) .ret)))⟩
/-! horarium/node.times -/
@[go_sem] def Q96_0:=k 0x10a98
@[go_sem] def Q96_1:=k 0x1cc57803c45dcae73284578049480c
def t_Q96:TF:=⟨10,[.t 4],(.seq (.reg Q96_0) (.seq (.reg Q96_1) .ret))⟩
/-! horarium/node.add -/
@[go_sem] def Q97_0:=k 0x10a98
@[go_sem] def Q97_1:=k 0x1cc57803c456f6b9ba103c2923480c
def t_Q97:TF:=⟨10,[.t 4],(.seq (.reg Q97_0) (.seq (.reg Q97_1) .ret))⟩
/-! horarium/horariumref3.fine -/
@[go_sem] def Q98_0:=k 0xd74524c
@[go_sem] def Q98_1:=k 0x58af1c87d10
@[go_sem] def Q98_2:=k 0x16c6fe02135b0
@[go_sem] def Q98_3:=k 0x575867dbbec413a62f2f87cc0bc112ccc67133eea26d80a3e09c7c9ad367bbc8b2712bf7310
@[go_sem] def Q98_4:=k 0x4fe9a982c8030
@[go_sem] def Q98_5:=k 0x539b3983c1db0
@[go_sem] def Q98_6:=k 0x540a8c41df99a793be0ebdfac760d052a05f88fa692c34b10
@[go_sem] def Q98_7:=k 0x7800f17195e4b1
@[go_sem] def Q98_8:=k 0x671f897f18fd3b6b6eada2098f53b683eb17c1be66c9d6ff64db1fe2224ac23262813a5311ef6211
@[go_sem] def Q98_9:=k 0x8fb8
def t_Q98:TF:=⟨46,[.t 2],(.seq (.reg Q98_0) (.seq (.seq (.reg Q98_1) (.block 0 (.seq (.reg Q98_2) (.cond (.t 5) (.seq (.reg Q98_3) .ret) (.seq (.seq (.reg Q98_4) (.cond (.t 20) .skip (.reg Q98_5))) (.cond (.t 20) (.seq (.reg Q98_6) .ret) (.seq (.reg Q98_7) (.cond (.t 31) (.seq (.reg Q98_8) .ret) .skip)))))))) (.seq (.reg Q98_9) .ret)))⟩
/-! slices.IndexFunc[[]horarium/api.Run,horarium/api.Run] -/
@[go_sem] def Q99_0:=k 0x10a98
@[go_sem] def Q99_1:=k 0xb6d5c3b858c
@[go_sem] def Q99_2:=k 0x7e80e24
@[go_sem] def Q99_3:=k 0x12c69f21fb8c
@[go_sem] def Q99_4:=k 0x241fce7688c282069fdcb95aec690c
@[go_sem] def Q99_5:=k 0x1fa550cc9a0c
@[go_sem] def Q99_6:=k 0x437263bfc17a0
def Q99_7:TC:=(.seq (.reg Q99_2) (.seq (.cond (.t 9) .skip (.exit 0)) (.seq (.block 1 (.seq (.reg Q99_3) (.seq (.reg Q99_4) (.cond (.t 16) (.seq (.reg Q99_5) .ret) .skip)))) (.reg Q99_6))))
@[go_sem] def Q99_8:=k 0x10b30
def t_Q99:TF:=⟨19,[.t 4],(.seq (.reg Q99_0) (.seq (.seq (.reg Q99_1) (.block 0 (.loop Q99_7))) (.seq (.reg Q99_8) .ret)))⟩
/-! slices.IndexFunc[[]horarium/api.Part,horarium/api.Part] -/
@[go_sem] def Q100_0:=k 0x10a98
@[go_sem] def Q100_1:=k 0xb6d5c3b858c
@[go_sem] def Q100_2:=k 0x7e80e24
@[go_sem] def Q100_3:=k 0x12c69f21fb8c
@[go_sem] def Q100_4:=k 0x241fce7692fde8898401995aec690c
@[go_sem] def Q100_5:=k 0x1fa550cc9a0c
@[go_sem] def Q100_6:=k 0x437263bfc17a0
def Q100_7:TC:=(.seq (.reg Q100_2) (.seq (.cond (.t 9) .skip (.exit 0)) (.seq (.block 1 (.seq (.reg Q100_3) (.seq (.reg Q100_4) (.cond (.t 16) (.seq (.reg Q100_5) .ret) .skip)))) (.reg Q100_6))))
@[go_sem] def Q100_8:=k 0x10b30
def t_Q100:TF:=⟨19,[.t 4],(.seq (.reg Q100_0) (.seq (.seq (.reg Q100_1) (.block 0 (.loop Q100_7))) (.seq (.reg Q100_8) .ret)))⟩
/-! horarium/config.procs -/
@[go_sem] def Q101_0:=k 0x8fb8
@[go_sem] def Q101_1:=k 0xb5e95fb480c
@[go_sem] def Q101_2:=k 0x6ea20a4
@[go_sem] def Q101_3:=k 0x3b1f2c446bf94a7860e6c
@[go_sem] def Q101_4:=k 0xa780eff863d6c5998b37faa155f1d0ee09f3e6ea731e17910
@[go_sem] def Q101_5:=k 0x8fb8
@[go_sem] def Q101_6:=k 0x4e6987306d020
def Q101_7:TC:=(.seq (.reg Q101_2) (.seq (.cond (.t 8) .skip (.exit 0)) (.seq (.block 1 (.seq (.reg Q101_3) (.seq (.reg Q101_4) (.cond (.t 20) (.seq (.reg Q101_5) .ret) .skip)))) (.reg Q101_6))))
@[go_sem] def Q101_8:=k 0x144fc8aeee66c19e3205e3b1fcb78bf8f772fd9d83f5d8c
def t_Q101:TF:=⟨30,[.t 2],(.seq (.reg Q101_0) (.seq (.seq (.reg Q101_1) (.block 0 (.loop Q101_7))) (.seq (.reg Q101_8) .ret)))⟩
/-! horarium/config.within -/
@[go_sem] def Q102_0:=k 0x10ab8
@[go_sem] def Q102_1:=k 0x40c48924d069667941faaf6a0fa4e680c707b7480c
def t_Q102:TF:=⟨12,[.t 4],(.seq (.reg Q102_0) (.seq (.reg Q102_1) .ret))⟩
/-! horarium/config.table$1 -/
@[go_sem] def Q103_0:=k 0xd748fcc
@[go_sem] def Q103_1:=k 0xdc6c5906554bfddc0e8b98751427b9d06a90
def t_Q103:TF:=⟨10,[.t 3],(.seq (.reg Q103_0) (.seq (.reg Q103_1) .ret))⟩
/-! horarium/code.great -/
@[go_sem] def Q104_0:=k 0x9224
@[go_sem] def Q104_1:=k 0x58a666acd0c
@[go_sem] def Q104_2:=k 0x303f3dd66d711dc3480c
@[go_sem] def Q104_3:=k 0x2033ea67f884008c
def t_Q104:TF:=⟨10,[.t 2],(.seq (.reg Q104_0) (.seq (.seq (.reg Q104_1) (.cond (.t 4) (.seq (.reg Q104_2) .ret) .skip)) (.seq (.reg Q104_3) .ret)))⟩
/-! slices.Reverse[[]byte,byte] -/
@[go_sem] def Q105_0:=k 0x9d5664090808275e687bb0a8c
@[go_sem] def Q105_1:=k 0x19bb9b835db3230c
@[go_sem] def Q105_2:=kd 0x279a959c802e76599cc1a357a4f82f02fab4c4d231bc7576769ee52dc257293687598c1f85102079f97b64
@[go_sem] def Q105_3:=k 0x51e3ec4495bc5e85ac420f19e01db8c
def Q105_4:TC:=(.seq (.seq (.reg Q105_1) (.cond (.t 9) .skip (.exit 0))) (.seq (.block 1 (.dreg Q105_2)) (.reg Q105_3)))
def t_Q105:TF:=⟨28,[],(.seq (.reg Q105_0) (.block 0 (.loop Q105_4)))⟩
/-! horarium/code.Cut -/
@[go_sem] def Q106_0:=k 0x2f2bd4
@[go_sem] def Q106_1:=k 0x914702e46e0abc84ee219f708e8e90c3e0c
@[go_sem] def Q106_2:=k 0x53ea2755e5c95c6e03aacfc88e04a0fd8eefc16738501b9e79960b97198449554ff46f28d33c1040c
@[go_sem] def Q106_3:=k 0x2f2bd4
@[go_sem] def Q106_4:=k 0x178ecf1273582d0e84fe710dd1f9d8d385d9c8fdcf224ed274ddd8987a8f0c0d
def t_Q106:TF:=⟨39,[.t 4,.t 5],(.seq (.reg Q106_0) (.seq (.reg Q106_1) (.seq (.seq (.reg Q106_2) (.cond (.t 28) (.seq (.reg Q106_3) .ret) .skip)) (.seq (.reg Q106_4) .ret))))⟩
def tpFn:Nat→Option TF
  | 11=>some t_Q0
  | 12=>some t_Q1
  | 14=>some t_Q2
  | 15=>some t_Q3
  | 17=>some t_Q4
  | 21=>some t_Q5
  | 29=>some t_Q6
  | 39=>some t_Q7
  | 40=>some t_Q8
  | 41=>some t_Q9
  | 43=>some t_Q10
  | 44=>some t_Q11
  | 45=>some t_Q12
  | 46=>some t_Q13
  | 47=>some t_Q14
  | 48=>some t_Q15
  | 49=>some t_Q16
  | 50=>some t_Q17
  | 51=>some t_Q18
  | 54=>some t_Q19
  | 55=>some t_Q20
  | 56=>some t_Q21
  | 57=>some t_Q22
  | 58=>some t_Q23
  | 59=>some t_Q24
  | 60=>some t_Q25
  | 61=>some t_Q26
  | 80=>some t_Q27
  | 85=>some t_Q28
  | 86=>some t_Q29
  | 87=>some t_Q30
  | 88=>some t_Q31
  | 89=>some t_Q32
  | 90=>some t_Q33
  | 91=>some t_Q34
  | 92=>some t_Q35
  | 93=>some t_Q36
  | 94=>some t_Q37
  | 95=>some t_Q38
  | 96=>some t_Q39
  | 97=>some t_Q40
  | 98=>some t_Q41
  | 107=>some t_Q42
  | 108=>some t_Q43
  | 109=>some t_Q44
  | 110=>some t_Q45
  | 111=>some t_Q46
  | 112=>some t_Q47
  | 113=>some t_Q48
  | 129=>some t_Q49
  | 136=>some t_Q50
  | 137=>some t_Q51
  | 138=>some t_Q52
  | 139=>some t_Q53
  | 140=>some t_Q54
  | 141=>some t_Q55
  | 142=>some t_Q56
  | 143=>some t_Q57
  | 144=>some t_Q58
  | 145=>some t_Q59
  | 146=>some t_Q60
  | 147=>some t_Q61
  | 148=>some t_Q62
  | 149=>some t_Q63
  | 150=>some t_Q64
  | 151=>some t_Q65
  | 152=>some t_Q66
  | 153=>some t_Q67
  | 154=>some t_Q68
  | 155=>some t_Q69
  | 156=>some t_Q70
  | 157=>some t_Q71
  | 165=>some t_Q72
  | 166=>some t_Q73
  | 167=>some t_Q74
  | 168=>some t_Q75
  | 169=>some t_Q76
  | 170=>some t_Q77
  | 178=>some t_Q78
  | 184=>some t_Q79
  | 185=>some t_Q80
  | 186=>some t_Q81
  | 189=>some t_Q82
  | 190=>some t_Q83
  | 191=>some t_Q84
  | 192=>some t_Q85
  | 193=>some t_Q86
  | 194=>some t_Q87
  | 195=>some t_Q88
  | 196=>some t_Q89
  | 197=>some t_Q90
  | 198=>some t_Q91
  | 199=>some t_Q92
  | 200=>some t_Q93
  | 201=>some t_Q94
  | 203=>some t_Q95
  | 204=>some t_Q96
  | 205=>some t_Q97
  | 206=>some t_Q98
  | 209=>some t_Q99
  | 212=>some t_Q100
  | 213=>some t_Q101
  | 214=>some t_Q102
  | 215=>some t_Q103
  | 216=>some t_Q104
  | 217=>some t_Q105
  | 218=>some t_Q106
  | _=>none
def tpMeth:Nat→String→Option Meth:=fun _ _=>none
def tp:TP:=⟨tpFn,tpMeth⟩
theorem fn_Q0:tp.fn i_Q0=some t_Q0:=rfl
theorem fn_Q1:tp.fn i_Q1=some t_Q1:=rfl
theorem fn_Q2:tp.fn i_Q2=some t_Q2:=rfl
theorem fn_Q3:tp.fn i_Q3=some t_Q3:=rfl
theorem fn_Q4:tp.fn i_Q4=some t_Q4:=rfl
theorem fn_Q5:tp.fn i_Q5=some t_Q5:=rfl
theorem fn_Q6:tp.fn i_Q6=some t_Q6:=rfl
theorem fn_Q7:tp.fn i_Q7=some t_Q7:=rfl
theorem fn_Q8:tp.fn i_Q8=some t_Q8:=rfl
theorem fn_Q9:tp.fn i_Q9=some t_Q9:=rfl
theorem fn_Q10:tp.fn i_Q10=some t_Q10:=rfl
theorem fn_Q11:tp.fn i_Q11=some t_Q11:=rfl
theorem fn_Q12:tp.fn i_Q12=some t_Q12:=rfl
theorem fn_Q13:tp.fn i_Q13=some t_Q13:=rfl
theorem fn_Q14:tp.fn i_Q14=some t_Q14:=rfl
theorem fn_Q15:tp.fn i_Q15=some t_Q15:=rfl
theorem fn_Q16:tp.fn i_Q16=some t_Q16:=rfl
theorem fn_Q17:tp.fn i_Q17=some t_Q17:=rfl
theorem fn_Q18:tp.fn i_Q18=some t_Q18:=rfl
theorem fn_Q19:tp.fn i_Q19=some t_Q19:=rfl
theorem fn_Q20:tp.fn i_Q20=some t_Q20:=rfl
theorem fn_Q21:tp.fn i_Q21=some t_Q21:=rfl
theorem fn_Q22:tp.fn i_Q22=some t_Q22:=rfl
theorem fn_Q23:tp.fn i_Q23=some t_Q23:=rfl
theorem fn_Q24:tp.fn i_Q24=some t_Q24:=rfl
theorem fn_Q25:tp.fn i_Q25=some t_Q25:=rfl
theorem fn_Q26:tp.fn i_Q26=some t_Q26:=rfl
theorem fn_Q27:tp.fn i_Q27=some t_Q27:=rfl
theorem fn_Q28:tp.fn i_Q28=some t_Q28:=rfl
theorem fn_Q29:tp.fn i_Q29=some t_Q29:=rfl
theorem fn_Q30:tp.fn i_Q30=some t_Q30:=rfl
theorem fn_Q31:tp.fn i_Q31=some t_Q31:=rfl
theorem fn_Q32:tp.fn i_Q32=some t_Q32:=rfl
theorem fn_Q33:tp.fn i_Q33=some t_Q33:=rfl
theorem fn_Q34:tp.fn i_Q34=some t_Q34:=rfl
theorem fn_Q35:tp.fn i_Q35=some t_Q35:=rfl
theorem fn_Q36:tp.fn i_Q36=some t_Q36:=rfl
theorem fn_Q37:tp.fn i_Q37=some t_Q37:=rfl
theorem fn_Q38:tp.fn i_Q38=some t_Q38:=rfl
theorem fn_Q39:tp.fn i_Q39=some t_Q39:=rfl
theorem fn_Q40:tp.fn i_Q40=some t_Q40:=rfl
theorem fn_Q41:tp.fn i_Q41=some t_Q41:=rfl
theorem fn_Q42:tp.fn i_Q42=some t_Q42:=rfl
theorem fn_Q43:tp.fn i_Q43=some t_Q43:=rfl
theorem fn_Q44:tp.fn i_Q44=some t_Q44:=rfl
theorem fn_Q45:tp.fn i_Q45=some t_Q45:=rfl
theorem fn_Q46:tp.fn i_Q46=some t_Q46:=rfl
theorem fn_Q47:tp.fn i_Q47=some t_Q47:=rfl
theorem fn_Q48:tp.fn i_Q48=some t_Q48:=rfl
theorem fn_Q49:tp.fn i_Q49=some t_Q49:=rfl
theorem fn_Q50:tp.fn i_Q50=some t_Q50:=rfl
theorem fn_Q51:tp.fn i_Q51=some t_Q51:=rfl
theorem fn_Q52:tp.fn i_Q52=some t_Q52:=rfl
theorem fn_Q53:tp.fn i_Q53=some t_Q53:=rfl
theorem fn_Q54:tp.fn i_Q54=some t_Q54:=rfl
theorem fn_Q55:tp.fn i_Q55=some t_Q55:=rfl
theorem fn_Q56:tp.fn i_Q56=some t_Q56:=rfl
theorem fn_Q57:tp.fn i_Q57=some t_Q57:=rfl
theorem fn_Q58:tp.fn i_Q58=some t_Q58:=rfl
theorem fn_Q59:tp.fn i_Q59=some t_Q59:=rfl
theorem fn_Q60:tp.fn i_Q60=some t_Q60:=rfl
theorem fn_Q61:tp.fn i_Q61=some t_Q61:=rfl
theorem fn_Q62:tp.fn i_Q62=some t_Q62:=rfl
theorem fn_Q63:tp.fn i_Q63=some t_Q63:=rfl
theorem fn_Q64:tp.fn i_Q64=some t_Q64:=rfl
theorem fn_Q65:tp.fn i_Q65=some t_Q65:=rfl
theorem fn_Q66:tp.fn i_Q66=some t_Q66:=rfl
theorem fn_Q67:tp.fn i_Q67=some t_Q67:=rfl
theorem fn_Q68:tp.fn i_Q68=some t_Q68:=rfl
theorem fn_Q69:tp.fn i_Q69=some t_Q69:=rfl
theorem fn_Q70:tp.fn i_Q70=some t_Q70:=rfl
theorem fn_Q71:tp.fn i_Q71=some t_Q71:=rfl
theorem fn_Q72:tp.fn i_Q72=some t_Q72:=rfl
theorem fn_Q73:tp.fn i_Q73=some t_Q73:=rfl
theorem fn_Q74:tp.fn i_Q74=some t_Q74:=rfl
theorem fn_Q75:tp.fn i_Q75=some t_Q75:=rfl
theorem fn_Q76:tp.fn i_Q76=some t_Q76:=rfl
theorem fn_Q77:tp.fn i_Q77=some t_Q77:=rfl
theorem fn_Q78:tp.fn i_Q78=some t_Q78:=rfl
theorem fn_Q79:tp.fn i_Q79=some t_Q79:=rfl
theorem fn_Q80:tp.fn i_Q80=some t_Q80:=rfl
theorem fn_Q81:tp.fn i_Q81=some t_Q81:=rfl
theorem fn_Q82:tp.fn i_Q82=some t_Q82:=rfl
theorem fn_Q83:tp.fn i_Q83=some t_Q83:=rfl
theorem fn_Q84:tp.fn i_Q84=some t_Q84:=rfl
theorem fn_Q85:tp.fn i_Q85=some t_Q85:=rfl
theorem fn_Q86:tp.fn i_Q86=some t_Q86:=rfl
theorem fn_Q87:tp.fn i_Q87=some t_Q87:=rfl
theorem fn_Q88:tp.fn i_Q88=some t_Q88:=rfl
theorem fn_Q89:tp.fn i_Q89=some t_Q89:=rfl
theorem fn_Q90:tp.fn i_Q90=some t_Q90:=rfl
theorem fn_Q91:tp.fn i_Q91=some t_Q91:=rfl
theorem fn_Q92:tp.fn i_Q92=some t_Q92:=rfl
theorem fn_Q93:tp.fn i_Q93=some t_Q93:=rfl
theorem fn_Q94:tp.fn i_Q94=some t_Q94:=rfl
theorem fn_Q95:tp.fn i_Q95=some t_Q95:=rfl
theorem fn_Q96:tp.fn i_Q96=some t_Q96:=rfl
theorem fn_Q97:tp.fn i_Q97=some t_Q97:=rfl
theorem fn_Q98:tp.fn i_Q98=some t_Q98:=rfl
theorem fn_Q99:tp.fn i_Q99=some t_Q99:=rfl
theorem fn_Q100:tp.fn i_Q100=some t_Q100:=rfl
theorem fn_Q101:tp.fn i_Q101=some t_Q101:=rfl
theorem fn_Q102:tp.fn i_Q102=some t_Q102:=rfl
theorem fn_Q103:tp.fn i_Q103=some t_Q103:=rfl
theorem fn_Q104:tp.fn i_Q104=some t_Q104:=rfl
theorem fn_Q105:tp.fn i_Q105=some t_Q105:=rfl
theorem fn_Q106:tp.fn i_Q106=some t_Q106:=rfl
end Go.Ab.T
