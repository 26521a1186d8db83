/- Part of the proof that ConfigCopies returns true for every input of the second form's bound (no other condition). -/
import Derived.Test.YtjjebbijkcknbaaPE
set_option linter.all false
/- The abstract machine's text of the functions. Written by a tool. -/
namespace Go.Ab.T
open Go Go.Ab
abbrev i_Q2 : Nat := 5
abbrev i_Q5 : Nat := 8
abbrev i_Q6 : Nat := 9
abbrev i_Q7 : Nat := 10
abbrev i_Q8 : Nat := 11
abbrev i_Q9 : Nat := 12
abbrev i_Q10 : Nat := 13
abbrev i_Q11 : Nat := 14
abbrev i_Q12 : Nat := 15
abbrev i_Q13 : Nat := 16
abbrev i_Q14 : Nat := 17
abbrev i_Q15 : Nat := 18
abbrev i_Q16 : Nat := 19
abbrev i_Q17 : Nat := 20
abbrev i_Q18 : Nat := 21
abbrev i_Q19 : Nat := 22
abbrev i_Q20 : Nat := 23
abbrev i_Q21 : Nat := 24
abbrev i_Q22 : Nat := 25
abbrev i_Q23 : Nat := 26
abbrev i_Q24 : Nat := 27
abbrev i_Q25 : Nat := 28
abbrev i_Q26 : Nat := 29
abbrev i_Q27 : Nat := 30
abbrev i_Q28 : Nat := 31
abbrev i_Q29 : Nat := 32
abbrev i_Q30 : Nat := 33
abbrev i_Q31 : Nat := 34
abbrev i_Q32 : Nat := 35
abbrev i_Q33 : Nat := 36
abbrev i_Q34 : Nat := 37
abbrev i_Q35 : Nat := 38
abbrev i_Q36 : Nat := 39
abbrev i_Q37 : Nat := 40
abbrev i_Q38 : Nat := 41
abbrev i_Q39 : Nat := 42
abbrev i_Q40 : Nat := 43
abbrev i_Q41 : Nat := 44
abbrev i_Q42 : Nat := 45
abbrev i_Q43 : Nat := 46
abbrev i_Q44 : Nat := 47
abbrev i_Q45 : Nat := 48
abbrev i_Q46 : Nat := 49
abbrev i_Q47 : Nat := 50
abbrev i_Q48 : Nat := 51
abbrev i_Q49 : Nat := 52
abbrev i_Q50 : Nat := 53
abbrev i_Q51 : Nat := 54
abbrev i_Q52 : Nat := 55
abbrev i_Q53 : Nat := 56
abbrev i_Q54 : Nat := 57
abbrev i_Q55 : Nat := 58
abbrev i_Q56 : Nat := 59
abbrev i_Q57 : Nat := 60
abbrev i_Q58 : Nat := 61
abbrev i_Q59 : Nat := 62
abbrev i_Q60 : Nat := 63
abbrev i_Q61 : Nat := 64
abbrev i_Q62 : Nat := 65
abbrev i_Q63 : Nat := 66
abbrev i_Q64 : Nat := 67
abbrev i_Q65 : Nat := 68
abbrev i_Q66 : Nat := 69
abbrev i_Q67 : Nat := 70
abbrev i_Q68 : Nat := 71
abbrev i_Q69 : Nat := 72
abbrev i_Q70 : Nat := 73
abbrev i_Q71 : Nat := 74
abbrev i_Q72 : Nat := 75
abbrev i_Q73 : Nat := 76
abbrev i_Q74 : Nat := 77
abbrev i_Q75 : Nat := 78
abbrev i_Q76 : Nat := 79
abbrev i_Q77 : Nat := 80
abbrev i_Q78 : Nat := 81
abbrev i_Q79 : Nat := 82
abbrev i_Q80 : Nat := 83
abbrev i_Q81 : Nat := 84
abbrev i_Q82 : Nat := 85
abbrev i_Q83 : Nat := 86
abbrev i_Q84 : Nat := 87
abbrev i_Q85 : Nat := 88
abbrev i_Q86 : Nat := 89
abbrev i_Q87 : Nat := 90
abbrev i_Q88 : Nat := 91
abbrev i_Q89 : Nat := 92
abbrev i_Q90 : Nat := 93
abbrev i_Q91 : Nat := 94
abbrev i_Q92 : Nat := 95
abbrev i_Q93 : Nat := 96
abbrev i_Q94 : Nat := 97
abbrev i_Q95 : Nat := 98
abbrev i_Q96 : Nat := 99
abbrev i_Q97 : Nat := 100
abbrev i_Q98 : Nat := 101
abbrev i_Q99 : Nat := 102
abbrev i_Q100 : Nat := 103
abbrev i_Q101 : Nat := 104
abbrev i_Q102 : Nat := 105
abbrev i_Q103 : Nat := 106
@[go_sem] def wrs : List Nat := [i_Q20, i_Q44, i_Q21, i_Q22, i_Q6, i_Q99, i_Q87, i_Q74, i_Q85]
/-! horarium/horariumlaw12.ConfigNumbers -/
@[go_sem] def Q0_0 : List TO := [Oa 0 (.mv (.c (.b false)))]
@[go_sem] def Q0_1 : List TO := [Oa 1 (.mv (Xk 0))]
@[go_sem] def Q0_2 : List TO := [Om 8 1,
  Oa 9 (.bin .lss (.t 8) (Xk 40))]
@[go_sem] def Q0_3 : List TO := [Om 12 1,
  Oa 13 (.call (.fn i_Q5) [(.t 12)]),
  Oa 14 (.build [.ns, (.i .i64 0)] [(0, 1, (.t 13))]),
  Oa 15 (.box (.t 14)),
  Oa 16 (.call (.fn i_Q6) [(.t 15)]),
  Oa 2 (.alloc [.ns, .ns, .ns]),
  On (.store 3 (.t 2) (.t 16))]
@[go_sem] def Q0_4 : List TO := [Oa 17 (.load 3 true (.t 2)),
  Oa 18 (.call (.fn i_Q7) [(.t 17)]),
  Oa 19 (.un .not (.t 18)),
  Om 20 19,
  ⟨(some 21), .load 3 true (.t 2), some (20, false)⟩,
  ⟨(some 22), .call (.fn i_Q8) [(.t 21)], some (20, false)⟩,
  ⟨(some 23), .bin .neq (.t 22) (Xk 0), some (20, false)⟩,
  Oa 24 (.pick (.t 20) (.c (.b true)) (.t 23))]
@[go_sem] def Q0_5 : List TO := [Oa 0 (.mv (.c (.b false)))]
@[go_sem] def Q0_6 : List TO := [Oa 3 (.mv (Xk 0))]
@[go_sem] def Q0_7 : List TO := [Om 25 3,
  Oa 26 (.bin .lss (.t 25) (Xk 16))]
@[go_sem] def Q0_8 : List TO := [Oa 29 (.bsl 1 [(.i .i64 0)] 14 [(0, (Xk (-1))), (1, (Xk 0)), (2, (Xk 1)), (3, (Xk 2)), (4, (Xk 3)), (5, (Xk 8)), (6, (Xk 9)), (7, (Xk 255)), (8, (Xk 256)), (9, (Xk 511)), (10, (Xk 512)), (11, (Xk 4096)), (12, (Xk 4097)), (13, (Xk 1099511627776))]),
  Oa 30 (.len (.t 29)),
  Oa 31 (.mv (Xk 0))]
@[go_sem] def Q0_9 : List TO := [Oa 32 (.bin .lss (.t 31) (.t 30))]
@[go_sem] def Q0_10 : List TO := [Oa 33 (.iad 1 (.t 29) (.t 31)),
  Ol 34 33,
  Om 5 34]
@[go_sem] def Q0_11 : List TO := [Oa 35 (.load 3 true (.t 2)),
  Om 36 3,
  Om 37 5,
  Oa 38 (.call (.fn i_Q9) [(.t 35), (.t 36), (.t 37)]),
  Oa 39 (.call (.fn i_Q7) [(.t 38)]),
  Oa 40 (.un .not (.t 39))]
@[go_sem] def Q0_12 : List TO := [Oa 0 (.mv (.c (.b false)))]
@[go_sem] def Q0_13 : List TO := [Oa 41 (.bin .add (.t 31) (Xk 1)),
  Om 31 41]
def Q0_14 : TC := (.seq (.reg Q0_9) (.seq (.cond (.t 32) .skip (.exit 4)) (.seq (.block 5 (.seq (.reg Q0_10) (.seq (.reg Q0_11) (.cond (.t 40) (.seq (.reg Q0_12) .ret) .skip)))) (.reg Q0_13))))
@[go_sem] def Q0_15 : List TO := [Om 27 3,
  Oa 28 (.bin .add (.t 27) (Xk 1)),
  Om 3 28]
def Q0_16 : TC := (.seq (.seq (.reg Q0_7) (.cond (.t 26) .skip (.exit 2))) (.seq (.block 3 (.seq (.reg Q0_8) (.block 4 (.loop Q0_14)))) (.reg Q0_15)))
@[go_sem] def Q0_17 : List TO := [Om 10 1,
  Oa 11 (.bin .add (.t 10) (Xk 1)),
  Om 1 11]
def Q0_18 : TC := (.seq (.seq (.reg Q0_2) (.cond (.t 9) .skip (.exit 0))) (.seq (.block 1 (.seq (.reg Q0_3) (.seq (.seq (.reg Q0_4) (.cond (.t 24) (.seq (.reg Q0_5) .ret) .skip)) (.seq (.reg Q0_6) (.block 2 (.loop Q0_16)))))) (.reg Q0_17)))
@[go_sem] def Q0_19 : List TO := [⟨(some 42), .bsl 1 [(.s ⟨#[]⟩)] 10 [(0, (.c (.s ⟨#[]⟩))), (1, (.c (.s ⟨#[97]⟩))), (2, (.c (.s ⟨#[95]⟩))), (3, (.c (.s ⟨#[122, 57, 95]⟩))), (4, (.c (.s ⟨#[57]⟩))), (5, (.c (.s ⟨#[97, 65]⟩))), (6, (.c (.s ⟨#[97, 45, 98]⟩))), (7, (.c (.s ⟨#[97, 255]⟩))), (8, (.c (.s ⟨#[97, 98, 99, 100, 101, 102, 103, 104, 105, 106, 107, 108]⟩))), (9, (.c (.s ⟨#[97, 98, 99, 100, 101, 102, 103, 104, 105, 106, 107, 108, 109]⟩)))], none⟩,
  Oa 43 (.len (.t 42)),
  Oa 44 (.mv (Xk 0))]
@[go_sem] def Q0_20 : List TO := [Oa 45 (.bin .lss (.t 44) (.t 43))]
@[go_sem] def Q0_21 : List TO := [Oa 46 (.iad 1 (.t 42) (.t 44)),
  Ol 47 46,
  Om 7 47]
@[go_sem] def Q0_22 : List TO := [Om 48 7,
  Oa 49 (.call (.fn i_Q10) [(.t 48)]),
  Om 50 7,
  Oa 51 (.call (.fn i_Q11) [(.t 50)]),
  Oa 52 (.eq true .b (.t 49) (.t 51))]
@[go_sem] def Q0_23 : List TO := [Oa 0 (.mv (.c (.b false)))]
@[go_sem] def Q0_24 : List TO := [Oa 53 (.bin .add (.t 44) (Xk 1)),
  Om 44 53]
def Q0_25 : TC := (.seq (.reg Q0_20) (.seq (.cond (.t 45) .skip (.exit 6)) (.seq (.block 7 (.seq (.reg Q0_21) (.seq (.reg Q0_22) (.cond (.t 52) (.seq (.reg Q0_23) .ret) .skip)))) (.reg Q0_24))))
@[go_sem] def Q0_26 : List TO := [Oa 54 (.call (.fn i_Q12) []),
  Om 0 54]
def t_Q0 : TF := ⟨55, [.t 0], (.seq (.reg Q0_0) (.seq (.seq (.reg Q0_1) (.block 0 (.loop Q0_18))) (.seq (.seq (.reg Q0_19) (.block 6 (.loop Q0_25))) (.seq (.reg Q0_26) .ret))))⟩
/-! horarium/horariumlaw12.ConfigTells -/
@[go_sem] def Q1_0 : List TO := [Oa 12 (.box (.t 5)),
  Oa 14 (.mv (.c (.b false)))]
@[go_sem] def Q1_1 : List TO := [Om 17 0,
  Oa 18 (.build [.ns, (.i .i64 0)] [(0, 1, (.t 17))]),
  Oa 19 (.box (.t 18)),
  Oa 20 (.call (.fn i_Q6) [(.t 19)]),
  Oa 15 (.alloc [.ns, .ns, .ns]),
  On (.store 3 (.t 15) (.t 20))]
@[go_sem] def Q1_2 : List TO := [Oa 21 (.load 3 true (.t 12)),
  Oa 22 (.call (.fn i_Q13) [(.t 21)]),
  Oa 16 (.alloc [.ns, .ns, .ns]),
  On (.store 3 (.t 16) (.t 22))]
@[go_sem] def Q1_3 : List (Bool × List TO) := [(true, [Oa 23 (.load 3 true (.t 15)),
  Oa 24 (.call (.fn i_Q7) [(.t 23)]),
  Om 25 24,
  ⟨(some 26), .load 3 true (.t 15), some (25, true)⟩,
  ⟨(some 27), .mv (.t 1), some (25, true)⟩,
  ⟨(some 28), .mv (.t 3), some (25, true)⟩,
  ⟨(some 29), .call (.fn i_Q9) [(.t 26), (.t 27), (.t 28)], some (25, true)⟩,
  ⟨(some 30), .call (.fn i_Q7) [(.t 29)], some (25, true)⟩,
  Oa 31 (.pick (.t 25) (.t 30) (.c (.b false))),
  Om 32 31,
  ⟨(some 33), .load 3 true (.t 15), some (32, true)⟩,
  ⟨(some 34), .mv (.t 1), some (32, true)⟩,
  ⟨(some 35), .mv (.t 3), some (32, true)⟩,
  ⟨(some 36), .bin .and (.t 35) (Xk 15), some (32, true)⟩,
  ⟨(some 37), .call (.fn i_Q9) [(.t 33), (.t 34), (.t 36)], some (32, true)⟩,
  ⟨(some 38), .call (.fn i_Q7) [(.t 37)], some (32, true)⟩,
  Oa 39 (.pick (.t 32) (.t 38) (.c (.b false))),
  Om 40 39,
  ⟨(some 41), .load 3 true (.t 15), some (40, true)⟩,
  ⟨(some 42), .mv (.t 1), some (40, true)⟩,
  ⟨(some 43), .mv (.t 3), some (40, true)⟩,
  ⟨(some 44), .bin .and (.t 43) (Xk 15), some (40, true)⟩,
  ⟨(some 45), .call (.fn i_Q9) [(.t 41), (.t 42), (.t 44)], some (40, true)⟩,
  ⟨(some 46), .mv (.t 2), some (40, true)⟩,
  ⟨(some 47), .bin .rem (.t 46) (Xk 10), some (40, true)⟩,
  ⟨(some 48), .mv (.t 4), some (40, true)⟩,
  ⟨(some 49), .bin .and (.t 48) (Xk 255), some (40, true)⟩,
  ⟨(some 50), .call (.fn i_Q9) [(.t 45), (.t 47), (.t 49)], some (40, true)⟩,
  ⟨(some 51), .call (.fn i_Q7) [(.t 50)], some (40, true)⟩,
  Oa 52 (.pick (.t 40) (.t 51) (.c (.b false))),
  Om 53 52,
  ⟨(some 54), .load 3 true (.t 16), some (53, true)⟩,
  ⟨(some 55), .call (.fn i_Q7) [(.t 54)], some (53, true)⟩,
  Oa 56 (.pick (.t 53) (.t 55) (.c (.b false))),
  Om 57 56,
  ⟨(some 58), .mv (.t 6), some (57, true)⟩,
  ⟨(some 59), .call (.fn i_Q10) [(.t 58)], some (57, true)⟩,
  ⟨(some 60), .mv (.t 6), some (57, true)⟩,
  ⟨(some 61), .call (.fn i_Q11) [(.t 60)], some (57, true)⟩,
  ⟨(some 62), .eq false .b (.t 59) (.t 61), some (57, true)⟩,
  Oa 63 (.pick (.t 57) (.t 62) (.c (.b false))),
  Om 64 63,
  ⟨(some 65), .load 3 true (.t 15), some (64, true)⟩,
  ⟨(some 66), .load 3 true (.t 16), some (64, true)⟩,
  ⟨(some 67), .call (.fn i_Q14) [(.t 65), (.t 66)], some (64, true)⟩,
  ⟨(some 68), .load 3 true (.t 15), some (64, true)⟩,
  ⟨(some 69), .load 3 true (.t 16), some (64, true)⟩,
  ⟨(some 70), .call (.fn i_Q15) [(.t 68), (.t 69)], some (64, true)⟩,
  ⟨(some 71), .eq false .b (.t 67) (.t 70), some (64, true)⟩,
  Oa 72 (.pick (.t 64) (.t 71) (.c (.b false))),
  Om 73 72,
  ⟨(some 74), .call (.fn i_Q12) [], some (73, true)⟩,
  Oa 75 (.pick (.t 73) (.t 74) (.c (.b false))),
  Om 14 75])]
def t_Q1 : TF := ⟨76, [.t 14], (.seq (.reg Q1_0) (.seq (.reg Q1_1) (.seq (.reg Q1_2) (.seq (.dreg Q1_3) .ret))))⟩
/-! horarium/horariumlaw12.ConfigCopies -/
@[go_sem] def Q2_0 : List TO := [Oa 4 (.mv (.c (.b false)))]
@[go_sem] def Q2_1 : List TO := [Om 9 0,
  Oa 10 (.build [.ns, (.i .i64 0)] [(0, 1, (.t 9))]),
  Oa 11 (.box (.t 10)),
  Oa 12 (.call (.fn i_Q6) [(.t 11)]),
  Oa 5 (.alloc [.ns, .ns, .ns]),
  On (.store 3 (.t 5) (.t 12))]
@[go_sem] def Q2_2 : List TO := [Oa 13 (.load 3 true (.t 5)),
  Oa 14 (.call (.fn i_Q16) [(.t 13)]),
  Oa 6 (.alloc [.ns, .ns, .ns]),
  On (.store 3 (.t 6) (.t 14))]
@[go_sem] def Q2_3 : List TO := [Oa 15 (.load 3 true (.t 5)),
  Oa 16 (.load 3 true (.t 6)),
  Oa 17 (.call (.fn i_Q14) [(.t 15), (.t 16)]),
  Oa 18 (.un .not (.t 17)),
  Om 19 18,
  ⟨(some 20), .fad 0 (.t 6), some (19, false)⟩,
  ⟨(some 21), .load 1 false (.t 20), some (19, false)⟩,
  ⟨(some 22), .len (.t 21), some (19, false)⟩,
  ⟨(some 23), .fad 0 (.t 5), some (19, false)⟩,
  ⟨(some 24), .load 1 false (.t 23), some (19, false)⟩,
  ⟨(some 25), .len (.t 24), some (19, false)⟩,
  ⟨(some 26), .bin .neq (.t 22) (.t 25), some (19, false)⟩,
  Oa 27 (.pick (.t 19) (.c (.b true)) (.t 26)),
  Om 28 27,
  ⟨(some 29), .fad 2 (.t 6), some (28, false)⟩,
  ⟨(some 30), .load 1 false (.t 29), some (28, false)⟩,
  ⟨(some 31), .len (.t 30), some (28, false)⟩,
  ⟨(some 32), .fad 2 (.t 5), some (28, false)⟩,
  ⟨(some 33), .load 1 false (.t 32), some (28, false)⟩,
  ⟨(some 34), .len (.t 33), some (28, false)⟩,
  ⟨(some 35), .bin .neq (.t 31) (.t 34), some (28, false)⟩,
  Oa 36 (.pick (.t 28) (.c (.b true)) (.t 35)),
  Om 37 36,
  ⟨(some 38), .fad 1 (.t 6), some (37, false)⟩,
  ⟨(some 39), .load 1 false (.t 38), some (37, false)⟩,
  ⟨(some 40), .len (.t 39), some (37, false)⟩,
  ⟨(some 41), .fad 1 (.t 5), some (37, false)⟩,
  ⟨(some 42), .load 1 false (.t 41), some (37, false)⟩,
  ⟨(some 43), .len (.t 42), some (37, false)⟩,
  ⟨(some 44), .bin .neq (.t 40) (.t 43), some (37, false)⟩,
  Oa 45 (.pick (.t 37) (.c (.b true)) (.t 44))]
@[go_sem] def Q2_4 : List TO := [Oa 4 (.mv (.c (.b false)))]
@[go_sem] def Q2_5 : List TO := [Oa 46 (.load 3 true (.t 5)),
  Oa 47 (.call (.fn i_Q17) [(.t 46)]),
  Om 7 47]
@[go_sem] def Q2_6 : List TO := [Of 48 0 6,
  Ol 49 48,
  Oa 50 (.iad 11 (.t 49) (Xk 0)),
  Of 51 0 50,
  ⟨none, .store 1 (.t 51) (.c (.s ⟨#[111, 116, 104, 101, 114]⟩)), none⟩]
@[go_sem] def Q2_7 : List TO := [Of 52 0 6,
  Ol 53 52,
  Oa 54 (.iad 11 (.t 53) (Xk 0)),
  Of 55 5 54,
  Ol 56 55,
  Om 57 1,
  Oa 58 (.bin .and (.t 57) (Xk 127)),
  Oa 59 (.iad 2 (.t 56) (Xk 0)),
  Of 60 1 59,
  On (.store 1 (.t 60) (.t 58))]
@[go_sem] def Q2_8 : List (Bool × List TO) := [(true, [Of 61 2 6,
  Ol 62 61,
  Oa 63 (.iad 1 (.t 62) (Xk 0)),
  Ol 64 63,
  Of 65 2 6,
  Ol 66 65,
  Oa 67 (.iad 1 (.t 66) (Xk 0)),
  Ol 68 67,
  Oa 69 (.iad 3 (.t 68) (Xk 0)),
  Of 70 2 69,
  Ol 71 70,
  Oa 72 (.bin .add (.t 71) (Xk 1)),
  Oa 73 (.iad 3 (.t 64) (Xk 0)),
  Of 74 2 73]), (false, [On (.store 1 (.t 74) (.t 72))])]
@[go_sem] def Q2_9 : List TO := [Of 75 1 6,
  Ol 76 75,
  Oa 77 (.len (.t 76)),
  Oa 78 (.mv (Xk 0))]
@[go_sem] def Q2_10 : List TO := [Oa 79 (.bin .lss (.t 78) (.t 77))]
@[go_sem] def Q2_11 : List TO := [Om 80 78,
  Om 8 80]
@[go_sem] def Q2_12 : List TO := [Of 81 1 6,
  Ol 82 81,
  Om 83 8,
  Oa 84 (.iad 6 (.t 82) (.t 83)),
  Of 85 5 84,
  On (.store 1 (.t 85) (Xk 77))]
@[go_sem] def Q2_13 : List TO := [Oa 86 (.bin .add (.t 78) (Xk 1)),
  Om 78 86]
def Q2_14 : TC := (.seq (.reg Q2_10) (.seq (.cond (.t 79) .skip (.exit 0)) (.seq (.block 1 (.seq (.reg Q2_11) (.reg Q2_12))) (.reg Q2_13))))
@[go_sem] def Q2_15 : List (Bool × List TO) := [(true, [Oa 87 (.load 3 true (.t 5)),
  Oa 88 (.call (.fn i_Q17) [(.t 87)]),
  Oa 89 (.b2s (.t 88)),
  Om 90 7,
  Oa 91 (.b2s (.t 90)),
  Oa 92 (.bin .eql (.t 89) (.t 91)),
  Om 93 92,
  ⟨(some 94), .load 3 true (.t 5), some (93, true)⟩,
  ⟨(some 95), .load 3 true (.t 6), some (93, true)⟩,
  ⟨(some 96), .call (.fn i_Q14) [(.t 94), (.t 95)], some (93, true)⟩,
  ⟨(some 97), .un .not (.t 96), some (93, true)⟩,
  Oa 98 (.pick (.t 93) (.t 97) (.c (.b false))),
  Om 99 98,
  ⟨(some 100), .call (.fn i_Q12) [], some (99, true)⟩,
  Oa 101 (.pick (.t 99) (.t 100) (.c (.b false))),
  Om 4 101])]
def t_Q2 : TF := ⟨102, [.t 4], (.seq (.reg Q2_0) (.seq (.reg Q2_1) (.seq (.reg Q2_2) (.seq (.seq (.reg Q2_3) (.cond (.t 45) (.seq (.reg Q2_4) .ret) .skip)) (.seq (.reg Q2_5) (.seq (.reg Q2_6) (.seq (.reg Q2_7) (.seq (.dreg Q2_8) (.seq (.seq (.reg Q2_9) (.block 0 (.loop Q2_14))) (.seq (.dreg Q2_15) .ret))))))))))⟩
/-! horarium/horariumlaw12.ConfigFirst -/
@[go_sem] def Q3_0 : List TO := [Oa 4 (.mv (.c (.b false)))]
@[go_sem] def Q3_1 : List TO := [Om 15 0,
  Oa 16 (.build [.ns, (.i .i64 0)] [(0, 1, (.t 15))]),
  Oa 17 (.box (.t 16)),
  Oa 18 (.call (.fn i_Q6) [(.t 17)]),
  Oa 19 (.call (.fn i_Q16) [(.t 18)]),
  Oa 5 (.alloc [.ns, .ns, .ns]),
  On (.store 3 (.t 5) (.t 19))]
@[go_sem] def Q3_2 : List TO := [Of 20 0 5,
  Ol 21 20,
  Oa 22 (.len (.t 21)),
  Oa 23 (.bin .eql (.t 22) (Xk 0)),
  Om 24 23,
  ⟨(some 25), .fad 2 (.t 5), some (24, false)⟩,
  ⟨(some 26), .load 1 false (.t 25), some (24, false)⟩,
  ⟨(some 27), .len (.t 26), some (24, false)⟩,
  ⟨(some 28), .bin .eql (.t 27) (Xk 0), some (24, false)⟩,
  Oa 29 (.pick (.t 24) (.c (.b true)) (.t 28))]
@[go_sem] def Q3_3 : List TO := [Oa 4 (.mv (.c (.b false)))]
@[go_sem] def Q3_4 : List TO := [Om 30 1,
  Of 31 0 5,
  Ol 32 31,
  Oa 33 (.len (.t 32)),
  Oa 34 (.bin .sub (.t 33) (Xk 1)),
  Oa 35 (.call (.fn i_Q18) [(.t 30), (Xk 0), (.t 34)]),
  Om 6 35]
@[go_sem] def Q3_5 : List TO := [Of 36 2 5,
  Ol 37 36,
  Oa 38 (.iad 1 (.t 37) (Xk 0)),
  On (.store 1 (.t 38) (.c .ns))]
@[go_sem] def Q3_6 : List TO := [Oa 40 (.load 3 true (.t 5)),
  Oa 41 (.call (.fn i_Q19) [(.t 40)]),
  Om 39 41,
  Oa 42 (.ext (.t 39) 0),
  Oa 43 (.ext (.t 39) 1),
  Om 7 42,
  Om 8 43]
@[go_sem] def Q3_7 : List TO := [Of 44 1 5,
  Ol 45 44,
  Oa 46 (.build [(.i .i64 0), (.i .i64 0), (.b false), (.i .i64 0), (.i .u32 0), (.i .i64 0)] [(0, 1, (Xk (-1)))]),
  Oa 47 (.bsl 6 [(.i .i64 0), (.i .i64 0), (.b false), (.i .i64 0), (.i .u32 0), (.i .i64 0)] 1 [(0, (.t 46))]),
  Oa 48 (.app 6 (.t 45) (.t 47)),
  Of 49 1 5,
  On (.store 1 (.t 49) (.t 48))]
@[go_sem] def Q3_8 : List TO := [Oa 51 (.load 3 true (.t 5)),
  Oa 52 (.call (.fn i_Q19) [(.t 51)]),
  Om 50 52,
  Oa 53 (.ext (.t 50) 0),
  Oa 54 (.ext (.t 50) 1),
  Om 9 53,
  Om 10 54]
@[go_sem] def Q3_9 : List TO := [Of 55 0 5,
  Ol 56 55,
  Om 57 6,
  Oa 58 (.iad 11 (.t 56) (.t 57)),
  Of 59 5 58,
  On (.store 1 (.t 59) (.c .ns))]
@[go_sem] def Q3_10 : List TO := [Oa 61 (.load 3 true (.t 5)),
  Oa 62 (.call (.fn i_Q19) [(.t 61)]),
  Om 60 62,
  Oa 63 (.ext (.t 60) 0),
  Oa 64 (.ext (.t 60) 1),
  Om 11 63,
  Om 12 64]
@[go_sem] def Q3_11 : List TO := [Of 65 0 5,
  Ol 66 65,
  Om 67 6,
  Oa 68 (.iad 11 (.t 66) (.t 67)),
  Of 69 0 68,
  ⟨none, .store 1 (.t 69) (.c (.s ⟨#[]⟩)), none⟩]
@[go_sem] def Q3_12 : List TO := [Oa 71 (.load 3 true (.t 5)),
  Oa 72 (.call (.fn i_Q19) [(.t 71)]),
  Om 70 72,
  Oa 73 (.ext (.t 70) 0),
  Oa 74 (.ext (.t 70) 1),
  Om 13 73,
  Om 14 74]
@[go_sem] def Q3_13 : List TO := [Om 75 7,
  Oa 76 (.bin .eql (.t 75) (Xk 12)),
  Om 77 76,
  ⟨(some 78), .mv (.t 8), some (77, true)⟩,
  ⟨(some 79), .bin .eql (.t 78) (Xk 0), some (77, true)⟩,
  Oa 80 (.pick (.t 77) (.t 79) (.c (.b false))),
  Om 81 80,
  ⟨(some 82), .mv (.t 9), some (81, true)⟩,
  ⟨(some 83), .bin .eql (.t 82) (Xk 17), some (81, true)⟩,
  Oa 84 (.pick (.t 81) (.t 83) (.c (.b false))),
  Om 85 84,
  ⟨(some 86), .mv (.t 10), some (85, true)⟩,
  ⟨(some 87), .fad 1 (.t 5), some (85, true)⟩,
  ⟨(some 88), .load 1 false (.t 87), some (85, true)⟩,
  ⟨(some 89), .len (.t 88), some (85, true)⟩,
  ⟨(some 90), .bin .sub (.t 89) (Xk 1), some (85, true)⟩,
  ⟨(some 91), .bin .eql (.t 86) (.t 90), some (85, true)⟩,
  Oa 92 (.pick (.t 85) (.t 91) (.c (.b false))),
  Om 93 92,
  ⟨(some 94), .mv (.t 11), some (93, true)⟩,
  ⟨(some 95), .bin .eql (.t 94) (Xk 16), some (93, true)⟩,
  Oa 96 (.pick (.t 93) (.t 95) (.c (.b false))),
  Om 97 96,
  ⟨(some 98), .mv (.t 12), some (97, true)⟩,
  ⟨(some 99), .mv (.t 6), some (97, true)⟩,
  ⟨(some 100), .bin .eql (.t 98) (.t 99), some (97, true)⟩,
  Oa 101 (.pick (.t 97) (.t 100) (.c (.b false))),
  Om 102 101,
  ⟨(some 103), .mv (.t 13), some (102, true)⟩,
  ⟨(some 104), .bin .eql (.t 103) (Xk 15), some (102, true)⟩,
  Oa 105 (.pick (.t 102) (.t 104) (.c (.b false))),
  Om 106 105,
  ⟨(some 107), .mv (.t 14), some (106, true)⟩,
  ⟨(some 108), .mv (.t 6), some (106, true)⟩,
  ⟨(some 109), .bin .eql (.t 107) (.t 108), some (106, true)⟩,
  Oa 110 (.pick (.t 106) (.t 109) (.c (.b false))),
  Om 111 110,
  ⟨(some 112), .call (.fn i_Q12) [], some (111, true)⟩,
  Oa 113 (.pick (.t 111) (.t 112) (.c (.b false))),
  Om 4 113]
def t_Q3 : TF := ⟨114, [.t 4], (.seq (.reg Q3_0) (.seq (.reg Q3_1) (.seq (.seq (.reg Q3_2) (.cond (.t 29) (.seq (.reg Q3_3) .ret) .skip)) (.seq (.reg Q3_4) (.seq (.reg Q3_5) (.seq (.reg Q3_6) (.seq (.reg Q3_7) (.seq (.reg Q3_8) (.seq (.reg Q3_9) (.seq (.reg Q3_10) (.seq (.reg Q3_11) (.seq (.reg Q3_12) (.seq (.reg Q3_13) .ret)))))))))))))⟩
/-! horarium/horariumlaw12.ConfigTurned -/
@[go_sem] def Q4_0 : List TO := [Oa 2 (.mv (.c (.b false)))]
@[go_sem] def Q4_1 : List TO := [Om 8 0,
  Oa 9 (.build [.ns, (.i .i64 0)] [(0, 1, (.t 8))]),
  Oa 10 (.box (.t 9)),
  Oa 11 (.call (.fn i_Q6) [(.t 10)]),
  Oa 3 (.alloc [.ns, .ns, .ns]),
  On (.store 3 (.t 3) (.t 11))]
@[go_sem] def Q4_2 : List (Bool × List TO) := [(true, [Oa 12 (.load 3 true (.t 3)),
  Oa 13 (.call (.fn i_Q16) [(.t 12)]),
  Oa 14 (.load 3 true (.t 3)),
  Oa 15 (.call (.fn i_Q16) [(.t 14)]),
  Oa 4 (.alloc [.ns, .ns, .ns]),
  Oa 5 (.alloc [.ns, .ns, .ns])]), (false, [On (.store 3 (.t 4) (.t 13))]), (false, [On (.store 3 (.t 5) (.t 15))])]
@[go_sem] def Q4_3 : List TO := [Of 16 2 4,
  Ol 17 16,
  Oa 18 (.len (.t 17)),
  Om 6 18]
@[go_sem] def Q4_4 : List TO := [Oa 7 (.mv (Xk 0))]
@[go_sem] def Q4_5 : List TO := [Om 19 7,
  Om 20 6,
  Oa 21 (.bin .quo (.t 20) (Xk 2)),
  Oa 22 (.bin .lss (.t 19) (.t 21))]
@[go_sem] def Q4_6 : List (Bool × List TO) := [(true, [Of 25 2 4,
  Ol 26 25,
  Om 27 7,
  Of 28 2 4,
  Oa 29 (.fload 1 (.t 28)),
  Om 30 6,
  Oa 31 (.bin .sub (.t 30) (Xk 1)),
  Om 32 7,
  Oa 33 (.bin .sub (.t 31) (.t 32)),
  Of 34 2 4,
  Ol 35 34,
  Om 36 6,
  Oa 37 (.bin .sub (.t 36) (Xk 1)),
  Om 38 7,
  Oa 39 (.bin .sub (.t 37) (.t 38)),
  Oa 40 (.iad 1 (.t 35) (.t 39)),
  Ol 41 40,
  Of 42 2 4,
  Ol 43 42,
  Om 44 7,
  Oa 45 (.iad 1 (.t 43) (.t 44)),
  Ol 46 45,
  Oa 47 (.iad 1 (.t 26) (.t 27))]), (false, [On (.store 1 (.t 47) (.t 41)),
  On (.chk 1 (.t 28) (.t 29))]), (true, [Oa 48 (.iad 1 (.t 29) (.t 33))]), (false, [On (.store 1 (.t 48) (.t 46))])]
@[go_sem] def Q4_7 : List TO := [Om 23 7,
  Oa 24 (.bin .add (.t 23) (Xk 1)),
  Om 7 24]
def Q4_8 : TC := (.seq (.seq (.reg Q4_5) (.cond (.t 22) .skip (.exit 0))) (.seq (.block 1 (.dreg Q4_6)) (.reg Q4_7)))
@[go_sem] def Q4_9 : List TO := [Of 49 2 5,
  Ol 50 49,
  Oa 51 (.len (.t 50)),
  Oa 52 (.bin .gtr (.t 51) (Xk 0)),
  Om 53 52,
  ⟨(some 54), .mv (.t 6), some (53, true)⟩,
  ⟨(some 55), .bin .lss (.t 54) (Xk 3), some (53, true)⟩,
  Oa 56 (.pick (.t 53) (.t 55) (.c (.b false)))]
@[go_sem] def Q4_10 : List (Bool × List TO) := [(true, [Of 57 2 5,
  Ol 58 57,
  Of 59 2 5,
  Ol 60 59,
  Oa 61 (.iad 1 (.t 60) (Xk 0)),
  Ol 62 61,
  Oa 63 (.bsl 1 [.ns] 1 [(0, (.t 62))])]), (false, [Oa 64 (.app 1 (.t 58) (.t 63))]), (true, [Of 65 2 5]), (false, [On (.store 1 (.t 65) (.t 64))])]
@[go_sem] def Q4_11 : List TO := [Oa 66 (.load 3 true (.t 3)),
  Oa 67 (.call (.fn i_Q8) [(.t 66)]),
  Oa 68 (.bin .eql (.t 67) (Xk 0)),
  Om 69 68,
  ⟨(some 70), .load 3 true (.t 4), some (69, true)⟩,
  ⟨(some 71), .call (.fn i_Q8) [(.t 70)], some (69, true)⟩,
  ⟨(some 72), .bin .eql (.t 71) (Xk 0), some (69, true)⟩,
  Oa 73 (.pick (.t 69) (.t 72) (.c (.b false))),
  Om 74 73,
  ⟨(some 75), .load 3 true (.t 5), some (74, true)⟩,
  ⟨(some 76), .call (.fn i_Q8) [(.t 75)], some (74, true)⟩,
  ⟨(some 77), .bin .eql (.t 76) (Xk 0), some (74, true)⟩,
  Oa 78 (.pick (.t 74) (.t 77) (.c (.b false))),
  Om 79 78,
  ⟨(some 80), .mv (.t 6), some (79, true)⟩,
  ⟨(some 81), .bin .gtr (.t 80) (Xk 0), some (79, true)⟩,
  Oa 82 (.pick (.t 79) (.t 81) (.c (.b false))),
  Om 83 82,
  ⟨(some 84), .call (.fn i_Q12) [], some (83, true)⟩,
  Oa 85 (.pick (.t 83) (.t 84) (.c (.b false))),
  Om 2 85]
def t_Q4 : TF := ⟨86, [.t 2], (.seq (.reg Q4_0) (.seq (.reg Q4_1) (.seq (.dreg Q4_2) (.seq (.reg Q4_3) (.seq (.seq (.reg Q4_4) (.block 0 (.loop Q4_8))) (.seq (.seq (.reg Q4_9) (.cond (.t 56) (.dreg Q4_10) .skip)) (.seq (.reg Q4_11) .ret)))))))⟩
/-! horarium/horariumlaw12.tape -/
@[go_sem] def Q5_0 : List TO := [Oa 2 (.mv (.c .ns))]
@[go_sem] def Q5_1 : List TO := [Oa 3 (.mv (.c .ns))]
@[go_sem] def Q5_2 : List TO := [Oa 4 (.mv (Xk 0))]
@[go_sem] def Q5_3 : List TO := [Om 5 4,
  Oa 6 (.bin .lss (.t 5) (Xk 400))]
@[go_sem] def Q5_4 : List TO := [Om 9 3,
  Om 10 4,
  Om 11 4,
  Oa 12 (.bin .mul (.t 10) (.t 11)),
  Oa 13 (.bin .mul (.t 12) (Xk 7)),
  Om 14 0,
  Oa 15 (.bin .mul (.t 14) (Xk 61)),
  Oa 16 (.bin .add (.t 13) (.t 15)),
  Om 17 4,
  Om 18 0,
  Oa 19 (.bin .mul (.t 17) (.t 18)),
  Oa 20 (.bin .add (.t 16) (.t 19)),
  Oa 21 (.bin .rem (.t 20) (Xk 211)),
  Oa 22 (.bsl 1 [(.i .i64 0)] 1 [(0, (.t 21))]),
  Oa 23 (.app 1 (.t 9) (.t 22)),
  Om 3 23]
@[go_sem] def Q5_5 : List TO := [Om 7 4,
  Oa 8 (.bin .add (.t 7) (Xk 1)),
  Om 4 8]
def Q5_6 : TC := (.seq (.seq (.reg Q5_3) (.cond (.t 6) .skip (.exit 0))) (.seq (.block 1 (.reg Q5_4)) (.reg Q5_5)))
@[go_sem] def Q5_7 : List TO := [Om 24 3,
  Om 2 24]
def t_Q5 : TF := ⟨25, [.t 2], (.seq (.reg Q5_0) (.seq (.reg Q5_1) (.seq (.seq (.reg Q5_2) (.block 0 (.loop Q5_6))) (.seq (.reg Q5_7) .ret))))⟩
/-! (*horarium/horariumkeep.Tape).Config -/
@[go_sem] def Q6_0 : List TO := [Oa 2 (.alloc [.ns, .ns, .ns])]
@[go_sem] def Q6_1 : List TO := [Oa 3 (.alloc [.ns, .ns, .ns])]
@[go_sem] def Q6_2 : List TO := [Om 13 0,
  Oa 14 (.call (.fn i_Q20) [(.t 13), (Xk 4)]),
  Oa 15 (.bin .add (Xk 1) (.t 14)),
  Om 4 15]
@[go_sem] def Q6_3 : List TO := [Oa 5 (.mv (Xk 0))]
@[go_sem] def Q6_4 : List TO := [Om 16 5,
  Om 17 4,
  Oa 18 (.bin .lss (.t 16) (.t 17))]
@[go_sem] def Q6_5 : List TO := [Om 21 5,
  Oa 22 (.bin .add (Xk 97) (.t 21)),
  Oa 23 (.conv .i32 (.t 22)),
  Oa 24 (.i2s (.t 23)),
  Oa 25 (.bin .add (.c (.s ⟨#[112]⟩)) (.t 24)),
  Om 26 0,
  Oa 27 (.call (.fn i_Q20) [(.t 26), (Xk 5)]),
  Oa 28 (.bin .eql (.t 27) (Xk 0)),
  Om 29 0,
  Oa 30 (.call (.fn i_Q20) [(.t 29), (Xk 8)]),
  Oa 31 (.bin .eql (.t 30) (Xk 0)),
  Oa 32 (.build [(.s ⟨#[]⟩), (.i .i64 0), (.i .i64 0), (.b false), (.b false), .ns, (.i .i64 0), (.i .i64 0), (.i .i64 0), (.i .i64 0), (.i .i64 0)] [(0, 1, (.t 25)), (3, 1, (.t 28)), (4, 1, (.t 31))]),
  Oa 6 (.alloc [(.s ⟨#[]⟩), (.i .i64 0), (.i .i64 0), (.b false), (.b false), .ns, (.i .i64 0), (.i .i64 0), (.i .i64 0), (.i .i64 0), (.i .i64 0)]),
  On (.store 11 (.t 6) (.t 32))]
@[go_sem] def Q6_6 : List TO := [Om 33 0,
  Oa 34 (.call (.fn i_Q20) [(.t 33), (Xk 2)]),
  Om 7 34]
@[go_sem] def Q6_7 : List TO := [Om 35 7,
  Oa 36 (.bin .geq (.t 35) (Xk 0))]
@[go_sem] def Q6_8 : List (Bool × List TO) := [(true, [Of 39 5 6,
  Oa 40 (.fload 1 (.t 39)),
  Om 41 0]), (false, [Oa 42 (.call (.fn i_Q20) [(.t 41), (Xk 6)]),
  On (.chk 1 (.t 39) (.t 40))]), (true, [Oa 43 (.bin .mul (Xk 4) (.t 42)),
  Om 44 0]), (false, [Oa 45 (.call (.fn i_Q20) [(.t 44), (Xk 4)]),
  On (.chk 1 (.t 39) (.t 40))]), (true, [Oa 46 (.build [(.i .i64 0), (.i .i64 0)] [(0, 1, (.t 43)), (1, 1, (.t 45))]),
  Oa 47 (.bsl 2 [(.i .i64 0), (.i .i64 0)] 1 [(0, (.t 46))])]), (false, [Oa 48 (.app 2 (.t 40) (.t 47))]), (true, [Of 49 5 6]), (false, [On (.store 1 (.t 49) (.t 48))])]
@[go_sem] def Q6_9 : List TO := [Om 37 7,
  Oa 38 (.bin .sub (.t 37) (Xk 1)),
  Om 7 38]
def Q6_10 : TC := (.seq (.seq (.reg Q6_7) (.cond (.t 36) .skip (.exit 2))) (.seq (.block 3 (.dreg Q6_8)) (.reg Q6_9)))
@[go_sem] def Q6_11 : List TO := [Oa 50 (.mv (Xk 0))]
@[go_sem] def Q6_12 : List TO := [Oa 51 (.bin .lss (.t 50) (Xk 5))]
@[go_sem] def Q6_13 : List TO := [Om 52 50,
  Om 8 52]
@[go_sem] def Q6_14 : List TO := [Om 53 8,
  Oa 54 (.bsl 1 [(.i .i64 0)] 5 [(0, (Xk 0)), (1, (Xk 1)), (2, (Xk 0)), (3, (Xk 2)), (4, (Xk 1))]),
  Om 55 0,
  Oa 56 (.call (.fn i_Q20) [(.t 55), (Xk 5)]),
  Oa 57 (.iad 1 (.t 54) (.t 56)),
  Ol 58 57,
  Of 59 6 6,
  Oa 60 (.iada 1 5 (.t 59) (.t 53)),
  On (.store 1 (.t 60) (.t 58))]
@[go_sem] def Q6_15 : List TO := [Oa 61 (.bin .add (.t 50) (Xk 1)),
  Om 50 61]
def Q6_16 : TC := (.seq (.reg Q6_12) (.seq (.cond (.t 51) .skip (.exit 4)) (.seq (.block 5 (.seq (.reg Q6_13) (.reg Q6_14))) (.reg Q6_15))))
@[go_sem] def Q6_17 : List TO := [Of 62 0 3,
  Ol 63 62,
  Oa 64 (.load 11 true (.t 6)),
  Oa 65 (.bsl 11 [(.s ⟨#[]⟩), (.i .i64 0), (.i .i64 0), (.b false), (.b false), .ns, (.i .i64 0), (.i .i64 0), (.i .i64 0), (.i .i64 0), (.i .i64 0)] 1 [(0, (.t 64))]),
  Oa 66 (.app 11 (.t 63) (.t 65)),
  Of 67 0 3,
  On (.store 1 (.t 67) (.t 66))]
@[go_sem] def Q6_18 : List TO := [Om 19 5,
  Oa 20 (.bin .add (.t 19) (Xk 1)),
  Om 5 20]
def Q6_19 : TC := (.seq (.seq (.reg Q6_4) (.cond (.t 18) .skip (.exit 0))) (.seq (.block 1 (.seq (.reg Q6_5) (.seq (.seq (.reg Q6_6) (.block 2 (.loop Q6_10))) (.seq (.seq (.reg Q6_11) (.block 4 (.loop Q6_16))) (.reg Q6_17))))) (.reg Q6_18)))
@[go_sem] def Q6_20 : List TO := [Om 68 0,
  Oa 69 (.call (.fn i_Q20) [(.t 68), (Xk 4)]),
  Om 9 69]
@[go_sem] def Q6_21 : List TO := [Om 70 9,
  Oa 71 (.bin .gtr (.t 70) (Xk 0)),
  Om 72 71,
  ⟨(some 73), .mv (.t 4), some (72, true)⟩,
  ⟨(some 74), .bin .gtr (.t 73) (Xk 1), some (72, true)⟩,
  Oa 75 (.pick (.t 72) (.t 74) (.c (.b false)))]
@[go_sem] def Q6_22 : List TO := [Om 78 0,
  Om 79 4,
  Oa 80 (.call (.fn i_Q20) [(.t 78), (.t 79)]),
  Om 10 80]
@[go_sem] def Q6_23 : List (Bool × List TO) := [(true, [Om 81 10,
  Om 82 10,
  Oa 83 (.bin .add (.t 82) (Xk 1)),
  Om 84 0,
  Om 85 4,
  Oa 86 (.bin .sub (.t 85) (Xk 1)),
  Om 89 4,
  Om 91 0,
  Oa 94 (.bslc 1 [(.i .u32 0)] 3 [(0, (.c (.i .u32 4294967295))), (1, (.c (.i .u32 200))), (2, (.c (.i .u32 3)))]),
  Om 95 0,
  Oa 11 (.alc [(.i .i64 0), (.i .i64 0), (.b false), (.i .i64 0), (.i .u32 0), (.i .i64 0)])]), (false, [Oa 87 (.call (.fn i_Q20) [(.t 84), (.t 86)]),
  On (.chkb 1 [(.i .u32 0)] 3 [(0, (.c (.i .u32 4294967295))), (1, (.c (.i .u32 200))), (2, (.c (.i .u32 3)))] (.t 94)),
  On (.chka [(.i .i64 0), (.i .i64 0), (.b false), (.i .i64 0), (.i .u32 0), (.i .i64 0)] (.t 11))]), (true, [Oa 88 (.bin .add (.t 83) (.t 87)),
  Oa 90 (.bin .rem (.t 88) (.t 89))]), (false, [Oa 92 (.call (.fn i_Q20) [(.t 91), (Xk 2)]),
  On (.chkb 1 [(.i .u32 0)] 3 [(0, (.c (.i .u32 4294967295))), (1, (.c (.i .u32 200))), (2, (.c (.i .u32 3)))] (.t 94)),
  On (.chka [(.i .i64 0), (.i .i64 0), (.b false), (.i .i64 0), (.i .u32 0), (.i .i64 0)] (.t 11))]), (true, [Oa 93 (.bin .eql (.t 92) (Xk 0))]), (false, [Oa 96 (.call (.fn i_Q20) [(.t 95), (Xk 3)]),
  On (.chkb 1 [(.i .u32 0)] 3 [(0, (.c (.i .u32 4294967295))), (1, (.c (.i .u32 200))), (2, (.c (.i .u32 3)))] (.t 94)),
  On (.chka [(.i .i64 0), (.i .i64 0), (.b false), (.i .i64 0), (.i .u32 0), (.i .i64 0)] (.t 11))]), (true, [Oa 97 (.iad 1 (.t 94) (.t 96)),
  Ol 98 97,
  Oa 99 (.build [(.i .i64 0), (.i .i64 0), (.b false), (.i .i64 0), (.i .u32 0), (.i .i64 0)] [(0, 1, (.t 81)), (1, 1, (.t 90)), (2, 1, (.t 93)), (4, 1, (.t 98))])]), (false, [On (.store 6 (.t 11) (.t 99))])]
@[go_sem] def Q6_24 : List TO := [Of 100 2 11,
  Ol 101 100]
@[go_sem] def Q6_25 : List TO := [Om 102 0,
  Oa 103 (.call (.fn i_Q20) [(.t 102), (Xk 3)]),
  Oa 104 (.bin .add (Xk 1) (.t 103)),
  Of 105 3 11,
  On (.store 1 (.t 105) (.t 104))]
@[go_sem] def Q6_26 : List TO := [Of 106 1 3,
  Ol 107 106,
  Oa 108 (.load 6 true (.t 11)),
  Oa 109 (.bsl 6 [(.i .i64 0), (.i .i64 0), (.b false), (.i .i64 0), (.i .u32 0), (.i .i64 0)] 1 [(0, (.t 108))]),
  Oa 110 (.app 6 (.t 107) (.t 109)),
  Of 111 1 3,
  On (.store 1 (.t 111) (.t 110))]
@[go_sem] def Q6_27 : List TO := [Om 76 9,
  Oa 77 (.bin .sub (.t 76) (Xk 1)),
  Om 9 77]
def Q6_28 : TC := (.seq (.seq (.reg Q6_21) (.cond (.t 75) .skip (.exit 6))) (.seq (.block 7 (.seq (.reg Q6_22) (.seq (.dreg Q6_23) (.seq (.seq (.reg Q6_24) (.cond (.t 101) (.reg Q6_25) .skip)) (.reg Q6_26))))) (.reg Q6_27)))
@[go_sem] def Q6_29 : List TO := [Om 112 0,
  Oa 113 (.call (.fn i_Q20) [(.t 112), (Xk 2)]),
  Om 12 113]
@[go_sem] def Q6_30 : List TO := [Om 114 12,
  Oa 115 (.bin .geq (.t 114) (Xk 0))]
@[go_sem] def Q6_31 : List (Bool × List TO) := [(true, [Of 118 2 3,
  Oa 119 (.fload 1 (.t 118)),
  Om 120 0,
  Om 121 4]), (false, [Oa 122 (.call (.fn i_Q21) [(.t 120), (.t 121)]),
  On (.chk 1 (.t 118) (.t 119))]), (true, [Oa 123 (.bsl 1 [.ns] 1 [(0, (.t 122))])]), (false, [Oa 124 (.app 1 (.t 119) (.t 123))]), (true, [Of 125 2 3]), (false, [On (.store 1 (.t 125) (.t 124))])]
@[go_sem] def Q6_32 : List TO := [Om 116 12,
  Oa 117 (.bin .sub (.t 116) (Xk 1)),
  Om 12 117]
def Q6_33 : TC := (.seq (.seq (.reg Q6_30) (.cond (.t 115) .skip (.exit 8))) (.seq (.block 9 (.dreg Q6_31)) (.reg Q6_32)))
@[go_sem] def Q6_34 : List TO := [Om 126 0,
  Oa 127 (.load 3 true (.t 3)),
  Oa 128 (.call (.fn i_Q22) [(.t 126), (.t 127)]),
  On (.store 3 (.t 2) (.t 128))]
def t_Q6 : TF := ⟨129, [.cell 2 3 true], (.seq (.reg Q6_0) (.seq (.reg Q6_1) (.seq (.reg Q6_2) (.seq (.seq (.reg Q6_3) (.block 0 (.loop Q6_19))) (.seq (.seq (.reg Q6_20) (.block 6 (.loop Q6_28))) (.seq (.seq (.reg Q6_29) (.block 8 (.loop Q6_33))) (.seq (.reg Q6_34) .ret)))))))⟩
/-! horarium/horariumlaw12.same -/
@[go_sem] def Q7_0 : List TO := [Oa 1 (.box (.t 0)),
  Oa 2 (.mv (.c (.b false)))]
@[go_sem] def Q7_1 : List TO := [Oa 8 (.load 3 true (.t 1)),
  Oa 9 (.call (.fn i_Q19) [(.t 8)]),
  Om 7 9,
  Oa 10 (.ext (.t 7) 0),
  Oa 11 (.ext (.t 7) 1),
  Om 3 10,
  Om 4 11]
@[go_sem] def Q7_2 : List TO := [Oa 13 (.load 3 true (.t 1)),
  Oa 14 (.call (.fn i_Q23) [(.t 13)]),
  Om 12 14,
  Oa 15 (.ext (.t 12) 0),
  Oa 16 (.ext (.t 12) 1),
  Om 5 15,
  Om 6 16]
@[go_sem] def Q7_3 : List (Bool × List TO) := [(true, [Om 17 3,
  Om 18 5,
  Oa 19 (.bin .eql (.t 17) (.t 18)),
  Om 20 19,
  ⟨(some 21), .mv (.t 4), some (20, true)⟩,
  ⟨(some 22), .mv (.t 6), some (20, true)⟩,
  ⟨(some 23), .bin .eql (.t 21) (.t 22), some (20, true)⟩,
  Oa 24 (.pick (.t 20) (.t 23) (.c (.b false))),
  Om 25 24,
  ⟨(some 26), .load 3 true (.t 1), some (25, true)⟩,
  ⟨(some 27), .call (.fn i_Q8) [(.t 26)], some (25, true)⟩,
  ⟨(some 28), .mv (.t 5), some (25, true)⟩,
  ⟨(some 29), .bin .eql (.t 27) (.t 28), some (25, true)⟩,
  Oa 30 (.pick (.t 25) (.t 29) (.c (.b false))),
  Om 31 30,
  ⟨(some 32), .load 3 true (.t 1), some (31, true)⟩,
  ⟨(some 33), .load 3 true (.t 1), some (31, true)⟩,
  ⟨(some 34), .call (.fn i_Q14) [(.t 32), (.t 33)], some (31, true)⟩,
  Oa 35 (.pick (.t 31) (.t 34) (.c (.b false))),
  Om 36 35,
  ⟨(some 37), .load 3 true (.t 1), some (36, true)⟩,
  ⟨(some 38), .call (.fn i_Q16) [(.t 37)], some (36, true)⟩,
  ⟨(some 39), .load 3 true (.t 1), some (36, true)⟩,
  ⟨(some 40), .call (.fn i_Q15) [(.t 38), (.t 39)], some (36, true)⟩,
  Oa 41 (.pick (.t 36) (.t 40) (.c (.b false))),
  Om 2 41])]
def t_Q7 : TF := ⟨42, [.t 2], (.seq (.reg Q7_0) (.seq (.reg Q7_1) (.seq (.reg Q7_2) (.seq (.dreg Q7_3) .ret))))⟩
/-! horarium/config.Right -/
@[go_sem] def Q8_0 : List TO := [Oa 1 (.box (.t 0)),
  Oa 2 (.mv (Xk 0))]
@[go_sem] def Q8_1 : List TO := [Oa 6 (.load 3 true (.t 1)),
  Oa 7 (.call (.fn i_Q19) [(.t 6)]),
  Om 5 7,
  Oa 8 (.ext (.t 5) 0),
  Oa 9 (.ext (.t 5) 1),
  Om 3 8,
  Om 4 9]
@[go_sem] def Q8_2 : List TO := [Om 10 3,
  Om 2 10]
def t_Q8 : TF := ⟨11, [.t 2], (.seq (.reg Q8_0) (.seq (.reg Q8_1) (.seq (.reg Q8_2) .ret)))⟩
/-! horarium/horariumlaw12.odd -/
@[go_sem] def Q9_0 : List TO := [Oa 3 (.box (.t 0)),
  Oa 6 (.alloc [.ns, .ns, .ns])]
@[go_sem] def Q9_1 : List TO := [Oa 9 (.e0),
  Of 10 0 3,
  Ol 11 10,
  Oa 12 (.app 11 (.t 9) (.t 11)),
  Of 13 0 3,
  On (.store 1 (.t 13) (.t 12))]
@[go_sem] def Q9_2 : List TO := [Oa 14 (.e0),
  Of 15 1 3,
  Ol 16 15,
  Oa 17 (.app 6 (.t 14) (.t 16)),
  Of 18 1 3,
  On (.store 1 (.t 18) (.t 17))]
@[go_sem] def Q9_3 : List TO := [Oa 19 (.e0),
  Of 20 2 3,
  Ol 21 20,
  Oa 22 (.app 1 (.t 19) (.t 21)),
  Of 23 2 3,
  On (.store 1 (.t 23) (.t 22))]
@[go_sem] def Q9_4 : List TO := [Of 24 0 3,
  Ol 25 24,
  Of 26 0 3,
  Ol 27 26,
  Oa 28 (.len (.t 27)),
  Oa 29 (.bin .sub (.t 28) (Xk 1)),
  Oa 30 (.iad 11 (.t 25) (.t 29)),
  Om 7 30]
@[go_sem] def Q9_5 : List TO := [Om 31 7,
  Oa 32 (.e0),
  Om 33 7,
  Oa 34 (.nck (.t 33)),
  Of 35 5 34,
  Ol 36 35,
  Oa 37 (.app 2 (.t 32) (.t 36)),
  Oa 38 (.nck (.t 31)),
  Of 39 5 38,
  On (.store 1 (.t 39) (.t 37))]
@[go_sem] def Q9_6 : List TO := [Om 40 1,
  Oa 41 (.call (.fn i_Q18) [(.t 40), (Xk 0), (Xk 15)]),
  Om 8 41]
@[go_sem] def Q9_7 : List TO := [Om 42 7,
  Oa 43 (.nck (.t 42)),
  Of 44 5 43,
  Ol 45 44,
  Oa 46 (.len (.t 45)),
  Oa 47 (.bin .eql (.t 46) (Xk 0)),
  Om 48 47,
  ⟨(some 49), .mv (.t 8), some (48, true)⟩,
  ⟨(some 50), .bin .eql (.t 49) (Xk 4), some (48, true)⟩,
  ⟨(some 51), .mv (.t 50), some (48, true)⟩,
  ⟨(some 52), .mv (.t 8), some (51, false)⟩,
  ⟨(some 53), .bin .eql (.t 52) (Xk 5), some (51, false)⟩,
  ⟨(some 54), .pick (.t 51) (.c (.b true)) (.t 53), some (48, true)⟩,
  Oa 55 (.pick (.t 48) (.t 54) (.c (.b false))),
  Om 56 55,
  ⟨(some 57), .fad 2 (.t 3), some (56, false)⟩,
  ⟨(some 58), .load 1 false (.t 57), some (56, false)⟩,
  ⟨(some 59), .len (.t 58), some (56, false)⟩,
  ⟨(some 60), .bin .eql (.t 59) (Xk 0), some (56, false)⟩,
  ⟨(some 61), .mv (.t 60), some (56, false)⟩,
  ⟨(some 62), .mv (.t 8), some (61, true)⟩,
  ⟨(some 63), .bin .eql (.t 62) (Xk 11), some (61, true)⟩,
  ⟨(some 64), .mv (.t 63), some (61, true)⟩,
  ⟨(some 65), .mv (.t 8), some (64, false)⟩,
  ⟨(some 66), .bin .eql (.t 65) (Xk 12), some (64, false)⟩,
  ⟨(some 67), .pick (.t 64) (.c (.b true)) (.t 66), some (61, true)⟩,
  ⟨(some 68), .mv (.t 67), some (61, true)⟩,
  ⟨(some 69), .mv (.t 8), some (68, false)⟩,
  ⟨(some 70), .bin .eql (.t 69) (Xk 14), some (68, false)⟩,
  ⟨(some 71), .pick (.t 68) (.c (.b true)) (.t 70), some (61, true)⟩,
  ⟨(some 72), .pick (.t 61) (.t 71) (.c (.b false)), some (56, false)⟩,
  Oa 73 (.pick (.t 56) (.c (.b true)) (.t 72))]
@[go_sem] def Q9_8 : List TO := [Oa 74 (.load 3 true (.t 3)),
  On (.store 3 (.t 6) (.t 74))]
@[go_sem] def Q9_9 : List TO := [Om 75 8]
@[go_sem] def Q9_10 : List TO := [Oa 94 (.bin .eql (.t 75) (Xk 0)),
  Om 93 94]
@[go_sem] def Q9_11 : List TO := [Om 95 7,
  ⟨(some 96), .bsl 1 [(.s ⟨#[]⟩)] 7 [(0, (.c (.s ⟨#[]⟩))), (1, (.c (.s ⟨#[49, 97]⟩))), (2, (.c (.s ⟨#[112, 97]⟩))), (3, (.c (.s ⟨#[111, 107, 95, 49]⟩))), (4, (.c (.s ⟨#[116, 104, 105, 114, 116, 101, 101, 110, 108, 111, 110, 103, 95]⟩))), (5, (.c (.s ⟨#[65]⟩))), (6, (.c (.s ⟨#[116, 119, 101, 108, 118, 101, 95, 108, 111, 110, 103, 95]⟩)))], none⟩,
  Om 97 2,
  Oa 98 (.bin .and (.t 97) (Xk 15)),
  Oa 99 (.call (.fn i_Q18) [(.t 98), (Xk 0), (Xk 6)]),
  Oa 100 (.iad 1 (.t 96) (.t 99)),
  Ol 101 100,
  Oa 102 (.nck (.t 95)),
  Of 103 0 102,
  On (.store 1 (.t 103) (.t 101))]
@[go_sem] def Q9_12 : List TO := [Oa 105 (.bin .eql (.t 75) (Xk 1)),
  Om 104 105]
@[go_sem] def Q9_13 : List TO := [Om 106 7,
  Om 107 2,
  Oa 108 (.nck (.t 106)),
  Of 109 1 108,
  On (.store 1 (.t 109) (.t 107))]
@[go_sem] def Q9_14 : List TO := [Oa 111 (.bin .eql (.t 75) (Xk 2)),
  Om 110 111]
@[go_sem] def Q9_15 : List TO := [Om 112 7,
  Om 113 2,
  Oa 114 (.nck (.t 112)),
  Of 115 2 114,
  On (.store 1 (.t 115) (.t 113))]
@[go_sem] def Q9_16 : List TO := [Oa 117 (.bin .eql (.t 75) (Xk 3)),
  Om 116 117]
@[go_sem] def Q9_17 : List TO := [Om 118 7,
  Om 119 2,
  Oa 120 (.bin .and (.t 119) (Xk 3)),
  Om 121 2,
  Oa 122 (.nck (.t 118)),
  Of 123 6 122,
  Oa 124 (.iada 1 5 (.t 123) (.t 120)),
  On (.store 1 (.t 124) (.t 121))]
@[go_sem] def Q9_18 : List TO := [Oa 126 (.bin .eql (.t 75) (Xk 4)),
  Om 125 126]
@[go_sem] def Q9_19 : List TO := [Om 127 7,
  Oa 128 (.nck (.t 127)),
  Of 129 5 128,
  Ol 130 129,
  Om 131 2,
  Oa 132 (.iad 2 (.t 130) (Xk 0)),
  Of 133 0 132,
  On (.store 1 (.t 133) (.t 131))]
@[go_sem] def Q9_20 : List TO := [Oa 135 (.bin .eql (.t 75) (Xk 5)),
  Om 134 135]
@[go_sem] def Q9_21 : List TO := [Om 136 7,
  Oa 137 (.nck (.t 136)),
  Of 138 5 137,
  Ol 139 138,
  Om 140 2,
  Oa 141 (.iad 2 (.t 139) (Xk 0)),
  Of 142 1 141,
  On (.store 1 (.t 142) (.t 140))]
@[go_sem] def Q9_22 : List TO := [Oa 144 (.bin .eql (.t 75) (Xk 6)),
  Om 143 144]
@[go_sem] def Q9_23 : List TO := [Om 145 7,
  Oa 146 (.nck (.t 145)),
  Of 147 5 146,
  On (.store 1 (.t 147) (.c .ns))]
@[go_sem] def Q9_24 : List TO := [Oa 149 (.bin .eql (.t 75) (Xk 7)),
  Om 148 149]
@[go_sem] def Q9_25 : List TO := [Om 150 7,
  Oa 151 (.nck (.t 150)),
  Of 152 5 151,
  Ol 153 152,
  Oa 154 (.len (.t 153)),
  Om 155 2,
  Oa 156 (.bin .and (.t 155) (Xk 1)),
  Oa 157 (.bin .add (Xk 3) (.t 156)),
  Oa 158 (.bin .lss (.t 154) (.t 157))]
@[go_sem] def Q9_26 : List TO := [Om 159 7,
  Om 160 7,
  Oa 161 (.nck (.t 160)),
  Of 162 5 161,
  Ol 163 162,
  Oa 164 (.build [(.i .i64 0), (.i .i64 0)] []),
  Oa 165 (.bsl 2 [(.i .i64 0), (.i .i64 0)] 1 [(0, (.t 164))]),
  Oa 166 (.app 2 (.t 163) (.t 165)),
  Oa 167 (.nck (.t 159)),
  Of 168 5 167,
  On (.store 1 (.t 168) (.t 166))]
def Q9_27 : TC := (.seq (.seq (.reg Q9_25) (.cond (.t 158) .skip (.exit 3))) (.block 4 (.reg Q9_26)))
@[go_sem] def Q9_28 : List TO := [Oa 170 (.bin .eql (.t 75) (Xk 8)),
  Om 169 170]
@[go_sem] def Q9_29 : List TO := [Of 171 1 3,
  Ol 172 171,
  Om 173 2,
  Om 174 2,
  Oa 175 (.bin .and (.t 174) (Xk 1)),
  Oa 176 (.bin .eql (.t 175) (Xk 0)),
  Om 177 2,
  Oa 178 (.bin .and (.t 177) (Xk 1)),
  Oa 179 (.bin .sub (Xk 1) (.t 178)),
  Oa 180 (.build [(.i .i64 0), (.i .i64 0), (.b false), (.i .i64 0), (.i .u32 0), (.i .i64 0)] [(0, 1, (.t 173)), (1, 1, (Xk 0)), (2, 1, (.t 176)), (3, 1, (.t 179))]),
  Oa 181 (.bsl 6 [(.i .i64 0), (.i .i64 0), (.b false), (.i .i64 0), (.i .u32 0), (.i .i64 0)] 1 [(0, (.t 180))]),
  Oa 182 (.app 6 (.t 172) (.t 181)),
  Of 183 1 3,
  On (.store 1 (.t 183) (.t 182))]
@[go_sem] def Q9_30 : List TO := [Oa 185 (.bin .eql (.t 75) (Xk 9)),
  Om 184 185]
@[go_sem] def Q9_31 : List TO := [Of 186 1 3,
  Ol 187 186,
  Of 188 0 3,
  Ol 189 188,
  Oa 190 (.len (.t 189)),
  Oa 191 (.bin .sub (.t 190) (Xk 1)),
  Om 192 2,
  Oa 193 (.bin .and (.t 192) (Xk 1)),
  Oa 194 (.bin .eql (.t 193) (Xk 0)),
  Om 195 2,
  Oa 196 (.build [(.i .i64 0), (.i .i64 0), (.b false), (.i .i64 0), (.i .u32 0), (.i .i64 0)] [(0, 1, (Xk 0)), (1, 1, (.t 191)), (2, 1, (.t 194)), (3, 1, (.t 195))]),
  Oa 197 (.bsl 6 [(.i .i64 0), (.i .i64 0), (.b false), (.i .i64 0), (.i .u32 0), (.i .i64 0)] 1 [(0, (.t 196))]),
  Oa 198 (.app 6 (.t 187) (.t 197)),
  Of 199 1 3,
  On (.store 1 (.t 199) (.t 198))]
@[go_sem] def Q9_32 : List TO := [Oa 201 (.bin .eql (.t 75) (Xk 10)),
  Om 200 201]
@[go_sem] def Q9_33 : List TO := [Of 202 1 3,
  Ol 203 202,
  Of 204 0 3,
  Ol 205 204,
  Oa 206 (.len (.t 205)),
  Oa 207 (.bin .sub (.t 206) (Xk 1)),
  Om 208 2,
  Oa 209 (.build [(.i .i64 0), (.i .i64 0), (.b false), (.i .i64 0), (.i .u32 0), (.i .i64 0)] [(0, 1, (.t 207)), (1, 1, (Xk 0)), (5, 1, (.t 208))]),
  Oa 210 (.bsl 6 [(.i .i64 0), (.i .i64 0), (.b false), (.i .i64 0), (.i .u32 0), (.i .i64 0)] 1 [(0, (.t 209))]),
  Oa 211 (.app 6 (.t 203) (.t 210)),
  Of 212 1 3,
  On (.store 1 (.t 212) (.t 211))]
@[go_sem] def Q9_34 : List TO := [Oa 214 (.bin .eql (.t 75) (Xk 11)),
  Om 213 214]
@[go_sem] def Q9_35 : List (Bool × List TO) := [(true, [Of 215 2 3,
  Oa 216 (.fload 1 (.t 215)),
  Oa 217 (.e0),
  Of 218 2 3,
  Ol 219 218,
  Oa 220 (.iad 1 (.t 219) (Xk 0)),
  Ol 221 220,
  Oa 222 (.app 3 (.t 217) (.t 221)),
  Om 223 2,
  Oa 224 (.build [(.i .i64 0), (.i .i64 0), (.i .i64 0)] [(0, 1, (Xk 2)), (2, 1, (.t 223))]),
  Oa 225 (.bsl 3 [(.i .i64 0), (.i .i64 0), (.i .i64 0)] 1 [(0, (.t 224))])]), (false, [Oa 226 (.app 3 (.t 222) (.t 225)),
  On (.chk 1 (.t 215) (.t 216))]), (true, [Oa 227 (.iad 1 (.t 216) (Xk 0))]), (false, [On (.store 1 (.t 227) (.t 226))])]
@[go_sem] def Q9_36 : List TO := [Oa 229 (.bin .eql (.t 75) (Xk 12)),
  Om 228 229]
@[go_sem] def Q9_37 : List TO := [Of 230 2 3,
  Ol 231 230,
  Om 232 2,
  Oa 233 (.bin .and (.t 232) (Xk 7)),
  Om 234 2,
  Oa 235 (.bin .and (.t 234) (Xk 63)),
  Oa 236 (.bin .add (Xk 1) (.t 235)),
  Oa 237 (.build [(.i .i64 0), (.i .i64 0), (.i .i64 0)] [(0, 1, (Xk 1)), (1, 1, (.t 233)), (2, 1, (.t 236))]),
  Oa 238 (.bsl 3 [(.i .i64 0), (.i .i64 0), (.i .i64 0)] 1 [(0, (.t 237))]),
  Oa 239 (.iad 1 (.t 231) (Xk 0)),
  On (.store 1 (.t 239) (.t 238))]
@[go_sem] def Q9_38 : List TO := [Oa 241 (.bin .eql (.t 75) (Xk 13)),
  Om 240 241]
@[go_sem] def Q9_39 : List TO := [Of 242 2 3,
  On (.store 1 (.t 242) (.c .ns))]
@[go_sem] def Q9_40 : List TO := [Oa 244 (.bin .eql (.t 75) (Xk 14)),
  Om 243 244]
@[go_sem] def Q9_41 : List TO := [Of 245 2 3,
  Ol 246 245,
  Oa 247 (.len (.t 246)),
  Om 248 2,
  Oa 249 (.bin .and (.t 248) (Xk 1)),
  Oa 250 (.bin .add (Xk 3) (.t 249)),
  Oa 251 (.bin .lss (.t 247) (.t 250))]
@[go_sem] def Q9_42 : List (Bool × List TO) := [(true, [Of 252 2 3,
  Ol 253 252,
  Of 254 2 3,
  Ol 255 254,
  Oa 256 (.iad 1 (.t 255) (Xk 0)),
  Ol 257 256,
  Oa 258 (.bsl 1 [.ns] 1 [(0, (.t 257))])]), (false, [Oa 259 (.app 1 (.t 253) (.t 258))]), (true, [Of 260 2 3]), (false, [On (.store 1 (.t 260) (.t 259))])]
def Q9_43 : TC := (.seq (.seq (.reg Q9_41) (.cond (.t 251) .skip (.exit 5))) (.block 6 (.dreg Q9_42)))
@[go_sem] def Q9_44 : List TO := [Of 76 1 3,
  Ol 77 76,
  Oa 78 (.len (.t 77)),
  Om 79 2,
  Oa 80 (.bin .and (.t 79) (Xk 1)),
  Oa 81 (.bin .add (Xk 8) (.t 80)),
  Oa 82 (.bin .lss (.t 78) (.t 81))]
@[go_sem] def Q9_45 : List TO := [Of 83 1 3,
  Ol 84 83,
  Of 85 0 3,
  Ol 86 85,
  Oa 87 (.len (.t 86)),
  Oa 88 (.bin .sub (.t 87) (Xk 1)),
  Oa 89 (.build [(.i .i64 0), (.i .i64 0), (.b false), (.i .i64 0), (.i .u32 0), (.i .i64 0)] [(0, 1, (Xk 0)), (1, 1, (.t 88))]),
  Oa 90 (.bsl 6 [(.i .i64 0), (.i .i64 0), (.b false), (.i .i64 0), (.i .u32 0), (.i .i64 0)] 1 [(0, (.t 89))]),
  Oa 91 (.app 6 (.t 84) (.t 90)),
  Of 92 1 3,
  On (.store 1 (.t 92) (.t 91))]
def Q9_46 : TC := (.seq (.seq (.reg Q9_44) (.cond (.t 82) .skip (.exit 1))) (.block 2 (.reg Q9_45)))
@[go_sem] def Q9_47 : List TO := [Oa 261 (.load 3 true (.t 3)),
  On (.store 3 (.t 6) (.t 261))]
def t_Q9 : TF := ⟨262, [.cell 6 3 true], (.seq (.reg Q9_0) (.seq (.reg Q9_1) (.seq (.reg Q9_2) (.seq (.reg Q9_3) (.seq (.reg Q9_4) (.seq (.reg Q9_5) (.seq (.reg Q9_6) (.seq (.seq (.reg Q9_7) (.cond (.t 73) (.seq (.reg Q9_8) .ret) .skip)) (.seq (.seq (.reg Q9_9) (.block 0 (.seq (.reg Q9_10) (.cond (.t 93) (.reg Q9_11) (.seq (.reg Q9_12) (.cond (.t 104) (.reg Q9_13) (.seq (.reg Q9_14) (.cond (.t 110) (.reg Q9_15) (.seq (.reg Q9_16) (.cond (.t 116) (.reg Q9_17) (.seq (.reg Q9_18) (.cond (.t 125) (.reg Q9_19) (.seq (.reg Q9_20) (.cond (.t 134) (.reg Q9_21) (.seq (.reg Q9_22) (.cond (.t 143) (.reg Q9_23) (.seq (.reg Q9_24) (.cond (.t 148) (.block 3 (.loop Q9_27)) (.seq (.reg Q9_28) (.cond (.t 169) (.reg Q9_29) (.seq (.reg Q9_30) (.cond (.t 184) (.reg Q9_31) (.seq (.reg Q9_32) (.cond (.t 200) (.reg Q9_33) (.seq (.reg Q9_34) (.cond (.t 213) (.dreg Q9_35) (.seq (.reg Q9_36) (.cond (.t 228) (.reg Q9_37) (.seq (.reg Q9_38) (.cond (.t 240) (.reg Q9_39) (.seq (.reg Q9_40) (.cond (.t 243) (.block 5 (.loop Q9_43)) (.block 1 (.loop Q9_46)))))))))))))))))))))))))))))))))) (.seq (.reg Q9_47) .ret))))))))))⟩
/-! horarium/config.Name -/
@[go_sem] def Q10_0 : List TO := [Oa 2 (.mv (.c (.b false)))]
@[go_sem] def Q10_1 : List TO := [Om 6 0,
  Oa 7 (.slen (.t 6)),
  Oa 8 (.mv (Xk 0))]
@[go_sem] def Q10_2 : List TO := [Oa 9 (.bin .lss (.t 8) (.t 7))]
@[go_sem] def Q10_3 : List TO := [Om 10 8,
  Om 3 10]
@[go_sem] def Q10_4 : List TO := [Om 11 0,
  Om 12 3,
  Oa 13 (.sidx (.t 11) (.t 12)),
  Om 4 13]
@[go_sem] def Q10_5 : List TO := [Om 14 4,
  Oa 15 (.bin .geq (.t 14) (.c (.i .u8 97))),
  Om 16 15,
  ⟨(some 17), .mv (.t 4), some (16, true)⟩,
  ⟨(some 18), .bin .leq (.t 17) (.c (.i .u8 122)), some (16, true)⟩,
  Oa 19 (.pick (.t 16) (.t 18) (.c (.b false))),
  Om 5 19]
@[go_sem] def Q10_6 : List TO := [Om 20 5,
  Oa 21 (.un .not (.t 20)),
  Om 22 21,
  ⟨(some 23), .mv (.t 3), some (22, true)⟩,
  ⟨(some 24), .bin .eql (.t 23) (Xk 0), some (22, true)⟩,
  ⟨(some 25), .mv (.t 24), some (22, true)⟩,
  ⟨(some 26), .mv (.t 4), some (25, false)⟩,
  ⟨(some 27), .bin .lss (.t 26) (.c (.i .u8 48)), some (25, false)⟩,
  ⟨(some 28), .mv (.t 27), some (25, false)⟩,
  ⟨(some 29), .mv (.t 4), some (28, false)⟩,
  ⟨(some 30), .bin .gtr (.t 29) (.c (.i .u8 57)), some (28, false)⟩,
  ⟨(some 31), .pick (.t 28) (.c (.b true)) (.t 30), some (25, false)⟩,
  ⟨(some 32), .mv (.t 31), some (25, false)⟩,
  ⟨(some 33), .mv (.t 4), some (32, true)⟩,
  ⟨(some 34), .bin .neq (.t 33) (.c (.i .u8 95)), some (32, true)⟩,
  ⟨(some 35), .pick (.t 32) (.t 34) (.c (.b false)), some (25, false)⟩,
  ⟨(some 36), .pick (.t 25) (.c (.b true)) (.t 35), some (22, true)⟩,
  Oa 37 (.pick (.t 22) (.t 36) (.c (.b false)))]
@[go_sem] def Q10_7 : List TO := [Oa 2 (.mv (.c (.b false)))]
@[go_sem] def Q10_8 : List TO := [Oa 38 (.bin .add (.t 8) (Xk 1)),
  Om 8 38]
def Q10_9 : TC := (.seq (.reg Q10_2) (.seq (.cond (.t 9) .skip (.exit 0)) (.seq (.block 1 (.seq (.reg Q10_3) (.seq (.reg Q10_4) (.seq (.reg Q10_5) (.seq (.reg Q10_6) (.cond (.t 37) (.seq (.reg Q10_7) .ret) .skip)))))) (.reg Q10_8))))
@[go_sem] def Q10_10 : List TO := [Om 39 0,
  Oa 40 (.slen (.t 39)),
  Oa 41 (.bin .geq (.t 40) (Xk 1)),
  Om 42 41,
  ⟨(some 43), .mv (.t 0), some (42, true)⟩,
  ⟨(some 44), .slen (.t 43), some (42, true)⟩,
  ⟨(some 45), .bin .leq (.t 44) (Xk 12), some (42, true)⟩,
  Oa 46 (.pick (.t 42) (.t 45) (.c (.b false))),
  Om 2 46]
def t_Q10 : TF := ⟨47, [.t 2], (.seq (.reg Q10_0) (.seq (.seq (.reg Q10_1) (.block 0 (.loop Q10_9))) (.seq (.reg Q10_10) .ret)))⟩
/-! horarium/horariumref12.Name -/
@[go_sem] def Q11_0 : List TO := [Oa 2 (.mv (.c (.b false)))]
@[go_sem] def Q11_1 : List TO := [Oa 3 (.mv (Xk 0))]
@[go_sem] def Q11_2 : List TO := [Om 5 3,
  Om 6 0,
  Oa 7 (.slen (.t 6)),
  Oa 8 (.bin .lss (.t 5) (.t 7))]
@[go_sem] def Q11_3 : List TO := [Om 11 0,
  Om 12 3,
  Oa 13 (.sidx (.t 11) (.t 12)),
  Oa 14 (.bin .geq (.t 13) (.c (.i .u8 48))),
  Om 15 14,
  ⟨(some 16), .mv (.t 0), some (15, true)⟩,
  ⟨(some 17), .mv (.t 3), some (15, true)⟩,
  ⟨(some 18), .sidx (.t 16) (.t 17), some (15, true)⟩,
  ⟨(some 19), .bin .leq (.t 18) (.c (.i .u8 57)), some (15, true)⟩,
  Oa 20 (.pick (.t 15) (.t 19) (.c (.b false))),
  Om 21 20,
  ⟨(some 22), .mv (.t 0), some (21, false)⟩,
  ⟨(some 23), .mv (.t 3), some (21, false)⟩,
  ⟨(some 24), .sidx (.t 22) (.t 23), some (21, false)⟩,
  ⟨(some 25), .bin .eql (.t 24) (.c (.i .u8 95)), some (21, false)⟩,
  Oa 26 (.pick (.t 21) (.c (.b true)) (.t 25)),
  Om 4 26]
@[go_sem] def Q11_4 : List TO := [Om 27 0,
  Om 28 3,
  Oa 29 (.sidx (.t 27) (.t 28)),
  Oa 30 (.bin .lss (.t 29) (.c (.i .u8 97))),
  Om 31 30,
  ⟨(some 32), .mv (.t 0), some (31, false)⟩,
  ⟨(some 33), .mv (.t 3), some (31, false)⟩,
  ⟨(some 34), .sidx (.t 32) (.t 33), some (31, false)⟩,
  ⟨(some 35), .bin .gtr (.t 34) (.c (.i .u8 122)), some (31, false)⟩,
  Oa 36 (.pick (.t 31) (.c (.b true)) (.t 35)),
  Om 37 36,
  ⟨(some 38), .mv (.t 4), some (37, true)⟩,
  ⟨(some 39), .un .not (.t 38), some (37, true)⟩,
  ⟨(some 40), .mv (.t 39), some (37, true)⟩,
  ⟨(some 41), .mv (.t 3), some (40, false)⟩,
  ⟨(some 42), .bin .eql (.t 41) (Xk 0), some (40, false)⟩,
  ⟨(some 43), .pick (.t 40) (.c (.b true)) (.t 42), some (37, true)⟩,
  Oa 44 (.pick (.t 37) (.t 43) (.c (.b false)))]
@[go_sem] def Q11_5 : List TO := [Oa 2 (.mv (.c (.b false)))]
@[go_sem] def Q11_6 : List TO := [Om 9 3,
  Oa 10 (.bin .add (.t 9) (Xk 1)),
  Om 3 10]
def Q11_7 : TC := (.seq (.seq (.reg Q11_2) (.cond (.t 8) .skip (.exit 0))) (.seq (.block 1 (.seq (.reg Q11_3) (.seq (.reg Q11_4) (.cond (.t 44) (.seq (.reg Q11_5) .ret) .skip)))) (.reg Q11_6)))
@[go_sem] def Q11_8 : List TO := [Om 45 0,
  Oa 46 (.slen (.t 45)),
  Oa 47 (.bin .geq (.t 46) (Xk 1)),
  Om 48 47,
  ⟨(some 49), .mv (.t 0), some (48, true)⟩,
  ⟨(some 50), .slen (.t 49), some (48, true)⟩,
  ⟨(some 51), .bin .leq (.t 50) (Xk 12), some (48, true)⟩,
  Oa 52 (.pick (.t 48) (.t 51) (.c (.b false))),
  Om 2 52]
def t_Q11 : TF := ⟨53, [.t 2], (.seq (.reg Q11_0) (.seq (.seq (.reg Q11_1) (.block 0 (.loop Q11_7))) (.seq (.reg Q11_8) .ret)))⟩
/-! horarium/horariumlaw12.known -/
@[go_sem] def Q12_0 : List TO := [Oa 0 (.mv (.c (.b false)))]
@[go_sem] def Q12_1 : List TO := [Oa 7 (.build [(.i .i64 0), (.i .i64 0)] []),
  Oa 8 (.bsl 2 [(.i .i64 0), (.i .i64 0)] 1 [(0, (.t 7))]),
  ⟨(some 9), .build [(.s ⟨#[]⟩), (.i .i64 0), (.i .i64 0), (.b false), (.b false), .ns, (.i .i64 0), (.i .i64 0), (.i .i64 0), (.i .i64 0), (.i .i64 0)] [(0, 1, (.c (.s ⟨#[97]⟩))), (5, 1, (.t 8))], none⟩,
  Oa 10 (.bsl 11 [(.s ⟨#[]⟩), (.i .i64 0), (.i .i64 0), (.b false), (.b false), .ns, (.i .i64 0), (.i .i64 0), (.i .i64 0), (.i .i64 0), (.i .i64 0)] 1 [(0, (.t 9))]),
  Oa 11 (.build [(.i .i64 0), (.i .i64 0), (.i .i64 0)] [(0, 1, (Xk 1)), (2, 1, (Xk 1))]),
  Oa 12 (.bsl 3 [(.i .i64 0), (.i .i64 0), (.i .i64 0)] 1 [(0, (.t 11))]),
  Oa 13 (.bsl 1 [.ns] 1 [(0, (.t 12))]),
  Oa 14 (.build [.ns, .ns, .ns] [(0, 1, (.t 10)), (2, 1, (.t 13))]),
  Oa 1 (.alloc [.ns, .ns, .ns]),
  On (.store 3 (.t 1) (.t 14))]
@[go_sem] def Q12_2 : List TO := [Oa 15 (.load 3 true (.t 1)),
  Oa 2 (.alloc [.ns, .ns, .ns]),
  On (.store 3 (.t 2) (.t 15))]
@[go_sem] def Q12_3 : List TO := [Oa 16 (.build [(.i .i64 0), (.i .i64 0), (.b false), (.i .i64 0), (.i .u32 0), (.i .i64 0)] [(0, 1, (Xk 0)), (1, 1, (Xk 0))]),
  Oa 17 (.bsl 6 [(.i .i64 0), (.i .i64 0), (.b false), (.i .i64 0), (.i .u32 0), (.i .i64 0)] 1 [(0, (.t 16))]),
  Of 18 1 2,
  On (.store 1 (.t 18) (.t 17))]
@[go_sem] def Q12_4 : List TO := [Oa 20 (.load 3 true (.t 2)),
  Oa 21 (.call (.fn i_Q19) [(.t 20)]),
  Om 19 21,
  Oa 22 (.ext (.t 19) 0),
  Oa 23 (.ext (.t 19) 1),
  Om 3 22,
  Om 4 23]
@[go_sem] def Q12_5 : List TO := [Oa 25 (.load 3 true (.t 1)),
  Oa 26 (.call (.fn i_Q19) [(.t 25)]),
  Om 24 26,
  Oa 27 (.ext (.t 24) 0),
  Oa 28 (.ext (.t 24) 1),
  Om 5 27,
  Om 6 28]
@[go_sem] def Q12_6 : List (Bool × List TO) := [(true, [Oa 29 (.build [.ns, .ns, .ns] []),
  Oa 30 (.call (.fn i_Q8) [(.t 29)]),
  Oa 31 (.bin .eql (.t 30) (Xk 3)),
  Om 32 31,
  ⟨(some 33), .load 3 true (.t 1), some (32, true)⟩,
  ⟨(some 34), .call (.fn i_Q8) [(.t 33)], some (32, true)⟩,
  ⟨(some 35), .bin .eql (.t 34) (Xk 0), some (32, true)⟩,
  Oa 36 (.pick (.t 32) (.t 35) (.c (.b false))),
  Om 37 36,
  ⟨(some 38), .mv (.t 3), some (37, true)⟩,
  ⟨(some 39), .bin .eql (.t 38) (Xk 17), some (37, true)⟩,
  Oa 40 (.pick (.t 37) (.t 39) (.c (.b false))),
  Om 41 40,
  ⟨(some 42), .mv (.t 4), some (41, true)⟩,
  ⟨(some 43), .bin .eql (.t 42) (Xk 0), some (41, true)⟩,
  Oa 44 (.pick (.t 41) (.t 43) (.c (.b false))),
  Om 45 44,
  ⟨(some 46), .mv (.t 5), some (45, true)⟩,
  ⟨(some 47), .bin .eql (.t 46) (Xk 0), some (45, true)⟩,
  Oa 48 (.pick (.t 45) (.t 47) (.c (.b false))),
  Om 49 48,
  ⟨(some 50), .mv (.t 6), some (49, true)⟩,
  ⟨(some 51), .bin .eql (.t 50) (Xk (-1)), some (49, true)⟩,
  Oa 52 (.pick (.t 49) (.t 51) (.c (.b false))),
  Om 53 52,
  ⟨(some 54), .call (.fn i_Q10) [(.c (.s ⟨#[49, 97]⟩))], some (53, true)⟩,
  ⟨(some 55), .un .not (.t 54), some (53, true)⟩,
  Oa 56 (.pick (.t 53) (.t 55) (.c (.b false))),
  Om 57 56,
  ⟨(some 58), .call (.fn i_Q10) [(.c (.s ⟨#[97, 95, 49]⟩))], some (57, true)⟩,
  Oa 59 (.pick (.t 57) (.t 58) (.c (.b false))),
  Om 60 59,
  ⟨(some 61), .load 3 true (.t 1), some (60, true)⟩,
  ⟨(some 62), .load 3 true (.t 1), some (60, true)⟩,
  ⟨(some 63), .call (.fn i_Q16) [(.t 62)], some (60, true)⟩,
  ⟨(some 64), .call (.fn i_Q14) [(.t 61), (.t 63)], some (60, true)⟩,
  Oa 65 (.pick (.t 60) (.t 64) (.c (.b false))),
  Om 66 65,
  ⟨(some 67), .load 3 true (.t 1), some (66, true)⟩,
  ⟨(some 68), .load 3 true (.t 2), some (66, true)⟩,
  ⟨(some 69), .call (.fn i_Q14) [(.t 67), (.t 68)], some (66, true)⟩,
  ⟨(some 70), .un .not (.t 69), some (66, true)⟩,
  Oa 71 (.pick (.t 66) (.t 70) (.c (.b false))),
  Om 0 71])]
def t_Q12 : TF := ⟨72, [.t 0], (.seq (.reg Q12_0) (.seq (.reg Q12_1) (.seq (.reg Q12_2) (.seq (.reg Q12_3) (.seq (.reg Q12_4) (.seq (.reg Q12_5) (.seq (.dreg Q12_6) .ret)))))))⟩
/-! horarium/horariumlaw12.few -/
@[go_sem] def Q13_0 : List TO := [Oa 1 (.box (.t 0)),
  Oa 2 (.alloc [.ns, .ns, .ns])]
@[go_sem] def Q13_1 : List TO := [Of 3 0 1,
  Ol 4 3,
  Of 5 0 1,
  Ol 6 5,
  Oa 7 (.len (.t 6)),
  Oa 8 (.mn [(.t 7), (Xk 8)]),
  Oa 9 (.slice 11 (.t 4) none (some (.t 8)) none),
  Of 10 0 1,
  On (.store 1 (.t 10) (.t 9))]
@[go_sem] def Q13_2 : List TO := [Of 11 1 1,
  Ol 12 11,
  Of 13 1 1,
  Ol 14 13,
  Oa 15 (.len (.t 14)),
  Oa 16 (.mn [(.t 15), (Xk 12)]),
  Oa 17 (.slice 6 (.t 12) none (some (.t 16)) none),
  Of 18 1 1,
  On (.store 1 (.t 18) (.t 17))]
@[go_sem] def Q13_3 : List TO := [Of 19 2 1,
  Ol 20 19,
  Of 21 2 1,
  Ol 22 21,
  Oa 23 (.len (.t 22)),
  Oa 24 (.mn [(.t 23), (Xk 5)]),
  Oa 25 (.slice 1 (.t 20) none (some (.t 24)) none),
  Of 26 2 1,
  On (.store 1 (.t 26) (.t 25))]
@[go_sem] def Q13_4 : List TO := [Oa 27 (.load 3 true (.t 1)),
  On (.store 3 (.t 2) (.t 27))]
def t_Q13 : TF := ⟨28, [.cell 2 3 true], (.seq (.reg Q13_0) (.seq (.reg Q13_1) (.seq (.reg Q13_2) (.seq (.reg Q13_3) (.seq (.reg Q13_4) .ret)))))⟩
/-! horarium/config.Same -/
@[go_sem] def Q14_0 : List TO := [Oa 2 (.box (.t 0)),
  Oa 3 (.box (.t 1)),
  Oa 4 (.mv (.c (.b false)))]
@[go_sem] def Q14_1 : List TO := [Oa 5 (.load 3 true (.t 2)),
  Oa 6 (.load 3 true (.t 3)),
  Oa 7 (.call (.fn i_Q24) [(.t 5), (.t 6)]),
  Om 8 7,
  ⟨(some 9), .fad 2 (.t 2), some (8, true)⟩,
  ⟨(some 10), .load 1 false (.t 9), some (8, true)⟩,
  ⟨(some 11), .fad 2 (.t 3), some (8, true)⟩,
  ⟨(some 12), .load 1 false (.t 11), some (8, true)⟩,
  ⟨(some 13), .call (.fn i_Q25) [(.t 10), (.t 12), (.fn i_Q26)], some (8, true)⟩,
  Oa 14 (.pick (.t 8) (.t 13) (.c (.b false))),
  Om 4 14]
def t_Q14 : TF := ⟨15, [.t 4], (.seq (.reg Q14_0) (.seq (.reg Q14_1) .ret))⟩
/-! horarium/horariumref12.Same -/
@[go_sem] def Q15_0 : List TO := [Oa 2 (.box (.t 0)),
  Oa 3 (.box (.t 1)),
  Oa 4 (.mv (.c (.b false)))]
@[go_sem] def Q15_1 : List TO := [Oa 6 (.load 3 true (.t 2)),
  Oa 7 (.load 3 true (.t 3)),
  Oa 8 (.call (.fn i_Q27) [(.t 6), (.t 7)]),
  Oa 9 (.un .not (.t 8)),
  Om 10 9,
  ⟨(some 11), .fad 2 (.t 2), some (10, false)⟩,
  ⟨(some 12), .load 1 false (.t 11), some (10, false)⟩,
  ⟨(some 13), .len (.t 12), some (10, false)⟩,
  ⟨(some 14), .fad 2 (.t 3), some (10, false)⟩,
  ⟨(some 15), .load 1 false (.t 14), some (10, false)⟩,
  ⟨(some 16), .len (.t 15), some (10, false)⟩,
  ⟨(some 17), .bin .neq (.t 13) (.t 16), some (10, false)⟩,
  Oa 18 (.pick (.t 10) (.c (.b true)) (.t 17))]
@[go_sem] def Q15_2 : List TO := [Oa 4 (.mv (.c (.b false)))]
@[go_sem] def Q15_3 : List TO := [Of 19 2 2,
  Ol 20 19,
  Oa 21 (.len (.t 20)),
  Oa 22 (.mv (Xk 0))]
@[go_sem] def Q15_4 : List TO := [Oa 23 (.bin .lss (.t 22) (.t 21))]
@[go_sem] def Q15_5 : List TO := [Om 24 22,
  Om 5 24]
@[go_sem] def Q15_6 : List (Bool × List TO) := [(true, [Of 25 2 2,
  Ol 26 25,
  Om 27 5,
  Oa 28 (.iad 1 (.t 26) (.t 27)),
  Ol 29 28,
  Of 30 2 3,
  Ol 31 30,
  Om 32 5,
  Oa 33 (.iad 1 (.t 31) (.t 32)),
  Ol 34 33,
  Oa 35 (.call (.fn i_Q28) [(.t 29), (.t 34)]),
  Oa 36 (.un .not (.t 35))])]
@[go_sem] def Q15_7 : List TO := [Oa 4 (.mv (.c (.b false)))]
@[go_sem] def Q15_8 : List TO := [Oa 37 (.bin .add (.t 22) (Xk 1)),
  Om 22 37]
def Q15_9 : TC := (.seq (.reg Q15_4) (.seq (.cond (.t 23) .skip (.exit 0)) (.seq (.block 1 (.seq (.reg Q15_5) (.seq (.dreg Q15_6) (.cond (.t 36) (.seq (.reg Q15_7) .ret) .skip)))) (.reg Q15_8))))
@[go_sem] def Q15_10 : List TO := [Oa 4 (.mv (.c (.b true)))]
def t_Q15 : TF := ⟨38, [.t 4], (.seq (.reg Q15_0) (.seq (.seq (.reg Q15_1) (.cond (.t 18) (.seq (.reg Q15_2) .ret) .skip)) (.seq (.seq (.reg Q15_3) (.block 0 (.loop Q15_9))) (.seq (.reg Q15_10) .ret))))⟩
/-! horarium/config.Copy -/
@[go_sem] def Q16_0 : List TO := [Oa 1 (.box (.t 0)),
  Oa 2 (.alloc [.ns, .ns, .ns])]
@[go_sem] def Q16_1 : List TO := [Oa 3 (.alloc [.ns, .ns, .ns])]
@[go_sem] def Q16_2 : List TO := [Of 8 0 1,
  Ol 9 8,
  Oa 10 (.len (.t 9)),
  Oa 11 (.mv (Xk 0))]
@[go_sem] def Q16_3 : List TO := [Oa 12 (.bin .lss (.t 11) (.t 10))]
@[go_sem] def Q16_4 : List TO := [Oa 13 (.iad 11 (.t 9) (.t 11)),
  Oa 14 (.load 11 true (.t 13)),
  Oa 5 (.alloc [(.s ⟨#[]⟩), (.i .i64 0), (.i .i64 0), (.b false), (.b false), .ns, (.i .i64 0), (.i .i64 0), (.i .i64 0), (.i .i64 0), (.i .i64 0)]),
  On (.store 11 (.t 5) (.t 14))]
@[go_sem] def Q16_5 : List TO := [Of 15 5 5,
  Ol 16 15,
  Oa 17 (.call (.fn i_Q30) [(.t 16)]),
  Oa 18 (.call (.fn i_Q29) [(.t 17)]),
  Of 19 5 5,
  On (.store 1 (.t 19) (.t 18))]
@[go_sem] def Q16_6 : List TO := [Of 20 0 3,
  Ol 21 20,
  Oa 22 (.load 11 true (.t 5)),
  Oa 23 (.bsl 11 [(.s ⟨#[]⟩), (.i .i64 0), (.i .i64 0), (.b false), (.b false), .ns, (.i .i64 0), (.i .i64 0), (.i .i64 0), (.i .i64 0), (.i .i64 0)] 1 [(0, (.t 22))]),
  Oa 24 (.app 11 (.t 21) (.t 23)),
  Of 25 0 3,
  On (.store 1 (.t 25) (.t 24))]
@[go_sem] def Q16_7 : List TO := [Oa 26 (.bin .add (.t 11) (Xk 1)),
  Om 11 26]
def Q16_8 : TC := (.seq (.reg Q16_3) (.seq (.cond (.t 12) .skip (.exit 0)) (.seq (.block 1 (.seq (.reg Q16_4) (.seq (.reg Q16_5) (.reg Q16_6)))) (.reg Q16_7))))
@[go_sem] def Q16_9 : List TO := [Of 27 1 1,
  Ol 28 27,
  Oa 29 (.call (.fn i_Q32) [(.t 28)]),
  Oa 30 (.call (.fn i_Q31) [(.t 29)]),
  Of 31 1 3,
  On (.store 1 (.t 31) (.t 30))]
@[go_sem] def Q16_10 : List TO := [Of 32 2 1,
  Ol 33 32,
  Oa 34 (.len (.t 33)),
  Oa 35 (.mv (Xk 0))]
@[go_sem] def Q16_11 : List TO := [Oa 36 (.bin .lss (.t 35) (.t 34))]
@[go_sem] def Q16_12 : List TO := [Oa 37 (.iad 1 (.t 33) (.t 35)),
  Ol 38 37,
  Om 7 38]
@[go_sem] def Q16_13 : List (Bool × List TO) := [(true, [Of 39 2 3,
  Ol 40 39,
  Om 41 7,
  Oa 42 (.call (.fn i_Q34) [(.t 41)]),
  Oa 43 (.call (.fn i_Q33) [(.t 42)]),
  Oa 44 (.bsl 1 [.ns] 1 [(0, (.t 43))])]), (false, [Oa 45 (.app 1 (.t 40) (.t 44))]), (true, [Of 46 2 3]), (false, [On (.store 1 (.t 46) (.t 45))])]
@[go_sem] def Q16_14 : List TO := [Oa 47 (.bin .add (.t 35) (Xk 1)),
  Om 35 47]
def Q16_15 : TC := (.seq (.reg Q16_11) (.seq (.cond (.t 36) .skip (.exit 2)) (.seq (.block 3 (.seq (.reg Q16_12) (.dreg Q16_13))) (.reg Q16_14))))
@[go_sem] def Q16_16 : List TO := [Oa 48 (.load 3 true (.t 3)),
  On (.store 3 (.t 2) (.t 48))]
def t_Q16 : TF := ⟨49, [.cell 2 3 true], (.seq (.reg Q16_0) (.seq (.reg Q16_1) (.seq (.seq (.reg Q16_2) (.block 0 (.loop Q16_8))) (.seq (.reg Q16_9) (.seq (.seq (.reg Q16_10) (.block 2 (.loop Q16_15))) (.seq (.reg Q16_16) .ret))))))⟩
/-! horarium/horariumref12.Bytes -/
@[go_sem] def Q17_0 : List TO := [Oa 1 (.box (.t 0)),
  Oa 2 (.mv (.c .ns))]
@[go_sem] def Q17_1 : List TO := [Oa 16 (.bsl 1 [(.i .u8 0)] 4 [(0, (.c (.i .u8 72))), (1, (.c (.i .u8 79))), (2, (.c (.i .u8 82))), (3, (.c (.i .u8 65)))]),
  Oa 17 (.mark (.t 16)),
  Of 18 0 1,
  Ol 19 18,
  Oa 20 (.len (.t 19)),
  Oa 21 (.call (.fn i_Q35) [(.t 17), (.t 20)]),
  Om 3 21]
@[go_sem] def Q17_2 : List TO := [Of 22 0 1,
  Ol 23 22,
  Oa 24 (.len (.t 23)),
  Oa 25 (.mv (Xk 0))]
@[go_sem] def Q17_3 : List TO := [Oa 26 (.bin .lss (.t 25) (.t 24))]
@[go_sem] def Q17_4 : List TO := [Oa 27 (.iad 11 (.t 23) (.t 25)),
  Oa 28 (.load 11 true (.t 27)),
  Oa 5 (.alloc [(.s ⟨#[]⟩), (.i .i64 0), (.i .i64 0), (.b false), (.b false), .ns, (.i .i64 0), (.i .i64 0), (.i .i64 0), (.i .i64 0), (.i .i64 0)]),
  On (.store 11 (.t 5) (.t 28))]
@[go_sem] def Q17_5 : List (Bool × List TO) := [(true, [Om 29 3,
  Of 30 0 5,
  Ol 31 30,
  Oa 32 (.call (.fn i_Q36) [(.t 29), (.t 31)]),
  Of 33 1 5,
  Ol 34 33,
  Oa 35 (.call (.fn i_Q35) [(.t 32), (.t 34)]),
  Of 36 2 5,
  Ol 37 36,
  Oa 38 (.call (.fn i_Q35) [(.t 35), (.t 37)]),
  Om 3 38])]
@[go_sem] def Q17_6 : List (Bool × List TO) := [(true, [Om 39 3,
  Of 40 3 5,
  Ol 41 40,
  Oa 42 (.call (.fn i_Q37) [(.t 39), (.t 41)]),
  Of 43 4 5,
  Ol 44 43,
  Oa 45 (.call (.fn i_Q37) [(.t 42), (.t 44)]),
  Of 46 5 5,
  Ol 47 46,
  Oa 48 (.len (.t 47)),
  Oa 49 (.call (.fn i_Q35) [(.t 45), (.t 48)]),
  Om 3 49])]
@[go_sem] def Q17_7 : List TO := [Of 50 5 5,
  Ol 51 50,
  Oa 52 (.len (.t 51)),
  Oa 53 (.mv (Xk 0))]
@[go_sem] def Q17_8 : List TO := [Oa 54 (.bin .lss (.t 53) (.t 52))]
@[go_sem] def Q17_9 : List TO := [Oa 55 (.iad 2 (.t 51) (.t 53)),
  Oa 56 (.load 2 true (.t 55)),
  Oa 7 (.alloc [(.i .i64 0), (.i .i64 0)]),
  On (.store 2 (.t 7) (.t 56))]
@[go_sem] def Q17_10 : List (Bool × List TO) := [(true, [Om 57 3,
  Of 58 0 7,
  Ol 59 58,
  Oa 60 (.call (.fn i_Q35) [(.t 57), (.t 59)]),
  Of 61 1 7,
  Ol 62 61,
  Oa 63 (.call (.fn i_Q35) [(.t 60), (.t 62)]),
  Om 3 63])]
@[go_sem] def Q17_11 : List TO := [Oa 64 (.bin .add (.t 53) (Xk 1)),
  Om 53 64]
def Q17_12 : TC := (.seq (.reg Q17_8) (.seq (.cond (.t 54) .skip (.exit 2)) (.seq (.block 3 (.seq (.reg Q17_9) (.dreg Q17_10))) (.reg Q17_11))))
@[go_sem] def Q17_13 : List TO := [Of 65 6 5,
  Oa 66 (.load 5 true (.t 65)),
  Oa 67 (.mv (Xk 0))]
@[go_sem] def Q17_14 : List TO := [Oa 68 (.bin .lss (.t 67) (Xk 5))]
@[go_sem] def Q17_15 : List TO := [Oa 69 (.idx 1 5 false (.t 66) (.t 67)),
  Om 9 69]
@[go_sem] def Q17_16 : List TO := [Om 70 3,
  Om 71 9,
  Oa 72 (.call (.fn i_Q35) [(.t 70), (.t 71)]),
  Om 3 72]
@[go_sem] def Q17_17 : List TO := [Oa 73 (.bin .add (.t 67) (Xk 1)),
  Om 67 73]
def Q17_18 : TC := (.seq (.reg Q17_14) (.seq (.cond (.t 68) .skip (.exit 4)) (.seq (.block 5 (.seq (.reg Q17_15) (.reg Q17_16))) (.reg Q17_17))))
@[go_sem] def Q17_19 : List TO := [Oa 74 (.bin .add (.t 25) (Xk 1)),
  Om 25 74]
def Q17_20 : TC := (.seq (.reg Q17_3) (.seq (.cond (.t 26) .skip (.exit 0)) (.seq (.block 1 (.seq (.reg Q17_4) (.seq (.dreg Q17_5) (.seq (.dreg Q17_6) (.seq (.seq (.reg Q17_7) (.block 2 (.loop Q17_12))) (.seq (.reg Q17_13) (.block 4 (.loop Q17_18)))))))) (.reg Q17_19))))
@[go_sem] def Q17_21 : List TO := [Om 75 3,
  Of 76 1 1,
  Ol 77 76,
  Oa 78 (.len (.t 77)),
  Oa 79 (.call (.fn i_Q35) [(.t 75), (.t 78)]),
  Om 3 79]
@[go_sem] def Q17_22 : List TO := [Of 80 1 1,
  Ol 81 80,
  Oa 82 (.len (.t 81)),
  Oa 83 (.mv (Xk 0))]
@[go_sem] def Q17_23 : List TO := [Oa 84 (.bin .lss (.t 83) (.t 82))]
@[go_sem] def Q17_24 : List TO := [Oa 85 (.iad 6 (.t 81) (.t 83)),
  Oa 86 (.load 6 true (.t 85)),
  Oa 11 (.alloc [(.i .i64 0), (.i .i64 0), (.b false), (.i .i64 0), (.i .u32 0), (.i .i64 0)]),
  On (.store 6 (.t 11) (.t 86))]
@[go_sem] def Q17_25 : List (Bool × List TO) := [(true, [Om 87 3,
  Of 88 0 11,
  Ol 89 88,
  Oa 90 (.call (.fn i_Q35) [(.t 87), (.t 89)]),
  Of 91 1 11,
  Ol 92 91,
  Oa 93 (.call (.fn i_Q35) [(.t 90), (.t 92)]),
  Of 94 2 11,
  Ol 95 94,
  Oa 96 (.call (.fn i_Q37) [(.t 93), (.t 95)]),
  Om 3 96])]
@[go_sem] def Q17_26 : List (Bool × List TO) := [(true, [Om 97 3,
  Of 98 3 11,
  Ol 99 98,
  Oa 100 (.call (.fn i_Q35) [(.t 97), (.t 99)]),
  Of 101 4 11,
  Ol 102 101,
  Oa 103 (.conv .i64 (.t 102)),
  Oa 104 (.call (.fn i_Q35) [(.t 100), (.t 103)]),
  Of 105 5 11,
  Ol 106 105,
  Oa 107 (.call (.fn i_Q35) [(.t 104), (.t 106)]),
  Om 3 107])]
@[go_sem] def Q17_27 : List TO := [Oa 108 (.bin .add (.t 83) (Xk 1)),
  Om 83 108]
def Q17_28 : TC := (.seq (.reg Q17_23) (.seq (.cond (.t 84) .skip (.exit 6)) (.seq (.block 7 (.seq (.reg Q17_24) (.seq (.dreg Q17_25) (.dreg Q17_26)))) (.reg Q17_27))))
@[go_sem] def Q17_29 : List TO := [Om 109 3,
  Of 110 2 1,
  Ol 111 110,
  Oa 112 (.len (.t 111)),
  Oa 113 (.call (.fn i_Q35) [(.t 109), (.t 112)]),
  Om 3 113]
@[go_sem] def Q17_30 : List TO := [Of 114 2 1,
  Ol 115 114,
  Oa 116 (.len (.t 115)),
  Oa 117 (.mv (Xk 0))]
@[go_sem] def Q17_31 : List TO := [Oa 118 (.bin .lss (.t 117) (.t 116))]
@[go_sem] def Q17_32 : List TO := [Oa 119 (.iad 1 (.t 115) (.t 117)),
  Ol 120 119,
  Om 13 120]
@[go_sem] def Q17_33 : List TO := [Om 121 3,
  Om 122 13,
  Oa 123 (.len (.t 122)),
  Oa 124 (.call (.fn i_Q35) [(.t 121), (.t 123)]),
  Om 3 124]
@[go_sem] def Q17_34 : List TO := [Om 125 13,
  Oa 126 (.len (.t 125)),
  Oa 127 (.mv (Xk 0))]
@[go_sem] def Q17_35 : List TO := [Oa 128 (.bin .lss (.t 127) (.t 126))]
@[go_sem] def Q17_36 : List TO := [Oa 129 (.iad 3 (.t 125) (.t 127)),
  Oa 130 (.load 3 true (.t 129)),
  Oa 15 (.alloc [(.i .i64 0), (.i .i64 0), (.i .i64 0)]),
  On (.store 3 (.t 15) (.t 130))]
@[go_sem] def Q17_37 : List (Bool × List TO) := [(true, [Om 131 3,
  Of 132 0 15,
  Ol 133 132,
  Oa 134 (.call (.fn i_Q35) [(.t 131), (.t 133)]),
  Of 135 1 15,
  Ol 136 135,
  Oa 137 (.call (.fn i_Q35) [(.t 134), (.t 136)]),
  Of 138 2 15,
  Ol 139 138,
  Oa 140 (.call (.fn i_Q35) [(.t 137), (.t 139)]),
  Om 3 140])]
@[go_sem] def Q17_38 : List TO := [Oa 141 (.bin .add (.t 127) (Xk 1)),
  Om 127 141]
def Q17_39 : TC := (.seq (.reg Q17_35) (.seq (.cond (.t 128) .skip (.exit 10)) (.seq (.block 11 (.seq (.reg Q17_36) (.dreg Q17_37))) (.reg Q17_38))))
@[go_sem] def Q17_40 : List TO := [Oa 142 (.bin .add (.t 117) (Xk 1)),
  Om 117 142]
def Q17_41 : TC := (.seq (.reg Q17_31) (.seq (.cond (.t 118) .skip (.exit 8)) (.seq (.block 9 (.seq (.reg Q17_32) (.seq (.reg Q17_33) (.seq (.reg Q17_34) (.block 10 (.loop Q17_39)))))) (.reg Q17_40))))
@[go_sem] def Q17_42 : List TO := [Om 143 3,
  Oa 144 (.call (.fn i_Q38) [(.t 143)]),
  Om 2 144]
def t_Q17 : TF := ⟨145, [.t 2], (.seq (.reg Q17_0) (.seq (.reg Q17_1) (.seq (.seq (.reg Q17_2) (.block 0 (.loop Q17_20))) (.seq (.reg Q17_21) (.seq (.seq (.reg Q17_22) (.block 6 (.loop Q17_28))) (.seq (.reg Q17_29) (.seq (.seq (.reg Q17_30) (.block 8 (.loop Q17_41))) (.seq (.reg Q17_42) .ret))))))))⟩
/-! horarium/horariumbook.Within -/
@[go_sem] def Q18_0 : List TO := [Oa 6 (.mv (Xk 0))]
@[go_sem] def Q18_1 : List TO := [Om 7 0,
  Om 8 1,
  Oa 9 (.bin .geq (.t 7) (.t 8)),
  Om 10 9,
  ⟨(some 11), .mv (.t 0), some (10, true)⟩,
  ⟨(some 12), .mv (.t 2), some (10, true)⟩,
  ⟨(some 13), .bin .leq (.t 11) (.t 12), some (10, true)⟩,
  Oa 14 (.pick (.t 10) (.t 13) (.c (.b false)))]
@[go_sem] def Q18_2 : List TO := [Om 15 0,
  Om 6 15]
@[go_sem] def Q18_3 : List TO := [Om 16 0,
  Om 17 2,
  Om 18 1,
  Oa 19 (.bin .sub (.t 17) (.t 18)),
  Oa 20 (.bin .add (.t 19) (Xk 1)),
  Oa 21 (.bin .rem (.t 16) (.t 20)),
  Om 0 21]
@[go_sem] def Q18_4 : List TO := [Om 22 0,
  Oa 23 (.bin .lss (.t 22) (Xk 0))]
@[go_sem] def Q18_5 : List TO := [Om 24 0,
  Om 25 2,
  Oa 26 (.bin .add (.t 24) (.t 25)),
  Om 27 1,
  Oa 28 (.bin .sub (.t 26) (.t 27)),
  Oa 29 (.bin .add (.t 28) (Xk 1)),
  Om 0 29]
@[go_sem] def Q18_6 : List TO := [Om 30 1,
  Om 31 0,
  Oa 32 (.bin .add (.t 30) (.t 31)),
  Om 6 32]
def t_Q18 : TF := ⟨33, [.t 6], (.seq (.reg Q18_0) (.seq (.seq (.reg Q18_1) (.cond (.t 14) (.seq (.reg Q18_2) .ret) .skip)) (.seq (.reg Q18_3) (.seq (.seq (.reg Q18_4) (.cond (.t 23) (.reg Q18_5) .skip)) (.seq (.reg Q18_6) .ret)))))⟩
/-! horarium/config.Where -/
@[go_sem] def Q19_0 : List TO := [Oa 1 (.box (.t 0)),
  Oa 2 (.mv (Xk 0)),
  Oa 3 (.mv (Xk 0))]
@[go_sem] def Q19_1 : List TO := [Of 11 0 1,
  Ol 12 11,
  Oa 13 (.len (.t 12)),
  Oa 14 (.bin .lss (.t 13) (Xk 1)),
  Om 15 14,
  ⟨(some 16), .fad 0 (.t 1), some (15, false)⟩,
  ⟨(some 17), .load 1 false (.t 16), some (15, false)⟩,
  ⟨(some 18), .len (.t 17), some (15, false)⟩,
  ⟨(some 19), .bin .gtr (.t 18) (Xk 6), some (15, false)⟩,
  Oa 20 (.pick (.t 15) (.c (.b true)) (.t 19)),
  Om 21 20,
  ⟨(some 22), .fad 1 (.t 1), some (21, false)⟩,
  ⟨(some 23), .load 1 false (.t 22), some (21, false)⟩,
  ⟨(some 24), .len (.t 23), some (21, false)⟩,
  ⟨(some 25), .bin .gtr (.t 24) (Xk 8), some (21, false)⟩,
  Oa 26 (.pick (.t 21) (.c (.b true)) (.t 25)),
  Om 27 26,
  ⟨(some 28), .fad 2 (.t 1), some (27, false)⟩,
  ⟨(some 29), .load 1 false (.t 28), some (27, false)⟩,
  ⟨(some 30), .len (.t 29), some (27, false)⟩,
  ⟨(some 31), .bin .lss (.t 30) (Xk 1), some (27, false)⟩,
  Oa 32 (.pick (.t 27) (.c (.b true)) (.t 31)),
  Om 33 32,
  ⟨(some 34), .fad 2 (.t 1), some (33, false)⟩,
  ⟨(some 35), .load 1 false (.t 34), some (33, false)⟩,
  ⟨(some 36), .len (.t 35), some (33, false)⟩,
  ⟨(some 37), .bin .gtr (.t 36) (Xk 3), some (33, false)⟩,
  Oa 38 (.pick (.t 33) (.c (.b true)) (.t 37))]
@[go_sem] def Q19_2 : List TO := [Oa 2 (.mv (Xk 3)),
  Oa 3 (.mv (Xk 0))]
@[go_sem] def Q19_3 : List TO := [Of 39 0 1,
  Ol 40 39,
  Oa 41 (.len (.t 40)),
  Oa 42 (.mv (Xk 0))]
@[go_sem] def Q19_4 : List TO := [Oa 43 (.bin .lss (.t 42) (.t 41))]
@[go_sem] def Q19_5 : List TO := [Om 44 42,
  Oa 45 (.iad 11 (.t 40) (.t 42)),
  Oa 46 (.load 11 true (.t 45)),
  Oa 5 (.alloc [(.s ⟨#[]⟩), (.i .i64 0), (.i .i64 0), (.b false), (.b false), .ns, (.i .i64 0), (.i .i64 0), (.i .i64 0), (.i .i64 0), (.i .i64 0)]),
  Om 4 44,
  On (.store 11 (.t 5) (.t 46))]
@[go_sem] def Q19_6 : List TO := [Of 47 0 5,
  Ol 48 47,
  Oa 49 (.call (.fn i_Q10) [(.t 48)]),
  Oa 50 (.un .not (.t 49)),
  Om 51 50,
  ⟨(some 52), .fad 0 (.t 1), some (51, false)⟩,
  ⟨(some 53), .load 1 false (.t 52), some (51, false)⟩,
  ⟨(some 54), .mv (.t 4), some (51, false)⟩,
  ⟨(some 55), .slice 11 (.t 53) none (some (.t 54)) none, some (51, false)⟩,
  ⟨(some 56), .mkfn (.func i_Q40) [] [(.t 5)], some (51, false)⟩,
  ⟨(some 57), .call (.fn i_Q39) [(.t 55), (.t 56)], some (51, false)⟩,
  Oa 58 (.pick (.t 51) (.c (.b true)) (.t 57))]
@[go_sem] def Q19_7 : List TO := [Om 59 4,
  Oa 2 (.mv (Xk 15)),
  Om 3 59]
@[go_sem] def Q19_8 : List TO := [Oa 60 (.load 11 true (.t 5)),
  Oa 61 (.call (.fn i_Q41) [(.t 60)]),
  Oa 62 (.un .not (.t 61))]
@[go_sem] def Q19_9 : List TO := [Om 63 4,
  Oa 2 (.mv (Xk 16)),
  Om 3 63]
@[go_sem] def Q19_10 : List TO := [Oa 64 (.bin .add (.t 42) (Xk 1)),
  Om 42 64]
def Q19_11 : TC := (.seq (.reg Q19_4) (.seq (.cond (.t 43) .skip (.exit 0)) (.seq (.block 1 (.seq (.reg Q19_5) (.seq (.seq (.reg Q19_6) (.cond (.t 58) (.seq (.reg Q19_7) .ret) .skip)) (.seq (.reg Q19_8) (.cond (.t 62) (.seq (.reg Q19_9) .ret) .skip))))) (.reg Q19_10))))
@[go_sem] def Q19_12 : List TO := [Of 65 1 1,
  Ol 66 65,
  Oa 67 (.len (.t 66)),
  Oa 68 (.mv (Xk 0))]
@[go_sem] def Q19_13 : List TO := [Oa 69 (.bin .lss (.t 68) (.t 67))]
@[go_sem] def Q19_14 : List TO := [Om 70 68,
  Oa 71 (.iad 6 (.t 66) (.t 68)),
  Oa 72 (.load 6 true (.t 71)),
  Oa 7 (.alloc [(.i .i64 0), (.i .i64 0), (.b false), (.i .i64 0), (.i .u32 0), (.i .i64 0)]),
  Om 6 70,
  On (.store 6 (.t 7) (.t 72))]
@[go_sem] def Q19_15 : List TO := [Oa 73 (.load 3 true (.t 1)),
  Oa 74 (.load 6 true (.t 7)),
  Oa 75 (.call (.fn i_Q42) [(.t 73), (.t 74)]),
  Oa 76 (.un .not (.t 75))]
@[go_sem] def Q19_16 : List TO := [Om 77 6,
  Oa 2 (.mv (Xk 17)),
  Om 3 77]
@[go_sem] def Q19_17 : List TO := [Oa 78 (.bin .add (.t 68) (Xk 1)),
  Om 68 78]
def Q19_18 : TC := (.seq (.reg Q19_13) (.seq (.cond (.t 69) .skip (.exit 2)) (.seq (.block 3 (.seq (.reg Q19_14) (.seq (.reg Q19_15) (.cond (.t 76) (.seq (.reg Q19_16) .ret) .skip)))) (.reg Q19_17))))
@[go_sem] def Q19_19 : List TO := [Of 79 2 1,
  Ol 80 79,
  Oa 81 (.len (.t 80)),
  Oa 82 (.mv (Xk 0))]
@[go_sem] def Q19_20 : List TO := [Oa 83 (.bin .lss (.t 82) (.t 81))]
@[go_sem] def Q19_21 : List TO := [Om 84 82,
  Oa 85 (.iad 1 (.t 80) (.t 82)),
  Ol 86 85,
  Om 8 84,
  Om 9 86]
@[go_sem] def Q19_22 : List TO := [Oa 87 (.load 3 true (.t 1)),
  Om 88 9,
  Oa 89 (.call (.fn i_Q43) [(.t 87), (.t 88)]),
  Om 10 89]
@[go_sem] def Q19_23 : List TO := [Om 90 10,
  Oa 91 (.bin .neq (.t 90) (Xk 0))]
@[go_sem] def Q19_24 : List TO := [Om 92 10,
  Om 93 8,
  Om 2 92,
  Om 3 93]
@[go_sem] def Q19_25 : List TO := [Oa 94 (.bin .add (.t 82) (Xk 1)),
  Om 82 94]
def Q19_26 : TC := (.seq (.reg Q19_20) (.seq (.cond (.t 83) .skip (.exit 4)) (.seq (.block 5 (.seq (.reg Q19_21) (.seq (.reg Q19_22) (.seq (.reg Q19_23) (.cond (.t 91) (.seq (.reg Q19_24) .ret) .skip))))) (.reg Q19_25))))
@[go_sem] def Q19_27 : List TO := [Oa 2 (.mv (Xk 0)),
  Oa 3 (.mv (Xk (-1)))]
def t_Q19 : TF := ⟨95, [.t 2, .t 3], (.seq (.reg Q19_0) (.seq (.seq (.reg Q19_1) (.cond (.t 38) (.seq (.reg Q19_2) .ret) .skip)) (.seq (.seq (.reg Q19_3) (.block 0 (.loop Q19_11))) (.seq (.seq (.reg Q19_12) (.block 2 (.loop Q19_18))) (.seq (.seq (.reg Q19_19) (.block 4 (.loop Q19_26))) (.seq (.reg Q19_27) .ret))))))⟩
/-! (*horarium/horariumkeep.Tape).Next -/
@[go_sem] def Q20_0 : List TO := [Oa 4 (.mv (Xk 0))]
@[go_sem] def Q20_1 : List (Bool × List TO) := [(true, [Om 5 0,
  Oa 6 (.nck (.t 5)),
  Of 7 1 6,
  Ol 8 7,
  Om 9 0,
  Oa 10 (.nck (.t 9)),
  Of 11 0 10,
  Ol 12 11,
  Oa 13 (.len (.t 12)),
  Oa 14 (.bin .geq (.t 8) (.t 13)),
  Om 15 14,
  ⟨(some 16), .mv (.t 1), some (15, false)⟩,
  ⟨(some 17), .bin .lss (.t 16) (Xk 1), some (15, false)⟩,
  Oa 18 (.pick (.t 15) (.c (.b true)) (.t 17))])]
@[go_sem] def Q20_2 : List TO := [Oa 4 (.mv (Xk 0))]
@[go_sem] def Q20_3 : List TO := [Om 19 0,
  Oa 20 (.nck (.t 19)),
  Of 21 1 20,
  Ol 22 21,
  Oa 23 (.bin .add (.t 22) (Xk 1)),
  Oa 24 (.nck (.t 19)),
  Of 25 1 24,
  On (.store 1 (.t 25) (.t 23))]
@[go_sem] def Q20_4 : List (Bool × List TO) := [(true, [Om 26 0,
  Oa 27 (.nck (.t 26)),
  Of 28 0 27,
  Ol 29 28,
  Om 30 0,
  Oa 31 (.nck (.t 30)),
  Of 32 1 31,
  Ol 33 32,
  Oa 34 (.bin .sub (.t 33) (Xk 1)),
  Oa 35 (.iad 1 (.t 29) (.t 34)),
  Ol 36 35,
  Oa 37 (.call (.fn i_Q18) [(.t 36), (Xk 0), (Xk 1073741824)]),
  Om 38 1,
  Oa 39 (.bin .rem (.t 37) (.t 38)),
  Om 4 39])]
def t_Q20 : TF := ⟨40, [.t 4], (.seq (.reg Q20_0) (.seq (.seq (.dreg Q20_1) (.cond (.t 18) (.seq (.reg Q20_2) .ret) .skip)) (.seq (.reg Q20_3) (.seq (.dreg Q20_4) .ret))))⟩
/-! (*horarium/horariumkeep.Tape).frame -/
@[go_sem] def Q21_0 : List TO := [Oa 4 (.mv (.c .ns))]
@[go_sem] def Q21_1 : List TO := [Om 8 0,
  Om 9 1,
  Oa 10 (.call (.fn i_Q44) [(.t 8), (.t 9), (Xk 4)]),
  Om 5 10]
@[go_sem] def Q21_2 : List TO := [Om 12 5,
  Oa 13 (.call (.fn i_Q45) [(.t 12)]),
  Om 11 13,
  Oa 14 (.ext (.t 11) 0),
  Oa 15 (.ext (.t 11) 1),
  Om 6 14,
  Om 7 15]
@[go_sem] def Q21_3 : List TO := [Om 16 7,
  Oa 17 (.bin .neq (.t 16) (Xk 0)),
  Om 18 17,
  ⟨(some 19), .mv (.t 6), some (18, false)⟩,
  ⟨(some 20), .len (.t 19), some (18, false)⟩,
  ⟨(some 21), .bin .gtr (.t 20) (Xk 24), some (18, false)⟩,
  Oa 22 (.pick (.t 18) (.c (.b true)) (.t 21)),
  Om 23 22,
  ⟨(some 24), .mv (.t 6), some (23, false)⟩,
  ⟨(some 25), .call (.fn i_Q46) [(.t 24)], some (23, false)⟩,
  ⟨(some 26), .bin .gtr (.t 25) (Xk 90), some (23, false)⟩,
  Oa 27 (.pick (.t 23) (.c (.b true)) (.t 26))]
@[go_sem] def Q21_4 : List TO := [Oa 28 (.build [(.i .i64 0), (.i .i64 0), (.i .i64 0)] [(0, 1, (Xk 3)), (2, 1, (Xk 2))]),
  Om 29 0,
  Om 30 1,
  Oa 31 (.call (.fn i_Q20) [(.t 29), (.t 30)]),
  Oa 32 (.build [(.i .i64 0), (.i .i64 0), (.i .i64 0)] [(0, 1, (Xk 1)), (1, 1, (.t 31)), (2, 1, (Xk 3))]),
  Oa 33 (.build [(.i .i64 0), (.i .i64 0), (.i .i64 0)] [(0, 1, (Xk 2)), (2, 1, (Xk 2))]),
  Oa 34 (.bsl 3 [(.i .i64 0), (.i .i64 0), (.i .i64 0)] 3 [(0, (.t 28)), (1, (.t 32)), (2, (.t 33))]),
  Om 4 34]
@[go_sem] def Q21_5 : List TO := [Om 35 5,
  Om 4 35]
def t_Q21 : TF := ⟨36, [.t 4], (.seq (.reg Q21_0) (.seq (.reg Q21_1) (.seq (.seq (.reg Q21_2) (.seq (.reg Q21_3) (.cond (.t 27) (.seq (.reg Q21_4) .ret) .skip))) (.seq (.reg Q21_5) .ret))))⟩
/-! (*horarium/horariumkeep.Tape).asks -/
@[go_sem] def Q22_0 : List TO := [Oa 3 (.box (.t 1)),
  Oa 4 (.alloc [.ns, .ns, .ns])]
@[go_sem] def Q22_1 : List TO := [Oa 5 (.mv (.c .ns))]
@[go_sem] def Q22_2 : List TO := [Of 22 2 3,
  Ol 23 22,
  Oa 24 (.len (.t 23)),
  Oa 25 (.mv (Xk 0))]
@[go_sem] def Q22_3 : List TO := [Oa 26 (.bin .lss (.t 25) (.t 24))]
@[go_sem] def Q22_4 : List TO := [Oa 27 (.iad 1 (.t 23) (.t 25)),
  Ol 28 27,
  Om 7 28]
@[go_sem] def Q22_5 : List TO := [Om 30 7,
  Oa 31 (.call (.fn i_Q45) [(.t 30)]),
  Om 29 31,
  Oa 32 (.ext (.t 29) 0),
  Oa 33 (.ext (.t 29) 1),
  Om 8 32,
  Om 9 33]
@[go_sem] def Q22_6 : List TO := [Om 34 5,
  Om 35 8,
  Oa 36 (.bsl 1 [.ns] 1 [(0, (.t 35))]),
  Oa 37 (.app 1 (.t 34) (.t 36)),
  Om 5 37]
@[go_sem] def Q22_7 : List TO := [Oa 38 (.bin .add (.t 25) (Xk 1)),
  Om 25 38]
def Q22_8 : TC := (.seq (.reg Q22_3) (.seq (.cond (.t 26) .skip (.exit 0)) (.seq (.block 1 (.seq (.reg Q22_4) (.seq (.reg Q22_5) (.reg Q22_6)))) (.reg Q22_7))))
@[go_sem] def Q22_9 : List TO := [Of 39 1 3,
  Ol 40 39,
  Oa 41 (.len (.t 40)),
  Oa 42 (.mv (Xk 0))]
@[go_sem] def Q22_10 : List TO := [Oa 43 (.bin .lss (.t 42) (.t 41))]
@[go_sem] def Q22_11 : List TO := [Om 44 42,
  Om 10 44]
@[go_sem] def Q22_12 : List TO := [Oa 11 (.mv (Xk 0))]
@[go_sem] def Q22_13 : List TO := [Om 45 5,
  Oa 46 (.len (.t 45)),
  Oa 47 (.mv (Xk 0))]
@[go_sem] def Q22_14 : List TO := [Oa 48 (.bin .lss (.t 47) (.t 46))]
@[go_sem] def Q22_15 : List TO := [Oa 49 (.iad 1 (.t 45) (.t 47)),
  Ol 50 49,
  Om 13 50]
@[go_sem] def Q22_16 : List (Bool × List TO) := [(true, [Om 51 13,
  Of 52 1 3,
  Ol 53 52,
  Om 54 10,
  Oa 55 (.iad 6 (.t 53) (.t 54)),
  Of 56 0 55,
  Ol 57 56,
  Of 58 1 3,
  Ol 59 58,
  Om 60 10,
  Oa 61 (.iad 6 (.t 59) (.t 60)),
  Of 62 1 61,
  Ol 63 62,
  Oa 64 (.call (.fn i_Q47) [(.t 51), (.t 57), (.t 63)]),
  Om 14 64])]
@[go_sem] def Q22_17 : List TO := [Om 65 14,
  Oa 66 (.bin .lss (.t 65) (Xk 0)),
  Om 67 66,
  ⟨(some 68), .mv (.t 11), some (67, false)⟩,
  ⟨(some 69), .bin .lss (.t 68) (Xk 0), some (67, false)⟩,
  Oa 70 (.pick (.t 67) (.c (.b true)) (.t 69))]
@[go_sem] def Q22_18 : List TO := [Oa 11 (.mv (Xk (-1)))]
@[go_sem] def Q22_19 : List TO := [Om 71 11,
  Om 72 14,
  Oa 73 (.mx [(.t 71), (.t 72)]),
  Om 11 73]
@[go_sem] def Q22_20 : List TO := [Oa 74 (.bin .add (.t 47) (Xk 1)),
  Om 47 74]
def Q22_21 : TC := (.seq (.reg Q22_14) (.seq (.cond (.t 48) .skip (.exit 4)) (.seq (.block 5 (.seq (.reg Q22_15) (.seq (.dreg Q22_16) (.seq (.reg Q22_17) (.cond (.t 70) (.reg Q22_18) (.reg Q22_19)))))) (.reg Q22_20))))
@[go_sem] def Q22_22 : List TO := [Om 75 11,
  Oa 76 (.bin .gtr (.t 75) (Xk 0)),
  Om 77 76,
  ⟨(some 78), .mv (.t 0), some (77, true)⟩,
  ⟨(some 79), .call (.fn i_Q20) [(.t 78), (Xk 3)], some (77, true)⟩,
  ⟨(some 80), .bin .gtr (.t 79) (Xk 0), some (77, true)⟩,
  Oa 81 (.pick (.t 77) (.t 80) (.c (.b false)))]
@[go_sem] def Q22_23 : List (Bool × List TO) := [(true, [Of 82 1 3,
  Oa 83 (.fload 1 (.t 82)),
  Om 84 10,
  Om 85 11,
  Om 86 0]), (false, [Oa 87 (.call (.fn i_Q20) [(.t 86), (Xk 6)]),
  On (.chk 1 (.t 82) (.t 83))]), (true, [Oa 88 (.bin .add (.t 85) (.t 87)),
  Oa 89 (.mn [(.t 88), (Xk 4096)]),
  Oa 90 (.iad 6 (.t 83) (.t 84)),
  Of 91 5 90]), (false, [On (.store 1 (.t 91) (.t 89))])]
@[go_sem] def Q22_24 : List TO := [Oa 92 (.bin .add (.t 42) (Xk 1)),
  Om 42 92]
def Q22_25 : TC := (.seq (.reg Q22_10) (.seq (.cond (.t 43) .skip (.exit 2)) (.seq (.block 3 (.seq (.reg Q22_11) (.seq (.reg Q22_12) (.seq (.seq (.reg Q22_13) (.block 4 (.loop Q22_21))) (.seq (.reg Q22_22) (.cond (.t 81) (.dreg Q22_23) .skip)))))) (.reg Q22_24))))
@[go_sem] def Q22_26 : List TO := [Om 93 5,
  Oa 94 (.iad 1 (.t 93) (Xk 0)),
  Ol 95 94,
  Oa 96 (.call (.fn i_Q46) [(.t 95)]),
  Om 15 96]
@[go_sem] def Q22_27 : List TO := [Om 97 0,
  Oa 98 (.call (.fn i_Q20) [(.t 97), (Xk 3)]),
  Oa 99 (.bin .add (Xk 2) (.t 98)),
  Om 16 99]
@[go_sem] def Q22_28 : List TO := [Om 100 16,
  Oa 101 (.bin .gtr (.t 100) (Xk 1))]
@[go_sem] def Q22_29 : List TO := [Om 104 15,
  Om 105 16,
  Oa 106 (.bin .rem (.t 104) (.t 105)),
  Oa 107 (.bin .eql (.t 106) (Xk 0))]
@[go_sem] def Q22_30 : List TO := [Om 108 15,
  Om 109 16,
  Oa 110 (.bin .quo (.t 108) (.t 109)),
  Om 15 110]
@[go_sem] def Q22_31 : List TO := [Om 102 16,
  Oa 103 (.bin .sub (.t 102) (Xk 1)),
  Om 16 103]
def Q22_32 : TC := (.seq (.seq (.reg Q22_28) (.cond (.t 101) .skip (.exit 6))) (.seq (.block 7 (.seq (.reg Q22_29) (.cond (.t 107) (.seq (.reg Q22_30) (.exit 6)) .skip))) (.reg Q22_31)))
@[go_sem] def Q22_33 : List TO := [Of 111 0 3,
  Ol 112 111,
  Oa 113 (.len (.t 112)),
  Oa 114 (.mv (Xk 0))]
@[go_sem] def Q22_34 : List TO := [Oa 115 (.bin .lss (.t 114) (.t 113))]
@[go_sem] def Q22_35 : List TO := [Om 116 114,
  Om 17 116]
@[go_sem] def Q22_36 : List TO := [Oa 18 (.mv (Xk 4096))]
@[go_sem] def Q22_37 : List TO := [Om 117 5,
  Oa 118 (.len (.t 117)),
  Oa 119 (.mv (Xk 0))]
@[go_sem] def Q22_38 : List TO := [Oa 120 (.bin .lss (.t 119) (.t 118))]
@[go_sem] def Q22_39 : List TO := [Oa 121 (.iad 1 (.t 117) (.t 119)),
  Ol 122 121,
  Om 20 122]
@[go_sem] def Q22_40 : List TO := [Om 123 18,
  Om 124 20,
  Om 125 17,
  Om 126 15,
  Oa 127 (.call (.fn i_Q48) [(.t 124), (.t 125), (.t 126)]),
  Oa 128 (.mn [(.t 123), (.t 127)]),
  Om 18 128]
@[go_sem] def Q22_41 : List TO := [Oa 129 (.bin .add (.t 119) (Xk 1)),
  Om 119 129]
def Q22_42 : TC := (.seq (.reg Q22_38) (.seq (.cond (.t 120) .skip (.exit 10)) (.seq (.block 11 (.seq (.reg Q22_39) (.reg Q22_40))) (.reg Q22_41))))
@[go_sem] def Q22_43 : List TO := [Om 130 18,
  Oa 131 (.bin .gtr (.t 130) (Xk 0)),
  Om 132 131,
  ⟨(some 133), .mv (.t 0), some (132, true)⟩,
  ⟨(some 134), .call (.fn i_Q20) [(.t 133), (Xk 2)], some (132, true)⟩,
  ⟨(some 135), .bin .eql (.t 134) (Xk 0), some (132, true)⟩,
  Oa 136 (.pick (.t 132) (.t 135) (.c (.b false)))]
@[go_sem] def Q22_44 : List (Bool × List TO) := [(true, [Of 137 0 3,
  Oa 138 (.fload 1 (.t 137)),
  Om 139 17,
  Of 140 0 3,
  Oa 141 (.fload 1 (.t 140)),
  Om 142 17,
  Om 143 18,
  Om 144 0]), (false, [Oa 145 (.call (.fn i_Q20) [(.t 144), (Xk 2)]),
  On (.chk 1 (.t 137) (.t 138)),
  On (.chk 1 (.t 140) (.t 141))]), (true, [Oa 146 (.bin .sub (.t 143) (.t 145)),
  Oa 147 (.mx [(.t 146), (Xk 1)]),
  Om 148 15,
  Oa 149 (.iad 11 (.t 138) (.t 139)),
  Of 150 1 149]), (false, [On (.store 1 (.t 150) (.t 147)),
  On (.chk 1 (.t 140) (.t 141))]), (true, [Oa 151 (.iad 11 (.t 141) (.t 142)),
  Of 152 2 151]), (false, [On (.store 1 (.t 152) (.t 148))])]
@[go_sem] def Q22_45 : List TO := [Oa 153 (.bin .add (.t 114) (Xk 1)),
  Om 114 153]
def Q22_46 : TC := (.seq (.reg Q22_34) (.seq (.cond (.t 115) .skip (.exit 8)) (.seq (.block 9 (.seq (.reg Q22_35) (.seq (.reg Q22_36) (.seq (.seq (.reg Q22_37) (.block 10 (.loop Q22_42))) (.seq (.reg Q22_43) (.cond (.t 136) (.dreg Q22_44) .skip)))))) (.reg Q22_45))))
@[go_sem] def Q22_47 : List TO := [Oa 154 (.load 3 true (.t 3)),
  Oa 155 (.call (.fn i_Q49) [(.t 154)]),
  Oa 156 (.bin .neq (.t 155) (Xk 0))]
@[go_sem] def Q22_48 : List TO := [Of 157 0 3,
  Ol 158 157,
  Oa 159 (.len (.t 158)),
  Oa 160 (.mv (Xk 0))]
@[go_sem] def Q22_49 : List TO := [Oa 161 (.bin .lss (.t 160) (.t 159))]
@[go_sem] def Q22_50 : List TO := [Om 162 160,
  Om 21 162]
@[go_sem] def Q22_51 : List (Bool × List TO) := [(true, [Of 163 0 3,
  Ol 164 163,
  Om 165 21,
  Of 166 0 3,
  Oa 167 (.fload 1 (.t 166)),
  Om 168 21,
  Oa 169 (.iad 11 (.t 164) (.t 165)),
  Of 170 1 169]), (false, [On (.store 1 (.t 170) (Xk 0)),
  On (.chk 1 (.t 166) (.t 167))]), (true, [Oa 171 (.iad 11 (.t 167) (.t 168)),
  Of 172 2 171]), (false, [On (.store 1 (.t 172) (Xk 0))])]
@[go_sem] def Q22_52 : List TO := [Oa 173 (.bin .add (.t 160) (Xk 1)),
  Om 160 173]
def Q22_53 : TC := (.seq (.reg Q22_49) (.seq (.cond (.t 161) .skip (.exit 12)) (.seq (.block 13 (.seq (.reg Q22_50) (.dreg Q22_51))) (.reg Q22_52))))
@[go_sem] def Q22_54 : List TO := [Oa 174 (.load 3 true (.t 3)),
  On (.store 3 (.t 4) (.t 174))]
def t_Q22 : TF := ⟨175, [.cell 4 3 true], (.seq (.reg Q22_0) (.seq (.reg Q22_1) (.seq (.seq (.reg Q22_2) (.block 0 (.loop Q22_8))) (.seq (.seq (.reg Q22_9) (.block 2 (.loop Q22_25))) (.seq (.reg Q22_26) (.seq (.seq (.reg Q22_27) (.block 6 (.loop Q22_32))) (.seq (.seq (.reg Q22_33) (.block 8 (.loop Q22_46))) (.seq (.seq (.reg Q22_47) (.cond (.t 156) (.seq (.reg Q22_48) (.block 12 (.loop Q22_53))) .skip)) (.seq (.reg Q22_54) .ret)))))))))⟩
/-! horarium/horariumref12.Where -/
@[go_sem] def Q23_0 : List TO := [Oa 1 (.box (.t 0)),
  Oa 2 (.mv (Xk 0)),
  Oa 3 (.mv (Xk 0))]
@[go_sem] def Q23_1 : List TO := [Of 16 0 1,
  Ol 17 16,
  Oa 18 (.len (.t 17)),
  Oa 19 (.bin .lss (.t 18) (Xk 1)),
  Om 20 19,
  ⟨(some 21), .fad 0 (.t 1), some (20, false)⟩,
  ⟨(some 22), .load 1 false (.t 21), some (20, false)⟩,
  ⟨(some 23), .len (.t 22), some (20, false)⟩,
  ⟨(some 24), .bin .gtr (.t 23) (Xk 6), some (20, false)⟩,
  Oa 25 (.pick (.t 20) (.c (.b true)) (.t 24)),
  Om 26 25,
  ⟨(some 27), .fad 1 (.t 1), some (26, false)⟩,
  ⟨(some 28), .load 1 false (.t 27), some (26, false)⟩,
  ⟨(some 29), .len (.t 28), some (26, false)⟩,
  ⟨(some 30), .bin .gtr (.t 29) (Xk 8), some (26, false)⟩,
  Oa 31 (.pick (.t 26) (.c (.b true)) (.t 30)),
  Om 32 31,
  ⟨(some 33), .fad 2 (.t 1), some (32, false)⟩,
  ⟨(some 34), .load 1 false (.t 33), some (32, false)⟩,
  ⟨(some 35), .len (.t 34), some (32, false)⟩,
  ⟨(some 36), .bin .lss (.t 35) (Xk 1), some (32, false)⟩,
  Oa 37 (.pick (.t 32) (.c (.b true)) (.t 36)),
  Om 38 37,
  ⟨(some 39), .fad 2 (.t 1), some (38, false)⟩,
  ⟨(some 40), .load 1 false (.t 39), some (38, false)⟩,
  ⟨(some 41), .len (.t 40), some (38, false)⟩,
  ⟨(some 42), .bin .gtr (.t 41) (Xk 3), some (38, false)⟩,
  Oa 43 (.pick (.t 38) (.c (.b true)) (.t 42))]
@[go_sem] def Q23_2 : List TO := [Oa 2 (.mv (Xk 3)),
  Oa 3 (.mv (Xk 0))]
@[go_sem] def Q23_3 : List TO := [Of 44 0 1,
  Ol 45 44,
  Oa 46 (.len (.t 45)),
  Oa 47 (.mv (Xk 0))]
@[go_sem] def Q23_4 : List TO := [Oa 48 (.bin .lss (.t 47) (.t 46))]
@[go_sem] def Q23_5 : List TO := [Om 49 47,
  Oa 50 (.iad 11 (.t 45) (.t 47)),
  Oa 51 (.load 11 true (.t 50)),
  Oa 5 (.alloc [(.s ⟨#[]⟩), (.i .i64 0), (.i .i64 0), (.b false), (.b false), .ns, (.i .i64 0), (.i .i64 0), (.i .i64 0), (.i .i64 0), (.i .i64 0)]),
  Om 4 49,
  On (.store 11 (.t 5) (.t 51))]
@[go_sem] def Q23_6 : List TO := [Of 52 0 5,
  Ol 53 52,
  Oa 54 (.call (.fn i_Q11) [(.t 53)]),
  Oa 55 (.un .not (.t 54))]
@[go_sem] def Q23_7 : List TO := [Om 56 4,
  Oa 2 (.mv (Xk 15)),
  Om 3 56]
@[go_sem] def Q23_8 : List TO := [Oa 6 (.mv (Xk 0))]
@[go_sem] def Q23_9 : List TO := [Om 57 6,
  Om 58 4,
  Oa 59 (.bin .lss (.t 57) (.t 58))]
@[go_sem] def Q23_10 : List (Bool × List TO) := [(true, [Of 62 0 1,
  Ol 63 62,
  Om 64 6,
  Oa 65 (.iad 11 (.t 63) (.t 64)),
  Of 66 0 65,
  Ol 67 66,
  Of 68 0 5,
  Ol 69 68,
  Oa 70 (.bin .eql (.t 67) (.t 69))])]
@[go_sem] def Q23_11 : List TO := [Om 71 4,
  Oa 2 (.mv (Xk 15)),
  Om 3 71]
@[go_sem] def Q23_12 : List TO := [Om 60 6,
  Oa 61 (.bin .add (.t 60) (Xk 1)),
  Om 6 61]
def Q23_13 : TC := (.seq (.seq (.reg Q23_9) (.cond (.t 59) .skip (.exit 2))) (.seq (.block 3 (.seq (.dreg Q23_10) (.cond (.t 70) (.seq (.reg Q23_11) .ret) .skip))) (.reg Q23_12)))
@[go_sem] def Q23_14 : List TO := [Oa 72 (.load 11 true (.t 5)),
  Oa 73 (.call (.fn i_Q50) [(.t 72)]),
  Oa 74 (.un .not (.t 73))]
@[go_sem] def Q23_15 : List TO := [Om 75 4,
  Oa 2 (.mv (Xk 16)),
  Om 3 75]
@[go_sem] def Q23_16 : List TO := [Oa 76 (.bin .add (.t 47) (Xk 1)),
  Om 47 76]
def Q23_17 : TC := (.seq (.reg Q23_4) (.seq (.cond (.t 48) .skip (.exit 0)) (.seq (.block 1 (.seq (.reg Q23_5) (.seq (.seq (.reg Q23_6) (.cond (.t 55) (.seq (.reg Q23_7) .ret) .skip)) (.seq (.seq (.reg Q23_8) (.block 2 (.loop Q23_13))) (.seq (.reg Q23_14) (.cond (.t 74) (.seq (.reg Q23_15) .ret) .skip)))))) (.reg Q23_16))))
@[go_sem] def Q23_18 : List TO := [Of 77 1 1,
  Ol 78 77,
  Oa 79 (.len (.t 78)),
  Oa 80 (.mv (Xk 0))]
@[go_sem] def Q23_19 : List TO := [Oa 81 (.bin .lss (.t 80) (.t 79))]
@[go_sem] def Q23_20 : List TO := [Om 82 80,
  Oa 83 (.iad 6 (.t 78) (.t 80)),
  Oa 84 (.load 6 true (.t 83)),
  Oa 8 (.alloc [(.i .i64 0), (.i .i64 0), (.b false), (.i .i64 0), (.i .u32 0), (.i .i64 0)]),
  Om 7 82,
  On (.store 6 (.t 8) (.t 84))]
@[go_sem] def Q23_21 : List TO := [Oa 85 (.load 6 true (.t 8)),
  Of 86 0 1,
  Ol 87 86,
  Oa 88 (.len (.t 87)),
  Oa 89 (.call (.fn i_Q51) [(.t 85), (.t 88)]),
  Oa 90 (.un .not (.t 89))]
@[go_sem] def Q23_22 : List TO := [Om 91 7,
  Oa 2 (.mv (Xk 17)),
  Om 3 91]
@[go_sem] def Q23_23 : List TO := [Oa 92 (.bin .add (.t 80) (Xk 1)),
  Om 80 92]
def Q23_24 : TC := (.seq (.reg Q23_19) (.seq (.cond (.t 81) .skip (.exit 4)) (.seq (.block 5 (.seq (.reg Q23_20) (.seq (.reg Q23_21) (.cond (.t 90) (.seq (.reg Q23_22) .ret) .skip)))) (.reg Q23_23))))
@[go_sem] def Q23_25 : List TO := [Of 93 2 1,
  Ol 94 93,
  Oa 95 (.len (.t 94)),
  Oa 96 (.mv (Xk 0))]
@[go_sem] def Q23_26 : List TO := [Oa 97 (.bin .lss (.t 96) (.t 95))]
@[go_sem] def Q23_27 : List TO := [Om 98 96,
  Oa 99 (.iad 1 (.t 94) (.t 96)),
  Ol 100 99,
  Om 9 98,
  Om 10 100]
@[go_sem] def Q23_28 : List TO := [Om 102 10,
  Oa 103 (.call (.fn i_Q45) [(.t 102)]),
  Om 101 103,
  Oa 104 (.ext (.t 101) 0),
  Oa 105 (.ext (.t 101) 1),
  Om 11 104,
  Om 12 105]
@[go_sem] def Q23_29 : List TO := [Om 106 12,
  Oa 107 (.bin .neq (.t 106) (Xk 0))]
@[go_sem] def Q23_30 : List TO := [Om 108 12,
  Om 109 9,
  Om 2 108,
  Om 3 109]
@[go_sem] def Q23_31 : List TO := [Om 110 11,
  Oa 111 (.len (.t 110)),
  Oa 112 (.mv (Xk 0))]
@[go_sem] def Q23_32 : List TO := [Oa 113 (.bin .lss (.t 112) (.t 111))]
@[go_sem] def Q23_33 : List TO := [Oa 114 (.iad 2 (.t 110) (.t 112)),
  Oa 115 (.load 2 true (.t 114)),
  Oa 14 (.alloc [(.i .i64 0), (.i .i64 0)]),
  On (.store 2 (.t 14) (.t 115))]
@[go_sem] def Q23_34 : List TO := [Of 116 0 14,
  Ol 117 116,
  Of 118 0 1,
  Ol 119 118,
  Oa 120 (.len (.t 119)),
  Oa 121 (.bin .geq (.t 117) (.t 120))]
@[go_sem] def Q23_35 : List TO := [Om 122 9,
  Oa 2 (.mv (Xk 16)),
  Om 3 122]
@[go_sem] def Q23_36 : List TO := [Oa 123 (.bin .add (.t 112) (Xk 1)),
  Om 112 123]
def Q23_37 : TC := (.seq (.reg Q23_32) (.seq (.cond (.t 113) .skip (.exit 8)) (.seq (.block 9 (.seq (.reg Q23_33) (.seq (.reg Q23_34) (.cond (.t 121) (.seq (.reg Q23_35) .ret) .skip)))) (.reg Q23_36))))
@[go_sem] def Q23_38 : List TO := [Oa 124 (.load 3 true (.t 1)),
  Om 125 11,
  Oa 126 (.call (.fn i_Q52) [(.t 124), (.t 125)]),
  Om 15 126]
@[go_sem] def Q23_39 : List TO := [Om 127 15,
  Oa 128 (.bin .neq (.t 127) (Xk 0))]
@[go_sem] def Q23_40 : List TO := [Om 129 15,
  Om 130 9,
  Om 2 129,
  Om 3 130]
@[go_sem] def Q23_41 : List TO := [Oa 131 (.bin .add (.t 96) (Xk 1)),
  Om 96 131]
def Q23_42 : TC := (.seq (.reg Q23_26) (.seq (.cond (.t 97) .skip (.exit 6)) (.seq (.block 7 (.seq (.reg Q23_27) (.seq (.reg Q23_28) (.seq (.seq (.reg Q23_29) (.cond (.t 107) (.seq (.reg Q23_30) .ret) .skip)) (.seq (.seq (.reg Q23_31) (.block 8 (.loop Q23_37))) (.seq (.reg Q23_38) (.seq (.reg Q23_39) (.cond (.t 128) (.seq (.reg Q23_40) .ret) .skip)))))))) (.reg Q23_41))))
@[go_sem] def Q23_43 : List TO := [Oa 2 (.mv (Xk 0)),
  Oa 3 (.mv (Xk (-1)))]
def t_Q23 : TF := ⟨132, [.t 2, .t 3], (.seq (.reg Q23_0) (.seq (.seq (.reg Q23_1) (.cond (.t 43) (.seq (.reg Q23_2) .ret) .skip)) (.seq (.seq (.reg Q23_3) (.block 0 (.loop Q23_17))) (.seq (.seq (.reg Q23_18) (.block 4 (.loop Q23_24))) (.seq (.seq (.reg Q23_25) (.block 6 (.loop Q23_42))) (.seq (.reg Q23_43) .ret))))))⟩
/-! horarium/config.SameButTables -/
@[go_sem] def Q24_0 : List TO := [Oa 2 (.box (.t 0)),
  Oa 3 (.box (.t 1)),
  Oa 4 (.mv (.c (.b false)))]
@[go_sem] def Q24_1 : List TO := [Of 5 0 2,
  Ol 6 5,
  Of 7 0 3,
  Ol 8 7,
  Oa 9 (.call (.fn i_Q53) [(.t 6), (.t 8), (.fn i_Q54)]),
  Om 10 9,
  ⟨(some 11), .fad 1 (.t 2), some (10, true)⟩,
  ⟨(some 12), .load 1 false (.t 11), some (10, true)⟩,
  ⟨(some 13), .fad 1 (.t 3), some (10, true)⟩,
  ⟨(some 14), .load 1 false (.t 13), some (10, true)⟩,
  ⟨(some 15), .call (.fn i_Q55) [(.t 12), (.t 14)], some (10, true)⟩,
  Oa 16 (.pick (.t 10) (.t 15) (.c (.b false))),
  Om 4 16]
def t_Q24 : TF := ⟨17, [.t 4], (.seq (.reg Q24_0) (.seq (.reg Q24_1) .ret))⟩
/-! slices.EqualFunc[[][]horarium/api.Node,[][]horarium/api.Node,[]horarium/api.Node,[]horarium/api.Node] -/
@[go_sem] def Q25_0 : List TO := [Oa 6 (.mv (.c (.b false)))]
@[go_sem] def Q25_1 : List TO := [Om 10 0,
  Oa 11 (.len (.t 10)),
  Om 12 1,
  Oa 13 (.len (.t 12)),
  Oa 14 (.bin .neq (.t 11) (.t 13))]
@[go_sem] def Q25_2 : List TO := [Oa 6 (.mv (.c (.b false)))]
@[go_sem] def Q25_3 : List TO := [Om 15 0,
  Oa 16 (.len (.t 15)),
  Oa 17 (.mv (Xk 0))]
@[go_sem] def Q25_4 : List TO := [Oa 18 (.bin .lss (.t 17) (.t 16))]
@[go_sem] def Q25_5 : List TO := [Om 19 17,
  Oa 20 (.iad 1 (.t 15) (.t 17)),
  Ol 21 20,
  Om 7 19,
  Om 8 21]
@[go_sem] def Q25_6 : List TO := [Om 22 1,
  Om 23 7,
  Oa 24 (.iad 1 (.t 22) (.t 23)),
  Ol 25 24,
  Om 9 25]
@[go_sem] def Q25_7 : List TO := [Om 26 2,
  Om 27 8,
  Om 28 9,
  Oa 29 (.call (.t 26) [(.t 27), (.t 28)]),
  Oa 30 (.un .not (.t 29))]
@[go_sem] def Q25_8 : List TO := [Oa 6 (.mv (.c (.b false)))]
@[go_sem] def Q25_9 : List TO := [Oa 31 (.bin .add (.t 17) (Xk 1)),
  Om 17 31]
def Q25_10 : TC := (.seq (.reg Q25_4) (.seq (.cond (.t 18) .skip (.exit 0)) (.seq (.block 1 (.seq (.reg Q25_5) (.seq (.reg Q25_6) (.seq (.reg Q25_7) (.cond (.t 30) (.seq (.reg Q25_8) .ret) .skip))))) (.reg Q25_9))))
@[go_sem] def Q25_11 : List TO := [Oa 6 (.mv (.c (.b true)))]
def t_Q25 : TF := ⟨32, [.t 6], (.seq (.reg Q25_0) (.seq (.seq (.reg Q25_1) (.cond (.t 14) (.seq (.reg Q25_2) .ret) .skip)) (.seq (.seq (.reg Q25_3) (.block 0 (.loop Q25_10))) (.seq (.reg Q25_11) .ret))))⟩
/-! slices.Equal[[]horarium/api.Node,horarium/api.Node] -/
@[go_sem] def Q26_0 : List TO := [Oa 4 (.mv (.c (.b false)))]
@[go_sem] def Q26_1 : List TO := [Om 6 0,
  Oa 7 (.len (.t 6)),
  Om 8 1,
  Oa 9 (.len (.t 8)),
  Oa 10 (.bin .neq (.t 7) (.t 9))]
@[go_sem] def Q26_2 : List TO := [Oa 4 (.mv (.c (.b false)))]
@[go_sem] def Q26_3 : List TO := [Om 11 0,
  Oa 12 (.len (.t 11)),
  Oa 13 (.mv (Xk 0))]
@[go_sem] def Q26_4 : List TO := [Oa 14 (.bin .lss (.t 13) (.t 12))]
@[go_sem] def Q26_5 : List TO := [Om 15 13,
  Om 5 15]
@[go_sem] def Q26_6 : List (Bool × List TO) := [(true, [Om 16 0,
  Om 17 5,
  Oa 18 (.iad 3 (.t 16) (.t 17)),
  Oa 19 (.load 3 true (.t 18)),
  Om 20 1,
  Om 21 5,
  Oa 22 (.iad 3 (.t 20) (.t 21)),
  Oa 23 (.load 3 true (.t 22)),
  Oa 24 (.eq true (.agg [.i, .i, .i]) (.t 19) (.t 23))])]
@[go_sem] def Q26_7 : List TO := [Oa 4 (.mv (.c (.b false)))]
@[go_sem] def Q26_8 : List TO := [Oa 25 (.bin .add (.t 13) (Xk 1)),
  Om 13 25]
def Q26_9 : TC := (.seq (.reg Q26_4) (.seq (.cond (.t 14) .skip (.exit 0)) (.seq (.block 1 (.seq (.reg Q26_5) (.seq (.dreg Q26_6) (.cond (.t 24) (.seq (.reg Q26_7) .ret) .skip)))) (.reg Q26_8))))
@[go_sem] def Q26_10 : List TO := [Oa 4 (.mv (.c (.b true)))]
def t_Q26 : TF := ⟨26, [.t 4], (.seq (.reg Q26_0) (.seq (.seq (.reg Q26_1) (.cond (.t 10) (.seq (.reg Q26_2) .ret) .skip)) (.seq (.seq (.reg Q26_3) (.block 0 (.loop Q26_9))) (.seq (.reg Q26_10) .ret))))⟩
/-! horarium/horariumref12.But -/
@[go_sem] def Q27_0 : List TO := [Oa 2 (.box (.t 0)),
  Oa 3 (.box (.t 1)),
  Oa 4 (.mv (.c (.b false)))]
@[go_sem] def Q27_1 : List TO := [Of 7 0 2,
  Ol 8 7,
  Oa 9 (.len (.t 8)),
  Of 10 0 3,
  Ol 11 10,
  Oa 12 (.len (.t 11)),
  Oa 13 (.bin .neq (.t 9) (.t 12)),
  Om 14 13,
  ⟨(some 15), .fad 1 (.t 2), some (14, false)⟩,
  ⟨(some 16), .load 1 false (.t 15), some (14, false)⟩,
  ⟨(some 17), .len (.t 16), some (14, false)⟩,
  ⟨(some 18), .fad 1 (.t 3), some (14, false)⟩,
  ⟨(some 19), .load 1 false (.t 18), some (14, false)⟩,
  ⟨(some 20), .len (.t 19), some (14, false)⟩,
  ⟨(some 21), .bin .neq (.t 17) (.t 20), some (14, false)⟩,
  Oa 22 (.pick (.t 14) (.c (.b true)) (.t 21))]
@[go_sem] def Q27_2 : List TO := [Oa 4 (.mv (.c (.b false)))]
@[go_sem] def Q27_3 : List TO := [Of 23 0 2,
  Ol 24 23,
  Oa 25 (.len (.t 24)),
  Oa 26 (.mv (Xk 0))]
@[go_sem] def Q27_4 : List TO := [Oa 27 (.bin .lss (.t 26) (.t 25))]
@[go_sem] def Q27_5 : List TO := [Om 28 26,
  Om 5 28]
@[go_sem] def Q27_6 : List (Bool × List TO) := [(true, [Of 29 0 2,
  Ol 30 29,
  Om 31 5,
  Oa 32 (.iad 11 (.t 30) (.t 31)),
  Oa 33 (.load 11 true (.t 32)),
  Of 34 0 3,
  Ol 35 34,
  Om 36 5,
  Oa 37 (.iad 11 (.t 35) (.t 36)),
  Oa 38 (.load 11 true (.t 37)),
  Oa 39 (.call (.fn i_Q56) [(.t 33), (.t 38)]),
  Oa 40 (.un .not (.t 39))])]
@[go_sem] def Q27_7 : List TO := [Oa 4 (.mv (.c (.b false)))]
@[go_sem] def Q27_8 : List TO := [Oa 41 (.bin .add (.t 26) (Xk 1)),
  Om 26 41]
def Q27_9 : TC := (.seq (.reg Q27_4) (.seq (.cond (.t 27) .skip (.exit 0)) (.seq (.block 1 (.seq (.reg Q27_5) (.seq (.dreg Q27_6) (.cond (.t 40) (.seq (.reg Q27_7) .ret) .skip)))) (.reg Q27_8))))
@[go_sem] def Q27_10 : List TO := [Of 42 1 2,
  Ol 43 42,
  Oa 44 (.len (.t 43)),
  Oa 45 (.mv (Xk 0))]
@[go_sem] def Q27_11 : List TO := [Oa 46 (.bin .lss (.t 45) (.t 44))]
@[go_sem] def Q27_12 : List TO := [Om 47 45,
  Om 6 47]
@[go_sem] def Q27_13 : List (Bool × List TO) := [(true, [Of 48 1 2,
  Ol 49 48,
  Om 50 6,
  Oa 51 (.iad 6 (.t 49) (.t 50)),
  Oa 52 (.load 6 true (.t 51)),
  Of 53 1 3,
  Ol 54 53,
  Om 55 6,
  Oa 56 (.iad 6 (.t 54) (.t 55)),
  Oa 57 (.load 6 true (.t 56)),
  Oa 58 (.eq true (.agg [.i, .i, .b, .i, .i, .i]) (.t 52) (.t 57))])]
@[go_sem] def Q27_14 : List TO := [Oa 4 (.mv (.c (.b false)))]
@[go_sem] def Q27_15 : List TO := [Oa 59 (.bin .add (.t 45) (Xk 1)),
  Om 45 59]
def Q27_16 : TC := (.seq (.reg Q27_11) (.seq (.cond (.t 46) .skip (.exit 2)) (.seq (.block 3 (.seq (.reg Q27_12) (.seq (.dreg Q27_13) (.cond (.t 58) (.seq (.reg Q27_14) .ret) .skip)))) (.reg Q27_15))))
@[go_sem] def Q27_17 : List TO := [Oa 4 (.mv (.c (.b true)))]
def t_Q27 : TF := ⟨60, [.t 4], (.seq (.reg Q27_0) (.seq (.seq (.reg Q27_1) (.cond (.t 22) (.seq (.reg Q27_2) .ret) .skip)) (.seq (.seq (.reg Q27_3) (.block 0 (.loop Q27_9))) (.seq (.seq (.reg Q27_10) (.block 2 (.loop Q27_16))) (.seq (.reg Q27_17) .ret)))))⟩
/-! horarium/horariumref3.Nodes -/
@[go_sem] def Q28_0 : List TO := [Oa 4 (.mv (.c (.b false)))]
@[go_sem] def Q28_1 : List TO := [Om 6 0,
  Oa 7 (.len (.t 6)),
  Om 8 1,
  Oa 9 (.len (.t 8)),
  Oa 10 (.bin .neq (.t 7) (.t 9))]
@[go_sem] def Q28_2 : List TO := [Oa 4 (.mv (.c (.b false)))]
@[go_sem] def Q28_3 : List TO := [Om 11 0,
  Oa 12 (.len (.t 11)),
  Oa 13 (.mv (Xk 0))]
@[go_sem] def Q28_4 : List TO := [Oa 14 (.bin .lss (.t 13) (.t 12))]
@[go_sem] def Q28_5 : List TO := [Om 15 13,
  Om 5 15]
@[go_sem] def Q28_6 : List (Bool × List TO) := [(true, [Om 16 0,
  Om 17 5,
  Oa 18 (.iad 3 (.t 16) (.t 17)),
  Oa 19 (.load 3 true (.t 18)),
  Om 20 1,
  Om 21 5,
  Oa 22 (.iad 3 (.t 20) (.t 21)),
  Oa 23 (.load 3 true (.t 22)),
  Oa 24 (.eq true (.agg [.i, .i, .i]) (.t 19) (.t 23))])]
@[go_sem] def Q28_7 : List TO := [Oa 4 (.mv (.c (.b false)))]
@[go_sem] def Q28_8 : List TO := [Oa 25 (.bin .add (.t 13) (Xk 1)),
  Om 13 25]
def Q28_9 : TC := (.seq (.reg Q28_4) (.seq (.cond (.t 14) .skip (.exit 0)) (.seq (.block 1 (.seq (.reg Q28_5) (.seq (.dreg Q28_6) (.cond (.t 24) (.seq (.reg Q28_7) .ret) .skip)))) (.reg Q28_8))))
@[go_sem] def Q28_10 : List TO := [Oa 4 (.mv (.c (.b true)))]
def t_Q28 : TF := ⟨26, [.t 4], (.seq (.reg Q28_0) (.seq (.seq (.reg Q28_1) (.cond (.t 10) (.seq (.reg Q28_2) .ret) .skip)) (.seq (.seq (.reg Q28_3) (.block 0 (.loop Q28_9))) (.seq (.reg Q28_10) .ret))))⟩
/-! slices.Clip[[]horarium/api.Proc,horarium/api.Proc] -/
@[go_sem] def Q29_0 : List TO := [Oa 2 (.mv (.c .ns))]
@[go_sem] def Q29_1 : List TO := [Om 3 0,
  Om 4 0,
  Oa 5 (.len (.t 4)),
  Om 6 0,
  Oa 7 (.len (.t 6)),
  Oa 8 (.slice 2 (.t 3) none (some (.t 5)) (some (.t 7))),
  Om 2 8]
def t_Q29 : TF := ⟨9, [.t 2], (.seq (.reg Q29_0) (.seq (.reg Q29_1) .ret))⟩
/-! slices.Clone[[]horarium/api.Proc,horarium/api.Proc] -/
@[go_sem] def Q30_0 : List TO := [Oa 2 (.mv (.c .ns))]
@[go_sem] def Q30_1 : List TO := [Om 3 0,
  Oa 4 (.eq false .sl (.t 3) (.c .ns))]
@[go_sem] def Q30_2 : List TO := [Oa 2 (.mv (.c .ns))]
@[go_sem] def Q30_3 : List TO := [Oa 5 (.e0),
  Om 6 0,
  Oa 7 (.app 2 (.t 5) (.t 6)),
  Om 2 7]
def t_Q30 : TF := ⟨8, [.t 2], (.seq (.reg Q30_0) (.seq (.seq (.reg Q30_1) (.cond (.t 4) (.seq (.reg Q30_2) .ret) .skip)) (.seq (.reg Q30_3) .ret)))⟩
/-! slices.Clip[[]horarium/api.Chan,horarium/api.Chan] -/
@[go_sem] def Q31_0 : List TO := [Oa 2 (.mv (.c .ns))]
@[go_sem] def Q31_1 : List TO := [Om 3 0,
  Om 4 0,
  Oa 5 (.len (.t 4)),
  Om 6 0,
  Oa 7 (.len (.t 6)),
  Oa 8 (.slice 6 (.t 3) none (some (.t 5)) (some (.t 7))),
  Om 2 8]
def t_Q31 : TF := ⟨9, [.t 2], (.seq (.reg Q31_0) (.seq (.reg Q31_1) .ret))⟩
/-! slices.Clone[[]horarium/api.Chan,horarium/api.Chan] -/
@[go_sem] def Q32_0 : List TO := [Oa 2 (.mv (.c .ns))]
@[go_sem] def Q32_1 : List TO := [Om 3 0,
  Oa 4 (.eq false .sl (.t 3) (.c .ns))]
@[go_sem] def Q32_2 : List TO := [Oa 2 (.mv (.c .ns))]
@[go_sem] def Q32_3 : List TO := [Oa 5 (.e0),
  Om 6 0,
  Oa 7 (.app 6 (.t 5) (.t 6)),
  Om 2 7]
def t_Q32 : TF := ⟨8, [.t 2], (.seq (.reg Q32_0) (.seq (.seq (.reg Q32_1) (.cond (.t 4) (.seq (.reg Q32_2) .ret) .skip)) (.seq (.reg Q32_3) .ret)))⟩
/-! slices.Clip[[]horarium/api.Node,horarium/api.Node] -/
@[go_sem] def Q33_0 : List TO := [Oa 2 (.mv (.c .ns))]
@[go_sem] def Q33_1 : List TO := [Om 3 0,
  Om 4 0,
  Oa 5 (.len (.t 4)),
  Om 6 0,
  Oa 7 (.len (.t 6)),
  Oa 8 (.slice 3 (.t 3) none (some (.t 5)) (some (.t 7))),
  Om 2 8]
def t_Q33 : TF := ⟨9, [.t 2], (.seq (.reg Q33_0) (.seq (.reg Q33_1) .ret))⟩
/-! slices.Clone[[]horarium/api.Node,horarium/api.Node] -/
@[go_sem] def Q34_0 : List TO := [Oa 2 (.mv (.c .ns))]
@[go_sem] def Q34_1 : List TO := [Om 3 0,
  Oa 4 (.eq false .sl (.t 3) (.c .ns))]
@[go_sem] def Q34_2 : List TO := [Oa 2 (.mv (.c .ns))]
@[go_sem] def Q34_3 : List TO := [Oa 5 (.e0),
  Om 6 0,
  Oa 7 (.app 3 (.t 5) (.t 6)),
  Om 2 7]
def t_Q34 : TF := ⟨8, [.t 2], (.seq (.reg Q34_0) (.seq (.seq (.reg Q34_1) (.cond (.t 4) (.seq (.reg Q34_2) .ret) .skip)) (.seq (.reg Q34_3) .ret)))⟩
/-! horarium/horariumref1.Put -/
@[go_sem] def Q35_0 : List TO := [Oa 4 (.mv (.c .ns))]
@[go_sem] def Q35_1 : List TO := [Om 8 1,
  Oa 9 (.conv .u64 (.t 8)),
  Om 5 9,
  Oa 6 (.mv (.c (.i .u8 0)))]
@[go_sem] def Q35_2 : List TO := [Om 10 1,
  Oa 11 (.bin .lss (.t 10) (Xk 0))]
@[go_sem] def Q35_3 : List TO := [Om 12 5,
  Oa 13 (.un .neg (.t 12)),
  Om 5 13,
  Oa 6 (.mv (.c (.i .u8 128)))]
@[go_sem] def Q35_4 : List TO := [Oa 7 (.mv (.c .ns))]
@[go_sem] def Q35_5 : List TO := [Om 14 5,
  Oa 15 (.bin .gtr (.t 14) (.c (.i .u64 0)))]
@[go_sem] def Q35_6 : List TO := [Om 18 5,
  Oa 19 (.conv .u8 (.t 18)),
  Oa 20 (.bsl 1 [(.i .u8 0)] 1 [(0, (.t 19))]),
  Om 21 7,
  Oa 22 (.app 1 (.t 20) (.t 21)),
  Om 7 22]
@[go_sem] def Q35_7 : List TO := [Om 16 5,
  Oa 17 (.bin .shr (.t 16) (.c (.i .u64 8))),
  Om 5 17]
def Q35_8 : TC := (.seq (.seq (.reg Q35_5) (.cond (.t 15) .skip (.exit 0))) (.seq (.block 1 (.reg Q35_6)) (.reg Q35_7)))
@[go_sem] def Q35_9 : List TO := [Oa 23 (.e0),
  Om 24 0,
  Oa 25 (.app 1 (.t 23) (.t 24)),
  Om 26 6,
  Om 27 7,
  Oa 28 (.len (.t 27)),
  Oa 29 (.conv .u8 (.t 28)),
  Oa 30 (.bin .add (.t 26) (.t 29)),
  Oa 31 (.bsl 1 [(.i .u8 0)] 1 [(0, (.t 30))]),
  Oa 32 (.app 1 (.t 25) (.t 31)),
  Om 33 7,
  Oa 34 (.app 1 (.t 32) (.t 33)),
  Om 4 34]
def t_Q35 : TF := ⟨35, [.t 4], (.seq (.reg Q35_0) (.seq (.reg Q35_1) (.seq (.seq (.reg Q35_2) (.cond (.t 11) (.reg Q35_3) .skip)) (.seq (.reg Q35_4) (.seq (.block 0 (.loop Q35_8)) (.seq (.reg Q35_9) .ret))))))⟩
/-! horarium/horariumref1.Text -/
@[go_sem] def Q36_0 : List TO := [Oa 4 (.mv (.c .ns))]
@[go_sem] def Q36_1 : List TO := [Om 5 0,
  Om 6 1,
  Oa 7 (.slen (.t 6)),
  Oa 8 (.call (.fn i_Q35) [(.t 5), (.t 7)]),
  Om 9 1,
  Oa 10 (.app 1 (.t 8) (.t 9)),
  Om 4 10]
def t_Q36 : TF := ⟨11, [.t 4], (.seq (.reg Q36_0) (.seq (.reg Q36_1) .ret))⟩
/-! horarium/horariumref1.Flag -/
@[go_sem] def Q37_0 : List TO := [Oa 4 (.mv (.c .ns))]
@[go_sem] def Q37_1 : List TO := [Om 5 1]
@[go_sem] def Q37_2 : List TO := [Om 6 0,
  Oa 7 (.call (.fn i_Q35) [(.t 6), (Xk 1)]),
  Om 4 7]
@[go_sem] def Q37_3 : List TO := [Om 8 0,
  Oa 9 (.call (.fn i_Q35) [(.t 8), (Xk 0)]),
  Om 4 9]
def t_Q37 : TF := ⟨10, [.t 4], (.seq (.reg Q37_0) (.seq (.seq (.reg Q37_1) (.cond (.t 5) (.seq (.reg Q37_2) .ret) .skip)) (.seq (.reg Q37_3) .ret)))⟩
/-! horarium/horariumref1.Seal -/
@[go_sem] def Q38_0 : List TO := [Oa 2 (.mv (.c .ns))]
@[go_sem] def Q38_1 : List TO := [Om 4 0,
  Oa 5 (.call (.fn i_Q57) [(.t 4)]),
  Om 3 5]
@[go_sem] def Q38_2 : List TO := [Oa 6 (.e0),
  Om 7 0,
  Oa 8 (.app 1 (.t 6) (.t 7)),
  Om 9 3,
  Oa 10 (.bin .shr (.t 9) (.c (.i .u64 24))),
  Oa 11 (.conv .u8 (.t 10)),
  Om 12 3,
  Oa 13 (.bin .shr (.t 12) (.c (.i .u64 16))),
  Oa 14 (.conv .u8 (.t 13)),
  Om 15 3,
  Oa 16 (.bin .shr (.t 15) (.c (.i .u64 8))),
  Oa 17 (.conv .u8 (.t 16)),
  Om 18 3,
  Oa 19 (.conv .u8 (.t 18)),
  Oa 20 (.bsl 1 [(.i .u8 0)] 4 [(0, (.t 11)), (1, (.t 14)), (2, (.t 17)), (3, (.t 19))]),
  Oa 21 (.app 1 (.t 8) (.t 20)),
  Om 2 21]
def t_Q38 : TF := ⟨22, [.t 2], (.seq (.reg Q38_0) (.seq (.reg Q38_1) (.seq (.reg Q38_2) .ret)))⟩
/-! slices.ContainsFunc[[]horarium/api.Part,horarium/api.Part] -/
@[go_sem] def Q39_0 : List TO := [Oa 4 (.mv (.c (.b false)))]
@[go_sem] def Q39_1 : List TO := [Om 5 0,
  Om 6 1,
  Oa 7 (.call (.fn i_Q58) [(.t 5), (.t 6)]),
  Oa 8 (.bin .geq (.t 7) (Xk 0)),
  Om 4 8]
def t_Q39 : TF := ⟨9, [.t 4], (.seq (.reg Q39_0) (.seq (.reg Q39_1) .ret))⟩
/-! horarium/config.Where$1 -/
@[go_sem] def Q40_0 : List TO := [Oa 2 (.box (.t 0)),
  Oa 3 (.mv (.c (.b false)))]
@[go_sem] def Q40_1 : List TO := [Of 4 0 2,
  Ol 5 4,
  Of 6 0 1,
  Ol 7 6,
  Oa 8 (.bin .eql (.t 5) (.t 7)),
  Om 3 8]
def t_Q40 : TF := ⟨9, [.t 3], (.seq (.reg Q40_0) (.seq (.reg Q40_1) .ret))⟩
/-! horarium/config.part -/
@[go_sem] def Q41_0 : List TO := [Oa 1 (.box (.t 0)),
  Oa 2 (.mv (.c (.b false)))]
@[go_sem] def Q41_1 : List TO := [Of 6 6 1,
  Oa 7 (.load 5 true (.t 6)),
  Oa 8 (.mv (Xk 0))]
@[go_sem] def Q41_2 : List TO := [Oa 9 (.bin .lss (.t 8) (Xk 5))]
@[go_sem] def Q41_3 : List TO := [Oa 10 (.idx 1 5 false (.t 7) (.t 8)),
  Om 4 10]
@[go_sem] def Q41_4 : List TO := [Om 11 4,
  Oa 12 (.bin .lss (.t 11) (Xk 0)),
  Om 13 12,
  ⟨(some 14), .mv (.t 4), some (13, false)⟩,
  ⟨(some 15), .bin .gtr (.t 14) (Xk 2), some (13, false)⟩,
  Oa 16 (.pick (.t 13) (.c (.b true)) (.t 15))]
@[go_sem] def Q41_5 : List TO := [Oa 2 (.mv (.c (.b false)))]
@[go_sem] def Q41_6 : List TO := [Oa 17 (.bin .add (.t 8) (Xk 1)),
  Om 8 17]
def Q41_7 : TC := (.seq (.reg Q41_2) (.seq (.cond (.t 9) .skip (.exit 0)) (.seq (.block 1 (.seq (.reg Q41_3) (.seq (.reg Q41_4) (.cond (.t 16) (.seq (.reg Q41_5) .ret) .skip)))) (.reg Q41_6))))
@[go_sem] def Q41_8 : List TO := [Of 18 1 1,
  Ol 19 18,
  Oa 20 (.bin .eql (.t 19) (Xk 0)),
  Om 21 20,
  ⟨(some 22), .fad 2 (.t 1), some (21, true)⟩,
  ⟨(some 23), .load 1 false (.t 22), some (21, true)⟩,
  ⟨(some 24), .bin .eql (.t 23) (Xk 0), some (21, true)⟩,
  Oa 25 (.pick (.t 21) (.t 24) (.c (.b false))),
  Om 5 25]
@[go_sem] def Q41_9 : List TO := [Of 26 5 1,
  Ol 27 26,
  Oa 28 (.call (.fn i_Q59) [(.t 27)]),
  Om 29 28,
  ⟨(some 30), .mv (.t 5), some (29, true)⟩,
  ⟨(some 31), .mv (.t 30), some (29, true)⟩,
  ⟨(some 32), .fad 1 (.t 1), some (31, false)⟩,
  ⟨(some 33), .load 1 false (.t 32), some (31, false)⟩,
  ⟨(some 34), .bin .geq (.t 33) (Xk 1), some (31, false)⟩,
  ⟨(some 35), .mv (.t 34), some (31, false)⟩,
  ⟨(some 36), .fad 1 (.t 1), some (35, true)⟩,
  ⟨(some 37), .load 1 false (.t 36), some (35, true)⟩,
  ⟨(some 38), .bin .leq (.t 37) (Xk 4096), some (35, true)⟩,
  ⟨(some 39), .pick (.t 35) (.t 38) (.c (.b false)), some (31, false)⟩,
  ⟨(some 40), .mv (.t 39), some (31, false)⟩,
  ⟨(some 41), .fad 2 (.t 1), some (40, true)⟩,
  ⟨(some 42), .load 1 false (.t 41), some (40, true)⟩,
  ⟨(some 43), .fad 1 (.t 1), some (40, true)⟩,
  ⟨(some 44), .load 1 false (.t 43), some (40, true)⟩,
  ⟨(some 45), .bin .geq (.t 42) (.t 44), some (40, true)⟩,
  ⟨(some 46), .pick (.t 40) (.t 45) (.c (.b false)), some (31, false)⟩,
  ⟨(some 47), .mv (.t 46), some (31, false)⟩,
  ⟨(some 48), .fad 2 (.t 1), some (47, true)⟩,
  ⟨(some 49), .load 1 false (.t 48), some (47, true)⟩,
  ⟨(some 50), .bin .leq (.t 49) (Xk 4096), some (47, true)⟩,
  ⟨(some 51), .pick (.t 47) (.t 50) (.c (.b false)), some (31, false)⟩,
  ⟨(some 52), .pick (.t 31) (.c (.b true)) (.t 51), some (29, true)⟩,
  Oa 53 (.pick (.t 29) (.t 52) (.c (.b false))),
  Om 2 53]
def t_Q41 : TF := ⟨54, [.t 2], (.seq (.reg Q41_0) (.seq (.seq (.reg Q41_1) (.block 0 (.loop Q41_7))) (.seq (.reg Q41_8) (.seq (.reg Q41_9) .ret))))⟩
/-! horarium/config.channel -/
@[go_sem] def Q42_0 : List TO := [Oa 2 (.box (.t 0)),
  Oa 3 (.box (.t 1)),
  Oa 4 (.mv (.c (.b false)))]
@[go_sem] def Q42_1 : List TO := [Oa 5 (.mv (Xk 0)),
  Oa 6 (.mv (Xk 0))]
@[go_sem] def Q42_2 : List TO := [Of 8 2 3,
  Ol 9 8]
@[go_sem] def Q42_3 : List TO := [Oa 5 (.mv (Xk 1)),
  Oa 6 (.mv (Xk 8))]
@[go_sem] def Q42_4 : List TO := [Of 10 0 2,
  Ol 11 10,
  Oa 12 (.len (.t 11)),
  Oa 13 (.bin .sub (.t 12) (Xk 1)),
  Om 7 13]
@[go_sem] def Q42_5 : List TO := [Of 14 0 3,
  Ol 15 14,
  Om 16 7,
  Oa 17 (.call (.fn i_Q60) [(.t 15), (.t 16)]),
  Om 18 17,
  ⟨(some 19), .fad 1 (.t 3), some (18, true)⟩,
  ⟨(some 20), .load 1 false (.t 19), some (18, true)⟩,
  ⟨(some 21), .mv (.t 7), some (18, true)⟩,
  ⟨(some 22), .call (.fn i_Q60) [(.t 20), (.t 21)], some (18, true)⟩,
  Oa 23 (.pick (.t 18) (.t 22) (.c (.b false))),
  Om 24 23,
  ⟨(some 25), .fad 0 (.t 3), some (24, true)⟩,
  ⟨(some 26), .load 1 false (.t 25), some (24, true)⟩,
  ⟨(some 27), .fad 1 (.t 3), some (24, true)⟩,
  ⟨(some 28), .load 1 false (.t 27), some (24, true)⟩,
  ⟨(some 29), .bin .neq (.t 26) (.t 28), some (24, true)⟩,
  Oa 30 (.pick (.t 24) (.t 29) (.c (.b false))),
  Om 31 30,
  ⟨(some 32), .fad 3 (.t 3), some (31, true)⟩,
  ⟨(some 33), .load 1 false (.t 32), some (31, true)⟩,
  ⟨(some 34), .mv (.t 5), some (31, true)⟩,
  ⟨(some 35), .bin .geq (.t 33) (.t 34), some (31, true)⟩,
  Oa 36 (.pick (.t 31) (.t 35) (.c (.b false))),
  Om 37 36,
  ⟨(some 38), .fad 3 (.t 3), some (37, true)⟩,
  ⟨(some 39), .load 1 false (.t 38), some (37, true)⟩,
  ⟨(some 40), .mv (.t 6), some (37, true)⟩,
  ⟨(some 41), .bin .leq (.t 39) (.t 40), some (37, true)⟩,
  Oa 42 (.pick (.t 37) (.t 41) (.c (.b false))),
  Om 43 42,
  ⟨(some 44), .fad 5 (.t 3), some (43, true)⟩,
  ⟨(some 45), .load 1 false (.t 44), some (43, true)⟩,
  ⟨(some 46), .call (.fn i_Q60) [(.t 45), (Xk 4096)], some (43, true)⟩,
  Oa 47 (.pick (.t 43) (.t 46) (.c (.b false))),
  Om 4 47]
def t_Q42 : TF := ⟨48, [.t 4], (.seq (.reg Q42_0) (.seq (.reg Q42_1) (.seq (.seq (.reg Q42_2) (.cond (.t 9) (.reg Q42_3) .skip)) (.seq (.reg Q42_4) (.seq (.reg Q42_5) .ret)))))⟩
/-! horarium/config.table -/
@[go_sem] def Q43_0 : List TO := [Oa 2 (.box (.t 0)),
  Oa 4 (.mv (Xk 0))]
@[go_sem] def Q43_1 : List TO := [Om 8 1,
  Oa 9 (.call (.fn i_Q61) [(.t 8)]),
  Om 7 9,
  Oa 10 (.ext (.t 7) 0),
  Oa 11 (.ext (.t 7) 1),
  Om 5 10,
  Om 6 11]
@[go_sem] def Q43_2 : List TO := [Om 12 6,
  Oa 13 (.bin .neq (.t 12) (Xk 0))]
@[go_sem] def Q43_3 : List TO := [Om 14 6,
  Om 4 14]
@[go_sem] def Q43_4 : List TO := [Om 15 5,
  Oa 16 (.mkfn (.func i_Q63) [] [(.t 2)]),
  Oa 17 (.call (.fn i_Q62) [(.t 15), (.t 16)])]
@[go_sem] def Q43_5 : List TO := [Oa 4 (.mv (Xk 16))]
@[go_sem] def Q43_6 : List TO := [Oa 18 (.load 3 true (.t 2)),
  Om 19 5,
  Oa 20 (.call (.fn i_Q64) [(.t 18), (.t 19)]),
  Om 4 20]
def t_Q43 : TF := ⟨21, [.t 4], (.seq (.reg Q43_0) (.seq (.reg Q43_1) (.seq (.seq (.reg Q43_2) (.cond (.t 13) (.seq (.reg Q43_3) .ret) .skip)) (.seq (.seq (.reg Q43_4) (.cond (.t 17) (.seq (.reg Q43_5) .ret) .skip)) (.seq (.reg Q43_6) .ret)))))⟩
/-! (*horarium/horariumkeep.Tape).Table -/
@[go_sem] def Q44_0 : List TO := [Oa 6 (.mv (.c .ns))]
@[go_sem] def Q44_1 : List TO := [Om 11 0,
  Oa 12 (.call (.fn i_Q20) [(.t 11), (Xk 7)]),
  Om 7 12]
@[go_sem] def Q44_2 : List TO := [Om 13 2,
  Oa 14 (.bin .lss (.t 13) (Xk 1)),
  Om 15 14,
  ⟨(some 16), .mv (.t 7), some (15, false)⟩,
  ⟨(some 17), .bin .lss (.t 16) (Xk 2), some (15, false)⟩,
  Oa 18 (.pick (.t 15) (.c (.b true)) (.t 17))]
@[go_sem] def Q44_3 : List TO := [Om 19 7,
  Oa 20 (.bin .eql (.t 19) (Xk 0))]
@[go_sem] def Q44_4 : List TO := [Om 21 0,
  Oa 22 (.call (.fn i_Q20) [(.t 21), (Xk 4)]),
  Oa 23 (.bin .add (Xk 1) (.t 22)),
  Oa 24 (.build [(.i .i64 0), (.i .i64 0), (.i .i64 0)] [(0, 1, (Xk 2)), (2, 1, (.t 23))]),
  Oa 25 (.bsl 3 [(.i .i64 0), (.i .i64 0), (.i .i64 0)] 1 [(0, (.t 24))]),
  Om 6 25]
@[go_sem] def Q44_5 : List TO := [Om 26 0,
  Om 27 1,
  Oa 28 (.call (.fn i_Q20) [(.t 26), (.t 27)]),
  Om 29 0,
  Oa 30 (.call (.fn i_Q20) [(.t 29), (Xk 4)]),
  Oa 31 (.bin .add (Xk 1) (.t 30)),
  Oa 32 (.build [(.i .i64 0), (.i .i64 0), (.i .i64 0)] [(0, 1, (Xk 1)), (1, 1, (.t 28)), (2, 1, (.t 31))]),
  Oa 33 (.bsl 3 [(.i .i64 0), (.i .i64 0), (.i .i64 0)] 1 [(0, (.t 32))]),
  Om 6 33]
@[go_sem] def Q44_6 : List TO := [Om 34 7,
  Oa 35 (.bin .eql (.t 34) (Xk 2))]
@[go_sem] def Q44_7 : List TO := [Om 36 0,
  Oa 37 (.call (.fn i_Q20) [(.t 36), (Xk 3)]),
  Oa 38 (.bin .add (Xk 1) (.t 37)),
  Oa 39 (.build [(.i .i64 0), (.i .i64 0), (.i .i64 0)] [(0, 1, (Xk 4)), (2, 1, (.t 38))]),
  Oa 40 (.bsl 3 [(.i .i64 0), (.i .i64 0), (.i .i64 0)] 1 [(0, (.t 39))]),
  Om 41 0,
  Om 42 1,
  Om 43 2,
  Oa 44 (.bin .sub (.t 43) (Xk 1)),
  Oa 45 (.call (.fn i_Q44) [(.t 41), (.t 42), (.t 44)]),
  Oa 46 (.app 3 (.t 40) (.t 45)),
  Om 6 46]
@[go_sem] def Q44_8 : List TO := [Om 47 0,
  Oa 48 (.call (.fn i_Q20) [(.t 47), (Xk 4)]),
  Oa 49 (.bin .add (Xk 1) (.t 48)),
  Om 8 49]
@[go_sem] def Q44_9 : List TO := [Om 50 8,
  Oa 51 (.build [(.i .i64 0), (.i .i64 0), (.i .i64 0)] [(0, 1, (Xk 3)), (2, 1, (.t 50))]),
  Oa 52 (.bsl 3 [(.i .i64 0), (.i .i64 0), (.i .i64 0)] 1 [(0, (.t 51))]),
  Om 9 52]
@[go_sem] def Q44_10 : List TO := [Oa 10 (.mv (Xk 0))]
@[go_sem] def Q44_11 : List TO := [Om 53 10,
  Om 54 8,
  Oa 55 (.bin .lss (.t 53) (.t 54))]
@[go_sem] def Q44_12 : List TO := [Om 58 9,
  Om 59 0,
  Om 60 1,
  Om 61 2,
  Oa 62 (.bin .sub (.t 61) (Xk 1)),
  Oa 63 (.call (.fn i_Q44) [(.t 59), (.t 60), (.t 62)]),
  Oa 64 (.app 3 (.t 58) (.t 63)),
  Om 9 64]
@[go_sem] def Q44_13 : List TO := [Om 56 10,
  Oa 57 (.bin .add (.t 56) (Xk 1)),
  Om 10 57]
def Q44_14 : TC := (.seq (.seq (.reg Q44_11) (.cond (.t 55) .skip (.exit 0))) (.seq (.block 1 (.reg Q44_12)) (.reg Q44_13)))
@[go_sem] def Q44_15 : List TO := [Om 65 9,
  Om 6 65]
def t_Q44 : TF := ⟨66, [.t 6], (.seq (.reg Q44_0) (.seq (.reg Q44_1) (.seq (.seq (.reg Q44_2) (.cond (.t 18) (.seq (.seq (.reg Q44_3) (.cond (.t 20) (.seq (.reg Q44_4) .ret) .skip)) (.seq (.reg Q44_5) .ret)) .skip)) (.seq (.seq (.reg Q44_6) (.cond (.t 35) (.seq (.reg Q44_7) .ret) .skip)) (.seq (.reg Q44_8) (.seq (.reg Q44_9) (.seq (.seq (.reg Q44_10) (.block 0 (.loop Q44_14))) (.seq (.reg Q44_15) .ret))))))))⟩
/-! horarium/horariumref3.Of -/
@[go_sem] def Q45_0 : List TO := [Oa 2 (.mv (.c .ns)),
  Oa 3 (.mv (Xk 0))]
@[go_sem] def Q45_1 : List TO := [Om 6 0,
  Oa 7 (.call (.fn i_Q65) [(.t 6)]),
  Om 4 7]
@[go_sem] def Q45_2 : List TO := [Om 8 4,
  Oa 9 (.bin .neq (.t 8) (Xk 0))]
@[go_sem] def Q45_3 : List TO := [Om 10 4,
  Oa 2 (.mv (.c .ns)),
  Om 3 10]
@[go_sem] def Q45_4 : List TO := [Om 11 0,
  Oa 12 (.call (.fn i_Q67) [(.t 11)]),
  Oa 13 (.call (.fn i_Q66) [(.t 12)]),
  Om 5 13]
@[go_sem] def Q45_5 : List TO := [Om 14 5,
  Oa 15 (.len (.t 14)),
  Oa 16 (.bin .gtr (.t 15) (Xk 96))]
@[go_sem] def Q45_6 : List TO := [Oa 2 (.mv (.c .ns)),
  Oa 3 (.mv (Xk 3))]
@[go_sem] def Q45_7 : List TO := [Om 17 5,
  Om 2 17,
  Oa 3 (.mv (Xk 0))]
def t_Q45 : TF := ⟨18, [.t 2, .t 3], (.seq (.reg Q45_0) (.seq (.seq (.reg Q45_1) (.seq (.reg Q45_2) (.cond (.t 9) (.seq (.reg Q45_3) .ret) .skip))) (.seq (.reg Q45_4) (.seq (.seq (.reg Q45_5) (.cond (.t 16) (.seq (.reg Q45_6) .ret) .skip)) (.seq (.reg Q45_7) .ret)))))⟩
/-! horarium/horariumref3.Total -/
@[go_sem] def Q46_0 : List TO := [Oa 2 (.mv (Xk 0))]
@[go_sem] def Q46_1 : List TO := [Oa 3 (.mv (Xk 0))]
@[go_sem] def Q46_2 : List TO := [Om 6 0,
  Oa 7 (.len (.t 6)),
  Oa 8 (.mv (Xk 0))]
@[go_sem] def Q46_3 : List TO := [Oa 9 (.bin .lss (.t 8) (.t 7))]
@[go_sem] def Q46_4 : List TO := [Oa 10 (.iad 2 (.t 6) (.t 8)),
  Oa 11 (.load 2 true (.t 10)),
  Oa 5 (.alloc [(.i .i64 0), (.i .i64 0)]),
  On (.store 2 (.t 5) (.t 11))]
@[go_sem] def Q46_5 : List TO := [Om 12 3,
  Of 13 1 5,
  Ol 14 13,
  Oa 15 (.call (.fn i_Q68) [(.t 12), (.t 14)]),
  Om 3 15]
@[go_sem] def Q46_6 : List TO := [Oa 16 (.bin .add (.t 8) (Xk 1)),
  Om 8 16]
def Q46_7 : TC := (.seq (.reg Q46_3) (.seq (.cond (.t 9) .skip (.exit 0)) (.seq (.block 1 (.seq (.reg Q46_4) (.reg Q46_5))) (.reg Q46_6))))
@[go_sem] def Q46_8 : List TO := [Om 17 3,
  Om 2 17]
def t_Q46 : TF := ⟨18, [.t 2], (.seq (.reg Q46_0) (.seq (.reg Q46_1) (.seq (.seq (.reg Q46_2) (.block 0 (.loop Q46_7))) (.seq (.reg Q46_8) .ret))))⟩
/-! horarium/horariumref7.Late -/
@[go_sem] def Q47_0 : List TO := [Oa 6 (.mv (Xk 0))]
@[go_sem] def Q47_1 : List TO := [Om 16 0,
  Oa 17 (.call (.fn i_Q69) [(.t 16)]),
  Om 7 17]
@[go_sem] def Q47_2 : List TO := [Oa 8 (.mv (Xk 0)),
  Oa 9 (.mv (.c (.b false))),
  Oa 10 (.mv (.c (.b false)))]
@[go_sem] def Q47_3 : List TO := [Om 18 7,
  Oa 19 (.len (.t 18)),
  Oa 20 (.mv (Xk 0))]
@[go_sem] def Q47_4 : List TO := [Oa 21 (.bin .lss (.t 20) (.t 19))]
@[go_sem] def Q47_5 : List TO := [Oa 22 (.iad 1 (.t 18) (.t 20)),
  Ol 23 22,
  Om 12 23]
@[go_sem] def Q47_6 : List TO := [Om 24 9,
  Om 25 24,
  ⟨(some 26), .mv (.t 12), some (25, false)⟩,
  ⟨(some 27), .mv (.t 2), some (25, false)⟩,
  ⟨(some 28), .bin .eql (.t 26) (.t 27), some (25, false)⟩,
  Oa 29 (.pick (.t 25) (.c (.b true)) (.t 28)),
  Om 30 10,
  Om 31 30,
  ⟨(some 32), .mv (.t 12), some (31, false)⟩,
  ⟨(some 33), .mv (.t 1), some (31, false)⟩,
  ⟨(some 34), .bin .eql (.t 32) (.t 33), some (31, false)⟩,
  Oa 35 (.pick (.t 31) (.c (.b true)) (.t 34)),
  Om 9 29,
  Om 10 35]
@[go_sem] def Q47_7 : List TO := [Oa 36 (.bin .add (.t 20) (Xk 1)),
  Om 20 36]
def Q47_8 : TC := (.seq (.reg Q47_4) (.seq (.cond (.t 21) .skip (.exit 0)) (.seq (.block 1 (.seq (.reg Q47_5) (.reg Q47_6))) (.reg Q47_7))))
@[go_sem] def Q47_9 : List TO := [Om 37 10,
  Oa 38 (.un .not (.t 37))]
@[go_sem] def Q47_10 : List TO := [Oa 6 (.mv (Xk 0))]
@[go_sem] def Q47_11 : List TO := [Om 39 9,
  Oa 40 (.un .not (.t 39))]
@[go_sem] def Q47_12 : List TO := [Oa 6 (.mv (Xk (-1)))]
@[go_sem] def Q47_13 : List TO := [Om 41 7,
  Oa 42 (.len (.t 41)),
  Oa 43 (.mv (Xk 0))]
@[go_sem] def Q47_14 : List TO := [Oa 44 (.bin .lss (.t 43) (.t 42))]
@[go_sem] def Q47_15 : List TO := [Om 45 43,
  Oa 46 (.iad 1 (.t 41) (.t 43)),
  Ol 47 46,
  Om 13 45,
  Om 14 47]
@[go_sem] def Q47_16 : List TO := [Om 48 14,
  Om 49 1,
  Oa 50 (.bin .neq (.t 48) (.t 49))]
@[go_sem] def Q47_17 : List TO := [Oa 15 (.mv (Xk 1))]
@[go_sem] def Q47_18 : List TO := [Om 51 7,
  Om 52 13,
  Om 53 15,
  Oa 54 (.bin .add (.t 52) (.t 53)),
  Om 55 7,
  Oa 56 (.len (.t 55)),
  Oa 57 (.bin .rem (.t 54) (.t 56)),
  Oa 58 (.iad 1 (.t 51) (.t 57)),
  Ol 59 58,
  Om 60 2,
  Oa 61 (.bin .neq (.t 59) (.t 60))]
@[go_sem] def Q47_19 : List TO := [Om 62 15,
  Oa 63 (.bin .add (.t 62) (Xk 1)),
  Om 15 63]
def Q47_20 : TC := (.seq (.seq (.reg Q47_18) (.cond (.t 61) .skip (.exit 4))) (.block 5 (.reg Q47_19)))
@[go_sem] def Q47_21 : List TO := [Om 64 8,
  Om 65 15,
  Oa 66 (.mx [(.t 64), (.t 65)]),
  Om 8 66]
@[go_sem] def Q47_22 : List TO := [Oa 67 (.bin .add (.t 43) (Xk 1)),
  Om 43 67]
def Q47_23 : TC := (.seq (.reg Q47_14) (.seq (.cond (.t 44) .skip (.exit 2)) (.seq (.block 3 (.seq (.reg Q47_15) (.seq (.seq (.reg Q47_16) (.cond (.t 50) (.exit 3) .skip)) (.seq (.reg Q47_17) (.seq (.block 4 (.loop Q47_20)) (.reg Q47_21)))))) (.reg Q47_22))))
@[go_sem] def Q47_24 : List TO := [Om 68 8,
  Om 6 68]
def t_Q47 : TF := ⟨69, [.t 6], (.seq (.reg Q47_0) (.seq (.reg Q47_1) (.seq (.reg Q47_2) (.seq (.seq (.reg Q47_3) (.block 0 (.loop Q47_8))) (.seq (.seq (.reg Q47_9) (.cond (.t 38) (.seq (.reg Q47_10) .ret) .skip)) (.seq (.seq (.reg Q47_11) (.cond (.t 40) (.seq (.reg Q47_12) .ret) .skip)) (.seq (.seq (.reg Q47_13) (.block 2 (.loop Q47_23))) (.seq (.reg Q47_24) .ret))))))))⟩
/-! horarium/horariumref7.Budget -/
@[go_sem] def Q48_0 : List TO := [Oa 6 (.mv (Xk 0))]
@[go_sem] def Q48_1 : List TO := [Om 13 0,
  Oa 14 (.call (.fn i_Q69) [(.t 13)]),
  Om 7 14]
@[go_sem] def Q48_2 : List TO := [Om 15 2,
  Oa 16 (.bin .lss (.t 15) (Xk 1)),
  Om 17 16,
  ⟨(some 18), .mv (.t 7), some (17, false)⟩,
  ⟨(some 19), .len (.t 18), some (17, false)⟩,
  ⟨(some 20), .bin .eql (.t 19) (Xk 0), some (17, false)⟩,
  Oa 21 (.pick (.t 17) (.c (.b true)) (.t 20)),
  Om 22 21,
  ⟨(some 23), .mv (.t 7), some (22, false)⟩,
  ⟨(some 24), .len (.t 23), some (22, false)⟩,
  ⟨(some 25), .mv (.t 2), some (22, false)⟩,
  ⟨(some 26), .bin .rem (.t 24) (.t 25), some (22, false)⟩,
  ⟨(some 27), .bin .neq (.t 26) (Xk 0), some (22, false)⟩,
  Oa 28 (.pick (.t 22) (.c (.b true)) (.t 27))]
@[go_sem] def Q48_3 : List TO := [Oa 6 (.mv (Xk (-1)))]
@[go_sem] def Q48_4 : List TO := [Om 29 2,
  Oa 30 (.bin .add (.t 29) (Xk 1)),
  Om 8 30]
@[go_sem] def Q48_5 : List TO := [Oa 9 (.mv (Xk 0))]
@[go_sem] def Q48_6 : List TO := [Om 31 9,
  Om 32 7,
  Oa 33 (.len (.t 32)),
  Oa 34 (.bin .lss (.t 31) (.t 33))]
@[go_sem] def Q48_7 : List TO := [Oa 10 (.mv (Xk 0))]
@[go_sem] def Q48_8 : List TO := [Om 38 7,
  Om 39 9,
  Om 40 9,
  Om 41 2,
  Oa 42 (.bin .add (.t 40) (.t 41)),
  Oa 43 (.slice 1 (.t 38) (some (.t 39)) (some (.t 42)) none),
  Oa 44 (.len (.t 43)),
  Oa 45 (.mv (Xk 0))]
@[go_sem] def Q48_9 : List TO := [Oa 46 (.bin .lss (.t 45) (.t 44))]
@[go_sem] def Q48_10 : List TO := [Oa 47 (.iad 1 (.t 43) (.t 45)),
  Ol 48 47,
  Om 12 48]
@[go_sem] def Q48_11 : List TO := [Om 49 12,
  Om 50 1,
  Oa 51 (.bin .eql (.t 49) (.t 50))]
@[go_sem] def Q48_12 : List TO := [Om 52 10,
  Oa 53 (.bin .add (.t 52) (Xk 1)),
  Om 10 53]
@[go_sem] def Q48_13 : List TO := [Oa 54 (.bin .add (.t 45) (Xk 1)),
  Om 45 54]
def Q48_14 : TC := (.seq (.reg Q48_9) (.seq (.cond (.t 46) .skip (.exit 2)) (.seq (.block 3 (.seq (.reg Q48_10) (.seq (.reg Q48_11) (.cond (.t 51) (.reg Q48_12) .skip)))) (.reg Q48_13))))
@[go_sem] def Q48_15 : List TO := [Om 55 8,
  Om 56 10,
  Oa 57 (.mn [(.t 55), (.t 56)]),
  Om 8 57]
@[go_sem] def Q48_16 : List TO := [Om 35 9,
  Om 36 2,
  Oa 37 (.bin .add (.t 35) (.t 36)),
  Om 9 37]
def Q48_17 : TC := (.seq (.seq (.reg Q48_6) (.cond (.t 34) .skip (.exit 0))) (.seq (.block 1 (.seq (.reg Q48_7) (.seq (.seq (.reg Q48_8) (.block 2 (.loop Q48_14))) (.reg Q48_15)))) (.reg Q48_16)))
@[go_sem] def Q48_18 : List TO := [Om 58 8,
  Om 6 58]
def t_Q48 : TF := ⟨59, [.t 6], (.seq (.reg Q48_0) (.seq (.reg Q48_1) (.seq (.seq (.reg Q48_2) (.cond (.t 28) (.seq (.reg Q48_3) .ret) .skip)) (.seq (.reg Q48_4) (.seq (.seq (.reg Q48_5) (.block 0 (.loop Q48_17))) (.seq (.reg Q48_18) .ret))))))⟩
/-! horarium/horariumref12.Right -/
@[go_sem] def Q49_0 : List TO := [Oa 1 (.box (.t 0)),
  Oa 2 (.mv (Xk 0))]
@[go_sem] def Q49_1 : List TO := [Oa 6 (.load 3 true (.t 1)),
  Oa 7 (.call (.fn i_Q23) [(.t 6)]),
  Om 5 7,
  Oa 8 (.ext (.t 5) 0),
  Oa 9 (.ext (.t 5) 1),
  Om 3 8,
  Om 4 9]
@[go_sem] def Q49_2 : List TO := [Om 10 3,
  Om 2 10]
def t_Q49 : TF := ⟨11, [.t 2], (.seq (.reg Q49_0) (.seq (.reg Q49_1) (.seq (.reg Q49_2) .ret)))⟩
/-! horarium/horariumref12.partRight -/
@[go_sem] def Q50_0 : List TO := [Oa 1 (.box (.t 0)),
  Oa 2 (.mv (.c (.b false)))]
@[go_sem] def Q50_1 : List TO := [Of 7 5 1,
  Ol 8 7,
  Oa 9 (.len (.t 8)),
  Oa 10 (.bin .lss (.t 9) (Xk 1)),
  Om 11 10,
  ⟨(some 12), .fad 5 (.t 1), some (11, false)⟩,
  ⟨(some 13), .load 1 false (.t 12), some (11, false)⟩,
  ⟨(some 14), .len (.t 13), some (11, false)⟩,
  ⟨(some 15), .bin .gtr (.t 14) (Xk 3), some (11, false)⟩,
  Oa 16 (.pick (.t 11) (.c (.b true)) (.t 15))]
@[go_sem] def Q50_2 : List TO := [Oa 2 (.mv (.c (.b false)))]
@[go_sem] def Q50_3 : List TO := [Of 17 5 1,
  Ol 18 17,
  Oa 19 (.len (.t 18)),
  Oa 20 (.mv (Xk 0))]
@[go_sem] def Q50_4 : List TO := [Oa 21 (.bin .lss (.t 20) (.t 19))]
@[go_sem] def Q50_5 : List TO := [Oa 22 (.iad 2 (.t 18) (.t 20)),
  Oa 23 (.load 2 true (.t 22)),
  Oa 4 (.alloc [(.i .i64 0), (.i .i64 0)]),
  On (.store 2 (.t 4) (.t 23))]
@[go_sem] def Q50_6 : List TO := [Of 24 0 4,
  Ol 25 24,
  Oa 26 (.bin .lss (.t 25) (Xk 0)),
  Om 27 26,
  ⟨(some 28), .fad 0 (.t 4), some (27, false)⟩,
  ⟨(some 29), .load 1 false (.t 28), some (27, false)⟩,
  ⟨(some 30), .bin .geq (.t 29) (Xk 512), some (27, false)⟩,
  Oa 31 (.pick (.t 27) (.c (.b true)) (.t 30)),
  Om 32 31,
  ⟨(some 33), .fad 1 (.t 4), some (32, false)⟩,
  ⟨(some 34), .load 1 false (.t 33), some (32, false)⟩,
  ⟨(some 35), .bin .lss (.t 34) (Xk 0), some (32, false)⟩,
  Oa 36 (.pick (.t 32) (.c (.b true)) (.t 35)),
  Om 37 36,
  ⟨(some 38), .fad 1 (.t 4), some (37, false)⟩,
  ⟨(some 39), .load 1 false (.t 38), some (37, false)⟩,
  ⟨(some 40), .bin .gtr (.t 39) (Xk 255), some (37, false)⟩,
  Oa 41 (.pick (.t 37) (.c (.b true)) (.t 40))]
@[go_sem] def Q50_7 : List TO := [Oa 2 (.mv (.c (.b false)))]
@[go_sem] def Q50_8 : List TO := [Oa 42 (.bin .add (.t 20) (Xk 1)),
  Om 20 42]
def Q50_9 : TC := (.seq (.reg Q50_4) (.seq (.cond (.t 21) .skip (.exit 0)) (.seq (.block 1 (.seq (.reg Q50_5) (.seq (.reg Q50_6) (.cond (.t 41) (.seq (.reg Q50_7) .ret) .skip)))) (.reg Q50_8))))
@[go_sem] def Q50_10 : List TO := [Of 43 6 1,
  Oa 44 (.load 5 true (.t 43)),
  Oa 45 (.mv (Xk 0))]
@[go_sem] def Q50_11 : List TO := [Oa 46 (.bin .lss (.t 45) (Xk 5))]
@[go_sem] def Q50_12 : List TO := [Oa 47 (.idx 1 5 false (.t 44) (.t 45)),
  Om 6 47]
@[go_sem] def Q50_13 : List TO := [Om 48 6,
  Oa 49 (.bin .lss (.t 48) (Xk 0)),
  Om 50 49,
  ⟨(some 51), .mv (.t 6), some (50, false)⟩,
  ⟨(some 52), .bin .gtr (.t 51) (Xk 2), some (50, false)⟩,
  Oa 53 (.pick (.t 50) (.c (.b true)) (.t 52))]
@[go_sem] def Q50_14 : List TO := [Oa 2 (.mv (.c (.b false)))]
@[go_sem] def Q50_15 : List TO := [Oa 54 (.bin .add (.t 45) (Xk 1)),
  Om 45 54]
def Q50_16 : TC := (.seq (.reg Q50_11) (.seq (.cond (.t 46) .skip (.exit 2)) (.seq (.block 3 (.seq (.reg Q50_12) (.seq (.reg Q50_13) (.cond (.t 53) (.seq (.reg Q50_14) .ret) .skip)))) (.reg Q50_15))))
@[go_sem] def Q50_17 : List TO := [Of 55 1 1,
  Ol 56 55,
  Oa 57 (.bin .eql (.t 56) (Xk 0)),
  Om 58 57,
  ⟨(some 59), .fad 2 (.t 1), some (58, true)⟩,
  ⟨(some 60), .load 1 false (.t 59), some (58, true)⟩,
  ⟨(some 61), .bin .eql (.t 60) (Xk 0), some (58, true)⟩,
  Oa 62 (.pick (.t 58) (.t 61) (.c (.b false)))]
@[go_sem] def Q50_18 : List TO := [Oa 2 (.mv (.c (.b true)))]
@[go_sem] def Q50_19 : List TO := [Of 63 1 1,
  Ol 64 63,
  Oa 65 (.bin .geq (.t 64) (Xk 1)),
  Om 66 65,
  ⟨(some 67), .fad 1 (.t 1), some (66, true)⟩,
  ⟨(some 68), .load 1 false (.t 67), some (66, true)⟩,
  ⟨(some 69), .bin .leq (.t 68) (Xk 4096), some (66, true)⟩,
  Oa 70 (.pick (.t 66) (.t 69) (.c (.b false))),
  Om 71 70,
  ⟨(some 72), .fad 2 (.t 1), some (71, true)⟩,
  ⟨(some 73), .load 1 false (.t 72), some (71, true)⟩,
  ⟨(some 74), .fad 1 (.t 1), some (71, true)⟩,
  ⟨(some 75), .load 1 false (.t 74), some (71, true)⟩,
  ⟨(some 76), .bin .geq (.t 73) (.t 75), some (71, true)⟩,
  Oa 77 (.pick (.t 71) (.t 76) (.c (.b false))),
  Om 78 77,
  ⟨(some 79), .fad 2 (.t 1), some (78, true)⟩,
  ⟨(some 80), .load 1 false (.t 79), some (78, true)⟩,
  ⟨(some 81), .bin .leq (.t 80) (Xk 4096), some (78, true)⟩,
  Oa 82 (.pick (.t 78) (.t 81) (.c (.b false))),
  Om 2 82]
def t_Q50 : TF := ⟨83, [.t 2], (.seq (.reg Q50_0) (.seq (.seq (.reg Q50_1) (.cond (.t 16) (.seq (.reg Q50_2) .ret) .skip)) (.seq (.seq (.reg Q50_3) (.block 0 (.loop Q50_9))) (.seq (.seq (.reg Q50_10) (.block 2 (.loop Q50_16))) (.seq (.seq (.reg Q50_17) (.cond (.t 62) (.seq (.reg Q50_18) .ret) .skip)) (.seq (.reg Q50_19) .ret))))))⟩
/-! horarium/horariumref12.chanRight -/
@[go_sem] def Q51_0 : List TO := [Oa 2 (.box (.t 0)),
  Oa 4 (.mv (.c (.b false)))]
@[go_sem] def Q51_1 : List TO := [Of 5 0 2,
  Ol 6 5,
  Oa 7 (.bin .lss (.t 6) (Xk 0)),
  Om 8 7,
  ⟨(some 9), .fad 0 (.t 2), some (8, false)⟩,
  ⟨(some 10), .load 1 false (.t 9), some (8, false)⟩,
  ⟨(some 11), .mv (.t 1), some (8, false)⟩,
  ⟨(some 12), .bin .geq (.t 10) (.t 11), some (8, false)⟩,
  Oa 13 (.pick (.t 8) (.c (.b true)) (.t 12)),
  Om 14 13,
  ⟨(some 15), .fad 1 (.t 2), some (14, false)⟩,
  ⟨(some 16), .load 1 false (.t 15), some (14, false)⟩,
  ⟨(some 17), .bin .lss (.t 16) (Xk 0), some (14, false)⟩,
  Oa 18 (.pick (.t 14) (.c (.b true)) (.t 17)),
  Om 19 18,
  ⟨(some 20), .fad 1 (.t 2), some (19, false)⟩,
  ⟨(some 21), .load 1 false (.t 20), some (19, false)⟩,
  ⟨(some 22), .mv (.t 1), some (19, false)⟩,
  ⟨(some 23), .bin .geq (.t 21) (.t 22), some (19, false)⟩,
  Oa 24 (.pick (.t 19) (.c (.b true)) (.t 23)),
  Om 25 24,
  ⟨(some 26), .fad 0 (.t 2), some (25, false)⟩,
  ⟨(some 27), .load 1 false (.t 26), some (25, false)⟩,
  ⟨(some 28), .fad 1 (.t 2), some (25, false)⟩,
  ⟨(some 29), .load 1 false (.t 28), some (25, false)⟩,
  ⟨(some 30), .bin .eql (.t 27) (.t 29), some (25, false)⟩,
  Oa 31 (.pick (.t 25) (.c (.b true)) (.t 30)),
  Om 32 31,
  ⟨(some 33), .fad 5 (.t 2), some (32, false)⟩,
  ⟨(some 34), .load 1 false (.t 33), some (32, false)⟩,
  ⟨(some 35), .bin .lss (.t 34) (Xk 0), some (32, false)⟩,
  Oa 36 (.pick (.t 32) (.c (.b true)) (.t 35)),
  Om 37 36,
  ⟨(some 38), .fad 5 (.t 2), some (37, false)⟩,
  ⟨(some 39), .load 1 false (.t 38), some (37, false)⟩,
  ⟨(some 40), .bin .gtr (.t 39) (Xk 4096), some (37, false)⟩,
  Oa 41 (.pick (.t 37) (.c (.b true)) (.t 40))]
@[go_sem] def Q51_2 : List TO := [Oa 4 (.mv (.c (.b false)))]
@[go_sem] def Q51_3 : List TO := [Of 42 2 2,
  Ol 43 42,
  Om 44 43,
  ⟨(some 45), .fad 3 (.t 2), some (44, true)⟩,
  ⟨(some 46), .load 1 false (.t 45), some (44, true)⟩,
  ⟨(some 47), .bin .geq (.t 46) (Xk 1), some (44, true)⟩,
  Oa 48 (.pick (.t 44) (.t 47) (.c (.b false))),
  Om 49 48,
  ⟨(some 50), .fad 3 (.t 2), some (49, true)⟩,
  ⟨(some 51), .load 1 false (.t 50), some (49, true)⟩,
  ⟨(some 52), .bin .leq (.t 51) (Xk 8), some (49, true)⟩,
  Oa 53 (.pick (.t 49) (.t 52) (.c (.b false))),
  Om 54 53,
  ⟨(some 55), .fad 2 (.t 2), some (54, false)⟩,
  ⟨(some 56), .load 1 false (.t 55), some (54, false)⟩,
  ⟨(some 57), .un .not (.t 56), some (54, false)⟩,
  ⟨(some 58), .mv (.t 57), some (54, false)⟩,
  ⟨(some 59), .fad 3 (.t 2), some (58, true)⟩,
  ⟨(some 60), .load 1 false (.t 59), some (58, true)⟩,
  ⟨(some 61), .bin .eql (.t 60) (Xk 0), some (58, true)⟩,
  ⟨(some 62), .pick (.t 58) (.t 61) (.c (.b false)), some (54, false)⟩,
  Oa 63 (.pick (.t 54) (.c (.b true)) (.t 62)),
  Om 4 63]
def t_Q51 : TF := ⟨64, [.t 4], (.seq (.reg Q51_0) (.seq (.seq (.reg Q51_1) (.cond (.t 41) (.seq (.reg Q51_2) .ret) .skip)) (.seq (.reg Q51_3) .ret)))⟩
/-! horarium/horariumref7.Holds -/
@[go_sem] def Q52_0 : List TO := [Oa 2 (.box (.t 0)),
  Oa 4 (.mv (Xk 0))]
@[go_sem] def Q52_1 : List TO := [Of 10 1 2,
  Ol 11 10,
  Oa 12 (.len (.t 11)),
  Oa 13 (.mv (Xk 0))]
@[go_sem] def Q52_2 : List TO := [Oa 14 (.bin .lss (.t 13) (.t 12))]
@[go_sem] def Q52_3 : List TO := [Oa 15 (.iad 6 (.t 11) (.t 13)),
  Oa 16 (.load 6 true (.t 15)),
  Oa 6 (.alloc [(.i .i64 0), (.i .i64 0), (.b false), (.i .i64 0), (.i .u32 0), (.i .i64 0)]),
  On (.store 6 (.t 6) (.t 16))]
@[go_sem] def Q52_4 : List TO := [Om 17 1,
  Of 18 0 6,
  Ol 19 18,
  Of 20 1 6,
  Ol 21 20,
  Oa 22 (.call (.fn i_Q47) [(.t 17), (.t 19), (.t 21)]),
  Om 7 22]
@[go_sem] def Q52_5 : List TO := [Of 23 5 6,
  Ol 24 23,
  Oa 25 (.bin .gtr (.t 24) (Xk 0)),
  Om 26 25,
  ⟨(some 27), .mv (.t 7), some (26, true)⟩,
  ⟨(some 28), .bin .lss (.t 27) (Xk 0), some (26, true)⟩,
  ⟨(some 29), .mv (.t 28), some (26, true)⟩,
  ⟨(some 30), .mv (.t 7), some (29, false)⟩,
  ⟨(some 31), .fad 5 (.t 6), some (29, false)⟩,
  ⟨(some 32), .load 1 false (.t 31), some (29, false)⟩,
  ⟨(some 33), .bin .gtr (.t 30) (.t 32), some (29, false)⟩,
  ⟨(some 34), .pick (.t 29) (.c (.b true)) (.t 33), some (26, true)⟩,
  Oa 35 (.pick (.t 26) (.t 34) (.c (.b false)))]
@[go_sem] def Q52_6 : List TO := [Oa 4 (.mv (Xk 19))]
@[go_sem] def Q52_7 : List TO := [Oa 36 (.bin .add (.t 13) (Xk 1)),
  Om 13 36]
def Q52_8 : TC := (.seq (.reg Q52_2) (.seq (.cond (.t 14) .skip (.exit 0)) (.seq (.block 1 (.seq (.reg Q52_3) (.seq (.reg Q52_4) (.seq (.reg Q52_5) (.cond (.t 35) (.seq (.reg Q52_6) .ret) .skip))))) (.reg Q52_7))))
@[go_sem] def Q52_9 : List TO := [Of 37 0 2,
  Ol 38 37,
  Oa 39 (.len (.t 38)),
  Oa 40 (.mv (Xk 0))]
@[go_sem] def Q52_10 : List TO := [Oa 41 (.bin .lss (.t 40) (.t 39))]
@[go_sem] def Q52_11 : List TO := [Om 42 40,
  Oa 43 (.iad 11 (.t 38) (.t 40)),
  Oa 44 (.load 11 true (.t 43)),
  Oa 9 (.alloc [(.s ⟨#[]⟩), (.i .i64 0), (.i .i64 0), (.b false), (.b false), .ns, (.i .i64 0), (.i .i64 0), (.i .i64 0), (.i .i64 0), (.i .i64 0)]),
  Om 8 42,
  On (.store 11 (.t 9) (.t 44))]
@[go_sem] def Q52_12 : List (Bool × List TO) := [(true, [Of 45 1 9,
  Ol 46 45,
  Oa 47 (.bin .gtr (.t 46) (Xk 0)),
  Om 48 47,
  ⟨(some 49), .mv (.t 1), some (48, true)⟩,
  ⟨(some 50), .mv (.t 8), some (48, true)⟩,
  ⟨(some 51), .fad 2 (.t 9), some (48, true)⟩,
  ⟨(some 52), .load 1 false (.t 51), some (48, true)⟩,
  ⟨(some 53), .call (.fn i_Q48) [(.t 49), (.t 50), (.t 52)], some (48, true)⟩,
  ⟨(some 54), .fad 1 (.t 9), some (48, true)⟩,
  ⟨(some 55), .load 1 false (.t 54), some (48, true)⟩,
  ⟨(some 56), .bin .lss (.t 53) (.t 55), some (48, true)⟩,
  Oa 57 (.pick (.t 48) (.t 56) (.c (.b false)))])]
@[go_sem] def Q52_13 : List TO := [Oa 4 (.mv (Xk 20))]
@[go_sem] def Q52_14 : List TO := [Oa 58 (.bin .add (.t 40) (Xk 1)),
  Om 40 58]
def Q52_15 : TC := (.seq (.reg Q52_10) (.seq (.cond (.t 41) .skip (.exit 2)) (.seq (.block 3 (.seq (.reg Q52_11) (.seq (.dreg Q52_12) (.cond (.t 57) (.seq (.reg Q52_13) .ret) .skip)))) (.reg Q52_14))))
@[go_sem] def Q52_16 : List TO := [Oa 4 (.mv (Xk 0))]
def t_Q52 : TF := ⟨59, [.t 4], (.seq (.reg Q52_0) (.seq (.seq (.reg Q52_1) (.block 0 (.loop Q52_8))) (.seq (.seq (.reg Q52_9) (.block 2 (.loop Q52_15))) (.seq (.reg Q52_16) .ret))))⟩
/-! slices.EqualFunc[[]horarium/api.Part,[]horarium/api.Part,horarium/api.Part,horarium/api.Part] -/
@[go_sem] def Q53_0 : List TO := [Oa 6 (.mv (.c (.b false)))]
@[go_sem] def Q53_1 : List TO := [Om 10 0,
  Oa 11 (.len (.t 10)),
  Om 12 1,
  Oa 13 (.len (.t 12)),
  Oa 14 (.bin .neq (.t 11) (.t 13))]
@[go_sem] def Q53_2 : List TO := [Oa 6 (.mv (.c (.b false)))]
@[go_sem] def Q53_3 : List TO := [Om 15 0,
  Oa 16 (.len (.t 15)),
  Oa 17 (.mv (Xk 0))]
@[go_sem] def Q53_4 : List TO := [Oa 18 (.bin .lss (.t 17) (.t 16))]
@[go_sem] def Q53_5 : List TO := [Om 19 17,
  Oa 20 (.iad 11 (.t 15) (.t 17)),
  Oa 21 (.load 11 true (.t 20)),
  Oa 8 (.alloc [(.s ⟨#[]⟩), (.i .i64 0), (.i .i64 0), (.b false), (.b false), .ns, (.i .i64 0), (.i .i64 0), (.i .i64 0), (.i .i64 0), (.i .i64 0)]),
  Om 7 19,
  On (.store 11 (.t 8) (.t 21))]
@[go_sem] def Q53_6 : List TO := [Om 22 1,
  Om 23 7,
  Oa 24 (.iad 11 (.t 22) (.t 23)),
  Oa 25 (.load 11 true (.t 24)),
  Oa 9 (.alloc [(.s ⟨#[]⟩), (.i .i64 0), (.i .i64 0), (.b false), (.b false), .ns, (.i .i64 0), (.i .i64 0), (.i .i64 0), (.i .i64 0), (.i .i64 0)]),
  On (.store 11 (.t 9) (.t 25))]
@[go_sem] def Q53_7 : List TO := [Om 26 2,
  Oa 27 (.load 11 true (.t 8)),
  Oa 28 (.load 11 true (.t 9)),
  Oa 29 (.call (.t 26) [(.t 27), (.t 28)]),
  Oa 30 (.un .not (.t 29))]
@[go_sem] def Q53_8 : List TO := [Oa 6 (.mv (.c (.b false)))]
@[go_sem] def Q53_9 : List TO := [Oa 31 (.bin .add (.t 17) (Xk 1)),
  Om 17 31]
def Q53_10 : TC := (.seq (.reg Q53_4) (.seq (.cond (.t 18) .skip (.exit 0)) (.seq (.block 1 (.seq (.reg Q53_5) (.seq (.reg Q53_6) (.seq (.reg Q53_7) (.cond (.t 30) (.seq (.reg Q53_8) .ret) .skip))))) (.reg Q53_9))))
@[go_sem] def Q53_11 : List TO := [Oa 6 (.mv (.c (.b true)))]
def t_Q53 : TF := ⟨32, [.t 6], (.seq (.reg Q53_0) (.seq (.seq (.reg Q53_1) (.cond (.t 14) (.seq (.reg Q53_2) .ret) .skip)) (.seq (.seq (.reg Q53_3) (.block 0 (.loop Q53_10))) (.seq (.reg Q53_11) .ret))))⟩
/-! horarium/config.samePart -/
@[go_sem] def Q54_0 : List TO := [Oa 2 (.box (.t 0)),
  Oa 3 (.box (.t 1)),
  Oa 4 (.mv (.c (.b false)))]
@[go_sem] def Q54_1 : List TO := [Of 5 0 2,
  Ol 6 5,
  Of 7 0 3,
  Ol 8 7,
  Oa 9 (.bin .eql (.t 6) (.t 8)),
  Om 10 9,
  ⟨(some 11), .fad 1 (.t 2), some (10, true)⟩,
  ⟨(some 12), .load 1 false (.t 11), some (10, true)⟩,
  ⟨(some 13), .fad 1 (.t 3), some (10, true)⟩,
  ⟨(some 14), .load 1 false (.t 13), some (10, true)⟩,
  ⟨(some 15), .bin .eql (.t 12) (.t 14), some (10, true)⟩,
  Oa 16 (.pick (.t 10) (.t 15) (.c (.b false))),
  Om 17 16,
  ⟨(some 18), .fad 2 (.t 2), some (17, true)⟩,
  ⟨(some 19), .load 1 false (.t 18), some (17, true)⟩,
  ⟨(some 20), .fad 2 (.t 3), some (17, true)⟩,
  ⟨(some 21), .load 1 false (.t 20), some (17, true)⟩,
  ⟨(some 22), .bin .eql (.t 19) (.t 21), some (17, true)⟩,
  Oa 23 (.pick (.t 17) (.t 22) (.c (.b false))),
  Om 24 23,
  ⟨(some 25), .fad 3 (.t 2), some (24, true)⟩,
  ⟨(some 26), .load 1 false (.t 25), some (24, true)⟩,
  ⟨(some 27), .fad 3 (.t 3), some (24, true)⟩,
  ⟨(some 28), .load 1 false (.t 27), some (24, true)⟩,
  ⟨(some 29), .eq false .b (.t 26) (.t 28), some (24, true)⟩,
  Oa 30 (.pick (.t 24) (.t 29) (.c (.b false))),
  Om 31 30,
  ⟨(some 32), .fad 4 (.t 2), some (31, true)⟩,
  ⟨(some 33), .load 1 false (.t 32), some (31, true)⟩,
  ⟨(some 34), .fad 4 (.t 3), some (31, true)⟩,
  ⟨(some 35), .load 1 false (.t 34), some (31, true)⟩,
  ⟨(some 36), .eq false .b (.t 33) (.t 35), some (31, true)⟩,
  Oa 37 (.pick (.t 31) (.t 36) (.c (.b false))),
  Om 38 37,
  ⟨(some 39), .fad 5 (.t 2), some (38, true)⟩,
  ⟨(some 40), .load 1 false (.t 39), some (38, true)⟩,
  ⟨(some 41), .fad 5 (.t 3), some (38, true)⟩,
  ⟨(some 42), .load 1 false (.t 41), some (38, true)⟩,
  ⟨(some 43), .call (.fn i_Q70) [(.t 40), (.t 42)], some (38, true)⟩,
  Oa 44 (.pick (.t 38) (.t 43) (.c (.b false))),
  Om 45 44,
  ⟨(some 46), .fad 6 (.t 2), some (45, true)⟩,
  ⟨(some 47), .load 5 true (.t 46), some (45, true)⟩,
  ⟨(some 48), .fad 6 (.t 3), some (45, true)⟩,
  ⟨(some 49), .load 5 true (.t 48), some (45, true)⟩,
  ⟨(some 50), .eq false (.agg [.i, .i, .i, .i, .i]) (.t 47) (.t 49), some (45, true)⟩,
  Oa 51 (.pick (.t 45) (.t 50) (.c (.b false))),
  Om 4 51]
def t_Q54 : TF := ⟨52, [.t 4], (.seq (.reg Q54_0) (.seq (.reg Q54_1) .ret))⟩
/-! slices.Equal[[]horarium/api.Chan,horarium/api.Chan] -/
@[go_sem] def Q55_0 : List TO := [Oa 4 (.mv (.c (.b false)))]
@[go_sem] def Q55_1 : List TO := [Om 6 0,
  Oa 7 (.len (.t 6)),
  Om 8 1,
  Oa 9 (.len (.t 8)),
  Oa 10 (.bin .neq (.t 7) (.t 9))]
@[go_sem] def Q55_2 : List TO := [Oa 4 (.mv (.c (.b false)))]
@[go_sem] def Q55_3 : List TO := [Om 11 0,
  Oa 12 (.len (.t 11)),
  Oa 13 (.mv (Xk 0))]
@[go_sem] def Q55_4 : List TO := [Oa 14 (.bin .lss (.t 13) (.t 12))]
@[go_sem] def Q55_5 : List TO := [Om 15 13,
  Om 5 15]
@[go_sem] def Q55_6 : List (Bool × List TO) := [(true, [Om 16 0,
  Om 17 5,
  Oa 18 (.iad 6 (.t 16) (.t 17)),
  Oa 19 (.load 6 true (.t 18)),
  Om 20 1,
  Om 21 5,
  Oa 22 (.iad 6 (.t 20) (.t 21)),
  Oa 23 (.load 6 true (.t 22)),
  Oa 24 (.eq true (.agg [.i, .i, .b, .i, .i, .i]) (.t 19) (.t 23))])]
@[go_sem] def Q55_7 : List TO := [Oa 4 (.mv (.c (.b false)))]
@[go_sem] def Q55_8 : List TO := [Oa 25 (.bin .add (.t 13) (Xk 1)),
  Om 13 25]
def Q55_9 : TC := (.seq (.reg Q55_4) (.seq (.cond (.t 14) .skip (.exit 0)) (.seq (.block 1 (.seq (.reg Q55_5) (.seq (.dreg Q55_6) (.cond (.t 24) (.seq (.reg Q55_7) .ret) .skip)))) (.reg Q55_8))))
@[go_sem] def Q55_10 : List TO := [Oa 4 (.mv (.c (.b true)))]
def t_Q55 : TF := ⟨26, [.t 4], (.seq (.reg Q55_0) (.seq (.seq (.reg Q55_1) (.cond (.t 10) (.seq (.reg Q55_2) .ret) .skip)) (.seq (.seq (.reg Q55_3) (.block 0 (.loop Q55_9))) (.seq (.reg Q55_10) .ret))))⟩
/-! horarium/horariumref12.sameParts -/
@[go_sem] def Q56_0 : List TO := [Oa 2 (.box (.t 0)),
  Oa 3 (.box (.t 1)),
  Oa 4 (.mv (.c (.b false)))]
@[go_sem] def Q56_1 : List TO := [Of 6 0 2,
  Ol 7 6,
  Of 8 0 3,
  Ol 9 8,
  Oa 10 (.bin .neq (.t 7) (.t 9)),
  Om 11 10,
  ⟨(some 12), .fad 1 (.t 2), some (11, false)⟩,
  ⟨(some 13), .load 1 false (.t 12), some (11, false)⟩,
  ⟨(some 14), .fad 1 (.t 3), some (11, false)⟩,
  ⟨(some 15), .load 1 false (.t 14), some (11, false)⟩,
  ⟨(some 16), .bin .neq (.t 13) (.t 15), some (11, false)⟩,
  Oa 17 (.pick (.t 11) (.c (.b true)) (.t 16)),
  Om 18 17,
  ⟨(some 19), .fad 2 (.t 2), some (18, false)⟩,
  ⟨(some 20), .load 1 false (.t 19), some (18, false)⟩,
  ⟨(some 21), .fad 2 (.t 3), some (18, false)⟩,
  ⟨(some 22), .load 1 false (.t 21), some (18, false)⟩,
  ⟨(some 23), .bin .neq (.t 20) (.t 22), some (18, false)⟩,
  Oa 24 (.pick (.t 18) (.c (.b true)) (.t 23)),
  Om 25 24,
  ⟨(some 26), .fad 3 (.t 2), some (25, false)⟩,
  ⟨(some 27), .load 1 false (.t 26), some (25, false)⟩,
  ⟨(some 28), .fad 3 (.t 3), some (25, false)⟩,
  ⟨(some 29), .load 1 false (.t 28), some (25, false)⟩,
  ⟨(some 30), .eq true .b (.t 27) (.t 29), some (25, false)⟩,
  Oa 31 (.pick (.t 25) (.c (.b true)) (.t 30)),
  Om 32 31,
  ⟨(some 33), .fad 4 (.t 2), some (32, false)⟩,
  ⟨(some 34), .load 1 false (.t 33), some (32, false)⟩,
  ⟨(some 35), .fad 4 (.t 3), some (32, false)⟩,
  ⟨(some 36), .load 1 false (.t 35), some (32, false)⟩,
  ⟨(some 37), .eq true .b (.t 34) (.t 36), some (32, false)⟩,
  Oa 38 (.pick (.t 32) (.c (.b true)) (.t 37)),
  Om 39 38,
  ⟨(some 40), .fad 6 (.t 2), some (39, false)⟩,
  ⟨(some 41), .load 5 true (.t 40), some (39, false)⟩,
  ⟨(some 42), .fad 6 (.t 3), some (39, false)⟩,
  ⟨(some 43), .load 5 true (.t 42), some (39, false)⟩,
  ⟨(some 44), .eq true (.agg [.i, .i, .i, .i, .i]) (.t 41) (.t 43), some (39, false)⟩,
  Oa 45 (.pick (.t 39) (.c (.b true)) (.t 44)),
  Om 46 45,
  ⟨(some 47), .fad 5 (.t 2), some (46, false)⟩,
  ⟨(some 48), .load 1 false (.t 47), some (46, false)⟩,
  ⟨(some 49), .len (.t 48), some (46, false)⟩,
  ⟨(some 50), .fad 5 (.t 3), some (46, false)⟩,
  ⟨(some 51), .load 1 false (.t 50), some (46, false)⟩,
  ⟨(some 52), .len (.t 51), some (46, false)⟩,
  ⟨(some 53), .bin .neq (.t 49) (.t 52), some (46, false)⟩,
  Oa 54 (.pick (.t 46) (.c (.b true)) (.t 53))]
@[go_sem] def Q56_2 : List TO := [Oa 4 (.mv (.c (.b false)))]
@[go_sem] def Q56_3 : List TO := [Of 55 5 2,
  Ol 56 55,
  Oa 57 (.len (.t 56)),
  Oa 58 (.mv (Xk 0))]
@[go_sem] def Q56_4 : List TO := [Oa 59 (.bin .lss (.t 58) (.t 57))]
@[go_sem] def Q56_5 : List TO := [Om 60 58,
  Om 5 60]
@[go_sem] def Q56_6 : List (Bool × List TO) := [(true, [Of 61 5 2,
  Ol 62 61,
  Om 63 5,
  Oa 64 (.iad 2 (.t 62) (.t 63)),
  Oa 65 (.load 2 true (.t 64)),
  Of 66 5 3,
  Ol 67 66,
  Om 68 5,
  Oa 69 (.iad 2 (.t 67) (.t 68)),
  Oa 70 (.load 2 true (.t 69)),
  Oa 71 (.eq true (.agg [.i, .i]) (.t 65) (.t 70))])]
@[go_sem] def Q56_7 : List TO := [Oa 4 (.mv (.c (.b false)))]
@[go_sem] def Q56_8 : List TO := [Oa 72 (.bin .add (.t 58) (Xk 1)),
  Om 58 72]
def Q56_9 : TC := (.seq (.reg Q56_4) (.seq (.cond (.t 59) .skip (.exit 0)) (.seq (.block 1 (.seq (.reg Q56_5) (.seq (.dreg Q56_6) (.cond (.t 71) (.seq (.reg Q56_7) .ret) .skip)))) (.reg Q56_8))))
@[go_sem] def Q56_10 : List TO := [Oa 4 (.mv (.c (.b true)))]
def t_Q56 : TF := ⟨73, [.t 4], (.seq (.reg Q56_0) (.seq (.seq (.reg Q56_1) (.cond (.t 54) (.seq (.reg Q56_2) .ret) .skip)) (.seq (.seq (.reg Q56_3) (.block 0 (.loop Q56_9))) (.seq (.reg Q56_10) .ret))))⟩
/-! horarium/horariumref1.Sum -/
@[go_sem] def Q57_0 : List TO := [Oa 2 (.mv (.c (.i .u32 0)))]
@[go_sem] def Q57_1 : List TO := [Oa 3 (.mv (.c (.i .u32 4294967295)))]
@[go_sem] def Q57_2 : List TO := [Oa 4 (.mv (Xk 0))]
@[go_sem] def Q57_3 : List TO := [Om 5 4,
  Om 6 0,
  Oa 7 (.len (.t 6)),
  Oa 8 (.bin .lss (.t 5) (.t 7))]
@[go_sem] def Q57_4 : List TO := [Om 11 3,
  Om 12 0,
  Om 13 4,
  Oa 14 (.iad 1 (.t 12) (.t 13)),
  Ol 15 14,
  Oa 16 (.call (.fn i_Q71) [(.t 11), (.t 15)]),
  Om 3 16]
@[go_sem] def Q57_5 : List TO := [Om 9 4,
  Oa 10 (.bin .add (.t 9) (Xk 1)),
  Om 4 10]
def Q57_6 : TC := (.seq (.seq (.reg Q57_3) (.cond (.t 8) .skip (.exit 0))) (.seq (.block 1 (.reg Q57_4)) (.reg Q57_5)))
@[go_sem] def Q57_7 : List TO := [Om 17 3,
  Oa 18 (.un .xor (.t 17)),
  Om 2 18]
def t_Q57 : TF := ⟨19, [.t 2], (.seq (.reg Q57_0) (.seq (.reg Q57_1) (.seq (.seq (.reg Q57_2) (.block 0 (.loop Q57_6))) (.seq (.reg Q57_7) .ret))))⟩
/-! slices.IndexFunc[[]horarium/api.Part,horarium/api.Part] -/
@[go_sem] def Q58_0 : List TO := [Oa 4 (.mv (Xk 0))]
@[go_sem] def Q58_1 : List TO := [Om 6 0,
  Oa 7 (.len (.t 6)),
  Oa 8 (.mv (Xk 0))]
@[go_sem] def Q58_2 : List TO := [Oa 9 (.bin .lss (.t 8) (.t 7))]
@[go_sem] def Q58_3 : List TO := [Om 10 8,
  Om 5 10]
@[go_sem] def Q58_4 : List TO := [Om 11 1,
  Om 12 0,
  Om 13 5,
  Oa 14 (.iad 11 (.t 12) (.t 13)),
  Oa 15 (.load 11 true (.t 14)),
  Oa 16 (.call (.t 11) [(.t 15)])]
@[go_sem] def Q58_5 : List TO := [Om 17 5,
  Om 4 17]
@[go_sem] def Q58_6 : List TO := [Oa 18 (.bin .add (.t 8) (Xk 1)),
  Om 8 18]
def Q58_7 : TC := (.seq (.reg Q58_2) (.seq (.cond (.t 9) .skip (.exit 0)) (.seq (.block 1 (.seq (.reg Q58_3) (.seq (.reg Q58_4) (.cond (.t 16) (.seq (.reg Q58_5) .ret) .skip)))) (.reg Q58_6))))
@[go_sem] def Q58_8 : List TO := [Oa 4 (.mv (Xk (-1)))]
def t_Q58 : TF := ⟨19, [.t 4], (.seq (.reg Q58_0) (.seq (.seq (.reg Q58_1) (.block 0 (.loop Q58_7))) (.seq (.reg Q58_8) .ret)))⟩
/-! horarium/config.procs -/
@[go_sem] def Q59_0 : List TO := [Oa 2 (.mv (.c (.b false)))]
@[go_sem] def Q59_1 : List TO := [Om 5 0,
  Oa 6 (.len (.t 5)),
  Oa 7 (.mv (Xk 0))]
@[go_sem] def Q59_2 : List TO := [Oa 8 (.bin .lss (.t 7) (.t 6))]
@[go_sem] def Q59_3 : List TO := [Oa 9 (.iad 2 (.t 5) (.t 7)),
  Oa 10 (.load 2 true (.t 9)),
  Oa 4 (.alloc [(.i .i64 0), (.i .i64 0)]),
  On (.store 2 (.t 4) (.t 10))]
@[go_sem] def Q59_4 : List TO := [Of 11 0 4,
  Ol 12 11,
  Oa 13 (.call (.fn i_Q60) [(.t 12), (Xk 511)]),
  Oa 14 (.un .not (.t 13)),
  Om 15 14,
  ⟨(some 16), .fad 1 (.t 4), some (15, false)⟩,
  ⟨(some 17), .load 1 false (.t 16), some (15, false)⟩,
  ⟨(some 18), .call (.fn i_Q60) [(.t 17), (Xk 255)], some (15, false)⟩,
  ⟨(some 19), .un .not (.t 18), some (15, false)⟩,
  Oa 20 (.pick (.t 15) (.c (.b true)) (.t 19))]
@[go_sem] def Q59_5 : List TO := [Oa 2 (.mv (.c (.b false)))]
@[go_sem] def Q59_6 : List TO := [Oa 21 (.bin .add (.t 7) (Xk 1)),
  Om 7 21]
def Q59_7 : TC := (.seq (.reg Q59_2) (.seq (.cond (.t 8) .skip (.exit 0)) (.seq (.block 1 (.seq (.reg Q59_3) (.seq (.reg Q59_4) (.cond (.t 20) (.seq (.reg Q59_5) .ret) .skip)))) (.reg Q59_6))))
@[go_sem] def Q59_8 : List TO := [Om 22 0,
  Oa 23 (.len (.t 22)),
  Oa 24 (.bin .geq (.t 23) (Xk 1)),
  Om 25 24,
  ⟨(some 26), .mv (.t 0), some (25, true)⟩,
  ⟨(some 27), .len (.t 26), some (25, true)⟩,
  ⟨(some 28), .bin .leq (.t 27) (Xk 3), some (25, true)⟩,
  Oa 29 (.pick (.t 25) (.t 28) (.c (.b false))),
  Om 2 29]
def t_Q59 : TF := ⟨30, [.t 2], (.seq (.reg Q59_0) (.seq (.seq (.reg Q59_1) (.block 0 (.loop Q59_7))) (.seq (.reg Q59_8) .ret)))⟩
/-! horarium/config.within -/
@[go_sem] def Q60_0 : List TO := [Oa 4 (.mv (.c (.b false)))]
@[go_sem] def Q60_1 : List TO := [Om 5 0,
  Oa 6 (.bin .geq (.t 5) (Xk 0)),
  Om 7 6,
  ⟨(some 8), .mv (.t 0), some (7, true)⟩,
  ⟨(some 9), .mv (.t 1), some (7, true)⟩,
  ⟨(some 10), .bin .leq (.t 8) (.t 9), some (7, true)⟩,
  Oa 11 (.pick (.t 7) (.t 10) (.c (.b false))),
  Om 4 11]
def t_Q60 : TF := ⟨12, [.t 4], (.seq (.reg Q60_0) (.seq (.reg Q60_1) .ret))⟩
/-! horarium/runs.Of -/
@[go_sem] def Q61_0 : List TO := [Oa 2 (.mv (.c .ns)),
  Oa 3 (.mv (Xk 0))]
@[go_sem] def Q61_1 : List TO := [Om 9 0,
  Oa 10 (.call (.fn i_Q72) [(.t 9)]),
  Om 4 10]
@[go_sem] def Q61_2 : List TO := [Om 11 4,
  Oa 12 (.bin .neq (.t 11) (Xk 0))]
@[go_sem] def Q61_3 : List TO := [Om 13 4,
  Oa 2 (.mv (.c .ns)),
  Om 3 13]
@[go_sem] def Q61_4 : List TO := [Oa 5 (.mv (.c .ns))]
@[go_sem] def Q61_5 : List TO := [Om 14 0,
  Oa 15 (.call (.fn i_Q73) [(.t 14)]),
  Om 6 15]
@[go_sem] def Q61_6 : List TO := [Om 17 6,
  Oa 18 (.call (.fn i_Q74) [(.t 17)]),
  Om 16 18,
  Oa 19 (.ext (.t 16) 0),
  Oa 20 (.ext (.t 16) 1),
  Oa 7 (.alloc [(.i .i64 0), (.i .i64 0)]),
  On (.store 2 (.t 7) (.t 19)),
  Om 8 20]
@[go_sem] def Q61_7 : List TO := [Om 21 8,
  Oa 22 (.un .not (.t 21))]
@[go_sem] def Q61_8 : List TO := [Om 23 5,
  Oa 24 (.load 2 true (.t 7)),
  Oa 25 (.bsl 2 [(.i .i64 0), (.i .i64 0)] 1 [(0, (.t 24))]),
  Oa 26 (.app 2 (.t 23) (.t 25)),
  Om 5 26]
def Q61_9 : TC := (.block 1 (.seq (.reg Q61_6) (.seq (.seq (.reg Q61_7) (.cond (.t 22) (.exit 0) .skip)) (.reg Q61_8))))
@[go_sem] def Q61_10 : List TO := [Om 27 5,
  Oa 28 (.call (.fn i_Q75) [(.t 27)]),
  Om 5 28]
@[go_sem] def Q61_11 : List TO := [Om 29 5,
  Oa 30 (.len (.t 29)),
  Oa 31 (.bin .gtr (.t 30) (Xk 96))]
@[go_sem] def Q61_12 : List TO := [Oa 2 (.mv (.c .ns)),
  Oa 3 (.mv (Xk 3))]
@[go_sem] def Q61_13 : List TO := [Om 32 5,
  Om 2 32,
  Oa 3 (.mv (Xk 0))]
def t_Q61 : TF := ⟨33, [.t 2, .t 3], (.seq (.reg Q61_0) (.seq (.seq (.reg Q61_1) (.seq (.reg Q61_2) (.cond (.t 12) (.seq (.reg Q61_3) .ret) .skip))) (.seq (.reg Q61_4) (.seq (.reg Q61_5) (.seq (.block 0 (.loop Q61_9)) (.seq (.seq (.reg Q61_10) (.seq (.reg Q61_11) (.cond (.t 31) (.seq (.reg Q61_12) .ret) .skip))) (.seq (.reg Q61_13) .ret)))))))⟩
/-! slices.ContainsFunc[[]horarium/api.Run,horarium/api.Run] -/
@[go_sem] def Q62_0 : List TO := [Oa 4 (.mv (.c (.b false)))]
@[go_sem] def Q62_1 : List TO := [Om 5 0,
  Om 6 1,
  Oa 7 (.call (.fn i_Q76) [(.t 5), (.t 6)]),
  Oa 8 (.bin .geq (.t 7) (Xk 0)),
  Om 4 8]
def t_Q62 : TF := ⟨9, [.t 4], (.seq (.reg Q62_0) (.seq (.reg Q62_1) .ret))⟩
/-! horarium/config.table$1 -/
@[go_sem] def Q63_0 : List TO := [Oa 2 (.box (.t 0)),
  Oa 3 (.mv (.c (.b false)))]
@[go_sem] def Q63_1 : List TO := [Of 4 0 2,
  Ol 5 4,
  Of 6 0 1,
  Ol 7 6,
  Oa 8 (.len (.t 7)),
  Oa 9 (.bin .geq (.t 5) (.t 8)),
  Om 3 9]
def t_Q63 : TF := ⟨10, [.t 3], (.seq (.reg Q63_0) (.seq (.reg Q63_1) .ret))⟩
/-! horarium/bound.Holds -/
@[go_sem] def Q64_0 : List TO := [Oa 2 (.box (.t 0)),
  Oa 4 (.mv (Xk 0))]
@[go_sem] def Q64_1 : List TO := [Of 10 1 2,
  Ol 11 10,
  Oa 12 (.len (.t 11)),
  Oa 13 (.mv (Xk 0))]
@[go_sem] def Q64_2 : List TO := [Oa 14 (.bin .lss (.t 13) (.t 12))]
@[go_sem] def Q64_3 : List TO := [Oa 15 (.iad 6 (.t 11) (.t 13)),
  Oa 16 (.load 6 true (.t 15)),
  Oa 6 (.alloc [(.i .i64 0), (.i .i64 0), (.b false), (.i .i64 0), (.i .u32 0), (.i .i64 0)]),
  On (.store 6 (.t 6) (.t 16))]
@[go_sem] def Q64_4 : List TO := [Om 17 1,
  Of 18 0 6,
  Ol 19 18,
  Of 20 1 6,
  Ol 21 20,
  Oa 22 (.call (.fn i_Q77) [(.t 17), (.t 19), (.t 21)]),
  Om 7 22]
@[go_sem] def Q64_5 : List TO := [Of 23 5 6,
  Ol 24 23,
  Oa 25 (.bin .gtr (.t 24) (Xk 0)),
  Om 26 25,
  ⟨(some 27), .mv (.t 7), some (26, true)⟩,
  ⟨(some 28), .fad 5 (.t 6), some (26, true)⟩,
  ⟨(some 29), .load 1 false (.t 28), some (26, true)⟩,
  ⟨(some 30), .bin .gtr (.t 27) (.t 29), some (26, true)⟩,
  ⟨(some 31), .mv (.t 30), some (26, true)⟩,
  ⟨(some 32), .mv (.t 7), some (31, false)⟩,
  ⟨(some 33), .bin .eql (.t 32) (Xk (-1)), some (31, false)⟩,
  ⟨(some 34), .pick (.t 31) (.c (.b true)) (.t 33), some (26, true)⟩,
  Oa 35 (.pick (.t 26) (.t 34) (.c (.b false)))]
@[go_sem] def Q64_6 : List TO := [Oa 4 (.mv (Xk 19))]
@[go_sem] def Q64_7 : List TO := [Oa 36 (.bin .add (.t 13) (Xk 1)),
  Om 13 36]
def Q64_8 : TC := (.seq (.reg Q64_2) (.seq (.cond (.t 14) .skip (.exit 0)) (.seq (.block 1 (.seq (.reg Q64_3) (.seq (.reg Q64_4) (.seq (.reg Q64_5) (.cond (.t 35) (.seq (.reg Q64_6) .ret) .skip))))) (.reg Q64_7))))
@[go_sem] def Q64_9 : List TO := [Of 37 0 2,
  Ol 38 37,
  Oa 39 (.len (.t 38)),
  Oa 40 (.mv (Xk 0))]
@[go_sem] def Q64_10 : List TO := [Oa 41 (.bin .lss (.t 40) (.t 39))]
@[go_sem] def Q64_11 : List TO := [Om 42 40,
  Oa 43 (.iad 11 (.t 38) (.t 40)),
  Oa 44 (.load 11 true (.t 43)),
  Oa 9 (.alloc [(.s ⟨#[]⟩), (.i .i64 0), (.i .i64 0), (.b false), (.b false), .ns, (.i .i64 0), (.i .i64 0), (.i .i64 0), (.i .i64 0), (.i .i64 0)]),
  Om 8 42,
  On (.store 11 (.t 9) (.t 44))]
@[go_sem] def Q64_12 : List (Bool × List TO) := [(true, [Of 45 1 9,
  Ol 46 45,
  Oa 47 (.bin .gtr (.t 46) (Xk 0)),
  Om 48 47,
  ⟨(some 49), .mv (.t 1), some (48, true)⟩,
  ⟨(some 50), .mv (.t 8), some (48, true)⟩,
  ⟨(some 51), .fad 2 (.t 9), some (48, true)⟩,
  ⟨(some 52), .load 1 false (.t 51), some (48, true)⟩,
  ⟨(some 53), .call (.fn i_Q78) [(.t 49), (.t 50), (.t 52)], some (48, true)⟩,
  ⟨(some 54), .fad 1 (.t 9), some (48, true)⟩,
  ⟨(some 55), .load 1 false (.t 54), some (48, true)⟩,
  ⟨(some 56), .bin .lss (.t 53) (.t 55), some (48, true)⟩,
  Oa 57 (.pick (.t 48) (.t 56) (.c (.b false)))])]
@[go_sem] def Q64_13 : List TO := [Oa 4 (.mv (Xk 20))]
@[go_sem] def Q64_14 : List TO := [Oa 58 (.bin .add (.t 40) (Xk 1)),
  Om 40 58]
def Q64_15 : TC := (.seq (.reg Q64_10) (.seq (.cond (.t 41) .skip (.exit 2)) (.seq (.block 3 (.seq (.reg Q64_11) (.seq (.dreg Q64_12) (.cond (.t 57) (.seq (.reg Q64_13) .ret) .skip)))) (.reg Q64_14))))
@[go_sem] def Q64_16 : List TO := [Oa 4 (.mv (Xk 0))]
def t_Q64 : TF := ⟨59, [.t 4], (.seq (.reg Q64_0) (.seq (.seq (.reg Q64_1) (.block 0 (.loop Q64_8))) (.seq (.seq (.reg Q64_9) (.block 2 (.loop Q64_15))) (.seq (.reg Q64_16) .ret))))⟩
/-! horarium/horariumref3.Right -/
@[go_sem] def Q65_0 : List TO := [Oa 2 (.mv (Xk 0))]
@[go_sem] def Q65_1 : List TO := [Om 5 0,
  Oa 6 (.len (.t 5)),
  Oa 7 (.bin .gtr (.t 6) (Xk 128))]
@[go_sem] def Q65_2 : List TO := [Oa 2 (.mv (Xk 3))]
@[go_sem] def Q65_3 : List TO := [Om 8 0,
  Oa 9 (.call (.fn i_Q79) [(.t 8)]),
  Oa 10 (.bin .eql (.t 9) (Xk 0))]
@[go_sem] def Q65_4 : List TO := [Oa 2 (.mv (Xk 12))]
@[go_sem] def Q65_5 : List TO := [Om 11 0,
  Oa 12 (.call (.fn i_Q79) [(.t 11)]),
  Oa 13 (.bin .gtr (.t 12) (Xk 16))]
@[go_sem] def Q65_6 : List TO := [Oa 2 (.mv (Xk 14))]
@[go_sem] def Q65_7 : List TO := [Om 15 0,
  Oa 16 (.call (.fn i_Q80) [(.t 15)]),
  Om 14 16,
  Oa 17 (.ext (.t 14) 0),
  Oa 18 (.ext (.t 14) 1),
  Om 3 17,
  Om 4 18]
@[go_sem] def Q65_8 : List TO := [Om 19 4,
  Oa 20 (.un .not (.t 19))]
@[go_sem] def Q65_9 : List TO := [Oa 2 (.mv (Xk 18))]
@[go_sem] def Q65_10 : List TO := [Oa 2 (.mv (Xk 0))]
def t_Q65 : TF := ⟨21, [.t 2], (.seq (.reg Q65_0) (.seq (.seq (.reg Q65_1) (.cond (.t 7) (.seq (.reg Q65_2) .ret) .skip)) (.seq (.seq (.reg Q65_3) (.cond (.t 10) (.seq (.reg Q65_4) .ret) .skip)) (.seq (.seq (.reg Q65_5) (.cond (.t 13) (.seq (.reg Q65_6) .ret) .skip)) (.seq (.seq (.reg Q65_7) (.seq (.reg Q65_8) (.cond (.t 20) (.seq (.reg Q65_9) .ret) .skip))) (.seq (.reg Q65_10) .ret))))))⟩
/-! horarium/horariumref3.Tidy -/
@[go_sem] def Q66_0 : List TO := [Oa 2 (.mv (.c .ns))]
@[go_sem] def Q66_1 : List TO := [Oa 3 (.mv (.c .ns))]
@[go_sem] def Q66_2 : List TO := [Om 7 0,
  Oa 8 (.len (.t 7)),
  Oa 9 (.mv (Xk 0))]
@[go_sem] def Q66_3 : List TO := [Oa 10 (.bin .lss (.t 9) (.t 8))]
@[go_sem] def Q66_4 : List TO := [Oa 11 (.iad 2 (.t 7) (.t 9)),
  Oa 12 (.load 2 true (.t 11)),
  Oa 5 (.alloc [(.i .i64 0), (.i .i64 0)]),
  On (.store 2 (.t 5) (.t 12))]
@[go_sem] def Q66_5 : List TO := [Om 13 3,
  Oa 14 (.len (.t 13)),
  Om 6 14]
@[go_sem] def Q66_6 : List TO := [Of 15 1 5,
  Ol 16 15,
  Oa 17 (.bin .lss (.t 16) (Xk 1))]
@[go_sem] def Q66_7 : List (Bool × List TO) := [(true, [Om 18 6,
  Oa 19 (.bin .gtr (.t 18) (Xk 0)),
  Om 20 19,
  ⟨(some 21), .mv (.t 3), some (20, true)⟩,
  ⟨(some 22), .mv (.t 6), some (20, true)⟩,
  ⟨(some 23), .bin .sub (.t 22) (Xk 1), some (20, true)⟩,
  ⟨(some 24), .iad 2 (.t 21) (.t 23), some (20, true)⟩,
  ⟨(some 25), .fad 0 (.t 24), some (20, true)⟩,
  ⟨(some 26), .load 1 false (.t 25), some (20, true)⟩,
  ⟨(some 27), .fad 0 (.t 5), some (20, true)⟩,
  ⟨(some 28), .load 1 false (.t 27), some (20, true)⟩,
  ⟨(some 29), .bin .eql (.t 26) (.t 28), some (20, true)⟩,
  Oa 30 (.pick (.t 20) (.t 29) (.c (.b false)))])]
@[go_sem] def Q66_8 : List (Bool × List TO) := [(true, [Om 31 3,
  Om 32 6,
  Oa 33 (.bin .sub (.t 32) (Xk 1)),
  Om 34 3,
  Om 35 6,
  Oa 36 (.bin .sub (.t 35) (Xk 1)),
  Oa 37 (.iad 2 (.t 34) (.t 36)),
  Of 38 1 37,
  Ol 39 38,
  Of 40 1 5,
  Ol 41 40,
  Oa 42 (.call (.fn i_Q68) [(.t 39), (.t 41)]),
  Oa 43 (.iad 2 (.t 31) (.t 33)),
  Of 44 1 43]), (false, [On (.store 1 (.t 44) (.t 42))])]
@[go_sem] def Q66_9 : List TO := [Om 45 3,
  Oa 46 (.load 2 true (.t 5)),
  Oa 47 (.bsl 2 [(.i .i64 0), (.i .i64 0)] 1 [(0, (.t 46))]),
  Oa 48 (.app 2 (.t 45) (.t 47)),
  Om 3 48]
@[go_sem] def Q66_10 : List TO := [Oa 49 (.bin .add (.t 9) (Xk 1)),
  Om 9 49]
def Q66_11 : TC := (.seq (.reg Q66_3) (.seq (.cond (.t 10) .skip (.exit 0)) (.seq (.block 1 (.seq (.reg Q66_4) (.seq (.reg Q66_5) (.seq (.seq (.reg Q66_6) (.cond (.t 17) (.exit 1) .skip)) (.seq (.dreg Q66_7) (.cond (.t 30) (.dreg Q66_8) (.reg Q66_9))))))) (.reg Q66_10))))
@[go_sem] def Q66_12 : List TO := [Om 50 3,
  Om 2 50]
def t_Q66 : TF := ⟨51, [.t 2], (.seq (.reg Q66_0) (.seq (.reg Q66_1) (.seq (.seq (.reg Q66_2) (.block 0 (.loop Q66_11))) (.seq (.reg Q66_12) .ret))))⟩
/-! horarium/horariumref3.Leaves -/
@[go_sem] def Q67_0 : List TO := [Oa 2 (.mv (.c .ns))]
@[go_sem] def Q67_1 : List TO := [Om 3 0,
  Oa 4 (.call (.fn i_Q81) [(.t 3), (Xk 0), (.c .ns)]),
  Om 2 4]
def t_Q67 : TF := ⟨5, [.t 2], (.seq (.reg Q67_0) (.seq (.reg Q67_1) .ret))⟩
/-! horarium/horariumref3.Sum -/
@[go_sem] def Q68_0 : List TO := [Oa 4 (.mv (Xk 0))]
@[go_sem] def Q68_1 : List TO := [Om 5 0,
  Oa 6 (.mx [(.t 5), (Xk 0)]),
  Om 7 1,
  Oa 8 (.mx [(.t 7), (Xk 0)]),
  Om 0 6,
  Om 1 8]
@[go_sem] def Q68_2 : List TO := [Om 9 0,
  Om 10 1,
  Oa 11 (.bin .sub (Xk 9223372036854775807) (.t 10)),
  Oa 12 (.bin .gtr (.t 9) (.t 11))]
@[go_sem] def Q68_3 : List TO := [Oa 4 (.mv (Xk 9223372036854775807))]
@[go_sem] def Q68_4 : List TO := [Om 13 0,
  Om 14 1,
  Oa 15 (.bin .add (.t 13) (.t 14)),
  Om 4 15]
def t_Q68 : TF := ⟨16, [.t 4], (.seq (.reg Q68_0) (.seq (.reg Q68_1) (.seq (.seq (.reg Q68_2) (.cond (.t 12) (.seq (.reg Q68_3) .ret) .skip)) (.seq (.reg Q68_4) .ret))))⟩
/-! horarium/horariumref7.words -/
@[go_sem] def Q69_0 : List TO := [Oa 2 (.mv (.c .ns))]
@[go_sem] def Q69_1 : List TO := [Oa 3 (.mv (.c .ns))]
@[go_sem] def Q69_2 : List TO := [Om 7 0,
  Oa 8 (.len (.t 7)),
  Oa 9 (.mv (Xk 0))]
@[go_sem] def Q69_3 : List TO := [Oa 10 (.bin .lss (.t 9) (.t 8))]
@[go_sem] def Q69_4 : List TO := [Oa 11 (.iad 2 (.t 7) (.t 9)),
  Oa 12 (.load 2 true (.t 11)),
  Oa 5 (.alloc [(.i .i64 0), (.i .i64 0)]),
  On (.store 2 (.t 5) (.t 12))]
@[go_sem] def Q69_5 : List TO := [Oa 6 (.mv (Xk 0))]
@[go_sem] def Q69_6 : List TO := [Om 13 6,
  Of 14 1 5,
  Ol 15 14,
  Oa 16 (.bin .lss (.t 13) (.t 15)),
  Om 17 16,
  ⟨(some 18), .mv (.t 3), some (17, true)⟩,
  ⟨(some 19), .len (.t 18), some (17, true)⟩,
  ⟨(some 20), .bin .lss (.t 19) (Xk 8192), some (17, true)⟩,
  Oa 21 (.pick (.t 17) (.t 20) (.c (.b false)))]
@[go_sem] def Q69_7 : List TO := [Om 24 3,
  Of 25 0 5,
  Ol 26 25,
  Oa 27 (.bsl 1 [(.i .i64 0)] 1 [(0, (.t 26))]),
  Oa 28 (.app 1 (.t 24) (.t 27)),
  Om 3 28]
@[go_sem] def Q69_8 : List TO := [Om 22 6,
  Oa 23 (.bin .add (.t 22) (Xk 1)),
  Om 6 23]
def Q69_9 : TC := (.seq (.seq (.reg Q69_6) (.cond (.t 21) .skip (.exit 2))) (.seq (.block 3 (.reg Q69_7)) (.reg Q69_8)))
@[go_sem] def Q69_10 : List TO := [Oa 29 (.bin .add (.t 9) (Xk 1)),
  Om 9 29]
def Q69_11 : TC := (.seq (.reg Q69_3) (.seq (.cond (.t 10) .skip (.exit 0)) (.seq (.block 1 (.seq (.reg Q69_4) (.seq (.reg Q69_5) (.block 2 (.loop Q69_9))))) (.reg Q69_10))))
@[go_sem] def Q69_12 : List TO := [Om 30 3,
  Om 2 30]
def t_Q69 : TF := ⟨31, [.t 2], (.seq (.reg Q69_0) (.seq (.reg Q69_1) (.seq (.seq (.reg Q69_2) (.block 0 (.loop Q69_11))) (.seq (.reg Q69_12) .ret))))⟩
/-! slices.Equal[[]horarium/api.Proc,horarium/api.Proc] -/
@[go_sem] def Q70_0 : List TO := [Oa 4 (.mv (.c (.b false)))]
@[go_sem] def Q70_1 : List TO := [Om 6 0,
  Oa 7 (.len (.t 6)),
  Om 8 1,
  Oa 9 (.len (.t 8)),
  Oa 10 (.bin .neq (.t 7) (.t 9))]
@[go_sem] def Q70_2 : List TO := [Oa 4 (.mv (.c (.b false)))]
@[go_sem] def Q70_3 : List TO := [Om 11 0,
  Oa 12 (.len (.t 11)),
  Oa 13 (.mv (Xk 0))]
@[go_sem] def Q70_4 : List TO := [Oa 14 (.bin .lss (.t 13) (.t 12))]
@[go_sem] def Q70_5 : List TO := [Om 15 13,
  Om 5 15]
@[go_sem] def Q70_6 : List (Bool × List TO) := [(true, [Om 16 0,
  Om 17 5,
  Oa 18 (.iad 2 (.t 16) (.t 17)),
  Oa 19 (.load 2 true (.t 18)),
  Om 20 1,
  Om 21 5,
  Oa 22 (.iad 2 (.t 20) (.t 21)),
  Oa 23 (.load 2 true (.t 22)),
  Oa 24 (.eq true (.agg [.i, .i]) (.t 19) (.t 23))])]
@[go_sem] def Q70_7 : List TO := [Oa 4 (.mv (.c (.b false)))]
@[go_sem] def Q70_8 : List TO := [Oa 25 (.bin .add (.t 13) (Xk 1)),
  Om 13 25]
def Q70_9 : TC := (.seq (.reg Q70_4) (.seq (.cond (.t 14) .skip (.exit 0)) (.seq (.block 1 (.seq (.reg Q70_5) (.seq (.dreg Q70_6) (.cond (.t 24) (.seq (.reg Q70_7) .ret) .skip)))) (.reg Q70_8))))
@[go_sem] def Q70_10 : List TO := [Oa 4 (.mv (.c (.b true)))]
def t_Q70 : TF := ⟨26, [.t 4], (.seq (.reg Q70_0) (.seq (.seq (.reg Q70_1) (.cond (.t 10) (.seq (.reg Q70_2) .ret) .skip)) (.seq (.seq (.reg Q70_3) (.block 0 (.loop Q70_9))) (.seq (.reg Q70_10) .ret))))⟩
/-! horarium/horariumref1.Next -/
@[go_sem] def Q71_0 : List TO := [Oa 4 (.mv (.c (.i .u32 0)))]
@[go_sem] def Q71_1 : List TO := [Om 7 0,
  Om 8 1,
  Oa 9 (.conv .u32 (.t 8)),
  Oa 10 (.bin .shl (.t 9) (.c (.i .u64 24))),
  Oa 11 (.bin .xor (.t 7) (.t 10)),
  Om 0 11]
@[go_sem] def Q71_2 : List TO := [Oa 5 (.mv (Xk 0))]
@[go_sem] def Q71_3 : List TO := [Om 12 5,
  Oa 13 (.bin .lss (.t 12) (Xk 8))]
@[go_sem] def Q71_4 : List TO := [Om 16 0,
  Oa 17 (.bin .shr (.t 16) (.c (.i .u64 31))),
  Om 6 17]
@[go_sem] def Q71_5 : List TO := [Om 18 0,
  Oa 19 (.bin .shl (.t 18) (.c (.i .u64 1))),
  Om 0 19]
@[go_sem] def Q71_6 : List TO := [Om 20 6,
  Oa 21 (.bin .eql (.t 20) (.c (.i .u32 1)))]
@[go_sem] def Q71_7 : List TO := [Om 22 0,
  Oa 23 (.bin .xor (.t 22) (.c (.i .u32 79764919))),
  Om 0 23]
@[go_sem] def Q71_8 : List TO := [Om 14 5,
  Oa 15 (.bin .add (.t 14) (Xk 1)),
  Om 5 15]
def Q71_9 : TC := (.seq (.seq (.reg Q71_3) (.cond (.t 13) .skip (.exit 0))) (.seq (.block 1 (.seq (.reg Q71_4) (.seq (.reg Q71_5) (.seq (.reg Q71_6) (.cond (.t 21) (.reg Q71_7) .skip))))) (.reg Q71_8)))
@[go_sem] def Q71_10 : List TO := [Om 24 0,
  Om 4 24]
def t_Q71 : TF := ⟨25, [.t 4], (.seq (.reg Q71_0) (.seq (.reg Q71_1) (.seq (.seq (.reg Q71_2) (.block 0 (.loop Q71_9))) (.seq (.reg Q71_10) .ret))))⟩
/-! horarium/node.Right -/
@[go_sem] def Q72_0 : List TO := [Oa 2 (.mv (Xk 0))]
@[go_sem] def Q72_1 : List TO := [Om 6 0,
  Oa 7 (.call (.fn i_Q82) [(.t 6)]),
  Om 5 7,
  Oa 8 (.ext (.t 5) 0),
  Oa 9 (.ext (.t 5) 1),
  Om 3 8,
  Om 4 9]
@[go_sem] def Q72_2 : List TO := [Om 11 0,
  Oa 12 (.len (.t 11)),
  Oa 13 (.bin .gtr (.t 12) (Xk 128)),
  Om 10 13]
@[go_sem] def Q72_3 : List TO := [Oa 2 (.mv (Xk 3))]
@[go_sem] def Q72_4 : List TO := [Om 15 0,
  Oa 16 (.call (.fn i_Q83) [(.t 15)]),
  Oa 17 (.un .not (.t 16)),
  Om 14 17]
@[go_sem] def Q72_5 : List TO := [Oa 2 (.mv (Xk 12))]
@[go_sem] def Q72_6 : List TO := [Om 19 0,
  Oa 20 (.call (.fn i_Q84) [(.t 19)]),
  Oa 21 (.bin .gtr (.t 20) (Xk 16)),
  Om 18 21]
@[go_sem] def Q72_7 : List TO := [Oa 2 (.mv (Xk 14))]
@[go_sem] def Q72_8 : List TO := [Om 23 4,
  Oa 24 (.un .not (.t 23)),
  Om 22 24]
@[go_sem] def Q72_9 : List TO := [Oa 2 (.mv (Xk 18))]
@[go_sem] def Q72_10 : List TO := [Oa 2 (.mv (Xk 0))]
def t_Q72 : TF := ⟨25, [.t 2], (.seq (.reg Q72_0) (.seq (.reg Q72_1) (.seq (.block 0 (.seq (.reg Q72_2) (.cond (.t 10) (.seq (.reg Q72_3) .ret) (.seq (.reg Q72_4) (.cond (.t 14) (.seq (.reg Q72_5) .ret) (.seq (.reg Q72_6) (.cond (.t 18) (.seq (.reg Q72_7) .ret) (.seq (.reg Q72_8) (.cond (.t 22) (.seq (.reg Q72_9) .ret) .skip))))))))) (.seq (.reg Q72_10) .ret))))⟩
/-! horarium/cursor.New -/
@[go_sem] def Q73_0 : List TO := [Oa 2 (.mv (.c .np))]
@[go_sem] def Q73_1 : List TO := [Om 4 0,
  Oa 5 (.call (.fn i_Q72) [(.t 4)]),
  Oa 6 (.bin .neq (.t 5) (Xk 0))]
@[go_sem] def Q73_2 : List TO := [Oa 2 (.mv (.c .np))]
@[go_sem] def Q73_3 : List TO := [Om 7 0,
  Oa 8 (.call (.fn i_Q34) [(.t 7)]),
  Oa 9 (.build [.ns, .ns, (.i .i64 0), (.i .i64 0), (.i .i64 0)] [(0, 1, (.t 8))]),
  Oa 10 (.box (.t 9)),
  Om 3 10]
@[go_sem] def Q73_4 : List TO := [Om 11 3,
  Oa 12 (.call (.fn i_Q85) [(.t 11)])]
@[go_sem] def Q73_5 : List TO := [Om 13 3,
  Om 2 13]
def t_Q73 : TF := ⟨14, [.t 2], (.seq (.reg Q73_0) (.seq (.seq (.reg Q73_1) (.cond (.t 6) (.seq (.reg Q73_2) .ret) .skip)) (.seq (.reg Q73_3) (.seq (.reg Q73_4) (.seq (.reg Q73_5) .ret)))))⟩
/-! (*horarium/cursor.Cursor).Next -/
@[go_sem] def Q74_0 : List TO := [Oa 2 (.alloc [(.i .i64 0), (.i .i64 0)]),
  Oa 3 (.mv (.c (.b false)))]
@[go_sem] def Q74_1 : List (Bool × List TO) := [(true, [Om 5 0,
  Oa 6 (.nck (.t 5)),
  Of 7 2 6,
  Ol 8 7,
  Om 9 0,
  Oa 10 (.nck (.t 9)),
  Of 11 0 10,
  Ol 12 11,
  Oa 13 (.len (.t 12)),
  Oa 14 (.bin .geq (.t 8) (.t 13))])]
@[go_sem] def Q74_2 : List TO := [Oa 15 (.build [(.i .i64 0), (.i .i64 0)] []),
  On (.store 2 (.t 2) (.t 15)),
  Oa 3 (.mv (.c (.b false)))]
@[go_sem] def Q74_3 : List (Bool × List TO) := [(true, [Om 16 0,
  Oa 17 (.nck (.t 16)),
  Of 18 0 17,
  Ol 19 18,
  Om 20 0,
  Oa 21 (.nck (.t 20)),
  Of 22 2 21,
  Ol 23 22,
  Oa 24 (.iad 3 (.t 19) (.t 23)),
  Oa 25 (.load 3 true (.t 24)),
  Oa 26 (.call (.fn i_Q86) [(.t 25)]),
  Om 27 0,
  Oa 28 (.nck (.t 27)),
  Of 29 0 28,
  Ol 30 29,
  Om 31 0,
  Oa 32 (.nck (.t 31)),
  Of 33 2 32,
  Ol 34 33,
  Oa 35 (.iad 3 (.t 30) (.t 34)),
  Of 36 2 35,
  Ol 37 36,
  Om 38 0,
  Oa 39 (.nck (.t 38)),
  Of 40 3 39,
  Ol 41 40,
  Oa 42 (.bin .sub (.t 37) (.t 41)),
  Oa 43 (.build [(.i .i64 0), (.i .i64 0)] [(0, 1, (.t 26)), (1, 1, (.t 42))]),
  Oa 4 (.alloc [(.i .i64 0), (.i .i64 0)])]), (false, [On (.store 2 (.t 4) (.t 43))])]
@[go_sem] def Q74_4 : List (Bool × List TO) := [(true, [Om 44 0,
  Oa 45 (.nck (.t 44)),
  Of 46 4 45,
  Ol 47 46,
  Of 48 1 4,
  Ol 49 48,
  Oa 50 (.bin .add (.t 47) (.t 49)),
  Oa 51 (.nck (.t 44)),
  Of 52 4 51]), (false, [On (.store 1 (.t 52) (.t 50))])]
@[go_sem] def Q74_5 : List TO := [Om 53 0,
  Oa 54 (.call (.fn i_Q87) [(.t 53)])]
@[go_sem] def Q74_6 : List TO := [Oa 55 (.load 2 true (.t 4)),
  On (.store 2 (.t 2) (.t 55)),
  Oa 3 (.mv (.c (.b true)))]
def t_Q74 : TF := ⟨56, [.cell 2 2 true, .t 3], (.seq (.reg Q74_0) (.seq (.seq (.dreg Q74_1) (.cond (.t 14) (.seq (.reg Q74_2) .ret) .skip)) (.seq (.dreg Q74_3) (.seq (.dreg Q74_4) (.seq (.reg Q74_5) (.seq (.reg Q74_6) .ret))))))⟩
/-! horarium/runs.Tidy -/
@[go_sem] def Q75_0 : List TO := [Oa 2 (.mv (.c .ns))]
@[go_sem] def Q75_1 : List TO := [Oa 3 (.mv (.c .ns))]
@[go_sem] def Q75_2 : List TO := [Om 7 0,
  Oa 8 (.len (.t 7)),
  Oa 9 (.mv (Xk 0))]
@[go_sem] def Q75_3 : List TO := [Oa 10 (.bin .lss (.t 9) (.t 8))]
@[go_sem] def Q75_4 : List TO := [Oa 11 (.iad 2 (.t 7) (.t 9)),
  Oa 12 (.load 2 true (.t 11)),
  Oa 5 (.alloc [(.i .i64 0), (.i .i64 0)]),
  On (.store 2 (.t 5) (.t 12))]
@[go_sem] def Q75_5 : List TO := [Om 13 3,
  Oa 14 (.len (.t 13)),
  Om 6 14]
@[go_sem] def Q75_6 : List TO := [Of 20 1 5,
  Ol 21 20,
  Oa 22 (.bin .lss (.t 21) (Xk 1)),
  Om 19 22]
@[go_sem] def Q75_7 : List (Bool × List TO) := [(true, [Om 24 6,
  Oa 25 (.bin .gtr (.t 24) (Xk 0)),
  Om 26 25,
  ⟨(some 27), .mv (.t 3), some (26, true)⟩,
  ⟨(some 28), .mv (.t 6), some (26, true)⟩,
  ⟨(some 29), .bin .sub (.t 28) (Xk 1), some (26, true)⟩,
  ⟨(some 30), .iad 2 (.t 27) (.t 29), some (26, true)⟩,
  ⟨(some 31), .fad 0 (.t 30), some (26, true)⟩,
  ⟨(some 32), .load 1 false (.t 31), some (26, true)⟩,
  ⟨(some 33), .fad 0 (.t 5), some (26, true)⟩,
  ⟨(some 34), .load 1 false (.t 33), some (26, true)⟩,
  ⟨(some 35), .bin .eql (.t 32) (.t 34), some (26, true)⟩,
  Oa 36 (.pick (.t 26) (.t 35) (.c (.b false))),
  Om 23 36])]
@[go_sem] def Q75_8 : List (Bool × List TO) := [(true, [Om 37 3,
  Om 38 6,
  Oa 39 (.bin .sub (.t 38) (Xk 1)),
  Om 40 3,
  Om 41 6,
  Oa 42 (.bin .sub (.t 41) (Xk 1)),
  Oa 43 (.iad 2 (.t 40) (.t 42)),
  Of 44 1 43,
  Ol 45 44,
  Of 46 1 5,
  Ol 47 46,
  Oa 48 (.call (.fn i_Q88) [(.t 45), (.t 47)]),
  Oa 49 (.iad 2 (.t 37) (.t 39)),
  Of 50 1 49]), (false, [On (.store 1 (.t 50) (.t 48))])]
@[go_sem] def Q75_9 : List TO := [Om 15 3,
  Oa 16 (.load 2 true (.t 5)),
  Oa 17 (.bsl 2 [(.i .i64 0), (.i .i64 0)] 1 [(0, (.t 16))]),
  Oa 18 (.app 2 (.t 15) (.t 17)),
  Om 3 18]
@[go_sem] def Q75_10 : List TO := [Oa 51 (.bin .add (.t 9) (Xk 1)),
  Om 9 51]
def Q75_11 : TC := (.seq (.reg Q75_3) (.seq (.cond (.t 10) .skip (.exit 0)) (.seq (.block 1 (.seq (.reg Q75_4) (.seq (.reg Q75_5) (.block 2 (.seq (.reg Q75_6) (.cond (.t 19) .skip (.seq (.dreg Q75_7) (.cond (.t 23) (.dreg Q75_8) (.reg Q75_9))))))))) (.reg Q75_10))))
@[go_sem] def Q75_12 : List TO := [Om 52 3,
  Oa 53 (.call (.fn i_Q89) [(.t 52)]),
  Om 2 53]
def t_Q75 : TF := ⟨54, [.t 2], (.seq (.reg Q75_0) (.seq (.reg Q75_1) (.seq (.seq (.reg Q75_2) (.block 0 (.loop Q75_11))) (.seq (.reg Q75_12) .ret))))⟩
/-! slices.IndexFunc[[]horarium/api.Run,horarium/api.Run] -/
@[go_sem] def Q76_0 : List TO := [Oa 4 (.mv (Xk 0))]
@[go_sem] def Q76_1 : List TO := [Om 6 0,
  Oa 7 (.len (.t 6)),
  Oa 8 (.mv (Xk 0))]
@[go_sem] def Q76_2 : List TO := [Oa 9 (.bin .lss (.t 8) (.t 7))]
@[go_sem] def Q76_3 : List TO := [Om 10 8,
  Om 5 10]
@[go_sem] def Q76_4 : List TO := [Om 11 1,
  Om 12 0,
  Om 13 5,
  Oa 14 (.iad 2 (.t 12) (.t 13)),
  Oa 15 (.load 2 true (.t 14)),
  Oa 16 (.call (.t 11) [(.t 15)])]
@[go_sem] def Q76_5 : List TO := [Om 17 5,
  Om 4 17]
@[go_sem] def Q76_6 : List TO := [Oa 18 (.bin .add (.t 8) (Xk 1)),
  Om 8 18]
def Q76_7 : TC := (.seq (.reg Q76_2) (.seq (.cond (.t 9) .skip (.exit 0)) (.seq (.block 1 (.seq (.reg Q76_3) (.seq (.reg Q76_4) (.cond (.t 16) (.seq (.reg Q76_5) .ret) .skip)))) (.reg Q76_6))))
@[go_sem] def Q76_8 : List TO := [Oa 4 (.mv (Xk (-1)))]
def t_Q76 : TF := ⟨19, [.t 4], (.seq (.reg Q76_0) (.seq (.seq (.reg Q76_1) (.block 0 (.loop Q76_7))) (.seq (.reg Q76_8) .ret)))⟩
/-! horarium/bound.Late -/
@[go_sem] def Q77_0 : List TO := [Oa 6 (.mv (Xk 0))]
@[go_sem] def Q77_1 : List TO := [Om 15 0,
  Om 16 1,
  Oa 17 (.call (.fn i_Q90) [(.t 15), (.t 16)]),
  Om 18 0,
  Om 19 2,
  Oa 20 (.call (.fn i_Q90) [(.t 18), (.t 19)]),
  Om 7 17,
  Om 8 20]
@[go_sem] def Q77_2 : List TO := [Om 22 7,
  Oa 23 (.len (.t 22)),
  Oa 24 (.bin .eql (.t 23) (Xk 0)),
  Om 21 24]
@[go_sem] def Q77_3 : List TO := [Oa 6 (.mv (Xk 0))]
@[go_sem] def Q77_4 : List TO := [Om 26 8,
  Oa 27 (.len (.t 26)),
  Oa 28 (.bin .eql (.t 27) (Xk 0)),
  Om 25 28]
@[go_sem] def Q77_5 : List TO := [Oa 6 (.mv (Xk (-1)))]
@[go_sem] def Q77_6 : List TO := [Om 29 0,
  Oa 30 (.call (.fn i_Q91) [(.t 29)]),
  Om 9 30]
@[go_sem] def Q77_7 : List TO := [Oa 10 (.mv (Xk 0))]
@[go_sem] def Q77_8 : List TO := [Om 31 7,
  Oa 32 (.len (.t 31)),
  Oa 33 (.mv (Xk 0))]
@[go_sem] def Q77_9 : List TO := [Oa 34 (.bin .lss (.t 33) (.t 32))]
@[go_sem] def Q77_10 : List TO := [Oa 35 (.iad 2 (.t 31) (.t 33)),
  Oa 36 (.load 2 true (.t 35)),
  Oa 12 (.alloc [(.i .i64 0), (.i .i64 0)]),
  On (.store 2 (.t 12) (.t 36))]
@[go_sem] def Q77_11 : List TO := [Of 37 0 12,
  Ol 38 37,
  Of 39 1 12,
  Ol 40 39,
  Oa 41 (.bin .sub (.t 40) (Xk 1)),
  Oa 42 (.bsl 1 [(.i .i64 0)] 2 [(0, (.t 38)), (1, (.t 41))]),
  Oa 43 (.len (.t 42)),
  Oa 44 (.mv (Xk 0))]
@[go_sem] def Q77_12 : List TO := [Oa 45 (.bin .lss (.t 44) (.t 43))]
@[go_sem] def Q77_13 : List TO := [Oa 46 (.iad 1 (.t 42) (.t 44)),
  Ol 47 46,
  Om 14 47]
@[go_sem] def Q77_14 : List TO := [Om 48 10,
  Om 49 8,
  Om 50 14,
  Om 51 9,
  Oa 52 (.call (.fn i_Q92) [(.t 49), (.t 50), (.t 51)]),
  Om 53 14,
  Oa 54 (.bin .sub (.t 52) (.t 53)),
  Oa 55 (.mx [(.t 48), (.t 54)]),
  Om 10 55]
@[go_sem] def Q77_15 : List TO := [Oa 56 (.bin .add (.t 44) (Xk 1)),
  Om 44 56]
def Q77_16 : TC := (.seq (.reg Q77_12) (.seq (.cond (.t 45) .skip (.exit 3)) (.seq (.block 4 (.seq (.reg Q77_13) (.reg Q77_14))) (.reg Q77_15))))
@[go_sem] def Q77_17 : List TO := [Oa 57 (.bin .add (.t 33) (Xk 1)),
  Om 33 57]
def Q77_18 : TC := (.seq (.reg Q77_9) (.seq (.cond (.t 34) .skip (.exit 1)) (.seq (.block 2 (.seq (.reg Q77_10) (.seq (.reg Q77_11) (.block 3 (.loop Q77_16))))) (.reg Q77_17))))
@[go_sem] def Q77_19 : List TO := [Om 58 10,
  Om 6 58]
def t_Q77 : TF := ⟨59, [.t 6], (.seq (.reg Q77_0) (.seq (.reg Q77_1) (.seq (.block 0 (.seq (.reg Q77_2) (.cond (.t 21) (.seq (.reg Q77_3) .ret) (.seq (.reg Q77_4) (.cond (.t 25) (.seq (.reg Q77_5) .ret) .skip))))) (.seq (.reg Q77_6) (.seq (.reg Q77_7) (.seq (.seq (.reg Q77_8) (.block 1 (.loop Q77_18))) (.seq (.reg Q77_19) .ret)))))))⟩
/-! horarium/bound.Budget -/
@[go_sem] def Q78_0 : List TO := [Oa 6 (.mv (Xk 0))]
@[go_sem] def Q78_1 : List TO := [Om 14 0,
  Oa 15 (.call (.fn i_Q91) [(.t 14)]),
  Om 7 15]
@[go_sem] def Q78_2 : List TO := [Om 16 2,
  Oa 17 (.bin .lss (.t 16) (Xk 1)),
  Om 18 17,
  ⟨(some 19), .mv (.t 7), some (18, false)⟩,
  ⟨(some 20), .bin .eql (.t 19) (Xk 0), some (18, false)⟩,
  Oa 21 (.pick (.t 18) (.c (.b true)) (.t 20)),
  Om 22 21,
  ⟨(some 23), .mv (.t 7), some (22, false)⟩,
  ⟨(some 24), .mv (.t 2), some (22, false)⟩,
  ⟨(some 25), .bin .rem (.t 23) (.t 24), some (22, false)⟩,
  ⟨(some 26), .bin .neq (.t 25) (Xk 0), some (22, false)⟩,
  Oa 27 (.pick (.t 22) (.c (.b true)) (.t 26))]
@[go_sem] def Q78_3 : List TO := [Oa 6 (.mv (Xk (-1)))]
@[go_sem] def Q78_4 : List TO := [Om 28 0,
  Om 29 1,
  Oa 30 (.call (.fn i_Q90) [(.t 28), (.t 29)]),
  Om 8 30]
@[go_sem] def Q78_5 : List TO := [Om 31 2,
  Om 9 31]
@[go_sem] def Q78_6 : List TO := [Oa 10 (.mv (Xk 0))]
@[go_sem] def Q78_7 : List TO := [Om 32 10,
  Om 33 7,
  Oa 34 (.bin .lss (.t 32) (.t 33))]
@[go_sem] def Q78_8 : List TO := [Oa 11 (.mv (Xk 0))]
@[go_sem] def Q78_9 : List TO := [Om 38 8,
  Oa 39 (.len (.t 38)),
  Oa 40 (.mv (Xk 0))]
@[go_sem] def Q78_10 : List TO := [Oa 41 (.bin .lss (.t 40) (.t 39))]
@[go_sem] def Q78_11 : List TO := [Oa 42 (.iad 2 (.t 38) (.t 40)),
  Oa 43 (.load 2 true (.t 42)),
  Oa 13 (.alloc [(.i .i64 0), (.i .i64 0)]),
  On (.store 2 (.t 13) (.t 43))]
@[go_sem] def Q78_12 : List TO := [Om 44 11,
  Of 45 1 13,
  Ol 46 45,
  Om 47 10,
  Om 48 2,
  Oa 49 (.bin .add (.t 47) (.t 48)),
  Oa 50 (.mn [(.t 46), (.t 49)]),
  Of 51 0 13,
  Ol 52 51,
  Om 53 10,
  Oa 54 (.mx [(.t 52), (.t 53)]),
  Oa 55 (.bin .sub (.t 50) (.t 54)),
  Oa 56 (.mx [(Xk 0), (.t 55)]),
  Oa 57 (.bin .add (.t 44) (.t 56)),
  Om 11 57]
@[go_sem] def Q78_13 : List TO := [Oa 58 (.bin .add (.t 40) (Xk 1)),
  Om 40 58]
def Q78_14 : TC := (.seq (.reg Q78_10) (.seq (.cond (.t 41) .skip (.exit 2)) (.seq (.block 3 (.seq (.reg Q78_11) (.reg Q78_12))) (.reg Q78_13))))
@[go_sem] def Q78_15 : List TO := [Om 59 9,
  Om 60 11,
  Oa 61 (.mn [(.t 59), (.t 60)]),
  Om 9 61]
@[go_sem] def Q78_16 : List TO := [Om 35 10,
  Om 36 2,
  Oa 37 (.bin .add (.t 35) (.t 36)),
  Om 10 37]
def Q78_17 : TC := (.seq (.seq (.reg Q78_7) (.cond (.t 34) .skip (.exit 0))) (.seq (.block 1 (.seq (.reg Q78_8) (.seq (.seq (.reg Q78_9) (.block 2 (.loop Q78_14))) (.reg Q78_15)))) (.reg Q78_16)))
@[go_sem] def Q78_18 : List TO := [Om 62 9,
  Om 6 62]
def t_Q78 : TF := ⟨63, [.t 6], (.seq (.reg Q78_0) (.seq (.reg Q78_1) (.seq (.seq (.reg Q78_2) (.cond (.t 27) (.seq (.reg Q78_3) .ret) .skip)) (.seq (.reg Q78_4) (.seq (.reg Q78_5) (.seq (.seq (.reg Q78_6) (.block 0 (.loop Q78_17))) (.seq (.reg Q78_18) .ret)))))))⟩
/-! horarium/horariumref3.Depth -/
@[go_sem] def Q79_0 : List TO := [Oa 2 (.mv (Xk 0))]
@[go_sem] def Q79_1 : List TO := [Om 3 0,
  Oa 4 (.len (.t 3)),
  Oa 5 (.bin .eql (.t 4) (Xk 0)),
  Om 6 5,
  ⟨(some 7), .mv (.t 0), some (6, false)⟩,
  ⟨(some 8), .call (.fn i_Q93) [(.t 7), (Xk 0)], some (6, false)⟩,
  ⟨(some 9), .mv (.t 0), some (6, false)⟩,
  ⟨(some 10), .len (.t 9), some (6, false)⟩,
  ⟨(some 11), .bin .neq (.t 8) (.t 10), some (6, false)⟩,
  Oa 12 (.pick (.t 6) (.c (.b true)) (.t 11))]
@[go_sem] def Q79_2 : List TO := [Oa 2 (.mv (Xk 0))]
@[go_sem] def Q79_3 : List TO := [Om 13 0,
  Oa 14 (.call (.fn i_Q94) [(.t 13), (Xk 0)]),
  Om 2 14]
def t_Q79 : TF := ⟨15, [.t 2], (.seq (.reg Q79_0) (.seq (.seq (.reg Q79_1) (.cond (.t 12) (.seq (.reg Q79_2) .ret) .skip)) (.seq (.reg Q79_3) .ret)))⟩
/-! horarium/horariumref3.Length -/
@[go_sem] def Q80_0 : List TO := [Oa 2 (.mv (Xk 0)),
  Oa 3 (.mv (.c (.b false)))]
@[go_sem] def Q80_1 : List TO := [Om 5 0,
  Oa 6 (.call (.fn i_Q79) [(.t 5)]),
  Oa 7 (.bin .eql (.t 6) (Xk 0))]
@[go_sem] def Q80_2 : List TO := [Oa 2 (.mv (Xk 0)),
  Oa 3 (.mv (.c (.b false)))]
@[go_sem] def Q80_3 : List TO := [Om 8 0,
  Oa 9 (.call (.fn i_Q95) [(.t 8), (Xk 0)]),
  Om 4 9]
@[go_sem] def Q80_4 : List TO := [Om 10 4,
  Oa 11 (.bin .gtr (.t 10) (Xk 4096))]
@[go_sem] def Q80_5 : List TO := [Oa 2 (.mv (Xk 0)),
  Oa 3 (.mv (.c (.b false)))]
@[go_sem] def Q80_6 : List TO := [Om 12 4,
  Om 2 12,
  Oa 3 (.mv (.c (.b true)))]
def t_Q80 : TF := ⟨13, [.t 2, .t 3], (.seq (.reg Q80_0) (.seq (.seq (.reg Q80_1) (.cond (.t 7) (.seq (.reg Q80_2) .ret) .skip)) (.seq (.reg Q80_3) (.seq (.seq (.reg Q80_4) (.cond (.t 11) (.seq (.reg Q80_5) .ret) .skip)) (.seq (.reg Q80_6) .ret)))))⟩
/-! horarium/horariumref3.leaves -/
@[go_sem] def Q81_0 : List TO := [Oa 6 (.mv (.c .ns))]
@[go_sem] def Q81_1 : List TO := [Om 10 0,
  Om 11 1,
  Oa 12 (.iad 3 (.t 10) (.t 11)),
  Of 13 0 12,
  Ol 14 13]
@[go_sem] def Q81_2 : List TO := [Oa 16 (.bin .eql (.t 14) (Xk 1)),
  Om 15 16]
@[go_sem] def Q81_3 : List (Bool × List TO) := [(true, [Om 17 2,
  Om 18 0,
  Om 19 1,
  Oa 20 (.iad 3 (.t 18) (.t 19)),
  Of 21 1 20,
  Ol 22 21,
  Om 23 0,
  Om 24 1,
  Oa 25 (.iad 3 (.t 23) (.t 24)),
  Of 26 2 25,
  Ol 27 26,
  Oa 28 (.build [(.i .i64 0), (.i .i64 0)] [(0, 1, (.t 22)), (1, 1, (.t 27))]),
  Oa 29 (.bsl 2 [(.i .i64 0), (.i .i64 0)] 1 [(0, (.t 28))])]), (false, [Oa 30 (.app 2 (.t 17) (.t 29))]), (true, [Om 6 30])]
@[go_sem] def Q81_4 : List TO := [Oa 32 (.bin .eql (.t 14) (Xk 2)),
  Om 31 32]
@[go_sem] def Q81_5 : List TO := [Om 33 2,
  Om 34 0,
  Om 35 1,
  Oa 36 (.iad 3 (.t 34) (.t 35)),
  Of 37 2 36,
  Ol 38 37,
  Oa 39 (.build [(.i .i64 0), (.i .i64 0)] [(0, 1, (Xk (-1))), (1, 1, (.t 38))]),
  Oa 40 (.bsl 2 [(.i .i64 0), (.i .i64 0)] 1 [(0, (.t 39))]),
  Oa 41 (.app 2 (.t 33) (.t 40)),
  Om 6 41]
@[go_sem] def Q81_6 : List TO := [Oa 43 (.bin .eql (.t 14) (Xk 4)),
  Om 42 43]
@[go_sem] def Q81_7 : List TO := [Oa 7 (.mv (Xk 0))]
@[go_sem] def Q81_8 : List TO := [Om 44 7,
  Om 45 0,
  Om 46 1,
  Oa 47 (.iad 3 (.t 45) (.t 46)),
  Of 48 2 47,
  Ol 49 48,
  Oa 50 (.bin .lss (.t 44) (.t 49))]
@[go_sem] def Q81_9 : List TO := [Om 53 0,
  Om 54 1,
  Oa 55 (.bin .add (.t 54) (Xk 1)),
  Om 56 2,
  Oa 57 (.call (.fn i_Q81) [(.t 53), (.t 55), (.t 56)]),
  Om 2 57]
@[go_sem] def Q81_10 : List TO := [Om 51 7,
  Oa 52 (.bin .add (.t 51) (Xk 1)),
  Om 7 52]
def Q81_11 : TC := (.seq (.seq (.reg Q81_8) (.cond (.t 50) .skip (.exit 1))) (.seq (.block 2 (.reg Q81_9)) (.reg Q81_10)))
@[go_sem] def Q81_12 : List TO := [Om 58 2,
  Om 6 58]
@[go_sem] def Q81_13 : List TO := [Om 59 0,
  Om 60 1,
  Oa 61 (.call (.fn i_Q96) [(.t 59), (.t 60)]),
  Oa 62 (.len (.t 61)),
  Oa 63 (.mv (Xk 0))]
@[go_sem] def Q81_14 : List TO := [Oa 64 (.bin .lss (.t 63) (.t 62))]
@[go_sem] def Q81_15 : List TO := [Oa 65 (.iad 1 (.t 61) (.t 63)),
  Ol 66 65,
  Om 9 66]
@[go_sem] def Q81_16 : List TO := [Om 67 0,
  Om 68 9,
  Om 69 2,
  Oa 70 (.call (.fn i_Q81) [(.t 67), (.t 68), (.t 69)]),
  Om 2 70]
@[go_sem] def Q81_17 : List TO := [Oa 71 (.bin .add (.t 63) (Xk 1)),
  Om 63 71]
def Q81_18 : TC := (.seq (.reg Q81_14) (.seq (.cond (.t 64) .skip (.exit 3)) (.seq (.block 4 (.seq (.reg Q81_15) (.reg Q81_16))) (.reg Q81_17))))
@[go_sem] def Q81_19 : List TO := [Om 72 2,
  Om 6 72]
def t_Q81 : TF := ⟨73, [.t 6], (.seq (.reg Q81_0) (.seq (.seq (.reg Q81_1) (.block 0 (.seq (.reg Q81_2) (.cond (.t 15) (.seq (.dreg Q81_3) .ret) (.seq (.reg Q81_4) (.cond (.t 31) (.seq (.reg Q81_5) .ret) (.seq (.reg Q81_6) (.cond (.t 42) (.seq (.seq (.reg Q81_7) (.block 1 (.loop Q81_11))) (.seq (.reg Q81_12) .ret)) .skip)))))))) (.seq (.seq (.reg Q81_13) (.block 3 (.loop Q81_18))) (.seq (.reg Q81_19) .ret))))⟩
/-! horarium/node.Length -/
@[go_sem] def Q82_0 : List TO := [Oa 2 (.mv (Xk 0)),
  Oa 3 (.mv (.c (.b false)))]
@[go_sem] def Q82_1 : List TO := [Om 6 0,
  Oa 7 (.call (.fn i_Q83) [(.t 6)]),
  Oa 8 (.un .not (.t 7))]
@[go_sem] def Q82_2 : List TO := [Oa 2 (.mv (Xk 0)),
  Oa 3 (.mv (.c (.b false)))]
@[go_sem] def Q82_3 : List TO := [Om 10 0,
  Oa 11 (.call (.fn i_Q97) [(.t 10)]),
  Om 9 11,
  Oa 12 (.ext (.t 9) 0),
  Oa 13 (.ext (.t 9) 1),
  Om 4 12,
  Om 5 13]
@[go_sem] def Q82_4 : List TO := [Om 14 5,
  Oa 15 (.bin .leq (.t 14) (Xk 4096))]
@[go_sem] def Q82_5 : List TO := [Om 16 5,
  Om 2 16,
  Oa 3 (.mv (.c (.b true)))]
@[go_sem] def Q82_6 : List TO := [Oa 2 (.mv (Xk 0)),
  Oa 3 (.mv (.c (.b false)))]
def t_Q82 : TF := ⟨17, [.t 2, .t 3], (.seq (.reg Q82_0) (.seq (.seq (.reg Q82_1) (.cond (.t 8) (.seq (.reg Q82_2) .ret) .skip)) (.seq (.seq (.reg Q82_3) (.seq (.reg Q82_4) (.cond (.t 15) (.seq (.reg Q82_5) .ret) .skip))) (.seq (.reg Q82_6) .ret))))⟩
/-! horarium/node.whole -/
@[go_sem] def Q83_0 : List TO := [Oa 2 (.mv (.c (.b false)))]
@[go_sem] def Q83_1 : List TO := [Om 3 0,
  Oa 4 (.len (.t 3)),
  Oa 5 (.bin .gtr (.t 4) (Xk 0)),
  Om 6 5,
  ⟨(some 7), .mv (.t 0), some (6, true)⟩,
  ⟨(some 8), .call (.fn i_Q98) [(.t 7), (Xk 0)], some (6, true)⟩,
  ⟨(some 9), .mv (.t 0), some (6, true)⟩,
  ⟨(some 10), .len (.t 9), some (6, true)⟩,
  ⟨(some 11), .bin .eql (.t 8) (.t 10), some (6, true)⟩,
  Oa 12 (.pick (.t 6) (.t 11) (.c (.b false))),
  Om 2 12]
def t_Q83 : TF := ⟨13, [.t 2], (.seq (.reg Q83_0) (.seq (.reg Q83_1) .ret))⟩
/-! horarium/node.Depth -/
@[go_sem] def Q84_0 : List TO := [Oa 2 (.mv (Xk 0))]
@[go_sem] def Q84_1 : List TO := [Om 5 0,
  Oa 6 (.call (.fn i_Q83) [(.t 5)]),
  Oa 7 (.un .not (.t 6))]
@[go_sem] def Q84_2 : List TO := [Oa 2 (.mv (Xk 0))]
@[go_sem] def Q84_3 : List TO := [Om 9 0,
  Oa 10 (.call (.fn i_Q97) [(.t 9)]),
  Om 8 10,
  Oa 11 (.ext (.t 8) 0),
  Oa 12 (.ext (.t 8) 1),
  Om 3 11,
  Om 4 12]
@[go_sem] def Q84_4 : List TO := [Om 13 3,
  Om 2 13]
def t_Q84 : TF := ⟨14, [.t 2], (.seq (.reg Q84_0) (.seq (.seq (.reg Q84_1) (.cond (.t 7) (.seq (.reg Q84_2) .ret) .skip)) (.seq (.reg Q84_3) (.seq (.reg Q84_4) .ret))))⟩
/-! (*horarium/cursor.Cursor).Reset -/
@[go_sem] def Q85_0 : List TO := [Om 2 0,
  Om 3 0,
  Om 4 0,
  Oa 5 (.nck (.t 2)),
  Of 6 1 5,
  On (.store 1 (.t 6) (.c .ns)),
  Oa 7 (.nck (.t 3)),
  Of 8 3 7,
  On (.store 1 (.t 8) (Xk 0)),
  Oa 9 (.nck (.t 4)),
  Of 10 4 9,
  On (.store 1 (.t 10) (Xk 0))]
@[go_sem] def Q85_1 : List TO := [Om 11 0,
  Oa 12 (.call (.fn i_Q99) [(.t 11), (Xk 0)])]
def t_Q85 : TF := ⟨13, [], (.seq (.reg Q85_0) (.reg Q85_1))⟩
/-! horarium/cursor.part -/
@[go_sem] def Q86_0 : List TO := [Oa 1 (.box (.t 0)),
  Oa 2 (.mv (Xk 0))]
@[go_sem] def Q86_1 : List TO := [Of 3 0 1,
  Ol 4 3,
  Oa 5 (.bin .eql (.t 4) (Xk 2))]
@[go_sem] def Q86_2 : List TO := [Oa 2 (.mv (Xk (-1)))]
@[go_sem] def Q86_3 : List TO := [Of 6 1 1,
  Ol 7 6,
  Om 2 7]
def t_Q86 : TF := ⟨8, [.t 2], (.seq (.reg Q86_0) (.seq (.seq (.reg Q86_1) (.cond (.t 5) (.seq (.reg Q86_2) .ret) .skip)) (.seq (.reg Q86_3) .ret)))⟩
/-! (*horarium/cursor.Cursor).step -/
@[go_sem] def Q87_0 : List TO := [Om 4 0,
  Oa 5 (.nck (.t 4)),
  Of 6 2 5,
  Ol 7 6,
  Oa 8 (.bin .add (.t 7) (Xk 1)),
  Om 2 8]
@[go_sem] def Q87_1 : List TO := [Om 9 0,
  Oa 10 (.nck (.t 9)),
  Of 11 3 10,
  On (.store 1 (.t 11) (Xk 0))]
@[go_sem] def Q87_2 : List TO := [Om 12 0,
  Oa 13 (.nck (.t 12)),
  Of 14 1 13,
  Ol 15 14,
  Oa 16 (.len (.t 15)),
  Oa 17 (.bin .gtr (.t 16) (Xk 0))]
@[go_sem] def Q87_3 : List (Bool × List TO) := [(true, [Om 18 0,
  Oa 19 (.nck (.t 18)),
  Of 20 1 19,
  Ol 21 20,
  Om 22 0,
  Oa 23 (.nck (.t 22)),
  Of 24 1 23,
  Ol 25 24,
  Oa 26 (.len (.t 25)),
  Oa 27 (.bin .sub (.t 26) (Xk 1)),
  Oa 28 (.iad 2 (.t 21) (.t 27)),
  Om 3 28])]
@[go_sem] def Q87_4 : List TO := [Om 29 3,
  Oa 30 (.nck (.t 29)),
  Of 31 1 30,
  Ol 32 31,
  Oa 33 (.bin .sub (.t 32) (Xk 1)),
  Oa 34 (.nck (.t 29)),
  Of 35 1 34,
  On (.store 1 (.t 35) (.t 33))]
@[go_sem] def Q87_5 : List TO := [Om 36 3,
  Oa 37 (.nck (.t 36)),
  Of 38 1 37,
  Ol 39 38,
  Oa 40 (.bin .gtr (.t 39) (Xk 0))]
@[go_sem] def Q87_6 : List (Bool × List TO) := [(true, [Om 41 0,
  Oa 42 (.nck (.t 41)),
  Of 43 0 42,
  Ol 44 43,
  Om 45 3,
  Oa 46 (.nck (.t 45)),
  Of 47 0 46,
  Ol 48 47,
  Oa 49 (.iad 3 (.t 44) (.t 48)),
  Of 50 0 49,
  Ol 51 50,
  Oa 52 (.bin .eql (.t 51) (Xk 4))])]
@[go_sem] def Q87_7 : List TO := [Om 53 3,
  Oa 54 (.nck (.t 53)),
  Of 55 0 54,
  Ol 56 55,
  Oa 57 (.bin .add (.t 56) (Xk 1)),
  Om 2 57]
@[go_sem] def Q87_8 : List TO := [Om 58 0,
  Om 59 2,
  Oa 60 (.call (.fn i_Q99) [(.t 58), (.t 59)])]
@[go_sem] def Q87_9 : List (Bool × List TO) := [(true, [Om 61 0,
  Om 62 0,
  Oa 63 (.nck (.t 62)),
  Of 64 1 63,
  Ol 65 64,
  Om 66 0,
  Oa 67 (.nck (.t 66)),
  Of 68 1 67,
  Ol 69 68,
  Oa 70 (.len (.t 69)),
  Oa 71 (.bin .sub (.t 70) (Xk 1)),
  Oa 72 (.slice 2 (.t 65) none (some (.t 71)) none),
  Oa 73 (.nck (.t 61)),
  Of 74 1 73]), (false, [On (.store 1 (.t 74) (.t 72))])]
def Q87_10 : TC := (.seq (.seq (.reg Q87_2) (.cond (.t 17) .skip (.exit 0))) (.block 1 (.seq (.dreg Q87_3) (.seq (.seq (.reg Q87_4) (.seq (.reg Q87_5) (.cond (.t 40) (.seq (.seq (.dreg Q87_6) (.cond (.t 52) (.reg Q87_7) .skip)) (.seq (.reg Q87_8) .ret)) .skip))) (.dreg Q87_9)))))
@[go_sem] def Q87_11 : List TO := [Om 75 0,
  Om 76 0,
  Oa 77 (.nck (.t 76)),
  Of 78 0 77,
  Ol 79 78,
  Oa 80 (.len (.t 79)),
  Oa 81 (.nck (.t 75)),
  Of 82 2 81,
  On (.store 1 (.t 82) (.t 80))]
def t_Q87 : TF := ⟨83, [], (.seq (.reg Q87_0) (.seq (.reg Q87_1) (.seq (.block 0 (.loop Q87_10)) (.reg Q87_11))))⟩
/-! horarium/runs.Add -/
@[go_sem] def Q88_0 : List TO := [Oa 4 (.mv (Xk 0))]
@[go_sem] def Q88_1 : List TO := [Om 5 0,
  Oa 6 (.mx [(Xk 0), (.t 5)]),
  Om 7 1,
  Oa 8 (.mx [(Xk 0), (.t 7)]),
  Om 0 6,
  Om 1 8]
@[go_sem] def Q88_2 : List TO := [Om 9 0,
  Om 10 1,
  Oa 11 (.bin .sub (Xk 9223372036854775807) (.t 10)),
  Oa 12 (.bin .gtr (.t 9) (.t 11))]
@[go_sem] def Q88_3 : List TO := [Oa 4 (.mv (Xk 9223372036854775807))]
@[go_sem] def Q88_4 : List TO := [Om 13 0,
  Om 14 1,
  Oa 15 (.bin .add (.t 13) (.t 14)),
  Om 4 15]
def t_Q88 : TF := ⟨16, [.t 4], (.seq (.reg Q88_0) (.seq (.reg Q88_1) (.seq (.seq (.reg Q88_2) (.cond (.t 12) (.seq (.reg Q88_3) .ret) .skip)) (.seq (.reg Q88_4) .ret))))⟩
/-! slices.Clip[[]horarium/api.Run,horarium/api.Run] -/
@[go_sem] def Q89_0 : List TO := [Oa 2 (.mv (.c .ns))]
@[go_sem] def Q89_1 : List TO := [Om 3 0,
  Om 4 0,
  Oa 5 (.len (.t 4)),
  Om 6 0,
  Oa 7 (.len (.t 6)),
  Oa 8 (.slice 2 (.t 3) none (some (.t 5)) (some (.t 7))),
  Om 2 8]
def t_Q89 : TF := ⟨9, [.t 2], (.seq (.reg Q89_0) (.seq (.reg Q89_1) .ret))⟩
/-! horarium/bound.spans -/
@[go_sem] def Q90_0 : List TO := [Oa 4 (.mv (.c .ns))]
@[go_sem] def Q90_1 : List TO := [Oa 5 (.mv (.c .ns))]
@[go_sem] def Q90_2 : List TO := [Oa 6 (.mv (Xk 0))]
@[go_sem] def Q90_3 : List TO := [Om 10 0,
  Oa 11 (.len (.t 10)),
  Oa 12 (.mv (Xk 0))]
@[go_sem] def Q90_4 : List TO := [Oa 13 (.bin .lss (.t 12) (.t 11))]
@[go_sem] def Q90_5 : List TO := [Oa 14 (.iad 2 (.t 10) (.t 12)),
  Oa 15 (.load 2 true (.t 14)),
  Oa 8 (.alloc [(.i .i64 0), (.i .i64 0)]),
  On (.store 2 (.t 8) (.t 15))]
@[go_sem] def Q90_6 : List TO := [Om 16 6,
  Of 17 1 8,
  Ol 18 17,
  Oa 19 (.call (.fn i_Q88) [(.t 16), (.t 18)]),
  Om 9 19]
@[go_sem] def Q90_7 : List TO := [Of 20 0 8,
  Ol 21 20,
  Om 22 1,
  Oa 23 (.bin .eql (.t 21) (.t 22)),
  Om 24 23,
  ⟨(some 25), .mv (.t 9), some (24, true)⟩,
  ⟨(some 26), .mv (.t 6), some (24, true)⟩,
  ⟨(some 27), .bin .gtr (.t 25) (.t 26), some (24, true)⟩,
  Oa 28 (.pick (.t 24) (.t 27) (.c (.b false)))]
@[go_sem] def Q90_8 : List TO := [Om 29 5,
  Om 30 6,
  Om 31 9,
  Oa 32 (.build [(.i .i64 0), (.i .i64 0)] [(0, 1, (.t 30)), (1, 1, (.t 31))]),
  Oa 33 (.bsl 2 [(.i .i64 0), (.i .i64 0)] 1 [(0, (.t 32))]),
  Oa 34 (.app 2 (.t 29) (.t 33)),
  Om 5 34]
@[go_sem] def Q90_9 : List TO := [Om 35 9,
  Om 6 35]
@[go_sem] def Q90_10 : List TO := [Oa 36 (.bin .add (.t 12) (Xk 1)),
  Om 12 36]
def Q90_11 : TC := (.seq (.reg Q90_4) (.seq (.cond (.t 13) .skip (.exit 0)) (.seq (.block 1 (.seq (.reg Q90_5) (.seq (.reg Q90_6) (.seq (.seq (.reg Q90_7) (.cond (.t 28) (.reg Q90_8) .skip)) (.reg Q90_9))))) (.reg Q90_10))))
@[go_sem] def Q90_12 : List TO := [Om 37 5,
  Om 4 37]
def t_Q90 : TF := ⟨38, [.t 4], (.seq (.reg Q90_0) (.seq (.reg Q90_1) (.seq (.reg Q90_2) (.seq (.seq (.reg Q90_3) (.block 0 (.loop Q90_11))) (.seq (.reg Q90_12) .ret)))))⟩
/-! horarium/runs.Length -/
@[go_sem] def Q91_0 : List TO := [Oa 2 (.mv (Xk 0))]
@[go_sem] def Q91_1 : List TO := [Oa 3 (.mv (Xk 0))]
@[go_sem] def Q91_2 : List TO := [Om 6 0,
  Oa 7 (.len (.t 6)),
  Oa 8 (.mv (Xk 0))]
@[go_sem] def Q91_3 : List TO := [Oa 9 (.bin .lss (.t 8) (.t 7))]
@[go_sem] def Q91_4 : List TO := [Oa 10 (.iad 2 (.t 6) (.t 8)),
  Oa 11 (.load 2 true (.t 10)),
  Oa 5 (.alloc [(.i .i64 0), (.i .i64 0)]),
  On (.store 2 (.t 5) (.t 11))]
@[go_sem] def Q91_5 : List TO := [Om 12 3,
  Of 13 1 5,
  Ol 14 13,
  Oa 15 (.call (.fn i_Q88) [(.t 12), (.t 14)]),
  Om 3 15]
@[go_sem] def Q91_6 : List TO := [Oa 16 (.bin .add (.t 8) (Xk 1)),
  Om 8 16]
def Q91_7 : TC := (.seq (.reg Q91_3) (.seq (.cond (.t 9) .skip (.exit 0)) (.seq (.block 1 (.seq (.reg Q91_4) (.reg Q91_5))) (.reg Q91_6))))
@[go_sem] def Q91_8 : List TO := [Om 17 3,
  Om 2 17]
def t_Q91 : TF := ⟨18, [.t 2], (.seq (.reg Q91_0) (.seq (.reg Q91_1) (.seq (.seq (.reg Q91_2) (.block 0 (.loop Q91_7))) (.seq (.reg Q91_8) .ret))))⟩
/-! horarium/bound.next -/
@[go_sem] def Q92_0 : List TO := [Oa 6 (.mv (Xk 0))]
@[go_sem] def Q92_1 : List TO := [Om 9 0,
  Oa 10 (.len (.t 9)),
  Oa 11 (.mv (Xk 0))]
@[go_sem] def Q92_2 : List TO := [Oa 12 (.bin .lss (.t 11) (.t 10))]
@[go_sem] def Q92_3 : List TO := [Oa 13 (.iad 2 (.t 9) (.t 11)),
  Oa 14 (.load 2 true (.t 13)),
  Oa 8 (.alloc [(.i .i64 0), (.i .i64 0)]),
  On (.store 2 (.t 8) (.t 14))]
@[go_sem] def Q92_4 : List TO := [Om 15 1,
  Oa 16 (.bin .add (.t 15) (Xk 1)),
  Of 17 1 8,
  Ol 18 17,
  Oa 19 (.bin .lss (.t 16) (.t 18))]
@[go_sem] def Q92_5 : List TO := [Om 20 1,
  Oa 21 (.bin .add (.t 20) (Xk 1)),
  Of 22 0 8,
  Ol 23 22,
  Oa 24 (.mx [(.t 21), (.t 23)]),
  Om 6 24]
@[go_sem] def Q92_6 : List TO := [Oa 25 (.bin .add (.t 11) (Xk 1)),
  Om 11 25]
def Q92_7 : TC := (.seq (.reg Q92_2) (.seq (.cond (.t 12) .skip (.exit 0)) (.seq (.block 1 (.seq (.reg Q92_3) (.seq (.reg Q92_4) (.cond (.t 19) (.seq (.reg Q92_5) .ret) .skip)))) (.reg Q92_6))))
@[go_sem] def Q92_8 : List TO := [Om 26 2,
  Om 27 0,
  Oa 28 (.iad 2 (.t 27) (Xk 0)),
  Of 29 0 28,
  Ol 30 29,
  Oa 31 (.bin .add (.t 26) (.t 30)),
  Om 6 31]
def t_Q92 : TF := ⟨32, [.t 6], (.seq (.reg Q92_0) (.seq (.seq (.reg Q92_1) (.block 0 (.loop Q92_7))) (.seq (.reg Q92_8) .ret)))⟩
/-! horarium/horariumref3.Size -/
@[go_sem] def Q93_0 : List TO := [Oa 4 (.mv (Xk 0))]
@[go_sem] def Q93_1 : List TO := [Om 7 1,
  Oa 8 (.bin .lss (.t 7) (Xk 0)),
  Om 9 8,
  ⟨(some 10), .mv (.t 1), some (9, false)⟩,
  ⟨(some 11), .mv (.t 0), some (9, false)⟩,
  ⟨(some 12), .len (.t 11), some (9, false)⟩,
  ⟨(some 13), .bin .geq (.t 10) (.t 12), some (9, false)⟩,
  Oa 14 (.pick (.t 9) (.c (.b true)) (.t 13))]
@[go_sem] def Q93_2 : List TO := [Oa 4 (.mv (Xk 0))]
@[go_sem] def Q93_3 : List TO := [Oa 5 (.mv (Xk 1))]
@[go_sem] def Q93_4 : List TO := [Om 15 1,
  Om 6 15]
@[go_sem] def Q93_5 : List TO := [Om 16 6,
  Om 17 0,
  Oa 18 (.len (.t 17)),
  Oa 19 (.bin .lss (.t 16) (.t 18))]
@[go_sem] def Q93_6 : List TO := [Om 22 0,
  Om 23 6,
  Oa 24 (.iad 3 (.t 22) (.t 23)),
  Oa 25 (.load 3 true (.t 24)),
  Oa 26 (.call (.fn i_Q100) [(.t 25)]),
  Oa 27 (.un .not (.t 26))]
@[go_sem] def Q93_7 : List TO := [Oa 4 (.mv (Xk 0))]
@[go_sem] def Q93_8 : List TO := [Om 28 5,
  Oa 29 (.bin .sub (.t 28) (Xk 1)),
  Om 5 29]
@[go_sem] def Q93_9 : List TO := [Om 30 0,
  Om 31 6,
  Oa 32 (.iad 3 (.t 30) (.t 31)),
  Of 33 0 32,
  Ol 34 33,
  Oa 35 (.bin .eql (.t 34) (Xk 3))]
@[go_sem] def Q93_10 : List TO := [Om 36 5,
  Om 37 0,
  Om 38 6,
  Oa 39 (.iad 3 (.t 37) (.t 38)),
  Of 40 2 39,
  Ol 41 40,
  Oa 42 (.bin .add (.t 36) (.t 41)),
  Om 5 42]
@[go_sem] def Q93_11 : List TO := [Om 43 0,
  Om 44 6,
  Oa 45 (.iad 3 (.t 43) (.t 44)),
  Of 46 0 45,
  Ol 47 46,
  Oa 48 (.bin .eql (.t 47) (Xk 4))]
@[go_sem] def Q93_12 : List TO := [Om 49 5,
  Oa 50 (.bin .add (.t 49) (Xk 1)),
  Om 5 50]
@[go_sem] def Q93_13 : List TO := [Om 51 5,
  Oa 52 (.bin .eql (.t 51) (Xk 0))]
@[go_sem] def Q93_14 : List TO := [Om 53 6,
  Om 54 1,
  Oa 55 (.bin .sub (.t 53) (.t 54)),
  Oa 56 (.bin .add (.t 55) (Xk 1)),
  Om 4 56]
@[go_sem] def Q93_15 : List TO := [Om 20 6,
  Oa 21 (.bin .add (.t 20) (Xk 1)),
  Om 6 21]
def Q93_16 : TC := (.seq (.seq (.reg Q93_5) (.cond (.t 19) .skip (.exit 0))) (.seq (.block 1 (.seq (.seq (.reg Q93_6) (.cond (.t 27) (.seq (.reg Q93_7) .ret) .skip)) (.seq (.reg Q93_8) (.seq (.seq (.reg Q93_9) (.cond (.t 35) (.reg Q93_10) .skip)) (.seq (.seq (.reg Q93_11) (.cond (.t 48) (.reg Q93_12) .skip)) (.seq (.reg Q93_13) (.cond (.t 52) (.seq (.reg Q93_14) .ret) .skip))))))) (.reg Q93_15)))
@[go_sem] def Q93_17 : List TO := [Oa 4 (.mv (Xk 0))]
def t_Q93 : TF := ⟨57, [.t 4], (.seq (.reg Q93_0) (.seq (.seq (.reg Q93_1) (.cond (.t 14) (.seq (.reg Q93_2) .ret) .skip)) (.seq (.reg Q93_3) (.seq (.seq (.reg Q93_4) (.block 0 (.loop Q93_16))) (.seq (.reg Q93_17) .ret)))))⟩
/-! horarium/horariumref3.depth -/
@[go_sem] def Q94_0 : List TO := [Oa 4 (.mv (Xk 0))]
@[go_sem] def Q94_1 : List TO := [Oa 5 (.mv (Xk 0))]
@[go_sem] def Q94_2 : List TO := [Om 8 0,
  Om 9 1,
  Oa 10 (.call (.fn i_Q96) [(.t 8), (.t 9)]),
  Oa 11 (.len (.t 10)),
  Oa 12 (.mv (Xk 0))]
@[go_sem] def Q94_3 : List TO := [Oa 13 (.bin .lss (.t 12) (.t 11))]
@[go_sem] def Q94_4 : List TO := [Oa 14 (.iad 1 (.t 10) (.t 12)),
  Ol 15 14,
  Om 7 15]
@[go_sem] def Q94_5 : List TO := [Om 16 5,
  Om 17 0,
  Om 18 7,
  Oa 19 (.call (.fn i_Q94) [(.t 17), (.t 18)]),
  Oa 20 (.mx [(.t 16), (.t 19)]),
  Om 5 20]
@[go_sem] def Q94_6 : List TO := [Oa 21 (.bin .add (.t 12) (Xk 1)),
  Om 12 21]
def Q94_7 : TC := (.seq (.reg Q94_3) (.seq (.cond (.t 13) .skip (.exit 0)) (.seq (.block 1 (.seq (.reg Q94_4) (.reg Q94_5))) (.reg Q94_6))))
@[go_sem] def Q94_8 : List TO := [Om 22 5,
  Oa 23 (.bin .add (.t 22) (Xk 1)),
  Om 4 23]
def t_Q94 : TF := ⟨24, [.t 4], (.seq (.reg Q94_0) (.seq (.reg Q94_1) (.seq (.seq (.reg Q94_2) (.block 0 (.loop Q94_7))) (.seq (.reg Q94_8) .ret))))⟩
/-! horarium/horariumref3.length -/
@[go_sem] def Q95_0 : List TO := [Oa 4 (.mv (Xk 0))]
@[go_sem] def Q95_1 : List TO := [Oa 5 (.mv (Xk 0))]
@[go_sem] def Q95_2 : List TO := [Om 8 0,
  Om 9 1,
  Oa 10 (.call (.fn i_Q96) [(.t 8), (.t 9)]),
  Oa 11 (.len (.t 10)),
  Oa 12 (.mv (Xk 0))]
@[go_sem] def Q95_3 : List TO := [Oa 13 (.bin .lss (.t 12) (.t 11))]
@[go_sem] def Q95_4 : List TO := [Oa 14 (.iad 1 (.t 10) (.t 12)),
  Ol 15 14,
  Om 7 15]
@[go_sem] def Q95_5 : List TO := [Om 16 5,
  Om 17 0,
  Om 18 7,
  Oa 19 (.call (.fn i_Q95) [(.t 17), (.t 18)]),
  Oa 20 (.bin .add (.t 16) (.t 19)),
  Oa 21 (.mn [(.t 20), (Xk 4097)]),
  Om 5 21]
@[go_sem] def Q95_6 : List TO := [Oa 22 (.bin .add (.t 12) (Xk 1)),
  Om 12 22]
def Q95_7 : TC := (.seq (.reg Q95_3) (.seq (.cond (.t 13) .skip (.exit 0)) (.seq (.block 1 (.seq (.reg Q95_4) (.reg Q95_5))) (.reg Q95_6))))
@[go_sem] def Q95_8 : List TO := [Om 23 0,
  Om 24 1,
  Oa 25 (.iad 3 (.t 23) (.t 24)),
  Of 26 0 25,
  Ol 27 26]
@[go_sem] def Q95_9 : List TO := [Oa 29 (.bin .eql (.t 27) (Xk 3)),
  Om 28 29]
@[go_sem] def Q95_10 : List TO := [Om 30 5,
  Om 4 30]
@[go_sem] def Q95_11 : List TO := [Oa 32 (.bin .eql (.t 27) (Xk 4)),
  Om 31 32]
@[go_sem] def Q95_12 : List TO := [Om 33 5,
  Om 34 0,
  Om 35 1,
  Oa 36 (.iad 3 (.t 34) (.t 35)),
  Of 37 2 36,
  Ol 38 37,
  Oa 39 (.mn [(.t 38), (Xk 4097)]),
  Oa 40 (.bin .mul (.t 33) (.t 39)),
  Oa 41 (.mn [(.t 40), (Xk 4097)]),
  Om 4 41]
@[go_sem] def Q95_13 : List TO := [Om 42 0,
  Om 43 1,
  Oa 44 (.iad 3 (.t 42) (.t 43)),
  Of 45 2 44,
  Ol 46 45,
  Oa 47 (.mn [(.t 46), (Xk 4097)]),
  Om 4 47]
def t_Q95 : TF := ⟨48, [.t 4], (.seq (.reg Q95_0) (.seq (.reg Q95_1) (.seq (.seq (.reg Q95_2) (.block 0 (.loop Q95_7))) (.seq (.seq (.reg Q95_8) (.block 2 (.seq (.reg Q95_9) (.cond (.t 28) (.seq (.reg Q95_10) .ret) (.seq (.reg Q95_11) (.cond (.t 31) (.seq (.reg Q95_12) .ret) .skip)))))) (.seq (.reg Q95_13) .ret)))))⟩
/-! horarium/horariumref3.Kids -/
@[go_sem] def Q96_0 : List TO := [Oa 4 (.mv (.c .ns))]
@[go_sem] def Q96_1 : List TO := [Om 8 0,
  Om 9 1,
  Oa 10 (.call (.fn i_Q93) [(.t 8), (.t 9)]),
  Om 5 10]
@[go_sem] def Q96_2 : List TO := [Oa 6 (.mv (.c .ns))]
@[go_sem] def Q96_3 : List TO := [Om 11 1,
  Oa 12 (.bin .add (.t 11) (Xk 1)),
  Om 7 12]
@[go_sem] def Q96_4 : List TO := [Om 13 7,
  Om 14 1,
  Om 15 5,
  Oa 16 (.bin .add (.t 14) (.t 15)),
  Oa 17 (.bin .lss (.t 13) (.t 16))]
@[go_sem] def Q96_5 : List TO := [Om 23 6,
  Om 24 7,
  Oa 25 (.bsl 1 [(.i .i64 0)] 1 [(0, (.t 24))]),
  Oa 26 (.app 1 (.t 23) (.t 25)),
  Om 6 26]
@[go_sem] def Q96_6 : List TO := [Om 18 7,
  Om 19 0,
  Om 20 7,
  Oa 21 (.call (.fn i_Q93) [(.t 19), (.t 20)]),
  Oa 22 (.bin .add (.t 18) (.t 21)),
  Om 7 22]
def Q96_7 : TC := (.seq (.seq (.reg Q96_4) (.cond (.t 17) .skip (.exit 0))) (.seq (.block 1 (.reg Q96_5)) (.reg Q96_6)))
@[go_sem] def Q96_8 : List TO := [Om 27 6,
  Om 4 27]
def t_Q96 : TF := ⟨28, [.t 4], (.seq (.reg Q96_0) (.seq (.reg Q96_1) (.seq (.reg Q96_2) (.seq (.seq (.reg Q96_3) (.block 0 (.loop Q96_7))) (.seq (.reg Q96_8) .ret)))))⟩
/-! horarium/node.measure -/
@[go_sem] def Q97_0 : List TO := [Oa 2 (.mv (Xk 0)),
  Oa 3 (.mv (Xk 0))]
@[go_sem] def Q97_1 : List TO := [Oa 10 (.build [(.i .i64 0), (.i .i64 0), (.i .i64 0), (.i .i64 0), (.i .i64 0), (.i .i64 0)] [(3, 1, (Xk 1))]),
  Oa 11 (.bsl 6 [(.i .i64 0), (.i .i64 0), (.i .i64 0), (.i .i64 0), (.i .i64 0), (.i .i64 0)] 1 [(0, (.t 10))]),
  Om 4 11]
@[go_sem] def Q97_2 : List TO := [Om 12 0,
  Oa 13 (.len (.t 12)),
  Oa 14 (.mv (Xk 0))]
@[go_sem] def Q97_3 : List TO := [Oa 15 (.bin .lss (.t 14) (.t 13))]
@[go_sem] def Q97_4 : List TO := [Oa 16 (.iad 3 (.t 12) (.t 14)),
  Oa 17 (.load 3 true (.t 16)),
  Oa 6 (.alloc [(.i .i64 0), (.i .i64 0), (.i .i64 0)]),
  On (.store 3 (.t 6) (.t 17))]
@[go_sem] def Q97_5 : List (Bool × List TO) := [(true, [Om 18 4,
  Oa 19 (.load 3 true (.t 6)),
  Oa 20 (.load 3 true (.t 6)),
  Oa 21 (.call (.fn i_Q101) [(.t 20)]),
  Oa 22 (.build [(.i .i64 0), (.i .i64 0), (.i .i64 0), (.i .i64 0), (.i .i64 0), (.i .i64 0)] [(0, 3, (.t 19)), (3, 1, (.t 21))]),
  Oa 23 (.bsl 6 [(.i .i64 0), (.i .i64 0), (.i .i64 0), (.i .i64 0), (.i .i64 0), (.i .i64 0)] 1 [(0, (.t 22))])]), (false, [Oa 24 (.app 6 (.t 18) (.t 23))]), (true, [Om 4 24])]
@[go_sem] def Q97_6 : List TO := [Om 25 4,
  Oa 26 (.len (.t 25)),
  Oa 27 (.bin .sub (.t 26) (Xk 1)),
  Om 7 27]
@[go_sem] def Q97_7 : List TO := [Om 28 4,
  Om 29 7,
  Oa 30 (.iad 6 (.t 28) (.t 29)),
  Of 31 3 30,
  Ol 32 31,
  Oa 33 (.bin .eql (.t 32) (Xk 0))]
@[go_sem] def Q97_8 : List TO := [Om 34 4,
  Om 35 7,
  Of 36 2 6,
  Ol 37 36,
  Oa 38 (.mn [(Xk 4097), (.t 37)]),
  Oa 39 (.iad 6 (.t 34) (.t 35)),
  Of 40 5 39,
  On (.store 1 (.t 40) (.t 38))]
@[go_sem] def Q97_9 : List TO := [Om 41 4,
  Oa 42 (.len (.t 41)),
  Oa 43 (.bin .gtr (.t 42) (Xk 1)),
  Om 44 43,
  ⟨(some 45), .mv (.t 4), some (44, true)⟩,
  ⟨(some 46), .mv (.t 4), some (44, true)⟩,
  ⟨(some 47), .len (.t 46), some (44, true)⟩,
  ⟨(some 48), .bin .sub (.t 47) (Xk 1), some (44, true)⟩,
  ⟨(some 49), .iad 6 (.t 45) (.t 48), some (44, true)⟩,
  ⟨(some 50), .fad 3 (.t 49), some (44, true)⟩,
  ⟨(some 51), .load 1 false (.t 50), some (44, true)⟩,
  ⟨(some 52), .bin .eql (.t 51) (Xk 0), some (44, true)⟩,
  Oa 53 (.pick (.t 44) (.t 52) (.c (.b false)))]
@[go_sem] def Q97_10 : List (Bool × List TO) := [(true, [Om 54 4,
  Om 55 4,
  Oa 56 (.len (.t 55)),
  Oa 57 (.bin .sub (.t 56) (Xk 1)),
  Oa 58 (.iad 6 (.t 54) (.t 57)),
  Oa 59 (.load 6 true (.t 58)),
  Om 60 4,
  Om 61 4,
  Oa 62 (.len (.t 61)),
  Oa 63 (.bin .sub (.t 62) (Xk 2)),
  Oa 64 (.iad 6 (.t 60) (.t 63)),
  Oa 8 (.alloc [(.i .i64 0), (.i .i64 0), (.i .i64 0), (.i .i64 0), (.i .i64 0), (.i .i64 0)])]), (false, [On (.store 6 (.t 8) (.t 59))]), (true, [Om 9 64])]
@[go_sem] def Q97_11 : List TO := [Om 65 4,
  Om 66 4,
  Oa 67 (.len (.t 66)),
  Oa 68 (.bin .sub (.t 67) (Xk 1)),
  Oa 69 (.slice 6 (.t 65) none (some (.t 68)) none),
  Om 4 69]
@[go_sem] def Q97_12 : List TO := [Of 70 0 8,
  Of 71 0 70,
  Ol 72 71,
  Oa 73 (.bin .eql (.t 72) (Xk 4))]
@[go_sem] def Q97_13 : List TO := [Of 74 0 8,
  Of 75 2 74,
  Ol 76 75,
  Of 77 5 8,
  Ol 78 77,
  Oa 79 (.call (.fn i_Q102) [(.t 76), (.t 78)]),
  Of 80 5 8,
  On (.store 1 (.t 80) (.t 79))]
@[go_sem] def Q97_14 : List TO := [Om 81 9,
  Oa 82 (.nck (.t 81)),
  Of 83 3 82,
  Ol 84 83,
  Oa 85 (.bin .sub (.t 84) (Xk 1)),
  Oa 86 (.nck (.t 81)),
  Of 87 3 86,
  On (.store 1 (.t 87) (.t 85))]
@[go_sem] def Q97_15 : List (Bool × List TO) := [(true, [Om 88 9,
  Om 89 9,
  Oa 90 (.nck (.t 89)),
  Of 91 4 90,
  Ol 92 91,
  Of 93 4 8,
  Ol 94 93,
  Oa 95 (.bin .add (.t 94) (Xk 1)),
  Oa 96 (.mx [(.t 92), (.t 95)]),
  Oa 97 (.nck (.t 88)),
  Of 98 4 97]), (false, [On (.store 1 (.t 98) (.t 96))])]
@[go_sem] def Q97_16 : List (Bool × List TO) := [(true, [Om 99 9,
  Om 100 9,
  Oa 101 (.nck (.t 100)),
  Of 102 5 101,
  Ol 103 102,
  Of 104 5 8,
  Ol 105 104,
  Oa 106 (.call (.fn i_Q103) [(.t 103), (.t 105)]),
  Oa 107 (.nck (.t 99)),
  Of 108 5 107]), (false, [On (.store 1 (.t 108) (.t 106))])]
def Q97_17 : TC := (.seq (.seq (.reg Q97_9) (.cond (.t 53) .skip (.exit 2))) (.block 3 (.seq (.dreg Q97_10) (.seq (.reg Q97_11) (.seq (.seq (.reg Q97_12) (.cond (.t 73) (.reg Q97_13) .skip)) (.seq (.reg Q97_14) (.seq (.dreg Q97_15) (.dreg Q97_16))))))))
@[go_sem] def Q97_18 : List TO := [Oa 109 (.bin .add (.t 14) (Xk 1)),
  Om 14 109]
def Q97_19 : TC := (.seq (.reg Q97_3) (.seq (.cond (.t 15) .skip (.exit 0)) (.seq (.block 1 (.seq (.reg Q97_4) (.seq (.dreg Q97_5) (.seq (.seq (.reg Q97_6) (.seq (.reg Q97_7) (.cond (.t 33) (.reg Q97_8) .skip))) (.block 2 (.loop Q97_17)))))) (.reg Q97_18))))
@[go_sem] def Q97_20 : List (Bool × List TO) := [(true, [Om 110 4,
  Oa 111 (.iad 6 (.t 110) (Xk 0)),
  Of 112 4 111,
  Ol 113 112,
  Om 114 4,
  Oa 115 (.iad 6 (.t 114) (Xk 0)),
  Of 116 5 115,
  Ol 117 116,
  Om 2 113,
  Om 3 117])]
def t_Q97 : TF := ⟨118, [.t 2, .t 3], (.seq (.reg Q97_0) (.seq (.reg Q97_1) (.seq (.seq (.reg Q97_2) (.block 0 (.loop Q97_19))) (.seq (.dreg Q97_20) .ret))))⟩
/-! horarium/node.Size -/
@[go_sem] def Q98_0 : List TO := [Oa 4 (.mv (Xk 0))]
@[go_sem] def Q98_1 : List TO := [Om 8 1,
  Oa 9 (.bin .lss (.t 8) (Xk 0)),
  Om 10 9,
  ⟨(some 11), .mv (.t 1), some (10, false)⟩,
  ⟨(some 12), .mv (.t 0), some (10, false)⟩,
  ⟨(some 13), .len (.t 12), some (10, false)⟩,
  ⟨(some 14), .bin .geq (.t 11) (.t 13), some (10, false)⟩,
  Oa 15 (.pick (.t 10) (.c (.b true)) (.t 14))]
@[go_sem] def Q98_2 : List TO := [Oa 4 (.mv (Xk 0))]
@[go_sem] def Q98_3 : List TO := [Oa 5 (.mv (Xk 1))]
@[go_sem] def Q98_4 : List TO := [Om 16 1,
  Om 6 16]
@[go_sem] def Q98_5 : List TO := [Om 17 6,
  Om 18 0,
  Oa 19 (.len (.t 18)),
  Oa 20 (.bin .lss (.t 17) (.t 19))]
@[go_sem] def Q98_6 : List TO := [Om 23 0,
  Om 24 6,
  Oa 25 (.iad 3 (.t 23) (.t 24)),
  Oa 26 (.load 3 true (.t 25)),
  Oa 27 (.call (.fn i_Q101) [(.t 26)]),
  Om 7 27]
@[go_sem] def Q98_7 : List TO := [Om 28 7,
  Oa 29 (.bin .lss (.t 28) (Xk 0))]
@[go_sem] def Q98_8 : List TO := [Oa 4 (.mv (Xk 0))]
@[go_sem] def Q98_9 : List TO := [Om 30 5,
  Om 31 7,
  Oa 32 (.bin .sub (.t 31) (Xk 1)),
  Oa 33 (.bin .add (.t 30) (.t 32)),
  Om 5 33]
@[go_sem] def Q98_10 : List TO := [Om 34 5,
  Oa 35 (.bin .eql (.t 34) (Xk 0))]
@[go_sem] def Q98_11 : List TO := [Om 36 6,
  Oa 37 (.bin .add (.t 36) (Xk 1)),
  Om 38 1,
  Oa 39 (.bin .sub (.t 37) (.t 38)),
  Om 4 39]
@[go_sem] def Q98_12 : List TO := [Om 21 6,
  Oa 22 (.bin .add (.t 21) (Xk 1)),
  Om 6 22]
def Q98_13 : TC := (.seq (.seq (.reg Q98_5) (.cond (.t 20) .skip (.exit 0))) (.seq (.block 1 (.seq (.reg Q98_6) (.seq (.seq (.reg Q98_7) (.cond (.t 29) (.seq (.reg Q98_8) .ret) .skip)) (.seq (.reg Q98_9) (.seq (.reg Q98_10) (.cond (.t 35) (.seq (.reg Q98_11) .ret) .skip)))))) (.reg Q98_12)))
@[go_sem] def Q98_14 : List TO := [Oa 4 (.mv (Xk 0))]
def t_Q98 : TF := ⟨40, [.t 4], (.seq (.reg Q98_0) (.seq (.seq (.reg Q98_1) (.cond (.t 15) (.seq (.reg Q98_2) .ret) .skip)) (.seq (.reg Q98_3) (.seq (.seq (.reg Q98_4) (.block 0 (.loop Q98_13))) (.seq (.reg Q98_14) .ret)))))⟩
/-! (*horarium/cursor.Cursor).down -/
@[go_sem] def Q99_0 : List TO := [Om 4 0,
  Oa 5 (.nck (.t 4)),
  Of 6 0 5,
  Ol 7 6,
  Om 8 1,
  Oa 9 (.iad 3 (.t 7) (.t 8)),
  Of 10 0 9,
  Ol 11 10,
  Oa 12 (.bin .eql (.t 11) (Xk 3)),
  Om 13 12,
  ⟨(some 14), .mv (.t 0), some (13, false)⟩,
  ⟨(some 15), .nck (.t 14), some (13, false)⟩,
  ⟨(some 16), .fad 0 (.t 15), some (13, false)⟩,
  ⟨(some 17), .load 1 false (.t 16), some (13, false)⟩,
  ⟨(some 18), .mv (.t 1), some (13, false)⟩,
  ⟨(some 19), .iad 3 (.t 17) (.t 18), some (13, false)⟩,
  ⟨(some 20), .fad 0 (.t 19), some (13, false)⟩,
  ⟨(some 21), .load 1 false (.t 20), some (13, false)⟩,
  ⟨(some 22), .bin .eql (.t 21) (Xk 4), some (13, false)⟩,
  Oa 23 (.pick (.t 13) (.c (.b true)) (.t 22))]
@[go_sem] def Q99_1 : List (Bool × List TO) := [(true, [Om 24 0,
  Om 25 0,
  Oa 26 (.nck (.t 25)),
  Of 27 1 26,
  Ol 28 27,
  Om 29 1,
  Om 30 0,
  Oa 31 (.nck (.t 30)),
  Of 32 0 31,
  Ol 33 32,
  Om 34 1,
  Oa 35 (.iad 3 (.t 33) (.t 34)),
  Of 36 2 35,
  Ol 37 36,
  Oa 38 (.build [(.i .i64 0), (.i .i64 0)] [(0, 1, (.t 29)), (1, 1, (.t 37))]),
  Oa 39 (.bsl 2 [(.i .i64 0), (.i .i64 0)] 1 [(0, (.t 38))])]), (false, [Oa 40 (.app 2 (.t 28) (.t 39))]), (true, [Oa 41 (.nck (.t 24)),
  Of 42 1 41]), (false, [On (.store 1 (.t 42) (.t 40))])]
@[go_sem] def Q99_2 : List TO := [Om 43 1,
  Oa 44 (.bin .add (.t 43) (Xk 1)),
  Om 1 44]
def Q99_3 : TC := (.seq (.seq (.reg Q99_0) (.cond (.t 23) .skip (.exit 0))) (.block 1 (.seq (.dreg Q99_1) (.reg Q99_2))))
@[go_sem] def Q99_4 : List TO := [Om 45 0,
  Om 46 1,
  Oa 47 (.nck (.t 45)),
  Of 48 2 47,
  On (.store 1 (.t 48) (.t 46))]
def t_Q99 : TF := ⟨49, [], (.seq (.block 0 (.loop Q99_3)) (.reg Q99_4))⟩
/-! horarium/horariumref3.fine -/
@[go_sem] def Q100_0 : List TO := [Oa 1 (.box (.t 0)),
  Oa 2 (.mv (.c (.b false)))]
@[go_sem] def Q100_1 : List TO := [Of 3 0 1,
  Ol 4 3]
@[go_sem] def Q100_2 : List TO := [Oa 6 (.bin .eql (.t 4) (Xk 1)),
  Om 5 6]
@[go_sem] def Q100_3 : List TO := [Of 7 1 1,
  Ol 8 7,
  Oa 9 (.bin .geq (.t 8) (Xk 0)),
  Om 10 9,
  ⟨(some 11), .fad 1 (.t 1), some (10, true)⟩,
  ⟨(some 12), .load 1 false (.t 11), some (10, true)⟩,
  ⟨(some 13), .bin .lss (.t 12) (Xk 6), some (10, true)⟩,
  Oa 14 (.pick (.t 10) (.t 13) (.c (.b false))),
  Om 15 14,
  ⟨(some 16), .fad 2 (.t 1), some (15, true)⟩,
  ⟨(some 17), .load 1 false (.t 16), some (15, true)⟩,
  ⟨(some 18), .bin .geq (.t 17) (Xk 1), some (15, true)⟩,
  Oa 19 (.pick (.t 15) (.t 18) (.c (.b false))),
  Om 2 19]
@[go_sem] def Q100_4 : List TO := [Oa 21 (.bin .eql (.t 4) (Xk 2)),
  Om 20 21]
@[go_sem] def Q100_5 : List TO := [Oa 22 (.bin .eql (.t 4) (Xk 4)),
  Om 20 22]
@[go_sem] def Q100_6 : List TO := [Of 23 1 1,
  Ol 24 23,
  Oa 25 (.bin .eql (.t 24) (Xk 0)),
  Om 26 25,
  ⟨(some 27), .fad 2 (.t 1), some (26, true)⟩,
  ⟨(some 28), .load 1 false (.t 27), some (26, true)⟩,
  ⟨(some 29), .bin .geq (.t 28) (Xk 1), some (26, true)⟩,
  Oa 30 (.pick (.t 26) (.t 29) (.c (.b false))),
  Om 2 30]
@[go_sem] def Q100_7 : List TO := [Oa 32 (.bin .eql (.t 4) (Xk 3)),
  Om 31 32]
@[go_sem] def Q100_8 : List TO := [Of 33 1 1,
  Ol 34 33,
  Oa 35 (.bin .eql (.t 34) (Xk 0)),
  Om 36 35,
  ⟨(some 37), .fad 2 (.t 1), some (36, true)⟩,
  ⟨(some 38), .load 1 false (.t 37), some (36, true)⟩,
  ⟨(some 39), .bin .geq (.t 38) (Xk 1), some (36, true)⟩,
  Oa 40 (.pick (.t 36) (.t 39) (.c (.b false))),
  Om 41 40,
  ⟨(some 42), .fad 2 (.t 1), some (41, true)⟩,
  ⟨(some 43), .load 1 false (.t 42), some (41, true)⟩,
  ⟨(some 44), .bin .leq (.t 43) (Xk 128), some (41, true)⟩,
  Oa 45 (.pick (.t 41) (.t 44) (.c (.b false))),
  Om 2 45]
@[go_sem] def Q100_9 : List TO := [Oa 2 (.mv (.c (.b false)))]
def t_Q100 : TF := ⟨46, [.t 2], (.seq (.reg Q100_0) (.seq (.seq (.reg Q100_1) (.block 0 (.seq (.reg Q100_2) (.cond (.t 5) (.seq (.reg Q100_3) .ret) (.seq (.seq (.reg Q100_4) (.cond (.t 20) .skip (.reg Q100_5))) (.cond (.t 20) (.seq (.reg Q100_6) .ret) (.seq (.reg Q100_7) (.cond (.t 31) (.seq (.reg Q100_8) .ret) .skip)))))))) (.seq (.reg Q100_9) .ret)))⟩
/-! horarium/node.kids -/
@[go_sem] def Q101_0 : List TO := [Oa 1 (.box (.t 0)),
  Oa 2 (.mv (Xk 0))]
@[go_sem] def Q101_1 : List TO := [Of 4 2 1,
  Ol 5 4,
  Oa 6 (.bin .lss (.t 5) (Xk 1)),
  Om 7 6,
  ⟨(some 8), .fad 0 (.t 1), some (7, false)⟩,
  ⟨(some 9), .load 1 false (.t 8), some (7, false)⟩,
  ⟨(some 10), .bin .neq (.t 9) (Xk 1), some (7, false)⟩,
  ⟨(some 11), .mv (.t 10), some (7, false)⟩,
  ⟨(some 12), .fad 1 (.t 1), some (11, true)⟩,
  ⟨(some 13), .load 1 false (.t 12), some (11, true)⟩,
  ⟨(some 14), .bin .neq (.t 13) (Xk 0), some (11, true)⟩,
  ⟨(some 15), .pick (.t 11) (.t 14) (.c (.b false)), some (7, false)⟩,
  Oa 16 (.pick (.t 7) (.c (.b true)) (.t 15)),
  Om 3 16]
@[go_sem] def Q101_2 : List TO := [Oa 2 (.mv (Xk (-1)))]
@[go_sem] def Q101_3 : List TO := [Of 18 0 1,
  Ol 19 18,
  Oa 20 (.bin .eql (.t 19) (Xk 1)),
  Om 21 20,
  ⟨(some 22), .fad 1 (.t 1), some (21, true)⟩,
  ⟨(some 23), .load 1 false (.t 22), some (21, true)⟩,
  ⟨(some 24), .bin .geq (.t 23) (Xk 0), some (21, true)⟩,
  Oa 25 (.pick (.t 21) (.t 24) (.c (.b false))),
  Om 26 25,
  ⟨(some 27), .fad 1 (.t 1), some (26, true)⟩,
  ⟨(some 28), .load 1 false (.t 27), some (26, true)⟩,
  ⟨(some 29), .bin .lss (.t 28) (Xk 6), some (26, true)⟩,
  Oa 30 (.pick (.t 26) (.t 29) (.c (.b false))),
  Om 17 30]
@[go_sem] def Q101_4 : List TO := [Of 31 0 1,
  Ol 32 31,
  Oa 33 (.bin .eql (.t 32) (Xk 2)),
  Om 17 33]
@[go_sem] def Q101_5 : List TO := [Oa 2 (.mv (Xk 0))]
@[go_sem] def Q101_6 : List TO := [Of 35 0 1,
  Ol 36 35,
  Oa 37 (.bin .eql (.t 36) (Xk 3)),
  Om 38 37,
  ⟨(some 39), .fad 2 (.t 1), some (38, true)⟩,
  ⟨(some 40), .load 1 false (.t 39), some (38, true)⟩,
  ⟨(some 41), .bin .leq (.t 40) (Xk 128), some (38, true)⟩,
  Oa 42 (.pick (.t 38) (.t 41) (.c (.b false))),
  Om 34 42]
@[go_sem] def Q101_7 : List TO := [Of 43 2 1,
  Ol 44 43,
  Om 2 44]
@[go_sem] def Q101_8 : List TO := [Of 46 0 1,
  Ol 47 46,
  Oa 48 (.bin .eql (.t 47) (Xk 4)),
  Om 45 48]
@[go_sem] def Q101_9 : List TO := [Oa 2 (.mv (Xk 1))]
@[go_sem] def Q101_10 : List TO := [Oa 2 (.mv (Xk (-1)))]
def t_Q101 : TF := ⟨49, [.t 2], (.seq (.reg Q101_0) (.seq (.block 0 (.seq (.reg Q101_1) (.cond (.t 3) (.seq (.reg Q101_2) .ret) (.seq (.seq (.reg Q101_3) (.cond (.t 17) .skip (.reg Q101_4))) (.cond (.t 17) (.seq (.reg Q101_5) .ret) (.seq (.reg Q101_6) (.cond (.t 34) (.seq (.reg Q101_7) .ret) (.seq (.reg Q101_8) (.cond (.t 45) (.seq (.reg Q101_9) .ret) .skip))))))))) (.seq (.reg Q101_10) .ret)))⟩
/-! horarium/node.times -/
@[go_sem] def Q102_0 : List TO := [Oa 4 (.mv (Xk 0))]
@[go_sem] def Q102_1 : List TO := [Om 5 0,
  Oa 6 (.mn [(Xk 4097), (.t 5)]),
  Om 7 1,
  Oa 8 (.bin .mul (.t 6) (.t 7)),
  Oa 9 (.mn [(Xk 4097), (.t 8)]),
  Om 4 9]
def t_Q102 : TF := ⟨10, [.t 4], (.seq (.reg Q102_0) (.seq (.reg Q102_1) .ret))⟩
/-! horarium/node.add -/
@[go_sem] def Q103_0 : List TO := [Oa 4 (.mv (Xk 0))]
@[go_sem] def Q103_1 : List TO := [Om 5 0,
  Om 6 1,
  Oa 7 (.mn [(Xk 4097), (.t 6)]),
  Oa 8 (.bin .add (.t 5) (.t 7)),
  Oa 9 (.mn [(Xk 4097), (.t 8)]),
  Om 4 9]
def t_Q103 : TF := ⟨10, [.t 4], (.seq (.reg Q103_0) (.seq (.reg Q103_1) .ret))⟩
def tpFn : Nat → Option TF
  | 3 => some t_Q0
  | 4 => some t_Q1
  | 5 => some t_Q2
  | 6 => some t_Q3
  | 7 => some t_Q4
  | 8 => some t_Q5
  | 9 => some t_Q6
  | 10 => some t_Q7
  | 11 => some t_Q8
  | 12 => some t_Q9
  | 13 => some t_Q10
  | 14 => some t_Q11
  | 15 => some t_Q12
  | 16 => some t_Q13
  | 17 => some t_Q14
  | 18 => some t_Q15
  | 19 => some t_Q16
  | 20 => some t_Q17
  | 21 => some t_Q18
  | 22 => some t_Q19
  | 23 => some t_Q20
  | 24 => some t_Q21
  | 25 => some t_Q22
  | 26 => some t_Q23
  | 27 => some t_Q24
  | 28 => some t_Q25
  | 29 => some t_Q26
  | 30 => some t_Q27
  | 31 => some t_Q28
  | 32 => some t_Q29
  | 33 => some t_Q30
  | 34 => some t_Q31
  | 35 => some t_Q32
  | 36 => some t_Q33
  | 37 => some t_Q34
  | 38 => some t_Q35
  | 39 => some t_Q36
  | 40 => some t_Q37
  | 41 => some t_Q38
  | 42 => some t_Q39
  | 43 => some t_Q40
  | 44 => some t_Q41
  | 45 => some t_Q42
  | 46 => some t_Q43
  | 47 => some t_Q44
  | 48 => some t_Q45
  | 49 => some t_Q46
  | 50 => some t_Q47
  | 51 => some t_Q48
  | 52 => some t_Q49
  | 53 => some t_Q50
  | 54 => some t_Q51
  | 55 => some t_Q52
  | 56 => some t_Q53
  | 57 => some t_Q54
  | 58 => some t_Q55
  | 59 => some t_Q56
  | 60 => some t_Q57
  | 61 => some t_Q58
  | 62 => some t_Q59
  | 63 => some t_Q60
  | 64 => some t_Q61
  | 65 => some t_Q62
  | 66 => some t_Q63
  | 67 => some t_Q64
  | 68 => some t_Q65
  | 69 => some t_Q66
  | 70 => some t_Q67
  | 71 => some t_Q68
  | 72 => some t_Q69
  | 73 => some t_Q70
  | 74 => some t_Q71
  | 75 => some t_Q72
  | 76 => some t_Q73
  | 77 => some t_Q74
  | 78 => some t_Q75
  | 79 => some t_Q76
  | 80 => some t_Q77
  | 81 => some t_Q78
  | 82 => some t_Q79
  | 83 => some t_Q80
  | 84 => some t_Q81
  | 85 => some t_Q82
  | 86 => some t_Q83
  | 87 => some t_Q84
  | 88 => some t_Q85
  | 89 => some t_Q86
  | 90 => some t_Q87
  | 91 => some t_Q88
  | 92 => some t_Q89
  | 93 => some t_Q90
  | 94 => some t_Q91
  | 95 => some t_Q92
  | 96 => some t_Q93
  | 97 => some t_Q94
  | 98 => some t_Q95
  | 99 => some t_Q96
  | 100 => some t_Q97
  | 101 => some t_Q98
  | 102 => some t_Q99
  | 103 => some t_Q100
  | 104 => some t_Q101
  | 105 => some t_Q102
  | 106 => some t_Q103
  | _ => none
def tpMeth : Nat → String → Option Meth := fun _ _ => none
def tp : TP := ⟨tpFn, tpMeth⟩
theorem fn_Q2 : tp.fn i_Q2 = some t_Q2 := rfl
theorem fn_Q6 : tp.fn i_Q6 = some t_Q6 := rfl
theorem fn_Q8 : tp.fn i_Q8 = some t_Q8 := rfl
theorem fn_Q10 : tp.fn i_Q10 = some t_Q10 := rfl
theorem fn_Q11 : tp.fn i_Q11 = some t_Q11 := rfl
theorem fn_Q12 : tp.fn i_Q12 = some t_Q12 := rfl
theorem fn_Q14 : tp.fn i_Q14 = some t_Q14 := rfl
theorem fn_Q16 : tp.fn i_Q16 = some t_Q16 := rfl
theorem fn_Q17 : tp.fn i_Q17 = some t_Q17 := rfl
theorem fn_Q18 : tp.fn i_Q18 = some t_Q18 := rfl
theorem fn_Q19 : tp.fn i_Q19 = some t_Q19 := rfl
theorem fn_Q20 : tp.fn i_Q20 = some t_Q20 := rfl
theorem fn_Q21 : tp.fn i_Q21 = some t_Q21 := rfl
theorem fn_Q22 : tp.fn i_Q22 = some t_Q22 := rfl
theorem fn_Q23 : tp.fn i_Q23 = some t_Q23 := rfl
theorem fn_Q24 : tp.fn i_Q24 = some t_Q24 := rfl
theorem fn_Q25 : tp.fn i_Q25 = some t_Q25 := rfl
theorem fn_Q26 : tp.fn i_Q26 = some t_Q26 := rfl
theorem fn_Q29 : tp.fn i_Q29 = some t_Q29 := rfl
theorem fn_Q30 : tp.fn i_Q30 = some t_Q30 := rfl
theorem fn_Q31 : tp.fn i_Q31 = some t_Q31 := rfl
theorem fn_Q32 : tp.fn i_Q32 = some t_Q32 := rfl
theorem fn_Q33 : tp.fn i_Q33 = some t_Q33 := rfl
theorem fn_Q34 : tp.fn i_Q34 = some t_Q34 := rfl
theorem fn_Q35 : tp.fn i_Q35 = some t_Q35 := rfl
theorem fn_Q36 : tp.fn i_Q36 = some t_Q36 := rfl
theorem fn_Q37 : tp.fn i_Q37 = some t_Q37 := rfl
theorem fn_Q38 : tp.fn i_Q38 = some t_Q38 := rfl
theorem fn_Q39 : tp.fn i_Q39 = some t_Q39 := rfl
theorem fn_Q40 : tp.fn i_Q40 = some t_Q40 := rfl
theorem fn_Q41 : tp.fn i_Q41 = some t_Q41 := rfl
theorem fn_Q42 : tp.fn i_Q42 = some t_Q42 := rfl
theorem fn_Q43 : tp.fn i_Q43 = some t_Q43 := rfl
theorem fn_Q44 : tp.fn i_Q44 = some t_Q44 := rfl
theorem fn_Q45 : tp.fn i_Q45 = some t_Q45 := rfl
theorem fn_Q46 : tp.fn i_Q46 = some t_Q46 := rfl
theorem fn_Q47 : tp.fn i_Q47 = some t_Q47 := rfl
theorem fn_Q48 : tp.fn i_Q48 = some t_Q48 := rfl
theorem fn_Q49 : tp.fn i_Q49 = some t_Q49 := rfl
theorem fn_Q50 : tp.fn i_Q50 = some t_Q50 := rfl
theorem fn_Q51 : tp.fn i_Q51 = some t_Q51 := rfl
theorem fn_Q52 : tp.fn i_Q52 = some t_Q52 := rfl
theorem fn_Q53 : tp.fn i_Q53 = some t_Q53 := rfl
theorem fn_Q54 : tp.fn i_Q54 = some t_Q54 := rfl
theorem fn_Q55 : tp.fn i_Q55 = some t_Q55 := rfl
theorem fn_Q57 : tp.fn i_Q57 = some t_Q57 := rfl
theorem fn_Q58 : tp.fn i_Q58 = some t_Q58 := rfl
theorem fn_Q59 : tp.fn i_Q59 = some t_Q59 := rfl
theorem fn_Q60 : tp.fn i_Q60 = some t_Q60 := rfl
theorem fn_Q61 : tp.fn i_Q61 = some t_Q61 := rfl
theorem fn_Q62 : tp.fn i_Q62 = some t_Q62 := rfl
theorem fn_Q63 : tp.fn i_Q63 = some t_Q63 := rfl
theorem fn_Q64 : tp.fn i_Q64 = some t_Q64 := rfl
theorem fn_Q65 : tp.fn i_Q65 = some t_Q65 := rfl
theorem fn_Q66 : tp.fn i_Q66 = some t_Q66 := rfl
theorem fn_Q67 : tp.fn i_Q67 = some t_Q67 := rfl
theorem fn_Q68 : tp.fn i_Q68 = some t_Q68 := rfl
theorem fn_Q69 : tp.fn i_Q69 = some t_Q69 := rfl
theorem fn_Q70 : tp.fn i_Q70 = some t_Q70 := rfl
theorem fn_Q71 : tp.fn i_Q71 = some t_Q71 := rfl
theorem fn_Q72 : tp.fn i_Q72 = some t_Q72 := rfl
theorem fn_Q73 : tp.fn i_Q73 = some t_Q73 := rfl
theorem fn_Q74 : tp.fn i_Q74 = some t_Q74 := rfl
theorem fn_Q75 : tp.fn i_Q75 = some t_Q75 := rfl
theorem fn_Q76 : tp.fn i_Q76 = some t_Q76 := rfl
theorem fn_Q77 : tp.fn i_Q77 = some t_Q77 := rfl
theorem fn_Q78 : tp.fn i_Q78 = some t_Q78 := rfl
theorem fn_Q79 : tp.fn i_Q79 = some t_Q79 := rfl
theorem fn_Q80 : tp.fn i_Q80 = some t_Q80 := rfl
theorem fn_Q81 : tp.fn i_Q81 = some t_Q81 := rfl
theorem fn_Q82 : tp.fn i_Q82 = some t_Q82 := rfl
theorem fn_Q83 : tp.fn i_Q83 = some t_Q83 := rfl
theorem fn_Q84 : tp.fn i_Q84 = some t_Q84 := rfl
theorem fn_Q85 : tp.fn i_Q85 = some t_Q85 := rfl
theorem fn_Q86 : tp.fn i_Q86 = some t_Q86 := rfl
theorem fn_Q87 : tp.fn i_Q87 = some t_Q87 := rfl
theorem fn_Q88 : tp.fn i_Q88 = some t_Q88 := rfl
theorem fn_Q89 : tp.fn i_Q89 = some t_Q89 := rfl
theorem fn_Q90 : tp.fn i_Q90 = some t_Q90 := rfl
theorem fn_Q91 : tp.fn i_Q91 = some t_Q91 := rfl
theorem fn_Q92 : tp.fn i_Q92 = some t_Q92 := rfl
theorem fn_Q93 : tp.fn i_Q93 = some t_Q93 := rfl
theorem fn_Q94 : tp.fn i_Q94 = some t_Q94 := rfl
theorem fn_Q95 : tp.fn i_Q95 = some t_Q95 := rfl
theorem fn_Q96 : tp.fn i_Q96 = some t_Q96 := rfl
theorem fn_Q97 : tp.fn i_Q97 = some t_Q97 := rfl
theorem fn_Q98 : tp.fn i_Q98 = some t_Q98 := rfl
theorem fn_Q99 : tp.fn i_Q99 = some t_Q99 := rfl
theorem fn_Q100 : tp.fn i_Q100 = some t_Q100 := rfl
theorem fn_Q101 : tp.fn i_Q101 = some t_Q101 := rfl
theorem fn_Q102 : tp.fn i_Q102 = some t_Q102 := rfl
theorem fn_Q103 : tp.fn i_Q103 = some t_Q103 := rfl
end Go.Ab.T
