/- Part of the proof that RunsTables returns true for every input of the second form's bound (no other condition). -/
import Derived.Test.YtemddmfgjijcmaaAbD
set_option linter.all false
/- The abstract machine's text of the functions. Written by a tool. -/
namespace Go.Ab.T
open Go Go.Ab
set_option linter.constructorNameAsVariable false

abbrev i_horariumlaw4_CursorNumbers : Nat := 3
abbrev i_horariumlaw4_CursorPlays : Nat := 4
abbrev i_horariumlaw4_CursorAgain : Nat := 5
abbrev i_horariumlaw4_CursorTicks : Nat := 6
abbrev i_horariumlaw5_RunsTidy : Nat := 7
abbrev i_horariumlaw5_RunsTables : Nat := 8
abbrev i_horariumlaw4_tape : Nat := 9
abbrev i_horariumkeep_Tape_Table : Nat := 10
abbrev i_horariumlaw4_play : Nat := 11
abbrev i_cursor_Part : Nat := 12
abbrev i_horariumlaw4_known : Nat := 13
abbrev i_horariumbook_Within : Nat := 14
abbrev i_horariumref3_Length : Nat := 15
abbrev i_horariumref3_Right : Nat := 16
abbrev i_horariumref3_At : Nat := 17
abbrev i_horariumlaw4_leaves : Nat := 18
abbrev i_cursor_New : Nat := 19
abbrev i_cursor_Cursor_Tick : Nat := 20
abbrev i_cursor_Cursor_Reset : Nat := 21
abbrev i_cursor_Cursor_Next : Nat := 22
abbrev i_cursor_Cursor_At : Nat := 23
abbrev i_horariumkeep_Tape_Runs : Nat := 24
abbrev i_runs_Tidy : Nat := 25
abbrev i_runs_Ticks : Nat := 26
abbrev i_runs_Same : Nat := 27
abbrev i_runs_Length : Nat := 28
abbrev i_runs_At : Nat := 29
abbrev i_runs_Switches : Nat := 30
abbrev i_horariumlaw5_known : Nat := 31
abbrev i_runs_Of : Nat := 32
abbrev i_horariumref3_Of : Nat := 33
abbrev i_runs_Right : Nat := 34
abbrev i_horariumkeep_Tape_Next : Nat := 35
abbrev i_horariumref3_Depth : Nat := 36
abbrev i_horariumref3_length : Nat := 37
abbrev i_horariumref3_Leaves : Nat := 38
abbrev i_node_Right : Nat := 39
abbrev i_slices_Clone_api_Node_api_Node : Nat := 40
abbrev i_cursor_part : Nat := 41
abbrev i_cursor_Cursor_step : Nat := 42
abbrev i_cursor_Cursor_down : Nat := 43
abbrev i_runs_Add : Nat := 44
abbrev i_slices_Clip_api_Run_api_Run : Nat := 45
abbrev i_slices_Equal_api_Run_api_Run : Nat := 46
abbrev i_horariumref3_Tidy : Nat := 47
abbrev i_runs_part : Nat := 48
abbrev i_horariumref3_Size : Nat := 49
abbrev i_horariumref3_depth : Nat := 50
abbrev i_horariumref3_Kids : Nat := 51
abbrev i_horariumref3_leaves : Nat := 52
abbrev i_node_Length : Nat := 53
abbrev i_node_whole : Nat := 54
abbrev i_node_Depth : Nat := 55
abbrev i_horariumref3_Sum : Nat := 56
abbrev i_horariumref3_fine : Nat := 57
abbrev i_node_measure : Nat := 58
abbrev i_node_Size : Nat := 59
abbrev i_node_kids : Nat := 60
abbrev i_node_times : Nat := 61
abbrev i_node_add : Nat := 62
def wrs : List Nat := []

/-! horarium/horariumlaw4.CursorNumbers -/
def horariumlaw4_CursorNumbers_0 : List TO := [⟨(some 0), .mv (.c (.b false)), none⟩]
def horariumlaw4_CursorNumbers_1 : List TO := [⟨(some 1), .mv (.c (.i .i64 0)), none⟩]
def horariumlaw4_CursorNumbers_2 : List TO := [⟨(some 3), .mv (.t 1), none⟩,
  ⟨(some 4), .bin .lss (.t 3) (.c (.i .i64 40)), none⟩]
def horariumlaw4_CursorNumbers_3 : List TO := [⟨(some 7), .mv (.t 1), none⟩,
  ⟨(some 8), .call (.fn i_horariumlaw4_tape) [(.t 7)], none⟩,
  ⟨(some 9), .build [.ns, (.i .i64 0)] [(0, 1, (.t 8))], none⟩,
  ⟨(some 10), .box (.t 9), none⟩,
  ⟨(some 11), .mv (.t 1), none⟩,
  ⟨(some 12), .bin .rem (.t 11) (.c (.i .i64 5)), none⟩,
  ⟨(some 13), .call (.fn i_horariumkeep_Tape_Table) [(.t 10), (.c (.i .i64 3)), (.t 12)], none⟩,
  ⟨(some 2), .mv (.t 13), none⟩]
def horariumlaw4_CursorNumbers_4 : List TO := [⟨(some 14), .mv (.t 2), none⟩,
  ⟨(some 15), .call (.fn i_horariumlaw4_play) [(.t 14), (.c .ns)], none⟩,
  ⟨(some 16), .un .not (.t 15), none⟩,
  ⟨(some 17), .mv (.t 16), none⟩,
  ⟨(some 18), .mv (.t 2), some (17, false)⟩,
  ⟨(some 19), .mksl [(.i .i64 0)] (.c (.i .i64 300)) (.c (.i .i64 300)), some (17, false)⟩,
  ⟨(some 20), .call (.fn i_horariumlaw4_play) [(.t 18), (.t 19)], some (17, false)⟩,
  ⟨(some 21), .un .not (.t 20), some (17, false)⟩,
  ⟨(some 22), .pick (.t 17) (.c (.b true)) (.t 21), none⟩,
  ⟨(some 23), .mv (.t 22), none⟩,
  ⟨(some 24), .mv (.t 2), some (23, false)⟩,
  ⟨(some 25), .bsl 1 [(.i .i64 0)] 8 [(0, (.c (.i .i64 0))), (1, (.c (.i .i64 1))), (2, (.c (.i .i64 1))), (3, (.c (.i .i64 0))), (4, (.c (.i .i64 2))), (5, (.c (.i .i64 0))), (6, (.c (.i .i64 0))), (7, (.c (.i .i64 1)))], some (23, false)⟩,
  ⟨(some 26), .call (.fn i_horariumlaw4_play) [(.t 24), (.t 25)], some (23, false)⟩,
  ⟨(some 27), .un .not (.t 26), some (23, false)⟩,
  ⟨(some 28), .pick (.t 23) (.c (.b true)) (.t 27), none⟩]
def horariumlaw4_CursorNumbers_5 : List TO := [⟨(some 0), .mv (.c (.b false)), none⟩]
def horariumlaw4_CursorNumbers_6 : List TO := [⟨(some 5), .mv (.t 1), none⟩,
  ⟨(some 6), .bin .add (.t 5) (.c (.i .i64 1)), none⟩,
  ⟨(some 1), .mv (.t 6), none⟩]
def horariumlaw4_CursorNumbers_7 : TC := (.seq (.seq (.reg horariumlaw4_CursorNumbers_2) (.cond (.t 4) .skip (.exit 0))) (.seq (.block 1 (.seq (.reg horariumlaw4_CursorNumbers_3) (.seq (.reg horariumlaw4_CursorNumbers_4) (.cond (.t 28) (.seq (.reg horariumlaw4_CursorNumbers_5) .ret) .skip)))) (.reg horariumlaw4_CursorNumbers_6)))
def horariumlaw4_CursorNumbers_8 : List TO := [⟨(some 29), .build [(.i .i64 0), (.i .i64 0), (.i .i64 0)] [(0, 1, (.c (.i .i64 3))), (2, 1, (.c (.i .i64 1)))], none⟩,
  ⟨(some 30), .bsl 3 [(.i .i64 0), (.i .i64 0), (.i .i64 0)] 1 [(0, (.t 29))], none⟩,
  ⟨(some 31), .call (.fn i_horariumlaw4_play) [(.t 30), (.c .ns)], none⟩,
  ⟨(some 32), .mv (.t 31), none⟩,
  ⟨(some 33), .build [(.i .i64 0), (.i .i64 0), (.i .i64 0)] [(0, 1, (.c (.i .i64 1))), (1, 1, (.c (.i .i64 3))), (2, 1, (.c (.i .i64 2)))], some (32, true)⟩,
  ⟨(some 34), .bsl 3 [(.i .i64 0), (.i .i64 0), (.i .i64 0)] 1 [(0, (.t 33))], some (32, true)⟩,
  ⟨(some 35), .call (.fn i_cursor_Part) [(.t 34), (.c (.i .i64 2))], some (32, true)⟩,
  ⟨(some 36), .bin .eql (.t 35) (.c (.i .i64 (-1))), some (32, true)⟩,
  ⟨(some 37), .pick (.t 32) (.t 36) (.c (.b false)), none⟩,
  ⟨(some 38), .mv (.t 37), none⟩,
  ⟨(some 39), .build [(.i .i64 0), (.i .i64 0), (.i .i64 0)] [(0, 1, (.c (.i .i64 1))), (1, 1, (.c (.i .i64 3))), (2, 1, (.c (.i .i64 2)))], some (38, true)⟩,
  ⟨(some 40), .bsl 3 [(.i .i64 0), (.i .i64 0), (.i .i64 0)] 1 [(0, (.t 39))], some (38, true)⟩,
  ⟨(some 41), .call (.fn i_cursor_Part) [(.t 40), (.c (.i .i64 (-1)))], some (38, true)⟩,
  ⟨(some 42), .bin .eql (.t 41) (.c (.i .i64 (-1))), some (38, true)⟩,
  ⟨(some 43), .pick (.t 38) (.t 42) (.c (.b false)), none⟩,
  ⟨(some 44), .mv (.t 43), none⟩,
  ⟨(some 45), .call (.fn i_horariumlaw4_known) [], some (44, true)⟩,
  ⟨(some 46), .pick (.t 44) (.t 45) (.c (.b false)), none⟩,
  ⟨(some 0), .mv (.t 46), none⟩]
def t_horariumlaw4_CursorNumbers : TF := ⟨47, [.t 0], (.seq (.reg horariumlaw4_CursorNumbers_0) (.seq (.seq (.reg horariumlaw4_CursorNumbers_1) (.block 0 (.loop horariumlaw4_CursorNumbers_7))) (.seq (.reg horariumlaw4_CursorNumbers_8) .ret)))⟩

/-! horarium/horariumlaw4.CursorPlays -/
def horariumlaw4_CursorPlays_0 : List TO := [⟨(some 10), .mv (.c (.b false)), none⟩]
def horariumlaw4_CursorPlays_1 : List TO := [⟨(some 15), .mv (.t 0), none⟩,
  ⟨(some 16), .build [.ns, (.i .i64 0)] [(0, 1, (.t 15))], none⟩,
  ⟨(some 17), .box (.t 16), none⟩,
  ⟨(some 18), .mv (.t 1), none⟩,
  ⟨(some 19), .call (.fn i_horariumbook_Within) [(.t 18), (.c (.i .i64 0)), (.c (.i .i64 4))], none⟩,
  ⟨(some 20), .call (.fn i_horariumkeep_Tape_Table) [(.t 17), (.c (.i .i64 4)), (.t 19)], none⟩,
  ⟨(some 11), .mv (.t 20), none⟩]
def horariumlaw4_CursorPlays_2 : List TO := [⟨(some 22), .mv (.t 11), none⟩,
  ⟨(some 23), .call (.fn i_horariumref3_Length) [(.t 22)], none⟩,
  ⟨(some 21), .mv (.t 23), none⟩,
  ⟨(some 24), .ext (.t 21) 0, none⟩,
  ⟨(some 25), .ext (.t 21) 1, none⟩,
  ⟨(some 12), .mv (.t 24), none⟩,
  ⟨(some 13), .mv (.t 25), none⟩]
def horariumlaw4_CursorPlays_3 : List TO := [⟨(some 26), .mv (.t 11), none⟩,
  ⟨(some 27), .mv (.t 4), none⟩,
  ⟨(some 28), .call (.fn i_cursor_Part) [(.t 26), (.t 27)], none⟩,
  ⟨(some 14), .mv (.t 28), none⟩]
def horariumlaw4_CursorPlays_4 : List TO := [⟨(some 29), .mv (.t 13), none⟩,
  ⟨(some 30), .un .not (.t 29), none⟩,
  ⟨(some 31), .mv (.t 30), none⟩,
  ⟨(some 32), .mv (.t 4), some (31, false)⟩,
  ⟨(some 33), .bin .lss (.t 32) (.c (.i .i64 0)), some (31, false)⟩,
  ⟨(some 34), .pick (.t 31) (.c (.b true)) (.t 33), none⟩,
  ⟨(some 35), .mv (.t 34), none⟩,
  ⟨(some 36), .mv (.t 4), some (35, false)⟩,
  ⟨(some 37), .mv (.t 12), some (35, false)⟩,
  ⟨(some 38), .bin .geq (.t 36) (.t 37), some (35, false)⟩,
  ⟨(some 39), .pick (.t 35) (.c (.b true)) (.t 38), none⟩,
  ⟨(some 40), .mv (.t 39), none⟩,
  ⟨(some 41), .mv (.t 11), some (40, false)⟩,
  ⟨(some 42), .call (.fn i_horariumref3_Right) [(.t 41)], some (40, false)⟩,
  ⟨(some 43), .bin .neq (.t 42) (.c (.i .i64 0)), some (40, false)⟩,
  ⟨(some 44), .pick (.t 40) (.c (.b true)) (.t 43), none⟩]
def horariumlaw4_CursorPlays_5 : List TO := [⟨(some 45), .mv (.t 14), none⟩,
  ⟨(some 46), .bin .neq (.t 45) (.c (.i .i64 (-1))), none⟩]
def horariumlaw4_CursorPlays_6 : List TO := [⟨(some 10), .mv (.c (.b false)), none⟩]
def horariumlaw4_CursorPlays_7 : List TO := [⟨(some 47), .mv (.t 14), none⟩,
  ⟨(some 48), .mv (.t 11), none⟩,
  ⟨(some 49), .call (.fn i_horariumlaw4_leaves) [(.t 48)], none⟩,
  ⟨(some 50), .mv (.t 4), none⟩,
  ⟨(some 51), .call (.fn i_horariumref3_At) [(.t 49), (.t 50)], none⟩,
  ⟨(some 52), .bin .neq (.t 47) (.t 51), none⟩]
def horariumlaw4_CursorPlays_8 : List TO := [⟨(some 10), .mv (.c (.b false)), none⟩]
def horariumlaw4_CursorPlays_9 : List TO := [⟨(some 53), .mv (.t 11), none⟩,
  ⟨(some 54), .mv (.t 2), none⟩,
  ⟨(some 55), .call (.fn i_horariumlaw4_play) [(.t 53), (.t 54)], none⟩,
  ⟨(some 56), .mv (.t 55), none⟩,
  ⟨(some 57), .mv (.t 3), some (56, true)⟩,
  ⟨(some 58), .mv (.t 2), some (56, true)⟩,
  ⟨(some 59), .call (.fn i_horariumlaw4_play) [(.t 57), (.t 58)], some (56, true)⟩,
  ⟨(some 60), .pick (.t 56) (.t 59) (.c (.b false)), none⟩,
  ⟨(some 61), .mv (.t 60), none⟩,
  ⟨(some 62), .call (.fn i_horariumlaw4_known) [], some (61, true)⟩,
  ⟨(some 63), .pick (.t 61) (.t 62) (.c (.b false)), none⟩,
  ⟨(some 10), .mv (.t 63), none⟩]
def t_horariumlaw4_CursorPlays : TF := ⟨64, [.t 10], (.seq (.reg horariumlaw4_CursorPlays_0) (.seq (.reg horariumlaw4_CursorPlays_1) (.seq (.reg horariumlaw4_CursorPlays_2) (.seq (.reg horariumlaw4_CursorPlays_3) (.seq (.seq (.reg horariumlaw4_CursorPlays_4) (.cond (.t 44) (.seq (.reg horariumlaw4_CursorPlays_5) (.cond (.t 46) (.seq (.reg horariumlaw4_CursorPlays_6) .ret) .skip)) (.seq (.reg horariumlaw4_CursorPlays_7) (.cond (.t 52) (.seq (.reg horariumlaw4_CursorPlays_8) .ret) .skip)))) (.seq (.reg horariumlaw4_CursorPlays_9) .ret))))))⟩

/-! horarium/horariumlaw4.CursorAgain -/
def horariumlaw4_CursorAgain_0 : List TO := [⟨(some 6), .mv (.c (.b false)), none⟩]
def horariumlaw4_CursorAgain_1 : List TO := [⟨(some 16), .mv (.t 0), none⟩,
  ⟨(some 17), .build [.ns, (.i .i64 0)] [(0, 1, (.t 16))], none⟩,
  ⟨(some 18), .box (.t 17), none⟩,
  ⟨(some 19), .mv (.t 1), none⟩,
  ⟨(some 20), .call (.fn i_horariumbook_Within) [(.t 19), (.c (.i .i64 0)), (.c (.i .i64 4))], none⟩,
  ⟨(some 21), .call (.fn i_horariumkeep_Tape_Table) [(.t 18), (.c (.i .i64 4)), (.t 20)], none⟩,
  ⟨(some 7), .mv (.t 21), none⟩]
def horariumlaw4_CursorAgain_2 : List TO := [⟨(some 22), .mv (.t 7), none⟩,
  ⟨(some 23), .call (.fn i_cursor_New) [(.t 22)], none⟩,
  ⟨(some 8), .mv (.t 23), none⟩]
def horariumlaw4_CursorAgain_3 : List TO := [⟨(some 24), .mv (.t 8), none⟩,
  ⟨(some 25), .eq false .ptr (.t 24) (.c .np), none⟩]
def horariumlaw4_CursorAgain_4 : List TO := [⟨(some 26), .mv (.t 7), none⟩,
  ⟨(some 27), .call (.fn i_horariumref3_Right) [(.t 26)], none⟩,
  ⟨(some 28), .bin .neq (.t 27) (.c (.i .i64 0)), none⟩,
  ⟨(some 29), .mv (.t 28), none⟩,
  ⟨(some 30), .call (.fn i_horariumlaw4_known) [], some (29, true)⟩,
  ⟨(some 31), .pick (.t 29) (.t 30) (.c (.b false)), none⟩,
  ⟨(some 6), .mv (.t 31), none⟩]
def horariumlaw4_CursorAgain_5 : List TO := [⟨(some 9), .mv (.c (.i .i64 0)), none⟩]
def horariumlaw4_CursorAgain_6 : List TO := [⟨(some 32), .mv (.t 9), none⟩,
  ⟨(some 33), .mv (.t 2), none⟩,
  ⟨(some 34), .call (.fn i_horariumbook_Within) [(.t 33), (.c (.i .i64 0)), (.c (.i .i64 50))], none⟩,
  ⟨(some 35), .bin .lss (.t 32) (.t 34), none⟩]
def horariumlaw4_CursorAgain_7 : List TO := [⟨(some 38), .mv (.t 8), none⟩,
  ⟨(some 39), .call (.fn i_cursor_Cursor_Tick) [(.t 38)], none⟩]
def horariumlaw4_CursorAgain_8 : List TO := [⟨(some 36), .mv (.t 9), none⟩,
  ⟨(some 37), .bin .add (.t 36) (.c (.i .i64 1)), none⟩,
  ⟨(some 9), .mv (.t 37), none⟩]
def horariumlaw4_CursorAgain_9 : TC := (.seq (.seq (.reg horariumlaw4_CursorAgain_6) (.cond (.t 35) .skip (.exit 0))) (.seq (.block 1 (.reg horariumlaw4_CursorAgain_7)) (.reg horariumlaw4_CursorAgain_8)))
def horariumlaw4_CursorAgain_10 : List TO := [⟨(some 40), .mv (.t 8), none⟩,
  ⟨(some 41), .call (.fn i_cursor_Cursor_Reset) [(.t 40)], none⟩]
def horariumlaw4_CursorAgain_11 : List TO := [⟨(some 10), .mv (.c (.i .i64 0)), none⟩]
def horariumlaw4_CursorAgain_12 : List TO := [⟨(some 11), .mv (.c (.i .i64 0)), none⟩]
def horariumlaw4_CursorAgain_13 : List TO := [⟨(some 42), .mv (.t 11), none⟩,
  ⟨(some 43), .bin .leq (.t 42) (.c (.i .i64 4096)), none⟩]
def horariumlaw4_CursorAgain_14 : List TO := [⟨(some 47), .mv (.t 8), none⟩,
  ⟨(some 48), .call (.fn i_cursor_Cursor_Next) [(.t 47)], none⟩,
  ⟨(some 46), .mv (.t 48), none⟩,
  ⟨(some 49), .ext (.t 46) 0, none⟩,
  ⟨(some 50), .ext (.t 46) 1, none⟩,
  ⟨(some 12), .alloc [(.i .i64 0), (.i .i64 0)], none⟩,
  ⟨none, .store 2 (.t 12) (.t 49), none⟩,
  ⟨(some 13), .mv (.t 50), none⟩]
def horariumlaw4_CursorAgain_15 : List TO := [⟨(some 51), .mv (.t 13), none⟩,
  ⟨(some 52), .un .not (.t 51), none⟩]
def horariumlaw4_CursorAgain_16 : List TO := [⟨(some 54), .mv (.t 7), none⟩,
  ⟨(some 55), .call (.fn i_horariumref3_Length) [(.t 54)], none⟩,
  ⟨(some 53), .mv (.t 55), none⟩,
  ⟨(some 56), .ext (.t 53) 0, none⟩,
  ⟨(some 57), .ext (.t 53) 1, none⟩,
  ⟨(some 14), .mv (.t 56), none⟩,
  ⟨(some 15), .mv (.t 57), none⟩]
def horariumlaw4_CursorAgain_17 : List TO := [⟨(some 58), .mv (.t 15), none⟩,
  ⟨(some 59), .mv (.t 58), none⟩,
  ⟨(some 60), .mv (.t 10), some (59, true)⟩,
  ⟨(some 61), .mv (.t 14), some (59, true)⟩,
  ⟨(some 62), .bin .eql (.t 60) (.t 61), some (59, true)⟩,
  ⟨(some 63), .pick (.t 59) (.t 62) (.c (.b false)), none⟩,
  ⟨(some 64), .mv (.t 63), none⟩,
  ⟨(some 65), .mv (.t 8), some (64, true)⟩,
  ⟨(some 66), .call (.fn i_cursor_Cursor_At) [(.t 65)], some (64, true)⟩,
  ⟨(some 67), .mv (.t 14), some (64, true)⟩,
  ⟨(some 68), .bin .eql (.t 66) (.t 67), some (64, true)⟩,
  ⟨(some 69), .pick (.t 64) (.t 68) (.c (.b false)), none⟩,
  ⟨(some 70), .mv (.t 69), none⟩,
  ⟨(some 71), .call (.fn i_horariumlaw4_known) [], some (70, true)⟩,
  ⟨(some 72), .pick (.t 70) (.t 71) (.c (.b false)), none⟩,
  ⟨(some 6), .mv (.t 72), none⟩]
def horariumlaw4_CursorAgain_18 : List TO := [⟨(some 73), .mv (.t 10), none⟩,
  ⟨(some 74), .fad 1 (.t 12), none⟩,
  ⟨(some 75), .load 1 false (.t 74), none⟩,
  ⟨(some 76), .bin .add (.t 73) (.t 75), none⟩,
  ⟨(some 10), .mv (.t 76), none⟩]
def horariumlaw4_CursorAgain_19 : List TO := [⟨(some 44), .mv (.t 11), none⟩,
  ⟨(some 45), .bin .add (.t 44) (.c (.i .i64 1)), none⟩,
  ⟨(some 11), .mv (.t 45), none⟩]
def horariumlaw4_CursorAgain_20 : TC := (.seq (.seq (.reg horariumlaw4_CursorAgain_13) (.cond (.t 43) .skip (.exit 2))) (.seq (.block 3 (.seq (.reg horariumlaw4_CursorAgain_14) (.seq (.seq (.reg horariumlaw4_CursorAgain_15) (.cond (.t 52) (.seq (.reg horariumlaw4_CursorAgain_16) (.seq (.reg horariumlaw4_CursorAgain_17) .ret)) .skip)) (.reg horariumlaw4_CursorAgain_18)))) (.reg horariumlaw4_CursorAgain_19)))
def horariumlaw4_CursorAgain_21 : List TO := [⟨(some 6), .mv (.c (.b false)), none⟩]
def t_horariumlaw4_CursorAgain : TF := ⟨77, [.t 6], (.seq (.reg horariumlaw4_CursorAgain_0) (.seq (.reg horariumlaw4_CursorAgain_1) (.seq (.reg horariumlaw4_CursorAgain_2) (.seq (.seq (.reg horariumlaw4_CursorAgain_3) (.cond (.t 25) (.seq (.reg horariumlaw4_CursorAgain_4) .ret) .skip)) (.seq (.seq (.reg horariumlaw4_CursorAgain_5) (.block 0 (.loop horariumlaw4_CursorAgain_9))) (.seq (.reg horariumlaw4_CursorAgain_10) (.seq (.reg horariumlaw4_CursorAgain_11) (.seq (.seq (.reg horariumlaw4_CursorAgain_12) (.block 2 (.loop horariumlaw4_CursorAgain_20))) (.seq (.reg horariumlaw4_CursorAgain_21) .ret)))))))))⟩

/-! horarium/horariumlaw4.CursorTicks -/
def horariumlaw4_CursorTicks_0 : List TO := [⟨(some 4), .mv (.c (.b false)), none⟩]
def horariumlaw4_CursorTicks_1 : List TO := [⟨(some 12), .mv (.t 0), none⟩,
  ⟨(some 13), .build [.ns, (.i .i64 0)] [(0, 1, (.t 12))], none⟩,
  ⟨(some 14), .box (.t 13), none⟩,
  ⟨(some 15), .mv (.t 1), none⟩,
  ⟨(some 16), .call (.fn i_horariumbook_Within) [(.t 15), (.c (.i .i64 0)), (.c (.i .i64 4))], none⟩,
  ⟨(some 17), .call (.fn i_horariumkeep_Tape_Table) [(.t 14), (.c (.i .i64 4)), (.t 16)], none⟩,
  ⟨(some 5), .mv (.t 17), none⟩]
def horariumlaw4_CursorTicks_2 : List TO := [⟨(some 18), .mv (.t 5), none⟩,
  ⟨(some 19), .call (.fn i_cursor_New) [(.t 18)], none⟩,
  ⟨(some 6), .mv (.t 19), none⟩]
def horariumlaw4_CursorTicks_3 : List TO := [⟨(some 21), .mv (.t 5), none⟩,
  ⟨(some 22), .call (.fn i_horariumref3_Length) [(.t 21)], none⟩,
  ⟨(some 20), .mv (.t 22), none⟩,
  ⟨(some 23), .ext (.t 20) 0, none⟩,
  ⟨(some 24), .ext (.t 20) 1, none⟩,
  ⟨(some 7), .mv (.t 23), none⟩,
  ⟨(some 8), .mv (.t 24), none⟩]
def horariumlaw4_CursorTicks_4 : List TO := [⟨(some 25), .mv (.t 6), none⟩,
  ⟨(some 26), .eq false .ptr (.t 25) (.c .np), none⟩]
def horariumlaw4_CursorTicks_5 : List TO := [⟨(some 27), .mv (.t 5), none⟩,
  ⟨(some 28), .call (.fn i_horariumref3_Right) [(.t 27)], none⟩,
  ⟨(some 29), .bin .neq (.t 28) (.c (.i .i64 0)), none⟩,
  ⟨(some 30), .mv (.t 29), none⟩,
  ⟨(some 31), .call (.fn i_horariumlaw4_known) [], some (30, true)⟩,
  ⟨(some 32), .pick (.t 30) (.t 31) (.c (.b false)), none⟩,
  ⟨(some 4), .mv (.t 32), none⟩]
def horariumlaw4_CursorTicks_6 : List TO := [⟨(some 9), .mv (.c (.i .i64 0)), none⟩]
def horariumlaw4_CursorTicks_7 : List TO := [⟨(some 33), .mv (.t 9), none⟩,
  ⟨(some 34), .mv (.t 7), none⟩,
  ⟨(some 35), .bin .lss (.t 33) (.t 34), none⟩,
  ⟨(some 36), .mv (.t 35), none⟩,
  ⟨(some 37), .mv (.t 9), some (36, true)⟩,
  ⟨(some 38), .bin .lss (.t 37) (.c (.i .i64 200)), some (36, true)⟩,
  ⟨(some 39), .pick (.t 36) (.t 38) (.c (.b false)), none⟩]
def horariumlaw4_CursorTicks_8 : List TO := [⟨(some 43), .mv (.t 6), none⟩,
  ⟨(some 44), .call (.fn i_cursor_Cursor_Tick) [(.t 43)], none⟩,
  ⟨(some 42), .mv (.t 44), none⟩,
  ⟨(some 45), .ext (.t 42) 0, none⟩,
  ⟨(some 46), .ext (.t 42) 1, none⟩,
  ⟨(some 10), .mv (.t 45), none⟩,
  ⟨(some 11), .mv (.t 46), none⟩]
def horariumlaw4_CursorTicks_9 : List TO := [⟨(some 47), .mv (.t 11), none⟩,
  ⟨(some 48), .un .not (.t 47), none⟩,
  ⟨(some 49), .mv (.t 48), none⟩,
  ⟨(some 50), .mv (.t 10), some (49, false)⟩,
  ⟨(some 51), .mv (.t 5), some (49, false)⟩,
  ⟨(some 52), .mv (.t 9), some (49, false)⟩,
  ⟨(some 53), .call (.fn i_cursor_Part) [(.t 51), (.t 52)], some (49, false)⟩,
  ⟨(some 54), .bin .neq (.t 50) (.t 53), some (49, false)⟩,
  ⟨(some 55), .pick (.t 49) (.c (.b true)) (.t 54), none⟩,
  ⟨(some 56), .mv (.t 55), none⟩,
  ⟨(some 57), .mv (.t 6), some (56, false)⟩,
  ⟨(some 58), .call (.fn i_cursor_Cursor_At) [(.t 57)], some (56, false)⟩,
  ⟨(some 59), .mv (.t 9), some (56, false)⟩,
  ⟨(some 60), .bin .add (.t 59) (.c (.i .i64 1)), some (56, false)⟩,
  ⟨(some 61), .bin .neq (.t 58) (.t 60), some (56, false)⟩,
  ⟨(some 62), .pick (.t 56) (.c (.b true)) (.t 61), none⟩]
def horariumlaw4_CursorTicks_10 : List TO := [⟨(some 4), .mv (.c (.b false)), none⟩]
def horariumlaw4_CursorTicks_11 : List TO := [⟨(some 40), .mv (.t 9), none⟩,
  ⟨(some 41), .bin .add (.t 40) (.c (.i .i64 1)), none⟩,
  ⟨(some 9), .mv (.t 41), none⟩]
def horariumlaw4_CursorTicks_12 : TC := (.seq (.seq (.reg horariumlaw4_CursorTicks_7) (.cond (.t 39) .skip (.exit 0))) (.seq (.block 1 (.seq (.reg horariumlaw4_CursorTicks_8) (.seq (.reg horariumlaw4_CursorTicks_9) (.cond (.t 62) (.seq (.reg horariumlaw4_CursorTicks_10) .ret) .skip)))) (.reg horariumlaw4_CursorTicks_11)))
def horariumlaw4_CursorTicks_13 : List TO := [⟨(some 63), .mv (.t 8), none⟩,
  ⟨(some 64), .mv (.t 63), none⟩,
  ⟨(some 65), .mv (.t 5), some (64, true)⟩,
  ⟨(some 66), .mv (.t 7), some (64, true)⟩,
  ⟨(some 67), .call (.fn i_cursor_Part) [(.t 65), (.t 66)], some (64, true)⟩,
  ⟨(some 68), .bin .eql (.t 67) (.c (.i .i64 (-1))), some (64, true)⟩,
  ⟨(some 69), .pick (.t 64) (.t 68) (.c (.b false)), none⟩,
  ⟨(some 70), .mv (.t 69), none⟩,
  ⟨(some 71), .mv (.t 5), some (70, true)⟩,
  ⟨(some 72), .call (.fn i_cursor_Part) [(.t 71), (.c (.i .i64 (-1)))], some (70, true)⟩,
  ⟨(some 73), .bin .eql (.t 72) (.c (.i .i64 (-1))), some (70, true)⟩,
  ⟨(some 74), .pick (.t 70) (.t 73) (.c (.b false)), none⟩,
  ⟨(some 75), .mv (.t 74), none⟩,
  ⟨(some 76), .call (.fn i_horariumlaw4_known) [], some (75, true)⟩,
  ⟨(some 77), .pick (.t 75) (.t 76) (.c (.b false)), none⟩,
  ⟨(some 4), .mv (.t 77), none⟩]
def t_horariumlaw4_CursorTicks : TF := ⟨78, [.t 4], (.seq (.reg horariumlaw4_CursorTicks_0) (.seq (.reg horariumlaw4_CursorTicks_1) (.seq (.reg horariumlaw4_CursorTicks_2) (.seq (.reg horariumlaw4_CursorTicks_3) (.seq (.seq (.reg horariumlaw4_CursorTicks_4) (.cond (.t 26) (.seq (.reg horariumlaw4_CursorTicks_5) .ret) .skip)) (.seq (.seq (.reg horariumlaw4_CursorTicks_6) (.block 0 (.loop horariumlaw4_CursorTicks_12))) (.seq (.reg horariumlaw4_CursorTicks_13) .ret)))))))⟩

/-! horarium/horariumlaw5.RunsTidy -/
def horariumlaw5_RunsTidy_0 : List TO := [⟨(some 4), .mv (.c (.b false)), none⟩]
def horariumlaw5_RunsTidy_1 : List TO := [⟨(some 9), .mv (.t 0), none⟩,
  ⟨(some 10), .build [.ns, (.i .i64 0)] [(0, 1, (.t 9))], none⟩,
  ⟨(some 11), .box (.t 10), none⟩,
  ⟨(some 12), .call (.fn i_horariumkeep_Tape_Runs) [(.t 11), (.c (.i .i64 3)), (.c (.i .i64 40))], none⟩,
  ⟨(some 5), .mv (.t 12), none⟩]
def horariumlaw5_RunsTidy_2 : List TO := [⟨(some 13), .mv (.t 5), none⟩,
  ⟨(some 14), .call (.fn i_runs_Tidy) [(.t 13)], none⟩,
  ⟨(some 6), .mv (.t 14), none⟩]
def horariumlaw5_RunsTidy_3 : List TO := [⟨(some 15), .mv (.t 6), none⟩,
  ⟨(some 16), .len (.t 15), none⟩,
  ⟨(some 17), .mv (.c (.i .i64 0)), none⟩]
def horariumlaw5_RunsTidy_4 : List TO := [⟨(some 18), .bin .lss (.t 17) (.t 16), none⟩]
def horariumlaw5_RunsTidy_5 : List TO := [⟨(some 19), .mv (.t 17), none⟩,
  ⟨(some 7), .mv (.t 19), none⟩]
def horariumlaw5_RunsTidy_6 : List (Bool × List TO) := [(true, [⟨(some 20), .mv (.t 7), none⟩,
  ⟨(some 21), .bin .gtr (.t 20) (.c (.i .i64 0)), none⟩,
  ⟨(some 22), .mv (.t 21), none⟩,
  ⟨(some 23), .mv (.t 6), some (22, true)⟩,
  ⟨(some 24), .mv (.t 7), some (22, true)⟩,
  ⟨(some 25), .iad 2 (.t 23) (.t 24), some (22, true)⟩,
  ⟨(some 26), .fad 0 (.t 25), some (22, true)⟩,
  ⟨(some 27), .load 1 false (.t 26), some (22, true)⟩,
  ⟨(some 28), .mv (.t 6), some (22, true)⟩,
  ⟨(some 29), .mv (.t 7), some (22, true)⟩,
  ⟨(some 30), .bin .sub (.t 29) (.c (.i .i64 1)), some (22, true)⟩,
  ⟨(some 31), .iad 2 (.t 28) (.t 30), some (22, true)⟩,
  ⟨(some 32), .fad 0 (.t 31), some (22, true)⟩,
  ⟨(some 33), .load 1 false (.t 32), some (22, true)⟩,
  ⟨(some 34), .bin .eql (.t 27) (.t 33), some (22, true)⟩,
  ⟨(some 35), .pick (.t 22) (.t 34) (.c (.b false)), none⟩])]
def horariumlaw5_RunsTidy_7 : List TO := [⟨(some 4), .mv (.c (.b false)), none⟩]
def horariumlaw5_RunsTidy_8 : List TO := [⟨(some 36), .bin .add (.t 17) (.c (.i .i64 1)), none⟩,
  ⟨(some 17), .mv (.t 36), none⟩]
def horariumlaw5_RunsTidy_9 : TC := (.seq (.reg horariumlaw5_RunsTidy_4) (.seq (.cond (.t 18) .skip (.exit 0)) (.seq (.block 1 (.seq (.reg horariumlaw5_RunsTidy_5) (.seq (.dreg horariumlaw5_RunsTidy_6) (.cond (.t 35) (.seq (.reg horariumlaw5_RunsTidy_7) .ret) .skip)))) (.reg horariumlaw5_RunsTidy_8))))
def horariumlaw5_RunsTidy_10 : List TO := [⟨(some 8), .mv (.c (.i .i64 (-1))), none⟩]
def horariumlaw5_RunsTidy_11 : List TO := [⟨(some 37), .mv (.t 8), none⟩,
  ⟨(some 38), .bin .lss (.t 37) (.c (.i .i64 4)), none⟩]
def horariumlaw5_RunsTidy_12 : List TO := [⟨(some 41), .mv (.t 6), none⟩,
  ⟨(some 42), .mv (.t 8), none⟩,
  ⟨(some 43), .call (.fn i_runs_Ticks) [(.t 41), (.t 42)], none⟩,
  ⟨(some 44), .mv (.t 5), none⟩,
  ⟨(some 45), .mv (.t 8), none⟩,
  ⟨(some 46), .call (.fn i_runs_Ticks) [(.t 44), (.t 45)], none⟩,
  ⟨(some 47), .bin .neq (.t 43) (.t 46), none⟩]
def horariumlaw5_RunsTidy_13 : List TO := [⟨(some 4), .mv (.c (.b false)), none⟩]
def horariumlaw5_RunsTidy_14 : List TO := [⟨(some 39), .mv (.t 8), none⟩,
  ⟨(some 40), .bin .add (.t 39) (.c (.i .i64 1)), none⟩,
  ⟨(some 8), .mv (.t 40), none⟩]
def horariumlaw5_RunsTidy_15 : TC := (.seq (.seq (.reg horariumlaw5_RunsTidy_11) (.cond (.t 38) .skip (.exit 2))) (.seq (.block 3 (.seq (.reg horariumlaw5_RunsTidy_12) (.cond (.t 47) (.seq (.reg horariumlaw5_RunsTidy_13) .ret) .skip))) (.reg horariumlaw5_RunsTidy_14)))
def horariumlaw5_RunsTidy_16 : List TO := [⟨(some 48), .mv (.t 6), none⟩,
  ⟨(some 49), .call (.fn i_runs_Tidy) [(.t 48)], none⟩,
  ⟨(some 50), .mv (.t 6), none⟩,
  ⟨(some 51), .call (.fn i_runs_Same) [(.t 49), (.t 50)], none⟩,
  ⟨(some 52), .mv (.t 51), none⟩,
  ⟨(some 53), .mv (.t 6), some (52, true)⟩,
  ⟨(some 54), .call (.fn i_runs_Length) [(.t 53)], some (52, true)⟩,
  ⟨(some 55), .mv (.t 5), some (52, true)⟩,
  ⟨(some 56), .call (.fn i_runs_Length) [(.t 55)], some (52, true)⟩,
  ⟨(some 57), .bin .eql (.t 54) (.t 56), some (52, true)⟩,
  ⟨(some 58), .pick (.t 52) (.t 57) (.c (.b false)), none⟩,
  ⟨(some 59), .mv (.t 58), none⟩,
  ⟨(some 60), .mv (.t 6), some (59, true)⟩,
  ⟨(some 61), .mv (.t 1), some (59, true)⟩,
  ⟨(some 62), .bin .and (.t 61) (.c (.i .i64 127)), some (59, true)⟩,
  ⟨(some 63), .call (.fn i_runs_At) [(.t 60), (.t 62)], some (59, true)⟩,
  ⟨(some 64), .mv (.t 5), some (59, true)⟩,
  ⟨(some 65), .mv (.t 1), some (59, true)⟩,
  ⟨(some 66), .bin .and (.t 65) (.c (.i .i64 127)), some (59, true)⟩,
  ⟨(some 67), .call (.fn i_runs_At) [(.t 64), (.t 66)], some (59, true)⟩,
  ⟨(some 68), .bin .eql (.t 63) (.t 67), some (59, true)⟩,
  ⟨(some 69), .pick (.t 59) (.t 68) (.c (.b false)), none⟩,
  ⟨(some 70), .mv (.t 69), none⟩,
  ⟨(some 71), .mv (.t 6), some (70, true)⟩,
  ⟨(some 72), .call (.fn i_runs_Switches) [(.t 71)], some (70, true)⟩,
  ⟨(some 73), .mv (.t 6), some (70, true)⟩,
  ⟨(some 74), .len (.t 73), some (70, true)⟩,
  ⟨(some 75), .bin .leq (.t 72) (.t 74), some (70, true)⟩,
  ⟨(some 76), .pick (.t 70) (.t 75) (.c (.b false)), none⟩,
  ⟨(some 77), .mv (.t 76), none⟩,
  ⟨(some 78), .call (.fn i_horariumlaw5_known) [], some (77, true)⟩,
  ⟨(some 79), .pick (.t 77) (.t 78) (.c (.b false)), none⟩,
  ⟨(some 4), .mv (.t 79), none⟩]
def t_horariumlaw5_RunsTidy : TF := ⟨80, [.t 4], (.seq (.reg horariumlaw5_RunsTidy_0) (.seq (.reg horariumlaw5_RunsTidy_1) (.seq (.reg horariumlaw5_RunsTidy_2) (.seq (.seq (.reg horariumlaw5_RunsTidy_3) (.block 0 (.loop horariumlaw5_RunsTidy_9))) (.seq (.seq (.reg horariumlaw5_RunsTidy_10) (.block 2 (.loop horariumlaw5_RunsTidy_15))) (.seq (.reg horariumlaw5_RunsTidy_16) .ret))))))⟩

/-! horarium/horariumlaw5.RunsTables -/
def horariumlaw5_RunsTables_0 : List TO := [⟨(some 4), .mv (.c (.b false)), none⟩]
def horariumlaw5_RunsTables_1 : List TO := [⟨(some 14), .mv (.t 0), none⟩,
  ⟨(some 15), .build [.ns, (.i .i64 0)] [(0, 1, (.t 14))], none⟩,
  ⟨(some 16), .box (.t 15), none⟩,
  ⟨(some 17), .call (.fn i_horariumkeep_Tape_Table) [(.t 16), (.c (.i .i64 3)), (.c (.i .i64 3))], none⟩,
  ⟨(some 5), .mv (.t 17), none⟩]
def horariumlaw5_RunsTables_2 : List TO := [⟨(some 19), .mv (.t 5), none⟩,
  ⟨(some 20), .call (.fn i_runs_Of) [(.t 19)], none⟩,
  ⟨(some 18), .mv (.t 20), none⟩,
  ⟨(some 21), .ext (.t 18) 0, none⟩,
  ⟨(some 22), .ext (.t 18) 1, none⟩,
  ⟨(some 6), .mv (.t 21), none⟩,
  ⟨(some 7), .mv (.t 22), none⟩]
def horariumlaw5_RunsTables_3 : List TO := [⟨(some 23), .mv (.t 1), none⟩,
  ⟨(some 24), .bin .and (.t 23) (.c (.i .i64 3)), none⟩,
  ⟨(some 25), .bin .add (.c (.i .i64 1)) (.t 24), none⟩,
  ⟨(some 8), .mv (.t 25), none⟩]
def horariumlaw5_RunsTables_4 : List TO := [⟨(some 27), .mv (.t 8), none⟩,
  ⟨(some 28), .build [(.i .i64 0), (.i .i64 0), (.i .i64 0)] [(0, 1, (.c (.i .i64 4))), (2, 1, (.t 27))], none⟩,
  ⟨(some 29), .bsl 3 [(.i .i64 0), (.i .i64 0), (.i .i64 0)] 1 [(0, (.t 28))], none⟩,
  ⟨(some 30), .mv (.t 5), none⟩,
  ⟨(some 31), .app 3 (.t 29) (.t 30), none⟩,
  ⟨(some 32), .call (.fn i_runs_Of) [(.t 31)], none⟩,
  ⟨(some 26), .mv (.t 32), none⟩,
  ⟨(some 33), .ext (.t 26) 0, none⟩,
  ⟨(some 34), .ext (.t 26) 1, none⟩,
  ⟨(some 9), .mv (.t 33), none⟩,
  ⟨(some 10), .mv (.t 34), none⟩]
def horariumlaw5_RunsTables_5 : List TO := [⟨(some 36), .mv (.t 5), none⟩,
  ⟨(some 37), .call (.fn i_horariumref3_Of) [(.t 36)], none⟩,
  ⟨(some 35), .mv (.t 37), none⟩,
  ⟨(some 38), .ext (.t 35) 0, none⟩,
  ⟨(some 39), .ext (.t 35) 1, none⟩,
  ⟨(some 11), .mv (.t 38), none⟩,
  ⟨(some 12), .mv (.t 39), none⟩]
def horariumlaw5_RunsTables_6 : List TO := [⟨(some 40), .mv (.t 7), none⟩,
  ⟨(some 41), .bin .neq (.t 40) (.c (.i .i64 0)), none⟩]
def horariumlaw5_RunsTables_7 : List TO := [⟨(some 42), .mv (.t 12), none⟩,
  ⟨(some 43), .mv (.t 7), none⟩,
  ⟨(some 44), .bin .eql (.t 42) (.t 43), none⟩,
  ⟨(some 45), .mv (.t 44), none⟩,
  ⟨(some 46), .call (.fn i_horariumlaw5_known) [], some (45, true)⟩,
  ⟨(some 47), .pick (.t 45) (.t 46) (.c (.b false)), none⟩,
  ⟨(some 4), .mv (.t 47), none⟩]
def horariumlaw5_RunsTables_8 : List TO := [⟨(some 48), .mv (.t 10), none⟩,
  ⟨(some 49), .bin .neq (.t 48) (.c (.i .i64 0)), none⟩]
def horariumlaw5_RunsTables_9 : List TO := [⟨(some 50), .mv (.t 12), none⟩,
  ⟨(some 51), .bin .eql (.t 50) (.c (.i .i64 0)), none⟩,
  ⟨(some 52), .mv (.t 51), none⟩,
  ⟨(some 53), .mv (.t 6), some (52, true)⟩,
  ⟨(some 54), .call (.fn i_runs_Length) [(.t 53)], some (52, true)⟩,
  ⟨(some 55), .mv (.t 8), some (52, true)⟩,
  ⟨(some 56), .bin .mul (.t 54) (.t 55), some (52, true)⟩,
  ⟨(some 57), .bin .gtr (.t 56) (.c (.i .i64 4096)), some (52, true)⟩,
  ⟨(some 58), .mv (.t 57), some (52, true)⟩,
  ⟨(some 59), .mv (.t 6), some (58, false)⟩,
  ⟨(some 60), .len (.t 59), some (58, false)⟩,
  ⟨(some 61), .mv (.t 8), some (58, false)⟩,
  ⟨(some 62), .bin .mul (.t 60) (.t 61), some (58, false)⟩,
  ⟨(some 63), .bin .gtr (.t 62) (.c (.i .i64 96)), some (58, false)⟩,
  ⟨(some 64), .pick (.t 58) (.c (.b true)) (.t 63), some (52, true)⟩,
  ⟨(some 65), .mv (.t 64), some (52, true)⟩,
  ⟨(some 66), .mv (.t 5), some (65, false)⟩,
  ⟨(some 67), .len (.t 66), some (65, false)⟩,
  ⟨(some 68), .bin .geq (.t 67) (.c (.i .i64 128)), some (65, false)⟩,
  ⟨(some 69), .pick (.t 65) (.c (.b true)) (.t 68), some (52, true)⟩,
  ⟨(some 70), .pick (.t 52) (.t 69) (.c (.b false)), none⟩,
  ⟨(some 71), .mv (.t 70), none⟩,
  ⟨(some 72), .call (.fn i_horariumlaw5_known) [], some (71, true)⟩,
  ⟨(some 73), .pick (.t 71) (.t 72) (.c (.b false)), none⟩,
  ⟨(some 4), .mv (.t 73), none⟩]
def horariumlaw5_RunsTables_10 : List TO := [⟨(some 13), .mv (.c (.i .i64 (-1))), none⟩]
def horariumlaw5_RunsTables_11 : List TO := [⟨(some 74), .mv (.t 13), none⟩,
  ⟨(some 75), .bin .lss (.t 74) (.c (.i .i64 4)), none⟩]
def horariumlaw5_RunsTables_12 : List TO := [⟨(some 78), .mv (.t 9), none⟩,
  ⟨(some 79), .mv (.t 13), none⟩,
  ⟨(some 80), .call (.fn i_runs_Ticks) [(.t 78), (.t 79)], none⟩,
  ⟨(some 81), .mv (.t 8), none⟩,
  ⟨(some 82), .mv (.t 6), none⟩,
  ⟨(some 83), .mv (.t 13), none⟩,
  ⟨(some 84), .call (.fn i_runs_Ticks) [(.t 82), (.t 83)], none⟩,
  ⟨(some 85), .bin .mul (.t 81) (.t 84), none⟩,
  ⟨(some 86), .bin .neq (.t 80) (.t 85), none⟩]
def horariumlaw5_RunsTables_13 : List TO := [⟨(some 4), .mv (.c (.b false)), none⟩]
def horariumlaw5_RunsTables_14 : List TO := [⟨(some 76), .mv (.t 13), none⟩,
  ⟨(some 77), .bin .add (.t 76) (.c (.i .i64 1)), none⟩,
  ⟨(some 13), .mv (.t 77), none⟩]
def horariumlaw5_RunsTables_15 : TC := (.seq (.seq (.reg horariumlaw5_RunsTables_11) (.cond (.t 75) .skip (.exit 0))) (.seq (.block 1 (.seq (.reg horariumlaw5_RunsTables_12) (.cond (.t 86) (.seq (.reg horariumlaw5_RunsTables_13) .ret) .skip))) (.reg horariumlaw5_RunsTables_14)))
def horariumlaw5_RunsTables_16 : List TO := [⟨(some 87), .mv (.t 6), none⟩,
  ⟨(some 88), .call (.fn i_runs_Right) [(.t 87)], none⟩,
  ⟨(some 89), .mv (.t 88), none⟩,
  ⟨(some 90), .mv (.t 9), some (89, true)⟩,
  ⟨(some 91), .call (.fn i_runs_Length) [(.t 90)], some (89, true)⟩,
  ⟨(some 92), .mv (.t 8), some (89, true)⟩,
  ⟨(some 93), .mv (.t 6), some (89, true)⟩,
  ⟨(some 94), .call (.fn i_runs_Length) [(.t 93)], some (89, true)⟩,
  ⟨(some 95), .bin .mul (.t 92) (.t 94), some (89, true)⟩,
  ⟨(some 96), .bin .eql (.t 91) (.t 95), some (89, true)⟩,
  ⟨(some 97), .pick (.t 89) (.t 96) (.c (.b false)), none⟩,
  ⟨(some 98), .mv (.t 97), none⟩,
  ⟨(some 99), .call (.fn i_horariumlaw5_known) [], some (98, true)⟩,
  ⟨(some 100), .pick (.t 98) (.t 99) (.c (.b false)), none⟩,
  ⟨(some 4), .mv (.t 100), none⟩]
def t_horariumlaw5_RunsTables : TF := ⟨101, [.t 4], (.seq (.reg horariumlaw5_RunsTables_0) (.seq (.reg horariumlaw5_RunsTables_1) (.seq (.reg horariumlaw5_RunsTables_2) (.seq (.reg horariumlaw5_RunsTables_3) (.seq (.reg horariumlaw5_RunsTables_4) (.seq (.reg horariumlaw5_RunsTables_5) (.seq (.seq (.reg horariumlaw5_RunsTables_6) (.cond (.t 41) (.seq (.reg horariumlaw5_RunsTables_7) .ret) .skip)) (.seq (.seq (.reg horariumlaw5_RunsTables_8) (.cond (.t 49) (.seq (.reg horariumlaw5_RunsTables_9) .ret) .skip)) (.seq (.seq (.reg horariumlaw5_RunsTables_10) (.block 0 (.loop horariumlaw5_RunsTables_15))) (.seq (.reg horariumlaw5_RunsTables_16) .ret))))))))))⟩

/-! horarium/horariumlaw4.tape -/
def horariumlaw4_tape_0 : List TO := [⟨(some 2), .mv (.c .ns), none⟩]
def horariumlaw4_tape_1 : List TO := [⟨(some 3), .mv (.c .ns), none⟩]
def horariumlaw4_tape_2 : List TO := [⟨(some 4), .mv (.c (.i .i64 0)), none⟩]
def horariumlaw4_tape_3 : List TO := [⟨(some 5), .mv (.t 4), none⟩,
  ⟨(some 6), .bin .lss (.t 5) (.c (.i .i64 400)), none⟩]
def horariumlaw4_tape_4 : List TO := [⟨(some 9), .mv (.t 3), none⟩,
  ⟨(some 10), .mv (.t 4), none⟩,
  ⟨(some 11), .mv (.t 4), none⟩,
  ⟨(some 12), .bin .mul (.t 10) (.t 11), none⟩,
  ⟨(some 13), .bin .mul (.t 12) (.c (.i .i64 7)), none⟩,
  ⟨(some 14), .mv (.t 0), none⟩,
  ⟨(some 15), .bin .mul (.t 14) (.c (.i .i64 29)), none⟩,
  ⟨(some 16), .bin .add (.t 13) (.t 15), none⟩,
  ⟨(some 17), .mv (.t 4), none⟩,
  ⟨(some 18), .mv (.t 0), none⟩,
  ⟨(some 19), .bin .mul (.t 17) (.t 18), none⟩,
  ⟨(some 20), .bin .add (.t 16) (.t 19), none⟩,
  ⟨(some 21), .bin .rem (.t 20) (.c (.i .i64 211)), none⟩,
  ⟨(some 22), .bsl 1 [(.i .i64 0)] 1 [(0, (.t 21))], none⟩,
  ⟨(some 23), .app 1 (.t 9) (.t 22), none⟩,
  ⟨(some 3), .mv (.t 23), none⟩]
def horariumlaw4_tape_5 : List TO := [⟨(some 7), .mv (.t 4), none⟩,
  ⟨(some 8), .bin .add (.t 7) (.c (.i .i64 1)), none⟩,
  ⟨(some 4), .mv (.t 8), none⟩]
def horariumlaw4_tape_6 : TC := (.seq (.seq (.reg horariumlaw4_tape_3) (.cond (.t 6) .skip (.exit 0))) (.seq (.block 1 (.reg horariumlaw4_tape_4)) (.reg horariumlaw4_tape_5)))
def horariumlaw4_tape_7 : List TO := [⟨(some 24), .mv (.t 3), none⟩,
  ⟨(some 2), .mv (.t 24), none⟩]
def t_horariumlaw4_tape : TF := ⟨25, [.t 2], (.seq (.reg horariumlaw4_tape_0) (.seq (.reg horariumlaw4_tape_1) (.seq (.seq (.reg horariumlaw4_tape_2) (.block 0 (.loop horariumlaw4_tape_6))) (.seq (.reg horariumlaw4_tape_7) .ret))))⟩

/-! (*horarium/horariumkeep.Tape).Table -/
def horariumkeep_Tape_Table_0 : List TO := [⟨(some 6), .mv (.c .ns), none⟩]
def horariumkeep_Tape_Table_1 : List TO := [⟨(some 11), .mv (.t 0), none⟩,
  ⟨(some 12), .call (.fn i_horariumkeep_Tape_Next) [(.t 11), (.c (.i .i64 7))], none⟩,
  ⟨(some 7), .mv (.t 12), none⟩]
def horariumkeep_Tape_Table_2 : List TO := [⟨(some 13), .mv (.t 2), none⟩,
  ⟨(some 14), .bin .lss (.t 13) (.c (.i .i64 1)), none⟩,
  ⟨(some 15), .mv (.t 14), none⟩,
  ⟨(some 16), .mv (.t 7), some (15, false)⟩,
  ⟨(some 17), .bin .lss (.t 16) (.c (.i .i64 2)), some (15, false)⟩,
  ⟨(some 18), .pick (.t 15) (.c (.b true)) (.t 17), none⟩]
def horariumkeep_Tape_Table_3 : List TO := [⟨(some 19), .mv (.t 7), none⟩,
  ⟨(some 20), .bin .eql (.t 19) (.c (.i .i64 0)), none⟩]
def horariumkeep_Tape_Table_4 : List TO := [⟨(some 21), .mv (.t 0), none⟩,
  ⟨(some 22), .call (.fn i_horariumkeep_Tape_Next) [(.t 21), (.c (.i .i64 4))], none⟩,
  ⟨(some 23), .bin .add (.c (.i .i64 1)) (.t 22), none⟩,
  ⟨(some 24), .build [(.i .i64 0), (.i .i64 0), (.i .i64 0)] [(0, 1, (.c (.i .i64 2))), (2, 1, (.t 23))], none⟩,
  ⟨(some 25), .bsl 3 [(.i .i64 0), (.i .i64 0), (.i .i64 0)] 1 [(0, (.t 24))], none⟩,
  ⟨(some 6), .mv (.t 25), none⟩]
def horariumkeep_Tape_Table_5 : List TO := [⟨(some 26), .mv (.t 0), none⟩,
  ⟨(some 27), .mv (.t 1), none⟩,
  ⟨(some 28), .call (.fn i_horariumkeep_Tape_Next) [(.t 26), (.t 27)], none⟩,
  ⟨(some 29), .mv (.t 0), none⟩,
  ⟨(some 30), .call (.fn i_horariumkeep_Tape_Next) [(.t 29), (.c (.i .i64 4))], none⟩,
  ⟨(some 31), .bin .add (.c (.i .i64 1)) (.t 30), none⟩,
  ⟨(some 32), .build [(.i .i64 0), (.i .i64 0), (.i .i64 0)] [(0, 1, (.c (.i .i64 1))), (1, 1, (.t 28)), (2, 1, (.t 31))], none⟩,
  ⟨(some 33), .bsl 3 [(.i .i64 0), (.i .i64 0), (.i .i64 0)] 1 [(0, (.t 32))], none⟩,
  ⟨(some 6), .mv (.t 33), none⟩]
def horariumkeep_Tape_Table_6 : List TO := [⟨(some 34), .mv (.t 7), none⟩,
  ⟨(some 35), .bin .eql (.t 34) (.c (.i .i64 2)), none⟩]
def horariumkeep_Tape_Table_7 : List TO := [⟨(some 36), .mv (.t 0), none⟩,
  ⟨(some 37), .call (.fn i_horariumkeep_Tape_Next) [(.t 36), (.c (.i .i64 3))], none⟩,
  ⟨(some 38), .bin .add (.c (.i .i64 1)) (.t 37), none⟩,
  ⟨(some 39), .build [(.i .i64 0), (.i .i64 0), (.i .i64 0)] [(0, 1, (.c (.i .i64 4))), (2, 1, (.t 38))], none⟩,
  ⟨(some 40), .bsl 3 [(.i .i64 0), (.i .i64 0), (.i .i64 0)] 1 [(0, (.t 39))], none⟩,
  ⟨(some 41), .mv (.t 0), none⟩,
  ⟨(some 42), .mv (.t 1), none⟩,
  ⟨(some 43), .mv (.t 2), none⟩,
  ⟨(some 44), .bin .sub (.t 43) (.c (.i .i64 1)), none⟩,
  ⟨(some 45), .call (.fn i_horariumkeep_Tape_Table) [(.t 41), (.t 42), (.t 44)], none⟩,
  ⟨(some 46), .app 3 (.t 40) (.t 45), none⟩,
  ⟨(some 6), .mv (.t 46), none⟩]
def horariumkeep_Tape_Table_8 : List TO := [⟨(some 47), .mv (.t 0), none⟩,
  ⟨(some 48), .call (.fn i_horariumkeep_Tape_Next) [(.t 47), (.c (.i .i64 4))], none⟩,
  ⟨(some 49), .bin .add (.c (.i .i64 1)) (.t 48), none⟩,
  ⟨(some 8), .mv (.t 49), none⟩]
def horariumkeep_Tape_Table_9 : List TO := [⟨(some 50), .mv (.t 8), none⟩,
  ⟨(some 51), .build [(.i .i64 0), (.i .i64 0), (.i .i64 0)] [(0, 1, (.c (.i .i64 3))), (2, 1, (.t 50))], none⟩,
  ⟨(some 52), .bsl 3 [(.i .i64 0), (.i .i64 0), (.i .i64 0)] 1 [(0, (.t 51))], none⟩,
  ⟨(some 9), .mv (.t 52), none⟩]
def horariumkeep_Tape_Table_10 : List TO := [⟨(some 10), .mv (.c (.i .i64 0)), none⟩]
def horariumkeep_Tape_Table_11 : List TO := [⟨(some 53), .mv (.t 10), none⟩,
  ⟨(some 54), .mv (.t 8), none⟩,
  ⟨(some 55), .bin .lss (.t 53) (.t 54), none⟩]
def horariumkeep_Tape_Table_12 : List TO := [⟨(some 58), .mv (.t 9), none⟩,
  ⟨(some 59), .mv (.t 0), none⟩,
  ⟨(some 60), .mv (.t 1), none⟩,
  ⟨(some 61), .mv (.t 2), none⟩,
  ⟨(some 62), .bin .sub (.t 61) (.c (.i .i64 1)), none⟩,
  ⟨(some 63), .call (.fn i_horariumkeep_Tape_Table) [(.t 59), (.t 60), (.t 62)], none⟩,
  ⟨(some 64), .app 3 (.t 58) (.t 63), none⟩,
  ⟨(some 9), .mv (.t 64), none⟩]
def horariumkeep_Tape_Table_13 : List TO := [⟨(some 56), .mv (.t 10), none⟩,
  ⟨(some 57), .bin .add (.t 56) (.c (.i .i64 1)), none⟩,
  ⟨(some 10), .mv (.t 57), none⟩]
def horariumkeep_Tape_Table_14 : TC := (.seq (.seq (.reg horariumkeep_Tape_Table_11) (.cond (.t 55) .skip (.exit 0))) (.seq (.block 1 (.reg horariumkeep_Tape_Table_12)) (.reg horariumkeep_Tape_Table_13)))
def horariumkeep_Tape_Table_15 : List TO := [⟨(some 65), .mv (.t 9), none⟩,
  ⟨(some 6), .mv (.t 65), none⟩]
def t_horariumkeep_Tape_Table : TF := ⟨66, [.t 6], (.seq (.reg horariumkeep_Tape_Table_0) (.seq (.reg horariumkeep_Tape_Table_1) (.seq (.seq (.reg horariumkeep_Tape_Table_2) (.cond (.t 18) (.seq (.seq (.reg horariumkeep_Tape_Table_3) (.cond (.t 20) (.seq (.reg horariumkeep_Tape_Table_4) .ret) .skip)) (.seq (.reg horariumkeep_Tape_Table_5) .ret)) .skip)) (.seq (.seq (.reg horariumkeep_Tape_Table_6) (.cond (.t 35) (.seq (.reg horariumkeep_Tape_Table_7) .ret) .skip)) (.seq (.reg horariumkeep_Tape_Table_8) (.seq (.reg horariumkeep_Tape_Table_9) (.seq (.seq (.reg horariumkeep_Tape_Table_10) (.block 0 (.loop horariumkeep_Tape_Table_14))) (.seq (.reg horariumkeep_Tape_Table_15) .ret))))))))⟩

/-! horarium/horariumlaw4.play -/
def horariumlaw4_play_0 : List TO := [⟨(some 4), .mv (.c (.b false)), none⟩]
def horariumlaw4_play_1 : List TO := [⟨(some 22), .mv (.t 0), none⟩,
  ⟨(some 23), .call (.fn i_cursor_New) [(.t 22)], none⟩,
  ⟨(some 5), .mv (.t 23), none⟩]
def horariumlaw4_play_2 : List TO := [⟨(some 24), .mv (.t 0), none⟩,
  ⟨(some 25), .call (.fn i_horariumref3_Right) [(.t 24)], none⟩,
  ⟨(some 26), .bin .neq (.t 25) (.c (.i .i64 0)), none⟩]
def horariumlaw4_play_3 : List TO := [⟨(some 27), .mv (.t 5), none⟩,
  ⟨(some 28), .eq false .ptr (.t 27) (.c .np), none⟩,
  ⟨(some 29), .mv (.t 28), none⟩,
  ⟨(some 30), .mv (.t 0), some (29, true)⟩,
  ⟨(some 31), .call (.fn i_cursor_Part) [(.t 30), (.c (.i .i64 0))], some (29, true)⟩,
  ⟨(some 32), .bin .eql (.t 31) (.c (.i .i64 (-1))), some (29, true)⟩,
  ⟨(some 33), .pick (.t 29) (.t 32) (.c (.b false)), none⟩,
  ⟨(some 4), .mv (.t 33), none⟩]
def horariumlaw4_play_4 : List TO := [⟨(some 34), .mv (.t 5), none⟩,
  ⟨(some 35), .eq false .ptr (.t 34) (.c .np), none⟩]
def horariumlaw4_play_5 : List TO := [⟨(some 4), .mv (.c (.b false)), none⟩]
def horariumlaw4_play_6 : List TO := [⟨(some 36), .mv (.t 0), none⟩,
  ⟨(some 37), .call (.fn i_horariumlaw4_leaves) [(.t 36)], none⟩,
  ⟨(some 6), .mv (.t 37), none⟩]
def horariumlaw4_play_7 : List (Bool × List TO) := [(true, [⟨(some 38), .mv (.t 6), none⟩,
  ⟨(some 39), .iad 2 (.t 38) (.c (.i .i64 0)), none⟩,
  ⟨(some 40), .fad 1 (.t 39), none⟩,
  ⟨(some 41), .load 1 false (.t 40), none⟩,
  ⟨(some 7), .mv (.c (.i .i64 0)), none⟩,
  ⟨(some 8), .mv (.c (.i .i64 0)), none⟩,
  ⟨(some 9), .mv (.t 41), none⟩])]
def horariumlaw4_play_8 : List TO := [⟨(some 10), .mv (.c (.i .i64 0)), none⟩]
def horariumlaw4_play_9 : List TO := [⟨(some 42), .mv (.t 10), none⟩,
  ⟨(some 43), .bin .lss (.t 42) (.c (.i .i64 400)), none⟩]
def horariumlaw4_play_10 : List TO := [⟨(some 46), .mv (.t 5), none⟩,
  ⟨(some 47), .call (.fn i_cursor_Cursor_At) [(.t 46)], none⟩,
  ⟨(some 48), .mv (.t 7), none⟩,
  ⟨(some 49), .bin .neq (.t 47) (.t 48), none⟩]
def horariumlaw4_play_11 : List TO := [⟨(some 4), .mv (.c (.b false)), none⟩]
def horariumlaw4_play_12 : List TO := [⟨(some 11), .mv (.c (.i .i64 1)), none⟩]
def horariumlaw4_play_13 : List TO := [⟨(some 50), .mv (.t 10), none⟩,
  ⟨(some 51), .mv (.t 1), none⟩,
  ⟨(some 52), .len (.t 51), none⟩,
  ⟨(some 53), .bin .lss (.t 50) (.t 52), none⟩]
def horariumlaw4_play_14 : List TO := [⟨(some 54), .mv (.t 1), none⟩,
  ⟨(some 55), .mv (.t 10), none⟩,
  ⟨(some 56), .iad 1 (.t 54) (.t 55), none⟩,
  ⟨(some 57), .load 1 false (.t 56), none⟩,
  ⟨(some 58), .bin .and (.t 57) (.c (.i .i64 3)), none⟩,
  ⟨(some 11), .mv (.t 58), none⟩]
def horariumlaw4_play_15 : List TO := [⟨(some 59), .mv (.t 8), none⟩,
  ⟨(some 60), .mv (.t 6), none⟩,
  ⟨(some 61), .len (.t 60), none⟩,
  ⟨(some 62), .bin .geq (.t 59) (.t 61), none⟩]
def horariumlaw4_play_16 : List TO := [⟨(some 64), .mv (.t 5), none⟩,
  ⟨(some 65), .call (.fn i_cursor_Cursor_Next) [(.t 64)], none⟩,
  ⟨(some 63), .mv (.t 65), none⟩,
  ⟨(some 66), .ext (.t 63) 0, none⟩,
  ⟨(some 67), .ext (.t 63) 1, none⟩,
  ⟨(some 12), .alloc [(.i .i64 0), (.i .i64 0)], none⟩,
  ⟨none, .store 2 (.t 12) (.t 66), none⟩,
  ⟨(some 13), .mv (.t 67), none⟩]
def horariumlaw4_play_17 : List TO := [⟨(some 69), .mv (.t 5), none⟩,
  ⟨(some 70), .call (.fn i_cursor_Cursor_Tick) [(.t 69)], none⟩,
  ⟨(some 68), .mv (.t 70), none⟩,
  ⟨(some 71), .ext (.t 68) 0, none⟩,
  ⟨(some 72), .ext (.t 68) 1, none⟩,
  ⟨(some 14), .mv (.t 71), none⟩,
  ⟨(some 15), .mv (.t 72), none⟩]
def horariumlaw4_play_18 : List TO := [⟨(some 73), .mv (.t 13), none⟩,
  ⟨(some 74), .un .not (.t 73), none⟩,
  ⟨(some 75), .mv (.t 74), none⟩,
  ⟨(some 76), .mv (.t 15), some (75, true)⟩,
  ⟨(some 77), .un .not (.t 76), some (75, true)⟩,
  ⟨(some 78), .pick (.t 75) (.t 77) (.c (.b false)), none⟩,
  ⟨(some 79), .mv (.t 78), none⟩,
  ⟨(some 80), .load 2 true (.t 12), some (79, true)⟩,
  ⟨(some 81), .build [(.i .i64 0), (.i .i64 0)] [], some (79, true)⟩,
  ⟨(some 82), .eq false (.agg [.i, .i]) (.t 80) (.t 81), some (79, true)⟩,
  ⟨(some 83), .pick (.t 79) (.t 82) (.c (.b false)), none⟩,
  ⟨(some 84), .mv (.t 83), none⟩,
  ⟨(some 85), .mv (.t 14), some (84, true)⟩,
  ⟨(some 86), .bin .eql (.t 85) (.c (.i .i64 (-1))), some (84, true)⟩,
  ⟨(some 87), .pick (.t 84) (.t 86) (.c (.b false)), none⟩,
  ⟨(some 4), .mv (.t 87), none⟩]
def horariumlaw4_play_19 : List TO := [⟨(some 88), .mv (.t 11), none⟩,
  ⟨(some 89), .bin .eql (.t 88) (.c (.i .i64 0)), none⟩]
def horariumlaw4_play_20 : List TO := [⟨(some 91), .mv (.t 5), none⟩,
  ⟨(some 92), .call (.fn i_cursor_Cursor_Next) [(.t 91)], none⟩,
  ⟨(some 90), .mv (.t 92), none⟩,
  ⟨(some 93), .ext (.t 90) 0, none⟩,
  ⟨(some 94), .ext (.t 90) 1, none⟩,
  ⟨(some 16), .alloc [(.i .i64 0), (.i .i64 0)], none⟩,
  ⟨none, .store 2 (.t 16) (.t 93), none⟩,
  ⟨(some 17), .mv (.t 94), none⟩]
def horariumlaw4_play_21 : List (Bool × List TO) := [(true, [⟨(some 95), .mv (.t 17), none⟩,
  ⟨(some 96), .un .not (.t 95), none⟩,
  ⟨(some 97), .mv (.t 96), none⟩,
  ⟨(some 98), .fad 0 (.t 16), some (97, false)⟩,
  ⟨(some 99), .load 1 false (.t 98), some (97, false)⟩,
  ⟨(some 100), .mv (.t 6), some (97, false)⟩,
  ⟨(some 101), .mv (.t 8), some (97, false)⟩,
  ⟨(some 102), .iad 2 (.t 100) (.t 101), some (97, false)⟩,
  ⟨(some 103), .fad 0 (.t 102), some (97, false)⟩,
  ⟨(some 104), .load 1 false (.t 103), some (97, false)⟩,
  ⟨(some 105), .bin .neq (.t 99) (.t 104), some (97, false)⟩,
  ⟨(some 106), .pick (.t 97) (.c (.b true)) (.t 105), none⟩,
  ⟨(some 107), .mv (.t 106), none⟩,
  ⟨(some 108), .fad 1 (.t 16), some (107, false)⟩,
  ⟨(some 109), .load 1 false (.t 108), some (107, false)⟩,
  ⟨(some 110), .mv (.t 9), some (107, false)⟩,
  ⟨(some 111), .bin .neq (.t 109) (.t 110), some (107, false)⟩,
  ⟨(some 112), .pick (.t 107) (.c (.b true)) (.t 111), none⟩])]
def horariumlaw4_play_22 : List TO := [⟨(some 4), .mv (.c (.b false)), none⟩]
def horariumlaw4_play_23 : List TO := [⟨(some 113), .mv (.t 7), none⟩,
  ⟨(some 114), .mv (.t 9), none⟩,
  ⟨(some 115), .bin .add (.t 113) (.t 114), none⟩,
  ⟨(some 7), .mv (.t 115), none⟩,
  ⟨(some 9), .mv (.c (.i .i64 0)), none⟩]
def horariumlaw4_play_24 : List (Bool × List TO) := [(true, [⟨(some 116), .mv (.t 0), none⟩,
  ⟨(some 117), .mv (.t 7), none⟩,
  ⟨(some 118), .call (.fn i_cursor_Part) [(.t 116), (.t 117)], none⟩,
  ⟨(some 119), .mv (.t 6), none⟩,
  ⟨(some 120), .mv (.t 8), none⟩,
  ⟨(some 121), .iad 2 (.t 119) (.t 120), none⟩,
  ⟨(some 122), .fad 0 (.t 121), none⟩,
  ⟨(some 123), .load 1 false (.t 122), none⟩,
  ⟨(some 124), .bin .neq (.t 118) (.t 123), none⟩])]
def horariumlaw4_play_25 : List TO := [⟨(some 4), .mv (.c (.b false)), none⟩]
def horariumlaw4_play_26 : List TO := [⟨(some 126), .mv (.t 5), none⟩,
  ⟨(some 127), .call (.fn i_cursor_Cursor_Tick) [(.t 126)], none⟩,
  ⟨(some 125), .mv (.t 127), none⟩,
  ⟨(some 128), .ext (.t 125) 0, none⟩,
  ⟨(some 129), .ext (.t 125) 1, none⟩,
  ⟨(some 18), .mv (.t 128), none⟩,
  ⟨(some 19), .mv (.t 129), none⟩]
def horariumlaw4_play_27 : List TO := [⟨(some 130), .mv (.t 19), none⟩,
  ⟨(some 131), .un .not (.t 130), none⟩,
  ⟨(some 132), .mv (.t 131), none⟩,
  ⟨(some 133), .mv (.t 18), some (132, false)⟩,
  ⟨(some 134), .mv (.t 6), some (132, false)⟩,
  ⟨(some 135), .mv (.t 8), some (132, false)⟩,
  ⟨(some 136), .iad 2 (.t 134) (.t 135), some (132, false)⟩,
  ⟨(some 137), .fad 0 (.t 136), some (132, false)⟩,
  ⟨(some 138), .load 1 false (.t 137), some (132, false)⟩,
  ⟨(some 139), .bin .neq (.t 133) (.t 138), some (132, false)⟩,
  ⟨(some 140), .pick (.t 132) (.c (.b true)) (.t 139), none⟩]
def horariumlaw4_play_28 : List TO := [⟨(some 4), .mv (.c (.b false)), none⟩]
def horariumlaw4_play_29 : List TO := [⟨(some 141), .mv (.t 7), none⟩,
  ⟨(some 142), .bin .add (.t 141) (.c (.i .i64 1)), none⟩,
  ⟨(some 143), .mv (.t 9), none⟩,
  ⟨(some 144), .bin .sub (.t 143) (.c (.i .i64 1)), none⟩,
  ⟨(some 7), .mv (.t 142), none⟩,
  ⟨(some 9), .mv (.t 144), none⟩]
def horariumlaw4_play_30 : List TO := [⟨(some 145), .mv (.t 9), none⟩,
  ⟨(some 146), .bin .eql (.t 145) (.c (.i .i64 0)), none⟩]
def horariumlaw4_play_31 : List TO := [⟨(some 147), .mv (.t 8), none⟩,
  ⟨(some 148), .bin .add (.t 147) (.c (.i .i64 1)), none⟩,
  ⟨(some 8), .mv (.t 148), none⟩]
def horariumlaw4_play_32 : List TO := [⟨(some 149), .mv (.t 8), none⟩,
  ⟨(some 150), .mv (.t 6), none⟩,
  ⟨(some 151), .len (.t 150), none⟩,
  ⟨(some 152), .bin .lss (.t 149) (.t 151), none⟩]
def horariumlaw4_play_33 : List TO := [⟨(some 153), .mv (.t 6), none⟩,
  ⟨(some 154), .mv (.t 8), none⟩,
  ⟨(some 155), .iad 2 (.t 153) (.t 154), none⟩,
  ⟨(some 156), .fad 1 (.t 155), none⟩,
  ⟨(some 157), .load 1 false (.t 156), none⟩,
  ⟨(some 9), .mv (.t 157), none⟩]
def horariumlaw4_play_34 : List TO := [⟨(some 44), .mv (.t 10), none⟩,
  ⟨(some 45), .bin .add (.t 44) (.c (.i .i64 1)), none⟩,
  ⟨(some 10), .mv (.t 45), none⟩]
def horariumlaw4_play_35 : TC := (.seq (.seq (.reg horariumlaw4_play_9) (.cond (.t 43) .skip (.exit 0))) (.seq (.block 1 (.seq (.seq (.reg horariumlaw4_play_10) (.cond (.t 49) (.seq (.reg horariumlaw4_play_11) .ret) .skip)) (.seq (.reg horariumlaw4_play_12) (.seq (.seq (.reg horariumlaw4_play_13) (.cond (.t 53) (.reg horariumlaw4_play_14) .skip)) (.seq (.seq (.reg horariumlaw4_play_15) (.cond (.t 62) (.seq (.reg horariumlaw4_play_16) (.seq (.reg horariumlaw4_play_17) (.seq (.reg horariumlaw4_play_18) .ret))) .skip)) (.seq (.seq (.reg horariumlaw4_play_19) (.cond (.t 89) (.seq (.reg horariumlaw4_play_20) (.seq (.seq (.dreg horariumlaw4_play_21) (.cond (.t 112) (.seq (.reg horariumlaw4_play_22) .ret) .skip)) (.reg horariumlaw4_play_23))) (.seq (.seq (.dreg horariumlaw4_play_24) (.cond (.t 124) (.seq (.reg horariumlaw4_play_25) .ret) .skip)) (.seq (.reg horariumlaw4_play_26) (.seq (.seq (.reg horariumlaw4_play_27) (.cond (.t 140) (.seq (.reg horariumlaw4_play_28) .ret) .skip)) (.reg horariumlaw4_play_29)))))) (.seq (.reg horariumlaw4_play_30) (.cond (.t 146) (.seq (.reg horariumlaw4_play_31) (.seq (.reg horariumlaw4_play_32) (.cond (.t 152) (.reg horariumlaw4_play_33) .skip))) .skip)))))))) (.reg horariumlaw4_play_34)))
def horariumlaw4_play_36 : List TO := [⟨(some 158), .mv (.t 5), none⟩,
  ⟨(some 159), .call (.fn i_cursor_Cursor_Reset) [(.t 158)], none⟩]
def horariumlaw4_play_37 : List TO := [⟨(some 161), .mv (.t 5), none⟩,
  ⟨(some 162), .call (.fn i_cursor_Cursor_Next) [(.t 161)], none⟩,
  ⟨(some 160), .mv (.t 162), none⟩,
  ⟨(some 163), .ext (.t 160) 0, none⟩,
  ⟨(some 164), .ext (.t 160) 1, none⟩,
  ⟨(some 20), .alloc [(.i .i64 0), (.i .i64 0)], none⟩,
  ⟨none, .store 2 (.t 20) (.t 163), none⟩,
  ⟨(some 21), .mv (.t 164), none⟩]
def horariumlaw4_play_38 : List (Bool × List TO) := [(true, [⟨(some 165), .mv (.t 5), none⟩,
  ⟨(some 166), .call (.fn i_cursor_Cursor_At) [(.t 165)], none⟩,
  ⟨(some 167), .mv (.t 6), none⟩,
  ⟨(some 168), .iad 2 (.t 167) (.c (.i .i64 0)), none⟩,
  ⟨(some 169), .fad 1 (.t 168), none⟩,
  ⟨(some 170), .load 1 false (.t 169), none⟩,
  ⟨(some 171), .bin .eql (.t 166) (.t 170), none⟩,
  ⟨(some 172), .mv (.t 171), none⟩,
  ⟨(some 173), .mv (.t 21), some (172, true)⟩,
  ⟨(some 174), .pick (.t 172) (.t 173) (.c (.b false)), none⟩,
  ⟨(some 175), .mv (.t 174), none⟩,
  ⟨(some 176), .load 2 true (.t 20), some (175, true)⟩,
  ⟨(some 177), .mv (.t 6), some (175, true)⟩,
  ⟨(some 178), .iad 2 (.t 177) (.c (.i .i64 0)), some (175, true)⟩,
  ⟨(some 179), .load 2 true (.t 178), some (175, true)⟩,
  ⟨(some 180), .eq false (.agg [.i, .i]) (.t 176) (.t 179), some (175, true)⟩,
  ⟨(some 181), .pick (.t 175) (.t 180) (.c (.b false)), none⟩,
  ⟨(some 4), .mv (.t 181), none⟩])]
def t_horariumlaw4_play : TF := ⟨182, [.t 4], (.seq (.reg horariumlaw4_play_0) (.seq (.reg horariumlaw4_play_1) (.seq (.seq (.reg horariumlaw4_play_2) (.cond (.t 26) (.seq (.reg horariumlaw4_play_3) .ret) .skip)) (.seq (.seq (.reg horariumlaw4_play_4) (.cond (.t 35) (.seq (.reg horariumlaw4_play_5) .ret) .skip)) (.seq (.reg horariumlaw4_play_6) (.seq (.dreg horariumlaw4_play_7) (.seq (.seq (.reg horariumlaw4_play_8) (.block 0 (.loop horariumlaw4_play_35))) (.seq (.reg horariumlaw4_play_36) (.seq (.reg horariumlaw4_play_37) (.seq (.dreg horariumlaw4_play_38) .ret))))))))))⟩

/-! horarium/cursor.Part -/
def cursor_Part_0 : List TO := [⟨(some 4), .mv (.c (.i .i64 0)), none⟩]
def cursor_Part_1 : List TO := [⟨(some 8), .mv (.t 0), none⟩,
  ⟨(some 9), .call (.fn i_cursor_New) [(.t 8)], none⟩,
  ⟨(some 5), .mv (.t 9), none⟩]
def cursor_Part_2 : List TO := [⟨(some 10), .mv (.t 5), none⟩,
  ⟨(some 11), .eq false .ptr (.t 10) (.c .np), none⟩,
  ⟨(some 12), .mv (.t 11), none⟩,
  ⟨(some 13), .mv (.t 1), some (12, false)⟩,
  ⟨(some 14), .bin .lss (.t 13) (.c (.i .i64 0)), some (12, false)⟩,
  ⟨(some 15), .pick (.t 12) (.c (.b true)) (.t 14), none⟩]
def cursor_Part_3 : List TO := [⟨(some 4), .mv (.c (.i .i64 (-1))), none⟩]
def cursor_Part_4 : List TO := [⟨(some 17), .mv (.t 5), none⟩,
  ⟨(some 18), .call (.fn i_cursor_Cursor_Next) [(.t 17)], none⟩,
  ⟨(some 16), .mv (.t 18), none⟩,
  ⟨(some 19), .ext (.t 16) 0, none⟩,
  ⟨(some 20), .ext (.t 16) 1, none⟩,
  ⟨(some 6), .alloc [(.i .i64 0), (.i .i64 0)], none⟩,
  ⟨none, .store 2 (.t 6) (.t 19), none⟩,
  ⟨(some 7), .mv (.t 20), none⟩]
def cursor_Part_5 : List TO := [⟨(some 22), .mv (.t 7), none⟩,
  ⟨(some 23), .un .not (.t 22), none⟩,
  ⟨(some 21), .mv (.t 23), none⟩]
def cursor_Part_6 : List TO := [⟨(some 4), .mv (.c (.i .i64 (-1))), none⟩]
def cursor_Part_7 : List TO := [⟨(some 25), .mv (.t 1), none⟩,
  ⟨(some 26), .fad 1 (.t 6), none⟩,
  ⟨(some 27), .load 1 false (.t 26), none⟩,
  ⟨(some 28), .bin .lss (.t 25) (.t 27), none⟩,
  ⟨(some 24), .mv (.t 28), none⟩]
def cursor_Part_8 : List TO := [⟨(some 29), .fad 0 (.t 6), none⟩,
  ⟨(some 30), .load 1 false (.t 29), none⟩,
  ⟨(some 4), .mv (.t 30), none⟩]
def cursor_Part_9 : List TO := [⟨(some 31), .mv (.t 1), none⟩,
  ⟨(some 32), .fad 1 (.t 6), none⟩,
  ⟨(some 33), .load 1 false (.t 32), none⟩,
  ⟨(some 34), .bin .sub (.t 31) (.t 33), none⟩,
  ⟨(some 1), .mv (.t 34), none⟩]
def cursor_Part_10 : TC := (.block 1 (.seq (.reg cursor_Part_4) (.seq (.block 2 (.seq (.reg cursor_Part_5) (.cond (.t 21) (.seq (.reg cursor_Part_6) .ret) (.seq (.reg cursor_Part_7) (.cond (.t 24) (.seq (.reg cursor_Part_8) .ret) .skip))))) (.reg cursor_Part_9))))
def t_cursor_Part : TF := ⟨35, [.t 4], (.seq (.reg cursor_Part_0) (.seq (.reg cursor_Part_1) (.seq (.seq (.reg cursor_Part_2) (.cond (.t 15) (.seq (.reg cursor_Part_3) .ret) .skip)) (.block 0 (.loop cursor_Part_10)))))⟩

/-! horarium/horariumlaw4.known -/
def horariumlaw4_known_0 : List TO := [⟨(some 0), .mv (.c (.b false)), none⟩]
def horariumlaw4_known_1 : List TO := [⟨(some 13), .build [(.i .i64 0), (.i .i64 0), (.i .i64 0)] [(0, 1, (.c (.i .i64 4))), (2, 1, (.c (.i .i64 2)))], none⟩,
  ⟨(some 14), .build [(.i .i64 0), (.i .i64 0), (.i .i64 0)] [(0, 1, (.c (.i .i64 1))), (1, 1, (.c (.i .i64 2))), (2, 1, (.c (.i .i64 5)))], none⟩,
  ⟨(some 15), .bsl 3 [(.i .i64 0), (.i .i64 0), (.i .i64 0)] 2 [(0, (.t 13)), (1, (.t 14))], none⟩,
  ⟨(some 16), .call (.fn i_cursor_New) [(.t 15)], none⟩,
  ⟨(some 1), .mv (.t 16), none⟩]
def horariumlaw4_known_2 : List TO := [⟨(some 17), .mv (.t 1), none⟩,
  ⟨(some 18), .eq false .ptr (.t 17) (.c .np), none⟩,
  ⟨(some 19), .mv (.t 18), none⟩,
  ⟨(some 20), .call (.fn i_cursor_New) [(.c .ns)], some (19, false)⟩,
  ⟨(some 21), .eq true .ptr (.t 20) (.c .np), some (19, false)⟩,
  ⟨(some 22), .pick (.t 19) (.c (.b true)) (.t 21), none⟩]
def horariumlaw4_known_3 : List TO := [⟨(some 0), .mv (.c (.b false)), none⟩]
def horariumlaw4_known_4 : List TO := [⟨(some 24), .mv (.t 1), none⟩,
  ⟨(some 25), .call (.fn i_cursor_Cursor_Next) [(.t 24)], none⟩,
  ⟨(some 23), .mv (.t 25), none⟩,
  ⟨(some 26), .ext (.t 23) 0, none⟩,
  ⟨(some 27), .ext (.t 23) 1, none⟩,
  ⟨(some 2), .alloc [(.i .i64 0), (.i .i64 0)], none⟩,
  ⟨none, .store 2 (.t 2) (.t 26), none⟩,
  ⟨(some 3), .mv (.t 27), none⟩]
def horariumlaw4_known_5 : List TO := [⟨(some 29), .mv (.t 1), none⟩,
  ⟨(some 30), .call (.fn i_cursor_Cursor_Tick) [(.t 29)], none⟩,
  ⟨(some 28), .mv (.t 30), none⟩,
  ⟨(some 31), .ext (.t 28) 0, none⟩,
  ⟨(some 32), .ext (.t 28) 1, none⟩,
  ⟨(some 4), .mv (.t 31), none⟩,
  ⟨(some 5), .mv (.t 32), none⟩]
def horariumlaw4_known_6 : List TO := [⟨(some 33), .mv (.t 1), none⟩,
  ⟨(some 34), .call (.fn i_cursor_Cursor_At) [(.t 33)], none⟩,
  ⟨(some 6), .mv (.t 34), none⟩]
def horariumlaw4_known_7 : List TO := [⟨(some 36), .mv (.t 1), none⟩,
  ⟨(some 37), .call (.fn i_cursor_Cursor_Next) [(.t 36)], none⟩,
  ⟨(some 35), .mv (.t 37), none⟩,
  ⟨(some 38), .ext (.t 35) 0, none⟩,
  ⟨(some 39), .ext (.t 35) 1, none⟩,
  ⟨(some 7), .alloc [(.i .i64 0), (.i .i64 0)], none⟩,
  ⟨none, .store 2 (.t 7) (.t 38), none⟩,
  ⟨(some 8), .mv (.t 39), none⟩]
def horariumlaw4_known_8 : List TO := [⟨(some 41), .mv (.t 1), none⟩,
  ⟨(some 42), .call (.fn i_cursor_Cursor_Next) [(.t 41)], none⟩,
  ⟨(some 40), .mv (.t 42), none⟩,
  ⟨(some 43), .ext (.t 40) 0, none⟩,
  ⟨(some 44), .ext (.t 40) 1, none⟩,
  ⟨(some 9), .alloc [(.i .i64 0), (.i .i64 0)], none⟩,
  ⟨none, .store 2 (.t 9) (.t 43), none⟩,
  ⟨(some 10), .mv (.t 44), none⟩]
def horariumlaw4_known_9 : List TO := [⟨(some 46), .mv (.t 1), none⟩,
  ⟨(some 47), .call (.fn i_cursor_Cursor_Tick) [(.t 46)], none⟩,
  ⟨(some 45), .mv (.t 47), none⟩,
  ⟨(some 48), .ext (.t 45) 0, none⟩,
  ⟨(some 49), .ext (.t 45) 1, none⟩,
  ⟨(some 11), .mv (.t 48), none⟩,
  ⟨(some 12), .mv (.t 49), none⟩]
def horariumlaw4_known_10 : List TO := [⟨(some 50), .mv (.t 3), none⟩,
  ⟨(some 51), .mv (.t 50), none⟩,
  ⟨(some 52), .load 2 true (.t 2), some (51, true)⟩,
  ⟨(some 53), .build [(.i .i64 0), (.i .i64 0)] [(0, 1, (.c (.i .i64 2))), (1, 1, (.c (.i .i64 5)))], some (51, true)⟩,
  ⟨(some 54), .eq false (.agg [.i, .i]) (.t 52) (.t 53), some (51, true)⟩,
  ⟨(some 55), .pick (.t 51) (.t 54) (.c (.b false)), none⟩,
  ⟨(some 56), .mv (.t 55), none⟩,
  ⟨(some 57), .mv (.t 5), some (56, true)⟩,
  ⟨(some 58), .pick (.t 56) (.t 57) (.c (.b false)), none⟩,
  ⟨(some 59), .mv (.t 58), none⟩,
  ⟨(some 60), .mv (.t 4), some (59, true)⟩,
  ⟨(some 61), .bin .eql (.t 60) (.c (.i .i64 2)), some (59, true)⟩,
  ⟨(some 62), .pick (.t 59) (.t 61) (.c (.b false)), none⟩,
  ⟨(some 63), .mv (.t 62), none⟩,
  ⟨(some 64), .mv (.t 6), some (63, true)⟩,
  ⟨(some 65), .bin .eql (.t 64) (.c (.i .i64 6)), some (63, true)⟩,
  ⟨(some 66), .pick (.t 63) (.t 65) (.c (.b false)), none⟩,
  ⟨(some 67), .mv (.t 66), none⟩,
  ⟨(some 68), .mv (.t 8), some (67, true)⟩,
  ⟨(some 69), .pick (.t 67) (.t 68) (.c (.b false)), none⟩,
  ⟨(some 70), .mv (.t 69), none⟩,
  ⟨(some 71), .load 2 true (.t 7), some (70, true)⟩,
  ⟨(some 72), .build [(.i .i64 0), (.i .i64 0)] [(0, 1, (.c (.i .i64 2))), (1, 1, (.c (.i .i64 4)))], some (70, true)⟩,
  ⟨(some 73), .eq false (.agg [.i, .i]) (.t 71) (.t 72), some (70, true)⟩,
  ⟨(some 74), .pick (.t 70) (.t 73) (.c (.b false)), none⟩,
  ⟨(some 75), .mv (.t 74), none⟩,
  ⟨(some 76), .mv (.t 10), some (75, true)⟩,
  ⟨(some 77), .un .not (.t 76), some (75, true)⟩,
  ⟨(some 78), .pick (.t 75) (.t 77) (.c (.b false)), none⟩,
  ⟨(some 79), .mv (.t 78), none⟩,
  ⟨(some 80), .mv (.t 11), some (79, true)⟩,
  ⟨(some 81), .bin .eql (.t 80) (.c (.i .i64 (-1))), some (79, true)⟩,
  ⟨(some 82), .pick (.t 79) (.t 81) (.c (.b false)), none⟩,
  ⟨(some 83), .mv (.t 82), none⟩,
  ⟨(some 84), .mv (.t 12), some (83, true)⟩,
  ⟨(some 85), .un .not (.t 84), some (83, true)⟩,
  ⟨(some 86), .pick (.t 83) (.t 85) (.c (.b false)), none⟩,
  ⟨(some 87), .mv (.t 86), none⟩,
  ⟨(some 88), .build [(.i .i64 0), (.i .i64 0), (.i .i64 0)] [(0, 1, (.c (.i .i64 2))), (2, 1, (.c (.i .i64 1)))], some (87, true)⟩,
  ⟨(some 89), .bsl 3 [(.i .i64 0), (.i .i64 0), (.i .i64 0)] 1 [(0, (.t 88))], some (87, true)⟩,
  ⟨(some 90), .call (.fn i_cursor_Part) [(.t 89), (.c (.i .i64 0))], some (87, true)⟩,
  ⟨(some 91), .bin .eql (.t 90) (.c (.i .i64 (-1))), some (87, true)⟩,
  ⟨(some 92), .pick (.t 87) (.t 91) (.c (.b false)), none⟩,
  ⟨(some 0), .mv (.t 92), none⟩]
def t_horariumlaw4_known : TF := ⟨93, [.t 0], (.seq (.reg horariumlaw4_known_0) (.seq (.reg horariumlaw4_known_1) (.seq (.seq (.reg horariumlaw4_known_2) (.cond (.t 22) (.seq (.reg horariumlaw4_known_3) .ret) .skip)) (.seq (.reg horariumlaw4_known_4) (.seq (.reg horariumlaw4_known_5) (.seq (.reg horariumlaw4_known_6) (.seq (.reg horariumlaw4_known_7) (.seq (.reg horariumlaw4_known_8) (.seq (.reg horariumlaw4_known_9) (.seq (.reg horariumlaw4_known_10) .ret))))))))))⟩

/-! horarium/horariumbook.Within -/
def horariumbook_Within_0 : List TO := [⟨(some 6), .mv (.c (.i .i64 0)), none⟩]
def horariumbook_Within_1 : List TO := [⟨(some 7), .mv (.t 0), none⟩,
  ⟨(some 8), .mv (.t 1), none⟩,
  ⟨(some 9), .bin .geq (.t 7) (.t 8), none⟩,
  ⟨(some 10), .mv (.t 9), none⟩,
  ⟨(some 11), .mv (.t 0), some (10, true)⟩,
  ⟨(some 12), .mv (.t 2), some (10, true)⟩,
  ⟨(some 13), .bin .leq (.t 11) (.t 12), some (10, true)⟩,
  ⟨(some 14), .pick (.t 10) (.t 13) (.c (.b false)), none⟩]
def horariumbook_Within_2 : List TO := [⟨(some 15), .mv (.t 0), none⟩,
  ⟨(some 6), .mv (.t 15), none⟩]
def horariumbook_Within_3 : List TO := [⟨(some 16), .mv (.t 0), none⟩,
  ⟨(some 17), .mv (.t 2), none⟩,
  ⟨(some 18), .mv (.t 1), none⟩,
  ⟨(some 19), .bin .sub (.t 17) (.t 18), none⟩,
  ⟨(some 20), .bin .add (.t 19) (.c (.i .i64 1)), none⟩,
  ⟨(some 21), .bin .rem (.t 16) (.t 20), none⟩,
  ⟨(some 0), .mv (.t 21), none⟩]
def horariumbook_Within_4 : List TO := [⟨(some 22), .mv (.t 0), none⟩,
  ⟨(some 23), .bin .lss (.t 22) (.c (.i .i64 0)), none⟩]
def horariumbook_Within_5 : List TO := [⟨(some 24), .mv (.t 0), none⟩,
  ⟨(some 25), .mv (.t 2), none⟩,
  ⟨(some 26), .bin .add (.t 24) (.t 25), none⟩,
  ⟨(some 27), .mv (.t 1), none⟩,
  ⟨(some 28), .bin .sub (.t 26) (.t 27), none⟩,
  ⟨(some 29), .bin .add (.t 28) (.c (.i .i64 1)), none⟩,
  ⟨(some 0), .mv (.t 29), none⟩]
def horariumbook_Within_6 : List TO := [⟨(some 30), .mv (.t 1), none⟩,
  ⟨(some 31), .mv (.t 0), none⟩,
  ⟨(some 32), .bin .add (.t 30) (.t 31), none⟩,
  ⟨(some 6), .mv (.t 32), none⟩]
def t_horariumbook_Within : TF := ⟨33, [.t 6], (.seq (.reg horariumbook_Within_0) (.seq (.seq (.reg horariumbook_Within_1) (.cond (.t 14) (.seq (.reg horariumbook_Within_2) .ret) .skip)) (.seq (.reg horariumbook_Within_3) (.seq (.seq (.reg horariumbook_Within_4) (.cond (.t 23) (.reg horariumbook_Within_5) .skip)) (.seq (.reg horariumbook_Within_6) .ret)))))⟩

/-! horarium/horariumref3.Length -/
def horariumref3_Length_0 : List TO := [⟨(some 2), .mv (.c (.i .i64 0)), none⟩,
  ⟨(some 3), .mv (.c (.b false)), none⟩]
def horariumref3_Length_1 : List TO := [⟨(some 5), .mv (.t 0), none⟩,
  ⟨(some 6), .call (.fn i_horariumref3_Depth) [(.t 5)], none⟩,
  ⟨(some 7), .bin .eql (.t 6) (.c (.i .i64 0)), none⟩]
def horariumref3_Length_2 : List TO := [⟨(some 2), .mv (.c (.i .i64 0)), none⟩,
  ⟨(some 3), .mv (.c (.b false)), none⟩]
def horariumref3_Length_3 : List TO := [⟨(some 8), .mv (.t 0), none⟩,
  ⟨(some 9), .call (.fn i_horariumref3_length) [(.t 8), (.c (.i .i64 0))], none⟩,
  ⟨(some 4), .mv (.t 9), none⟩]
def horariumref3_Length_4 : List TO := [⟨(some 10), .mv (.t 4), none⟩,
  ⟨(some 11), .bin .gtr (.t 10) (.c (.i .i64 4096)), none⟩]
def horariumref3_Length_5 : List TO := [⟨(some 2), .mv (.c (.i .i64 0)), none⟩,
  ⟨(some 3), .mv (.c (.b false)), none⟩]
def horariumref3_Length_6 : List TO := [⟨(some 12), .mv (.t 4), none⟩,
  ⟨(some 2), .mv (.t 12), none⟩,
  ⟨(some 3), .mv (.c (.b true)), none⟩]
def t_horariumref3_Length : TF := ⟨13, [.t 2, .t 3], (.seq (.reg horariumref3_Length_0) (.seq (.seq (.reg horariumref3_Length_1) (.cond (.t 7) (.seq (.reg horariumref3_Length_2) .ret) .skip)) (.seq (.reg horariumref3_Length_3) (.seq (.seq (.reg horariumref3_Length_4) (.cond (.t 11) (.seq (.reg horariumref3_Length_5) .ret) .skip)) (.seq (.reg horariumref3_Length_6) .ret)))))⟩

/-! horarium/horariumref3.Right -/
def horariumref3_Right_0 : List TO := [⟨(some 2), .mv (.c (.i .i64 0)), none⟩]
def horariumref3_Right_1 : List TO := [⟨(some 5), .mv (.t 0), none⟩,
  ⟨(some 6), .len (.t 5), none⟩,
  ⟨(some 7), .bin .gtr (.t 6) (.c (.i .i64 128)), none⟩]
def horariumref3_Right_2 : List TO := [⟨(some 2), .mv (.c (.i .i64 3)), none⟩]
def horariumref3_Right_3 : List TO := [⟨(some 8), .mv (.t 0), none⟩,
  ⟨(some 9), .call (.fn i_horariumref3_Depth) [(.t 8)], none⟩,
  ⟨(some 10), .bin .eql (.t 9) (.c (.i .i64 0)), none⟩]
def horariumref3_Right_4 : List TO := [⟨(some 2), .mv (.c (.i .i64 12)), none⟩]
def horariumref3_Right_5 : List TO := [⟨(some 11), .mv (.t 0), none⟩,
  ⟨(some 12), .call (.fn i_horariumref3_Depth) [(.t 11)], none⟩,
  ⟨(some 13), .bin .gtr (.t 12) (.c (.i .i64 16)), none⟩]
def horariumref3_Right_6 : List TO := [⟨(some 2), .mv (.c (.i .i64 14)), none⟩]
def horariumref3_Right_7 : List TO := [⟨(some 15), .mv (.t 0), none⟩,
  ⟨(some 16), .call (.fn i_horariumref3_Length) [(.t 15)], none⟩,
  ⟨(some 14), .mv (.t 16), none⟩,
  ⟨(some 17), .ext (.t 14) 0, none⟩,
  ⟨(some 18), .ext (.t 14) 1, none⟩,
  ⟨(some 3), .mv (.t 17), none⟩,
  ⟨(some 4), .mv (.t 18), none⟩]
def horariumref3_Right_8 : List TO := [⟨(some 19), .mv (.t 4), none⟩,
  ⟨(some 20), .un .not (.t 19), none⟩]
def horariumref3_Right_9 : List TO := [⟨(some 2), .mv (.c (.i .i64 18)), none⟩]
def horariumref3_Right_10 : List TO := [⟨(some 2), .mv (.c (.i .i64 0)), none⟩]
def t_horariumref3_Right : TF := ⟨21, [.t 2], (.seq (.reg horariumref3_Right_0) (.seq (.seq (.reg horariumref3_Right_1) (.cond (.t 7) (.seq (.reg horariumref3_Right_2) .ret) .skip)) (.seq (.seq (.reg horariumref3_Right_3) (.cond (.t 10) (.seq (.reg horariumref3_Right_4) .ret) .skip)) (.seq (.seq (.reg horariumref3_Right_5) (.cond (.t 13) (.seq (.reg horariumref3_Right_6) .ret) .skip)) (.seq (.seq (.reg horariumref3_Right_7) (.seq (.reg horariumref3_Right_8) (.cond (.t 20) (.seq (.reg horariumref3_Right_9) .ret) .skip))) (.seq (.reg horariumref3_Right_10) .ret))))))⟩

/-! horarium/horariumref3.At -/
def horariumref3_At_0 : List TO := [⟨(some 4), .mv (.c (.i .i64 0)), none⟩]
def horariumref3_At_1 : List TO := [⟨(some 7), .mv (.t 0), none⟩,
  ⟨(some 8), .len (.t 7), none⟩,
  ⟨(some 9), .mv (.c (.i .i64 0)), none⟩]
def horariumref3_At_2 : List TO := [⟨(some 10), .bin .lss (.t 9) (.t 8), none⟩]
def horariumref3_At_3 : List TO := [⟨(some 11), .iad 2 (.t 7) (.t 9), none⟩,
  ⟨(some 12), .load 2 true (.t 11), none⟩,
  ⟨(some 6), .alloc [(.i .i64 0), (.i .i64 0)], none⟩,
  ⟨none, .store 2 (.t 6) (.t 12), none⟩]
def horariumref3_At_4 : List TO := [⟨(some 13), .mv (.t 1), none⟩,
  ⟨(some 14), .bin .lss (.t 13) (.c (.i .i64 0)), none⟩]
def horariumref3_At_5 : List TO := [⟨(some 4), .mv (.c (.i .i64 (-1))), none⟩]
def horariumref3_At_6 : List TO := [⟨(some 15), .fad 1 (.t 6), none⟩,
  ⟨(some 16), .load 1 false (.t 15), none⟩,
  ⟨(some 17), .bin .lss (.t 16) (.c (.i .i64 1)), none⟩]
def horariumref3_At_7 : List TO := [⟨(some 18), .mv (.t 1), none⟩,
  ⟨(some 19), .bin .geq (.t 18) (.c (.i .i64 0)), none⟩,
  ⟨(some 20), .mv (.t 19), none⟩,
  ⟨(some 21), .mv (.t 1), some (20, true)⟩,
  ⟨(some 22), .fad 1 (.t 6), some (20, true)⟩,
  ⟨(some 23), .load 1 false (.t 22), some (20, true)⟩,
  ⟨(some 24), .bin .lss (.t 21) (.t 23), some (20, true)⟩,
  ⟨(some 25), .pick (.t 20) (.t 24) (.c (.b false)), none⟩]
def horariumref3_At_8 : List TO := [⟨(some 26), .fad 0 (.t 6), none⟩,
  ⟨(some 27), .load 1 false (.t 26), none⟩,
  ⟨(some 4), .mv (.t 27), none⟩]
def horariumref3_At_9 : List TO := [⟨(some 28), .mv (.t 1), none⟩,
  ⟨(some 29), .fad 1 (.t 6), none⟩,
  ⟨(some 30), .load 1 false (.t 29), none⟩,
  ⟨(some 31), .bin .sub (.t 28) (.t 30), none⟩,
  ⟨(some 1), .mv (.t 31), none⟩]
def horariumref3_At_10 : List TO := [⟨(some 32), .bin .add (.t 9) (.c (.i .i64 1)), none⟩,
  ⟨(some 9), .mv (.t 32), none⟩]
def horariumref3_At_11 : TC := (.seq (.reg horariumref3_At_2) (.seq (.cond (.t 10) .skip (.exit 0)) (.seq (.block 1 (.seq (.reg horariumref3_At_3) (.seq (.seq (.reg horariumref3_At_4) (.cond (.t 14) (.seq (.reg horariumref3_At_5) .ret) .skip)) (.seq (.seq (.reg horariumref3_At_6) (.cond (.t 17) (.exit 1) .skip)) (.seq (.seq (.reg horariumref3_At_7) (.cond (.t 25) (.seq (.reg horariumref3_At_8) .ret) .skip)) (.reg horariumref3_At_9)))))) (.reg horariumref3_At_10))))
def horariumref3_At_12 : List TO := [⟨(some 4), .mv (.c (.i .i64 (-1))), none⟩]
def t_horariumref3_At : TF := ⟨33, [.t 4], (.seq (.reg horariumref3_At_0) (.seq (.seq (.reg horariumref3_At_1) (.block 0 (.loop horariumref3_At_11))) (.seq (.reg horariumref3_At_12) .ret)))⟩

/-! horarium/horariumlaw4.leaves -/
def horariumlaw4_leaves_0 : List TO := [⟨(some 2), .mv (.c .ns), none⟩]
def horariumlaw4_leaves_1 : List TO := [⟨(some 3), .mv (.t 0), none⟩,
  ⟨(some 4), .call (.fn i_horariumref3_Right) [(.t 3)], none⟩,
  ⟨(some 5), .bin .neq (.t 4) (.c (.i .i64 0)), none⟩]
def horariumlaw4_leaves_2 : List TO := [⟨(some 2), .mv (.c .ns), none⟩]
def horariumlaw4_leaves_3 : List TO := [⟨(some 6), .mv (.t 0), none⟩,
  ⟨(some 7), .call (.fn i_horariumref3_Leaves) [(.t 6)], none⟩,
  ⟨(some 2), .mv (.t 7), none⟩]
def t_horariumlaw4_leaves : TF := ⟨8, [.t 2], (.seq (.reg horariumlaw4_leaves_0) (.seq (.seq (.reg horariumlaw4_leaves_1) (.cond (.t 5) (.seq (.reg horariumlaw4_leaves_2) .ret) .skip)) (.seq (.reg horariumlaw4_leaves_3) .ret)))⟩

/-! horarium/cursor.New -/
def cursor_New_0 : List TO := [⟨(some 2), .mv (.c .np), none⟩]
def cursor_New_1 : List TO := [⟨(some 4), .mv (.t 0), none⟩,
  ⟨(some 5), .call (.fn i_node_Right) [(.t 4)], none⟩,
  ⟨(some 6), .bin .neq (.t 5) (.c (.i .i64 0)), none⟩]
def cursor_New_2 : List TO := [⟨(some 2), .mv (.c .np), none⟩]
def cursor_New_3 : List TO := [⟨(some 7), .mv (.t 0), none⟩,
  ⟨(some 8), .call (.fn i_slices_Clone_api_Node_api_Node) [(.t 7)], none⟩,
  ⟨(some 9), .build [.ns, .ns, (.i .i64 0), (.i .i64 0), (.i .i64 0)] [(0, 1, (.t 8))], none⟩,
  ⟨(some 10), .box (.t 9), none⟩,
  ⟨(some 3), .mv (.t 10), none⟩]
def cursor_New_4 : List TO := [⟨(some 11), .mv (.t 3), none⟩,
  ⟨(some 12), .call (.fn i_cursor_Cursor_Reset) [(.t 11)], none⟩]
def cursor_New_5 : List TO := [⟨(some 13), .mv (.t 3), none⟩,
  ⟨(some 2), .mv (.t 13), none⟩]
def t_cursor_New : TF := ⟨14, [.t 2], (.seq (.reg cursor_New_0) (.seq (.seq (.reg cursor_New_1) (.cond (.t 6) (.seq (.reg cursor_New_2) .ret) .skip)) (.seq (.reg cursor_New_3) (.seq (.reg cursor_New_4) (.seq (.reg cursor_New_5) .ret)))))⟩

/-! (*horarium/cursor.Cursor).Tick -/
def cursor_Cursor_Tick_0 : List TO := [⟨(some 2), .mv (.c (.i .i64 0)), none⟩,
  ⟨(some 3), .mv (.c (.b false)), none⟩]
def cursor_Cursor_Tick_1 : List (Bool × List TO) := [(true, [⟨(some 5), .mv (.t 0), none⟩,
  ⟨(some 6), .nck (.t 5), none⟩,
  ⟨(some 7), .fad 2 (.t 6), none⟩,
  ⟨(some 8), .load 1 false (.t 7), none⟩,
  ⟨(some 9), .mv (.t 0), none⟩,
  ⟨(some 10), .nck (.t 9), none⟩,
  ⟨(some 11), .fad 0 (.t 10), none⟩,
  ⟨(some 12), .load 1 false (.t 11), none⟩,
  ⟨(some 13), .len (.t 12), none⟩,
  ⟨(some 14), .bin .geq (.t 8) (.t 13), none⟩])]
def cursor_Cursor_Tick_2 : List TO := [⟨(some 2), .mv (.c (.i .i64 (-1))), none⟩,
  ⟨(some 3), .mv (.c (.b false)), none⟩]
def cursor_Cursor_Tick_3 : List (Bool × List TO) := [(true, [⟨(some 15), .mv (.t 0), none⟩,
  ⟨(some 16), .nck (.t 15), none⟩,
  ⟨(some 17), .fad 0 (.t 16), none⟩,
  ⟨(some 18), .load 1 false (.t 17), none⟩,
  ⟨(some 19), .mv (.t 0), none⟩,
  ⟨(some 20), .nck (.t 19), none⟩,
  ⟨(some 21), .fad 2 (.t 20), none⟩,
  ⟨(some 22), .load 1 false (.t 21), none⟩,
  ⟨(some 23), .iad 3 (.t 18) (.t 22), none⟩,
  ⟨(some 24), .load 3 true (.t 23), none⟩,
  ⟨(some 25), .call (.fn i_cursor_part) [(.t 24)], none⟩,
  ⟨(some 4), .mv (.t 25), none⟩])]
def cursor_Cursor_Tick_4 : List TO := [⟨(some 26), .mv (.t 0), none⟩,
  ⟨(some 27), .nck (.t 26), none⟩,
  ⟨(some 28), .fad 4 (.t 27), none⟩,
  ⟨(some 29), .load 1 false (.t 28), none⟩,
  ⟨(some 30), .bin .add (.t 29) (.c (.i .i64 1)), none⟩,
  ⟨(some 31), .nck (.t 26), none⟩,
  ⟨(some 32), .fad 4 (.t 31), none⟩,
  ⟨none, .store 1 (.t 32) (.t 30), none⟩]
def cursor_Cursor_Tick_5 : List TO := [⟨(some 33), .mv (.t 0), none⟩,
  ⟨(some 34), .nck (.t 33), none⟩,
  ⟨(some 35), .fad 3 (.t 34), none⟩,
  ⟨(some 36), .load 1 false (.t 35), none⟩,
  ⟨(some 37), .bin .add (.t 36) (.c (.i .i64 1)), none⟩,
  ⟨(some 38), .nck (.t 33), none⟩,
  ⟨(some 39), .fad 3 (.t 38), none⟩,
  ⟨none, .store 1 (.t 39) (.t 37), none⟩]
def cursor_Cursor_Tick_6 : List (Bool × List TO) := [(true, [⟨(some 40), .mv (.t 0), none⟩,
  ⟨(some 41), .nck (.t 40), none⟩,
  ⟨(some 42), .fad 3 (.t 41), none⟩,
  ⟨(some 43), .load 1 false (.t 42), none⟩,
  ⟨(some 44), .mv (.t 0), none⟩,
  ⟨(some 45), .nck (.t 44), none⟩,
  ⟨(some 46), .fad 0 (.t 45), none⟩,
  ⟨(some 47), .load 1 false (.t 46), none⟩,
  ⟨(some 48), .mv (.t 0), none⟩,
  ⟨(some 49), .nck (.t 48), none⟩,
  ⟨(some 50), .fad 2 (.t 49), none⟩,
  ⟨(some 51), .load 1 false (.t 50), none⟩,
  ⟨(some 52), .iad 3 (.t 47) (.t 51), none⟩,
  ⟨(some 53), .fad 2 (.t 52), none⟩,
  ⟨(some 54), .load 1 false (.t 53), none⟩,
  ⟨(some 55), .bin .eql (.t 43) (.t 54), none⟩])]
def cursor_Cursor_Tick_7 : List TO := [⟨(some 56), .mv (.t 0), none⟩,
  ⟨(some 57), .call (.fn i_cursor_Cursor_step) [(.t 56)], none⟩]
def cursor_Cursor_Tick_8 : List TO := [⟨(some 58), .mv (.t 4), none⟩,
  ⟨(some 2), .mv (.t 58), none⟩,
  ⟨(some 3), .mv (.c (.b true)), none⟩]
def t_cursor_Cursor_Tick : TF := ⟨59, [.t 2, .t 3], (.seq (.reg cursor_Cursor_Tick_0) (.seq (.seq (.dreg cursor_Cursor_Tick_1) (.cond (.t 14) (.seq (.reg cursor_Cursor_Tick_2) .ret) .skip)) (.seq (.dreg cursor_Cursor_Tick_3) (.seq (.reg cursor_Cursor_Tick_4) (.seq (.seq (.reg cursor_Cursor_Tick_5) (.seq (.dreg cursor_Cursor_Tick_6) (.cond (.t 55) (.reg cursor_Cursor_Tick_7) .skip))) (.seq (.reg cursor_Cursor_Tick_8) .ret))))))⟩

/-! (*horarium/cursor.Cursor).Reset -/
def cursor_Cursor_Reset_0 : List TO := [⟨(some 2), .mv (.t 0), none⟩,
  ⟨(some 3), .mv (.t 0), none⟩,
  ⟨(some 4), .mv (.t 0), none⟩,
  ⟨(some 5), .nck (.t 2), none⟩,
  ⟨(some 6), .fad 1 (.t 5), none⟩,
  ⟨none, .store 1 (.t 6) (.c .ns), none⟩,
  ⟨(some 7), .nck (.t 3), none⟩,
  ⟨(some 8), .fad 3 (.t 7), none⟩,
  ⟨none, .store 1 (.t 8) (.c (.i .i64 0)), none⟩,
  ⟨(some 9), .nck (.t 4), none⟩,
  ⟨(some 10), .fad 4 (.t 9), none⟩,
  ⟨none, .store 1 (.t 10) (.c (.i .i64 0)), none⟩]
def cursor_Cursor_Reset_1 : List TO := [⟨(some 11), .mv (.t 0), none⟩,
  ⟨(some 12), .call (.fn i_cursor_Cursor_down) [(.t 11), (.c (.i .i64 0))], none⟩]
def t_cursor_Cursor_Reset : TF := ⟨13, [], (.seq (.reg cursor_Cursor_Reset_0) (.reg cursor_Cursor_Reset_1))⟩

/-! (*horarium/cursor.Cursor).Next -/
def cursor_Cursor_Next_0 : List TO := [⟨(some 2), .alloc [(.i .i64 0), (.i .i64 0)], none⟩,
  ⟨(some 3), .mv (.c (.b false)), none⟩]
def cursor_Cursor_Next_1 : List (Bool × List TO) := [(true, [⟨(some 5), .mv (.t 0), none⟩,
  ⟨(some 6), .nck (.t 5), none⟩,
  ⟨(some 7), .fad 2 (.t 6), none⟩,
  ⟨(some 8), .load 1 false (.t 7), none⟩,
  ⟨(some 9), .mv (.t 0), none⟩,
  ⟨(some 10), .nck (.t 9), none⟩,
  ⟨(some 11), .fad 0 (.t 10), none⟩,
  ⟨(some 12), .load 1 false (.t 11), none⟩,
  ⟨(some 13), .len (.t 12), none⟩,
  ⟨(some 14), .bin .geq (.t 8) (.t 13), none⟩])]
def cursor_Cursor_Next_2 : List TO := [⟨(some 15), .build [(.i .i64 0), (.i .i64 0)] [], none⟩,
  ⟨none, .store 2 (.t 2) (.t 15), none⟩,
  ⟨(some 3), .mv (.c (.b false)), none⟩]
def cursor_Cursor_Next_3 : List (Bool × List TO) := [(true, [⟨(some 16), .mv (.t 0), none⟩,
  ⟨(some 17), .nck (.t 16), none⟩,
  ⟨(some 18), .fad 0 (.t 17), none⟩,
  ⟨(some 19), .load 1 false (.t 18), none⟩,
  ⟨(some 20), .mv (.t 0), none⟩,
  ⟨(some 21), .nck (.t 20), none⟩,
  ⟨(some 22), .fad 2 (.t 21), none⟩,
  ⟨(some 23), .load 1 false (.t 22), none⟩,
  ⟨(some 24), .iad 3 (.t 19) (.t 23), none⟩,
  ⟨(some 25), .load 3 true (.t 24), none⟩,
  ⟨(some 26), .call (.fn i_cursor_part) [(.t 25)], none⟩,
  ⟨(some 27), .mv (.t 0), none⟩,
  ⟨(some 28), .nck (.t 27), none⟩,
  ⟨(some 29), .fad 0 (.t 28), none⟩,
  ⟨(some 30), .load 1 false (.t 29), none⟩,
  ⟨(some 31), .mv (.t 0), none⟩,
  ⟨(some 32), .nck (.t 31), none⟩,
  ⟨(some 33), .fad 2 (.t 32), none⟩,
  ⟨(some 34), .load 1 false (.t 33), none⟩,
  ⟨(some 35), .iad 3 (.t 30) (.t 34), none⟩,
  ⟨(some 36), .fad 2 (.t 35), none⟩,
  ⟨(some 37), .load 1 false (.t 36), none⟩,
  ⟨(some 38), .mv (.t 0), none⟩,
  ⟨(some 39), .nck (.t 38), none⟩,
  ⟨(some 40), .fad 3 (.t 39), none⟩,
  ⟨(some 41), .load 1 false (.t 40), none⟩,
  ⟨(some 42), .bin .sub (.t 37) (.t 41), none⟩,
  ⟨(some 43), .build [(.i .i64 0), (.i .i64 0)] [(0, 1, (.t 26)), (1, 1, (.t 42))], none⟩,
  ⟨(some 4), .alloc [(.i .i64 0), (.i .i64 0)], none⟩]), (false, [⟨none, .store 2 (.t 4) (.t 43), none⟩])]
def cursor_Cursor_Next_4 : List (Bool × List TO) := [(true, [⟨(some 44), .mv (.t 0), none⟩,
  ⟨(some 45), .nck (.t 44), none⟩,
  ⟨(some 46), .fad 4 (.t 45), none⟩,
  ⟨(some 47), .load 1 false (.t 46), none⟩,
  ⟨(some 48), .fad 1 (.t 4), none⟩,
  ⟨(some 49), .load 1 false (.t 48), none⟩,
  ⟨(some 50), .bin .add (.t 47) (.t 49), none⟩,
  ⟨(some 51), .nck (.t 44), none⟩,
  ⟨(some 52), .fad 4 (.t 51), none⟩]), (false, [⟨none, .store 1 (.t 52) (.t 50), none⟩])]
def cursor_Cursor_Next_5 : List TO := [⟨(some 53), .mv (.t 0), none⟩,
  ⟨(some 54), .call (.fn i_cursor_Cursor_step) [(.t 53)], none⟩]
def cursor_Cursor_Next_6 : List TO := [⟨(some 55), .load 2 true (.t 4), none⟩,
  ⟨none, .store 2 (.t 2) (.t 55), none⟩,
  ⟨(some 3), .mv (.c (.b true)), none⟩]
def t_cursor_Cursor_Next : TF := ⟨56, [.cell 2 2 true, .t 3], (.seq (.reg cursor_Cursor_Next_0) (.seq (.seq (.dreg cursor_Cursor_Next_1) (.cond (.t 14) (.seq (.reg cursor_Cursor_Next_2) .ret) .skip)) (.seq (.dreg cursor_Cursor_Next_3) (.seq (.dreg cursor_Cursor_Next_4) (.seq (.reg cursor_Cursor_Next_5) (.seq (.reg cursor_Cursor_Next_6) .ret))))))⟩

/-! (*horarium/cursor.Cursor).At -/
def cursor_Cursor_At_0 : List TO := [⟨(some 2), .mv (.c (.i .i64 0)), none⟩]
def cursor_Cursor_At_1 : List TO := [⟨(some 3), .mv (.t 0), none⟩,
  ⟨(some 4), .nck (.t 3), none⟩,
  ⟨(some 5), .fad 4 (.t 4), none⟩,
  ⟨(some 6), .load 1 false (.t 5), none⟩,
  ⟨(some 2), .mv (.t 6), none⟩]
def t_cursor_Cursor_At : TF := ⟨7, [.t 2], (.seq (.reg cursor_Cursor_At_0) (.seq (.reg cursor_Cursor_At_1) .ret))⟩

/-! (*horarium/horariumkeep.Tape).Runs -/
def horariumkeep_Tape_Runs_0 : List TO := [⟨(some 6), .mv (.c .ns), none⟩]
def horariumkeep_Tape_Runs_1 : List TO := [⟨(some 7), .mv (.c .ns), none⟩]
def horariumkeep_Tape_Runs_2 : List TO := [⟨(some 9), .mv (.t 0), none⟩,
  ⟨(some 10), .mv (.t 2), none⟩,
  ⟨(some 11), .call (.fn i_horariumkeep_Tape_Next) [(.t 9), (.t 10)], none⟩,
  ⟨(some 12), .bin .add (.c (.i .i64 1)) (.t 11), none⟩,
  ⟨(some 8), .mv (.t 12), none⟩]
def horariumkeep_Tape_Runs_3 : List TO := [⟨(some 13), .mv (.t 8), none⟩,
  ⟨(some 14), .bin .gtr (.t 13) (.c (.i .i64 0)), none⟩]
def horariumkeep_Tape_Runs_4 : List TO := [⟨(some 17), .mv (.t 7), none⟩,
  ⟨(some 18), .mv (.t 0), none⟩,
  ⟨(some 19), .mv (.t 1), none⟩,
  ⟨(some 20), .bin .add (.t 19) (.c (.i .i64 1)), none⟩,
  ⟨(some 21), .call (.fn i_horariumkeep_Tape_Next) [(.t 18), (.t 20)], none⟩,
  ⟨(some 22), .bin .sub (.t 21) (.c (.i .i64 1)), none⟩,
  ⟨(some 23), .mv (.t 0), none⟩,
  ⟨(some 24), .call (.fn i_horariumkeep_Tape_Next) [(.t 23), (.c (.i .i64 4))], none⟩,
  ⟨(some 25), .bin .add (.c (.i .i64 1)) (.t 24), none⟩,
  ⟨(some 26), .build [(.i .i64 0), (.i .i64 0)] [(0, 1, (.t 22)), (1, 1, (.t 25))], none⟩,
  ⟨(some 27), .bsl 2 [(.i .i64 0), (.i .i64 0)] 1 [(0, (.t 26))], none⟩,
  ⟨(some 28), .app 2 (.t 17) (.t 27), none⟩,
  ⟨(some 7), .mv (.t 28), none⟩]
def horariumkeep_Tape_Runs_5 : List TO := [⟨(some 15), .mv (.t 8), none⟩,
  ⟨(some 16), .bin .sub (.t 15) (.c (.i .i64 1)), none⟩,
  ⟨(some 8), .mv (.t 16), none⟩]
def horariumkeep_Tape_Runs_6 : TC := (.seq (.seq (.reg horariumkeep_Tape_Runs_3) (.cond (.t 14) .skip (.exit 0))) (.seq (.block 1 (.reg horariumkeep_Tape_Runs_4)) (.reg horariumkeep_Tape_Runs_5)))
def horariumkeep_Tape_Runs_7 : List TO := [⟨(some 29), .mv (.t 7), none⟩,
  ⟨(some 6), .mv (.t 29), none⟩]
def t_horariumkeep_Tape_Runs : TF := ⟨30, [.t 6], (.seq (.reg horariumkeep_Tape_Runs_0) (.seq (.reg horariumkeep_Tape_Runs_1) (.seq (.seq (.reg horariumkeep_Tape_Runs_2) (.block 0 (.loop horariumkeep_Tape_Runs_6))) (.seq (.reg horariumkeep_Tape_Runs_7) .ret))))⟩

/-! horarium/runs.Tidy -/
def runs_Tidy_0 : List TO := [⟨(some 2), .mv (.c .ns), none⟩]
def runs_Tidy_1 : List TO := [⟨(some 3), .mv (.c .ns), none⟩]
def runs_Tidy_2 : List TO := [⟨(some 7), .mv (.t 0), none⟩,
  ⟨(some 8), .len (.t 7), none⟩,
  ⟨(some 9), .mv (.c (.i .i64 0)), none⟩]
def runs_Tidy_3 : List TO := [⟨(some 10), .bin .lss (.t 9) (.t 8), none⟩]
def runs_Tidy_4 : List TO := [⟨(some 11), .iad 2 (.t 7) (.t 9), none⟩,
  ⟨(some 12), .load 2 true (.t 11), none⟩,
  ⟨(some 5), .alloc [(.i .i64 0), (.i .i64 0)], none⟩,
  ⟨none, .store 2 (.t 5) (.t 12), none⟩]
def runs_Tidy_5 : List TO := [⟨(some 13), .mv (.t 3), none⟩,
  ⟨(some 14), .len (.t 13), none⟩,
  ⟨(some 6), .mv (.t 14), none⟩]
def runs_Tidy_6 : List TO := [⟨(some 20), .fad 1 (.t 5), none⟩,
  ⟨(some 21), .load 1 false (.t 20), none⟩,
  ⟨(some 22), .bin .lss (.t 21) (.c (.i .i64 1)), none⟩,
  ⟨(some 19), .mv (.t 22), none⟩]
def runs_Tidy_7 : List (Bool × List TO) := [(true, [⟨(some 24), .mv (.t 6), none⟩,
  ⟨(some 25), .bin .gtr (.t 24) (.c (.i .i64 0)), none⟩,
  ⟨(some 26), .mv (.t 25), none⟩,
  ⟨(some 27), .mv (.t 3), some (26, true)⟩,
  ⟨(some 28), .mv (.t 6), some (26, true)⟩,
  ⟨(some 29), .bin .sub (.t 28) (.c (.i .i64 1)), some (26, true)⟩,
  ⟨(some 30), .iad 2 (.t 27) (.t 29), some (26, true)⟩,
  ⟨(some 31), .fad 0 (.t 30), some (26, true)⟩,
  ⟨(some 32), .load 1 false (.t 31), some (26, true)⟩,
  ⟨(some 33), .fad 0 (.t 5), some (26, true)⟩,
  ⟨(some 34), .load 1 false (.t 33), some (26, true)⟩,
  ⟨(some 35), .bin .eql (.t 32) (.t 34), some (26, true)⟩,
  ⟨(some 36), .pick (.t 26) (.t 35) (.c (.b false)), none⟩,
  ⟨(some 23), .mv (.t 36), none⟩])]
def runs_Tidy_8 : List (Bool × List TO) := [(true, [⟨(some 37), .mv (.t 3), none⟩,
  ⟨(some 38), .mv (.t 6), none⟩,
  ⟨(some 39), .bin .sub (.t 38) (.c (.i .i64 1)), none⟩,
  ⟨(some 40), .mv (.t 3), none⟩,
  ⟨(some 41), .mv (.t 6), none⟩,
  ⟨(some 42), .bin .sub (.t 41) (.c (.i .i64 1)), none⟩,
  ⟨(some 43), .iad 2 (.t 40) (.t 42), none⟩,
  ⟨(some 44), .fad 1 (.t 43), none⟩,
  ⟨(some 45), .load 1 false (.t 44), none⟩,
  ⟨(some 46), .fad 1 (.t 5), none⟩,
  ⟨(some 47), .load 1 false (.t 46), none⟩,
  ⟨(some 48), .call (.fn i_runs_Add) [(.t 45), (.t 47)], none⟩,
  ⟨(some 49), .iad 2 (.t 37) (.t 39), none⟩,
  ⟨(some 50), .fad 1 (.t 49), none⟩]), (false, [⟨none, .store 1 (.t 50) (.t 48), none⟩])]
def runs_Tidy_9 : List TO := [⟨(some 15), .mv (.t 3), none⟩,
  ⟨(some 16), .load 2 true (.t 5), none⟩,
  ⟨(some 17), .bsl 2 [(.i .i64 0), (.i .i64 0)] 1 [(0, (.t 16))], none⟩,
  ⟨(some 18), .app 2 (.t 15) (.t 17), none⟩,
  ⟨(some 3), .mv (.t 18), none⟩]
def runs_Tidy_10 : List TO := [⟨(some 51), .bin .add (.t 9) (.c (.i .i64 1)), none⟩,
  ⟨(some 9), .mv (.t 51), none⟩]
def runs_Tidy_11 : TC := (.seq (.reg runs_Tidy_3) (.seq (.cond (.t 10) .skip (.exit 0)) (.seq (.block 1 (.seq (.reg runs_Tidy_4) (.seq (.reg runs_Tidy_5) (.block 2 (.seq (.reg runs_Tidy_6) (.cond (.t 19) .skip (.seq (.dreg runs_Tidy_7) (.cond (.t 23) (.dreg runs_Tidy_8) (.reg runs_Tidy_9))))))))) (.reg runs_Tidy_10))))
def runs_Tidy_12 : List TO := [⟨(some 52), .mv (.t 3), none⟩,
  ⟨(some 53), .call (.fn i_slices_Clip_api_Run_api_Run) [(.t 52)], none⟩,
  ⟨(some 2), .mv (.t 53), none⟩]
def t_runs_Tidy : TF := ⟨54, [.t 2], (.seq (.reg runs_Tidy_0) (.seq (.reg runs_Tidy_1) (.seq (.seq (.reg runs_Tidy_2) (.block 0 (.loop runs_Tidy_11))) (.seq (.reg runs_Tidy_12) .ret))))⟩

/-! horarium/runs.Ticks -/
def runs_Ticks_0 : List TO := [⟨(some 4), .mv (.c (.i .i64 0)), none⟩]
def runs_Ticks_1 : List TO := [⟨(some 5), .mv (.c (.i .i64 0)), none⟩]
def runs_Ticks_2 : List TO := [⟨(some 8), .mv (.t 0), none⟩,
  ⟨(some 9), .len (.t 8), none⟩,
  ⟨(some 10), .mv (.c (.i .i64 0)), none⟩]
def runs_Ticks_3 : List TO := [⟨(some 11), .bin .lss (.t 10) (.t 9), none⟩]
def runs_Ticks_4 : List TO := [⟨(some 12), .iad 2 (.t 8) (.t 10), none⟩,
  ⟨(some 13), .load 2 true (.t 12), none⟩,
  ⟨(some 7), .alloc [(.i .i64 0), (.i .i64 0)], none⟩,
  ⟨none, .store 2 (.t 7) (.t 13), none⟩]
def runs_Ticks_5 : List TO := [⟨(some 14), .fad 0 (.t 7), none⟩,
  ⟨(some 15), .load 1 false (.t 14), none⟩,
  ⟨(some 16), .mv (.t 1), none⟩,
  ⟨(some 17), .bin .eql (.t 15) (.t 16), none⟩]
def runs_Ticks_6 : List TO := [⟨(some 18), .mv (.t 5), none⟩,
  ⟨(some 19), .fad 1 (.t 7), none⟩,
  ⟨(some 20), .load 1 false (.t 19), none⟩,
  ⟨(some 21), .call (.fn i_runs_Add) [(.t 18), (.t 20)], none⟩,
  ⟨(some 5), .mv (.t 21), none⟩]
def runs_Ticks_7 : List TO := [⟨(some 22), .bin .add (.t 10) (.c (.i .i64 1)), none⟩,
  ⟨(some 10), .mv (.t 22), none⟩]
def runs_Ticks_8 : TC := (.seq (.reg runs_Ticks_3) (.seq (.cond (.t 11) .skip (.exit 0)) (.seq (.block 1 (.seq (.reg runs_Ticks_4) (.seq (.reg runs_Ticks_5) (.cond (.t 17) (.reg runs_Ticks_6) .skip)))) (.reg runs_Ticks_7))))
def runs_Ticks_9 : List TO := [⟨(some 23), .mv (.t 5), none⟩,
  ⟨(some 4), .mv (.t 23), none⟩]
def t_runs_Ticks : TF := ⟨24, [.t 4], (.seq (.reg runs_Ticks_0) (.seq (.reg runs_Ticks_1) (.seq (.seq (.reg runs_Ticks_2) (.block 0 (.loop runs_Ticks_8))) (.seq (.reg runs_Ticks_9) .ret))))⟩

/-! horarium/runs.Same -/
def runs_Same_0 : List TO := [⟨(some 4), .mv (.c (.b false)), none⟩]
def runs_Same_1 : List TO := [⟨(some 5), .mv (.t 0), none⟩,
  ⟨(some 6), .mv (.t 1), none⟩,
  ⟨(some 7), .call (.fn i_slices_Equal_api_Run_api_Run) [(.t 5), (.t 6)], none⟩,
  ⟨(some 4), .mv (.t 7), none⟩]
def t_runs_Same : TF := ⟨8, [.t 4], (.seq (.reg runs_Same_0) (.seq (.reg runs_Same_1) .ret))⟩

/-! horarium/runs.Length -/
def runs_Length_0 : List TO := [⟨(some 2), .mv (.c (.i .i64 0)), none⟩]
def runs_Length_1 : List TO := [⟨(some 3), .mv (.c (.i .i64 0)), none⟩]
def runs_Length_2 : List TO := [⟨(some 6), .mv (.t 0), none⟩,
  ⟨(some 7), .len (.t 6), none⟩,
  ⟨(some 8), .mv (.c (.i .i64 0)), none⟩]
def runs_Length_3 : List TO := [⟨(some 9), .bin .lss (.t 8) (.t 7), none⟩]
def runs_Length_4 : List TO := [⟨(some 10), .iad 2 (.t 6) (.t 8), none⟩,
  ⟨(some 11), .load 2 true (.t 10), none⟩,
  ⟨(some 5), .alloc [(.i .i64 0), (.i .i64 0)], none⟩,
  ⟨none, .store 2 (.t 5) (.t 11), none⟩]
def runs_Length_5 : List TO := [⟨(some 12), .mv (.t 3), none⟩,
  ⟨(some 13), .fad 1 (.t 5), none⟩,
  ⟨(some 14), .load 1 false (.t 13), none⟩,
  ⟨(some 15), .call (.fn i_runs_Add) [(.t 12), (.t 14)], none⟩,
  ⟨(some 3), .mv (.t 15), none⟩]
def runs_Length_6 : List TO := [⟨(some 16), .bin .add (.t 8) (.c (.i .i64 1)), none⟩,
  ⟨(some 8), .mv (.t 16), none⟩]
def runs_Length_7 : TC := (.seq (.reg runs_Length_3) (.seq (.cond (.t 9) .skip (.exit 0)) (.seq (.block 1 (.seq (.reg runs_Length_4) (.reg runs_Length_5))) (.reg runs_Length_6))))
def runs_Length_8 : List TO := [⟨(some 17), .mv (.t 3), none⟩,
  ⟨(some 2), .mv (.t 17), none⟩]
def t_runs_Length : TF := ⟨18, [.t 2], (.seq (.reg runs_Length_0) (.seq (.reg runs_Length_1) (.seq (.seq (.reg runs_Length_2) (.block 0 (.loop runs_Length_7))) (.seq (.reg runs_Length_8) .ret))))⟩

/-! horarium/runs.At -/
def runs_At_0 : List TO := [⟨(some 4), .mv (.c (.i .i64 0)), none⟩]
def runs_At_1 : List TO := [⟨(some 7), .mv (.t 1), none⟩,
  ⟨(some 8), .bin .lss (.t 7) (.c (.i .i64 0)), none⟩]
def runs_At_2 : List TO := [⟨(some 4), .mv (.c (.i .i64 (-1))), none⟩]
def runs_At_3 : List TO := [⟨(some 9), .mv (.t 0), none⟩,
  ⟨(some 10), .len (.t 9), none⟩,
  ⟨(some 11), .mv (.c (.i .i64 0)), none⟩]
def runs_At_4 : List TO := [⟨(some 12), .bin .lss (.t 11) (.t 10), none⟩]
def runs_At_5 : List TO := [⟨(some 13), .iad 2 (.t 9) (.t 11), none⟩,
  ⟨(some 14), .load 2 true (.t 13), none⟩,
  ⟨(some 6), .alloc [(.i .i64 0), (.i .i64 0)], none⟩,
  ⟨none, .store 2 (.t 6) (.t 14), none⟩]
def runs_At_6 : List TO := [⟨(some 15), .mv (.t 1), none⟩,
  ⟨(some 16), .fad 1 (.t 6), none⟩,
  ⟨(some 17), .load 1 false (.t 16), none⟩,
  ⟨(some 18), .bin .lss (.t 15) (.t 17), none⟩]
def runs_At_7 : List TO := [⟨(some 19), .fad 0 (.t 6), none⟩,
  ⟨(some 20), .load 1 false (.t 19), none⟩,
  ⟨(some 4), .mv (.t 20), none⟩]
def runs_At_8 : List TO := [⟨(some 21), .mv (.t 1), none⟩,
  ⟨(some 22), .fad 1 (.t 6), none⟩,
  ⟨(some 23), .load 1 false (.t 22), none⟩,
  ⟨(some 24), .mx [(.c (.i .i64 0)), (.t 23)], none⟩,
  ⟨(some 25), .bin .sub (.t 21) (.t 24), none⟩,
  ⟨(some 1), .mv (.t 25), none⟩]
def runs_At_9 : List TO := [⟨(some 26), .bin .add (.t 11) (.c (.i .i64 1)), none⟩,
  ⟨(some 11), .mv (.t 26), none⟩]
def runs_At_10 : TC := (.seq (.reg runs_At_4) (.seq (.cond (.t 12) .skip (.exit 0)) (.seq (.block 1 (.seq (.reg runs_At_5) (.seq (.seq (.reg runs_At_6) (.cond (.t 18) (.seq (.reg runs_At_7) .ret) .skip)) (.reg runs_At_8)))) (.reg runs_At_9))))
def runs_At_11 : List TO := [⟨(some 4), .mv (.c (.i .i64 (-1))), none⟩]
def t_runs_At : TF := ⟨27, [.t 4], (.seq (.reg runs_At_0) (.seq (.seq (.reg runs_At_1) (.cond (.t 8) (.seq (.reg runs_At_2) .ret) .skip)) (.seq (.seq (.reg runs_At_3) (.block 0 (.loop runs_At_10))) (.seq (.reg runs_At_11) .ret))))⟩

/-! horarium/runs.Switches -/
def runs_Switches_0 : List TO := [⟨(some 2), .mv (.c (.i .i64 0)), none⟩]
def runs_Switches_1 : List TO := [⟨(some 3), .mv (.c (.i .i64 0)), none⟩]
def runs_Switches_2 : List TO := [⟨(some 6), .mv (.t 0), none⟩,
  ⟨(some 7), .call (.fn i_runs_Tidy) [(.t 6)], none⟩,
  ⟨(some 8), .len (.t 7), none⟩,
  ⟨(some 9), .mv (.c (.i .i64 0)), none⟩]
def runs_Switches_3 : List TO := [⟨(some 10), .bin .lss (.t 9) (.t 8), none⟩]
def runs_Switches_4 : List TO := [⟨(some 11), .iad 2 (.t 7) (.t 9), none⟩,
  ⟨(some 12), .load 2 true (.t 11), none⟩,
  ⟨(some 5), .alloc [(.i .i64 0), (.i .i64 0)], none⟩,
  ⟨none, .store 2 (.t 5) (.t 12), none⟩]
def runs_Switches_5 : List TO := [⟨(some 13), .fad 0 (.t 5), none⟩,
  ⟨(some 14), .load 1 false (.t 13), none⟩,
  ⟨(some 15), .bin .neq (.t 14) (.c (.i .i64 (-1))), none⟩]
def runs_Switches_6 : List TO := [⟨(some 16), .mv (.t 3), none⟩,
  ⟨(some 17), .bin .add (.t 16) (.c (.i .i64 1)), none⟩,
  ⟨(some 3), .mv (.t 17), none⟩]
def runs_Switches_7 : List TO := [⟨(some 18), .bin .add (.t 9) (.c (.i .i64 1)), none⟩,
  ⟨(some 9), .mv (.t 18), none⟩]
def runs_Switches_8 : TC := (.seq (.reg runs_Switches_3) (.seq (.cond (.t 10) .skip (.exit 0)) (.seq (.block 1 (.seq (.reg runs_Switches_4) (.seq (.reg runs_Switches_5) (.cond (.t 15) (.reg runs_Switches_6) .skip)))) (.reg runs_Switches_7))))
def runs_Switches_9 : List TO := [⟨(some 19), .mv (.t 3), none⟩,
  ⟨(some 2), .mv (.t 19), none⟩]
def t_runs_Switches : TF := ⟨20, [.t 2], (.seq (.reg runs_Switches_0) (.seq (.reg runs_Switches_1) (.seq (.seq (.reg runs_Switches_2) (.block 0 (.loop runs_Switches_8))) (.seq (.reg runs_Switches_9) .ret))))⟩

/-! horarium/horariumlaw5.known -/
def horariumlaw5_known_0 : List TO := [⟨(some 0), .mv (.c (.b false)), none⟩]
def horariumlaw5_known_1 : List TO := [⟨(some 4), .build [(.i .i64 0), (.i .i64 0)] [(1, 1, (.c (.i .i64 2)))], none⟩,
  ⟨(some 5), .build [(.i .i64 0), (.i .i64 0)] [(1, 1, (.c (.i .i64 3)))], none⟩,
  ⟨(some 6), .build [(.i .i64 0), (.i .i64 0)] [(0, 1, (.c (.i .i64 1))), (1, 1, (.c (.i .i64 0)))], none⟩,
  ⟨(some 7), .build [(.i .i64 0), (.i .i64 0)] [(0, 1, (.c (.i .i64 (-1)))), (1, 1, (.c (.i .i64 1)))], none⟩,
  ⟨(some 8), .bsl 2 [(.i .i64 0), (.i .i64 0)] 4 [(0, (.t 4)), (1, (.t 5)), (2, (.t 6)), (3, (.t 7))], none⟩,
  ⟨(some 9), .call (.fn i_runs_Tidy) [(.t 8)], none⟩,
  ⟨(some 1), .mv (.t 9), none⟩]
def horariumlaw5_known_2 : List TO := [⟨(some 11), .build [(.i .i64 0), (.i .i64 0), (.i .i64 0)] [(0, 1, (.c (.i .i64 4))), (2, 1, (.c (.i .i64 2)))], none⟩,
  ⟨(some 12), .build [(.i .i64 0), (.i .i64 0), (.i .i64 0)] [(0, 1, (.c (.i .i64 1))), (2, 1, (.c (.i .i64 5)))], none⟩,
  ⟨(some 13), .bsl 3 [(.i .i64 0), (.i .i64 0), (.i .i64 0)] 2 [(0, (.t 11)), (1, (.t 12))], none⟩,
  ⟨(some 14), .call (.fn i_runs_Of) [(.t 13)], none⟩,
  ⟨(some 10), .mv (.t 14), none⟩,
  ⟨(some 15), .ext (.t 10) 0, none⟩,
  ⟨(some 16), .ext (.t 10) 1, none⟩,
  ⟨(some 2), .mv (.t 15), none⟩,
  ⟨(some 3), .mv (.t 16), none⟩]
def horariumlaw5_known_3 : List TO := [⟨(some 17), .mv (.t 1), none⟩,
  ⟨(some 18), .len (.t 17), none⟩,
  ⟨(some 19), .bin .eql (.t 18) (.c (.i .i64 2)), none⟩,
  ⟨(some 20), .mv (.t 19), none⟩,
  ⟨(some 21), .mv (.t 1), some (20, true)⟩,
  ⟨(some 22), .iad 2 (.t 21) (.c (.i .i64 0)), some (20, true)⟩,
  ⟨(some 23), .load 2 true (.t 22), some (20, true)⟩,
  ⟨(some 24), .build [(.i .i64 0), (.i .i64 0)] [(1, 1, (.c (.i .i64 5)))], some (20, true)⟩,
  ⟨(some 25), .eq false (.agg [.i, .i]) (.t 23) (.t 24), some (20, true)⟩,
  ⟨(some 26), .pick (.t 20) (.t 25) (.c (.b false)), none⟩,
  ⟨(some 27), .mv (.t 26), none⟩,
  ⟨(some 28), .mv (.t 1), some (27, true)⟩,
  ⟨(some 29), .call (.fn i_runs_Switches) [(.t 28)], some (27, true)⟩,
  ⟨(some 30), .bin .eql (.t 29) (.c (.i .i64 1)), some (27, true)⟩,
  ⟨(some 31), .pick (.t 27) (.t 30) (.c (.b false)), none⟩,
  ⟨(some 32), .mv (.t 31), none⟩,
  ⟨(some 33), .call (.fn i_runs_Right) [(.c .ns)], some (32, true)⟩,
  ⟨(some 34), .un .not (.t 33), some (32, true)⟩,
  ⟨(some 35), .pick (.t 32) (.t 34) (.c (.b false)), none⟩,
  ⟨(some 36), .mv (.t 35), none⟩,
  ⟨(some 37), .mv (.t 1), some (36, true)⟩,
  ⟨(some 38), .call (.fn i_runs_Right) [(.t 37)], some (36, true)⟩,
  ⟨(some 39), .pick (.t 36) (.t 38) (.c (.b false)), none⟩,
  ⟨(some 40), .mv (.t 39), none⟩,
  ⟨(some 41), .mv (.t 3), some (40, true)⟩,
  ⟨(some 42), .bin .eql (.t 41) (.c (.i .i64 0)), some (40, true)⟩,
  ⟨(some 43), .pick (.t 40) (.t 42) (.c (.b false)), none⟩,
  ⟨(some 44), .mv (.t 43), none⟩,
  ⟨(some 45), .mv (.t 2), some (44, true)⟩,
  ⟨(some 46), .len (.t 45), some (44, true)⟩,
  ⟨(some 47), .bin .eql (.t 46) (.c (.i .i64 1)), some (44, true)⟩,
  ⟨(some 48), .pick (.t 44) (.t 47) (.c (.b false)), none⟩,
  ⟨(some 49), .mv (.t 48), none⟩,
  ⟨(some 50), .mv (.t 2), some (49, true)⟩,
  ⟨(some 51), .iad 2 (.t 50) (.c (.i .i64 0)), some (49, true)⟩,
  ⟨(some 52), .fad 1 (.t 51), some (49, true)⟩,
  ⟨(some 53), .load 1 false (.t 52), some (49, true)⟩,
  ⟨(some 54), .bin .eql (.t 53) (.c (.i .i64 10)), some (49, true)⟩,
  ⟨(some 55), .pick (.t 49) (.t 54) (.c (.b false)), none⟩,
  ⟨(some 56), .mv (.t 55), none⟩,
  ⟨(some 57), .mv (.t 1), some (56, true)⟩,
  ⟨(some 58), .call (.fn i_runs_Ticks) [(.t 57), (.c (.i .i64 0))], some (56, true)⟩,
  ⟨(some 59), .bin .eql (.t 58) (.c (.i .i64 5)), some (56, true)⟩,
  ⟨(some 60), .pick (.t 56) (.t 59) (.c (.b false)), none⟩,
  ⟨(some 61), .mv (.t 60), none⟩,
  ⟨(some 62), .mv (.t 1), some (61, true)⟩,
  ⟨(some 63), .call (.fn i_runs_Length) [(.t 62)], some (61, true)⟩,
  ⟨(some 64), .bin .eql (.t 63) (.c (.i .i64 6)), some (61, true)⟩,
  ⟨(some 65), .pick (.t 61) (.t 64) (.c (.b false)), none⟩,
  ⟨(some 66), .mv (.t 65), none⟩,
  ⟨(some 67), .mv (.t 1), some (66, true)⟩,
  ⟨(some 68), .call (.fn i_runs_At) [(.t 67), (.c (.i .i64 5))], some (66, true)⟩,
  ⟨(some 69), .bin .eql (.t 68) (.c (.i .i64 (-1))), some (66, true)⟩,
  ⟨(some 70), .pick (.t 66) (.t 69) (.c (.b false)), none⟩,
  ⟨(some 71), .mv (.t 70), none⟩,
  ⟨(some 72), .mv (.t 1), some (71, true)⟩,
  ⟨(some 73), .call (.fn i_runs_At) [(.t 72), (.c (.i .i64 4))], some (71, true)⟩,
  ⟨(some 74), .bin .eql (.t 73) (.c (.i .i64 0)), some (71, true)⟩,
  ⟨(some 75), .pick (.t 71) (.t 74) (.c (.b false)), none⟩,
  ⟨(some 76), .mv (.t 75), none⟩,
  ⟨(some 77), .mv (.t 1), some (76, true)⟩,
  ⟨(some 78), .mv (.t 1), some (76, true)⟩,
  ⟨(some 79), .call (.fn i_runs_Same) [(.t 77), (.t 78)], some (76, true)⟩,
  ⟨(some 80), .pick (.t 76) (.t 79) (.c (.b false)), none⟩,
  ⟨(some 0), .mv (.t 80), none⟩]
def t_horariumlaw5_known : TF := ⟨81, [.t 0], (.seq (.reg horariumlaw5_known_0) (.seq (.reg horariumlaw5_known_1) (.seq (.reg horariumlaw5_known_2) (.seq (.reg horariumlaw5_known_3) .ret))))⟩

/-! horarium/runs.Of -/
def runs_Of_0 : List TO := [⟨(some 2), .mv (.c .ns), none⟩,
  ⟨(some 3), .mv (.c (.i .i64 0)), none⟩]
def runs_Of_1 : List TO := [⟨(some 9), .mv (.t 0), none⟩,
  ⟨(some 10), .call (.fn i_node_Right) [(.t 9)], none⟩,
  ⟨(some 4), .mv (.t 10), none⟩]
def runs_Of_2 : List TO := [⟨(some 11), .mv (.t 4), none⟩,
  ⟨(some 12), .bin .neq (.t 11) (.c (.i .i64 0)), none⟩]
def runs_Of_3 : List TO := [⟨(some 13), .mv (.t 4), none⟩,
  ⟨(some 2), .mv (.c .ns), none⟩,
  ⟨(some 3), .mv (.t 13), none⟩]
def runs_Of_4 : List TO := [⟨(some 5), .mv (.c .ns), none⟩]
def runs_Of_5 : List TO := [⟨(some 14), .mv (.t 0), none⟩,
  ⟨(some 15), .call (.fn i_cursor_New) [(.t 14)], none⟩,
  ⟨(some 6), .mv (.t 15), none⟩]
def runs_Of_6 : List TO := [⟨(some 17), .mv (.t 6), none⟩,
  ⟨(some 18), .call (.fn i_cursor_Cursor_Next) [(.t 17)], none⟩,
  ⟨(some 16), .mv (.t 18), none⟩,
  ⟨(some 19), .ext (.t 16) 0, none⟩,
  ⟨(some 20), .ext (.t 16) 1, none⟩,
  ⟨(some 7), .alloc [(.i .i64 0), (.i .i64 0)], none⟩,
  ⟨none, .store 2 (.t 7) (.t 19), none⟩,
  ⟨(some 8), .mv (.t 20), none⟩]
def runs_Of_7 : List TO := [⟨(some 21), .mv (.t 8), none⟩,
  ⟨(some 22), .un .not (.t 21), none⟩]
def runs_Of_8 : List TO := [⟨(some 23), .mv (.t 5), none⟩,
  ⟨(some 24), .load 2 true (.t 7), none⟩,
  ⟨(some 25), .bsl 2 [(.i .i64 0), (.i .i64 0)] 1 [(0, (.t 24))], none⟩,
  ⟨(some 26), .app 2 (.t 23) (.t 25), none⟩,
  ⟨(some 5), .mv (.t 26), none⟩]
def runs_Of_9 : TC := (.block 1 (.seq (.reg runs_Of_6) (.seq (.seq (.reg runs_Of_7) (.cond (.t 22) (.exit 0) .skip)) (.reg runs_Of_8))))
def runs_Of_10 : List TO := [⟨(some 27), .mv (.t 5), none⟩,
  ⟨(some 28), .call (.fn i_runs_Tidy) [(.t 27)], none⟩,
  ⟨(some 5), .mv (.t 28), none⟩]
def runs_Of_11 : List TO := [⟨(some 29), .mv (.t 5), none⟩,
  ⟨(some 30), .len (.t 29), none⟩,
  ⟨(some 31), .bin .gtr (.t 30) (.c (.i .i64 96)), none⟩]
def runs_Of_12 : List TO := [⟨(some 2), .mv (.c .ns), none⟩,
  ⟨(some 3), .mv (.c (.i .i64 3)), none⟩]
def runs_Of_13 : List TO := [⟨(some 32), .mv (.t 5), none⟩,
  ⟨(some 2), .mv (.t 32), none⟩,
  ⟨(some 3), .mv (.c (.i .i64 0)), none⟩]
def t_runs_Of : TF := ⟨33, [.t 2, .t 3], (.seq (.reg runs_Of_0) (.seq (.seq (.reg runs_Of_1) (.seq (.reg runs_Of_2) (.cond (.t 12) (.seq (.reg runs_Of_3) .ret) .skip))) (.seq (.reg runs_Of_4) (.seq (.reg runs_Of_5) (.seq (.block 0 (.loop runs_Of_9)) (.seq (.seq (.reg runs_Of_10) (.seq (.reg runs_Of_11) (.cond (.t 31) (.seq (.reg runs_Of_12) .ret) .skip))) (.seq (.reg runs_Of_13) .ret)))))))⟩

/-! horarium/horariumref3.Of -/
def horariumref3_Of_0 : List TO := [⟨(some 2), .mv (.c .ns), none⟩,
  ⟨(some 3), .mv (.c (.i .i64 0)), none⟩]
def horariumref3_Of_1 : List TO := [⟨(some 6), .mv (.t 0), none⟩,
  ⟨(some 7), .call (.fn i_horariumref3_Right) [(.t 6)], none⟩,
  ⟨(some 4), .mv (.t 7), none⟩]
def horariumref3_Of_2 : List TO := [⟨(some 8), .mv (.t 4), none⟩,
  ⟨(some 9), .bin .neq (.t 8) (.c (.i .i64 0)), none⟩]
def horariumref3_Of_3 : List TO := [⟨(some 10), .mv (.t 4), none⟩,
  ⟨(some 2), .mv (.c .ns), none⟩,
  ⟨(some 3), .mv (.t 10), none⟩]
def horariumref3_Of_4 : List TO := [⟨(some 11), .mv (.t 0), none⟩,
  ⟨(some 12), .call (.fn i_horariumref3_Leaves) [(.t 11)], none⟩,
  ⟨(some 13), .call (.fn i_horariumref3_Tidy) [(.t 12)], none⟩,
  ⟨(some 5), .mv (.t 13), none⟩]
def horariumref3_Of_5 : List TO := [⟨(some 14), .mv (.t 5), none⟩,
  ⟨(some 15), .len (.t 14), none⟩,
  ⟨(some 16), .bin .gtr (.t 15) (.c (.i .i64 96)), none⟩]
def horariumref3_Of_6 : List TO := [⟨(some 2), .mv (.c .ns), none⟩,
  ⟨(some 3), .mv (.c (.i .i64 3)), none⟩]
def horariumref3_Of_7 : List TO := [⟨(some 17), .mv (.t 5), none⟩,
  ⟨(some 2), .mv (.t 17), none⟩,
  ⟨(some 3), .mv (.c (.i .i64 0)), none⟩]
def t_horariumref3_Of : TF := ⟨18, [.t 2, .t 3], (.seq (.reg horariumref3_Of_0) (.seq (.seq (.reg horariumref3_Of_1) (.seq (.reg horariumref3_Of_2) (.cond (.t 9) (.seq (.reg horariumref3_Of_3) .ret) .skip))) (.seq (.reg horariumref3_Of_4) (.seq (.seq (.reg horariumref3_Of_5) (.cond (.t 16) (.seq (.reg horariumref3_Of_6) .ret) .skip)) (.seq (.reg horariumref3_Of_7) .ret)))))⟩

/-! horarium/runs.Right -/
def runs_Right_0 : List TO := [⟨(some 2), .mv (.c (.b false)), none⟩]
def runs_Right_1 : List TO := [⟨(some 3), .mv (.c (.i .i64 0)), none⟩]
def runs_Right_2 : List TO := [⟨(some 6), .mv (.t 0), none⟩,
  ⟨(some 7), .len (.t 6), none⟩,
  ⟨(some 8), .mv (.c (.i .i64 0)), none⟩]
def runs_Right_3 : List TO := [⟨(some 9), .bin .lss (.t 8) (.t 7), none⟩]
def runs_Right_4 : List TO := [⟨(some 10), .iad 2 (.t 6) (.t 8), none⟩,
  ⟨(some 11), .load 2 true (.t 10), none⟩,
  ⟨(some 5), .alloc [(.i .i64 0), (.i .i64 0)], none⟩,
  ⟨none, .store 2 (.t 5) (.t 11), none⟩]
def runs_Right_5 : List TO := [⟨(some 12), .fad 1 (.t 5), none⟩,
  ⟨(some 13), .load 1 false (.t 12), none⟩,
  ⟨(some 14), .bin .lss (.t 13) (.c (.i .i64 1)), none⟩,
  ⟨(some 15), .mv (.t 14), none⟩,
  ⟨(some 16), .fad 1 (.t 5), some (15, false)⟩,
  ⟨(some 17), .load 1 false (.t 16), some (15, false)⟩,
  ⟨(some 18), .bin .gtr (.t 17) (.c (.i .i64 4096)), some (15, false)⟩,
  ⟨(some 19), .pick (.t 15) (.c (.b true)) (.t 18), none⟩,
  ⟨(some 20), .mv (.t 19), none⟩,
  ⟨(some 21), .fad 0 (.t 5), some (20, false)⟩,
  ⟨(some 22), .load 1 false (.t 21), some (20, false)⟩,
  ⟨(some 23), .call (.fn i_runs_part) [(.t 22)], some (20, false)⟩,
  ⟨(some 24), .un .not (.t 23), some (20, false)⟩,
  ⟨(some 25), .pick (.t 20) (.c (.b true)) (.t 24), none⟩]
def runs_Right_6 : List TO := [⟨(some 2), .mv (.c (.b false)), none⟩]
def runs_Right_7 : List TO := [⟨(some 26), .mv (.t 3), none⟩,
  ⟨(some 27), .fad 1 (.t 5), none⟩,
  ⟨(some 28), .load 1 false (.t 27), none⟩,
  ⟨(some 29), .bin .add (.t 26) (.t 28), none⟩,
  ⟨(some 3), .mv (.t 29), none⟩]
def runs_Right_8 : List TO := [⟨(some 30), .bin .add (.t 8) (.c (.i .i64 1)), none⟩,
  ⟨(some 8), .mv (.t 30), none⟩]
def runs_Right_9 : TC := (.seq (.reg runs_Right_3) (.seq (.cond (.t 9) .skip (.exit 0)) (.seq (.block 1 (.seq (.reg runs_Right_4) (.seq (.seq (.reg runs_Right_5) (.cond (.t 25) (.seq (.reg runs_Right_6) .ret) .skip)) (.reg runs_Right_7)))) (.reg runs_Right_8))))
def runs_Right_10 : List TO := [⟨(some 31), .mv (.t 0), none⟩,
  ⟨(some 32), .len (.t 31), none⟩,
  ⟨(some 33), .bin .gtr (.t 32) (.c (.i .i64 0)), none⟩,
  ⟨(some 34), .mv (.t 33), none⟩,
  ⟨(some 35), .mv (.t 0), some (34, true)⟩,
  ⟨(some 36), .len (.t 35), some (34, true)⟩,
  ⟨(some 37), .bin .leq (.t 36) (.c (.i .i64 96)), some (34, true)⟩,
  ⟨(some 38), .pick (.t 34) (.t 37) (.c (.b false)), none⟩,
  ⟨(some 39), .mv (.t 38), none⟩,
  ⟨(some 40), .mv (.t 3), some (39, true)⟩,
  ⟨(some 41), .bin .leq (.t 40) (.c (.i .i64 4096)), some (39, true)⟩,
  ⟨(some 42), .pick (.t 39) (.t 41) (.c (.b false)), none⟩,
  ⟨(some 2), .mv (.t 42), none⟩]
def t_runs_Right : TF := ⟨43, [.t 2], (.seq (.reg runs_Right_0) (.seq (.reg runs_Right_1) (.seq (.seq (.reg runs_Right_2) (.block 0 (.loop runs_Right_9))) (.seq (.reg runs_Right_10) .ret))))⟩

/-! (*horarium/horariumkeep.Tape).Next -/
def horariumkeep_Tape_Next_0 : List TO := [⟨(some 4), .mv (.c (.i .i64 0)), none⟩]
def horariumkeep_Tape_Next_1 : List (Bool × List TO) := [(true, [⟨(some 5), .mv (.t 0), none⟩,
  ⟨(some 6), .nck (.t 5), none⟩,
  ⟨(some 7), .fad 1 (.t 6), none⟩,
  ⟨(some 8), .load 1 false (.t 7), none⟩,
  ⟨(some 9), .mv (.t 0), none⟩,
  ⟨(some 10), .nck (.t 9), none⟩,
  ⟨(some 11), .fad 0 (.t 10), none⟩,
  ⟨(some 12), .load 1 false (.t 11), none⟩,
  ⟨(some 13), .len (.t 12), none⟩,
  ⟨(some 14), .bin .geq (.t 8) (.t 13), none⟩,
  ⟨(some 15), .mv (.t 14), none⟩,
  ⟨(some 16), .mv (.t 1), some (15, false)⟩,
  ⟨(some 17), .bin .lss (.t 16) (.c (.i .i64 1)), some (15, false)⟩,
  ⟨(some 18), .pick (.t 15) (.c (.b true)) (.t 17), none⟩])]
def horariumkeep_Tape_Next_2 : List TO := [⟨(some 4), .mv (.c (.i .i64 0)), none⟩]
def horariumkeep_Tape_Next_3 : List TO := [⟨(some 19), .mv (.t 0), none⟩,
  ⟨(some 20), .nck (.t 19), none⟩,
  ⟨(some 21), .fad 1 (.t 20), none⟩,
  ⟨(some 22), .load 1 false (.t 21), none⟩,
  ⟨(some 23), .bin .add (.t 22) (.c (.i .i64 1)), none⟩,
  ⟨(some 24), .nck (.t 19), none⟩,
  ⟨(some 25), .fad 1 (.t 24), none⟩,
  ⟨none, .store 1 (.t 25) (.t 23), none⟩]
def horariumkeep_Tape_Next_4 : List (Bool × List TO) := [(true, [⟨(some 26), .mv (.t 0), none⟩,
  ⟨(some 27), .nck (.t 26), none⟩,
  ⟨(some 28), .fad 0 (.t 27), none⟩,
  ⟨(some 29), .load 1 false (.t 28), none⟩,
  ⟨(some 30), .mv (.t 0), none⟩,
  ⟨(some 31), .nck (.t 30), none⟩,
  ⟨(some 32), .fad 1 (.t 31), none⟩,
  ⟨(some 33), .load 1 false (.t 32), none⟩,
  ⟨(some 34), .bin .sub (.t 33) (.c (.i .i64 1)), none⟩,
  ⟨(some 35), .iad 1 (.t 29) (.t 34), none⟩,
  ⟨(some 36), .load 1 false (.t 35), none⟩,
  ⟨(some 37), .call (.fn i_horariumbook_Within) [(.t 36), (.c (.i .i64 0)), (.c (.i .i64 1073741824))], none⟩,
  ⟨(some 38), .mv (.t 1), none⟩,
  ⟨(some 39), .bin .rem (.t 37) (.t 38), none⟩,
  ⟨(some 4), .mv (.t 39), none⟩])]
def t_horariumkeep_Tape_Next : TF := ⟨40, [.t 4], (.seq (.reg horariumkeep_Tape_Next_0) (.seq (.seq (.dreg horariumkeep_Tape_Next_1) (.cond (.t 18) (.seq (.reg horariumkeep_Tape_Next_2) .ret) .skip)) (.seq (.reg horariumkeep_Tape_Next_3) (.seq (.dreg horariumkeep_Tape_Next_4) .ret))))⟩

/-! horarium/horariumref3.Depth -/
def horariumref3_Depth_0 : List TO := [⟨(some 2), .mv (.c (.i .i64 0)), none⟩]
def horariumref3_Depth_1 : List TO := [⟨(some 3), .mv (.t 0), none⟩,
  ⟨(some 4), .len (.t 3), none⟩,
  ⟨(some 5), .bin .eql (.t 4) (.c (.i .i64 0)), none⟩,
  ⟨(some 6), .mv (.t 5), none⟩,
  ⟨(some 7), .mv (.t 0), some (6, false)⟩,
  ⟨(some 8), .call (.fn i_horariumref3_Size) [(.t 7), (.c (.i .i64 0))], some (6, false)⟩,
  ⟨(some 9), .mv (.t 0), some (6, false)⟩,
  ⟨(some 10), .len (.t 9), some (6, false)⟩,
  ⟨(some 11), .bin .neq (.t 8) (.t 10), some (6, false)⟩,
  ⟨(some 12), .pick (.t 6) (.c (.b true)) (.t 11), none⟩]
def horariumref3_Depth_2 : List TO := [⟨(some 2), .mv (.c (.i .i64 0)), none⟩]
def horariumref3_Depth_3 : List TO := [⟨(some 13), .mv (.t 0), none⟩,
  ⟨(some 14), .call (.fn i_horariumref3_depth) [(.t 13), (.c (.i .i64 0))], none⟩,
  ⟨(some 2), .mv (.t 14), none⟩]
def t_horariumref3_Depth : TF := ⟨15, [.t 2], (.seq (.reg horariumref3_Depth_0) (.seq (.seq (.reg horariumref3_Depth_1) (.cond (.t 12) (.seq (.reg horariumref3_Depth_2) .ret) .skip)) (.seq (.reg horariumref3_Depth_3) .ret)))⟩

/-! horarium/horariumref3.length -/
def horariumref3_length_0 : List TO := [⟨(some 4), .mv (.c (.i .i64 0)), none⟩]
def horariumref3_length_1 : List TO := [⟨(some 5), .mv (.c (.i .i64 0)), none⟩]
def horariumref3_length_2 : List TO := [⟨(some 8), .mv (.t 0), none⟩,
  ⟨(some 9), .mv (.t 1), none⟩,
  ⟨(some 10), .call (.fn i_horariumref3_Kids) [(.t 8), (.t 9)], none⟩,
  ⟨(some 11), .len (.t 10), none⟩,
  ⟨(some 12), .mv (.c (.i .i64 0)), none⟩]
def horariumref3_length_3 : List TO := [⟨(some 13), .bin .lss (.t 12) (.t 11), none⟩]
def horariumref3_length_4 : List TO := [⟨(some 14), .iad 1 (.t 10) (.t 12), none⟩,
  ⟨(some 15), .load 1 false (.t 14), none⟩,
  ⟨(some 7), .mv (.t 15), none⟩]
def horariumref3_length_5 : List TO := [⟨(some 16), .mv (.t 5), none⟩,
  ⟨(some 17), .mv (.t 0), none⟩,
  ⟨(some 18), .mv (.t 7), none⟩,
  ⟨(some 19), .call (.fn i_horariumref3_length) [(.t 17), (.t 18)], none⟩,
  ⟨(some 20), .bin .add (.t 16) (.t 19), none⟩,
  ⟨(some 21), .mn [(.t 20), (.c (.i .i64 4097))], none⟩,
  ⟨(some 5), .mv (.t 21), none⟩]
def horariumref3_length_6 : List TO := [⟨(some 22), .bin .add (.t 12) (.c (.i .i64 1)), none⟩,
  ⟨(some 12), .mv (.t 22), none⟩]
def horariumref3_length_7 : TC := (.seq (.reg horariumref3_length_3) (.seq (.cond (.t 13) .skip (.exit 0)) (.seq (.block 1 (.seq (.reg horariumref3_length_4) (.reg horariumref3_length_5))) (.reg horariumref3_length_6))))
def horariumref3_length_8 : List TO := [⟨(some 23), .mv (.t 0), none⟩,
  ⟨(some 24), .mv (.t 1), none⟩,
  ⟨(some 25), .iad 3 (.t 23) (.t 24), none⟩,
  ⟨(some 26), .fad 0 (.t 25), none⟩,
  ⟨(some 27), .load 1 false (.t 26), none⟩]
def horariumref3_length_9 : List TO := [⟨(some 29), .bin .eql (.t 27) (.c (.i .i64 3)), none⟩,
  ⟨(some 28), .mv (.t 29), none⟩]
def horariumref3_length_10 : List TO := [⟨(some 30), .mv (.t 5), none⟩,
  ⟨(some 4), .mv (.t 30), none⟩]
def horariumref3_length_11 : List TO := [⟨(some 32), .bin .eql (.t 27) (.c (.i .i64 4)), none⟩,
  ⟨(some 31), .mv (.t 32), none⟩]
def horariumref3_length_12 : List TO := [⟨(some 33), .mv (.t 5), none⟩,
  ⟨(some 34), .mv (.t 0), none⟩,
  ⟨(some 35), .mv (.t 1), none⟩,
  ⟨(some 36), .iad 3 (.t 34) (.t 35), none⟩,
  ⟨(some 37), .fad 2 (.t 36), none⟩,
  ⟨(some 38), .load 1 false (.t 37), none⟩,
  ⟨(some 39), .mn [(.t 38), (.c (.i .i64 4097))], none⟩,
  ⟨(some 40), .bin .mul (.t 33) (.t 39), none⟩,
  ⟨(some 41), .mn [(.t 40), (.c (.i .i64 4097))], none⟩,
  ⟨(some 4), .mv (.t 41), none⟩]
def horariumref3_length_13 : List TO := [⟨(some 42), .mv (.t 0), none⟩,
  ⟨(some 43), .mv (.t 1), none⟩,
  ⟨(some 44), .iad 3 (.t 42) (.t 43), none⟩,
  ⟨(some 45), .fad 2 (.t 44), none⟩,
  ⟨(some 46), .load 1 false (.t 45), none⟩,
  ⟨(some 47), .mn [(.t 46), (.c (.i .i64 4097))], none⟩,
  ⟨(some 4), .mv (.t 47), none⟩]
def t_horariumref3_length : TF := ⟨48, [.t 4], (.seq (.reg horariumref3_length_0) (.seq (.reg horariumref3_length_1) (.seq (.seq (.reg horariumref3_length_2) (.block 0 (.loop horariumref3_length_7))) (.seq (.seq (.reg horariumref3_length_8) (.block 2 (.seq (.reg horariumref3_length_9) (.cond (.t 28) (.seq (.reg horariumref3_length_10) .ret) (.seq (.reg horariumref3_length_11) (.cond (.t 31) (.seq (.reg horariumref3_length_12) .ret) .skip)))))) (.seq (.reg horariumref3_length_13) .ret)))))⟩

/-! horarium/horariumref3.Leaves -/
def horariumref3_Leaves_0 : List TO := [⟨(some 2), .mv (.c .ns), none⟩]
def horariumref3_Leaves_1 : List TO := [⟨(some 3), .mv (.t 0), none⟩,
  ⟨(some 4), .call (.fn i_horariumref3_leaves) [(.t 3), (.c (.i .i64 0)), (.c .ns)], none⟩,
  ⟨(some 2), .mv (.t 4), none⟩]
def t_horariumref3_Leaves : TF := ⟨5, [.t 2], (.seq (.reg horariumref3_Leaves_0) (.seq (.reg horariumref3_Leaves_1) .ret))⟩

/-! horarium/node.Right -/
def node_Right_0 : List TO := [⟨(some 2), .mv (.c (.i .i64 0)), none⟩]
def node_Right_1 : List TO := [⟨(some 6), .mv (.t 0), none⟩,
  ⟨(some 7), .call (.fn i_node_Length) [(.t 6)], none⟩,
  ⟨(some 5), .mv (.t 7), none⟩,
  ⟨(some 8), .ext (.t 5) 0, none⟩,
  ⟨(some 9), .ext (.t 5) 1, none⟩,
  ⟨(some 3), .mv (.t 8), none⟩,
  ⟨(some 4), .mv (.t 9), none⟩]
def node_Right_2 : List TO := [⟨(some 11), .mv (.t 0), none⟩,
  ⟨(some 12), .len (.t 11), none⟩,
  ⟨(some 13), .bin .gtr (.t 12) (.c (.i .i64 128)), none⟩,
  ⟨(some 10), .mv (.t 13), none⟩]
def node_Right_3 : List TO := [⟨(some 2), .mv (.c (.i .i64 3)), none⟩]
def node_Right_4 : List TO := [⟨(some 15), .mv (.t 0), none⟩,
  ⟨(some 16), .call (.fn i_node_whole) [(.t 15)], none⟩,
  ⟨(some 17), .un .not (.t 16), none⟩,
  ⟨(some 14), .mv (.t 17), none⟩]
def node_Right_5 : List TO := [⟨(some 2), .mv (.c (.i .i64 12)), none⟩]
def node_Right_6 : List TO := [⟨(some 19), .mv (.t 0), none⟩,
  ⟨(some 20), .call (.fn i_node_Depth) [(.t 19)], none⟩,
  ⟨(some 21), .bin .gtr (.t 20) (.c (.i .i64 16)), none⟩,
  ⟨(some 18), .mv (.t 21), none⟩]
def node_Right_7 : List TO := [⟨(some 2), .mv (.c (.i .i64 14)), none⟩]
def node_Right_8 : List TO := [⟨(some 23), .mv (.t 4), none⟩,
  ⟨(some 24), .un .not (.t 23), none⟩,
  ⟨(some 22), .mv (.t 24), none⟩]
def node_Right_9 : List TO := [⟨(some 2), .mv (.c (.i .i64 18)), none⟩]
def node_Right_10 : List TO := [⟨(some 2), .mv (.c (.i .i64 0)), none⟩]
def t_node_Right : TF := ⟨25, [.t 2], (.seq (.reg node_Right_0) (.seq (.reg node_Right_1) (.seq (.block 0 (.seq (.reg node_Right_2) (.cond (.t 10) (.seq (.reg node_Right_3) .ret) (.seq (.reg node_Right_4) (.cond (.t 14) (.seq (.reg node_Right_5) .ret) (.seq (.reg node_Right_6) (.cond (.t 18) (.seq (.reg node_Right_7) .ret) (.seq (.reg node_Right_8) (.cond (.t 22) (.seq (.reg node_Right_9) .ret) .skip))))))))) (.seq (.reg node_Right_10) .ret))))⟩

/-! slices.Clone[[]horarium/api.Node,horarium/api.Node] -/
def slices_Clone_api_Node_api_Node_0 : List TO := [⟨(some 2), .mv (.c .ns), none⟩]
def slices_Clone_api_Node_api_Node_1 : List TO := [⟨(some 3), .mv (.t 0), none⟩,
  ⟨(some 4), .eq false .sl (.t 3) (.c .ns), none⟩]
def slices_Clone_api_Node_api_Node_2 : List TO := [⟨(some 2), .mv (.c .ns), none⟩]
def slices_Clone_api_Node_api_Node_3 : List TO := [⟨(some 5), .bsl 3 [(.i .i64 0), (.i .i64 0), (.i .i64 0)] 0 [], none⟩,
  ⟨(some 6), .mv (.t 0), none⟩,
  ⟨(some 7), .app 3 (.t 5) (.t 6), none⟩,
  ⟨(some 2), .mv (.t 7), none⟩]
def t_slices_Clone_api_Node_api_Node : TF := ⟨8, [.t 2], (.seq (.reg slices_Clone_api_Node_api_Node_0) (.seq (.seq (.reg slices_Clone_api_Node_api_Node_1) (.cond (.t 4) (.seq (.reg slices_Clone_api_Node_api_Node_2) .ret) .skip)) (.seq (.reg slices_Clone_api_Node_api_Node_3) .ret)))⟩

/-! horarium/cursor.part -/
def cursor_part_0 : List TO := [⟨(some 1), .box (.t 0), none⟩,
  ⟨(some 2), .mv (.c (.i .i64 0)), none⟩]
def cursor_part_1 : List TO := [⟨(some 3), .fad 0 (.t 1), none⟩,
  ⟨(some 4), .load 1 false (.t 3), none⟩,
  ⟨(some 5), .bin .eql (.t 4) (.c (.i .i64 2)), none⟩]
def cursor_part_2 : List TO := [⟨(some 2), .mv (.c (.i .i64 (-1))), none⟩]
def cursor_part_3 : List TO := [⟨(some 6), .fad 1 (.t 1), none⟩,
  ⟨(some 7), .load 1 false (.t 6), none⟩,
  ⟨(some 2), .mv (.t 7), none⟩]
def t_cursor_part : TF := ⟨8, [.t 2], (.seq (.reg cursor_part_0) (.seq (.seq (.reg cursor_part_1) (.cond (.t 5) (.seq (.reg cursor_part_2) .ret) .skip)) (.seq (.reg cursor_part_3) .ret)))⟩

/-! (*horarium/cursor.Cursor).step -/
def cursor_Cursor_step_0 : List TO := [⟨(some 4), .mv (.t 0), none⟩,
  ⟨(some 5), .nck (.t 4), none⟩,
  ⟨(some 6), .fad 2 (.t 5), none⟩,
  ⟨(some 7), .load 1 false (.t 6), none⟩,
  ⟨(some 8), .bin .add (.t 7) (.c (.i .i64 1)), none⟩,
  ⟨(some 2), .mv (.t 8), none⟩]
def cursor_Cursor_step_1 : List TO := [⟨(some 9), .mv (.t 0), none⟩,
  ⟨(some 10), .nck (.t 9), none⟩,
  ⟨(some 11), .fad 3 (.t 10), none⟩,
  ⟨none, .store 1 (.t 11) (.c (.i .i64 0)), none⟩]
def cursor_Cursor_step_2 : List TO := [⟨(some 12), .mv (.t 0), none⟩,
  ⟨(some 13), .nck (.t 12), none⟩,
  ⟨(some 14), .fad 1 (.t 13), none⟩,
  ⟨(some 15), .load 1 false (.t 14), none⟩,
  ⟨(some 16), .len (.t 15), none⟩,
  ⟨(some 17), .bin .gtr (.t 16) (.c (.i .i64 0)), none⟩]
def cursor_Cursor_step_3 : List (Bool × List TO) := [(true, [⟨(some 18), .mv (.t 0), none⟩,
  ⟨(some 19), .nck (.t 18), none⟩,
  ⟨(some 20), .fad 1 (.t 19), none⟩,
  ⟨(some 21), .load 1 false (.t 20), none⟩,
  ⟨(some 22), .mv (.t 0), none⟩,
  ⟨(some 23), .nck (.t 22), none⟩,
  ⟨(some 24), .fad 1 (.t 23), none⟩,
  ⟨(some 25), .load 1 false (.t 24), none⟩,
  ⟨(some 26), .len (.t 25), none⟩,
  ⟨(some 27), .bin .sub (.t 26) (.c (.i .i64 1)), none⟩,
  ⟨(some 28), .iad 2 (.t 21) (.t 27), none⟩,
  ⟨(some 3), .mv (.t 28), none⟩])]
def cursor_Cursor_step_4 : List TO := [⟨(some 29), .mv (.t 3), none⟩,
  ⟨(some 30), .nck (.t 29), none⟩,
  ⟨(some 31), .fad 1 (.t 30), none⟩,
  ⟨(some 32), .load 1 false (.t 31), none⟩,
  ⟨(some 33), .bin .sub (.t 32) (.c (.i .i64 1)), none⟩,
  ⟨(some 34), .nck (.t 29), none⟩,
  ⟨(some 35), .fad 1 (.t 34), none⟩,
  ⟨none, .store 1 (.t 35) (.t 33), none⟩]
def cursor_Cursor_step_5 : List TO := [⟨(some 36), .mv (.t 3), none⟩,
  ⟨(some 37), .nck (.t 36), none⟩,
  ⟨(some 38), .fad 1 (.t 37), none⟩,
  ⟨(some 39), .load 1 false (.t 38), none⟩,
  ⟨(some 40), .bin .gtr (.t 39) (.c (.i .i64 0)), none⟩]
def cursor_Cursor_step_6 : List (Bool × List TO) := [(true, [⟨(some 41), .mv (.t 0), none⟩,
  ⟨(some 42), .nck (.t 41), none⟩,
  ⟨(some 43), .fad 0 (.t 42), none⟩,
  ⟨(some 44), .load 1 false (.t 43), none⟩,
  ⟨(some 45), .mv (.t 3), none⟩,
  ⟨(some 46), .nck (.t 45), none⟩,
  ⟨(some 47), .fad 0 (.t 46), none⟩,
  ⟨(some 48), .load 1 false (.t 47), none⟩,
  ⟨(some 49), .iad 3 (.t 44) (.t 48), none⟩,
  ⟨(some 50), .fad 0 (.t 49), none⟩,
  ⟨(some 51), .load 1 false (.t 50), none⟩,
  ⟨(some 52), .bin .eql (.t 51) (.c (.i .i64 4)), none⟩])]
def cursor_Cursor_step_7 : List TO := [⟨(some 53), .mv (.t 3), none⟩,
  ⟨(some 54), .nck (.t 53), none⟩,
  ⟨(some 55), .fad 0 (.t 54), none⟩,
  ⟨(some 56), .load 1 false (.t 55), none⟩,
  ⟨(some 57), .bin .add (.t 56) (.c (.i .i64 1)), none⟩,
  ⟨(some 2), .mv (.t 57), none⟩]
def cursor_Cursor_step_8 : List TO := [⟨(some 58), .mv (.t 0), none⟩,
  ⟨(some 59), .mv (.t 2), none⟩,
  ⟨(some 60), .call (.fn i_cursor_Cursor_down) [(.t 58), (.t 59)], none⟩]
def cursor_Cursor_step_9 : List (Bool × List TO) := [(true, [⟨(some 61), .mv (.t 0), none⟩,
  ⟨(some 62), .mv (.t 0), none⟩,
  ⟨(some 63), .nck (.t 62), none⟩,
  ⟨(some 64), .fad 1 (.t 63), none⟩,
  ⟨(some 65), .load 1 false (.t 64), none⟩,
  ⟨(some 66), .mv (.t 0), none⟩,
  ⟨(some 67), .nck (.t 66), none⟩,
  ⟨(some 68), .fad 1 (.t 67), none⟩,
  ⟨(some 69), .load 1 false (.t 68), none⟩,
  ⟨(some 70), .len (.t 69), none⟩,
  ⟨(some 71), .bin .sub (.t 70) (.c (.i .i64 1)), none⟩,
  ⟨(some 72), .slice 2 (.t 65) none (some (.t 71)) none, none⟩,
  ⟨(some 73), .nck (.t 61), none⟩,
  ⟨(some 74), .fad 1 (.t 73), none⟩]), (false, [⟨none, .store 1 (.t 74) (.t 72), none⟩])]
def cursor_Cursor_step_10 : TC := (.seq (.seq (.reg cursor_Cursor_step_2) (.cond (.t 17) .skip (.exit 0))) (.block 1 (.seq (.dreg cursor_Cursor_step_3) (.seq (.seq (.reg cursor_Cursor_step_4) (.seq (.reg cursor_Cursor_step_5) (.cond (.t 40) (.seq (.seq (.dreg cursor_Cursor_step_6) (.cond (.t 52) (.reg cursor_Cursor_step_7) .skip)) (.seq (.reg cursor_Cursor_step_8) .ret)) .skip))) (.dreg cursor_Cursor_step_9)))))
def cursor_Cursor_step_11 : List TO := [⟨(some 75), .mv (.t 0), none⟩,
  ⟨(some 76), .mv (.t 0), none⟩,
  ⟨(some 77), .nck (.t 76), none⟩,
  ⟨(some 78), .fad 0 (.t 77), none⟩,
  ⟨(some 79), .load 1 false (.t 78), none⟩,
  ⟨(some 80), .len (.t 79), none⟩,
  ⟨(some 81), .nck (.t 75), none⟩,
  ⟨(some 82), .fad 2 (.t 81), none⟩,
  ⟨none, .store 1 (.t 82) (.t 80), none⟩]
def t_cursor_Cursor_step : TF := ⟨83, [], (.seq (.reg cursor_Cursor_step_0) (.seq (.reg cursor_Cursor_step_1) (.seq (.block 0 (.loop cursor_Cursor_step_10)) (.reg cursor_Cursor_step_11))))⟩

/-! (*horarium/cursor.Cursor).down -/
def cursor_Cursor_down_0 : List TO := [⟨(some 4), .mv (.t 0), none⟩,
  ⟨(some 5), .nck (.t 4), none⟩,
  ⟨(some 6), .fad 0 (.t 5), none⟩,
  ⟨(some 7), .load 1 false (.t 6), none⟩,
  ⟨(some 8), .mv (.t 1), none⟩,
  ⟨(some 9), .iad 3 (.t 7) (.t 8), none⟩,
  ⟨(some 10), .fad 0 (.t 9), none⟩,
  ⟨(some 11), .load 1 false (.t 10), none⟩,
  ⟨(some 12), .bin .eql (.t 11) (.c (.i .i64 3)), none⟩,
  ⟨(some 13), .mv (.t 12), none⟩,
  ⟨(some 14), .mv (.t 0), some (13, false)⟩,
  ⟨(some 15), .nck (.t 14), some (13, false)⟩,
  ⟨(some 16), .fad 0 (.t 15), some (13, false)⟩,
  ⟨(some 17), .load 1 false (.t 16), some (13, false)⟩,
  ⟨(some 18), .mv (.t 1), some (13, false)⟩,
  ⟨(some 19), .iad 3 (.t 17) (.t 18), some (13, false)⟩,
  ⟨(some 20), .fad 0 (.t 19), some (13, false)⟩,
  ⟨(some 21), .load 1 false (.t 20), some (13, false)⟩,
  ⟨(some 22), .bin .eql (.t 21) (.c (.i .i64 4)), some (13, false)⟩,
  ⟨(some 23), .pick (.t 13) (.c (.b true)) (.t 22), none⟩]
def cursor_Cursor_down_1 : List (Bool × List TO) := [(true, [⟨(some 24), .mv (.t 0), none⟩,
  ⟨(some 25), .mv (.t 0), none⟩,
  ⟨(some 26), .nck (.t 25), none⟩,
  ⟨(some 27), .fad 1 (.t 26), none⟩,
  ⟨(some 28), .load 1 false (.t 27), none⟩,
  ⟨(some 29), .mv (.t 1), none⟩,
  ⟨(some 30), .mv (.t 0), none⟩,
  ⟨(some 31), .nck (.t 30), none⟩,
  ⟨(some 32), .fad 0 (.t 31), none⟩,
  ⟨(some 33), .load 1 false (.t 32), none⟩,
  ⟨(some 34), .mv (.t 1), none⟩,
  ⟨(some 35), .iad 3 (.t 33) (.t 34), none⟩,
  ⟨(some 36), .fad 2 (.t 35), none⟩,
  ⟨(some 37), .load 1 false (.t 36), none⟩,
  ⟨(some 38), .build [(.i .i64 0), (.i .i64 0)] [(0, 1, (.t 29)), (1, 1, (.t 37))], none⟩,
  ⟨(some 39), .bsl 2 [(.i .i64 0), (.i .i64 0)] 1 [(0, (.t 38))], none⟩]), (false, [⟨(some 40), .app 2 (.t 28) (.t 39), none⟩]), (true, [⟨(some 41), .nck (.t 24), none⟩,
  ⟨(some 42), .fad 1 (.t 41), none⟩]), (false, [⟨none, .store 1 (.t 42) (.t 40), none⟩])]
def cursor_Cursor_down_2 : List TO := [⟨(some 43), .mv (.t 1), none⟩,
  ⟨(some 44), .bin .add (.t 43) (.c (.i .i64 1)), none⟩,
  ⟨(some 1), .mv (.t 44), none⟩]
def cursor_Cursor_down_3 : TC := (.seq (.seq (.reg cursor_Cursor_down_0) (.cond (.t 23) .skip (.exit 0))) (.block 1 (.seq (.dreg cursor_Cursor_down_1) (.reg cursor_Cursor_down_2))))
def cursor_Cursor_down_4 : List TO := [⟨(some 45), .mv (.t 0), none⟩,
  ⟨(some 46), .mv (.t 1), none⟩,
  ⟨(some 47), .nck (.t 45), none⟩,
  ⟨(some 48), .fad 2 (.t 47), none⟩,
  ⟨none, .store 1 (.t 48) (.t 46), none⟩]
def t_cursor_Cursor_down : TF := ⟨49, [], (.seq (.block 0 (.loop cursor_Cursor_down_3)) (.reg cursor_Cursor_down_4))⟩

/-! horarium/runs.Add -/
def runs_Add_0 : List TO := [⟨(some 4), .mv (.c (.i .i64 0)), none⟩]
def runs_Add_1 : List TO := [⟨(some 5), .mv (.t 0), none⟩,
  ⟨(some 6), .mx [(.c (.i .i64 0)), (.t 5)], none⟩,
  ⟨(some 7), .mv (.t 1), none⟩,
  ⟨(some 8), .mx [(.c (.i .i64 0)), (.t 7)], none⟩,
  ⟨(some 0), .mv (.t 6), none⟩,
  ⟨(some 1), .mv (.t 8), none⟩]
def runs_Add_2 : List TO := [⟨(some 9), .mv (.t 0), none⟩,
  ⟨(some 10), .mv (.t 1), none⟩,
  ⟨(some 11), .bin .sub (.c (.i .i64 9223372036854775807)) (.t 10), none⟩,
  ⟨(some 12), .bin .gtr (.t 9) (.t 11), none⟩]
def runs_Add_3 : List TO := [⟨(some 4), .mv (.c (.i .i64 9223372036854775807)), none⟩]
def runs_Add_4 : List TO := [⟨(some 13), .mv (.t 0), none⟩,
  ⟨(some 14), .mv (.t 1), none⟩,
  ⟨(some 15), .bin .add (.t 13) (.t 14), none⟩,
  ⟨(some 4), .mv (.t 15), none⟩]
def t_runs_Add : TF := ⟨16, [.t 4], (.seq (.reg runs_Add_0) (.seq (.reg runs_Add_1) (.seq (.seq (.reg runs_Add_2) (.cond (.t 12) (.seq (.reg runs_Add_3) .ret) .skip)) (.seq (.reg runs_Add_4) .ret))))⟩

/-! slices.Clip[[]horarium/api.Run,horarium/api.Run] -/
def slices_Clip_api_Run_api_Run_0 : List TO := [⟨(some 2), .mv (.c .ns), none⟩]
def slices_Clip_api_Run_api_Run_1 : List TO := [⟨(some 3), .mv (.t 0), none⟩,
  ⟨(some 4), .mv (.t 0), none⟩,
  ⟨(some 5), .len (.t 4), none⟩,
  ⟨(some 6), .mv (.t 0), none⟩,
  ⟨(some 7), .len (.t 6), none⟩,
  ⟨(some 8), .slice 2 (.t 3) none (some (.t 5)) (some (.t 7)), none⟩,
  ⟨(some 2), .mv (.t 8), none⟩]
def t_slices_Clip_api_Run_api_Run : TF := ⟨9, [.t 2], (.seq (.reg slices_Clip_api_Run_api_Run_0) (.seq (.reg slices_Clip_api_Run_api_Run_1) .ret))⟩

/-! slices.Equal[[]horarium/api.Run,horarium/api.Run] -/
def slices_Equal_api_Run_api_Run_0 : List TO := [⟨(some 4), .mv (.c (.b false)), none⟩]
def slices_Equal_api_Run_api_Run_1 : List TO := [⟨(some 6), .mv (.t 0), none⟩,
  ⟨(some 7), .len (.t 6), none⟩,
  ⟨(some 8), .mv (.t 1), none⟩,
  ⟨(some 9), .len (.t 8), none⟩,
  ⟨(some 10), .bin .neq (.t 7) (.t 9), none⟩]
def slices_Equal_api_Run_api_Run_2 : List TO := [⟨(some 4), .mv (.c (.b false)), none⟩]
def slices_Equal_api_Run_api_Run_3 : List TO := [⟨(some 11), .mv (.t 0), none⟩,
  ⟨(some 12), .len (.t 11), none⟩,
  ⟨(some 13), .mv (.c (.i .i64 0)), none⟩]
def slices_Equal_api_Run_api_Run_4 : List TO := [⟨(some 14), .bin .lss (.t 13) (.t 12), none⟩]
def slices_Equal_api_Run_api_Run_5 : List TO := [⟨(some 15), .mv (.t 13), none⟩,
  ⟨(some 5), .mv (.t 15), none⟩]
def slices_Equal_api_Run_api_Run_6 : List (Bool × List TO) := [(true, [⟨(some 16), .mv (.t 0), none⟩,
  ⟨(some 17), .mv (.t 5), none⟩,
  ⟨(some 18), .iad 2 (.t 16) (.t 17), none⟩,
  ⟨(some 19), .load 2 true (.t 18), none⟩,
  ⟨(some 20), .mv (.t 1), none⟩,
  ⟨(some 21), .mv (.t 5), none⟩,
  ⟨(some 22), .iad 2 (.t 20) (.t 21), none⟩,
  ⟨(some 23), .load 2 true (.t 22), none⟩,
  ⟨(some 24), .eq true (.agg [.i, .i]) (.t 19) (.t 23), none⟩])]
def slices_Equal_api_Run_api_Run_7 : List TO := [⟨(some 4), .mv (.c (.b false)), none⟩]
def slices_Equal_api_Run_api_Run_8 : List TO := [⟨(some 25), .bin .add (.t 13) (.c (.i .i64 1)), none⟩,
  ⟨(some 13), .mv (.t 25), none⟩]
def slices_Equal_api_Run_api_Run_9 : TC := (.seq (.reg slices_Equal_api_Run_api_Run_4) (.seq (.cond (.t 14) .skip (.exit 0)) (.seq (.block 1 (.seq (.reg slices_Equal_api_Run_api_Run_5) (.seq (.dreg slices_Equal_api_Run_api_Run_6) (.cond (.t 24) (.seq (.reg slices_Equal_api_Run_api_Run_7) .ret) .skip)))) (.reg slices_Equal_api_Run_api_Run_8))))
def slices_Equal_api_Run_api_Run_10 : List TO := [⟨(some 4), .mv (.c (.b true)), none⟩]
def t_slices_Equal_api_Run_api_Run : TF := ⟨26, [.t 4], (.seq (.reg slices_Equal_api_Run_api_Run_0) (.seq (.seq (.reg slices_Equal_api_Run_api_Run_1) (.cond (.t 10) (.seq (.reg slices_Equal_api_Run_api_Run_2) .ret) .skip)) (.seq (.seq (.reg slices_Equal_api_Run_api_Run_3) (.block 0 (.loop slices_Equal_api_Run_api_Run_9))) (.seq (.reg slices_Equal_api_Run_api_Run_10) .ret))))⟩

/-! horarium/horariumref3.Tidy -/
def horariumref3_Tidy_0 : List TO := [⟨(some 2), .mv (.c .ns), none⟩]
def horariumref3_Tidy_1 : List TO := [⟨(some 3), .mv (.c .ns), none⟩]
def horariumref3_Tidy_2 : List TO := [⟨(some 7), .mv (.t 0), none⟩,
  ⟨(some 8), .len (.t 7), none⟩,
  ⟨(some 9), .mv (.c (.i .i64 0)), none⟩]
def horariumref3_Tidy_3 : List TO := [⟨(some 10), .bin .lss (.t 9) (.t 8), none⟩]
def horariumref3_Tidy_4 : List TO := [⟨(some 11), .iad 2 (.t 7) (.t 9), none⟩,
  ⟨(some 12), .load 2 true (.t 11), none⟩,
  ⟨(some 5), .alloc [(.i .i64 0), (.i .i64 0)], none⟩,
  ⟨none, .store 2 (.t 5) (.t 12), none⟩]
def horariumref3_Tidy_5 : List TO := [⟨(some 13), .mv (.t 3), none⟩,
  ⟨(some 14), .len (.t 13), none⟩,
  ⟨(some 6), .mv (.t 14), none⟩]
def horariumref3_Tidy_6 : List TO := [⟨(some 15), .fad 1 (.t 5), none⟩,
  ⟨(some 16), .load 1 false (.t 15), none⟩,
  ⟨(some 17), .bin .lss (.t 16) (.c (.i .i64 1)), none⟩]
def horariumref3_Tidy_7 : List (Bool × List TO) := [(true, [⟨(some 18), .mv (.t 6), none⟩,
  ⟨(some 19), .bin .gtr (.t 18) (.c (.i .i64 0)), none⟩,
  ⟨(some 20), .mv (.t 19), none⟩,
  ⟨(some 21), .mv (.t 3), some (20, true)⟩,
  ⟨(some 22), .mv (.t 6), some (20, true)⟩,
  ⟨(some 23), .bin .sub (.t 22) (.c (.i .i64 1)), some (20, true)⟩,
  ⟨(some 24), .iad 2 (.t 21) (.t 23), some (20, true)⟩,
  ⟨(some 25), .fad 0 (.t 24), some (20, true)⟩,
  ⟨(some 26), .load 1 false (.t 25), some (20, true)⟩,
  ⟨(some 27), .fad 0 (.t 5), some (20, true)⟩,
  ⟨(some 28), .load 1 false (.t 27), some (20, true)⟩,
  ⟨(some 29), .bin .eql (.t 26) (.t 28), some (20, true)⟩,
  ⟨(some 30), .pick (.t 20) (.t 29) (.c (.b false)), none⟩])]
def horariumref3_Tidy_8 : List (Bool × List TO) := [(true, [⟨(some 31), .mv (.t 3), none⟩,
  ⟨(some 32), .mv (.t 6), none⟩,
  ⟨(some 33), .bin .sub (.t 32) (.c (.i .i64 1)), none⟩,
  ⟨(some 34), .mv (.t 3), none⟩,
  ⟨(some 35), .mv (.t 6), none⟩,
  ⟨(some 36), .bin .sub (.t 35) (.c (.i .i64 1)), none⟩,
  ⟨(some 37), .iad 2 (.t 34) (.t 36), none⟩,
  ⟨(some 38), .fad 1 (.t 37), none⟩,
  ⟨(some 39), .load 1 false (.t 38), none⟩,
  ⟨(some 40), .fad 1 (.t 5), none⟩,
  ⟨(some 41), .load 1 false (.t 40), none⟩,
  ⟨(some 42), .call (.fn i_horariumref3_Sum) [(.t 39), (.t 41)], none⟩,
  ⟨(some 43), .iad 2 (.t 31) (.t 33), none⟩,
  ⟨(some 44), .fad 1 (.t 43), none⟩]), (false, [⟨none, .store 1 (.t 44) (.t 42), none⟩])]
def horariumref3_Tidy_9 : List TO := [⟨(some 45), .mv (.t 3), none⟩,
  ⟨(some 46), .load 2 true (.t 5), none⟩,
  ⟨(some 47), .bsl 2 [(.i .i64 0), (.i .i64 0)] 1 [(0, (.t 46))], none⟩,
  ⟨(some 48), .app 2 (.t 45) (.t 47), none⟩,
  ⟨(some 3), .mv (.t 48), none⟩]
def horariumref3_Tidy_10 : List TO := [⟨(some 49), .bin .add (.t 9) (.c (.i .i64 1)), none⟩,
  ⟨(some 9), .mv (.t 49), none⟩]
def horariumref3_Tidy_11 : TC := (.seq (.reg horariumref3_Tidy_3) (.seq (.cond (.t 10) .skip (.exit 0)) (.seq (.block 1 (.seq (.reg horariumref3_Tidy_4) (.seq (.reg horariumref3_Tidy_5) (.seq (.seq (.reg horariumref3_Tidy_6) (.cond (.t 17) (.exit 1) .skip)) (.seq (.dreg horariumref3_Tidy_7) (.cond (.t 30) (.dreg horariumref3_Tidy_8) (.reg horariumref3_Tidy_9))))))) (.reg horariumref3_Tidy_10))))
def horariumref3_Tidy_12 : List TO := [⟨(some 50), .mv (.t 3), none⟩,
  ⟨(some 2), .mv (.t 50), none⟩]
def t_horariumref3_Tidy : TF := ⟨51, [.t 2], (.seq (.reg horariumref3_Tidy_0) (.seq (.reg horariumref3_Tidy_1) (.seq (.seq (.reg horariumref3_Tidy_2) (.block 0 (.loop horariumref3_Tidy_11))) (.seq (.reg horariumref3_Tidy_12) .ret))))⟩

/-! horarium/runs.part -/
def runs_part_0 : List TO := [⟨(some 2), .mv (.c (.b false)), none⟩]
def runs_part_1 : List TO := [⟨(some 3), .mv (.t 0), none⟩,
  ⟨(some 4), .bin .geq (.t 3) (.c (.i .i64 (-1))), none⟩,
  ⟨(some 5), .mv (.t 4), none⟩,
  ⟨(some 6), .mv (.t 0), some (5, true)⟩,
  ⟨(some 7), .bin .lss (.t 6) (.c (.i .i64 6)), some (5, true)⟩,
  ⟨(some 8), .pick (.t 5) (.t 7) (.c (.b false)), none⟩,
  ⟨(some 2), .mv (.t 8), none⟩]
def t_runs_part : TF := ⟨9, [.t 2], (.seq (.reg runs_part_0) (.seq (.reg runs_part_1) .ret))⟩

/-! horarium/horariumref3.Size -/
def horariumref3_Size_0 : List TO := [⟨(some 4), .mv (.c (.i .i64 0)), none⟩]
def horariumref3_Size_1 : List TO := [⟨(some 7), .mv (.t 1), none⟩,
  ⟨(some 8), .bin .lss (.t 7) (.c (.i .i64 0)), none⟩,
  ⟨(some 9), .mv (.t 8), none⟩,
  ⟨(some 10), .mv (.t 1), some (9, false)⟩,
  ⟨(some 11), .mv (.t 0), some (9, false)⟩,
  ⟨(some 12), .len (.t 11), some (9, false)⟩,
  ⟨(some 13), .bin .geq (.t 10) (.t 12), some (9, false)⟩,
  ⟨(some 14), .pick (.t 9) (.c (.b true)) (.t 13), none⟩]
def horariumref3_Size_2 : List TO := [⟨(some 4), .mv (.c (.i .i64 0)), none⟩]
def horariumref3_Size_3 : List TO := [⟨(some 5), .mv (.c (.i .i64 1)), none⟩]
def horariumref3_Size_4 : List TO := [⟨(some 15), .mv (.t 1), none⟩,
  ⟨(some 6), .mv (.t 15), none⟩]
def horariumref3_Size_5 : List TO := [⟨(some 16), .mv (.t 6), none⟩,
  ⟨(some 17), .mv (.t 0), none⟩,
  ⟨(some 18), .len (.t 17), none⟩,
  ⟨(some 19), .bin .lss (.t 16) (.t 18), none⟩]
def horariumref3_Size_6 : List TO := [⟨(some 22), .mv (.t 0), none⟩,
  ⟨(some 23), .mv (.t 6), none⟩,
  ⟨(some 24), .iad 3 (.t 22) (.t 23), none⟩,
  ⟨(some 25), .load 3 true (.t 24), none⟩,
  ⟨(some 26), .call (.fn i_horariumref3_fine) [(.t 25)], none⟩,
  ⟨(some 27), .un .not (.t 26), none⟩]
def horariumref3_Size_7 : List TO := [⟨(some 4), .mv (.c (.i .i64 0)), none⟩]
def horariumref3_Size_8 : List TO := [⟨(some 28), .mv (.t 5), none⟩,
  ⟨(some 29), .bin .sub (.t 28) (.c (.i .i64 1)), none⟩,
  ⟨(some 5), .mv (.t 29), none⟩]
def horariumref3_Size_9 : List TO := [⟨(some 30), .mv (.t 0), none⟩,
  ⟨(some 31), .mv (.t 6), none⟩,
  ⟨(some 32), .iad 3 (.t 30) (.t 31), none⟩,
  ⟨(some 33), .fad 0 (.t 32), none⟩,
  ⟨(some 34), .load 1 false (.t 33), none⟩,
  ⟨(some 35), .bin .eql (.t 34) (.c (.i .i64 3)), none⟩]
def horariumref3_Size_10 : List TO := [⟨(some 36), .mv (.t 5), none⟩,
  ⟨(some 37), .mv (.t 0), none⟩,
  ⟨(some 38), .mv (.t 6), none⟩,
  ⟨(some 39), .iad 3 (.t 37) (.t 38), none⟩,
  ⟨(some 40), .fad 2 (.t 39), none⟩,
  ⟨(some 41), .load 1 false (.t 40), none⟩,
  ⟨(some 42), .bin .add (.t 36) (.t 41), none⟩,
  ⟨(some 5), .mv (.t 42), none⟩]
def horariumref3_Size_11 : List TO := [⟨(some 43), .mv (.t 0), none⟩,
  ⟨(some 44), .mv (.t 6), none⟩,
  ⟨(some 45), .iad 3 (.t 43) (.t 44), none⟩,
  ⟨(some 46), .fad 0 (.t 45), none⟩,
  ⟨(some 47), .load 1 false (.t 46), none⟩,
  ⟨(some 48), .bin .eql (.t 47) (.c (.i .i64 4)), none⟩]
def horariumref3_Size_12 : List TO := [⟨(some 49), .mv (.t 5), none⟩,
  ⟨(some 50), .bin .add (.t 49) (.c (.i .i64 1)), none⟩,
  ⟨(some 5), .mv (.t 50), none⟩]
def horariumref3_Size_13 : List TO := [⟨(some 51), .mv (.t 5), none⟩,
  ⟨(some 52), .bin .eql (.t 51) (.c (.i .i64 0)), none⟩]
def horariumref3_Size_14 : List TO := [⟨(some 53), .mv (.t 6), none⟩,
  ⟨(some 54), .mv (.t 1), none⟩,
  ⟨(some 55), .bin .sub (.t 53) (.t 54), none⟩,
  ⟨(some 56), .bin .add (.t 55) (.c (.i .i64 1)), none⟩,
  ⟨(some 4), .mv (.t 56), none⟩]
def horariumref3_Size_15 : List TO := [⟨(some 20), .mv (.t 6), none⟩,
  ⟨(some 21), .bin .add (.t 20) (.c (.i .i64 1)), none⟩,
  ⟨(some 6), .mv (.t 21), none⟩]
def horariumref3_Size_16 : TC := (.seq (.seq (.reg horariumref3_Size_5) (.cond (.t 19) .skip (.exit 0))) (.seq (.block 1 (.seq (.seq (.reg horariumref3_Size_6) (.cond (.t 27) (.seq (.reg horariumref3_Size_7) .ret) .skip)) (.seq (.reg horariumref3_Size_8) (.seq (.seq (.reg horariumref3_Size_9) (.cond (.t 35) (.reg horariumref3_Size_10) .skip)) (.seq (.seq (.reg horariumref3_Size_11) (.cond (.t 48) (.reg horariumref3_Size_12) .skip)) (.seq (.reg horariumref3_Size_13) (.cond (.t 52) (.seq (.reg horariumref3_Size_14) .ret) .skip))))))) (.reg horariumref3_Size_15)))
def horariumref3_Size_17 : List TO := [⟨(some 4), .mv (.c (.i .i64 0)), none⟩]
def t_horariumref3_Size : TF := ⟨57, [.t 4], (.seq (.reg horariumref3_Size_0) (.seq (.seq (.reg horariumref3_Size_1) (.cond (.t 14) (.seq (.reg horariumref3_Size_2) .ret) .skip)) (.seq (.reg horariumref3_Size_3) (.seq (.seq (.reg horariumref3_Size_4) (.block 0 (.loop horariumref3_Size_16))) (.seq (.reg horariumref3_Size_17) .ret)))))⟩

/-! horarium/horariumref3.depth -/
def horariumref3_depth_0 : List TO := [⟨(some 4), .mv (.c (.i .i64 0)), none⟩]
def horariumref3_depth_1 : List TO := [⟨(some 5), .mv (.c (.i .i64 0)), none⟩]
def horariumref3_depth_2 : List TO := [⟨(some 8), .mv (.t 0), none⟩,
  ⟨(some 9), .mv (.t 1), none⟩,
  ⟨(some 10), .call (.fn i_horariumref3_Kids) [(.t 8), (.t 9)], none⟩,
  ⟨(some 11), .len (.t 10), none⟩,
  ⟨(some 12), .mv (.c (.i .i64 0)), none⟩]
def horariumref3_depth_3 : List TO := [⟨(some 13), .bin .lss (.t 12) (.t 11), none⟩]
def horariumref3_depth_4 : List TO := [⟨(some 14), .iad 1 (.t 10) (.t 12), none⟩,
  ⟨(some 15), .load 1 false (.t 14), none⟩,
  ⟨(some 7), .mv (.t 15), none⟩]
def horariumref3_depth_5 : List TO := [⟨(some 16), .mv (.t 5), none⟩,
  ⟨(some 17), .mv (.t 0), none⟩,
  ⟨(some 18), .mv (.t 7), none⟩,
  ⟨(some 19), .call (.fn i_horariumref3_depth) [(.t 17), (.t 18)], none⟩,
  ⟨(some 20), .mx [(.t 16), (.t 19)], none⟩,
  ⟨(some 5), .mv (.t 20), none⟩]
def horariumref3_depth_6 : List TO := [⟨(some 21), .bin .add (.t 12) (.c (.i .i64 1)), none⟩,
  ⟨(some 12), .mv (.t 21), none⟩]
def horariumref3_depth_7 : TC := (.seq (.reg horariumref3_depth_3) (.seq (.cond (.t 13) .skip (.exit 0)) (.seq (.block 1 (.seq (.reg horariumref3_depth_4) (.reg horariumref3_depth_5))) (.reg horariumref3_depth_6))))
def horariumref3_depth_8 : List TO := [⟨(some 22), .mv (.t 5), none⟩,
  ⟨(some 23), .bin .add (.t 22) (.c (.i .i64 1)), none⟩,
  ⟨(some 4), .mv (.t 23), none⟩]
def t_horariumref3_depth : TF := ⟨24, [.t 4], (.seq (.reg horariumref3_depth_0) (.seq (.reg horariumref3_depth_1) (.seq (.seq (.reg horariumref3_depth_2) (.block 0 (.loop horariumref3_depth_7))) (.seq (.reg horariumref3_depth_8) .ret))))⟩

/-! horarium/horariumref3.Kids -/
def horariumref3_Kids_0 : List TO := [⟨(some 4), .mv (.c .ns), none⟩]
def horariumref3_Kids_1 : List TO := [⟨(some 8), .mv (.t 0), none⟩,
  ⟨(some 9), .mv (.t 1), none⟩,
  ⟨(some 10), .call (.fn i_horariumref3_Size) [(.t 8), (.t 9)], none⟩,
  ⟨(some 5), .mv (.t 10), none⟩]
def horariumref3_Kids_2 : List TO := [⟨(some 6), .mv (.c .ns), none⟩]
def horariumref3_Kids_3 : List TO := [⟨(some 11), .mv (.t 1), none⟩,
  ⟨(some 12), .bin .add (.t 11) (.c (.i .i64 1)), none⟩,
  ⟨(some 7), .mv (.t 12), none⟩]
def horariumref3_Kids_4 : List TO := [⟨(some 13), .mv (.t 7), none⟩,
  ⟨(some 14), .mv (.t 1), none⟩,
  ⟨(some 15), .mv (.t 5), none⟩,
  ⟨(some 16), .bin .add (.t 14) (.t 15), none⟩,
  ⟨(some 17), .bin .lss (.t 13) (.t 16), none⟩]
def horariumref3_Kids_5 : List TO := [⟨(some 23), .mv (.t 6), none⟩,
  ⟨(some 24), .mv (.t 7), none⟩,
  ⟨(some 25), .bsl 1 [(.i .i64 0)] 1 [(0, (.t 24))], none⟩,
  ⟨(some 26), .app 1 (.t 23) (.t 25), none⟩,
  ⟨(some 6), .mv (.t 26), none⟩]
def horariumref3_Kids_6 : List TO := [⟨(some 18), .mv (.t 7), none⟩,
  ⟨(some 19), .mv (.t 0), none⟩,
  ⟨(some 20), .mv (.t 7), none⟩,
  ⟨(some 21), .call (.fn i_horariumref3_Size) [(.t 19), (.t 20)], none⟩,
  ⟨(some 22), .bin .add (.t 18) (.t 21), none⟩,
  ⟨(some 7), .mv (.t 22), none⟩]
def horariumref3_Kids_7 : TC := (.seq (.seq (.reg horariumref3_Kids_4) (.cond (.t 17) .skip (.exit 0))) (.seq (.block 1 (.reg horariumref3_Kids_5)) (.reg horariumref3_Kids_6)))
def horariumref3_Kids_8 : List TO := [⟨(some 27), .mv (.t 6), none⟩,
  ⟨(some 4), .mv (.t 27), none⟩]
def t_horariumref3_Kids : TF := ⟨28, [.t 4], (.seq (.reg horariumref3_Kids_0) (.seq (.reg horariumref3_Kids_1) (.seq (.reg horariumref3_Kids_2) (.seq (.seq (.reg horariumref3_Kids_3) (.block 0 (.loop horariumref3_Kids_7))) (.seq (.reg horariumref3_Kids_8) .ret)))))⟩

/-! horarium/horariumref3.leaves -/
def horariumref3_leaves_0 : List TO := [⟨(some 6), .mv (.c .ns), none⟩]
def horariumref3_leaves_1 : List TO := [⟨(some 10), .mv (.t 0), none⟩,
  ⟨(some 11), .mv (.t 1), none⟩,
  ⟨(some 12), .iad 3 (.t 10) (.t 11), none⟩,
  ⟨(some 13), .fad 0 (.t 12), none⟩,
  ⟨(some 14), .load 1 false (.t 13), none⟩]
def horariumref3_leaves_2 : List TO := [⟨(some 16), .bin .eql (.t 14) (.c (.i .i64 1)), none⟩,
  ⟨(some 15), .mv (.t 16), none⟩]
def horariumref3_leaves_3 : List (Bool × List TO) := [(true, [⟨(some 17), .mv (.t 2), none⟩,
  ⟨(some 18), .mv (.t 0), none⟩,
  ⟨(some 19), .mv (.t 1), none⟩,
  ⟨(some 20), .iad 3 (.t 18) (.t 19), none⟩,
  ⟨(some 21), .fad 1 (.t 20), none⟩,
  ⟨(some 22), .load 1 false (.t 21), none⟩,
  ⟨(some 23), .mv (.t 0), none⟩,
  ⟨(some 24), .mv (.t 1), none⟩,
  ⟨(some 25), .iad 3 (.t 23) (.t 24), none⟩,
  ⟨(some 26), .fad 2 (.t 25), none⟩,
  ⟨(some 27), .load 1 false (.t 26), none⟩,
  ⟨(some 28), .build [(.i .i64 0), (.i .i64 0)] [(0, 1, (.t 22)), (1, 1, (.t 27))], none⟩,
  ⟨(some 29), .bsl 2 [(.i .i64 0), (.i .i64 0)] 1 [(0, (.t 28))], none⟩]), (false, [⟨(some 30), .app 2 (.t 17) (.t 29), none⟩]), (true, [⟨(some 6), .mv (.t 30), none⟩])]
def horariumref3_leaves_4 : List TO := [⟨(some 32), .bin .eql (.t 14) (.c (.i .i64 2)), none⟩,
  ⟨(some 31), .mv (.t 32), none⟩]
def horariumref3_leaves_5 : List TO := [⟨(some 33), .mv (.t 2), none⟩,
  ⟨(some 34), .mv (.t 0), none⟩,
  ⟨(some 35), .mv (.t 1), none⟩,
  ⟨(some 36), .iad 3 (.t 34) (.t 35), none⟩,
  ⟨(some 37), .fad 2 (.t 36), none⟩,
  ⟨(some 38), .load 1 false (.t 37), none⟩,
  ⟨(some 39), .build [(.i .i64 0), (.i .i64 0)] [(0, 1, (.c (.i .i64 (-1)))), (1, 1, (.t 38))], none⟩,
  ⟨(some 40), .bsl 2 [(.i .i64 0), (.i .i64 0)] 1 [(0, (.t 39))], none⟩,
  ⟨(some 41), .app 2 (.t 33) (.t 40), none⟩,
  ⟨(some 6), .mv (.t 41), none⟩]
def horariumref3_leaves_6 : List TO := [⟨(some 43), .bin .eql (.t 14) (.c (.i .i64 4)), none⟩,
  ⟨(some 42), .mv (.t 43), none⟩]
def horariumref3_leaves_7 : List TO := [⟨(some 7), .mv (.c (.i .i64 0)), none⟩]
def horariumref3_leaves_8 : List TO := [⟨(some 44), .mv (.t 7), none⟩,
  ⟨(some 45), .mv (.t 0), none⟩,
  ⟨(some 46), .mv (.t 1), none⟩,
  ⟨(some 47), .iad 3 (.t 45) (.t 46), none⟩,
  ⟨(some 48), .fad 2 (.t 47), none⟩,
  ⟨(some 49), .load 1 false (.t 48), none⟩,
  ⟨(some 50), .bin .lss (.t 44) (.t 49), none⟩]
def horariumref3_leaves_9 : List TO := [⟨(some 53), .mv (.t 0), none⟩,
  ⟨(some 54), .mv (.t 1), none⟩,
  ⟨(some 55), .bin .add (.t 54) (.c (.i .i64 1)), none⟩,
  ⟨(some 56), .mv (.t 2), none⟩,
  ⟨(some 57), .call (.fn i_horariumref3_leaves) [(.t 53), (.t 55), (.t 56)], none⟩,
  ⟨(some 2), .mv (.t 57), none⟩]
def horariumref3_leaves_10 : List TO := [⟨(some 51), .mv (.t 7), none⟩,
  ⟨(some 52), .bin .add (.t 51) (.c (.i .i64 1)), none⟩,
  ⟨(some 7), .mv (.t 52), none⟩]
def horariumref3_leaves_11 : TC := (.seq (.seq (.reg horariumref3_leaves_8) (.cond (.t 50) .skip (.exit 1))) (.seq (.block 2 (.reg horariumref3_leaves_9)) (.reg horariumref3_leaves_10)))
def horariumref3_leaves_12 : List TO := [⟨(some 58), .mv (.t 2), none⟩,
  ⟨(some 6), .mv (.t 58), none⟩]
def horariumref3_leaves_13 : List TO := [⟨(some 59), .mv (.t 0), none⟩,
  ⟨(some 60), .mv (.t 1), none⟩,
  ⟨(some 61), .call (.fn i_horariumref3_Kids) [(.t 59), (.t 60)], none⟩,
  ⟨(some 62), .len (.t 61), none⟩,
  ⟨(some 63), .mv (.c (.i .i64 0)), none⟩]
def horariumref3_leaves_14 : List TO := [⟨(some 64), .bin .lss (.t 63) (.t 62), none⟩]
def horariumref3_leaves_15 : List TO := [⟨(some 65), .iad 1 (.t 61) (.t 63), none⟩,
  ⟨(some 66), .load 1 false (.t 65), none⟩,
  ⟨(some 9), .mv (.t 66), none⟩]
def horariumref3_leaves_16 : List TO := [⟨(some 67), .mv (.t 0), none⟩,
  ⟨(some 68), .mv (.t 9), none⟩,
  ⟨(some 69), .mv (.t 2), none⟩,
  ⟨(some 70), .call (.fn i_horariumref3_leaves) [(.t 67), (.t 68), (.t 69)], none⟩,
  ⟨(some 2), .mv (.t 70), none⟩]
def horariumref3_leaves_17 : List TO := [⟨(some 71), .bin .add (.t 63) (.c (.i .i64 1)), none⟩,
  ⟨(some 63), .mv (.t 71), none⟩]
def horariumref3_leaves_18 : TC := (.seq (.reg horariumref3_leaves_14) (.seq (.cond (.t 64) .skip (.exit 3)) (.seq (.block 4 (.seq (.reg horariumref3_leaves_15) (.reg horariumref3_leaves_16))) (.reg horariumref3_leaves_17))))
def horariumref3_leaves_19 : List TO := [⟨(some 72), .mv (.t 2), none⟩,
  ⟨(some 6), .mv (.t 72), none⟩]
def t_horariumref3_leaves : TF := ⟨73, [.t 6], (.seq (.reg horariumref3_leaves_0) (.seq (.seq (.reg horariumref3_leaves_1) (.block 0 (.seq (.reg horariumref3_leaves_2) (.cond (.t 15) (.seq (.dreg horariumref3_leaves_3) .ret) (.seq (.reg horariumref3_leaves_4) (.cond (.t 31) (.seq (.reg horariumref3_leaves_5) .ret) (.seq (.reg horariumref3_leaves_6) (.cond (.t 42) (.seq (.seq (.reg horariumref3_leaves_7) (.block 1 (.loop horariumref3_leaves_11))) (.seq (.reg horariumref3_leaves_12) .ret)) .skip)))))))) (.seq (.seq (.reg horariumref3_leaves_13) (.block 3 (.loop horariumref3_leaves_18))) (.seq (.reg horariumref3_leaves_19) .ret))))⟩

/-! horarium/node.Length -/
def node_Length_0 : List TO := [⟨(some 2), .mv (.c (.i .i64 0)), none⟩,
  ⟨(some 3), .mv (.c (.b false)), none⟩]
def node_Length_1 : List TO := [⟨(some 6), .mv (.t 0), none⟩,
  ⟨(some 7), .call (.fn i_node_whole) [(.t 6)], none⟩,
  ⟨(some 8), .un .not (.t 7), none⟩]
def node_Length_2 : List TO := [⟨(some 2), .mv (.c (.i .i64 0)), none⟩,
  ⟨(some 3), .mv (.c (.b false)), none⟩]
def node_Length_3 : List TO := [⟨(some 10), .mv (.t 0), none⟩,
  ⟨(some 11), .call (.fn i_node_measure) [(.t 10)], none⟩,
  ⟨(some 9), .mv (.t 11), none⟩,
  ⟨(some 12), .ext (.t 9) 0, none⟩,
  ⟨(some 13), .ext (.t 9) 1, none⟩,
  ⟨(some 4), .mv (.t 12), none⟩,
  ⟨(some 5), .mv (.t 13), none⟩]
def node_Length_4 : List TO := [⟨(some 14), .mv (.t 5), none⟩,
  ⟨(some 15), .bin .leq (.t 14) (.c (.i .i64 4096)), none⟩]
def node_Length_5 : List TO := [⟨(some 16), .mv (.t 5), none⟩,
  ⟨(some 2), .mv (.t 16), none⟩,
  ⟨(some 3), .mv (.c (.b true)), none⟩]
def node_Length_6 : List TO := [⟨(some 2), .mv (.c (.i .i64 0)), none⟩,
  ⟨(some 3), .mv (.c (.b false)), none⟩]
def t_node_Length : TF := ⟨17, [.t 2, .t 3], (.seq (.reg node_Length_0) (.seq (.seq (.reg node_Length_1) (.cond (.t 8) (.seq (.reg node_Length_2) .ret) .skip)) (.seq (.seq (.reg node_Length_3) (.seq (.reg node_Length_4) (.cond (.t 15) (.seq (.reg node_Length_5) .ret) .skip))) (.seq (.reg node_Length_6) .ret))))⟩

/-! horarium/node.whole -/
def node_whole_0 : List TO := [⟨(some 2), .mv (.c (.b false)), none⟩]
def node_whole_1 : List TO := [⟨(some 3), .mv (.t 0), none⟩,
  ⟨(some 4), .len (.t 3), none⟩,
  ⟨(some 5), .bin .gtr (.t 4) (.c (.i .i64 0)), none⟩,
  ⟨(some 6), .mv (.t 5), none⟩,
  ⟨(some 7), .mv (.t 0), some (6, true)⟩,
  ⟨(some 8), .call (.fn i_node_Size) [(.t 7), (.c (.i .i64 0))], some (6, true)⟩,
  ⟨(some 9), .mv (.t 0), some (6, true)⟩,
  ⟨(some 10), .len (.t 9), some (6, true)⟩,
  ⟨(some 11), .bin .eql (.t 8) (.t 10), some (6, true)⟩,
  ⟨(some 12), .pick (.t 6) (.t 11) (.c (.b false)), none⟩,
  ⟨(some 2), .mv (.t 12), none⟩]
def t_node_whole : TF := ⟨13, [.t 2], (.seq (.reg node_whole_0) (.seq (.reg node_whole_1) .ret))⟩

/-! horarium/node.Depth -/
def node_Depth_0 : List TO := [⟨(some 2), .mv (.c (.i .i64 0)), none⟩]
def node_Depth_1 : List TO := [⟨(some 5), .mv (.t 0), none⟩,
  ⟨(some 6), .call (.fn i_node_whole) [(.t 5)], none⟩,
  ⟨(some 7), .un .not (.t 6), none⟩]
def node_Depth_2 : List TO := [⟨(some 2), .mv (.c (.i .i64 0)), none⟩]
def node_Depth_3 : List TO := [⟨(some 9), .mv (.t 0), none⟩,
  ⟨(some 10), .call (.fn i_node_measure) [(.t 9)], none⟩,
  ⟨(some 8), .mv (.t 10), none⟩,
  ⟨(some 11), .ext (.t 8) 0, none⟩,
  ⟨(some 12), .ext (.t 8) 1, none⟩,
  ⟨(some 3), .mv (.t 11), none⟩,
  ⟨(some 4), .mv (.t 12), none⟩]
def node_Depth_4 : List TO := [⟨(some 13), .mv (.t 3), none⟩,
  ⟨(some 2), .mv (.t 13), none⟩]
def t_node_Depth : TF := ⟨14, [.t 2], (.seq (.reg node_Depth_0) (.seq (.seq (.reg node_Depth_1) (.cond (.t 7) (.seq (.reg node_Depth_2) .ret) .skip)) (.seq (.reg node_Depth_3) (.seq (.reg node_Depth_4) .ret))))⟩

/-! horarium/horariumref3.Sum -/
def horariumref3_Sum_0 : List TO := [⟨(some 4), .mv (.c (.i .i64 0)), none⟩]
def horariumref3_Sum_1 : List TO := [⟨(some 5), .mv (.t 0), none⟩,
  ⟨(some 6), .mx [(.t 5), (.c (.i .i64 0))], none⟩,
  ⟨(some 7), .mv (.t 1), none⟩,
  ⟨(some 8), .mx [(.t 7), (.c (.i .i64 0))], none⟩,
  ⟨(some 0), .mv (.t 6), none⟩,
  ⟨(some 1), .mv (.t 8), none⟩]
def horariumref3_Sum_2 : List TO := [⟨(some 9), .mv (.t 0), none⟩,
  ⟨(some 10), .mv (.t 1), none⟩,
  ⟨(some 11), .bin .sub (.c (.i .i64 9223372036854775807)) (.t 10), none⟩,
  ⟨(some 12), .bin .gtr (.t 9) (.t 11), none⟩]
def horariumref3_Sum_3 : List TO := [⟨(some 4), .mv (.c (.i .i64 9223372036854775807)), none⟩]
def horariumref3_Sum_4 : List TO := [⟨(some 13), .mv (.t 0), none⟩,
  ⟨(some 14), .mv (.t 1), none⟩,
  ⟨(some 15), .bin .add (.t 13) (.t 14), none⟩,
  ⟨(some 4), .mv (.t 15), none⟩]
def t_horariumref3_Sum : TF := ⟨16, [.t 4], (.seq (.reg horariumref3_Sum_0) (.seq (.reg horariumref3_Sum_1) (.seq (.seq (.reg horariumref3_Sum_2) (.cond (.t 12) (.seq (.reg horariumref3_Sum_3) .ret) .skip)) (.seq (.reg horariumref3_Sum_4) .ret))))⟩

/-! horarium/horariumref3.fine -/
def horariumref3_fine_0 : List TO := [⟨(some 1), .box (.t 0), none⟩,
  ⟨(some 2), .mv (.c (.b false)), none⟩]
def horariumref3_fine_1 : List TO := [⟨(some 3), .fad 0 (.t 1), none⟩,
  ⟨(some 4), .load 1 false (.t 3), none⟩]
def horariumref3_fine_2 : List TO := [⟨(some 6), .bin .eql (.t 4) (.c (.i .i64 1)), none⟩,
  ⟨(some 5), .mv (.t 6), none⟩]
def horariumref3_fine_3 : List TO := [⟨(some 7), .fad 1 (.t 1), none⟩,
  ⟨(some 8), .load 1 false (.t 7), none⟩,
  ⟨(some 9), .bin .geq (.t 8) (.c (.i .i64 0)), none⟩,
  ⟨(some 10), .mv (.t 9), none⟩,
  ⟨(some 11), .fad 1 (.t 1), some (10, true)⟩,
  ⟨(some 12), .load 1 false (.t 11), some (10, true)⟩,
  ⟨(some 13), .bin .lss (.t 12) (.c (.i .i64 6)), some (10, true)⟩,
  ⟨(some 14), .pick (.t 10) (.t 13) (.c (.b false)), none⟩,
  ⟨(some 15), .mv (.t 14), none⟩,
  ⟨(some 16), .fad 2 (.t 1), some (15, true)⟩,
  ⟨(some 17), .load 1 false (.t 16), some (15, true)⟩,
  ⟨(some 18), .bin .geq (.t 17) (.c (.i .i64 1)), some (15, true)⟩,
  ⟨(some 19), .pick (.t 15) (.t 18) (.c (.b false)), none⟩,
  ⟨(some 2), .mv (.t 19), none⟩]
def horariumref3_fine_4 : List TO := [⟨(some 21), .bin .eql (.t 4) (.c (.i .i64 2)), none⟩,
  ⟨(some 20), .mv (.t 21), none⟩]
def horariumref3_fine_5 : List TO := [⟨(some 22), .bin .eql (.t 4) (.c (.i .i64 4)), none⟩,
  ⟨(some 20), .mv (.t 22), none⟩]
def horariumref3_fine_6 : List TO := [⟨(some 23), .fad 1 (.t 1), none⟩,
  ⟨(some 24), .load 1 false (.t 23), none⟩,
  ⟨(some 25), .bin .eql (.t 24) (.c (.i .i64 0)), none⟩,
  ⟨(some 26), .mv (.t 25), none⟩,
  ⟨(some 27), .fad 2 (.t 1), some (26, true)⟩,
  ⟨(some 28), .load 1 false (.t 27), some (26, true)⟩,
  ⟨(some 29), .bin .geq (.t 28) (.c (.i .i64 1)), some (26, true)⟩,
  ⟨(some 30), .pick (.t 26) (.t 29) (.c (.b false)), none⟩,
  ⟨(some 2), .mv (.t 30), none⟩]
def horariumref3_fine_7 : List TO := [⟨(some 32), .bin .eql (.t 4) (.c (.i .i64 3)), none⟩,
  ⟨(some 31), .mv (.t 32), none⟩]
def horariumref3_fine_8 : List TO := [⟨(some 33), .fad 1 (.t 1), none⟩,
  ⟨(some 34), .load 1 false (.t 33), none⟩,
  ⟨(some 35), .bin .eql (.t 34) (.c (.i .i64 0)), none⟩,
  ⟨(some 36), .mv (.t 35), none⟩,
  ⟨(some 37), .fad 2 (.t 1), some (36, true)⟩,
  ⟨(some 38), .load 1 false (.t 37), some (36, true)⟩,
  ⟨(some 39), .bin .geq (.t 38) (.c (.i .i64 1)), some (36, true)⟩,
  ⟨(some 40), .pick (.t 36) (.t 39) (.c (.b false)), none⟩,
  ⟨(some 41), .mv (.t 40), none⟩,
  ⟨(some 42), .fad 2 (.t 1), some (41, true)⟩,
  ⟨(some 43), .load 1 false (.t 42), some (41, true)⟩,
  ⟨(some 44), .bin .leq (.t 43) (.c (.i .i64 128)), some (41, true)⟩,
  ⟨(some 45), .pick (.t 41) (.t 44) (.c (.b false)), none⟩,
  ⟨(some 2), .mv (.t 45), none⟩]
def horariumref3_fine_9 : List TO := [⟨(some 2), .mv (.c (.b false)), none⟩]
def t_horariumref3_fine : TF := ⟨46, [.t 2], (.seq (.reg horariumref3_fine_0) (.seq (.seq (.reg horariumref3_fine_1) (.block 0 (.seq (.reg horariumref3_fine_2) (.cond (.t 5) (.seq (.reg horariumref3_fine_3) .ret) (.seq (.seq (.reg horariumref3_fine_4) (.cond (.t 20) .skip (.reg horariumref3_fine_5))) (.cond (.t 20) (.seq (.reg horariumref3_fine_6) .ret) (.seq (.reg horariumref3_fine_7) (.cond (.t 31) (.seq (.reg horariumref3_fine_8) .ret) .skip)))))))) (.seq (.reg horariumref3_fine_9) .ret)))⟩

/-! horarium/node.measure -/
def node_measure_0 : List TO := [⟨(some 2), .mv (.c (.i .i64 0)), none⟩,
  ⟨(some 3), .mv (.c (.i .i64 0)), none⟩]
def node_measure_1 : List TO := [⟨(some 10), .build [(.i .i64 0), (.i .i64 0), (.i .i64 0), (.i .i64 0), (.i .i64 0), (.i .i64 0)] [(3, 1, (.c (.i .i64 1)))], none⟩,
  ⟨(some 11), .bsl 6 [(.i .i64 0), (.i .i64 0), (.i .i64 0), (.i .i64 0), (.i .i64 0), (.i .i64 0)] 1 [(0, (.t 10))], none⟩,
  ⟨(some 4), .mv (.t 11), none⟩]
def node_measure_2 : List TO := [⟨(some 12), .mv (.t 0), none⟩,
  ⟨(some 13), .len (.t 12), none⟩,
  ⟨(some 14), .mv (.c (.i .i64 0)), none⟩]
def node_measure_3 : List TO := [⟨(some 15), .bin .lss (.t 14) (.t 13), none⟩]
def node_measure_4 : List TO := [⟨(some 16), .iad 3 (.t 12) (.t 14), none⟩,
  ⟨(some 17), .load 3 true (.t 16), none⟩,
  ⟨(some 6), .alloc [(.i .i64 0), (.i .i64 0), (.i .i64 0)], none⟩,
  ⟨none, .store 3 (.t 6) (.t 17), none⟩]
def node_measure_5 : List (Bool × List TO) := [(true, [⟨(some 18), .mv (.t 4), none⟩,
  ⟨(some 19), .load 3 true (.t 6), none⟩,
  ⟨(some 20), .load 3 true (.t 6), none⟩,
  ⟨(some 21), .call (.fn i_node_kids) [(.t 20)], none⟩,
  ⟨(some 22), .build [(.i .i64 0), (.i .i64 0), (.i .i64 0), (.i .i64 0), (.i .i64 0), (.i .i64 0)] [(0, 3, (.t 19)), (3, 1, (.t 21))], none⟩,
  ⟨(some 23), .bsl 6 [(.i .i64 0), (.i .i64 0), (.i .i64 0), (.i .i64 0), (.i .i64 0), (.i .i64 0)] 1 [(0, (.t 22))], none⟩]), (false, [⟨(some 24), .app 6 (.t 18) (.t 23), none⟩]), (true, [⟨(some 4), .mv (.t 24), none⟩])]
def node_measure_6 : List TO := [⟨(some 25), .mv (.t 4), none⟩,
  ⟨(some 26), .len (.t 25), none⟩,
  ⟨(some 27), .bin .sub (.t 26) (.c (.i .i64 1)), none⟩,
  ⟨(some 7), .mv (.t 27), none⟩]
def node_measure_7 : List TO := [⟨(some 28), .mv (.t 4), none⟩,
  ⟨(some 29), .mv (.t 7), none⟩,
  ⟨(some 30), .iad 6 (.t 28) (.t 29), none⟩,
  ⟨(some 31), .fad 3 (.t 30), none⟩,
  ⟨(some 32), .load 1 false (.t 31), none⟩,
  ⟨(some 33), .bin .eql (.t 32) (.c (.i .i64 0)), none⟩]
def node_measure_8 : List TO := [⟨(some 34), .mv (.t 4), none⟩,
  ⟨(some 35), .mv (.t 7), none⟩,
  ⟨(some 36), .fad 2 (.t 6), none⟩,
  ⟨(some 37), .load 1 false (.t 36), none⟩,
  ⟨(some 38), .mn [(.c (.i .i64 4097)), (.t 37)], none⟩,
  ⟨(some 39), .iad 6 (.t 34) (.t 35), none⟩,
  ⟨(some 40), .fad 5 (.t 39), none⟩,
  ⟨none, .store 1 (.t 40) (.t 38), none⟩]
def node_measure_9 : List TO := [⟨(some 41), .mv (.t 4), none⟩,
  ⟨(some 42), .len (.t 41), none⟩,
  ⟨(some 43), .bin .gtr (.t 42) (.c (.i .i64 1)), none⟩,
  ⟨(some 44), .mv (.t 43), none⟩,
  ⟨(some 45), .mv (.t 4), some (44, true)⟩,
  ⟨(some 46), .mv (.t 4), some (44, true)⟩,
  ⟨(some 47), .len (.t 46), some (44, true)⟩,
  ⟨(some 48), .bin .sub (.t 47) (.c (.i .i64 1)), some (44, true)⟩,
  ⟨(some 49), .iad 6 (.t 45) (.t 48), some (44, true)⟩,
  ⟨(some 50), .fad 3 (.t 49), some (44, true)⟩,
  ⟨(some 51), .load 1 false (.t 50), some (44, true)⟩,
  ⟨(some 52), .bin .eql (.t 51) (.c (.i .i64 0)), some (44, true)⟩,
  ⟨(some 53), .pick (.t 44) (.t 52) (.c (.b false)), none⟩]
def node_measure_10 : List (Bool × List TO) := [(true, [⟨(some 54), .mv (.t 4), none⟩,
  ⟨(some 55), .mv (.t 4), none⟩,
  ⟨(some 56), .len (.t 55), none⟩,
  ⟨(some 57), .bin .sub (.t 56) (.c (.i .i64 1)), none⟩,
  ⟨(some 58), .iad 6 (.t 54) (.t 57), none⟩,
  ⟨(some 59), .load 6 true (.t 58), none⟩,
  ⟨(some 60), .mv (.t 4), none⟩,
  ⟨(some 61), .mv (.t 4), none⟩,
  ⟨(some 62), .len (.t 61), none⟩,
  ⟨(some 63), .bin .sub (.t 62) (.c (.i .i64 2)), none⟩,
  ⟨(some 64), .iad 6 (.t 60) (.t 63), none⟩,
  ⟨(some 8), .alloc [(.i .i64 0), (.i .i64 0), (.i .i64 0), (.i .i64 0), (.i .i64 0), (.i .i64 0)], none⟩]), (false, [⟨none, .store 6 (.t 8) (.t 59), none⟩]), (true, [⟨(some 9), .mv (.t 64), none⟩])]
def node_measure_11 : List TO := [⟨(some 65), .mv (.t 4), none⟩,
  ⟨(some 66), .mv (.t 4), none⟩,
  ⟨(some 67), .len (.t 66), none⟩,
  ⟨(some 68), .bin .sub (.t 67) (.c (.i .i64 1)), none⟩,
  ⟨(some 69), .slice 6 (.t 65) none (some (.t 68)) none, none⟩,
  ⟨(some 4), .mv (.t 69), none⟩]
def node_measure_12 : List TO := [⟨(some 70), .fad 0 (.t 8), none⟩,
  ⟨(some 71), .fad 0 (.t 70), none⟩,
  ⟨(some 72), .load 1 false (.t 71), none⟩,
  ⟨(some 73), .bin .eql (.t 72) (.c (.i .i64 4)), none⟩]
def node_measure_13 : List TO := [⟨(some 74), .fad 0 (.t 8), none⟩,
  ⟨(some 75), .fad 2 (.t 74), none⟩,
  ⟨(some 76), .load 1 false (.t 75), none⟩,
  ⟨(some 77), .fad 5 (.t 8), none⟩,
  ⟨(some 78), .load 1 false (.t 77), none⟩,
  ⟨(some 79), .call (.fn i_node_times) [(.t 76), (.t 78)], none⟩,
  ⟨(some 80), .fad 5 (.t 8), none⟩,
  ⟨none, .store 1 (.t 80) (.t 79), none⟩]
def node_measure_14 : List TO := [⟨(some 81), .mv (.t 9), none⟩,
  ⟨(some 82), .nck (.t 81), none⟩,
  ⟨(some 83), .fad 3 (.t 82), none⟩,
  ⟨(some 84), .load 1 false (.t 83), none⟩,
  ⟨(some 85), .bin .sub (.t 84) (.c (.i .i64 1)), none⟩,
  ⟨(some 86), .nck (.t 81), none⟩,
  ⟨(some 87), .fad 3 (.t 86), none⟩,
  ⟨none, .store 1 (.t 87) (.t 85), none⟩]
def node_measure_15 : List (Bool × List TO) := [(true, [⟨(some 88), .mv (.t 9), none⟩,
  ⟨(some 89), .mv (.t 9), none⟩,
  ⟨(some 90), .nck (.t 89), none⟩,
  ⟨(some 91), .fad 4 (.t 90), none⟩,
  ⟨(some 92), .load 1 false (.t 91), none⟩,
  ⟨(some 93), .fad 4 (.t 8), none⟩,
  ⟨(some 94), .load 1 false (.t 93), none⟩,
  ⟨(some 95), .bin .add (.t 94) (.c (.i .i64 1)), none⟩,
  ⟨(some 96), .mx [(.t 92), (.t 95)], none⟩,
  ⟨(some 97), .nck (.t 88), none⟩,
  ⟨(some 98), .fad 4 (.t 97), none⟩]), (false, [⟨none, .store 1 (.t 98) (.t 96), none⟩])]
def node_measure_16 : List (Bool × List TO) := [(true, [⟨(some 99), .mv (.t 9), none⟩,
  ⟨(some 100), .mv (.t 9), none⟩,
  ⟨(some 101), .nck (.t 100), none⟩,
  ⟨(some 102), .fad 5 (.t 101), none⟩,
  ⟨(some 103), .load 1 false (.t 102), none⟩,
  ⟨(some 104), .fad 5 (.t 8), none⟩,
  ⟨(some 105), .load 1 false (.t 104), none⟩,
  ⟨(some 106), .call (.fn i_node_add) [(.t 103), (.t 105)], none⟩,
  ⟨(some 107), .nck (.t 99), none⟩,
  ⟨(some 108), .fad 5 (.t 107), none⟩]), (false, [⟨none, .store 1 (.t 108) (.t 106), none⟩])]
def node_measure_17 : TC := (.seq (.seq (.reg node_measure_9) (.cond (.t 53) .skip (.exit 2))) (.block 3 (.seq (.dreg node_measure_10) (.seq (.reg node_measure_11) (.seq (.seq (.reg node_measure_12) (.cond (.t 73) (.reg node_measure_13) .skip)) (.seq (.reg node_measure_14) (.seq (.dreg node_measure_15) (.dreg node_measure_16))))))))
def node_measure_18 : List TO := [⟨(some 109), .bin .add (.t 14) (.c (.i .i64 1)), none⟩,
  ⟨(some 14), .mv (.t 109), none⟩]
def node_measure_19 : TC := (.seq (.reg node_measure_3) (.seq (.cond (.t 15) .skip (.exit 0)) (.seq (.block 1 (.seq (.reg node_measure_4) (.seq (.dreg node_measure_5) (.seq (.seq (.reg node_measure_6) (.seq (.reg node_measure_7) (.cond (.t 33) (.reg node_measure_8) .skip))) (.block 2 (.loop node_measure_17)))))) (.reg node_measure_18))))
def node_measure_20 : List (Bool × List TO) := [(true, [⟨(some 110), .mv (.t 4), none⟩,
  ⟨(some 111), .iad 6 (.t 110) (.c (.i .i64 0)), none⟩,
  ⟨(some 112), .fad 4 (.t 111), none⟩,
  ⟨(some 113), .load 1 false (.t 112), none⟩,
  ⟨(some 114), .mv (.t 4), none⟩,
  ⟨(some 115), .iad 6 (.t 114) (.c (.i .i64 0)), none⟩,
  ⟨(some 116), .fad 5 (.t 115), none⟩,
  ⟨(some 117), .load 1 false (.t 116), none⟩,
  ⟨(some 2), .mv (.t 113), none⟩,
  ⟨(some 3), .mv (.t 117), none⟩])]
def t_node_measure : TF := ⟨118, [.t 2, .t 3], (.seq (.reg node_measure_0) (.seq (.reg node_measure_1) (.seq (.seq (.reg node_measure_2) (.block 0 (.loop node_measure_19))) (.seq (.dreg node_measure_20) .ret))))⟩

/-! horarium/node.Size -/
def node_Size_0 : List TO := [⟨(some 4), .mv (.c (.i .i64 0)), none⟩]
def node_Size_1 : List TO := [⟨(some 8), .mv (.t 1), none⟩,
  ⟨(some 9), .bin .lss (.t 8) (.c (.i .i64 0)), none⟩,
  ⟨(some 10), .mv (.t 9), none⟩,
  ⟨(some 11), .mv (.t 1), some (10, false)⟩,
  ⟨(some 12), .mv (.t 0), some (10, false)⟩,
  ⟨(some 13), .len (.t 12), some (10, false)⟩,
  ⟨(some 14), .bin .geq (.t 11) (.t 13), some (10, false)⟩,
  ⟨(some 15), .pick (.t 10) (.c (.b true)) (.t 14), none⟩]
def node_Size_2 : List TO := [⟨(some 4), .mv (.c (.i .i64 0)), none⟩]
def node_Size_3 : List TO := [⟨(some 5), .mv (.c (.i .i64 1)), none⟩]
def node_Size_4 : List TO := [⟨(some 16), .mv (.t 1), none⟩,
  ⟨(some 6), .mv (.t 16), none⟩]
def node_Size_5 : List TO := [⟨(some 17), .mv (.t 6), none⟩,
  ⟨(some 18), .mv (.t 0), none⟩,
  ⟨(some 19), .len (.t 18), none⟩,
  ⟨(some 20), .bin .lss (.t 17) (.t 19), none⟩]
def node_Size_6 : List TO := [⟨(some 23), .mv (.t 0), none⟩,
  ⟨(some 24), .mv (.t 6), none⟩,
  ⟨(some 25), .iad 3 (.t 23) (.t 24), none⟩,
  ⟨(some 26), .load 3 true (.t 25), none⟩,
  ⟨(some 27), .call (.fn i_node_kids) [(.t 26)], none⟩,
  ⟨(some 7), .mv (.t 27), none⟩]
def node_Size_7 : List TO := [⟨(some 28), .mv (.t 7), none⟩,
  ⟨(some 29), .bin .lss (.t 28) (.c (.i .i64 0)), none⟩]
def node_Size_8 : List TO := [⟨(some 4), .mv (.c (.i .i64 0)), none⟩]
def node_Size_9 : List TO := [⟨(some 30), .mv (.t 5), none⟩,
  ⟨(some 31), .mv (.t 7), none⟩,
  ⟨(some 32), .bin .sub (.t 31) (.c (.i .i64 1)), none⟩,
  ⟨(some 33), .bin .add (.t 30) (.t 32), none⟩,
  ⟨(some 5), .mv (.t 33), none⟩]
def node_Size_10 : List TO := [⟨(some 34), .mv (.t 5), none⟩,
  ⟨(some 35), .bin .eql (.t 34) (.c (.i .i64 0)), none⟩]
def node_Size_11 : List TO := [⟨(some 36), .mv (.t 6), none⟩,
  ⟨(some 37), .bin .add (.t 36) (.c (.i .i64 1)), none⟩,
  ⟨(some 38), .mv (.t 1), none⟩,
  ⟨(some 39), .bin .sub (.t 37) (.t 38), none⟩,
  ⟨(some 4), .mv (.t 39), none⟩]
def node_Size_12 : List TO := [⟨(some 21), .mv (.t 6), none⟩,
  ⟨(some 22), .bin .add (.t 21) (.c (.i .i64 1)), none⟩,
  ⟨(some 6), .mv (.t 22), none⟩]
def node_Size_13 : TC := (.seq (.seq (.reg node_Size_5) (.cond (.t 20) .skip (.exit 0))) (.seq (.block 1 (.seq (.reg node_Size_6) (.seq (.seq (.reg node_Size_7) (.cond (.t 29) (.seq (.reg node_Size_8) .ret) .skip)) (.seq (.reg node_Size_9) (.seq (.reg node_Size_10) (.cond (.t 35) (.seq (.reg node_Size_11) .ret) .skip)))))) (.reg node_Size_12)))
def node_Size_14 : List TO := [⟨(some 4), .mv (.c (.i .i64 0)), none⟩]
def t_node_Size : TF := ⟨40, [.t 4], (.seq (.reg node_Size_0) (.seq (.seq (.reg node_Size_1) (.cond (.t 15) (.seq (.reg node_Size_2) .ret) .skip)) (.seq (.reg node_Size_3) (.seq (.seq (.reg node_Size_4) (.block 0 (.loop node_Size_13))) (.seq (.reg node_Size_14) .ret)))))⟩

/-! horarium/node.kids -/
def node_kids_0 : List TO := [⟨(some 1), .box (.t 0), none⟩,
  ⟨(some 2), .mv (.c (.i .i64 0)), none⟩]
def node_kids_1 : List TO := [⟨(some 4), .fad 2 (.t 1), none⟩,
  ⟨(some 5), .load 1 false (.t 4), none⟩,
  ⟨(some 6), .bin .lss (.t 5) (.c (.i .i64 1)), none⟩,
  ⟨(some 7), .mv (.t 6), none⟩,
  ⟨(some 8), .fad 0 (.t 1), some (7, false)⟩,
  ⟨(some 9), .load 1 false (.t 8), some (7, false)⟩,
  ⟨(some 10), .bin .neq (.t 9) (.c (.i .i64 1)), some (7, false)⟩,
  ⟨(some 11), .mv (.t 10), some (7, false)⟩,
  ⟨(some 12), .fad 1 (.t 1), some (11, true)⟩,
  ⟨(some 13), .load 1 false (.t 12), some (11, true)⟩,
  ⟨(some 14), .bin .neq (.t 13) (.c (.i .i64 0)), some (11, true)⟩,
  ⟨(some 15), .pick (.t 11) (.t 14) (.c (.b false)), some (7, false)⟩,
  ⟨(some 16), .pick (.t 7) (.c (.b true)) (.t 15), none⟩,
  ⟨(some 3), .mv (.t 16), none⟩]
def node_kids_2 : List TO := [⟨(some 2), .mv (.c (.i .i64 (-1))), none⟩]
def node_kids_3 : List TO := [⟨(some 18), .fad 0 (.t 1), none⟩,
  ⟨(some 19), .load 1 false (.t 18), none⟩,
  ⟨(some 20), .bin .eql (.t 19) (.c (.i .i64 1)), none⟩,
  ⟨(some 21), .mv (.t 20), none⟩,
  ⟨(some 22), .fad 1 (.t 1), some (21, true)⟩,
  ⟨(some 23), .load 1 false (.t 22), some (21, true)⟩,
  ⟨(some 24), .bin .geq (.t 23) (.c (.i .i64 0)), some (21, true)⟩,
  ⟨(some 25), .pick (.t 21) (.t 24) (.c (.b false)), none⟩,
  ⟨(some 26), .mv (.t 25), none⟩,
  ⟨(some 27), .fad 1 (.t 1), some (26, true)⟩,
  ⟨(some 28), .load 1 false (.t 27), some (26, true)⟩,
  ⟨(some 29), .bin .lss (.t 28) (.c (.i .i64 6)), some (26, true)⟩,
  ⟨(some 30), .pick (.t 26) (.t 29) (.c (.b false)), none⟩,
  ⟨(some 17), .mv (.t 30), none⟩]
def node_kids_4 : List TO := [⟨(some 31), .fad 0 (.t 1), none⟩,
  ⟨(some 32), .load 1 false (.t 31), none⟩,
  ⟨(some 33), .bin .eql (.t 32) (.c (.i .i64 2)), none⟩,
  ⟨(some 17), .mv (.t 33), none⟩]
def node_kids_5 : List TO := [⟨(some 2), .mv (.c (.i .i64 0)), none⟩]
def node_kids_6 : List TO := [⟨(some 35), .fad 0 (.t 1), none⟩,
  ⟨(some 36), .load 1 false (.t 35), none⟩,
  ⟨(some 37), .bin .eql (.t 36) (.c (.i .i64 3)), none⟩,
  ⟨(some 38), .mv (.t 37), none⟩,
  ⟨(some 39), .fad 2 (.t 1), some (38, true)⟩,
  ⟨(some 40), .load 1 false (.t 39), some (38, true)⟩,
  ⟨(some 41), .bin .leq (.t 40) (.c (.i .i64 128)), some (38, true)⟩,
  ⟨(some 42), .pick (.t 38) (.t 41) (.c (.b false)), none⟩,
  ⟨(some 34), .mv (.t 42), none⟩]
def node_kids_7 : List TO := [⟨(some 43), .fad 2 (.t 1), none⟩,
  ⟨(some 44), .load 1 false (.t 43), none⟩,
  ⟨(some 2), .mv (.t 44), none⟩]
def node_kids_8 : List TO := [⟨(some 46), .fad 0 (.t 1), none⟩,
  ⟨(some 47), .load 1 false (.t 46), none⟩,
  ⟨(some 48), .bin .eql (.t 47) (.c (.i .i64 4)), none⟩,
  ⟨(some 45), .mv (.t 48), none⟩]
def node_kids_9 : List TO := [⟨(some 2), .mv (.c (.i .i64 1)), none⟩]
def node_kids_10 : List TO := [⟨(some 2), .mv (.c (.i .i64 (-1))), none⟩]
def t_node_kids : TF := ⟨49, [.t 2], (.seq (.reg node_kids_0) (.seq (.block 0 (.seq (.reg node_kids_1) (.cond (.t 3) (.seq (.reg node_kids_2) .ret) (.seq (.seq (.reg node_kids_3) (.cond (.t 17) .skip (.reg node_kids_4))) (.cond (.t 17) (.seq (.reg node_kids_5) .ret) (.seq (.reg node_kids_6) (.cond (.t 34) (.seq (.reg node_kids_7) .ret) (.seq (.reg node_kids_8) (.cond (.t 45) (.seq (.reg node_kids_9) .ret) .skip))))))))) (.seq (.reg node_kids_10) .ret)))⟩

/-! horarium/node.times -/
def node_times_0 : List TO := [⟨(some 4), .mv (.c (.i .i64 0)), none⟩]
def node_times_1 : List TO := [⟨(some 5), .mv (.t 0), none⟩,
  ⟨(some 6), .mn [(.c (.i .i64 4097)), (.t 5)], none⟩,
  ⟨(some 7), .mv (.t 1), none⟩,
  ⟨(some 8), .bin .mul (.t 6) (.t 7), none⟩,
  ⟨(some 9), .mn [(.c (.i .i64 4097)), (.t 8)], none⟩,
  ⟨(some 4), .mv (.t 9), none⟩]
def t_node_times : TF := ⟨10, [.t 4], (.seq (.reg node_times_0) (.seq (.reg node_times_1) .ret))⟩

/-! horarium/node.add -/
def node_add_0 : List TO := [⟨(some 4), .mv (.c (.i .i64 0)), none⟩]
def node_add_1 : List TO := [⟨(some 5), .mv (.t 0), none⟩,
  ⟨(some 6), .mv (.t 1), none⟩,
  ⟨(some 7), .mn [(.c (.i .i64 4097)), (.t 6)], none⟩,
  ⟨(some 8), .bin .add (.t 5) (.t 7), none⟩,
  ⟨(some 9), .mn [(.c (.i .i64 4097)), (.t 8)], none⟩,
  ⟨(some 4), .mv (.t 9), none⟩]
def t_node_add : TF := ⟨10, [.t 4], (.seq (.reg node_add_0) (.seq (.reg node_add_1) .ret))⟩
def tpFn : Nat → Option TF
  | 3 => some t_horariumlaw4_CursorNumbers
  | 4 => some t_horariumlaw4_CursorPlays
  | 5 => some t_horariumlaw4_CursorAgain
  | 6 => some t_horariumlaw4_CursorTicks
  | 7 => some t_horariumlaw5_RunsTidy
  | 8 => some t_horariumlaw5_RunsTables
  | 9 => some t_horariumlaw4_tape
  | 10 => some t_horariumkeep_Tape_Table
  | 11 => some t_horariumlaw4_play
  | 12 => some t_cursor_Part
  | 13 => some t_horariumlaw4_known
  | 14 => some t_horariumbook_Within
  | 15 => some t_horariumref3_Length
  | 16 => some t_horariumref3_Right
  | 17 => some t_horariumref3_At
  | 18 => some t_horariumlaw4_leaves
  | 19 => some t_cursor_New
  | 20 => some t_cursor_Cursor_Tick
  | 21 => some t_cursor_Cursor_Reset
  | 22 => some t_cursor_Cursor_Next
  | 23 => some t_cursor_Cursor_At
  | 24 => some t_horariumkeep_Tape_Runs
  | 25 => some t_runs_Tidy
  | 26 => some t_runs_Ticks
  | 27 => some t_runs_Same
  | 28 => some t_runs_Length
  | 29 => some t_runs_At
  | 30 => some t_runs_Switches
  | 31 => some t_horariumlaw5_known
  | 32 => some t_runs_Of
  | 33 => some t_horariumref3_Of
  | 34 => some t_runs_Right
  | 35 => some t_horariumkeep_Tape_Next
  | 36 => some t_horariumref3_Depth
  | 37 => some t_horariumref3_length
  | 38 => some t_horariumref3_Leaves
  | 39 => some t_node_Right
  | 40 => some t_slices_Clone_api_Node_api_Node
  | 41 => some t_cursor_part
  | 42 => some t_cursor_Cursor_step
  | 43 => some t_cursor_Cursor_down
  | 44 => some t_runs_Add
  | 45 => some t_slices_Clip_api_Run_api_Run
  | 46 => some t_slices_Equal_api_Run_api_Run
  | 47 => some t_horariumref3_Tidy
  | 48 => some t_runs_part
  | 49 => some t_horariumref3_Size
  | 50 => some t_horariumref3_depth
  | 51 => some t_horariumref3_Kids
  | 52 => some t_horariumref3_leaves
  | 53 => some t_node_Length
  | 54 => some t_node_whole
  | 55 => some t_node_Depth
  | 56 => some t_horariumref3_Sum
  | 57 => some t_horariumref3_fine
  | 58 => some t_node_measure
  | 59 => some t_node_Size
  | 60 => some t_node_kids
  | 61 => some t_node_times
  | 62 => some t_node_add
  | _ => none
def tpMeth : Nat → String → Option Meth := fun _ _ => none
def tp : TP := ⟨tpFn, tpMeth⟩
theorem fn_horariumlaw4_CursorNumbers : tp.fn i_horariumlaw4_CursorNumbers = some t_horariumlaw4_CursorNumbers := rfl
theorem fn_horariumlaw4_CursorPlays : tp.fn i_horariumlaw4_CursorPlays = some t_horariumlaw4_CursorPlays := rfl
theorem fn_horariumlaw4_CursorAgain : tp.fn i_horariumlaw4_CursorAgain = some t_horariumlaw4_CursorAgain := rfl
theorem fn_horariumlaw4_CursorTicks : tp.fn i_horariumlaw4_CursorTicks = some t_horariumlaw4_CursorTicks := rfl
theorem fn_horariumlaw5_RunsTidy : tp.fn i_horariumlaw5_RunsTidy = some t_horariumlaw5_RunsTidy := rfl
theorem fn_horariumlaw5_RunsTables : tp.fn i_horariumlaw5_RunsTables = some t_horariumlaw5_RunsTables := rfl
theorem fn_horariumlaw4_tape : tp.fn i_horariumlaw4_tape = some t_horariumlaw4_tape := rfl
theorem fn_horariumkeep_Tape_Table : tp.fn i_horariumkeep_Tape_Table = some t_horariumkeep_Tape_Table := rfl
theorem fn_horariumlaw4_play : tp.fn i_horariumlaw4_play = some t_horariumlaw4_play := rfl
theorem fn_cursor_Part : tp.fn i_cursor_Part = some t_cursor_Part := rfl
theorem fn_horariumlaw4_known : tp.fn i_horariumlaw4_known = some t_horariumlaw4_known := rfl
theorem fn_horariumbook_Within : tp.fn i_horariumbook_Within = some t_horariumbook_Within := rfl
theorem fn_horariumref3_Length : tp.fn i_horariumref3_Length = some t_horariumref3_Length := rfl
theorem fn_horariumref3_Right : tp.fn i_horariumref3_Right = some t_horariumref3_Right := rfl
theorem fn_horariumref3_At : tp.fn i_horariumref3_At = some t_horariumref3_At := rfl
theorem fn_horariumlaw4_leaves : tp.fn i_horariumlaw4_leaves = some t_horariumlaw4_leaves := rfl
theorem fn_cursor_New : tp.fn i_cursor_New = some t_cursor_New := rfl
theorem fn_cursor_Cursor_Tick : tp.fn i_cursor_Cursor_Tick = some t_cursor_Cursor_Tick := rfl
theorem fn_cursor_Cursor_Reset : tp.fn i_cursor_Cursor_Reset = some t_cursor_Cursor_Reset := rfl
theorem fn_cursor_Cursor_Next : tp.fn i_cursor_Cursor_Next = some t_cursor_Cursor_Next := rfl
theorem fn_cursor_Cursor_At : tp.fn i_cursor_Cursor_At = some t_cursor_Cursor_At := rfl
theorem fn_horariumkeep_Tape_Runs : tp.fn i_horariumkeep_Tape_Runs = some t_horariumkeep_Tape_Runs := rfl
theorem fn_runs_Tidy : tp.fn i_runs_Tidy = some t_runs_Tidy := rfl
theorem fn_runs_Ticks : tp.fn i_runs_Ticks = some t_runs_Ticks := rfl
theorem fn_runs_Same : tp.fn i_runs_Same = some t_runs_Same := rfl
theorem fn_runs_Length : tp.fn i_runs_Length = some t_runs_Length := rfl
theorem fn_runs_At : tp.fn i_runs_At = some t_runs_At := rfl
theorem fn_runs_Switches : tp.fn i_runs_Switches = some t_runs_Switches := rfl
theorem fn_horariumlaw5_known : tp.fn i_horariumlaw5_known = some t_horariumlaw5_known := rfl
theorem fn_runs_Of : tp.fn i_runs_Of = some t_runs_Of := rfl
theorem fn_horariumref3_Of : tp.fn i_horariumref3_Of = some t_horariumref3_Of := rfl
theorem fn_runs_Right : tp.fn i_runs_Right = some t_runs_Right := rfl
theorem fn_horariumkeep_Tape_Next : tp.fn i_horariumkeep_Tape_Next = some t_horariumkeep_Tape_Next := rfl
theorem fn_horariumref3_Depth : tp.fn i_horariumref3_Depth = some t_horariumref3_Depth := rfl
theorem fn_horariumref3_length : tp.fn i_horariumref3_length = some t_horariumref3_length := rfl
theorem fn_horariumref3_Leaves : tp.fn i_horariumref3_Leaves = some t_horariumref3_Leaves := rfl
theorem fn_node_Right : tp.fn i_node_Right = some t_node_Right := rfl
theorem fn_slices_Clone_api_Node_api_Node : tp.fn i_slices_Clone_api_Node_api_Node = some t_slices_Clone_api_Node_api_Node := rfl
theorem fn_cursor_part : tp.fn i_cursor_part = some t_cursor_part := rfl
theorem fn_cursor_Cursor_step : tp.fn i_cursor_Cursor_step = some t_cursor_Cursor_step := rfl
theorem fn_cursor_Cursor_down : tp.fn i_cursor_Cursor_down = some t_cursor_Cursor_down := rfl
theorem fn_runs_Add : tp.fn i_runs_Add = some t_runs_Add := rfl
theorem fn_slices_Clip_api_Run_api_Run : tp.fn i_slices_Clip_api_Run_api_Run = some t_slices_Clip_api_Run_api_Run := rfl
theorem fn_slices_Equal_api_Run_api_Run : tp.fn i_slices_Equal_api_Run_api_Run = some t_slices_Equal_api_Run_api_Run := rfl
theorem fn_horariumref3_Tidy : tp.fn i_horariumref3_Tidy = some t_horariumref3_Tidy := rfl
theorem fn_runs_part : tp.fn i_runs_part = some t_runs_part := rfl
theorem fn_horariumref3_Size : tp.fn i_horariumref3_Size = some t_horariumref3_Size := rfl
theorem fn_horariumref3_depth : tp.fn i_horariumref3_depth = some t_horariumref3_depth := rfl
theorem fn_horariumref3_Kids : tp.fn i_horariumref3_Kids = some t_horariumref3_Kids := rfl
theorem fn_horariumref3_leaves : tp.fn i_horariumref3_leaves = some t_horariumref3_leaves := rfl
theorem fn_node_Length : tp.fn i_node_Length = some t_node_Length := rfl
theorem fn_node_whole : tp.fn i_node_whole = some t_node_whole := rfl
theorem fn_node_Depth : tp.fn i_node_Depth = some t_node_Depth := rfl
theorem fn_horariumref3_Sum : tp.fn i_horariumref3_Sum = some t_horariumref3_Sum := rfl
theorem fn_horariumref3_fine : tp.fn i_horariumref3_fine = some t_horariumref3_fine := rfl
theorem fn_node_measure : tp.fn i_node_measure = some t_node_measure := rfl
theorem fn_node_Size : tp.fn i_node_Size = some t_node_Size := rfl
theorem fn_node_kids : tp.fn i_node_kids = some t_node_kids := rfl
theorem fn_node_times : tp.fn i_node_times = some t_node_times := rfl
theorem fn_node_add : tp.fn i_node_add = some t_node_add := rfl
theorem horariumlaw4_CursorNumbers_7_go {e : Env} {h : AH} {Q : Ex → Env → AH → Prop} : WC tp horariumlaw4_CursorNumbers_7 e h Q = WC tp (.seq (.seq (.reg horariumlaw4_CursorNumbers_2) (.cond (.t 4) .skip (.exit 0))) (.seq (.block 1 (.seq (.reg horariumlaw4_CursorNumbers_3) (.seq (.reg horariumlaw4_CursorNumbers_4) (.cond (.t 28) (.seq (.reg horariumlaw4_CursorNumbers_5) .ret) .skip)))) (.reg horariumlaw4_CursorNumbers_6))) e h Q := nrfl rfl
theorem horariumlaw4_CursorAgain_9_go {e : Env} {h : AH} {Q : Ex → Env → AH → Prop} : WC tp horariumlaw4_CursorAgain_9 e h Q = WC tp (.seq (.seq (.reg horariumlaw4_CursorAgain_6) (.cond (.t 35) .skip (.exit 0))) (.seq (.block 1 (.reg horariumlaw4_CursorAgain_7)) (.reg horariumlaw4_CursorAgain_8))) e h Q := nrfl rfl
theorem horariumlaw4_CursorAgain_20_go {e : Env} {h : AH} {Q : Ex → Env → AH → Prop} : WC tp horariumlaw4_CursorAgain_20 e h Q = WC tp (.seq (.seq (.reg horariumlaw4_CursorAgain_13) (.cond (.t 43) .skip (.exit 2))) (.seq (.block 3 (.seq (.reg horariumlaw4_CursorAgain_14) (.seq (.seq (.reg horariumlaw4_CursorAgain_15) (.cond (.t 52) (.seq (.reg horariumlaw4_CursorAgain_16) (.seq (.reg horariumlaw4_CursorAgain_17) .ret)) .skip)) (.reg horariumlaw4_CursorAgain_18)))) (.reg horariumlaw4_CursorAgain_19))) e h Q := nrfl rfl
theorem horariumlaw4_CursorTicks_12_go {e : Env} {h : AH} {Q : Ex → Env → AH → Prop} : WC tp horariumlaw4_CursorTicks_12 e h Q = WC tp (.seq (.seq (.reg horariumlaw4_CursorTicks_7) (.cond (.t 39) .skip (.exit 0))) (.seq (.block 1 (.seq (.reg horariumlaw4_CursorTicks_8) (.seq (.reg horariumlaw4_CursorTicks_9) (.cond (.t 62) (.seq (.reg horariumlaw4_CursorTicks_10) .ret) .skip)))) (.reg horariumlaw4_CursorTicks_11))) e h Q := nrfl rfl
theorem horariumlaw5_RunsTidy_9_go {e : Env} {h : AH} {Q : Ex → Env → AH → Prop} : WC tp horariumlaw5_RunsTidy_9 e h Q = WC tp (.seq (.reg horariumlaw5_RunsTidy_4) (.seq (.cond (.t 18) .skip (.exit 0)) (.seq (.block 1 (.seq (.reg horariumlaw5_RunsTidy_5) (.seq (.dreg horariumlaw5_RunsTidy_6) (.cond (.t 35) (.seq (.reg horariumlaw5_RunsTidy_7) .ret) .skip)))) (.reg horariumlaw5_RunsTidy_8)))) e h Q := nrfl rfl
theorem horariumlaw5_RunsTidy_15_go {e : Env} {h : AH} {Q : Ex → Env → AH → Prop} : WC tp horariumlaw5_RunsTidy_15 e h Q = WC tp (.seq (.seq (.reg horariumlaw5_RunsTidy_11) (.cond (.t 38) .skip (.exit 2))) (.seq (.block 3 (.seq (.reg horariumlaw5_RunsTidy_12) (.cond (.t 47) (.seq (.reg horariumlaw5_RunsTidy_13) .ret) .skip))) (.reg horariumlaw5_RunsTidy_14))) e h Q := nrfl rfl
theorem horariumlaw5_RunsTables_15_go {e : Env} {h : AH} {Q : Ex → Env → AH → Prop} : WC tp horariumlaw5_RunsTables_15 e h Q = WC tp (.seq (.seq (.reg horariumlaw5_RunsTables_11) (.cond (.t 75) .skip (.exit 0))) (.seq (.block 1 (.seq (.reg horariumlaw5_RunsTables_12) (.cond (.t 86) (.seq (.reg horariumlaw5_RunsTables_13) .ret) .skip))) (.reg horariumlaw5_RunsTables_14))) e h Q := nrfl rfl
theorem horariumlaw4_tape_6_go {e : Env} {h : AH} {Q : Ex → Env → AH → Prop} : WC tp horariumlaw4_tape_6 e h Q = WC tp (.seq (.seq (.reg horariumlaw4_tape_3) (.cond (.t 6) .skip (.exit 0))) (.seq (.block 1 (.reg horariumlaw4_tape_4)) (.reg horariumlaw4_tape_5))) e h Q := nrfl rfl
theorem horariumkeep_Tape_Table_14_go {e : Env} {h : AH} {Q : Ex → Env → AH → Prop} : WC tp horariumkeep_Tape_Table_14 e h Q = WC tp (.seq (.seq (.reg horariumkeep_Tape_Table_11) (.cond (.t 55) .skip (.exit 0))) (.seq (.block 1 (.reg horariumkeep_Tape_Table_12)) (.reg horariumkeep_Tape_Table_13))) e h Q := nrfl rfl
theorem horariumlaw4_play_35_go {e : Env} {h : AH} {Q : Ex → Env → AH → Prop} : WC tp horariumlaw4_play_35 e h Q = WC tp (.seq (.seq (.reg horariumlaw4_play_9) (.cond (.t 43) .skip (.exit 0))) (.seq (.block 1 (.seq (.seq (.reg horariumlaw4_play_10) (.cond (.t 49) (.seq (.reg horariumlaw4_play_11) .ret) .skip)) (.seq (.reg horariumlaw4_play_12) (.seq (.seq (.reg horariumlaw4_play_13) (.cond (.t 53) (.reg horariumlaw4_play_14) .skip)) (.seq (.seq (.reg horariumlaw4_play_15) (.cond (.t 62) (.seq (.reg horariumlaw4_play_16) (.seq (.reg horariumlaw4_play_17) (.seq (.reg horariumlaw4_play_18) .ret))) .skip)) (.seq (.seq (.reg horariumlaw4_play_19) (.cond (.t 89) (.seq (.reg horariumlaw4_play_20) (.seq (.seq (.dreg horariumlaw4_play_21) (.cond (.t 112) (.seq (.reg horariumlaw4_play_22) .ret) .skip)) (.reg horariumlaw4_play_23))) (.seq (.seq (.dreg horariumlaw4_play_24) (.cond (.t 124) (.seq (.reg horariumlaw4_play_25) .ret) .skip)) (.seq (.reg horariumlaw4_play_26) (.seq (.seq (.reg horariumlaw4_play_27) (.cond (.t 140) (.seq (.reg horariumlaw4_play_28) .ret) .skip)) (.reg horariumlaw4_play_29)))))) (.seq (.reg horariumlaw4_play_30) (.cond (.t 146) (.seq (.reg horariumlaw4_play_31) (.seq (.reg horariumlaw4_play_32) (.cond (.t 152) (.reg horariumlaw4_play_33) .skip))) .skip)))))))) (.reg horariumlaw4_play_34))) e h Q := nrfl rfl
theorem cursor_Part_10_go {e : Env} {h : AH} {Q : Ex → Env → AH → Prop} : WC tp cursor_Part_10 e h Q = WC tp (.block 1 (.seq (.reg cursor_Part_4) (.seq (.block 2 (.seq (.reg cursor_Part_5) (.cond (.t 21) (.seq (.reg cursor_Part_6) .ret) (.seq (.reg cursor_Part_7) (.cond (.t 24) (.seq (.reg cursor_Part_8) .ret) .skip))))) (.reg cursor_Part_9)))) e h Q := nrfl rfl
theorem horariumref3_At_11_go {e : Env} {h : AH} {Q : Ex → Env → AH → Prop} : WC tp horariumref3_At_11 e h Q = WC tp (.seq (.reg horariumref3_At_2) (.seq (.cond (.t 10) .skip (.exit 0)) (.seq (.block 1 (.seq (.reg horariumref3_At_3) (.seq (.seq (.reg horariumref3_At_4) (.cond (.t 14) (.seq (.reg horariumref3_At_5) .ret) .skip)) (.seq (.seq (.reg horariumref3_At_6) (.cond (.t 17) (.exit 1) .skip)) (.seq (.seq (.reg horariumref3_At_7) (.cond (.t 25) (.seq (.reg horariumref3_At_8) .ret) .skip)) (.reg horariumref3_At_9)))))) (.reg horariumref3_At_10)))) e h Q := nrfl rfl
theorem horariumkeep_Tape_Runs_6_go {e : Env} {h : AH} {Q : Ex → Env → AH → Prop} : WC tp horariumkeep_Tape_Runs_6 e h Q = WC tp (.seq (.seq (.reg horariumkeep_Tape_Runs_3) (.cond (.t 14) .skip (.exit 0))) (.seq (.block 1 (.reg horariumkeep_Tape_Runs_4)) (.reg horariumkeep_Tape_Runs_5))) e h Q := nrfl rfl
theorem runs_Tidy_11_go {e : Env} {h : AH} {Q : Ex → Env → AH → Prop} : WC tp runs_Tidy_11 e h Q = WC tp (.seq (.reg runs_Tidy_3) (.seq (.cond (.t 10) .skip (.exit 0)) (.seq (.block 1 (.seq (.reg runs_Tidy_4) (.seq (.reg runs_Tidy_5) (.block 2 (.seq (.reg runs_Tidy_6) (.cond (.t 19) .skip (.seq (.dreg runs_Tidy_7) (.cond (.t 23) (.dreg runs_Tidy_8) (.reg runs_Tidy_9))))))))) (.reg runs_Tidy_10)))) e h Q := nrfl rfl
theorem runs_Ticks_8_go {e : Env} {h : AH} {Q : Ex → Env → AH → Prop} : WC tp runs_Ticks_8 e h Q = WC tp (.seq (.reg runs_Ticks_3) (.seq (.cond (.t 11) .skip (.exit 0)) (.seq (.block 1 (.seq (.reg runs_Ticks_4) (.seq (.reg runs_Ticks_5) (.cond (.t 17) (.reg runs_Ticks_6) .skip)))) (.reg runs_Ticks_7)))) e h Q := nrfl rfl
theorem runs_Length_7_go {e : Env} {h : AH} {Q : Ex → Env → AH → Prop} : WC tp runs_Length_7 e h Q = WC tp (.seq (.reg runs_Length_3) (.seq (.cond (.t 9) .skip (.exit 0)) (.seq (.block 1 (.seq (.reg runs_Length_4) (.reg runs_Length_5))) (.reg runs_Length_6)))) e h Q := nrfl rfl
theorem runs_At_10_go {e : Env} {h : AH} {Q : Ex → Env → AH → Prop} : WC tp runs_At_10 e h Q = WC tp (.seq (.reg runs_At_4) (.seq (.cond (.t 12) .skip (.exit 0)) (.seq (.block 1 (.seq (.reg runs_At_5) (.seq (.seq (.reg runs_At_6) (.cond (.t 18) (.seq (.reg runs_At_7) .ret) .skip)) (.reg runs_At_8)))) (.reg runs_At_9)))) e h Q := nrfl rfl
theorem runs_Switches_8_go {e : Env} {h : AH} {Q : Ex → Env → AH → Prop} : WC tp runs_Switches_8 e h Q = WC tp (.seq (.reg runs_Switches_3) (.seq (.cond (.t 10) .skip (.exit 0)) (.seq (.block 1 (.seq (.reg runs_Switches_4) (.seq (.reg runs_Switches_5) (.cond (.t 15) (.reg runs_Switches_6) .skip)))) (.reg runs_Switches_7)))) e h Q := nrfl rfl
theorem runs_Of_9_go {e : Env} {h : AH} {Q : Ex → Env → AH → Prop} : WC tp runs_Of_9 e h Q = WC tp (.block 1 (.seq (.reg runs_Of_6) (.seq (.seq (.reg runs_Of_7) (.cond (.t 22) (.exit 0) .skip)) (.reg runs_Of_8)))) e h Q := nrfl rfl
theorem runs_Right_9_go {e : Env} {h : AH} {Q : Ex → Env → AH → Prop} : WC tp runs_Right_9 e h Q = WC tp (.seq (.reg runs_Right_3) (.seq (.cond (.t 9) .skip (.exit 0)) (.seq (.block 1 (.seq (.reg runs_Right_4) (.seq (.seq (.reg runs_Right_5) (.cond (.t 25) (.seq (.reg runs_Right_6) .ret) .skip)) (.reg runs_Right_7)))) (.reg runs_Right_8)))) e h Q := nrfl rfl
theorem horariumref3_length_7_go {e : Env} {h : AH} {Q : Ex → Env → AH → Prop} : WC tp horariumref3_length_7 e h Q = WC tp (.seq (.reg horariumref3_length_3) (.seq (.cond (.t 13) .skip (.exit 0)) (.seq (.block 1 (.seq (.reg horariumref3_length_4) (.reg horariumref3_length_5))) (.reg horariumref3_length_6)))) e h Q := nrfl rfl
theorem cursor_Cursor_step_10_go {e : Env} {h : AH} {Q : Ex → Env → AH → Prop} : WC tp cursor_Cursor_step_10 e h Q = WC tp (.seq (.seq (.reg cursor_Cursor_step_2) (.cond (.t 17) .skip (.exit 0))) (.block 1 (.seq (.dreg cursor_Cursor_step_3) (.seq (.seq (.reg cursor_Cursor_step_4) (.seq (.reg cursor_Cursor_step_5) (.cond (.t 40) (.seq (.seq (.dreg cursor_Cursor_step_6) (.cond (.t 52) (.reg cursor_Cursor_step_7) .skip)) (.seq (.reg cursor_Cursor_step_8) .ret)) .skip))) (.dreg cursor_Cursor_step_9))))) e h Q := nrfl rfl
theorem cursor_Cursor_down_3_go {e : Env} {h : AH} {Q : Ex → Env → AH → Prop} : WC tp cursor_Cursor_down_3 e h Q = WC tp (.seq (.seq (.reg cursor_Cursor_down_0) (.cond (.t 23) .skip (.exit 0))) (.block 1 (.seq (.dreg cursor_Cursor_down_1) (.reg cursor_Cursor_down_2)))) e h Q := nrfl rfl
theorem slices_Equal_api_Run_api_Run_9_go {e : Env} {h : AH} {Q : Ex → Env → AH → Prop} : WC tp slices_Equal_api_Run_api_Run_9 e h Q = WC tp (.seq (.reg slices_Equal_api_Run_api_Run_4) (.seq (.cond (.t 14) .skip (.exit 0)) (.seq (.block 1 (.seq (.reg slices_Equal_api_Run_api_Run_5) (.seq (.dreg slices_Equal_api_Run_api_Run_6) (.cond (.t 24) (.seq (.reg slices_Equal_api_Run_api_Run_7) .ret) .skip)))) (.reg slices_Equal_api_Run_api_Run_8)))) e h Q := nrfl rfl
theorem horariumref3_Tidy_11_go {e : Env} {h : AH} {Q : Ex → Env → AH → Prop} : WC tp horariumref3_Tidy_11 e h Q = WC tp (.seq (.reg horariumref3_Tidy_3) (.seq (.cond (.t 10) .skip (.exit 0)) (.seq (.block 1 (.seq (.reg horariumref3_Tidy_4) (.seq (.reg horariumref3_Tidy_5) (.seq (.seq (.reg horariumref3_Tidy_6) (.cond (.t 17) (.exit 1) .skip)) (.seq (.dreg horariumref3_Tidy_7) (.cond (.t 30) (.dreg horariumref3_Tidy_8) (.reg horariumref3_Tidy_9))))))) (.reg horariumref3_Tidy_10)))) e h Q := nrfl rfl
theorem horariumref3_Size_16_go {e : Env} {h : AH} {Q : Ex → Env → AH → Prop} : WC tp horariumref3_Size_16 e h Q = WC tp (.seq (.seq (.reg horariumref3_Size_5) (.cond (.t 19) .skip (.exit 0))) (.seq (.block 1 (.seq (.seq (.reg horariumref3_Size_6) (.cond (.t 27) (.seq (.reg horariumref3_Size_7) .ret) .skip)) (.seq (.reg horariumref3_Size_8) (.seq (.seq (.reg horariumref3_Size_9) (.cond (.t 35) (.reg horariumref3_Size_10) .skip)) (.seq (.seq (.reg horariumref3_Size_11) (.cond (.t 48) (.reg horariumref3_Size_12) .skip)) (.seq (.reg horariumref3_Size_13) (.cond (.t 52) (.seq (.reg horariumref3_Size_14) .ret) .skip))))))) (.reg horariumref3_Size_15))) e h Q := nrfl rfl
theorem horariumref3_depth_7_go {e : Env} {h : AH} {Q : Ex → Env → AH → Prop} : WC tp horariumref3_depth_7 e h Q = WC tp (.seq (.reg horariumref3_depth_3) (.seq (.cond (.t 13) .skip (.exit 0)) (.seq (.block 1 (.seq (.reg horariumref3_depth_4) (.reg horariumref3_depth_5))) (.reg horariumref3_depth_6)))) e h Q := nrfl rfl
theorem horariumref3_Kids_7_go {e : Env} {h : AH} {Q : Ex → Env → AH → Prop} : WC tp horariumref3_Kids_7 e h Q = WC tp (.seq (.seq (.reg horariumref3_Kids_4) (.cond (.t 17) .skip (.exit 0))) (.seq (.block 1 (.reg horariumref3_Kids_5)) (.reg horariumref3_Kids_6))) e h Q := nrfl rfl
theorem horariumref3_leaves_11_go {e : Env} {h : AH} {Q : Ex → Env → AH → Prop} : WC tp horariumref3_leaves_11 e h Q = WC tp (.seq (.seq (.reg horariumref3_leaves_8) (.cond (.t 50) .skip (.exit 1))) (.seq (.block 2 (.reg horariumref3_leaves_9)) (.reg horariumref3_leaves_10))) e h Q := nrfl rfl
theorem horariumref3_leaves_18_go {e : Env} {h : AH} {Q : Ex → Env → AH → Prop} : WC tp horariumref3_leaves_18 e h Q = WC tp (.seq (.reg horariumref3_leaves_14) (.seq (.cond (.t 64) .skip (.exit 3)) (.seq (.block 4 (.seq (.reg horariumref3_leaves_15) (.reg horariumref3_leaves_16))) (.reg horariumref3_leaves_17)))) e h Q := nrfl rfl
theorem node_measure_17_go {e : Env} {h : AH} {Q : Ex → Env → AH → Prop} : WC tp node_measure_17 e h Q = WC tp (.seq (.seq (.reg node_measure_9) (.cond (.t 53) .skip (.exit 2))) (.block 3 (.seq (.dreg node_measure_10) (.seq (.reg node_measure_11) (.seq (.seq (.reg node_measure_12) (.cond (.t 73) (.reg node_measure_13) .skip)) (.seq (.reg node_measure_14) (.seq (.dreg node_measure_15) (.dreg node_measure_16)))))))) e h Q := nrfl rfl
theorem node_measure_19_go {e : Env} {h : AH} {Q : Ex → Env → AH → Prop} : WC tp node_measure_19 e h Q = WC tp (.seq (.reg node_measure_3) (.seq (.cond (.t 15) .skip (.exit 0)) (.seq (.block 1 (.seq (.reg node_measure_4) (.seq (.dreg node_measure_5) (.seq (.seq (.reg node_measure_6) (.seq (.reg node_measure_7) (.cond (.t 33) (.reg node_measure_8) .skip))) (.block 2 (.loop node_measure_17)))))) (.reg node_measure_18)))) e h Q := nrfl rfl
theorem node_Size_13_go {e : Env} {h : AH} {Q : Ex → Env → AH → Prop} : WC tp node_Size_13 e h Q = WC tp (.seq (.seq (.reg node_Size_5) (.cond (.t 20) .skip (.exit 0))) (.seq (.block 1 (.seq (.reg node_Size_6) (.seq (.seq (.reg node_Size_7) (.cond (.t 29) (.seq (.reg node_Size_8) .ret) .skip)) (.seq (.reg node_Size_9) (.seq (.reg node_Size_10) (.cond (.t 35) (.seq (.reg node_Size_11) .ret) .skip)))))) (.reg node_Size_12))) e h Q := nrfl rfl
end Go.Ab.T
