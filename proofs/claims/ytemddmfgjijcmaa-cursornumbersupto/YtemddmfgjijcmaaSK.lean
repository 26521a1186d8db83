/- Part of the proof that CursorNumbers returns true for every input of the second form's bound (no other condition). -/
import Derived.Test.YtemddmfgjijcmaaSJ
set_option linter.all false
namespace Go.Ab.T
open Go Go.Ab
set_option linter.unusedSimpArgs false
set_option linter.unusedVariables false
set_option maxHeartbeats 4000000
set_option maxRecDepth 10000
theorem tape4_ev {h : AH} {k : Nat} (hk : k ≤ 1000) (hw : h.lim ≤ h.next) : Ev tp i_horariumlaw4_tape [.i .i64 k] h (fun r h' => (∃ L, SlT E1 h' 1 r L) ∧ Own h r ∧ Ext h h') := by
  refine Ev_of fn_horariumlaw4_tape (by simp [t_horariumlaw4_tape]) ?_; unfold t_horariumlaw4_tape
  simp (disch := omega) only [go_sem, ↓reduceIte, Nat.reduceEqDiff, Nat.reduceAdd, Nat.reduceSub, Nat.reduceLeDiff, Nat.reduceLT, List.reduceReplicate, Nat.reduceMul, Int.reduceNeg, reduceCtorEq, *,  horariumlaw4_tape_0, horariumlaw4_tape_1, horariumlaw4_tape_2, horariumlaw4_tape_3, horariumlaw4_tape_4, horariumlaw4_tape_5, horariumlaw4_tape_7]
  refine WC_loop_n (fun n e h' => ∃ (i : Nat) (o : V) (L : List Int), n = 400 - i ∧ e 0 = .i .i64 k ∧ e 3 = o ∧ e 4 = .i .i64 i ∧ i ≤ 400 ∧ L.length = i ∧ SlT E1 h' 1 o L ∧ Own h o ∧ Ext h h') ?_ _ _ _ ⟨0, .ns, [], rfl, ?_⟩
  · rintro n e h' ⟨i, o, L, rfl, e0, e3, e4, hi, hL, so, oo, hx⟩ ih
    have hn := hx.next
    have hl := hx.lim
    have m1 : 0 ≤ (i : Int) * i ∧ (i : Int) * i ≤ 400 * 400 := ⟨Int.mul_nonneg (by omega) (by omega), Int.mul_le_mul (by omega) (by omega) (by omega) (by omega)⟩
    have m2 : 0 ≤ (i : Int) * k ∧ (i : Int) * k ≤ 400 * 1000 := ⟨Int.mul_nonneg (by omega) (by omega), Int.mul_le_mul (by omega) (by omega) (by omega) (by omega)⟩
    rw [horariumlaw4_tape_6_go]
    simp (disch := omega) only [go_sem, ↓reduceIte, Nat.reduceEqDiff, Nat.reduceAdd, Nat.reduceSub, Nat.reduceLeDiff, Nat.reduceLT, List.reduceReplicate, Nat.reduceMul, Int.reduceNeg, reduceCtorEq, *,  horariumlaw4_tape_3]
    refine Wb_dec (fun hc => ?_) (fun hc => ?_)
    · simp (disch := omega) only [go_sem, ↓reduceIte, Nat.reduceEqDiff, Nat.reduceAdd, Nat.reduceSub, Nat.reduceLeDiff, Nat.reduceLT, List.reduceReplicate, Nat.reduceMul, Int.reduceNeg, reduceCtorEq, *,  horariumlaw4_tape_4, fillE]
      refine app_two so ?_ (by simp; omega) ?_
      · rcases oo with hh | hh
        · exact .inl hh
        · exact .inr (by omega)
      intro w h4 s4 a4
      have hn4 := a4.next
      have hl4 := a4.lim
      simp (disch := omega) only [go_sem, ↓reduceIte, Nat.reduceEqDiff, Nat.reduceAdd, Nat.reduceSub, Nat.reduceLeDiff, Nat.reduceLT, List.reduceReplicate, Nat.reduceMul, Int.reduceNeg, reduceCtorEq, *,  horariumlaw4_tape_5]
      refine ih _ _ _ ?_ ⟨i + 1, w, L ++ [((i : Int) * i * 7 + k * 29 + i * k).tmod 211], rfl, ?_⟩
      · omega
      · simp (disch := omega) only [go_sem, ↓reduceIte, Nat.reduceEqDiff, Nat.reduceAdd, Nat.reduceSub, Nat.reduceLeDiff, Nat.reduceLT, List.reduceReplicate, Nat.reduceMul, Int.reduceNeg, reduceCtorEq, *]
        refine ⟨by omega, by simp; omega, by simpa [SlT, E1] using s4, ?_, ⟨by omega, by omega, fun q hq => ?_⟩⟩
        · rcases a4.own with ⟨h1, h2⟩ | h1
          · rcases oo with hh | hh
            · exact absurd hh h1
            · exact .inr (by omega)
          · exact .inr (by omega)
        · rw [a4.get q (by omega) (oo.imp (fun x => x) (fun x => by omega)), hx.get q hq]
    · simp (disch := omega) only [go_sem, ↓reduceIte, Nat.reduceEqDiff, Nat.reduceAdd, Nat.reduceSub, Nat.reduceLeDiff, Nat.reduceLT, List.reduceReplicate, Nat.reduceMul, Int.reduceNeg, reduceCtorEq, *,  horariumlaw4_tape_7]
      exact ⟨L, so⟩
  · simp (disch := omega) only [go_sem, ↓reduceIte, Nat.reduceEqDiff, Nat.reduceAdd, Nat.reduceSub, Nat.reduceLeDiff, Nat.reduceLT, List.reduceReplicate, Nat.reduceMul, Int.reduceNeg, reduceCtorEq, *]
    exact ⟨Sl.nil _ _, .inl rfl, Ext.refl h⟩
def foW : Fo := .leaf ⟨1, 3, 2⟩ .nil
theorem foW_ok : foW.ok := ⟨kids_win (by omega) (by omega) (by omega), trivial⟩
theorem cursorNumbers_ev {h : AH} (hw : h.lim ≤ h.next) : Ev tp i_horariumlaw4_CursorNumbers [] h (fun r h' => r = .b true ∧ Ext h h') := by
  refine Ev_of fn_horariumlaw4_CursorNumbers (by simp [t_horariumlaw4_CursorNumbers]) ?_; unfold t_horariumlaw4_CursorNumbers
  simp (disch := omega) only [go_sem, ↓reduceIte, Nat.reduceEqDiff, Nat.reduceAdd, Nat.reduceSub, Nat.reduceLeDiff, Nat.reduceLT, List.reduceReplicate, Nat.reduceMul, Int.reduceNeg, reduceCtorEq, *,  horariumlaw4_CursorNumbers_0, horariumlaw4_CursorNumbers_1]
  refine WC_loop_n (fun n e h' => ∃ (k : Nat), n = 40 - k ∧ e 1 = .i .i64 k ∧ k ≤ 40 ∧ Ext h h') ?_ _ _ _ ⟨0, rfl, ?_⟩
  · rintro n e h' ⟨k, rfl, e1, hk, hx⟩ ih
    have hn := hx.next
    have hl := hx.lim
    rw [horariumlaw4_CursorNumbers_7_go]
    simp (disch := omega) only [go_sem, ↓reduceIte, Nat.reduceEqDiff, Nat.reduceAdd, Nat.reduceSub, Nat.reduceLeDiff, Nat.reduceLT, List.reduceReplicate, Nat.reduceMul, Int.reduceNeg, reduceCtorEq, *,  horariumlaw4_CursorNumbers_2]
    refine Wb_dec (fun hc => ?_) (fun hc => ?_)
    · simp (disch := omega) only [go_sem, ↓reduceIte, Nat.reduceEqDiff, Nat.reduceAdd, Nat.reduceSub, Nat.reduceLeDiff, Nat.reduceLT, List.reduceReplicate, Nat.reduceMul, Int.reduceNeg, reduceCtorEq, *,  horariumlaw4_CursorNumbers_3]
      refine Ev.imp (tape4_ev (k := k) (by omega) (by omega)) ?_
      rintro tv h2 ⟨⟨T, hT⟩, oT, hx2⟩
      have hn2 := hx2.next
      have hl2 := hx2.lim
      have c1 := Sl.cell hT
      have c2 := Sl.cells hT
      have tb := tape_box (h := h2) (by omega) hT
      have hmd : 0 ≤ (k : Int).tmod 5 ∧ (k : Int).tmod 5 < 5 := ⟨Int.tmod_nonneg _ (by omega), Int.tmod_lt_of_pos _ (by omega)⟩
      obtain ⟨d, hdd⟩ : ∃ d : Nat, (k : Int).tmod 5 = d := ⟨((k : Int).tmod 5).toNat, by omega⟩
      simp (disch := omega) only [go_sem, ↓reduceIte, Nat.reduceEqDiff, Nat.reduceAdd, Nat.reduceSub, Nat.reduceLeDiff, Nat.reduceLT, List.reduceReplicate, Nat.reduceMul, Int.reduceNeg, reduceCtorEq, *,  horariumlaw4_CursorNumbers_3, fillP]
      refine Ev.imp (table_ev (parts := 3) (by omega) d _ _ (by omega) tb) ?_
      rintro l h3 ⟨g, k3, tr⟩
      have x3 : Ext h2 h3 := Upd.toExt tr.upd
      have n3 := x3.next
      have l3 := x3.lim
      have gl := tr.row
      have gb : g.flat.length < 4000000000 := by have := tr.big; have := tabB_le (by omega : d ≤ 10); omega
      simp (disch := omega) only [go_sem, ↓reduceIte, Nat.reduceEqDiff, Nat.reduceAdd, Nat.reduceSub, Nat.reduceLeDiff, Nat.reduceLT, List.reduceReplicate, Nat.reduceMul, Int.reduceNeg, reduceCtorEq, *,  horariumlaw4_CursorNumbers_3, horariumlaw4_CursorNumbers_4]
      refine Ev.imp (play_ev (ST := []) (by omega) gl (Sl.nil _ _) gb) ?_
      rintro _ h4 ⟨rfl, x4⟩
      have n4 := x4.next
      have l4 := x4.lim
      simp (disch := omega) only [go_sem, ↓reduceIte, Nat.reduceEqDiff, Nat.reduceAdd, Nat.reduceSub, Nat.reduceLeDiff, Nat.reduceLT, List.reduceReplicate, Nat.reduceMul, Int.reduceNeg, reduceCtorEq, *,  horariumlaw4_CursorNumbers_4, Int.reduceLE, Int.reduceLT, Int.reduceToNat]
      have xb : Ext h4 (h4.alloc ⟨1, (List.replicate 300 (0 : Int)).map E1⟩) := (Ext.refl h4).alloc _
      have sb : SlT E1 (h4.alloc ⟨1, (List.replicate 300 (0 : Int)).map E1⟩) 1 (.sl h4.next 0 300 300) (List.replicate 300 (0 : Int)) := sl_lit (L := List.replicate 300 (0 : Int)) (by simp)
      refine Ev.imp (play_ev (ST := List.replicate 300 (0 : Int)) (by rw [lim_alloc, next_alloc]; omega) ((gl.ext x4).ext xb) sb gb) ?_
      rintro _ h5 ⟨rfl, x5⟩
      have n5 := x5.next
      have l5 := x5.lim
      rw [next_alloc] at n5
      rw [lim_alloc] at l5
      simp (disch := omega) only [go_sem, ↓reduceIte, Nat.reduceEqDiff, Nat.reduceAdd, Nat.reduceSub, Nat.reduceLeDiff, Nat.reduceLT, List.reduceReplicate, Nat.reduceMul, Int.reduceNeg, reduceCtorEq, *,  horariumlaw4_CursorNumbers_4, fillE]
      have xc : Ext h5 (h5.alloc ⟨1, [0, 1, 1, 0, 2, 0, 0, 1].map E1⟩) := (Ext.refl h5).alloc _
      have sc : SlT E1 (h5.alloc ⟨1, [0, 1, 1, 0, 2, 0, 0, 1].map E1⟩) 1 (.sl h5.next 0 8 8) [0, 1, 1, 0, 2, 0, 0, 1] := sl_lit (L := [0, 1, 1, 0, 2, 0, 0, 1]) (by simp)
      refine Ev.imp (play_ev (ST := [0, 1, 1, 0, 2, 0, 0, 1]) (by rw [lim_alloc, next_alloc]; omega) ((gl.ext (x4.trans (xb.trans x5))).ext xc) sc gb) ?_
      rintro _ h6 ⟨rfl, x6⟩
      simp (disch := omega) only [go_sem, ↓reduceIte, Nat.reduceEqDiff, Nat.reduceAdd, Nat.reduceSub, Nat.reduceLeDiff, Nat.reduceLT, List.reduceReplicate, Nat.reduceMul, Int.reduceNeg, reduceCtorEq, *,  horariumlaw4_CursorNumbers_4, horariumlaw4_CursorNumbers_6]
      refine ih _ _ _ ?_ ⟨k + 1, rfl, ?_⟩
      · omega
      · simp (disch := omega) only [go_sem, ↓reduceIte, Nat.reduceEqDiff, Nat.reduceAdd, Nat.reduceSub, Nat.reduceLeDiff, Nat.reduceLT, List.reduceReplicate, Nat.reduceMul, Int.reduceNeg, reduceCtorEq, *]
        exact ⟨by omega, hx.trans (hx2.trans (x3.trans (x4.trans (xb.trans (x5.trans (xc.trans x6))))))⟩
    · simp (disch := omega) only [go_sem, ↓reduceIte, Nat.reduceEqDiff, Nat.reduceAdd, Nat.reduceSub, Nat.reduceLeDiff, Nat.reduceLT, List.reduceReplicate, Nat.reduceMul, Int.reduceNeg, reduceCtorEq, *,  horariumlaw4_CursorNumbers_8, fillP, fillE]
      have xa : Ext h' (h'.alloc ⟨3, [(⟨3, 0, 1⟩ : Node)].map Node.enc⟩) := (Ext.refl h').alloc _
      have sa : SlT Node.enc (h'.alloc ⟨3, [(⟨3, 0, 1⟩ : Node)].map Node.enc⟩) 3 (.sl h'.next 0 1 1) [⟨3, 0, 1⟩] := sl_lit (L := [(⟨3, 0, 1⟩ : Node)]) (by simp)
      refine Ev.imp (play_ev (ST := []) (by rw [lim_alloc, next_alloc]; omega) sa (Sl.nil _ _) (by simp)) ?_
      rintro _ h2 ⟨rfl, x2⟩
      have n2 := x2.next
      have l2 := x2.lim
      rw [next_alloc] at n2
      rw [lim_alloc] at l2
      have fr : rightR foW.flat = 0 := right_flat foW_ok rfl (by decide) (by decide) (by decide)
      have p1 : partA foW 2 = -1 := by unfold partA; rw [if_pos ⟨fr, by omega⟩]; decide
      have p2 : partA foW (-1) = -1 := by unfold partA; rw [if_neg (by omega)]
      simp (disch := omega) only [go_sem, ↓reduceIte, Nat.reduceEqDiff, Nat.reduceAdd, Nat.reduceSub, Nat.reduceLeDiff, Nat.reduceLT, List.reduceReplicate, Nat.reduceMul, Int.reduceNeg, reduceCtorEq, *,  horariumlaw4_CursorNumbers_8, fillP, fillE]
      have xb : Ext h2 (h2.alloc ⟨3, foW.flat.map Node.enc⟩) := (Ext.refl h2).alloc _
      have sb : SlT Node.enc (h2.alloc ⟨3, foW.flat.map Node.enc⟩) 3 (.sl h2.next 0 1 1) foW.flat := sl_lit (L := foW.flat) (by decide)
      refine Ev.imp (part_all (g := foW) (t := 2) (by rw [lim_alloc, next_alloc]; omega) sb (by decide) foW_ok rfl (by omega)) ?_
      rintro _ h3 ⟨rfl, x3⟩
      have n3 := x3.next
      have l3 := x3.lim
      rw [next_alloc] at n3
      rw [lim_alloc] at l3
      simp (disch := omega) only [go_sem, ↓reduceIte, Nat.reduceEqDiff, Nat.reduceAdd, Nat.reduceSub, Nat.reduceLeDiff, Nat.reduceLT, List.reduceReplicate, Nat.reduceMul, Int.reduceNeg, reduceCtorEq, *,  horariumlaw4_CursorNumbers_8, fillP, fillE]
      have xc : Ext h3 (h3.alloc ⟨3, foW.flat.map Node.enc⟩) := (Ext.refl h3).alloc _
      have sc : SlT Node.enc (h3.alloc ⟨3, foW.flat.map Node.enc⟩) 3 (.sl h3.next 0 1 1) foW.flat := sl_lit (L := foW.flat) (by decide)
      refine Ev.imp (part_all (g := foW) (t := -1) (by rw [lim_alloc, next_alloc]; omega) sc (by decide) foW_ok rfl (by omega)) ?_
      rintro _ h4 ⟨rfl, x4⟩
      have n4 := x4.next
      have l4 := x4.lim
      rw [next_alloc] at n4
      rw [lim_alloc] at l4
      simp (disch := omega) only [go_sem, ↓reduceIte, Nat.reduceEqDiff, Nat.reduceAdd, Nat.reduceSub, Nat.reduceLeDiff, Nat.reduceLT, List.reduceReplicate, Nat.reduceMul, Int.reduceNeg, reduceCtorEq, *,  horariumlaw4_CursorNumbers_8]
      refine Ev.imp (known4_ev (by omega)) ?_
      rintro _ h5 ⟨rfl, x5⟩
      simp (disch := omega) only [go_sem, ↓reduceIte, Nat.reduceEqDiff, Nat.reduceAdd, Nat.reduceSub, Nat.reduceLeDiff, Nat.reduceLT, List.reduceReplicate, Nat.reduceMul, Int.reduceNeg, reduceCtorEq, *,  horariumlaw4_CursorNumbers_8]
      exact hx.trans (xa.trans (x2.trans (xb.trans (x3.trans (xc.trans (x4.trans x5))))))
  · simp (disch := omega) only [go_sem, ↓reduceIte, Nat.reduceEqDiff, Nat.reduceAdd, Nat.reduceSub, Nat.reduceLeDiff, Nat.reduceLT, List.reduceReplicate, Nat.reduceMul, Int.reduceNeg, reduceCtorEq, *]
    exact Ext.refl h
end Go.Ab.T
