/- Part of the proof that CursorTicks returns true for every input of the second form's bound (no other condition). -/
import Derived.Test.YtemddmfgjijcmaaSJ
set_option linter.all false
namespace Go.Ab.T
open Go Go.Ab
set_option linter.unusedSimpArgs false
set_option linter.unusedVariables false
set_option maxHeartbeats 4000000
set_option maxRecDepth 10000
def TicksK (g : Fo) (i j : Nat) (left a : Int) : Prop := a = i ∧ j ≤ g.runs.length ∧ (g.runs.length ≤ j → (i : Int) = g.len) ∧ (j < g.runs.length → 1 ≤ left ∧ left ≤ (nth g.runs j).n ∧ (i : Int) = sumN (g.runs.take j) + ((nth g.runs j).n - left))
theorem cursorTicks_ev {h : AH} {tv : V} {T : List Int} {deep : Int} (hw : h.lim ≤ h.next) (hT : SlT E1 h 1 tv T) :
    Ev tp i_horariumlaw4_CursorTicks [tv, .i .i64 deep] h (fun r h' => r = .b true ∧ Ext h h') := by
  have c1 := Sl.cell hT
  have c2 := Sl.cells hT
  have hd := within_bd (n := deep) (lo := 0) (hi := 4) (by omega)
  obtain ⟨d, hdd⟩ : ∃ d : Nat, within deep 0 4 = d := ⟨(within deep 0 4).toNat, by omega⟩
  refine Ev_of fn_horariumlaw4_CursorTicks (by simp [t_horariumlaw4_CursorTicks]) ?_; unfold t_horariumlaw4_CursorTicks
  simp (disch := omega) only [go_sem, ↓reduceIte, Nat.reduceEqDiff, Nat.reduceAdd, Nat.reduceSub, Nat.reduceLeDiff, Nat.reduceLT, List.reduceReplicate, Nat.reduceMul, Int.reduceNeg, reduceCtorEq, *,  horariumlaw4_CursorTicks_0, horariumlaw4_CursorTicks_1, fillP]
  have tb := tape_box hw hT
  refine Ev.imp (within_ev (by omega) (by omega) (by omega)) ?_
  rintro _ _ ⟨rfl, rfl⟩
  simp (disch := omega) only [go_sem, ↓reduceIte, Nat.reduceEqDiff, Nat.reduceAdd, Nat.reduceSub, Nat.reduceLeDiff, Nat.reduceLT, List.reduceReplicate, Nat.reduceMul, Int.reduceNeg, reduceCtorEq, *,  horariumlaw4_CursorTicks_1]
  refine Ev.imp (table_ev (parts := 4) (by omega) d _ _ (by omega) tb) ?_
  rintro l h2 ⟨g, k2, tr⟩
  have x2 : Ext h h2 := Upd.toExt tr.upd
  have n2 := x2.next
  have l2 := x2.lim
  have gl := tr.row
  have gb : g.flat.length < 4000000000 := by have := tr.big; have := tabB_le (by omega : d ≤ 10); omega
  have go := tr.ok
  have g1 := tr.one
  simp (disch := omega) only [go_sem, ↓reduceIte, Nat.reduceEqDiff, Nat.reduceAdd, Nat.reduceSub, Nat.reduceLeDiff, Nat.reduceLT, List.reduceReplicate, Nat.reduceMul, Int.reduceNeg, reduceCtorEq, *,  horariumlaw4_CursorTicks_1, horariumlaw4_CursorTicks_2]
  by_cases hr : rightR g.flat = 0
  · have hln := right_len go g1 hr
    have eB : lenB g.flat = true := by rw [lenB_flat go g1]; simp; omega
    have eR : lenR g.flat = g.len := by rw [lenR_flat go g1, if_pos hln]
    have hap := Fo.runs_allpos g go
    have hsum := Fo.runs_sum g go
    have hrl := Fo.runs_len g go
    refine Ev.imp (new_good (by omega) gl gb hr) ?_
    rintro _ h3 ⟨id, lv, sv, rfl, N3⟩
    have R3 := start_rem go g1 hln
    have x3 := N3.ext
    have n3 := x3.next
    have l3 := x3.lim
    simp (disch := omega) only [go_sem, ↓reduceIte, Nat.reduceEqDiff, Nat.reduceAdd, Nat.reduceSub, Nat.reduceLeDiff, Nat.reduceLT, List.reduceReplicate, Nat.reduceMul, Int.reduceNeg, reduceCtorEq, *,  horariumlaw4_CursorTicks_2, horariumlaw4_CursorTicks_3]
    refine Ev.imp (refLength_ev (by omega) (gl.ext x3) gb) ?_
    rintro _ h4 ⟨rfl, x4⟩
    have N4 := N3.grow x4
    have n4 := x4.next
    have l4 := x4.lim
    have hg0 := (Fo.len_pos g go).1
    simp (disch := omega) only [go_sem, ↓reduceIte, Nat.reduceEqDiff, Nat.reduceAdd, Nat.reduceSub, Nat.reduceLeDiff, Nat.reduceLT, List.reduceReplicate, Nat.reduceMul, Int.reduceNeg, reduceCtorEq, *,  horariumlaw4_CursorTicks_3, horariumlaw4_CursorTicks_4, horariumlaw4_CursorTicks_6, eqV, Bool.false_eq_true]
    refine WC_loop_n (fun n e h' => ∃ (i j : Nat) (left : Int) (sv' : V) (c : Cs), n = 200 - i ∧ e 5 = l ∧ e 6 = .p id 0 0 ∧ e 7 = .i .i64 g.len ∧ e 8 = .b true ∧ e 9 = .i .i64 i ∧ i ≤ 200 ∧ (i : Int) ≤ g.len ∧ NewC h2 h' g.flat id lv sv' c ∧ Rem g.flat c (restL g.runs j left) ∧ TicksK g i j left c.at_) ?_ _ _ _ ⟨0, 0, (nth g.runs 0).n, sv, cur0 g.flat, rfl, ?_⟩
    · rintro n e h' ⟨i, j, left, sv', c, rfl, e5, e6, e7, e8, e9, hi, hil, N, R, kk⟩ ih
      have nn' := N.ext.next
      have ll' := N.ext.lim
      have lm := N.cur.lim_le
      rw [horariumlaw4_CursorTicks_12_go]
      simp (disch := omega) only [go_sem, ↓reduceIte, Nat.reduceEqDiff, Nat.reduceAdd, Nat.reduceSub, Nat.reduceLeDiff, Nat.reduceLT, List.reduceReplicate, Nat.reduceMul, Int.reduceNeg, reduceCtorEq, *,  horariumlaw4_CursorTicks_7]
      refine Wg_dec (fun hc => ?_) (fun hc => ?_)
      · simp (disch := omega) only [go_sem, ↓reduceIte, Nat.reduceEqDiff, Nat.reduceAdd, Nat.reduceSub, Nat.reduceLeDiff, Nat.reduceLT, List.reduceReplicate, Nat.reduceMul, Int.reduceNeg, reduceCtorEq, *,  horariumlaw4_CursorTicks_7]
        refine Wb_dec (fun hc2 => ?_) (fun hc2 => ?_)
        · have hj : j < g.runs.length := by
            by_cases hj : j < g.runs.length
            · exact hj
            · have := kk.2.2.1 (by omega); omega
          have kj := Kept.mk (kk.2.2.2 hj)
          have kl1 := kj.of.1
          have kl2 := kj.of.2.1
          have hrest : restL g.runs j left = ⟨(nth g.runs j).part, left⟩ :: g.runs.drop (j + 1) := by unfold restL; rw [if_pos hj]
          rw [hrest] at R
          simp (disch := omega) only [go_sem, ↓reduceIte, Nat.reduceEqDiff, Nat.reduceAdd, Nat.reduceSub, Nat.reduceLeDiff, Nat.reduceLT, List.reduceReplicate, Nat.reduceMul, Int.reduceNeg, reduceCtorEq, *,  horariumlaw4_CursorTicks_8]
          refine Ev.imp (newTick N R) ?_
          rintro _ h5 ⟨rfl, s5, c5, N5, f5, R5, a5⟩
          have x5 := N5.ext
          have n5 := x5.next
          have l5 := x5.lim
          have l5' := N5.cur.lim_le
          have ha5 : c5.at_ = (i : Int) + 1 := by rw [a5, kk.1]
          clear a5
          have hpa : partA g i = (nth g.runs j).part := by
            unfold partA; rw [if_pos ⟨hr, by omega⟩, kj.of.2.2]
            exact partGo_at g.runs j _ hj hap (by omega) (by omega)
          simp (disch := omega) only [go_sem, ↓reduceIte, Nat.reduceEqDiff, Nat.reduceAdd, Nat.reduceSub, Nat.reduceLeDiff, Nat.reduceLT, List.reduceReplicate, Nat.reduceMul, Int.reduceNeg, reduceCtorEq, *,  horariumlaw4_CursorTicks_8, horariumlaw4_CursorTicks_9]
          refine Ev.imp (part_all (g := g) (t := i) (by omega) (gl.ext x5) gb go g1 (by omega)) ?_
          rintro _ h6 ⟨rfl, x6⟩
          have N6 := N5.grow x6
          simp (disch := omega) only [go_sem, ↓reduceIte, Nat.reduceEqDiff, Nat.reduceAdd, Nat.reduceSub, Nat.reduceLeDiff, Nat.reduceLT, List.reduceReplicate, Nat.reduceMul, Int.reduceNeg, reduceCtorEq, *,  horariumlaw4_CursorTicks_9]
          refine Ev.imp (curAt_ev N6.cur) ?_
          rintro _ h6 ⟨rfl, rfl⟩
          simp (disch := omega) only [go_sem, ↓reduceIte, Nat.reduceEqDiff, Nat.reduceAdd, Nat.reduceSub, Nat.reduceLeDiff, Nat.reduceLT, List.reduceReplicate, Nat.reduceMul, Int.reduceNeg, reduceCtorEq, *,  horariumlaw4_CursorTicks_9, horariumlaw4_CursorTicks_11]
          simp only at R5
          have hst := sumN_take g.runs j hj
          have hstl := sumN_take_le g.runs (j + 1) hap
          by_cases h1 : left = 1
          · rw [if_pos h1] at R5
            by_cases hj2 : j + 1 < g.runs.length
            · have K : TicksK g (i + 1) (j + 1) (nth g.runs (j + 1)).n c5.at_ := ⟨by rw [ha5]; omega, by omega, fun hx => by omega, fun _ => ⟨AllPos.nth hap hj2, by omega, by have := kj.of.2.2; omega⟩⟩
              clear ha5 hst hstl
              refine ih _ _ _ ?_ ⟨i + 1, j + 1, (nth g.runs (j + 1)).n, s5, c5, rfl, ?_⟩
              · omega
              · simp (disch := omega) only [go_sem, ↓reduceIte, Nat.reduceEqDiff, Nat.reduceAdd, Nat.reduceSub, Nat.reduceLeDiff, Nat.reduceLT, List.reduceReplicate, Nat.reduceMul, Int.reduceNeg, reduceCtorEq, *]
                exact ⟨by omega, by omega, by rw [restL_start hj2]; exact R5⟩
            · have hend : sumN (g.runs.take (j + 1)) = g.len := by rw [List.take_of_length_le (by omega), hsum]
              have K : TicksK g (i + 1) (j + 1) 0 c5.at_ := ⟨by rw [ha5]; omega, by omega, fun hx => by have := kj.of.2.2; omega, fun hx => by omega⟩
              clear ha5 hst hstl hend
              refine ih _ _ _ ?_ ⟨i + 1, j + 1, 0, s5, c5, rfl, ?_⟩
              · omega
              · simp (disch := omega) only [go_sem, ↓reduceIte, Nat.reduceEqDiff, Nat.reduceAdd, Nat.reduceSub, Nat.reduceLeDiff, Nat.reduceLT, List.reduceReplicate, Nat.reduceMul, Int.reduceNeg, reduceCtorEq, *]
                exact ⟨by omega, by omega, by rw [restL_end (by omega)]; rw [List.drop_eq_nil_of_le (by omega)] at R5; exact R5⟩
          · rw [if_neg h1] at R5
            have K : TicksK g (i + 1) j (left - 1) c5.at_ := ⟨by rw [ha5]; omega, by omega, fun hx => by omega, fun _ => ⟨by omega, by omega, by have := kj.of.2.2; omega⟩⟩
            clear ha5 hst hstl
            refine ih _ _ _ ?_ ⟨i + 1, j, left - 1, s5, c5, rfl, ?_⟩
            · omega
            · simp (disch := omega) only [go_sem, ↓reduceIte, Nat.reduceEqDiff, Nat.reduceAdd, Nat.reduceSub, Nat.reduceLeDiff, Nat.reduceLT, List.reduceReplicate, Nat.reduceMul, Int.reduceNeg, reduceCtorEq, *]
              exact ⟨by omega, by omega, by unfold restL; rw [if_pos hj]; exact R5⟩
        · skip
          simp (disch := omega) only [go_sem, ↓reduceIte, Nat.reduceEqDiff, Nat.reduceAdd, Nat.reduceSub, Nat.reduceLeDiff, Nat.reduceLT, List.reduceReplicate, Nat.reduceMul, Int.reduceNeg, reduceCtorEq, *,  horariumlaw4_CursorTicks_7, horariumlaw4_CursorTicks_13]
          have e1 : partA g g.len = -1 := by unfold partA; rw [if_pos ⟨hr, hg0⟩, partGo_end _ _ hap (by omega)]
          have e2 : partA g (-1) = -1 := by unfold partA; rw [if_neg (by omega)]
          refine Ev.imp (part_all (g := g) (t := g.len) (by omega) (gl.ext N.ext) gb go g1 (by omega)) ?_
          rintro _ h6 ⟨rfl, x6⟩
          have n6 := x6.next
          have l6 := x6.lim
          simp (disch := omega) only [go_sem, ↓reduceIte, Nat.reduceEqDiff, Nat.reduceAdd, Nat.reduceSub, Nat.reduceLeDiff, Nat.reduceLT, List.reduceReplicate, Nat.reduceMul, Int.reduceNeg, reduceCtorEq, *,  horariumlaw4_CursorTicks_13]
          refine Ev.imp (part_all (g := g) (t := -1) (by omega) (gl.ext (N.ext.trans x6)) gb go g1 (by omega)) ?_
          rintro _ h7 ⟨rfl, x7⟩
          have n7 := x7.next
          have l7 := x7.lim
          simp (disch := omega) only [go_sem, ↓reduceIte, Nat.reduceEqDiff, Nat.reduceAdd, Nat.reduceSub, Nat.reduceLeDiff, Nat.reduceLT, List.reduceReplicate, Nat.reduceMul, Int.reduceNeg, reduceCtorEq, *,  horariumlaw4_CursorTicks_13]
          refine Ev.imp (known4_ev (by omega)) ?_
          rintro _ h8 ⟨rfl, x8⟩
          simp (disch := omega) only [go_sem, ↓reduceIte, Nat.reduceEqDiff, Nat.reduceAdd, Nat.reduceSub, Nat.reduceLeDiff, Nat.reduceLT, List.reduceReplicate, Nat.reduceMul, Int.reduceNeg, reduceCtorEq, *,  horariumlaw4_CursorTicks_13]
          exact x2.trans (N.ext.trans (x6.trans (x7.trans x8)))
      · skip
        simp (disch := omega) only [go_sem, ↓reduceIte, Nat.reduceEqDiff, Nat.reduceAdd, Nat.reduceSub, Nat.reduceLeDiff, Nat.reduceLT, List.reduceReplicate, Nat.reduceMul, Int.reduceNeg, reduceCtorEq, *,  horariumlaw4_CursorTicks_7, horariumlaw4_CursorTicks_13]
        have e1 : partA g g.len = -1 := by unfold partA; rw [if_pos ⟨hr, hg0⟩, partGo_end _ _ hap (by omega)]
        have e2 : partA g (-1) = -1 := by unfold partA; rw [if_neg (by omega)]
        refine Ev.imp (part_all (g := g) (t := g.len) (by omega) (gl.ext N.ext) gb go g1 (by omega)) ?_
        rintro _ h6 ⟨rfl, x6⟩
        have n6 := x6.next
        have l6 := x6.lim
        simp (disch := omega) only [go_sem, ↓reduceIte, Nat.reduceEqDiff, Nat.reduceAdd, Nat.reduceSub, Nat.reduceLeDiff, Nat.reduceLT, List.reduceReplicate, Nat.reduceMul, Int.reduceNeg, reduceCtorEq, *,  horariumlaw4_CursorTicks_13]
        refine Ev.imp (part_all (g := g) (t := -1) (by omega) (gl.ext (N.ext.trans x6)) gb go g1 (by omega)) ?_
        rintro _ h7 ⟨rfl, x7⟩
        have n7 := x7.next
        have l7 := x7.lim
        simp (disch := omega) only [go_sem, ↓reduceIte, Nat.reduceEqDiff, Nat.reduceAdd, Nat.reduceSub, Nat.reduceLeDiff, Nat.reduceLT, List.reduceReplicate, Nat.reduceMul, Int.reduceNeg, reduceCtorEq, *,  horariumlaw4_CursorTicks_13]
        refine Ev.imp (known4_ev (by omega)) ?_
        rintro _ h8 ⟨rfl, x8⟩
        simp (disch := omega) only [go_sem, ↓reduceIte, Nat.reduceEqDiff, Nat.reduceAdd, Nat.reduceSub, Nat.reduceLeDiff, Nat.reduceLT, List.reduceReplicate, Nat.reduceMul, Int.reduceNeg, reduceCtorEq, *,  horariumlaw4_CursorTicks_13]
        exact x2.trans (N.ext.trans (x6.trans (x7.trans x8)))
    · have hrp := Fo.runs_pos g go (by omega)
      have K : TicksK g 0 0 (nth g.runs 0).n (cur0 g.flat).at_ := ⟨rfl, by omega, fun hx => by omega, fun _ => ⟨AllPos.nth hap (by omega), by omega, by simp [sumN]⟩⟩
      simp (disch := omega) only [go_sem, ↓reduceIte, Nat.reduceEqDiff, Nat.reduceAdd, Nat.reduceSub, Nat.reduceLeDiff, Nat.reduceLT, List.reduceReplicate, Nat.reduceMul, Int.reduceNeg, reduceCtorEq, *]
      rw [restL_start (by omega)]; exact R3
  · refine Ev.imp (new_bad (by omega) gl gb hr) ?_
    rintro _ h3 ⟨rfl, x3⟩
    have n3 := x3.next
    have l3 := x3.lim
    simp (disch := omega) only [go_sem, ↓reduceIte, Nat.reduceEqDiff, Nat.reduceAdd, Nat.reduceSub, Nat.reduceLeDiff, Nat.reduceLT, List.reduceReplicate, Nat.reduceMul, Int.reduceNeg, reduceCtorEq, *,  horariumlaw4_CursorTicks_2, horariumlaw4_CursorTicks_3]
    refine Ev.imp (refLength_ev (by omega) (gl.ext x3) gb) ?_
    rintro _ h4 ⟨rfl, x4⟩
    have n4 := x4.next
    have l4 := x4.lim
    simp (disch := omega) only [go_sem, ↓reduceIte, Nat.reduceEqDiff, Nat.reduceAdd, Nat.reduceSub, Nat.reduceLeDiff, Nat.reduceLT, List.reduceReplicate, Nat.reduceMul, Int.reduceNeg, reduceCtorEq, *,  horariumlaw4_CursorTicks_3, horariumlaw4_CursorTicks_4, horariumlaw4_CursorTicks_5, eqV]
    refine Ev.imp (refRight_ev (by omega) (gl.ext (x3.trans x4)) gb) ?_
    rintro _ h5 ⟨rfl, x5⟩
    have n5 := x5.next
    have l5 := x5.lim
    simp (disch := omega) only [go_sem, ↓reduceIte, Nat.reduceEqDiff, Nat.reduceAdd, Nat.reduceSub, Nat.reduceLeDiff, Nat.reduceLT, List.reduceReplicate, Nat.reduceMul, Int.reduceNeg, reduceCtorEq, *,  horariumlaw4_CursorTicks_5]
    refine Ev.imp (known4_ev (by omega)) ?_
    rintro _ h6 ⟨rfl, x6⟩
    simp (disch := omega) only [go_sem, ↓reduceIte, Nat.reduceEqDiff, Nat.reduceAdd, Nat.reduceSub, Nat.reduceLeDiff, Nat.reduceLT, List.reduceReplicate, Nat.reduceMul, Int.reduceNeg, reduceCtorEq, *,  horariumlaw4_CursorTicks_5]
    exact x2.trans (x3.trans (x4.trans (x5.trans x6)))
end Go.Ab.T
