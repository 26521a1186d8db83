/- Part of the proof that RunsTables returns true for every input of the second form's bound (no other condition). -/
import Derived.Test.YtemddmfgjijcmaaSG
set_option linter.all false
namespace Go.Ab.T
open Go Go.Ab
set_option linter.unusedSimpArgs false
set_option linter.unusedVariables false
def partR (x : Node) : Int := if x.kind = 2 then -1 else x.part
theorem part_ev {h : AH} {x : Node} : Ev tp i_cursor_part [.agg x.enc] h (fun v h' => v = .i .i64 (partR x) ∧ Ext h h') := by
  refine Ev_of fn_cursor_part (by simp [t_cursor_part]) ?_
  unfold t_cursor_part
  simp (disch := omega) only [go_sem, ↓reduceIte, Nat.reduceEqDiff, Nat.reduceAdd, Nat.reduceSub, Nat.reduceLeDiff, Nat.reduceLT, List.reduceReplicate, Nat.reduceMul, Int.reduceNeg, reduceCtorEq, *,  cursor_part_0, cursor_part_1, cursor_part_2, cursor_part_3, Node.enc]
  repeat' (first | (refine Wg_dec (fun hc => ?_) (fun hc => ?_) <;> simp (disch := omega) only [go_sem, ↓reduceIte, Nat.reduceEqDiff, Nat.reduceAdd, Nat.reduceSub, Nat.reduceLeDiff, Nat.reduceLT, List.reduceReplicate, Nat.reduceMul, Int.reduceNeg, reduceCtorEq, *]) | (refine Wb_dec (fun hc => ?_) (fun hc => ?_) <;> simp (disch := omega) only [go_sem, ↓reduceIte, Nat.reduceEqDiff, Nat.reduceAdd, Nat.reduceSub, Nat.reduceLeDiff, Nat.reduceLT, List.reduceReplicate, Nat.reduceMul, Int.reduceNeg, reduceCtorEq, *]))
  · exact ⟨by simp [partR, *], (Ext.refl h).alloc _⟩
  · exact ⟨by simp [partR, *], (Ext.refl h).alloc _⟩
theorem fine_ev {h : AH} {x : Node} : Ev tp i_horariumref3_fine [.agg x.enc] h (fun v h' => v = .b (decide (0 ≤ kids x)) ∧ Ext h h') := by
  refine Ev_of fn_horariumref3_fine (by simp [t_horariumref3_fine]) ?_
  unfold t_horariumref3_fine
  simp (disch := omega) only [go_sem, ↓reduceIte, Nat.reduceEqDiff, Nat.reduceAdd, Nat.reduceSub, Nat.reduceLeDiff, Nat.reduceLT, List.reduceReplicate, Nat.reduceMul, Int.reduceNeg, reduceCtorEq, *,  horariumref3_fine_0, horariumref3_fine_1, horariumref3_fine_2, horariumref3_fine_3, horariumref3_fine_4, horariumref3_fine_5, horariumref3_fine_6, horariumref3_fine_7, horariumref3_fine_8, horariumref3_fine_9, Node.enc]
  repeat' (first | (refine Wg_dec (fun hc => ?_) (fun hc => ?_) <;> simp (disch := omega) only [go_sem, ↓reduceIte, Nat.reduceEqDiff, Nat.reduceAdd, Nat.reduceSub, Nat.reduceLeDiff, Nat.reduceLT, List.reduceReplicate, Nat.reduceMul, Int.reduceNeg, reduceCtorEq, *]) | (refine Wb_dec (fun hc => ?_) (fun hc => ?_) <;> simp (disch := omega) only [go_sem, ↓reduceIte, Nat.reduceEqDiff, Nat.reduceAdd, Nat.reduceSub, Nat.reduceLeDiff, Nat.reduceLT, List.reduceReplicate, Nat.reduceMul, Int.reduceNeg, reduceCtorEq, *]))
  all_goals refine ⟨?_, (Ext.refl h).alloc _⟩
  all_goals congr 1
  all_goals unfold kids
  all_goals rw [Bool.eq_iff_iff]
  all_goals (repeat' split)
  all_goals simp only [decide_eq_true_eq, Bool.false_eq_true, false_iff, true_iff]
  all_goals omega

attribute [go_sem] Node.enc
theorem kids_all (x : Node) (h : 0 ≤ kids x) : (x.kind = 3 → kids x = x.n) ∧ (x.kind = 4 → kids x = 1) ∧ (x.kind ≠ 3 → x.kind ≠ 4 → kids x = 0) := by
  unfold kids at h ⊢
  refine ⟨fun hk => ?_, fun hk => ?_, fun h3 h4 => ?_⟩ <;> (repeat' split) <;> (repeat' split at h) <;> omega
set_option maxHeartbeats 4000000 in
theorem refSize_ev {h : AH} {v : V} {L : List Node} {a : Int} (hS : SlT Node.enc h 3 v L) : Ev tp i_horariumref3_Size [v, .i .i64 a] h (fun r h' => r = .i .i64 (size L a) ∧ Ext h h') := by
  obtain ⟨hlen, hbig, hlt, hget, hat, hrow⟩ := hS.facts
  refine Ev_of fn_horariumref3_Size (by simp [t_horariumref3_Size]) ?_
  unfold t_horariumref3_Size
  simp (disch := omega) only [go_sem, ↓reduceIte, Nat.reduceEqDiff, Nat.reduceAdd, Nat.reduceSub, Nat.reduceLeDiff, Nat.reduceLT, List.reduceReplicate, Nat.reduceMul, Int.reduceNeg, reduceCtorEq, *,  horariumref3_Size_0, horariumref3_Size_1, horariumref3_Size_2, horariumref3_Size_3, horariumref3_Size_4]
  repeat' (first | (refine Wg_dec (fun hc => ?_) (fun hc => ?_) <;> simp (disch := omega) only [go_sem, ↓reduceIte, Nat.reduceEqDiff, Nat.reduceAdd, Nat.reduceSub, Nat.reduceLeDiff, Nat.reduceLT, List.reduceReplicate, Nat.reduceMul, Int.reduceNeg, reduceCtorEq, *]) | (refine Wb_dec (fun hc => ?_) (fun hc => ?_) <;> simp (disch := omega) only [go_sem, ↓reduceIte, Nat.reduceEqDiff, Nat.reduceAdd, Nat.reduceSub, Nat.reduceLeDiff, Nat.reduceLT, List.reduceReplicate, Nat.reduceMul, Int.reduceNeg, reduceCtorEq, *]))
  · exact ⟨by simp [size]; omega, Ext.refl h⟩
  · exact ⟨by simp [size]; omega, Ext.refl h⟩
  · refine WC_loop_n (fun n e h' => ∃ (i : Nat) (left : Int), n = L.length - i ∧ e 0 = v ∧ e 1 = .i .i64 a ∧ e 5 = .i .i64 left ∧ e 6 = .i .i64 i ∧ Ext h h' ∧ a ≤ i ∧ i ≤ L.length ∧ 0 < left ∧ left ≤ 1 + 128 * i ∧ szGo (L.drop i) left (i - a) = size L a) ?_ _ _ _ ⟨a.toNat, 1, rfl, ?_⟩
    · rintro n e h' ⟨i, left, rfl, e0, e1, e5, e6, hx, hi1, hi2, hl1, hl2, hz⟩ ih
      have hg := hx.get
      have hk := kids_bd (nth L i)
      rw [horariumref3_Size_16_go]
      simp (disch := omega) only [go_sem, ↓reduceIte, Nat.reduceEqDiff, Nat.reduceAdd, Nat.reduceSub, Nat.reduceLeDiff, Nat.reduceLT, List.reduceReplicate, Nat.reduceMul, Int.reduceNeg, reduceCtorEq, *,  horariumref3_Size_5]
      refine Wb_dec (fun hc => ?_) (fun hc => ?_)
      · rw [drop_nth (by omega), szGo] at hz
        simp (disch := omega) only [go_sem, ↓reduceIte, Nat.reduceEqDiff, Nat.reduceAdd, Nat.reduceSub, Nat.reduceLeDiff, Nat.reduceLT, List.reduceReplicate, Nat.reduceMul, Int.reduceNeg, reduceCtorEq, *,  horariumref3_Size_6, horariumref3_Size_7, horariumref3_Size_8, horariumref3_Size_9, horariumref3_Size_10, horariumref3_Size_11, horariumref3_Size_12, horariumref3_Size_13, horariumref3_Size_14, horariumref3_Size_15, Node.enc]
        refine Ev.imp fine_ev ?_
        rintro _ h2 ⟨rfl, hx2⟩
        have hg2 := hx2.get
        have hn2 := hx2.next
        have hn := hx.next
        simp (disch := omega) only [go_sem, ↓reduceIte, Nat.reduceEqDiff, Nat.reduceAdd, Nat.reduceSub, Nat.reduceLeDiff, Nat.reduceLT, List.reduceReplicate, Nat.reduceMul, Int.reduceNeg, reduceCtorEq, *]
        refine Wb_dec (fun hc2 => ?_) (fun hc2 => ?_)
        · rw [if_pos (by omega)] at hz
          simp (disch := omega) only [go_sem, ↓reduceIte, Nat.reduceEqDiff, Nat.reduceAdd, Nat.reduceSub, Nat.reduceLeDiff, Nat.reduceLT, List.reduceReplicate, Nat.reduceMul, Int.reduceNeg, reduceCtorEq, *]
          exact hx.trans hx2
        · rw [if_neg (by omega)] at hz
          have hka := kids_all (nth L i) (by omega)
          simp (disch := omega) only [go_sem, ↓reduceIte, Nat.reduceEqDiff, Nat.reduceAdd, Nat.reduceSub, Nat.reduceLeDiff, Nat.reduceLT, List.reduceReplicate, Nat.reduceMul, Int.reduceNeg, reduceCtorEq, *]
          repeat' (first | (refine Wg_dec (fun hc => ?_) (fun hc => ?_) <;> simp (disch := omega) only [go_sem, ↓reduceIte, Nat.reduceEqDiff, Nat.reduceAdd, Nat.reduceSub, Nat.reduceLeDiff, Nat.reduceLT, List.reduceReplicate, Nat.reduceMul, Int.reduceNeg, reduceCtorEq, *]) | (refine Wb_dec (fun hc => ?_) (fun hc => ?_) <;> simp (disch := omega) only [go_sem, ↓reduceIte, Nat.reduceEqDiff, Nat.reduceAdd, Nat.reduceSub, Nat.reduceLeDiff, Nat.reduceLT, List.reduceReplicate, Nat.reduceMul, Int.reduceNeg, reduceCtorEq, *]))
          all_goals first
            | (rw [if_pos (by omega)] at hz
               exact ⟨by rw [hz], hx.trans hx2⟩)
            | (rw [if_neg (by omega)] at hz
               refine ih _ _ _ ?_ ⟨i + 1, left + (kids (nth L i) - 1), rfl, ?_⟩
               · omega
               · simp (disch := omega) only [go_sem, ↓reduceIte, Nat.reduceEqDiff, Nat.reduceAdd, Nat.reduceSub, Nat.reduceLeDiff, Nat.reduceLT, List.reduceReplicate, Nat.reduceMul, Int.reduceNeg, reduceCtorEq, *]
                 refine ⟨by first | rfl | (congr 1; omega), hx.trans hx2, by omega, by omega, by omega, by omega, ?_⟩
                 rw [← hz]; congr 1 <;> omega)
      · rw [List.drop_eq_nil_of_le (by omega), szGo] at hz
        simp (disch := omega) only [go_sem, ↓reduceIte, Nat.reduceEqDiff, Nat.reduceAdd, Nat.reduceSub, Nat.reduceLeDiff, Nat.reduceLT, List.reduceReplicate, Nat.reduceMul, Int.reduceNeg, reduceCtorEq, *,  horariumref3_Size_17]
    · simp (disch := omega) only [go_sem, ↓reduceIte, Nat.reduceEqDiff, Nat.reduceAdd, Nat.reduceSub, Nat.reduceLeDiff, Nat.reduceLT, List.reduceReplicate, Nat.reduceMul, Int.reduceNeg, reduceCtorEq, *]
      refine ⟨by rw [show ((a.toNat : Nat) : Int) = a by omega], Ext.refl h, by omega, by omega, by omega, by omega, ?_⟩
      simp only [size]
      rw [if_neg (by omega)]
      congr 1; omega
end Go.Ab.T
namespace Go.Ab.T
open Go Go.Ab
set_option linter.unusedSimpArgs false
set_option linter.unusedVariables false
theorem refTidy_ev {h : AH} {v : V} {L : List Run} (hw : h.lim ≤ h.next) (hS : SlT Run.enc h 2 v L) (hok : RunsOk L) (hLb : L.length < 4000000000) : Ev tp i_horariumref3_Tidy [v] h (fun r h' => SlT Run.enc h' 2 r (tidyGo L []) ∧ Own h r ∧ Ext h h') := by
  obtain ⟨hlen, hbig, hlt, hget, hat, hrow⟩ := hS.facts
  refine Ev_of fn_horariumref3_Tidy (by simp [t_horariumref3_Tidy]) ?_
  unfold t_horariumref3_Tidy
  simp (disch := omega) only [go_sem, ↓reduceIte, Nat.reduceEqDiff, Nat.reduceAdd, Nat.reduceSub, Nat.reduceLeDiff, Nat.reduceLT, List.reduceReplicate, Nat.reduceMul, Int.reduceNeg, reduceCtorEq, *,  horariumref3_Tidy_0, horariumref3_Tidy_1, horariumref3_Tidy_2]
  refine WC_loop_n (fun n e h' => ∃ (i : Nat) (out : V) (A : List Run), n = L.length - i ∧ e 3 = out ∧ e 7 = v ∧ e 8 = .i .i64 L.length ∧ e 9 = .i .i64 i ∧ Ext h h' ∧ i ≤ L.length ∧ A.length ≤ i ∧ Own h out ∧ SlT Run.enc h' 2 out A ∧ RunsOk A ∧ tidyGo (L.drop i) A = tidyGo L []) ?_ _ _ _ ⟨0, .ns, [], rfl, ?_⟩
  · rintro n e h' ⟨i, out, A, rfl, e3, e7, e8, e9, hx, hi, hA, oo, so, okA, hz⟩ ih
    obtain ⟨olen, obig, olt, oget, oat, orow⟩ := so.facts
    have hg := hx.get
    have hn := hx.next
    have hl := hx.lim
    have xa : ∀ k1 k2, Ext h' ((h'.alloc k1).put h'.next k2) := fun _ _ => ((Ext.refl h').alloc _).put _ _ (Nat.le_refl _)
    rw [horariumref3_Tidy_11_go]
    simp (disch := omega) only [go_sem, ↓reduceIte, Nat.reduceEqDiff, Nat.reduceAdd, Nat.reduceSub, Nat.reduceLeDiff, Nat.reduceLT, List.reduceReplicate, Nat.reduceMul, Int.reduceNeg, reduceCtorEq, *,  horariumref3_Tidy_3]
    refine Wb_dec (fun hc => ?_) (fun hc => ?_)
    · rw [drop_nth (by omega), tidyGo] at hz
      have hb := hok i (by omega)
      simp (disch := omega) only [go_sem, ↓reduceIte, Nat.reduceEqDiff, Nat.reduceAdd, Nat.reduceSub, Nat.reduceLeDiff, Nat.reduceLT, List.reduceReplicate, Nat.reduceMul, Int.reduceNeg, reduceCtorEq, *,  horariumref3_Tidy_4, horariumref3_Tidy_5, horariumref3_Tidy_6, Run.enc]
      refine Wb_dec (fun hc2 => ?_) (fun hc2 => ?_)
      · rw [if_pos hc2] at hz
        simp (disch := omega) only [go_sem, ↓reduceIte, Nat.reduceEqDiff, Nat.reduceAdd, Nat.reduceSub, Nat.reduceLeDiff, Nat.reduceLT, List.reduceReplicate, Nat.reduceMul, Int.reduceNeg, reduceCtorEq, *,  horariumref3_Tidy_10]
        refine ih _ _ _ ?_ ⟨i + 1, out, A, rfl, ?_⟩
        · omega
        · simp (disch := omega) only [go_sem, ↓reduceIte, Nat.reduceEqDiff, Nat.reduceAdd, Nat.reduceSub, Nat.reduceLeDiff, Nat.reduceLT, List.reduceReplicate, Nat.reduceMul, Int.reduceNeg, reduceCtorEq, *]
          exact ⟨(hx.alloc _).put _ _ hn, by omega, by omega, SlT.ext so (xa _ _)⟩
      · rw [if_neg hc2] at hz
        simp (disch := omega) only [go_sem, ↓reduceIte, Nat.reduceEqDiff, Nat.reduceAdd, Nat.reduceSub, Nat.reduceLeDiff, Nat.reduceLT, List.reduceReplicate, Nat.reduceMul, Int.reduceNeg, reduceCtorEq, *,  horariumref3_Tidy_7]
        refine Wg_dec (fun hc3 => ?_) (fun hc3 => ?_)
        · have hk : ((A.length : Int) - 1).toNat = A.length - 1 := by omega
          have ho : h.next ≤ idV out := by
            rcases oo with rfl | ho
            · simp [lenV] at olen; omega
            · exact ho
          have hAn := okA (A.length - 1) (by omega)
          simp (disch := omega) only [go_sem, ↓reduceIte, Nat.reduceEqDiff, Nat.reduceAdd, Nat.reduceSub, Nat.reduceLeDiff, Nat.reduceLT, List.reduceReplicate, Nat.reduceMul, Int.reduceNeg, reduceCtorEq, *,  Run.enc]
          refine Wb_dec (fun hc4 => ?_) (fun hc4 => ?_)
          · rw [if_pos ⟨by omega, hc4⟩] at hz
            simp (disch := omega) only [go_sem, ↓reduceIte, Nat.reduceEqDiff, Nat.reduceAdd, Nat.reduceSub, Nat.reduceLeDiff, Nat.reduceLT, List.reduceReplicate, Nat.reduceMul, Int.reduceNeg, reduceCtorEq, *,  horariumref3_Tidy_8, horariumref3_Tidy_10, Run.enc]
            refine Ev.imp (sum_ev hAn hb) ?_
            rintro _ h2 ⟨rfl, rfl⟩
            simp (disch := omega) only [go_sem, ↓reduceIte, Nat.reduceEqDiff, Nat.reduceAdd, Nat.reduceSub, Nat.reduceLeDiff, Nat.reduceLT, List.reduceReplicate, Nat.reduceMul, Int.reduceNeg, reduceCtorEq, *,  Run.enc]
            refine ih _ _ _ ?_ ⟨i + 1, out, A.set (A.length - 1) ⟨(nth A (A.length - 1)).part, addR (nth A (A.length - 1)).n (nth L i).n⟩, rfl, ?_⟩
            · omega
            · simp (disch := omega) only [go_sem, ↓reduceIte, Nat.reduceEqDiff, Nat.reduceAdd, Nat.reduceSub, Nat.reduceLeDiff, Nat.reduceLT, List.reduceReplicate, Nat.reduceMul, Int.reduceNeg, reduceCtorEq, *,  List.length_set]
              have x1 := hx.trans (xa ⟨2, [[.i .i64 0, .i .i64 0]]⟩ ⟨2, [[.i .i64 (nth L i).part, .i .i64 (nth L i).n]]⟩)
              refine ⟨(x1.rb rfl).put _ _ ho, by omega, by omega, ?_, runsOk_set okA (r := ⟨_, _⟩) addR_big.2, by rw [← hz, hc4]⟩
              have s5 := Sl.store (r := [.i .i64 (nth L i).part, .i .i64 (addR (nth A (A.length - 1)).n (nth L i).n)]) (j := A.length - 1) (Sl.ext so (xa ⟨2, [[.i .i64 0, .i .i64 0]]⟩ ⟨2, [[.i .i64 (nth L i).part, .i .i64 (nth L i).n]]⟩)) (by simp; omega)
              rw [csOf_same ((xa _ _).get _ (olt (by omega)))] at s5
              unfold SlT
              rw [List.map_set]
              exact s5
          · rw [if_neg (fun hh => hc4 hh.2)] at hz
            simp (disch := omega) only [go_sem, ↓reduceIte, Nat.reduceEqDiff, Nat.reduceAdd, Nat.reduceSub, Nat.reduceLeDiff, Nat.reduceLT, List.reduceReplicate, Nat.reduceMul, Int.reduceNeg, reduceCtorEq, *,  horariumref3_Tidy_9, horariumref3_Tidy_10, fillE]
            refine app_one (h := (h'.alloc _).put _ _) (R := A.map Run.enc) (Sl.ext so (xa _ _)) ?_ (by simp; omega) ?_
            · rcases oo with hh | hh
              · exact .inl hh
              · exact .inr (by rw [lim_put, lim_alloc]; omega)
            · intro w h4 s4 a4
              have hn4 := a4.next
              simp only [next_put, next_alloc] at hn4
              simp (disch := omega) only [go_sem, ↓reduceIte, Nat.reduceEqDiff, Nat.reduceAdd, Nat.reduceSub, Nat.reduceLeDiff, Nat.reduceLT, List.reduceReplicate, Nat.reduceMul, Int.reduceNeg, reduceCtorEq, *]
              refine ih _ _ _ ?_ ⟨i + 1, w, A ++ [nth L i], rfl, ?_⟩
              · omega
              · simp (disch := omega) only [go_sem, ↓reduceIte, Nat.reduceEqDiff, Nat.reduceAdd, Nat.reduceSub, Nat.reduceLeDiff, Nat.reduceLT, List.reduceReplicate, Nat.reduceMul, Int.reduceNeg, reduceCtorEq, *]
                have hx4 : Ext h h4 := by
                  have x1 := hx.trans (xa ⟨2, [[.i .i64 0, .i .i64 0]]⟩ ⟨2, [[.i .i64 (nth L i).part, .i .i64 (nth L i).n]]⟩)
                  refine ⟨Nat.le_trans x1.next a4.next, a4.lim.trans x1.lim, fun q hq => (a4.get q (Nat.lt_of_lt_of_le hq x1.next) (fun hne => ?_)).trans (x1.get q hq)⟩
                  rcases oo with hh | hh
                  · exact absurd hh hne
                  · omega
                refine ⟨hx4, by omega, by simp; omega, .inr (a4.own h.next (by simp only [next_put, next_alloc]; omega) oo), by simpa [SlT, Run.enc] using s4, ?_⟩
                exact runsOk_snoc okA hb
        · rw [if_neg (fun hh => hc3 (by omega))] at hz
          simp (disch := omega) only [go_sem, ↓reduceIte, Nat.reduceEqDiff, Nat.reduceAdd, Nat.reduceSub, Nat.reduceLeDiff, Nat.reduceLT, List.reduceReplicate, Nat.reduceMul, Int.reduceNeg, reduceCtorEq, *,  horariumref3_Tidy_9, horariumref3_Tidy_10, fillE]
          refine app_one (h := (h'.alloc _).put _ _) (R := A.map Run.enc) (Sl.ext so (xa _ _)) ?_ (by simp; omega) ?_
          · rcases oo with hh | hh
            · exact .inl hh
            · exact .inr (by rw [lim_put, lim_alloc]; omega)
          · intro w h4 s4 a4
            have hn4 := a4.next
            simp only [next_put, next_alloc] at hn4
            simp (disch := omega) only [go_sem, ↓reduceIte, Nat.reduceEqDiff, Nat.reduceAdd, Nat.reduceSub, Nat.reduceLeDiff, Nat.reduceLT, List.reduceReplicate, Nat.reduceMul, Int.reduceNeg, reduceCtorEq, *]
            refine ih _ _ _ ?_ ⟨i + 1, w, A ++ [nth L i], rfl, ?_⟩
            · omega
            · simp (disch := omega) only [go_sem, ↓reduceIte, Nat.reduceEqDiff, Nat.reduceAdd, Nat.reduceSub, Nat.reduceLeDiff, Nat.reduceLT, List.reduceReplicate, Nat.reduceMul, Int.reduceNeg, reduceCtorEq, *]
              have hx4 : Ext h h4 := by
                have x1 := hx.trans (xa ⟨2, [[.i .i64 0, .i .i64 0]]⟩ ⟨2, [[.i .i64 (nth L i).part, .i .i64 (nth L i).n]]⟩)
                refine ⟨Nat.le_trans x1.next a4.next, a4.lim.trans x1.lim, fun q hq => (a4.get q (Nat.lt_of_lt_of_le hq x1.next) (fun hne => ?_)).trans (x1.get q hq)⟩
                rcases oo with hh | hh
                · exact absurd hh hne
                · omega
              refine ⟨hx4, by omega, by simp; omega, .inr (a4.own h.next (by simp only [next_put, next_alloc]; omega) oo), by simpa [SlT, Run.enc] using s4, ?_⟩
              exact runsOk_snoc okA hb
    · rw [List.drop_eq_nil_of_le (by omega), tidyGo] at hz
      simp (disch := omega) only [go_sem, ↓reduceIte, Nat.reduceEqDiff, Nat.reduceAdd, Nat.reduceSub, Nat.reduceLeDiff, Nat.reduceLT, List.reduceReplicate, Nat.reduceMul, Int.reduceNeg, reduceCtorEq, *,  horariumref3_Tidy_12]
      rw [← hz]; exact so
  · simp (disch := omega) only [go_sem, ↓reduceIte, Nat.reduceEqDiff, Nat.reduceAdd, Nat.reduceSub, Nat.reduceLeDiff, Nat.reduceLT, List.reduceReplicate, Nat.reduceMul, Int.reduceNeg, reduceCtorEq, *]
    exact ⟨Ext.refl h, Nat.zero_le _, .inl rfl, Sl.nil _ _, fun i hi => by simp at hi⟩
end Go.Ab.T
namespace Go.Ab.T
open Go Go.Ab
set_option linter.unusedSimpArgs false
set_option linter.unusedVariables false
/-- Trees side by side: the first, and those behind it. -/
inductive Fo where
  | nil
  | leaf (x : Node) (r : Fo)
  | seq (x : Node) (k r : Fo)
  | rep (x : Node) (k r : Fo)
namespace Fo
def flat : Fo → List Node
  | nil => []
  | leaf x r => x :: flat r
  | seq x k r => x :: (flat k ++ flat r)
  | rep x k r => x :: (flat k ++ flat r)
def count : Fo → Nat
  | nil => 0
  | leaf _ r => count r + 1
  | seq _ _ r => count r + 1
  | rep _ _ r => count r + 1
def ok : Fo → Prop
  | nil => True
  | leaf x r => T.kids x = 0 ∧ ok r
  | seq x k r => x.kind = 3 ∧ T.kids x = count k ∧ 0 < count k ∧ ok k ∧ ok r
  | rep x k r => x.kind = 4 ∧ T.kids x = 1 ∧ count k = 1 ∧ ok k ∧ ok r
def depth : Fo → Nat
  | nil => 0
  | leaf _ r => max 1 (depth r)
  | seq _ k r => max (depth k + 1) (depth r)
  | rep _ k r => max (depth k + 1) (depth r)
def len : Fo → Int
  | nil => 0
  | leaf x r => x.n + len r
  | seq _ k r => len k + len r
  | rep x k r => x.n * len k + len r
def snoc : Fo → Fo → Fo
  | nil, g => g
  | leaf x r, g => leaf x (snoc r g)
  | seq x k r, g => seq x k (snoc r g)
  | rep x k r, g => rep x k (snoc r g)
theorem split : ∀ (f : Fo) (a b : Nat), count f = a + b → ok f → ∃ f1 f2, flat f = flat f1 ++ flat f2 ∧ count f1 = a ∧ count f2 = b ∧ ok f1 ∧ ok f2
  | f, 0, b, hc, ho => ⟨nil, f, by simp [flat], rfl, by omega, trivial, ho⟩
  | nil, a + 1, b, hc, ho => by simp only [count] at hc; omega
  | leaf x r, a + 1, b, hc, ho => by
    obtain ⟨f1, f2, h1, h2, h3, h4, h5⟩ := split r a b (by simp only [count] at hc; omega) ho.2
    exact ⟨leaf x f1, f2, by simp [flat, h1], by simp [count, h2], h3, ⟨ho.1, h4⟩, h5⟩
  | seq x k r, a + 1, b, hc, ho => by
    obtain ⟨f1, f2, h1, h2, h3, h4, h5⟩ := split r a b (by simp only [count] at hc; omega) ho.2.2.2.2
    exact ⟨seq x k f1, f2, by simp [flat, h1], by simp [count, h2], h3, ⟨ho.1, ho.2.1, ho.2.2.1, ho.2.2.2.1, h4⟩, h5⟩
  | rep x k r, a + 1, b, hc, ho => by
    obtain ⟨f1, f2, h1, h2, h3, h4, h5⟩ := split r a b (by simp only [count] at hc; omega) ho.2.2.2.2
    exact ⟨rep x k f1, f2, by simp [flat, h1], by simp [count, h2], h3, ⟨ho.1, ho.2.1, ho.2.2.1, ho.2.2.2.1, h4⟩, h5⟩
end Fo
theorem Fo.nil_of {f : Fo} (h : f.count = 0) : f = .nil := by cases f <;> simp [Fo.count] at h ⊢
/-- A forest's nodes use up as many as it has trees. -/
theorem sz_flat : ∀ (f : Fo) (R : List Node) (left n : Int), f.ok → ((f.count : Int) < left → szGo (f.flat ++ R) left n = szGo R (left - f.count) (n + f.flat.length)) ∧ (0 < f.count → left = f.count → szGo (f.flat ++ R) left n = n + f.flat.length)
  | .nil, R, left, n, ho => ⟨fun _ => by simp [Fo.flat, Fo.count], fun h => by simp [Fo.count] at h⟩
  | .leaf x r, R, left, n, ho => by
    obtain ⟨hk, hor⟩ := ho
    have ih := sz_flat r R (left + (kids x - 1)) (n + 1) hor
    simp only [Fo.flat, Fo.count, List.cons_append, szGo, List.length_cons]
    rw [if_neg (by omega)]
    refine ⟨fun h => ?_, fun _ h => ?_⟩
    · rw [if_neg (by omega), ih.1 (by omega)]; congr 1 <;> omega
    · by_cases hr : r.count = 0
      · rw [if_pos (by omega), Fo.nil_of hr]; simp [Fo.flat]
      · rw [if_neg (by omega), ih.2 (by omega) (by omega)]; omega
  | .seq x k r, R, left, n, ho => by
    obtain ⟨h3, hk, hp, hok, hor⟩ := ho
    have i1 := sz_flat k (r.flat ++ R) (left + (kids x - 1)) (n + 1) hok
    have i2 := sz_flat r R (left + (kids x - 1) - k.count) (n + 1 + k.flat.length) hor
    simp only [Fo.flat, Fo.count, List.cons_append, szGo, List.length_cons, List.append_assoc, List.length_append]
    rw [if_neg (by omega)]
    refine ⟨fun h => ?_, fun _ h => ?_⟩
    · rw [if_neg (by omega), i1.1 (by omega), i2.1 (by omega)]; congr 1 <;> omega
    · by_cases hr : r.count = 0
      · rw [if_neg (by omega), i1.2 (by omega) (by omega), Fo.nil_of hr]; simp [Fo.flat]; omega
      · rw [if_neg (by omega), i1.1 (by omega), i2.2 (by omega) (by omega)]; omega
  | .rep x k r, R, left, n, ho => by
    obtain ⟨h3, hk, hp, hok, hor⟩ := ho
    have i1 := sz_flat k (r.flat ++ R) (left + (kids x - 1)) (n + 1) hok
    have i2 := sz_flat r R (left + (kids x - 1) - k.count) (n + 1 + k.flat.length) hor
    simp only [Fo.flat, Fo.count, List.cons_append, szGo, List.length_cons, List.append_assoc, List.length_append]
    rw [if_neg (by omega)]
    refine ⟨fun h => ?_, fun _ h => ?_⟩
    · rw [if_neg (by omega), i1.1 (by omega), i2.1 (by omega)]; congr 1 <;> omega
    · by_cases hr : r.count = 0
      · rw [if_neg (by omega), i1.2 (by omega) (by omega), Fo.nil_of hr]; simp [Fo.flat]; omega
      · rw [if_neg (by omega), i1.1 (by omega), i2.2 (by omega) (by omega)]; omega
theorem kids_cases (x : Node) (h : 0 ≤ kids x) : (kids x = 0 ∧ x.kind ≠ 3 ∧ x.kind ≠ 4) ∨ (x.kind = 3 ∧ 0 < kids x) ∨ (x.kind = 4 ∧ kids x = 1) := by
  have hk := kids_all x h
  by_cases h3 : x.kind = 3
  · right; left
    refine ⟨h3, ?_⟩
    have := hk.1 h3
    unfold kids at h this ⊢
    (repeat' split at h) <;> omega
  · by_cases h4 : x.kind = 4
    · exact .inr (.inr ⟨h4, hk.2.1 h4⟩)
    · exact .inl ⟨hk.2.2 h3 h4, h3, h4⟩
/-- What has a size is a forest. -/
theorem sz_parse : ∀ (L : List Node) (left : Nat) (n : Int), 0 < left → 0 ≤ n → szGo L left n ≠ 0 → ∃ (f : Fo) (R : List Node), f.ok ∧ f.count = left ∧ L = f.flat ++ R ∧ szGo L left n = n + f.flat.length
  | [], left, n, hl, hn, hz => by simp [szGo] at hz
  | x :: r, left, n, hl, hn, hz => by
    by_cases hk : kids x < 0
    · rw [szGo, if_pos hk] at hz; exact absurd rfl hz
    · by_cases h0 : (left : Int) + (kids x - 1) = 0
      · have hkx : kids x = 0 := by omega
        refine ⟨.leaf x .nil, r, ⟨hkx, trivial⟩, by simp only [Fo.count]; omega, by simp [Fo.flat], ?_⟩
        rw [szGo, if_neg hk, if_pos h0]; simp [Fo.flat]
      · rw [szGo, if_neg hk, if_neg h0] at hz
        have e : (left : Int) + (kids x - 1) = ((kids x).toNat + (left - 1) : Nat) := by omega
        rw [e] at hz
        obtain ⟨f, R, hfo, hfc, hL, hs⟩ := sz_parse r _ (n + 1) (by omega) (by omega) hz
        obtain ⟨f1, f2, h1, h2, h3, h4, h5⟩ := Fo.split f _ _ hfc hfo
        rcases kids_cases x (by omega) with ⟨c1, c2, c3⟩ | ⟨c1, c2⟩ | ⟨c1, c2⟩
        · refine ⟨.leaf x f, R, ⟨c1, hfo⟩, by simp only [Fo.count]; omega, by simp [Fo.flat, hL], ?_⟩
          rw [szGo, if_neg hk, if_neg h0, e, hs]; simp only [Fo.flat, List.length_cons]; omega
        · refine ⟨.seq x f1 f2, R, ⟨c1, by omega, by omega, h4, h5⟩, by simp only [Fo.count]; omega, by simp [Fo.flat, hL, h1], ?_⟩
          rw [szGo, if_neg hk, if_neg h0, e, hs, h1]; simp only [Fo.flat, List.length_cons]; omega
        · refine ⟨.rep x f1 f2, R, ⟨c1, c2, by omega, h4, h5⟩, by simp only [Fo.count]; omega, by simp [Fo.flat, hL, h1], ?_⟩
          rw [szGo, if_neg hk, if_neg h0, e, hs, h1]; simp only [Fo.flat, List.length_cons]; omega
/-- A table that is whole is one tree. -/
theorem whole_iff (L : List Node) : wholeB L = true ↔ ∃ f : Fo, f.ok ∧ f.count = 1 ∧ L = f.flat := by
  simp only [wholeB, decide_eq_true_eq]
  constructor
  · rintro ⟨hp, hs⟩
    unfold size at hs
    rw [if_neg (by omega)] at hs
    simp only [Int.toNat_zero, List.drop_zero] at hs
    obtain ⟨f, R, ho, hc, hL, hz⟩ := sz_parse L 1 0 (by omega) (by omega) (by simp only [Int.natCast_one]; omega)
    refine ⟨f, ho, hc, ?_⟩
    simp only [Int.natCast_one] at hz
    rw [hz] at hs
    have : R = [] := by
      have := congrArg List.length hL
      simp only [List.length_append] at this
      exact List.length_eq_zero_iff.1 (by omega)
    rw [hL, this, List.append_nil]
  · rintro ⟨f, ho, hc, rfl⟩
    have hp : 0 < f.flat.length := by cases f <;> simp [Fo.flat, Fo.count] at hc ⊢
    refine ⟨hp, ?_⟩
    unfold size
    rw [if_neg (by omega)]
    have := (sz_flat f [] 1 0 ho).2 (by omega) (by omega)
    rw [List.append_nil] at this
    simp only [Int.toNat_zero, List.drop_zero]
    omega
/-- The size of a tree that lies somewhere. -/
theorem size_at {L : List Node} {a : Nat} {f : Fo} {R : List Node} (hd : L.drop a = f.flat ++ R) (ho : f.ok) (hc : f.count = 1) : size L a = f.flat.length := by
  have hp : 0 < f.flat.length := by cases f <;> simp [Fo.flat, Fo.count] at hc ⊢
  have hl := congrArg List.length hd
  simp only [List.length_drop, List.length_append] at hl
  unfold size
  rw [if_neg (by omega), Int.toNat_natCast, hd, (sz_flat f R 1 0 ho).2 (by omega) (by omega)]
  omega

/-! ### The stack machine on a forest -/
def addF : Frame → Fo → Frame
  | t, .nil => t
  | t, .leaf x r => addF (t.take (pushF x)) r
  | t, .seq x k r => addF (t.take (addF (pushF x) k)) r
  | t, .rep x k r => addF (t.take (addF (pushF x) k)) r
theorem addF_left : ∀ (f : Fo) (t : Frame), (addF t f).left = t.left - f.count
  | .nil, t => by simp [addF, Fo.count]
  | .leaf x r, t => by rw [addF, addF_left r]; simp only [Frame.take, Fo.count]; omega
  | .seq x k r, t => by rw [addF, addF_left r]; simp only [Frame.take, Fo.count]; omega
  | .rep x k r, t => by rw [addF, addF_left r]; simp only [Frame.take, Fo.count]; omega
theorem addF_node : ∀ (f : Fo) (t : Frame), (addF t f).node = t.node
  | .nil, t => by simp [addF]
  | .leaf x r, t => by rw [addF, addF_node r]; simp only [Frame.take]
  | .seq x k r, t => by rw [addF, addF_node r]; simp only [Frame.take]
  | .rep x k r, t => by rw [addF, addF_node r]; simp only [Frame.take]
theorem popL_stay {t u : Frame} {S : List Frame} (h : t.left ≠ 0) : popL (t :: u :: S) = t :: u :: S := by rw [popL, if_neg h]
theorem popL_go {t u : Frame} {S : List Frame} (h : t.left = 0) : popL (t :: u :: S) = popL (u.take t :: S) := by rw [popL, if_pos h]
theorem popL_one {t : Frame} : popL [t] = [t] := by rw [popL]
theorem popL_live {t : Frame} {S : List Frame} (h : t.left ≠ 0) : popL (t :: S) = t :: S := by
  cases S with
  | nil => exact popL_one
  | cons u S => exact popL_stay h
theorem meas_flat : ∀ (f : Fo) (R : List Node) (t : Frame) (S : List Frame), f.ok → (f.count : Int) ≤ t.left → 0 < f.count → measGo (f.flat ++ R) (t :: S) = measGo R (popL (addF t f :: S))
  | .nil, R, t, S, ho, hl, hc => by simp [Fo.count] at hc
  | .leaf x r, R, t, S, ho, hl, hc => by
    obtain ⟨hk, hor⟩ := ho
    simp only [Fo.count] at hl
    have hp : (pushF x).left = 0 := by simp only [pushF]; exact hk
    have ht : (t.take (pushF x)).left = t.left - 1 := rfl
    rw [Fo.flat, List.cons_append, measGo, popL_go hp, addF]
    by_cases hr : r.count = 0
    · rw [Fo.nil_of hr, Fo.flat, addF, List.nil_append]
    · rw [popL_live (by omega), meas_flat r R _ S hor (by omega) (by omega)]
  | .seq x k r, R, t, S, ho, hl, hc => by
    obtain ⟨h3, hk, hp, hok, hor⟩ := ho
    simp only [Fo.count] at hl
    have hpl : (pushF x).left = k.count := by simp only [pushF]; exact hk
    have hak := addF_left k (pushF x)
    have ht : (t.take (addF (pushF x) k)).left = t.left - 1 := rfl
    rw [Fo.flat, List.cons_append, List.append_assoc, measGo, popL_stay (by omega), addF, meas_flat k _ (pushF x) (t :: S) hok (by omega) hp, popL_go (by omega)]
    by_cases hr : r.count = 0
    · rw [Fo.nil_of hr, Fo.flat, addF, List.nil_append]
    · rw [popL_live (by omega), meas_flat r R _ S hor (by omega) (by omega)]
  | .rep x k r, R, t, S, ho, hl, hc => by
    obtain ⟨h3, hk, hp, hok, hor⟩ := ho
    simp only [Fo.count] at hl
    have hpl : (pushF x).left = k.count := by simp only [pushF]; omega
    have hak := addF_left k (pushF x)
    have ht : (t.take (addF (pushF x) k)).left = t.left - 1 := rfl
    rw [Fo.flat, List.cons_append, List.append_assoc, measGo, popL_stay (by omega), addF, meas_flat k _ (pushF x) (t :: S) hok (by omega) (by omega), popL_go (by omega)]
    by_cases hr : r.count = 0
    · rw [Fo.nil_of hr, Fo.flat, addF, List.nil_append]
    · rw [popL_live (by omega), meas_flat r R _ S hor (by omega) (by omega)]
theorem kids_n {x : Node} (h : 0 ≤ kids x) : 1 ≤ x.n := by
  unfold kids at h; (repeat' split at h) <;> omega
theorem Fo.len_pos : ∀ (f : Fo), f.ok → 0 ≤ f.len ∧ (0 < f.count → 1 ≤ f.len)
  | .nil, _ => by simp [Fo.len, Fo.count]
  | .leaf x r, ho => by
    have := Fo.len_pos r ho.2; have := kids_n (x := x) (by rw [ho.1]; omega)
    simp only [Fo.len]; omega
  | .seq x k r, ho => by
    have := Fo.len_pos r ho.2.2.2.2; have h1 := Fo.len_pos k ho.2.2.2.1; have := ho.2.2.1
    simp only [Fo.len]; omega
  | .rep x k r, ho => by
    have := Fo.len_pos r ho.2.2.2.2; have h1 := Fo.len_pos k ho.2.2.2.1; have := ho.2.2.1
    have h2 := kids_n (x := x) (by rw [ho.2.1]; omega)
    have h3 : 1 * 1 ≤ x.n * k.len := Int.mul_le_mul h2 (by omega) (by omega) (by omega)
    simp only [Fo.len]; omega
theorem addF_depth : ∀ (f : Fo) (t : Frame), f.ok → 0 ≤ t.depth → (addF t f).depth = max t.depth f.depth
  | .nil, t, ho, ht => by simp only [addF, Fo.depth]; omega
  | .leaf x r, t, ho, ht => by
    rw [addF, addF_depth r _ ho.2 (by simp only [Frame.take]; omega)]; simp only [Frame.take, pushF, Fo.depth]; omega
  | .seq x k r, t, ho, ht => by
    have := addF_depth k (pushF x) ho.2.2.2.1 (by simp [pushF])
    simp only [pushF] at this
    rw [addF, addF_depth r _ ho.2.2.2.2 (by simp only [Frame.take]; omega)]; simp only [Frame.take, pushF, Fo.depth, this]; omega
  | .rep x k r, t, ho, ht => by
    have := addF_depth k (pushF x) ho.2.2.2.1 (by simp [pushF])
    simp only [pushF] at this
    rw [addF, addF_depth r _ ho.2.2.2.2 (by simp only [Frame.take]; omega)]; simp only [Frame.take, pushF, Fo.depth, this]; omega
theorem clip_mul {n l : Int} (hn : 1 ≤ n) (hl : 1 ≤ l) : min 4097 (min 4097 n * min 4097 l) = min 4097 (n * l) := by
  by_cases h1 : n ≤ 4097
  · by_cases h2 : l ≤ 4097
    · rw [Int.min_eq_right h1, Int.min_eq_right h2]
    · have a : 1 * l ≤ n * l := Int.mul_le_mul_of_nonneg_right hn (by omega)
      have b : 1 * 4097 ≤ n * 4097 := Int.mul_le_mul_of_nonneg_right hn (by omega)
      rw [Int.min_eq_right h1, Int.min_eq_left (by omega : 4097 ≤ l)]; omega
  · have a : n * 1 ≤ n * l := Int.mul_le_mul_of_nonneg_left hl (by omega)
    have b : 4097 * 1 ≤ 4097 * min 4097 l := Int.mul_le_mul_of_nonneg_left (by omega) (by omega)
    rw [Int.min_eq_left (by omega : 4097 ≤ n)]; omega
theorem addF_ticks : ∀ (f : Fo) (t : Frame), f.ok → 0 ≤ t.ticks ∧ t.ticks ≤ 4097 → (addF t f).ticks = min 4097 (t.ticks + f.len)
  | .nil, t, ho, ht => by simp only [addF, Fo.len]; omega
  | .leaf x r, t, ho, ht => by
    have h1 := kids_n (x := x) (by rw [ho.1]; omega)
    have h4 : x.kind ≠ 4 := by
      have := kids_cases x (by rw [ho.1]; omega)
      rw [ho.1] at this; omega
    have hl := (Fo.len_pos r ho.2).1
    have e : (t.take (pushF x)).ticks = min 4097 (t.ticks + x.n) := by
      simp only [Frame.take, Frame.out, pushF, nadd, if_neg h4, if_pos ho.1]; omega
    rw [addF, addF_ticks r _ ho.2 (by rw [e]; omega), e]; simp only [Fo.len]; omega
  | .seq x k r, t, ho, ht => by
    have hk := addF_ticks k (pushF x) ho.2.2.2.1 (by
      have := ho.2.2.1; have := ho.2.1
      simp only [pushF]; rw [if_neg (by omega)]; omega)
    have hl := (Fo.len_pos r ho.2.2.2.2).1
    have hlk := (Fo.len_pos k ho.2.2.2.1).1
    have h0 : (pushF x).ticks = 0 := by
      have := ho.2.2.1; have := ho.2.1
      simp only [pushF]; rw [if_neg (by omega)]
    have e : (t.take (addF (pushF x) k)).ticks = min 4097 (t.ticks + k.len) := by
      simp only [Frame.take, Frame.out, addF_node, nadd, hk, h0]
      rw [if_neg (by simp only [pushF]; have := ho.1; omega)]; omega
    rw [addF, addF_ticks r _ ho.2.2.2.2 (by rw [e]; omega), e]; simp only [Fo.len]; omega
  | .rep x k r, t, ho, ht => by
    have hk := addF_ticks k (pushF x) ho.2.2.2.1 (by
      have := ho.2.1
      simp only [pushF]; rw [if_neg (by omega)]; omega)
    have hl := (Fo.len_pos r ho.2.2.2.2).1
    have hlk := (Fo.len_pos k ho.2.2.2.1).2 (by have := ho.2.2.1; omega)
    have h1 := kids_n (x := x) (by rw [ho.2.1]; omega)
    have h0 : (pushF x).ticks = 0 := by
      have := ho.2.1
      simp only [pushF]; rw [if_neg (by omega)]
    have hx : 1 * 1 ≤ x.n * k.len := Int.mul_le_mul h1 hlk (by omega) (by omega)
    have e : (t.take (addF (pushF x) k)).ticks = min 4097 (t.ticks + x.n * k.len) := by
      simp only [Frame.take, Frame.out, addF_node, nadd, hk, h0, ntimes]
      rw [if_pos (by simp only [pushF]; exact ho.1), Int.zero_add, show (pushF x).node.n = x.n from rfl, clip_mul h1 hlk]; omega
    rw [addF, addF_ticks r _ ho.2.2.2.2 (by rw [e]; omega), e]; simp only [Fo.len]; omega
theorem measured_flat {f : Fo} (ho : f.ok) (hc : f.count = 1) : (measured f.flat).depth = f.depth ∧ (measured f.flat).ticks = min 4097 f.len := by
  have h := meas_flat f [] ⟨⟨0, 0, 0⟩, 1, 0, 0⟩ [] ho (by simp [hc]) (by omega)
  rw [List.append_nil, measGo, popL_one] at h
  have e : measured f.flat = addF ⟨⟨0, 0, 0⟩, 1, 0, 0⟩ f := by simp [measured, h, nth]
  rw [e, addF_depth f _ ho (by simp), addF_ticks f _ ho (by simp)]
  simp
end Go.Ab.T
namespace Go.Ab.T
open Go Go.Ab
set_option linter.unusedSimpArgs false
set_option linter.unusedVariables false
set_option maxHeartbeats 1000000
/-- The places of the trees. -/
def posF : Nat → Fo → List Int
  | _, .nil => []
  | b, .leaf x r => (b : Int) :: posF (b + 1) r
  | b, .seq x k r => (b : Int) :: posF (b + 1 + k.flat.length) r
  | b, .rep x k r => (b : Int) :: posF (b + 1 + k.flat.length) r
theorem posF_len : ∀ (f : Fo) (b : Nat), (posF b f).length = f.count
  | .nil, b => rfl
  | .leaf x r, b => by simp [posF, Fo.count, posF_len r]
  | .seq x k r, b => by simp [posF, Fo.count, posF_len r]
  | .rep x k r, b => by simp [posF, Fo.count, posF_len r]
theorem Fo.count_le : ∀ (f : Fo), f.count ≤ f.flat.length
  | .nil => by simp [Fo.count]
  | .leaf x r => by have := Fo.count_le r; simp [Fo.count, Fo.flat]; omega
  | .seq x k r => by have := Fo.count_le r; simp [Fo.count, Fo.flat]; omega
  | .rep x k r => by have := Fo.count_le r; simp [Fo.count, Fo.flat]; omega
theorem drop_next {α : Type} {L : List α} {b : Nat} {x : α} {r : List α} (h : L.drop b = x :: r) : b < L.length ∧ L.drop (b + 1) = r := by
  constructor
  · have := congrArg List.length h
    simp only [List.length_drop, List.length_cons] at this; omega
  · rw [← List.drop_drop, h]; rfl
theorem drop_app {α : Type} {L : List α} {b : Nat} {p r : List α} (h : L.drop b = p ++ r) : L.drop (b + p.length) = r := by
  rw [← List.drop_drop, h, List.drop_left]
theorem drop_nth_eq {α : Type} [Inhabited α] {L : List α} {b : Nat} {x : α} {r : List α} (h : L.drop b = x :: r) : nth L b = x := by
  have h1 := drop_next h
  rw [drop_nth h1.1] at h
  exact (List.cons.inj h).1
/-- The first tree, and where the others begin. -/
theorem first_tree {g : Fo} (hg : 0 < g.count) (ho : g.ok) : ∃ (f r : Fo), f.ok ∧ f.count = 1 ∧ r.ok ∧ g.flat = f.flat ++ r.flat ∧ r.count + 1 = g.count ∧ ∀ b, posF b g = (b : Int) :: posF (b + f.flat.length) r := by
  cases g with
  | nil => simp [Fo.count] at hg
  | leaf x r => exact ⟨.leaf x .nil, r, ⟨ho.1, trivial⟩, rfl, ho.2, by simp [Fo.flat], rfl, fun b => by simp [posF, Fo.flat]⟩
  | seq x k r => exact ⟨.seq x k .nil, r, ⟨ho.1, ho.2.1, ho.2.2.1, ho.2.2.2.1, trivial⟩, rfl, ho.2.2.2.2, by simp [Fo.flat], rfl, fun b => by simp [posF, Fo.flat]; congr 1; omega⟩
  | rep x k r => exact ⟨.rep x k .nil, r, ⟨ho.1, ho.2.1, ho.2.2.1, ho.2.2.2.1, trivial⟩, rfl, ho.2.2.2.2, by simp [Fo.flat], rfl, fun b => by simp [posF, Fo.flat]; congr 1; omega⟩
attribute [go_sem] E1
theorem refKids_ev {h : AH} {v : V} {L : List Node} {a : Nat} {x : Node} {k : Fo} {R : List Node} (hw : h.lim ≤ h.next) (hS : SlT Node.enc h 3 v L) (hLb : L.length < 4000000000) (hd : L.drop a = x :: (k.flat ++ R)) (ho : k.ok) (hs : size L a = 1 + k.flat.length) :
    Ev tp i_horariumref3_Kids [v, .i .i64 a] h (fun r h' => SlT E1 h' 1 r (posF (a + 1) k) ∧ Own h r ∧ Ext h h') := by
  have hal := (drop_next hd).1
  have hll := congrArg List.length hd
  simp only [List.length_drop, List.length_cons, List.length_append] at hll
  refine Ev_of fn_horariumref3_Kids (by simp [t_horariumref3_Kids]) ?_; unfold t_horariumref3_Kids
  simp (disch := omega) only [go_sem, ↓reduceIte, Nat.reduceEqDiff, Nat.reduceAdd, Nat.reduceSub, Nat.reduceLeDiff, Nat.reduceLT, List.reduceReplicate, Nat.reduceMul, Int.reduceNeg, reduceCtorEq, *,  horariumref3_Kids_0, horariumref3_Kids_1]
  refine Ev.imp (refSize_ev hS) ?_
  rintro _ h2 ⟨rfl, hx2⟩
  have hn2 := hx2.next
  have hl2 := hx2.lim
  simp (disch := omega) only [go_sem, ↓reduceIte, Nat.reduceEqDiff, Nat.reduceAdd, Nat.reduceSub, Nat.reduceLeDiff, Nat.reduceLT, List.reduceReplicate, Nat.reduceMul, Int.reduceNeg, reduceCtorEq, *,  horariumref3_Kids_1, horariumref3_Kids_2, horariumref3_Kids_3]
  refine WC_loop_n (fun n e h' => ∃ (b : Nat) (g : Fo) (out : V) (D : List Int), n = g.count ∧ e 0 = v ∧ e 1 = .i .i64 a ∧ e 5 = .i .i64 (1 + k.flat.length) ∧ e 6 = out ∧ e 7 = .i .i64 b ∧ Ext h h' ∧ Own h out ∧ SlT E1 h' 1 out D ∧ g.ok ∧ L.drop b = g.flat ++ R ∧ b + g.flat.length = a + 1 + k.flat.length ∧ D ++ posF b g = posF (a + 1) k) ?_ _ _ _ ⟨a + 1, k, .ns, [], rfl, ?_⟩
  · rintro n e h' ⟨b, g, out, D, rfl, e0, e1, e5, e6, e7, hx, oo, so, go, gd, gl, gz⟩ ih
    have hn := hx.next
    have hl := hx.lim
    have gpl := posF_len g b
    have kpl := posF_len k (a + 1)
    have kcl := Fo.count_le k
    have hzl := congrArg List.length gz
    simp only [List.length_append] at hzl
    rw [horariumref3_Kids_7_go]
    simp (disch := omega) only [go_sem, ↓reduceIte, Nat.reduceEqDiff, Nat.reduceAdd, Nat.reduceSub, Nat.reduceLeDiff, Nat.reduceLT, List.reduceReplicate, Nat.reduceMul, Int.reduceNeg, reduceCtorEq, *,  horariumref3_Kids_4]
    refine Wb_dec (fun hc => ?_) (fun hc => ?_)
    · have hgc : 0 < g.count := by
        by_cases h0 : g.count = 0
        · rw [Fo.nil_of h0] at gl; simp [Fo.flat] at gl; omega
        · omega
      obtain ⟨f, r, fo, fc, ro, gf, gc, gp⟩ := first_tree hgc go
      rw [gf, List.append_assoc] at gd
      have hsz := size_at gd fo fc
      have gfl := congrArg List.length gf
      simp only [List.length_append] at gfl
      simp (disch := omega) only [go_sem, ↓reduceIte, Nat.reduceEqDiff, Nat.reduceAdd, Nat.reduceSub, Nat.reduceLeDiff, Nat.reduceLT, List.reduceReplicate, Nat.reduceMul, Int.reduceNeg, reduceCtorEq, *,  horariumref3_Kids_5, fillE]
      refine app_two so ?_ (by simp; omega) ?_
      · rcases oo with hh | hh
        · exact .inl hh
        · exact .inr (by omega)
      intro w h4 s4 a4
      have hn4 := a4.next
      have hl4 := a4.lim
      have hx4 : Ext h h4 := by
        refine ⟨by omega, by omega, fun q hq => ?_⟩
        rw [a4.get q (by omega) (oo.imp (fun x => x) (fun x => by omega)), hx.get q hq]
      have ow : Own h w := by
        rcases a4.own with ⟨h1, h2⟩ | h1
        · rcases oo with hh | hh
          · exact absurd hh h1
          · exact .inr (by omega)
        · exact .inr (by omega)
      simp (disch := omega) only [go_sem, ↓reduceIte, Nat.reduceEqDiff, Nat.reduceAdd, Nat.reduceSub, Nat.reduceLeDiff, Nat.reduceLT, List.reduceReplicate, Nat.reduceMul, Int.reduceNeg, reduceCtorEq, *,  horariumref3_Kids_6]
      refine Ev.imp (refSize_ev (hS.ext hx4)) ?_
      rintro _ h5 ⟨rfl, hx5⟩
      have hfl := Fo.count_le f
      simp (disch := omega) only [go_sem, ↓reduceIte, Nat.reduceEqDiff, Nat.reduceAdd, Nat.reduceSub, Nat.reduceLeDiff, Nat.reduceLT, List.reduceReplicate, Nat.reduceMul, Int.reduceNeg, reduceCtorEq, *,  horariumref3_Kids_6]
      refine ih _ _ _ ?_ ⟨b + f.flat.length, r, w, D ++ [(b : Int)], rfl, ?_⟩
      · omega
      · simp (disch := omega) only [go_sem, ↓reduceIte, Nat.reduceEqDiff, Nat.reduceAdd, Nat.reduceSub, Nat.reduceLeDiff, Nat.reduceLT, List.reduceReplicate, Nat.reduceMul, Int.reduceNeg, reduceCtorEq, *]
        refine ⟨hx4.trans hx5, Sl.ext (by simpa [SlT, E1] using s4) hx5, drop_app gd, by omega, ?_⟩
        rw [← gz, gp b]; simp
    · have h0 : g.flat.length = 0 := by omega
      have h1 := Fo.count_le g
      have h2 := Fo.nil_of (f := g) (by omega)
      subst h2
      simp (disch := omega) only [go_sem, ↓reduceIte, Nat.reduceEqDiff, Nat.reduceAdd, Nat.reduceSub, Nat.reduceLeDiff, Nat.reduceLT, List.reduceReplicate, Nat.reduceMul, Int.reduceNeg, reduceCtorEq, *,  horariumref3_Kids_8]
      rw [← gz]; simpa [posF] using so
  · simp (disch := omega) only [go_sem, ↓reduceIte, Nat.reduceEqDiff, Nat.reduceAdd, Nat.reduceSub, Nat.reduceLeDiff, Nat.reduceLT, List.reduceReplicate, Nat.reduceMul, Int.reduceNeg, reduceCtorEq, *]
    exact ⟨.inl rfl, Sl.nil _ _, (drop_next hd).2⟩
end Go.Ab.T
namespace Go.Ab.T
open Go Go.Ab
set_option linter.unusedSimpArgs false
set_option linter.unusedVariables false
set_option maxHeartbeats 1000000
def depL : Fo → List Int
  | .nil => []
  | .leaf x r => 1 :: depL r
  | .seq x k r => ((k.depth : Int) + 1) :: depL r
  | .rep x k r => ((k.depth : Int) + 1) :: depL r
theorem depL_len : ∀ (f : Fo), (depL f).length = f.count
  | .nil => rfl
  | .leaf x r => by simp [depL, Fo.count, depL_len r]
  | .seq x k r => by simp [depL, Fo.count, depL_len r]
  | .rep x k r => by simp [depL, Fo.count, depL_len r]
theorem depL_fold : ∀ (f : Fo) (m : Int), 0 ≤ m → (depL f).foldl max m = max m f.depth
  | .nil, m, hm => by simp [depL, Fo.depth]; omega
  | .leaf x r, m, hm => by simp only [depL, List.foldl_cons, Fo.depth]; rw [depL_fold r _ (by omega)]; omega
  | .seq x k r, m, hm => by simp only [depL, List.foldl_cons, Fo.depth]; rw [depL_fold r _ (by omega)]; omega
  | .rep x k r, m, hm => by simp only [depL, List.foldl_cons, Fo.depth]; rw [depL_fold r _ (by omega)]; omega
theorem Fo.depth_le : ∀ (f : Fo), f.depth ≤ f.flat.length
  | .nil => by simp [Fo.depth]
  | .leaf x r => by have := Fo.depth_le r; simp [Fo.depth, Fo.flat]; omega
  | .seq x k r => by have := Fo.depth_le r; have := Fo.depth_le k; simp [Fo.depth, Fo.flat]; omega
  | .rep x k r => by have := Fo.depth_le r; have := Fo.depth_le k; simp [Fo.depth, Fo.flat]; omega
theorem depL_bd : ∀ (f : Fo) (i : Nat), i < f.count → 0 ≤ nth (depL f) i ∧ nth (depL f) i ≤ f.flat.length
  | .nil, i, h => by simp [Fo.count] at h
  | .leaf x r, 0, h => by simp [depL, nth, Fo.flat]; omega
  | .seq x k r, 0, h => by have := Fo.depth_le k; simp [depL, nth, Fo.flat]; omega
  | .rep x k r, 0, h => by have := Fo.depth_le k; simp [depL, nth, Fo.flat]; omega
  | .leaf x r, i + 1, h => by have := depL_bd r i (by simpa [Fo.count] using h); simp [depL, nth, Fo.flat] at this ⊢; omega
  | .seq x k r, i + 1, h => by have := depL_bd r i (by simpa [Fo.count] using h); simp [depL, nth, Fo.flat] at this ⊢; omega
  | .rep x k r, i + 1, h => by have := depL_bd r i (by simpa [Fo.count] using h); simp [depL, nth, Fo.flat] at this ⊢; omega
/-- What is said of each tree of a forest that lies at a place. -/
def DepAll (L : List Node) (v : V) (b : Nat) (f : Fo) : Prop := ∀ i, i < f.count → ∀ h : AH, h.lim ≤ h.next → SlT Node.enc h 3 v L → Ev tp i_horariumref3_depth [v, .i .i64 (nth (posF b f) i)] h (fun r h' => r = .i .i64 (nth (depL f) i) ∧ Ext h h')
theorem depth_node {L : List Node} {v : V} {a : Nat} {x : Node} {k : Fo} {R : List Node} (hLb : L.length < 4000000000) (hd : L.drop a = x :: (k.flat ++ R)) (ho : k.ok) (hs : size L a = 1 + k.flat.length) (ha : DepAll L v (a + 1) k) {h : AH} (hw : h.lim ≤ h.next) (hS : SlT Node.enc h 3 v L) :
    Ev tp i_horariumref3_depth [v, .i .i64 a] h (fun r h' => r = .i .i64 ((k.depth : Int) + 1) ∧ Ext h h') := by
  have hll := congrArg List.length hd
  simp only [List.length_drop, List.length_cons, List.length_append] at hll
  refine Ev_of fn_horariumref3_depth (by simp [t_horariumref3_depth]) ?_; unfold t_horariumref3_depth
  simp (disch := omega) only [go_sem, ↓reduceIte, Nat.reduceEqDiff, Nat.reduceAdd, Nat.reduceSub, Nat.reduceLeDiff, Nat.reduceLT, List.reduceReplicate, Nat.reduceMul, Int.reduceNeg, reduceCtorEq, *,  horariumref3_depth_0, horariumref3_depth_1, horariumref3_depth_2]
  refine Ev.imp (refKids_ev hw hS hLb hd ho hs) ?_
  rintro ks h2 ⟨sk, ok, hx2⟩
  have hn2 := hx2.next
  have hl2 := hx2.lim
  obtain ⟨klen, kbig, klt, kget, kat, krow⟩ := sk.facts
  have hpl := posF_len k (a + 1)
  have hdl := depL_len k
  have hcl := Fo.count_le k
  rw [hpl] at klen kbig klt kget kat krow
  simp (disch := omega) only [go_sem, ↓reduceIte, Nat.reduceEqDiff, Nat.reduceAdd, Nat.reduceSub, Nat.reduceLeDiff, Nat.reduceLT, List.reduceReplicate, Nat.reduceMul, Int.reduceNeg, reduceCtorEq, *,  horariumref3_depth_2]
  refine WC_loop_n (fun n e h' => ∃ (i : Nat) (m : Int), n = k.count - i ∧ e 0 = v ∧ e 1 = .i .i64 a ∧ e 5 = .i .i64 m ∧ e 10 = ks ∧ e 11 = .i .i64 k.count ∧ e 12 = .i .i64 i ∧ Ext h2 h' ∧ i ≤ k.count ∧ 0 ≤ m ∧ m ≤ 4000000000 ∧ ((depL k).drop i).foldl max m = k.depth) ?_ _ _ _ ⟨0, 0, rfl, ?_⟩
  · rintro n e h' ⟨i, m, rfl, e0, e1, e5, e10, e11, e12, hx, hi, hm0, hm, hz⟩ ih
    have hg := hx.get
    have hn := hx.next
    have hl := hx.lim
    rw [horariumref3_depth_7_go]
    simp (disch := omega) only [go_sem, ↓reduceIte, Nat.reduceEqDiff, Nat.reduceAdd, Nat.reduceSub, Nat.reduceLeDiff, Nat.reduceLT, List.reduceReplicate, Nat.reduceMul, Int.reduceNeg, reduceCtorEq, *,  horariumref3_depth_3]
    refine Wb_dec (fun hc => ?_) (fun hc => ?_)
    · rw [drop_nth (by omega), List.foldl_cons] at hz
      have hb := depL_bd k i (by omega)
      simp (disch := omega) only [go_sem, ↓reduceIte, Nat.reduceEqDiff, Nat.reduceAdd, Nat.reduceSub, Nat.reduceLeDiff, Nat.reduceLT, List.reduceReplicate, Nat.reduceMul, Int.reduceNeg, reduceCtorEq, *,  horariumref3_depth_4, horariumref3_depth_5]
      refine Ev.imp (ha i (by omega) h' (by omega) (hS.ext (hx2.trans hx))) ?_
      rintro _ h3 ⟨rfl, hx3⟩
      simp (disch := omega) only [go_sem, ↓reduceIte, Nat.reduceEqDiff, Nat.reduceAdd, Nat.reduceSub, Nat.reduceLeDiff, Nat.reduceLT, List.reduceReplicate, Nat.reduceMul, Int.reduceNeg, reduceCtorEq, *,  horariumref3_depth_5, horariumref3_depth_6]
      refine ih _ _ _ ?_ ⟨i + 1, max m (nth (depL k) i), rfl, ?_⟩
      · omega
      · simp (disch := omega) only [go_sem, ↓reduceIte, Nat.reduceEqDiff, Nat.reduceAdd, Nat.reduceSub, Nat.reduceLeDiff, Nat.reduceLT, List.reduceReplicate, Nat.reduceMul, Int.reduceNeg, reduceCtorEq, *]
        exact ⟨hx.trans hx3, by omega, by omega, by omega⟩
    · rw [List.drop_eq_nil_of_le (by omega), List.foldl_nil] at hz
      subst hz
      simp (disch := omega) only [go_sem, ↓reduceIte, Nat.reduceEqDiff, Nat.reduceAdd, Nat.reduceSub, Nat.reduceLeDiff, Nat.reduceLT, List.reduceReplicate, Nat.reduceMul, Int.reduceNeg, reduceCtorEq, *,  horariumref3_depth_8]
      exact hx2.trans hx
  · simp (disch := omega) only [go_sem, ↓reduceIte, Nat.reduceEqDiff, Nat.reduceAdd, Nat.reduceSub, Nat.reduceLeDiff, Nat.reduceLT, List.reduceReplicate, Nat.reduceMul, Int.reduceNeg, reduceCtorEq, *]
    have := depL_fold k 0 (by omega)
    exact ⟨Ext.refl _, Nat.zero_le _, by omega, by omega, by rw [this]; omega⟩
theorem pos0 {b : Nat} {g : Fo} {n : Int} {l : List Int} (h : posF b g = n :: l) : nth (posF b g) 0 = n := by rw [h]; rfl
theorem dep_all {L : List Node} {v : V} (hLb : L.length < 4000000000) : ∀ (f : Fo) (b : Nat) (R : List Node), f.ok → L.drop b = f.flat ++ R → DepAll L v b f
  | .nil, b, R, ho, hd => fun i hi => by simp [Fo.count] at hi
  | .leaf x r, b, R, ho, hd => fun i hi h hw hS => by
    have hd' : L.drop b = x :: (r.flat ++ R) := hd
    match i, hi with
    | 0, _ => exact depth_node (k := .nil) (R := r.flat ++ R) hLb hd' trivial (size_at (f := .leaf x .nil) hd' ⟨ho.1, trivial⟩ rfl) (fun i hi => by simp [Fo.count] at hi) hw hS
    | i + 1, hi => exact dep_all hLb r (b + 1) R ho.2 (drop_next hd').2 i (by simp only [Fo.count] at hi; omega) h hw hS
  | .seq x k r, b, R, ho, hd => fun i hi h hw hS => by
    have hd' : L.drop b = x :: (k.flat ++ (r.flat ++ R)) := by rw [hd]; simp [Fo.flat]
    match i, hi with
    | 0, _ =>
      have hs := size_at (f := .seq x k .nil) (R := r.flat ++ R) (by rw [hd']; simp [Fo.flat]) ⟨ho.1, ho.2.1, ho.2.2.1, ho.2.2.2.1, trivial⟩ rfl
      exact depth_node (k := k) hLb hd' ho.2.2.2.1 (by rw [hs]; simp [Fo.flat]; omega) (dep_all hLb k (b + 1) _ ho.2.2.2.1 (drop_next hd').2) hw hS
    | i + 1, hi => exact dep_all hLb r (b + 1 + k.flat.length) R ho.2.2.2.2 (drop_app (drop_next hd').2) i (by simp only [Fo.count] at hi; omega) h hw hS
  | .rep x k r, b, R, ho, hd => fun i hi h hw hS => by
    have hd' : L.drop b = x :: (k.flat ++ (r.flat ++ R)) := by rw [hd]; simp [Fo.flat]
    match i, hi with
    | 0, _ =>
      have hs := size_at (f := .rep x k .nil) (R := r.flat ++ R) (by rw [hd']; simp [Fo.flat]) ⟨ho.1, ho.2.1, ho.2.2.1, ho.2.2.2.1, trivial⟩ rfl
      exact depth_node (k := k) hLb hd' ho.2.2.2.1 (by rw [hs]; simp [Fo.flat]; omega) (dep_all hLb k (b + 1) _ ho.2.2.2.1 (drop_next hd').2) hw hS
    | i + 1, hi => exact dep_all hLb r (b + 1 + k.flat.length) R ho.2.2.2.2 (drop_app (drop_next hd').2) i (by simp only [Fo.count] at hi; omega) h hw hS
end Go.Ab.T
namespace Go.Ab.T
open Go Go.Ab
set_option linter.unusedSimpArgs false
set_option linter.unusedVariables false
set_option maxHeartbeats 1000000
def lenL : Fo → List Int
  | .nil => []
  | .leaf x r => min x.n 4097 :: lenL r
  | .seq x k r => min k.len 4097 :: lenL r
  | .rep x k r => min (x.n * k.len) 4097 :: lenL r
theorem lenL_len : ∀ (f : Fo), (lenL f).length = f.count
  | .nil => rfl
  | .leaf x r => by simp [lenL, Fo.count, lenL_len r]
  | .seq x k r => by simp [lenL, Fo.count, lenL_len r]
  | .rep x k r => by simp [lenL, Fo.count, lenL_len r]
theorem rep_n {x : Node} {k r : Fo} (ho : (Fo.rep x k r).ok) : 1 ≤ x.n ∧ 1 ≤ k.len ∧ 1 ≤ x.n * k.len := by
  have h1 := kids_n (x := x) (by rw [ho.2.1]; omega)
  have h2 := (Fo.len_pos k ho.2.2.2.1).2 (by have := ho.2.2.1; omega)
  have h3 : 1 * 1 ≤ x.n * k.len := Int.mul_le_mul h1 h2 (by omega) (by omega)
  omega
theorem lenL_fold : ∀ (f : Fo) (s : Int), f.ok → 0 ≤ s ∧ s ≤ 4097 → (lenL f).foldl (fun s l => min (s + l) 4097) s = min (s + f.len) 4097
  | .nil, s, ho, hs => by simp [lenL, Fo.len]; omega
  | .leaf x r, s, ho, hs => by
    have h1 := kids_n (x := x) (by rw [ho.1]; omega)
    have h2 := (Fo.len_pos r ho.2).1
    simp only [lenL, List.foldl_cons, Fo.len]; rw [lenL_fold r _ ho.2 (by omega)]; omega
  | .seq x k r, s, ho, hs => by
    have h1 := (Fo.len_pos k ho.2.2.2.1).1
    have h2 := (Fo.len_pos r ho.2.2.2.2).1
    simp only [lenL, List.foldl_cons, Fo.len]; rw [lenL_fold r _ ho.2.2.2.2 (by omega)]; omega
  | .rep x k r, s, ho, hs => by
    have h1 := rep_n ho
    have h2 := (Fo.len_pos r ho.2.2.2.2).1
    simp only [lenL, List.foldl_cons, Fo.len]; rw [lenL_fold r _ ho.2.2.2.2 (by omega)]; omega
theorem lenL_bd : ∀ (f : Fo) (i : Nat), f.ok → i < f.count → 0 ≤ nth (lenL f) i ∧ nth (lenL f) i ≤ 4097
  | .nil, i, ho, h => by simp [Fo.count] at h
  | .leaf x r, 0, ho, h => by have := kids_n (x := x) (by rw [ho.1]; omega); simp only [lenL, nth_cons0]; omega
  | .seq x k r, 0, ho, h => by have := (Fo.len_pos k ho.2.2.2.1).1; simp only [lenL, nth_cons0]; omega
  | .rep x k r, 0, ho, h => by have := rep_n ho; simp only [lenL, nth_cons0]; omega
  | .leaf x r, i + 1, ho, h => lenL_bd r i ho.2 (by simpa [Fo.count] using h)
  | .seq x k r, i + 1, ho, h => lenL_bd r i ho.2.2.2.2 (by simpa [Fo.count] using h)
  | .rep x k r, i + 1, ho, h => lenL_bd r i ho.2.2.2.2 (by simpa [Fo.count] using h)
def LenAll (L : List Node) (v : V) (b : Nat) (f : Fo) : Prop := ∀ i, i < f.count → ∀ h : AH, h.lim ≤ h.next → SlT Node.enc h 3 v L → Ev tp i_horariumref3_length [v, .i .i64 (nth (posF b f) i)] h (fun r h' => r = .i .i64 (nth (lenL f) i) ∧ Ext h h')
/-- The one tree with that root. -/
def RootOf (x : Node) (k t : Fo) : Prop := (kids x = 0 ∧ k = .nil ∧ t = .leaf x .nil) ∨ (x.kind = 3 ∧ t = .seq x k .nil) ∨ (x.kind = 4 ∧ t = .rep x k .nil ∧ 1 ≤ x.n ∧ 1 ≤ k.len ∧ 1 ≤ x.n * k.len)
theorem length_node {L : List Node} {v : V} {a : Nat} {x : Node} {k t : Fo} {R : List Node} (hLb : L.length < 4000000000) (hd : L.drop a = x :: (k.flat ++ R)) (ho : k.ok) (ht : RootOf x k t) (hs : size L a = 1 + k.flat.length) (ha : LenAll L v (a + 1) k) {h : AH} (hw : h.lim ≤ h.next) (hS : SlT Node.enc h 3 v L) :
    Ev tp i_horariumref3_length [v, .i .i64 a] h (fun r h' => r = .i .i64 (nth (lenL t) 0) ∧ Ext h h') := by
  have hll := congrArg List.length hd
  simp only [List.length_drop, List.length_cons, List.length_append] at hll
  have hnx := drop_nth_eq hd
  have hal := (drop_next hd).1
  refine Ev_of fn_horariumref3_length (by simp [t_horariumref3_length]) ?_; unfold t_horariumref3_length
  simp (disch := omega) only [go_sem, ↓reduceIte, Nat.reduceEqDiff, Nat.reduceAdd, Nat.reduceSub, Nat.reduceLeDiff, Nat.reduceLT, List.reduceReplicate, Nat.reduceMul, Int.reduceNeg, reduceCtorEq, *,  horariumref3_length_0, horariumref3_length_1, horariumref3_length_2]
  refine Ev.imp (refKids_ev hw hS hLb hd ho hs) ?_
  rintro ks h2 ⟨sk, ok, hx2⟩
  have hn2 := hx2.next
  have hl2 := hx2.lim
  obtain ⟨klen, kbig, klt, kget, kat, krow⟩ := sk.facts
  have hpl := posF_len k (a + 1)
  have hdl := lenL_len k
  have hcl := Fo.count_le k
  rw [hpl] at klen kbig klt kget kat krow
  simp (disch := omega) only [go_sem, ↓reduceIte, Nat.reduceEqDiff, Nat.reduceAdd, Nat.reduceSub, Nat.reduceLeDiff, Nat.reduceLT, List.reduceReplicate, Nat.reduceMul, Int.reduceNeg, reduceCtorEq, *,  horariumref3_length_2]
  refine WC_loop_n (fun n e h' => ∃ (i : Nat) (m : Int), n = k.count - i ∧ e 0 = v ∧ e 1 = .i .i64 a ∧ e 5 = .i .i64 m ∧ e 10 = ks ∧ e 11 = .i .i64 k.count ∧ e 12 = .i .i64 i ∧ Ext h2 h' ∧ i ≤ k.count ∧ 0 ≤ m ∧ m ≤ 4097 ∧ ((lenL k).drop i).foldl (fun s l => min (s + l) 4097) m = min k.len 4097) ?_ _ _ _ ⟨0, 0, rfl, ?_⟩
  · rintro n e h' ⟨i, m, rfl, e0, e1, e5, e10, e11, e12, hx, hi, hm0, hm, hz⟩ ih
    have hg := hx.get
    have hn := hx.next
    have hl := hx.lim
    rw [horariumref3_length_7_go]
    simp (disch := omega) only [go_sem, ↓reduceIte, Nat.reduceEqDiff, Nat.reduceAdd, Nat.reduceSub, Nat.reduceLeDiff, Nat.reduceLT, List.reduceReplicate, Nat.reduceMul, Int.reduceNeg, reduceCtorEq, *,  horariumref3_length_3]
    refine Wb_dec (fun hc => ?_) (fun hc => ?_)
    · rw [drop_nth (by omega), List.foldl_cons] at hz
      have hb := lenL_bd k i ho (by omega)
      simp (disch := omega) only [go_sem, ↓reduceIte, Nat.reduceEqDiff, Nat.reduceAdd, Nat.reduceSub, Nat.reduceLeDiff, Nat.reduceLT, List.reduceReplicate, Nat.reduceMul, Int.reduceNeg, reduceCtorEq, *,  horariumref3_length_4, horariumref3_length_5]
      refine Ev.imp (ha i (by omega) h' (by omega) (hS.ext (hx2.trans hx))) ?_
      rintro _ h3 ⟨rfl, hx3⟩
      simp (disch := omega) only [go_sem, ↓reduceIte, Nat.reduceEqDiff, Nat.reduceAdd, Nat.reduceSub, Nat.reduceLeDiff, Nat.reduceLT, List.reduceReplicate, Nat.reduceMul, Int.reduceNeg, reduceCtorEq, *,  horariumref3_length_5, horariumref3_length_6]
      refine ih _ _ _ ?_ ⟨i + 1, min (m + nth (lenL k) i) 4097, rfl, ?_⟩
      · omega
      · simp (disch := omega) only [go_sem, ↓reduceIte, Nat.reduceEqDiff, Nat.reduceAdd, Nat.reduceSub, Nat.reduceLeDiff, Nat.reduceLT, List.reduceReplicate, Nat.reduceMul, Int.reduceNeg, reduceCtorEq, *]
        exact ⟨hx.trans hx3, by omega, by omega, by omega⟩
    · rw [List.drop_eq_nil_of_le (by omega), List.foldl_nil] at hz
      subst hz
      have hSx := hS.ext (hx2.trans hx)
      obtain ⟨hlen, hbig, hlt, hget, hat, hrow⟩ := hSx.facts
      have hxx := hx2.trans hx
      simp (disch := omega) only [go_sem, ↓reduceIte, Nat.reduceEqDiff, Nat.reduceAdd, Nat.reduceSub, Nat.reduceLeDiff, Nat.reduceLT, List.reduceReplicate, Nat.reduceMul, Int.reduceNeg, reduceCtorEq, *,  horariumref3_length_8, horariumref3_length_9]
      rcases ht with ⟨c1, rfl, rfl⟩ | ⟨c1, rfl⟩ | ⟨c1, rfl, c2, c3, c4⟩
      · have h34 := kids_cases x (by rw [c1]; omega)
        rw [c1] at h34
        refine Wb_dec (fun hc2 => by omega) (fun hc2 => ?_)
        simp (disch := omega) only [go_sem, ↓reduceIte, Nat.reduceEqDiff, Nat.reduceAdd, Nat.reduceSub, Nat.reduceLeDiff, Nat.reduceLT, List.reduceReplicate, Nat.reduceMul, Int.reduceNeg, reduceCtorEq, *,  horariumref3_length_11]
        refine Wb_dec (fun hc2 => by omega) (fun hc2 => ?_)
        simp (disch := omega) only [go_sem, ↓reduceIte, Nat.reduceEqDiff, Nat.reduceAdd, Nat.reduceSub, Nat.reduceLeDiff, Nat.reduceLT, List.reduceReplicate, Nat.reduceMul, Int.reduceNeg, reduceCtorEq, *,  horariumref3_length_13]
        simp only [lenL, nth_cons0]
      · refine Wb_dec (fun hc2 => ?_) (fun hc2 => by omega)
        simp (disch := omega) only [go_sem, ↓reduceIte, Nat.reduceEqDiff, Nat.reduceAdd, Nat.reduceSub, Nat.reduceLeDiff, Nat.reduceLT, List.reduceReplicate, Nat.reduceMul, Int.reduceNeg, reduceCtorEq, *,  horariumref3_length_10]
        simp only [lenL, nth_cons0]
      · refine Wb_dec (fun hc2 => by omega) (fun hc2 => ?_)
        have b1 : 1 ≤ min x.n 4097 ∧ min x.n 4097 ≤ 4097 := by omega
        have b2 : 1 ≤ min k.len 4097 ∧ min k.len 4097 ≤ 4097 := by omega
        have b3 : 0 ≤ min k.len 4097 * min x.n 4097 := Int.mul_nonneg (by omega) (by omega)
        have b4 : min k.len 4097 * min x.n 4097 ≤ 4097 * 4097 := Int.mul_le_mul b2.2 b1.2 (by omega) (by omega)
        simp (disch := omega) only [go_sem, ↓reduceIte, Nat.reduceEqDiff, Nat.reduceAdd, Nat.reduceSub, Nat.reduceLeDiff, Nat.reduceLT, List.reduceReplicate, Nat.reduceMul, Int.reduceNeg, reduceCtorEq, *,  horariumref3_length_11, horariumref3_length_12]
        have b5 := clip_mul c2 c3
        simp only [lenL, nth_cons0]
        rw [Int.min_comm x.n 4097, Int.min_comm k.len 4097, Int.mul_comm (min 4097 k.len), Int.min_comm _ 4097, b5, Int.min_comm]
  · simp (disch := omega) only [go_sem, ↓reduceIte, Nat.reduceEqDiff, Nat.reduceAdd, Nat.reduceSub, Nat.reduceLeDiff, Nat.reduceLT, List.reduceReplicate, Nat.reduceMul, Int.reduceNeg, reduceCtorEq, *]
    have := lenL_fold k 0 ho (by omega)
    exact ⟨Ext.refl _, Nat.zero_le _, by omega, by omega, by rw [this]; omega⟩
theorem len_all {L : List Node} {v : V} (hLb : L.length < 4000000000) : ∀ (f : Fo) (b : Nat) (R : List Node), f.ok → L.drop b = f.flat ++ R → LenAll L v b f
  | .nil, b, R, ho, hd => fun i hi => by simp [Fo.count] at hi
  | .leaf x r, b, R, ho, hd => fun i hi h hw hS => by
    have hd' : L.drop b = x :: (r.flat ++ R) := hd
    match i, hi with
    | 0, _ => exact length_node (k := .nil) (R := r.flat ++ R) (t := .leaf x .nil) hLb hd' trivial (.inl ⟨ho.1, rfl, rfl⟩) (size_at (f := .leaf x .nil) hd' ⟨ho.1, trivial⟩ rfl) (fun i hi => by simp [Fo.count] at hi) hw hS
    | i + 1, hi => exact len_all hLb r (b + 1) R ho.2 (drop_next hd').2 i (by simp only [Fo.count] at hi; omega) h hw hS
  | .seq x k r, b, R, ho, hd => fun i hi h hw hS => by
    have hd' : L.drop b = x :: (k.flat ++ (r.flat ++ R)) := by rw [hd]; simp [Fo.flat]
    match i, hi with
    | 0, _ =>
      have hs := size_at (f := .seq x k .nil) (R := r.flat ++ R) (by rw [hd']; simp [Fo.flat]) ⟨ho.1, ho.2.1, ho.2.2.1, ho.2.2.2.1, trivial⟩ rfl
      exact length_node (k := k) (t := .seq x k .nil) hLb hd' ho.2.2.2.1 (.inr (.inl ⟨ho.1, rfl⟩)) (by rw [hs]; simp [Fo.flat]; omega) (len_all hLb k (b + 1) _ ho.2.2.2.1 (drop_next hd').2) hw hS
    | i + 1, hi => exact len_all hLb r (b + 1 + k.flat.length) R ho.2.2.2.2 (drop_app (drop_next hd').2) i (by simp only [Fo.count] at hi; omega) h hw hS
  | .rep x k r, b, R, ho, hd => fun i hi h hw hS => by
    have hd' : L.drop b = x :: (k.flat ++ (r.flat ++ R)) := by rw [hd]; simp [Fo.flat]
    match i, hi with
    | 0, _ =>
      have hs := size_at (f := .rep x k .nil) (R := r.flat ++ R) (by rw [hd']; simp [Fo.flat]) ⟨ho.1, ho.2.1, ho.2.2.1, ho.2.2.2.1, trivial⟩ rfl
      exact length_node (k := k) (t := .rep x k .nil) hLb hd' ho.2.2.2.1 (.inr (.inr ⟨ho.1, rfl, rep_n ho⟩)) (by rw [hs]; simp [Fo.flat]; omega) (len_all hLb k (b + 1) _ ho.2.2.2.1 (drop_next hd').2) hw hS
    | i + 1, hi => exact len_all hLb r (b + 1 + k.flat.length) R ho.2.2.2.2 (drop_app (drop_next hd').2) i (by simp only [Fo.count] at hi; omega) h hw hS
end Go.Ab.T
namespace Go.Ab.T
open Go Go.Ab
set_option linter.unusedSimpArgs false
set_option linter.unusedVariables false
set_option maxHeartbeats 1000000
def Fo.runs : Fo → List Run
  | .nil => []
  | .leaf x r => ⟨partR x, x.n⟩ :: runs r
  | .seq x k r => runs k ++ runs r
  | .rep x k r => (List.replicate x.n.toNat (runs k)).flatten ++ runs r
theorem Fo.runs_pos : ∀ (f : Fo), f.ok → 0 < f.count → 1 ≤ f.runs.length
  | .nil, ho, hc => by simp [Fo.count] at hc
  | .leaf x r, ho, hc => by simp [Fo.runs]
  | .seq x k r, ho, hc => by
    have := Fo.runs_pos k ho.2.2.2.1 ho.2.2.1
    simp [Fo.runs]; omega
  | .rep x k r, ho, hc => by
    have := Fo.runs_pos k ho.2.2.2.1 (by have := ho.2.2.1; omega)
    have hn := kids_n (x := x) (by rw [ho.2.1]; omega)
    have : 1 * 1 ≤ x.n.toNat * k.runs.length := Nat.mul_le_mul (by omega) this
    simp [Fo.runs]; omega
theorem Fo.runs_len : ∀ (f : Fo), f.ok → (f.runs.length : Int) ≤ f.len
  | .nil, ho => by simp [Fo.runs, Fo.len]
  | .leaf x r, ho => by
    have h1 := kids_n (x := x) (by rw [ho.1]; omega)
    have := Fo.runs_len r ho.2
    simp [Fo.runs, Fo.len]; omega
  | .seq x k r, ho => by
    have := Fo.runs_len k ho.2.2.2.1; have := Fo.runs_len r ho.2.2.2.2
    simp [Fo.runs, Fo.len]; omega
  | .rep x k r, ho => by
    have h1 := Fo.runs_len k ho.2.2.2.1; have := Fo.runs_len r ho.2.2.2.2
    have hn := kids_n (x := x) (by rw [ho.2.1]; omega)
    have h3 : x.n * k.runs.length ≤ x.n * k.len := Int.mul_le_mul_of_nonneg_left h1 (by omega)
    have h4 : ((x.n.toNat * k.runs.length : Nat) : Int) = x.n * k.runs.length := by rw [Int.natCast_mul, Int.toNat_of_nonneg (by omega)]
    simp only [Fo.runs, Fo.len, List.length_append, List.length_flatten, List.map_replicate, List.sum_replicate_nat, Int.natCast_add]
    omega
def runsT : Fo → List (List Run)
  | .nil => []
  | .leaf x r => [⟨partR x, x.n⟩] :: runsT r
  | .seq x k r => k.runs :: runsT r
  | .rep x k r => (List.replicate x.n.toNat k.runs).flatten :: runsT r
theorem runsT_flat : ∀ (f : Fo), (runsT f).flatten = f.runs
  | .nil => rfl
  | .leaf x r => by simp [runsT, Fo.runs, runsT_flat r]
  | .seq x k r => by simp [runsT, Fo.runs, runsT_flat r]
  | .rep x k r => by simp [runsT, Fo.runs, runsT_flat r]
theorem runsT_len : ∀ (f : Fo), (runsT f).length = f.count
  | .nil => rfl
  | .leaf x r => by simp [runsT, Fo.count, runsT_len r]
  | .seq x k r => by simp [runsT, Fo.count, runsT_len r]
  | .rep x k r => by simp [runsT, Fo.count, runsT_len r]
/-- A slice handed on to be appended to: what is as it was. -/
structure OutF (h : AH) (w : V) (h' : AH) (r : V) : Prop where
  next : h.next ≤ h'.next
  lim : h'.lim = h.lim
  get : ∀ i, i < h.next → (w = .ns ∨ i ≠ idV w) → h'.get i = h.get i
  own : r = .ns ∨ (w ≠ .ns ∧ idV r = idV w) ∨ h.next ≤ idV r
theorem OutF.refl {h : AH} {w : V} : OutF h w h w := ⟨Nat.le_refl _, rfl, fun _ _ _ => rfl, by
  by_cases hs : w = .ns
  · exact .inl hs
  · exact .inr (.inl ⟨hs, rfl⟩)⟩
theorem OutF.trans {h h1 h2 : AH} {w s1 s2 : V} (a : OutF h w h1 s1) (b : OutF h1 s1 h2 s2) : OutF h w h2 s2 := by
  have an := a.next; have bn := b.next
  refine ⟨by omega, b.lim.trans a.lim, fun i hi hs => ?_, ?_⟩
  · rw [b.get i (by omega) ?_, a.get i hi hs]
    rcases a.own with h1 | ⟨hn, h1⟩ | h1
    · exact .inl h1
    · rcases hs with hs | hs
      · exact absurd hs hn
      · exact .inr (by rw [h1]; exact hs)
    · exact .inr (by omega)
  · rcases b.own with h2 | ⟨hn, h2⟩ | h2
    · exact .inl h2
    · rcases a.own with h1 | ⟨hn1, h1⟩ | h1
      · exact absurd h1 hn
      · exact .inr (.inl ⟨hn1, h2.trans h1⟩)
      · exact .inr (.inr (by omega))
    · exact .inr (.inr (by omega))
theorem OutF.ext {h h1 h2 : AH} {w s1 : V} (a : OutF h w h1 s1) (b : Ext h1 h2) : OutF h w h2 s1 := by
  have an := a.next; have bn := b.next
  exact ⟨by omega, b.lim.trans a.lim, fun i hi hs => by rw [b.get i (by omega), a.get i hi hs], a.own⟩
theorem App2.out {h h' : AH} {x v : V} (a : App2 h x v h') : OutF h x h' v := ⟨a.next, a.lim, a.get, .inr a.own⟩
def WOk (h : AH) (v w : V) : Prop := w = .ns ∨ (h.lim ≤ idV w ∧ idV w ≠ idV v)
theorem OutF.wok {h h' : AH} {v w r : V} (a : OutF h w h' r) (k : WOk h v w) (hv : idV v < h.next) (hl : h.lim ≤ h.next) : WOk h' v r := by
  rcases a.own with h1 | ⟨h0, h1⟩ | h1
  · exact .inl h1
  · rcases k with k | k
    · exact absurd k h0
    · exact .inr (by rw [a.lim, h1]; exact k)
  · exact .inr (by rw [a.lim]; omega)
theorem OutF.row {α : Type} {enc : α → List V} {h h' : AH} {sz : Nat} {v w r : V} {L : List α} (a : OutF h w h' r) (k : WOk h v w) (s : SlT enc h sz v L) : SlT enc h' sz v L := by
  refine Sl.same s a.next (fun _ hv => a.get _ hv ?_)
  rcases k with k | k
  · exact .inl k
  · exact .inr k.2.symm
def LeaAll (L : List Node) (v : V) (b : Nat) (f : Fo) : Prop := ∀ i, i < f.count → ∀ (h : AH) (w : V) (A : List Run), h.lim ≤ h.next → SlT Node.enc h 3 v L → WOk h v w → SlT Run.enc h 2 w A → A.length + (nth (runsT f) i).length ≤ 4000000000 →
  Ev tp i_horariumref3_leaves [v, .i .i64 (nth (posF b f) i), w] h (fun r h' => SlT Run.enc h' 2 r (A ++ nth (runsT f) i) ∧ OutF h w h' r)
attribute [go_sem] Run.enc
section
variable {L : List Node} {v : V} {a : Nat} {x : Node} {k : Fo} {R : List Node} {h : AH} {w : V} {A : List Run}
theorem leaf_node (hLb : L.length < 4000000000) (hd : L.drop a = x :: R) (hk : kids x = 0) (hw : h.lim ≤ h.next) (hS : SlT Node.enc h 3 v L) (hO : WOk h v w) (hA : SlT Run.enc h 2 w A) (hl : A.length + [(⟨partR x, x.n⟩ : Run)].length ≤ 4000000000) :
    Ev tp i_horariumref3_leaves [v, .i .i64 a, w] h (fun r h' => SlT Run.enc h' 2 r (A ++ [⟨partR x, x.n⟩]) ∧ OutF h w h' r) := by
  have hnx := drop_nth_eq hd
  have hal := (drop_next hd).1
  obtain ⟨hlen, hbig, hlt, hget, hat, hrow⟩ := hS.facts
  have hc1 : x.kind = 1 ∨ x.kind = 2 := by
    unfold kids at hk; (repeat' split at hk) <;> omega
  simp only [List.length_cons, List.length_nil] at hl
  have hO' : w = .ns ∨ h.lim ≤ idV w := by
    rcases hO with hO | hO
    · exact .inl hO
    · exact .inr hO.1
  refine Ev_of fn_horariumref3_leaves (by simp [t_horariumref3_leaves]) ?_; unfold t_horariumref3_leaves
  simp (disch := omega) only [go_sem, ↓reduceIte, Nat.reduceEqDiff, Nat.reduceAdd, Nat.reduceSub, Nat.reduceLeDiff, Nat.reduceLT, List.reduceReplicate, Nat.reduceMul, Int.reduceNeg, reduceCtorEq, *,  horariumref3_leaves_0, horariumref3_leaves_1, horariumref3_leaves_2]
  refine Wb_dec (fun hc => ?_) (fun hc => ?_)
  · simp (disch := omega) only [go_sem, ↓reduceIte, Nat.reduceEqDiff, Nat.reduceAdd, Nat.reduceSub, Nat.reduceLeDiff, Nat.reduceLT, List.reduceReplicate, Nat.reduceMul, Int.reduceNeg, reduceCtorEq, *,  horariumref3_leaves_3, fillP, fillE]
    refine app_two hA hO' (by simp; omega) ?_
    intro r h4 s4 a4
    simp (disch := omega) only [go_sem, ↓reduceIte, Nat.reduceEqDiff, Nat.reduceAdd, Nat.reduceSub, Nat.reduceLeDiff, Nat.reduceLT, List.reduceReplicate, Nat.reduceMul, Int.reduceNeg, reduceCtorEq, *]
    refine ⟨?_, App2.out a4⟩
    have hp : partR x = x.part := by unfold partR; rw [if_neg (by omega)]
    simpa [SlT, Run.enc, hp] using s4
  · have h2 : x.kind = 2 := by omega
    simp (disch := omega) only [go_sem, ↓reduceIte, Nat.reduceEqDiff, Nat.reduceAdd, Nat.reduceSub, Nat.reduceLeDiff, Nat.reduceLT, List.reduceReplicate, Nat.reduceMul, Int.reduceNeg, reduceCtorEq, *,  horariumref3_leaves_4, horariumref3_leaves_5, fillP, fillE]
    refine app_two hA hO' (by simp; omega) ?_
    intro r h4 s4 a4
    simp (disch := omega) only [go_sem, ↓reduceIte, Nat.reduceEqDiff, Nat.reduceAdd, Nat.reduceSub, Nat.reduceLeDiff, Nat.reduceLT, List.reduceReplicate, Nat.reduceMul, Int.reduceNeg, reduceCtorEq, *]
    refine ⟨?_, App2.out a4⟩
    have hp : partR x = -1 := by unfold partR; rw [if_pos h2]
    simpa [SlT, Run.enc, hp] using s4
theorem flat_take {α : Type} [Inhabited α] {l : List (List α)} {i : Nat} (h : i < l.length) : (l.drop i).flatten = nth l i ++ (l.drop (i + 1)).flatten := by
  rw [drop_nth h, List.flatten_cons]
theorem seq_node (hLb : L.length < 4000000000) (hd : L.drop a = x :: (k.flat ++ R)) (ho : k.ok) (hk3 : x.kind = 3) (hkc : 0 < k.count) (hs : size L a = 1 + k.flat.length) (ha : LeaAll L v (a + 1) k) (hw : h.lim ≤ h.next) (hS : SlT Node.enc h 3 v L) (hO : WOk h v w) (hA : SlT Run.enc h 2 w A) (hl : A.length + k.runs.length ≤ 4000000000) :
    Ev tp i_horariumref3_leaves [v, .i .i64 a, w] h (fun r h' => SlT Run.enc h' 2 r (A ++ k.runs) ∧ OutF h w h' r) := by
  have hnx := drop_nth_eq hd
  have hal := (drop_next hd).1
  obtain ⟨hlen, hbig, hlt, hget, hat, hrow⟩ := hS.facts
  have hvl := hlt (by omega)
  refine Ev_of fn_horariumref3_leaves (by simp [t_horariumref3_leaves]) ?_; unfold t_horariumref3_leaves
  simp (disch := omega) only [go_sem, ↓reduceIte, Nat.reduceEqDiff, Nat.reduceAdd, Nat.reduceSub, Nat.reduceLeDiff, Nat.reduceLT, List.reduceReplicate, Nat.reduceMul, Int.reduceNeg, reduceCtorEq, *,  horariumref3_leaves_0, horariumref3_leaves_1, horariumref3_leaves_2, horariumref3_leaves_4, horariumref3_leaves_6, horariumref3_leaves_13, Int.reduceEq]
  refine Ev.imp (refKids_ev hw hS hLb hd ho hs) ?_
  rintro ks h2 ⟨sk, ok, hx2⟩
  have hn2 := hx2.next
  have hl2 := hx2.lim
  obtain ⟨klen, kbig, klt, kget, kat, krow⟩ := sk.facts
  have hpl := posF_len k (a + 1)
  have hrl := runsT_len k
  have hcl := Fo.count_le k
  have hwl : w = .ns ∨ idV w < h.next := by
    by_cases hq : w = .ns
    · exact .inl hq
    · exact .inr (idV_ns_lt hA hq)
  rw [hpl] at klen kbig klt kget kat krow
  simp (disch := omega) only [go_sem, ↓reduceIte, Nat.reduceEqDiff, Nat.reduceAdd, Nat.reduceSub, Nat.reduceLeDiff, Nat.reduceLT, List.reduceReplicate, Nat.reduceMul, Int.reduceNeg, reduceCtorEq, *,  horariumref3_leaves_13]
  refine WC_loop_n (fun n e h' => ∃ (i : Nat) (o : V) (B : List Run), n = k.count - i ∧ e 0 = v ∧ e 1 = .i .i64 a ∧ e 2 = o ∧ e 61 = ks ∧ e 62 = .i .i64 k.count ∧ e 63 = .i .i64 i ∧ h'.lim ≤ h'.next ∧ i ≤ k.count ∧ SlT Node.enc h' 3 v L ∧ SlT E1 h' 1 ks (posF (a + 1) k) ∧ WOk h' v o ∧ WOk h' ks o ∧ SlT Run.enc h' 2 o B ∧ OutF h w h' o ∧ B ++ ((runsT k).drop i).flatten = A ++ k.runs) ?_ _ _ _ ⟨0, w, A, rfl, ?_⟩
  · rintro n e h' ⟨i, o, B, rfl, e0, e1, e2, e61, e62, e63, hw', hi, sv, sk', wo, wk, sB, f', hz⟩ ih
    obtain ⟨klen, kbig, klt, kget, kat, krow⟩ := sk'.facts
    rw [hpl] at klen kbig klt kget kat krow
    rw [horariumref3_leaves_18_go]
    simp (disch := omega) only [go_sem, ↓reduceIte, Nat.reduceEqDiff, Nat.reduceAdd, Nat.reduceSub, Nat.reduceLeDiff, Nat.reduceLT, List.reduceReplicate, Nat.reduceMul, Int.reduceNeg, reduceCtorEq, *,  horariumref3_leaves_14]
    refine Wb_dec (fun hc => ?_) (fun hc => ?_)
    · rw [flat_take (by omega)] at hz
      have hzl := congrArg List.length hz
      simp only [List.length_append] at hzl
      have kl := klt (by omega)
      simp (disch := omega) only [go_sem, ↓reduceIte, Nat.reduceEqDiff, Nat.reduceAdd, Nat.reduceSub, Nat.reduceLeDiff, Nat.reduceLT, List.reduceReplicate, Nat.reduceMul, Int.reduceNeg, reduceCtorEq, *,  horariumref3_leaves_15, horariumref3_leaves_16]
      refine Ev.imp (ha i (by omega) h' o B hw' sv wo sB (by omega)) ?_
      rintro r h3 ⟨sr, f3⟩
      have hn3 := f3.next
      have hl3 := f3.lim
      simp (disch := omega) only [go_sem, ↓reduceIte, Nat.reduceEqDiff, Nat.reduceAdd, Nat.reduceSub, Nat.reduceLeDiff, Nat.reduceLT, List.reduceReplicate, Nat.reduceMul, Int.reduceNeg, reduceCtorEq, *,  horariumref3_leaves_16, horariumref3_leaves_17]
      refine ih _ _ _ ?_ ⟨i + 1, r, B ++ nth (runsT k) i, rfl, ?_⟩
      · omega
      · simp (disch := omega) only [go_sem, ↓reduceIte, Nat.reduceEqDiff, Nat.reduceAdd, Nat.reduceSub, Nat.reduceLeDiff, Nat.reduceLT, List.reduceReplicate, Nat.reduceMul, Int.reduceNeg, reduceCtorEq, *]
        exact ⟨by omega, by omega, f3.row wo sv, f3.row wk sk', f3.wok wo (sv.facts.lt (by omega)) hw', f3.wok wk kl hw', f'.trans f3, by rw [← hz, List.append_assoc]⟩
    · rw [List.drop_eq_nil_of_le (by omega)] at hz
      simp (disch := omega) only [go_sem, ↓reduceIte, Nat.reduceEqDiff, Nat.reduceAdd, Nat.reduceSub, Nat.reduceLeDiff, Nat.reduceLT, List.reduceReplicate, Nat.reduceMul, Int.reduceNeg, reduceCtorEq, *,  horariumref3_leaves_19]
      rw [← hz]; simpa using sB
  · simp (disch := omega) only [go_sem, ↓reduceIte, Nat.reduceEqDiff, Nat.reduceAdd, Nat.reduceSub, Nat.reduceLeDiff, Nat.reduceLT, List.reduceReplicate, Nat.reduceMul, Int.reduceNeg, reduceCtorEq, *]
    refine ⟨by omega, Nat.zero_le _, hS.ext hx2, ?_, ?_, hA.ext hx2, ⟨hn2, hl2, fun i hi _ => hx2.get i hi, (OutF.refl (h := h) (w := w)).own⟩, by rw [runsT_flat]⟩
    · rcases hO with hO | hO
      · exact .inl hO
      · exact .inr (by rw [hl2]; exact hO)
    · rcases hO with hO | hO
      · exact .inl hO
      · rcases hwl with hq | hq
        · exact .inl hq
        · refine .inr ⟨by rw [hl2]; exact hO.1, ?_⟩
          rcases ok with h1 | h1
          · subst h1; simp [lenV] at klen; omega
          · omega
theorem rep_node {r : Fo} (hLb : L.length < 4000000000) (hd : L.drop a = x :: (k.flat ++ R)) (ho : (Fo.rep x k r).ok) (ha : LeaAll L v (a + 1) k) (hw : h.lim ≤ h.next) (hS : SlT Node.enc h 3 v L) (hO : WOk h v w) (hA : SlT Run.enc h 2 w A) (hl : A.length + ((List.replicate x.n.toNat k.runs).flatten).length ≤ 4000000000) :
    Ev tp i_horariumref3_leaves [v, .i .i64 a, w] h (fun r h' => SlT Run.enc h' 2 r (A ++ (List.replicate x.n.toNat k.runs).flatten) ∧ OutF h w h' r) := by
  have hnx := drop_nth_eq hd
  have hal := (drop_next hd).1
  have hvl := hS.facts.lt (by omega)
  have h0 : 0 < k.count := by have := ho.2.2.1; omega
  have hp0 : nth (posF (a + 1) k) 0 = ((a : Int) + 1) := by
    cases k with
    | nil => simp [Fo.count] at h0
    | leaf _ _ => simp [posF, nth]
    | seq _ _ _ => simp [posF, nth]
    | rep _ _ _ => simp [posF, nth]
  have hr0 : nth (runsT k) 0 = k.runs := by
    have h1 := runsT_flat k
    have h2 := runsT_len k
    rw [ho.2.2.1] at h2
    match hk : runsT k, h2 with
    | [t], _ => rw [hk] at h1; simpa [nth] using h1
  have ha0 := ha 0 h0
  rw [hp0, hr0] at ha0
  have hk4 := ho.1
  have hn1 := kids_n (x := x) (by rw [ho.2.1]; omega)
  have hr1 := Fo.runs_pos k ho.2.2.2.1 h0
  have hln : (List.replicate x.n.toNat k.runs).flatten.length = x.n.toNat * k.runs.length := by simp
  have hln1 : x.n.toNat * 1 ≤ x.n.toNat * k.runs.length := Nat.mul_le_mul_left _ hr1
  obtain ⟨hlen, hbig, hlt, hget, hat, hrow⟩ := hS.facts
  refine Ev_of fn_horariumref3_leaves (by simp [t_horariumref3_leaves]) ?_; unfold t_horariumref3_leaves
  simp (disch := omega) only [go_sem, ↓reduceIte, Nat.reduceEqDiff, Nat.reduceAdd, Nat.reduceSub, Nat.reduceLeDiff, Nat.reduceLT, List.reduceReplicate, Nat.reduceMul, Int.reduceNeg, reduceCtorEq, *,  horariumref3_leaves_0, horariumref3_leaves_1, horariumref3_leaves_2, horariumref3_leaves_4, horariumref3_leaves_6, horariumref3_leaves_7, Int.reduceEq]
  refine WC_loop_n (fun n e h' => ∃ (i : Nat) (o : V) (B : List Run), n = x.n.toNat - i ∧ e 0 = v ∧ e 1 = .i .i64 a ∧ e 2 = o ∧ e 7 = .i .i64 i ∧ h'.lim ≤ h'.next ∧ i ≤ x.n.toNat ∧ SlT Node.enc h' 3 v L ∧ WOk h' v o ∧ SlT Run.enc h' 2 o B ∧ OutF h w h' o ∧ B.length + (x.n.toNat - i) * k.runs.length ≤ 4000000000 ∧ B ++ (List.replicate (x.n.toNat - i) k.runs).flatten = A ++ (List.replicate x.n.toNat k.runs).flatten) ?_ _ _ _ ⟨0, w, A, rfl, ?_⟩
  · rintro n e h' ⟨i, o, B, rfl, e0, e1, e2, e7, hw', hi, sv, wo, sB, f', hb, hz⟩ ih
    obtain ⟨hlen, hbig, hlt, hget, hat, hrow⟩ := sv.facts
    rw [horariumref3_leaves_11_go]
    simp (disch := omega) only [go_sem, ↓reduceIte, Nat.reduceEqDiff, Nat.reduceAdd, Nat.reduceSub, Nat.reduceLeDiff, Nat.reduceLT, List.reduceReplicate, Nat.reduceMul, Int.reduceNeg, reduceCtorEq, *,  horariumref3_leaves_8]
    refine Wb_dec (fun hc => ?_) (fun hc => ?_)
    · obtain ⟨m, hm⟩ : ∃ m, x.n.toNat - i = m + 1 := ⟨x.n.toNat - i - 1, by omega⟩
      rw [hm, List.replicate_succ, List.flatten_cons] at hz
      rw [hm, Nat.succ_mul] at hb
      simp (disch := omega) only [go_sem, ↓reduceIte, Nat.reduceEqDiff, Nat.reduceAdd, Nat.reduceSub, Nat.reduceLeDiff, Nat.reduceLT, List.reduceReplicate, Nat.reduceMul, Int.reduceNeg, reduceCtorEq, *,  horariumref3_leaves_9]
      refine Ev.imp (ha0 h' o B hw' sv wo sB (by omega)) ?_
      rintro r h3 ⟨sr, f3⟩
      have hn3 := f3.next
      have hl3 := f3.lim
      simp (disch := omega) only [go_sem, ↓reduceIte, Nat.reduceEqDiff, Nat.reduceAdd, Nat.reduceSub, Nat.reduceLeDiff, Nat.reduceLT, List.reduceReplicate, Nat.reduceMul, Int.reduceNeg, reduceCtorEq, *,  horariumref3_leaves_9, horariumref3_leaves_10]
      refine ih _ _ _ ?_ ⟨i + 1, r, B ++ k.runs, rfl, ?_⟩
      · omega
      · have hm2 : x.n.toNat - (i + 1) = m := by omega
        simp (disch := omega) only [go_sem, ↓reduceIte, Nat.reduceEqDiff, Nat.reduceAdd, Nat.reduceSub, Nat.reduceLeDiff, Nat.reduceLT, List.reduceReplicate, Nat.reduceMul, Int.reduceNeg, reduceCtorEq, *]
        exact ⟨by omega, by omega, f3.row wo sv, f3.wok wo (sv.facts.lt (by omega)) hw', f'.trans f3, by simp; omega, by rw [← hz, List.append_assoc]⟩
    · have hm : x.n.toNat - i = 0 := by omega
      rw [hm] at hz
      simp (disch := omega) only [go_sem, ↓reduceIte, Nat.reduceEqDiff, Nat.reduceAdd, Nat.reduceSub, Nat.reduceLeDiff, Nat.reduceLT, List.reduceReplicate, Nat.reduceMul, Int.reduceNeg, reduceCtorEq, *,  horariumref3_leaves_12]
      rw [← hz]; simpa using sB
  · simp (disch := omega) only [go_sem, ↓reduceIte, Nat.reduceEqDiff, Nat.reduceAdd, Nat.reduceSub, Nat.reduceLeDiff, Nat.reduceLT, List.reduceReplicate, Nat.reduceMul, Int.reduceNeg, reduceCtorEq, *,  Nat.sub_zero]
    refine ⟨Nat.zero_le _, OutF.refl, by omega⟩
end
theorem lea_all {L : List Node} {v : V} (hLb : L.length < 4000000000) : ∀ (f : Fo) (b : Nat) (R : List Node), f.ok → L.drop b = f.flat ++ R → LeaAll L v b f
  | .nil, b, R, ho, hd => fun i hi => by simp [Fo.count] at hi
  | .leaf x r, b, R, ho, hd => fun i hi h w A hw hS hO hA hl => by
    have hd' : L.drop b = x :: (r.flat ++ R) := hd
    match i, hi with
    | 0, _ => exact leaf_node hLb hd' ho.1 hw hS hO hA hl
    | i + 1, hi => exact lea_all hLb r (b + 1) R ho.2 (drop_next hd').2 i (by simp only [Fo.count] at hi; omega) h w A hw hS hO hA hl
  | .seq x k r, b, R, ho, hd => fun i hi h w A hw hS hO hA hl => by
    have hd' : L.drop b = x :: (k.flat ++ (r.flat ++ R)) := by rw [hd]; simp [Fo.flat]
    match i, hi with
    | 0, _ =>
      have hs := size_at (f := .seq x k .nil) (R := r.flat ++ R) (by rw [hd']; simp [Fo.flat]) ⟨ho.1, ho.2.1, ho.2.2.1, ho.2.2.2.1, trivial⟩ rfl
      exact seq_node (k := k) hLb hd' ho.2.2.2.1 ho.1 ho.2.2.1 (by rw [hs]; simp [Fo.flat]; omega) (lea_all hLb k (b + 1) _ ho.2.2.2.1 (drop_next hd').2) hw hS hO hA hl
    | i + 1, hi => exact lea_all hLb r (b + 1 + k.flat.length) R ho.2.2.2.2 (drop_app (drop_next hd').2) i (by simp only [Fo.count] at hi; omega) h w A hw hS hO hA hl
  | .rep x k r, b, R, ho, hd => fun i hi h w A hw hS hO hA hl => by
    have hd' : L.drop b = x :: (k.flat ++ (r.flat ++ R)) := by rw [hd]; simp [Fo.flat]
    match i, hi with
    | 0, _ =>
      exact rep_node (k := k) hLb hd' ho (lea_all hLb k (b + 1) _ ho.2.2.2.1 (drop_next hd').2) hw hS hO hA hl
    | i + 1, hi => exact lea_all hLb r (b + 1 + k.flat.length) R ho.2.2.2.2 (drop_app (drop_next hd').2) i (by simp only [Fo.count] at hi; omega) h w A hw hS hO hA hl
end Go.Ab.T
namespace Go.Ab.T
open Go Go.Ab
set_option linter.unusedSimpArgs false
set_option linter.unusedVariables false
set_option maxHeartbeats 1000000
theorem Fo.flat_pos {f : Fo} (hc : f.count = 1) : 0 < f.flat.length := by have := Fo.count_le f; omega
theorem Fo.depth_pos {f : Fo} (hc : 0 < f.count) : 0 < f.depth := by cases f <;> simp [Fo.count, Fo.depth] at hc ⊢ <;> omega
theorem whole_flat {f : Fo} (ho : f.ok) (hc : f.count = 1) : wholeB f.flat = true := (whole_iff _).2 ⟨f, ho, hc, rfl⟩
theorem depR_flat {f : Fo} (ho : f.ok) (hc : f.count = 1) : depR f.flat = f.depth := by
  unfold depR; rw [if_pos (whole_flat ho hc), (measured_flat ho hc).1]
theorem lenB_flat {f : Fo} (ho : f.ok) (hc : f.count = 1) : lenB f.flat = decide (f.len ≤ 4096) := by
  unfold lenB; rw [(measured_flat ho hc).2, whole_flat ho hc]; simp; omega
theorem lenR_flat {f : Fo} (ho : f.ok) (hc : f.count = 1) : lenR f.flat = if f.len ≤ 4096 then f.len else 0 := by
  unfold lenR; rw [lenB_flat ho hc, (measured_flat ho hc).2]; simp only [decide_eq_true_eq]; split <;> omega
theorem right_iff (L : List Node) : rightR L = 0 ↔ L.length ≤ 128 ∧ ∃ f : Fo, f.ok ∧ f.count = 1 ∧ L = f.flat ∧ f.depth ≤ 16 ∧ f.len ≤ 4096 := by
  constructor
  · intro h
    by_cases hw : wholeB L = true
    · obtain ⟨f, ho, hc, rfl⟩ := (whole_iff L).1 hw
      unfold rightR at h
      rw [hw, depR_flat ho hc, lenB_flat ho hc] at h
      (repeat' split at h) <;> simp at h
      rename_i h1 h2 h3 h4
      simp at h4
      exact ⟨by omega, f, ho, hc, rfl, by omega, h4⟩
    · simp at hw
      unfold rightR at h
      rw [hw] at h
      (repeat' split at h) <;> simp at h
      all_goals simp_all
  · rintro ⟨hl, f, ho, hc, rfl, hd, hn⟩
    unfold rightR
    rw [if_neg (by omega), if_neg (by rw [whole_flat ho hc]; simp), if_neg (by rw [depR_flat ho hc]; omega), if_neg (by rw [lenB_flat ho hc]; simp; omega)]
theorem refDepth_ev {h : AH} {v : V} {L : List Node} (hw : h.lim ≤ h.next) (hS : SlT Node.enc h 3 v L) (hLb : L.length < 4000000000) : Ev tp i_horariumref3_Depth [v] h (fun r h' => r = .i .i64 (depR L) ∧ Ext h h') := by
  have hlen := hS.facts.len
  refine Ev_of fn_horariumref3_Depth (by simp [t_horariumref3_Depth]) ?_; unfold t_horariumref3_Depth
  simp (disch := omega) only [go_sem, ↓reduceIte, Nat.reduceEqDiff, Nat.reduceAdd, Nat.reduceSub, Nat.reduceLeDiff, Nat.reduceLT, List.reduceReplicate, Nat.reduceMul, Int.reduceNeg, reduceCtorEq, *,  horariumref3_Depth_0, horariumref3_Depth_1]
  refine Wg_dec (fun hc => ?_) (fun hc => ?_)
  · simp (disch := omega) only [go_sem, ↓reduceIte, Nat.reduceEqDiff, Nat.reduceAdd, Nat.reduceSub, Nat.reduceLeDiff, Nat.reduceLT, List.reduceReplicate, Nat.reduceMul, Int.reduceNeg, reduceCtorEq, *,  horariumref3_Depth_0, horariumref3_Depth_1, horariumref3_Depth_2, horariumref3_Depth_3]
    have hwf : wholeB L = false := by simp [wholeB]; omega
    first
      | exact ⟨by unfold depR; rw [hwf]; rfl, Ext.refl h⟩
      | (unfold depR; rw [hwf]; simp)
      | (refine ⟨?_, Ext.refl h⟩; unfold depR; rw [hwf]; simp)
  · simp (disch := omega) only [go_sem, ↓reduceIte, Nat.reduceEqDiff, Nat.reduceAdd, Nat.reduceSub, Nat.reduceLeDiff, Nat.reduceLT, List.reduceReplicate, Nat.reduceMul, Int.reduceNeg, reduceCtorEq, *,  horariumref3_Depth_1]
    refine Ev.imp (refSize_ev hS) ?_
    rintro _ h2 ⟨rfl, hx2⟩
    have hn2 := hx2.next
    have hl2 := hx2.lim
    simp (disch := omega) only [go_sem, ↓reduceIte, Nat.reduceEqDiff, Nat.reduceAdd, Nat.reduceSub, Nat.reduceLeDiff, Nat.reduceLT, List.reduceReplicate, Nat.reduceMul, Int.reduceNeg, reduceCtorEq, *,  horariumref3_Depth_1]
    refine Wb_dec (fun hc2 => ?_) (fun hc2 => ?_)
    · simp (disch := omega) only [go_sem, ↓reduceIte, Nat.reduceEqDiff, Nat.reduceAdd, Nat.reduceSub, Nat.reduceLeDiff, Nat.reduceLT, List.reduceReplicate, Nat.reduceMul, Int.reduceNeg, reduceCtorEq, *,  horariumref3_Depth_2]
      have hwf : wholeB L = false := by simp [wholeB]; omega
      first
      | (refine ⟨?_, hx2⟩; unfold depR; rw [hwf]; simp; done)
      | (unfold depR; rw [hwf]; simp)
    · have hwt : wholeB L = true := by simp [wholeB]; omega
      obtain ⟨f, ho, hc1, rfl⟩ := (whole_iff L).1 hwt
      have hf := dep_all (v := v) hLb f 0 [] ho (by simp) 0 (by omega) h2 (by omega) (hS.ext hx2)
      have hp0 : nth (posF 0 f) 0 = 0 := by cases f <;> simp [Fo.count, posF, nth] at hc1 ⊢
      have hd0 : nth (depL f) 0 = f.depth := by
        have h1 := depL_fold f 0 (by omega)
        have h2 := depL_len f
        rw [hc1] at h2
        have h3 := depL_bd f 0 (by omega)
        match hk : depL f, h2 with
        | [t], _ => rw [hk] at h1 h3; simp [nth] at h1 h3 ⊢; omega
      rw [hp0, hd0] at hf
      simp (disch := omega) only [go_sem, ↓reduceIte, Nat.reduceEqDiff, Nat.reduceAdd, Nat.reduceSub, Nat.reduceLeDiff, Nat.reduceLT, List.reduceReplicate, Nat.reduceMul, Int.reduceNeg, reduceCtorEq, *,  horariumref3_Depth_3]
      refine Ev.imp hf ?_
      rintro _ h3 ⟨rfl, hx3⟩
      simp (disch := omega) only [go_sem, ↓reduceIte, Nat.reduceEqDiff, Nat.reduceAdd, Nat.reduceSub, Nat.reduceLeDiff, Nat.reduceLT, List.reduceReplicate, Nat.reduceMul, Int.reduceNeg, reduceCtorEq, *,  horariumref3_Depth_3]
      have e := depR_flat ho hc1
      first
      | exact ⟨by rw [e], hx2.trans hx3⟩
      | rw [e]
theorem refLength_ev {h : AH} {v : V} {L : List Node} (hw : h.lim ≤ h.next) (hS : SlT Node.enc h 3 v L) (hLb : L.length < 4000000000) : Ev tp i_horariumref3_Length [v] h (fun r h' => r = .tup [.i .i64 (lenR L), .b (lenB L)] ∧ Ext h h') := by
  have hlen := hS.facts.len
  refine Ev_of fn_horariumref3_Length (by simp [t_horariumref3_Length]) ?_; unfold t_horariumref3_Length
  simp (disch := omega) only [go_sem, ↓reduceIte, Nat.reduceEqDiff, Nat.reduceAdd, Nat.reduceSub, Nat.reduceLeDiff, Nat.reduceLT, List.reduceReplicate, Nat.reduceMul, Int.reduceNeg, reduceCtorEq, *,  horariumref3_Length_0, horariumref3_Length_1]
  refine Ev.imp (refDepth_ev hw hS hLb) ?_
  rintro _ h2 ⟨rfl, hx2⟩
  have hn2 := hx2.next
  have hl2 := hx2.lim
  simp (disch := omega) only [go_sem, ↓reduceIte, Nat.reduceEqDiff, Nat.reduceAdd, Nat.reduceSub, Nat.reduceLeDiff, Nat.reduceLT, List.reduceReplicate, Nat.reduceMul, Int.reduceNeg, reduceCtorEq, *,  horariumref3_Length_1]
  refine Wb_dec (fun hc => ?_) (fun hc => ?_)
  · simp (disch := omega) only [go_sem, ↓reduceIte, Nat.reduceEqDiff, Nat.reduceAdd, Nat.reduceSub, Nat.reduceLeDiff, Nat.reduceLT, List.reduceReplicate, Nat.reduceMul, Int.reduceNeg, reduceCtorEq, *,  horariumref3_Length_2]
    have hwf : wholeB L = false := by
      by_cases hwt : wholeB L = true
      · obtain ⟨f, ho, hc1, rfl⟩ := (whole_iff L).1 hwt
        have := Fo.depth_pos (f := f) (by omega)
        rw [depR_flat ho hc1] at hc
        omega
      · simpa using hwt
    have e1 : lenB L = false := by simp [lenB, hwf]
    have e2 : lenR L = 0 := by simp [lenR, e1]
    rw [e1, e2]
    all_goals (first | exact ⟨rfl, hx2⟩ | exact hx2)
  · have hwt : wholeB L = true := by
      by_cases hwt : wholeB L = true
      · exact hwt
      · exact absurd (by unfold depR; rw [if_neg hwt]) hc
    obtain ⟨f, ho, hc1, rfl⟩ := (whole_iff L).1 hwt
    have hf := len_all (v := v) hLb f 0 [] ho (by simp) 0 (by omega) h2 (by omega) (hS.ext hx2)
    have hp0 : nth (posF 0 f) 0 = 0 := by cases f <;> simp [Fo.count, posF, nth] at hc1 ⊢
    have hd0 : nth (lenL f) 0 = min f.len 4097 := by
      have h1 := lenL_fold f 0 ho (by omega)
      have h2 := lenL_len f
      rw [hc1] at h2
      have h3 := lenL_bd f 0 ho (by omega)
      match hk : lenL f, h2 with
      | [t], _ => rw [hk] at h1 h3; simp [nth] at h1 h3 ⊢; omega
    rw [hp0, hd0] at hf
    have e1 := lenB_flat ho hc1
    have e2 := lenR_flat ho hc1
    simp (disch := omega) only [go_sem, ↓reduceIte, Nat.reduceEqDiff, Nat.reduceAdd, Nat.reduceSub, Nat.reduceLeDiff, Nat.reduceLT, List.reduceReplicate, Nat.reduceMul, Int.reduceNeg, reduceCtorEq, *,  horariumref3_Length_3]
    refine Ev.imp hf ?_
    rintro _ h3 ⟨rfl, hx3⟩
    simp (disch := omega) only [go_sem, ↓reduceIte, Nat.reduceEqDiff, Nat.reduceAdd, Nat.reduceSub, Nat.reduceLeDiff, Nat.reduceLT, List.reduceReplicate, Nat.reduceMul, Int.reduceNeg, reduceCtorEq, *,  horariumref3_Length_3, horariumref3_Length_4]
    refine Wb_dec (fun hc2 => ?_) (fun hc2 => ?_)
    · simp (disch := omega) only [go_sem, ↓reduceIte, Nat.reduceEqDiff, Nat.reduceAdd, Nat.reduceSub, Nat.reduceLeDiff, Nat.reduceLT, List.reduceReplicate, Nat.reduceMul, Int.reduceNeg, reduceCtorEq, *,  horariumref3_Length_5]
      rw [if_neg (by omega), show decide (f.len ≤ 4096) = false by simp; omega]
      all_goals (first | exact ⟨rfl, hx2.trans hx3⟩ | exact hx2.trans hx3)
    · simp (disch := omega) only [go_sem, ↓reduceIte, Nat.reduceEqDiff, Nat.reduceAdd, Nat.reduceSub, Nat.reduceLeDiff, Nat.reduceLT, List.reduceReplicate, Nat.reduceMul, Int.reduceNeg, reduceCtorEq, *,  horariumref3_Length_6]
      rw [if_pos (by omega), show decide (f.len ≤ 4096) = true by simp; omega, show min f.len 4097 = f.len by omega]
      all_goals (first | exact ⟨rfl, hx2.trans hx3⟩ | exact hx2.trans hx3)
theorem refRight_ev {h : AH} {v : V} {L : List Node} (hw : h.lim ≤ h.next) (hS : SlT Node.enc h 3 v L) (hLb : L.length < 4000000000) : Ev tp i_horariumref3_Right [v] h (fun r h' => r = .i .i64 (rightR L) ∧ Ext h h') := by
  have hlen := hS.facts.len
  have hdp : wholeB L = false ↔ depR L = 0 := by
    constructor
    · intro h; unfold depR; rw [h]; simp
    · intro h
      by_cases hwt : wholeB L = true
      · obtain ⟨f, ho, hc1, rfl⟩ := (whole_iff L).1 hwt
        have := Fo.depth_pos (f := f) (by omega)
        rw [depR_flat ho hc1] at h; omega
      · simpa using hwt
  refine Ev_of fn_horariumref3_Right (by simp [t_horariumref3_Right]) ?_; unfold t_horariumref3_Right
  simp (disch := omega) only [go_sem, ↓reduceIte, Nat.reduceEqDiff, Nat.reduceAdd, Nat.reduceSub, Nat.reduceLeDiff, Nat.reduceLT, List.reduceReplicate, Nat.reduceMul, Int.reduceNeg, reduceCtorEq, *,  horariumref3_Right_0, horariumref3_Right_1]
  refine Wb_dec (fun hc => ?_) (fun hc => ?_)
  · simp (disch := omega) only [go_sem, ↓reduceIte, Nat.reduceEqDiff, Nat.reduceAdd, Nat.reduceSub, Nat.reduceLeDiff, Nat.reduceLT, List.reduceReplicate, Nat.reduceMul, Int.reduceNeg, reduceCtorEq, *,  horariumref3_Right_2]
    refine ⟨?_, Ext.refl h⟩
    unfold rightR; rw [if_pos (by omega)]
  simp (disch := omega) only [go_sem, ↓reduceIte, Nat.reduceEqDiff, Nat.reduceAdd, Nat.reduceSub, Nat.reduceLeDiff, Nat.reduceLT, List.reduceReplicate, Nat.reduceMul, Int.reduceNeg, reduceCtorEq, *,  horariumref3_Right_3]
  refine Ev.imp (refDepth_ev hw hS hLb) ?_
  rintro _ h2 ⟨rfl, hx2⟩
  have hn2 := hx2.next
  have hl2 := hx2.lim
  simp (disch := omega) only [go_sem, ↓reduceIte, Nat.reduceEqDiff, Nat.reduceAdd, Nat.reduceSub, Nat.reduceLeDiff, Nat.reduceLT, List.reduceReplicate, Nat.reduceMul, Int.reduceNeg, reduceCtorEq, *,  horariumref3_Right_3]
  refine Wb_dec (fun hc2 => ?_) (fun hc2 => ?_)
  · have hw0 := hdp.2 hc2
    simp (disch := omega) only [go_sem, ↓reduceIte, Nat.reduceEqDiff, Nat.reduceAdd, Nat.reduceSub, Nat.reduceLeDiff, Nat.reduceLT, List.reduceReplicate, Nat.reduceMul, Int.reduceNeg, reduceCtorEq, *,  horariumref3_Right_4]
    have e : rightR L = 12 := by unfold rightR; rw [if_neg (by omega), if_pos hw0]
    rw [e]
    all_goals (first | exact ⟨rfl, hx2⟩ | exact hx2)
  have hwt : ¬ wholeB L = false := fun h => hc2 (hdp.1 h)
  simp (disch := omega) only [go_sem, ↓reduceIte, Nat.reduceEqDiff, Nat.reduceAdd, Nat.reduceSub, Nat.reduceLeDiff, Nat.reduceLT, List.reduceReplicate, Nat.reduceMul, Int.reduceNeg, reduceCtorEq, *,  horariumref3_Right_5]
  refine Ev.imp (refDepth_ev (by omega) (hS.ext hx2) hLb) ?_
  rintro _ h3 ⟨rfl, hx3⟩
  have hn3 := hx3.next
  have hl3 := hx3.lim
  simp (disch := omega) only [go_sem, ↓reduceIte, Nat.reduceEqDiff, Nat.reduceAdd, Nat.reduceSub, Nat.reduceLeDiff, Nat.reduceLT, List.reduceReplicate, Nat.reduceMul, Int.reduceNeg, reduceCtorEq, *,  horariumref3_Right_5]
  refine Wb_dec (fun hc3 => ?_) (fun hc3 => ?_)
  · simp (disch := omega) only [go_sem, ↓reduceIte, Nat.reduceEqDiff, Nat.reduceAdd, Nat.reduceSub, Nat.reduceLeDiff, Nat.reduceLT, List.reduceReplicate, Nat.reduceMul, Int.reduceNeg, reduceCtorEq, *,  horariumref3_Right_6]
    have e : rightR L = 14 := by unfold rightR; rw [if_neg (by omega), if_neg hwt, if_pos (by omega)]
    rw [e]
    all_goals (first | exact ⟨rfl, hx2.trans hx3⟩ | exact hx2.trans hx3)
  simp (disch := omega) only [go_sem, ↓reduceIte, Nat.reduceEqDiff, Nat.reduceAdd, Nat.reduceSub, Nat.reduceLeDiff, Nat.reduceLT, List.reduceReplicate, Nat.reduceMul, Int.reduceNeg, reduceCtorEq, *,  horariumref3_Right_7]
  refine Ev.imp (refLength_ev (by omega) (hS.ext (hx2.trans hx3)) hLb) ?_
  rintro _ h4 ⟨rfl, hx4⟩
  simp (disch := omega) only [go_sem, ↓reduceIte, Nat.reduceEqDiff, Nat.reduceAdd, Nat.reduceSub, Nat.reduceLeDiff, Nat.reduceLT, List.reduceReplicate, Nat.reduceMul, Int.reduceNeg, reduceCtorEq, *,  horariumref3_Right_7, horariumref3_Right_8]
  refine Wb_of (fun hc4 => ?_) (fun hc4 => ?_)
  · simp (disch := omega) only [go_sem, ↓reduceIte, Nat.reduceEqDiff, Nat.reduceAdd, Nat.reduceSub, Nat.reduceLeDiff, Nat.reduceLT, List.reduceReplicate, Nat.reduceMul, Int.reduceNeg, reduceCtorEq, *,  horariumref3_Right_9]
    simp at hc4
    have e : rightR L = 18 := by unfold rightR; rw [if_neg (by omega), if_neg hwt, if_neg (by omega), if_pos hc4]
    rw [e]
    all_goals (first | exact ⟨rfl, hx2.trans (hx3.trans hx4)⟩ | exact hx2.trans (hx3.trans hx4))
  · simp (disch := omega) only [go_sem, ↓reduceIte, Nat.reduceEqDiff, Nat.reduceAdd, Nat.reduceSub, Nat.reduceLeDiff, Nat.reduceLT, List.reduceReplicate, Nat.reduceMul, Int.reduceNeg, reduceCtorEq, *,  horariumref3_Right_10]
    simp at hc4
    have e : rightR L = 0 := by unfold rightR; rw [if_neg (by omega), if_neg hwt, if_neg (by omega), if_neg (by simp [hc4])]
    rw [e]
    all_goals (first | exact ⟨rfl, hx2.trans (hx3.trans hx4)⟩ | exact hx2.trans (hx3.trans hx4))
theorem refLeaves_ev {h : AH} {v : V} {f : Fo} (hw : h.lim ≤ h.next) (hS : SlT Node.enc h 3 v f.flat) (hLb : f.flat.length < 4000000000) (ho : f.ok) (hc : f.count = 1) (hl : f.len ≤ 4096) : Ev tp i_horariumref3_Leaves [v] h (fun r h' => SlT Run.enc h' 2 r f.runs ∧ Own h r ∧ Ext h h') := by
  have hf := lea_all (v := v) hLb f 0 [] ho (by simp) 0 (by omega) h .ns [] hw hS (.inl rfl) (Sl.nil _ _)
  have hp0 : nth (posF 0 f) 0 = 0 := by cases f <;> simp [Fo.count, posF, nth] at hc ⊢
  have hd0 : nth (runsT f) 0 = f.runs := by
    have h1 := runsT_flat f
    have h2 := runsT_len f
    rw [hc] at h2
    match hk : runsT f, h2 with
    | [t], _ => rw [hk] at h1; simpa [nth] using h1
  rw [hp0, hd0] at hf
  have hrl := Fo.runs_len f ho
  refine Ev_of fn_horariumref3_Leaves (by simp [t_horariumref3_Leaves]) ?_; unfold t_horariumref3_Leaves
  simp (disch := omega) only [go_sem, ↓reduceIte, Nat.reduceEqDiff, Nat.reduceAdd, Nat.reduceSub, Nat.reduceLeDiff, Nat.reduceLT, List.reduceReplicate, Nat.reduceMul, Int.reduceNeg, reduceCtorEq, *,  horariumref3_Leaves_0, horariumref3_Leaves_1]
  refine Ev.imp (hf (by simp; omega)) ?_
  rintro r h2 ⟨sr, f2⟩
  simp (disch := omega) only [go_sem, ↓reduceIte, Nat.reduceEqDiff, Nat.reduceAdd, Nat.reduceSub, Nat.reduceLeDiff, Nat.reduceLT, List.reduceReplicate, Nat.reduceMul, Int.reduceNeg, reduceCtorEq, *,  horariumref3_Leaves_0, horariumref3_Leaves_1]
  refine ⟨by simpa using sr, ?_, ⟨f2.next, f2.lim, fun i hi => f2.get i hi (.inl rfl)⟩⟩
  rcases f2.own with h1 | ⟨h1, _⟩ | h1
  · exact .inl h1
  · exact absurd rfl h1
  · exact .inr h1
end Go.Ab.T
