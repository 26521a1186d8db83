/- Part of the proof that CursorAgain returns true for every input of the second form's bound (no other condition). -/
import Derived.Test.YtemddmfgjijcmaaSJ
set_option linter.all false
namespace Go.Ab.T
open Go Go.Ab
set_option linter.unusedSimpArgs false
set_option linter.unusedVariables false
set_option maxHeartbeats 4000000
set_option maxRecDepth 10000
theorem cursorAgain_ev {h : AH} {tv : V} {T : List Int} {deep nn : Int} (hw : h.lim ≤ h.next) (hT : SlT E1 h 1 tv T) :
    Ev tp i_horariumlaw4_CursorAgain [tv, .i .i64 deep, .i .i64 nn] h (fun r h' => r = .b true ∧ Ext h h') := by
  have c1 := Sl.cell hT
  have c2 := Sl.cells hT
  have hd := within_bd (n := deep) (lo := 0) (hi := 4) (by omega)
  have hnb := within_bd (n := nn) (lo := 0) (hi := 50) (by omega)
  obtain ⟨d, hdd⟩ : ∃ d : Nat, within deep 0 4 = d := ⟨(within deep 0 4).toNat, by omega⟩
  refine Ev_of fn_horariumlaw4_CursorAgain (by simp [t_horariumlaw4_CursorAgain]) ?_; unfold t_horariumlaw4_CursorAgain
  simp (disch := omega) only [go_sem, ↓reduceIte, Nat.reduceEqDiff, Nat.reduceAdd, Nat.reduceSub, Nat.reduceLeDiff, Nat.reduceLT, List.reduceReplicate, Nat.reduceMul, Int.reduceNeg, reduceCtorEq, *,  horariumlaw4_CursorAgain_0, horariumlaw4_CursorAgain_1, fillP]
  have tb := tape_box hw hT
  refine Ev.imp (within_ev (by omega) (by omega) (by omega)) ?_
  rintro _ _ ⟨rfl, rfl⟩
  simp (disch := omega) only [go_sem, ↓reduceIte, Nat.reduceEqDiff, Nat.reduceAdd, Nat.reduceSub, Nat.reduceLeDiff, Nat.reduceLT, List.reduceReplicate, Nat.reduceMul, Int.reduceNeg, reduceCtorEq, *,  horariumlaw4_CursorAgain_1]
  refine Ev.imp (table_ev (parts := 4) (by omega) d _ _ (by omega) tb) ?_
  rintro l h2 ⟨g, k2, tr⟩
  have x2 : Ext h h2 := Upd.toExt tr.upd
  have n2 := x2.next
  have l2 := x2.lim
  have gl := tr.row
  have gb : g.flat.length < 4000000000 := by have := tr.big; have := tabB_le (by omega : d ≤ 10); omega
  have go := tr.ok
  have g1 := tr.one
  simp (disch := omega) only [go_sem, ↓reduceIte, Nat.reduceEqDiff, Nat.reduceAdd, Nat.reduceSub, Nat.reduceLeDiff, Nat.reduceLT, List.reduceReplicate, Nat.reduceMul, Int.reduceNeg, reduceCtorEq, *,  horariumlaw4_CursorAgain_1, horariumlaw4_CursorAgain_2]
  by_cases hr : rightR g.flat = 0
  · have hln := right_len go g1 hr
    have eB : lenB g.flat = true := by rw [lenB_flat go g1]; simp; omega
    have eR : lenR g.flat = g.len := by rw [lenR_flat go g1, if_pos hln]
    have hap := Fo.runs_allpos g go
    have hsum := Fo.runs_sum g go
    have hrl := Fo.runs_len g go
    refine Ev.imp (new_good (by omega) gl gb hr) ?_
    rintro _ h3 ⟨id, lv, sv, rfl, N3⟩
    have R3 := start_rem go g1 hln
    have n3 := N3.ext.next
    have l3 := N3.ext.lim
    simp (disch := omega) only [go_sem, ↓reduceIte, Nat.reduceEqDiff, Nat.reduceAdd, Nat.reduceSub, Nat.reduceLeDiff, Nat.reduceLT, List.reduceReplicate, Nat.reduceMul, Int.reduceNeg, reduceCtorEq, *,  horariumlaw4_CursorAgain_2, horariumlaw4_CursorAgain_3, horariumlaw4_CursorAgain_5, eqV, Bool.false_eq_true]
    refine WC_loop_n (fun n e h' => ∃ (i : Nat) (sv' : V) (c : Cs) (q : List Run), n = (within nn 0 50).toNat - i ∧ e 2 = .i .i64 nn ∧ e 7 = l ∧ e 8 = .p id 0 0 ∧ e 9 = .i .i64 i ∧ NewC h2 h' g.flat id lv sv' c ∧ Rem g.flat c q) ?_ _ _ _ ⟨0, sv, cur0 g.flat, g.runs, rfl, ?_⟩
    · rintro n e h' ⟨i, sv', c, q, rfl, e2, e7, e8, e9, N, R⟩ ih
      have nn' := N.ext.next
      have ll' := N.ext.lim
      have lm := N.cur.lim_le
      rw [horariumlaw4_CursorAgain_9_go]
      simp (disch := omega) only [go_sem, ↓reduceIte, Nat.reduceEqDiff, Nat.reduceAdd, Nat.reduceSub, Nat.reduceLeDiff, Nat.reduceLT, List.reduceReplicate, Nat.reduceMul, Int.reduceNeg, reduceCtorEq, *,  horariumlaw4_CursorAgain_6]
      refine Ev.imp (within_ev (by omega) (by omega) (by omega)) ?_
      rintro _ h' ⟨rfl, rfl⟩
      simp (disch := omega) only [go_sem, ↓reduceIte, Nat.reduceEqDiff, Nat.reduceAdd, Nat.reduceSub, Nat.reduceLeDiff, Nat.reduceLT, List.reduceReplicate, Nat.reduceMul, Int.reduceNeg, reduceCtorEq, *,  horariumlaw4_CursorAgain_6]
      refine Wb_dec (fun hc => ?_) (fun hc => ?_)
      · simp (disch := omega) only [go_sem, ↓reduceIte, Nat.reduceEqDiff, Nat.reduceAdd, Nat.reduceSub, Nat.reduceLeDiff, Nat.reduceLT, List.reduceReplicate, Nat.reduceMul, Int.reduceNeg, reduceCtorEq, *,  horariumlaw4_CursorAgain_7]
        match q, R with
        | [], R =>
          refine Ev.imp (newTick_end N R) ?_
          rintro _ h' ⟨rfl, rfl⟩
          simp (disch := omega) only [go_sem, ↓reduceIte, Nat.reduceEqDiff, Nat.reduceAdd, Nat.reduceSub, Nat.reduceLeDiff, Nat.reduceLT, List.reduceReplicate, Nat.reduceMul, Int.reduceNeg, reduceCtorEq, *,  horariumlaw4_CursorAgain_7, horariumlaw4_CursorAgain_8]
          refine ih _ _ _ ?_ ⟨i + 1, sv', c, [], rfl, ?_⟩
          · omega
          · simp (disch := omega) only [go_sem, ↓reduceIte, Nat.reduceEqDiff, Nat.reduceAdd, Nat.reduceSub, Nat.reduceLeDiff, Nat.reduceLT, List.reduceReplicate, Nat.reduceMul, Int.reduceNeg, reduceCtorEq, *]
        | r :: q, R =>
          refine Ev.imp (newTick N R) ?_
          rintro _ h5 ⟨rfl, s5, c5, N5, f5, R5, a5⟩
          simp (disch := omega) only [go_sem, ↓reduceIte, Nat.reduceEqDiff, Nat.reduceAdd, Nat.reduceSub, Nat.reduceLeDiff, Nat.reduceLT, List.reduceReplicate, Nat.reduceMul, Int.reduceNeg, reduceCtorEq, *,  horariumlaw4_CursorAgain_7, horariumlaw4_CursorAgain_8]
          refine ih _ _ _ ?_ ⟨i + 1, s5, c5, (if r.n = 1 then q else ⟨r.part, r.n - 1⟩ :: q), rfl, ?_⟩
          · omega
          · simp (disch := omega) only [go_sem, ↓reduceIte, Nat.reduceEqDiff, Nat.reduceAdd, Nat.reduceSub, Nat.reduceLeDiff, Nat.reduceLT, List.reduceReplicate, Nat.reduceMul, Int.reduceNeg, reduceCtorEq, *]
      · simp (disch := omega) only [go_sem, ↓reduceIte, Nat.reduceEqDiff, Nat.reduceAdd, Nat.reduceSub, Nat.reduceLeDiff, Nat.reduceLT, List.reduceReplicate, Nat.reduceMul, Int.reduceNeg, reduceCtorEq, *,  horariumlaw4_CursorAgain_10]
        refine Ev.imp (reset_ev N.cur go g1 hln) ?_
        rintro _ h4 ⟨rfl, s4, c4, f4⟩
        have N4 := N.step c4 f4
        simp (disch := omega) only [go_sem, ↓reduceIte, Nat.reduceEqDiff, Nat.reduceAdd, Nat.reduceSub, Nat.reduceLeDiff, Nat.reduceLT, List.reduceReplicate, Nat.reduceMul, Int.reduceNeg, reduceCtorEq, *,  horariumlaw4_CursorAgain_10, horariumlaw4_CursorAgain_11, horariumlaw4_CursorAgain_12]
        refine WC_loop_n (fun n e h' => ∃ (i : Nat) (sv' : V) (c : Cs) (q : List Run), n = q.length ∧ e 7 = l ∧ e 8 = .p id 0 0 ∧ e 10 = .i .i64 c.at_ ∧ e 11 = .i .i64 i ∧ (i + q.length = g.runs.length) ∧ NewC h2 h' g.flat id lv sv' c ∧ Rem g.flat c q ∧ Kept (c.at_ + sumN q = g.len)) ?_ _ _ _ ⟨0, s4, cur0 g.flat, g.runs, rfl, ?_⟩
        · rintro n e h' ⟨i, sv', c, q, rfl, e7, e8, e10, e11, hlen, N, R, ks⟩ ih
          have nn' := N.ext.next
          have ll' := N.ext.lim
          have lm := N.cur.lim_le
          have hat := R.at_
          have hsm := R.sum
          have hi4 : (i : Int) ≤ 4096 := by omega
          rw [horariumlaw4_CursorAgain_20_go]
          simp (disch := omega) only [go_sem, ↓reduceIte, Nat.reduceEqDiff, Nat.reduceAdd, Nat.reduceSub, Nat.reduceLeDiff, Nat.reduceLT, List.reduceReplicate, Nat.reduceMul, Int.reduceNeg, reduceCtorEq, *,  horariumlaw4_CursorAgain_13, horariumlaw4_CursorAgain_14]
          match q, R, hlen, ks, hat, hsm, ih with
          | [], R, hlen, ks, hat, hsm, ih =>
            refine Ev.imp (newNext_end N R) ?_
            rintro _ h6 ⟨rfl, N6, x6⟩
            have l6 : h6.lim ≤ h6.next := N6.cur.lim_le
            have N6' := N6.grow (Ext.box (k0 := ⟨2, [[.i .i64 0, .i .i64 0]]⟩) (k := ⟨2, [[.i .i64 0, .i .i64 0]]⟩))
            have y7 := N6'.ext
            have m7 := y7.next
            have o7 := y7.lim
            have hca : c.at_ = g.len := by have := ks.of; simpa [sumN] using this
            simp (disch := omega) only [go_sem, ↓reduceIte, Nat.reduceEqDiff, Nat.reduceAdd, Nat.reduceSub, Nat.reduceLeDiff, Nat.reduceLT, List.reduceReplicate, Nat.reduceMul, Int.reduceNeg, reduceCtorEq, *,  horariumlaw4_CursorAgain_14, horariumlaw4_CursorAgain_15, horariumlaw4_CursorAgain_16]
            generalize (h6.alloc ⟨2, [[.i .i64 0, .i .i64 0]]⟩).put h6.next ⟨2, [[.i .i64 0, .i .i64 0]]⟩ = h7 at *
            refine Ev.imp (refLength_ev (by omega) (gl.ext y7) gb) ?_
            rintro _ h8 ⟨rfl, x8⟩
            have N8 := N6'.grow x8
            simp (disch := omega) only [go_sem, ↓reduceIte, Nat.reduceEqDiff, Nat.reduceAdd, Nat.reduceSub, Nat.reduceLeDiff, Nat.reduceLT, List.reduceReplicate, Nat.reduceMul, Int.reduceNeg, reduceCtorEq, *,  horariumlaw4_CursorAgain_16, horariumlaw4_CursorAgain_17]
            refine Ev.imp (curAt_ev N8.cur) ?_
            rintro _ h8 ⟨rfl, rfl⟩
            have l8 := N8.cur.lim_le
            simp (disch := omega) only [go_sem, ↓reduceIte, Nat.reduceEqDiff, Nat.reduceAdd, Nat.reduceSub, Nat.reduceLeDiff, Nat.reduceLT, List.reduceReplicate, Nat.reduceMul, Int.reduceNeg, reduceCtorEq, *,  horariumlaw4_CursorAgain_17]
            refine Ev.imp (known4_ev (by omega)) ?_
            rintro _ h9 ⟨rfl, x9⟩
            simp (disch := omega) only [go_sem, ↓reduceIte, Nat.reduceEqDiff, Nat.reduceAdd, Nat.reduceSub, Nat.reduceLeDiff, Nat.reduceLT, List.reduceReplicate, Nat.reduceMul, Int.reduceNeg, reduceCtorEq, *,  horariumlaw4_CursorAgain_17]
            exact x2.trans (N8.ext.trans x9)
          | r :: q, R, hlen, ks, hat, hsm, ih =>
            have q5 := R.cons.next
            have q5a := q5.at_
            have q5s := q5.sum
            refine Ev.imp (newNext N R) ?_
            rintro _ h5 ⟨rfl, s5, c5, N5, f5, R5, a5⟩
            have l5 : h5.lim ≤ h5.next := N5.cur.lim_le
            have N5' := N5.grow (Ext.box (k0 := ⟨2, [[.i .i64 0, .i .i64 0]]⟩) (k := ⟨2, [[.i .i64 r.part, .i .i64 r.n]]⟩))
            have hatv : c.at_ + r.n = c5.at_ := a5.symm
            have ak : Kept (c5.at_ = c.at_ + r.n) := ⟨a5⟩
            have hat5 := R5.at_
            have hsm5 := R5.sum
            have hrn : 0 ≤ c.at_ + r.n ∧ c.at_ + r.n ≤ 4096 := by rw [hatv]; omega
            clear a5
            simp (disch := omega) only [go_sem, ↓reduceIte, Nat.reduceEqDiff, Nat.reduceAdd, Nat.reduceSub, Nat.reduceLeDiff, Nat.reduceLT, List.reduceReplicate, Nat.reduceMul, Int.reduceNeg, reduceCtorEq, *,  horariumlaw4_CursorAgain_14, horariumlaw4_CursorAgain_15, horariumlaw4_CursorAgain_18, horariumlaw4_CursorAgain_19]
            refine ih _ _ _ ?_ ⟨i + 1, s5, c5, q, rfl, ?_⟩
            · simp
            · simp (disch := omega) only [go_sem, ↓reduceIte, Nat.reduceEqDiff, Nat.reduceAdd, Nat.reduceSub, Nat.reduceLeDiff, Nat.reduceLT, List.reduceReplicate, Nat.reduceMul, Int.reduceNeg, reduceCtorEq, *]
              exact ⟨by simp at hlen; omega, ⟨by rw [← ks.of, ak.of]; simp only [sumN]; omega⟩⟩
        · simp (disch := omega) only [go_sem, ↓reduceIte, Nat.reduceEqDiff, Nat.reduceAdd, Nat.reduceSub, Nat.reduceLeDiff, Nat.reduceLT, List.reduceReplicate, Nat.reduceMul, Int.reduceNeg, reduceCtorEq, *]
          first | exact ⟨rfl, by simp, start_rem go g1 hln, ⟨by simp [cur0, hsum]⟩⟩ | exact ⟨rfl, ⟨by simp [cur0, hsum]⟩⟩
    · simp (disch := omega) only [go_sem, ↓reduceIte, Nat.reduceEqDiff, Nat.reduceAdd, Nat.reduceSub, Nat.reduceLeDiff, Nat.reduceLT, List.reduceReplicate, Nat.reduceMul, Int.reduceNeg, reduceCtorEq, *]
  · refine Ev.imp (new_bad (by omega) gl gb hr) ?_
    rintro _ h3 ⟨rfl, x3⟩
    have n3 := x3.next
    have l3 := x3.lim
    simp (disch := omega) only [go_sem, ↓reduceIte, Nat.reduceEqDiff, Nat.reduceAdd, Nat.reduceSub, Nat.reduceLeDiff, Nat.reduceLT, List.reduceReplicate, Nat.reduceMul, Int.reduceNeg, reduceCtorEq, *,  horariumlaw4_CursorAgain_2, horariumlaw4_CursorAgain_3, horariumlaw4_CursorAgain_4, eqV]
    refine Ev.imp (refRight_ev (by omega) (gl.ext x3) gb) ?_
    rintro _ h4 ⟨rfl, x4⟩
    have n4 := x4.next
    have l4 := x4.lim
    simp (disch := omega) only [go_sem, ↓reduceIte, Nat.reduceEqDiff, Nat.reduceAdd, Nat.reduceSub, Nat.reduceLeDiff, Nat.reduceLT, List.reduceReplicate, Nat.reduceMul, Int.reduceNeg, reduceCtorEq, *,  horariumlaw4_CursorAgain_4]
    refine Ev.imp (known4_ev (by omega)) ?_
    rintro _ h5 ⟨rfl, x5⟩
    simp (disch := omega) only [go_sem, ↓reduceIte, Nat.reduceEqDiff, Nat.reduceAdd, Nat.reduceSub, Nat.reduceLeDiff, Nat.reduceLT, List.reduceReplicate, Nat.reduceMul, Int.reduceNeg, reduceCtorEq, *,  horariumlaw4_CursorAgain_4]
    exact x2.trans (x3.trans (x4.trans x5))
end Go.Ab.T
