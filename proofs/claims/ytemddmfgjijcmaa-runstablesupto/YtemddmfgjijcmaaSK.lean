/- Part of the proof that RunsTables returns true for every input of the second form's bound (no other condition). -/
import Derived.Test.YtemddmfgjijcmaaSJ
set_option linter.all false
namespace Go.Ab.T
open Go Go.Ab
set_option linter.unusedSimpArgs false
set_option linter.unusedVariables false
set_option maxHeartbeats 4000000
set_option maxRecDepth 10000
theorem runsL_len (L : List Int) (parts : Int) : ∀ (m k : Nat), (runsL L parts m k).length = m
  | 0, k => rfl
  | m + 1, k => by simp [runsL, runsL_len L parts m]
theorem runsL_pos (L : List Int) (parts : Int) : ∀ (m k : Nat), AllPos (runsL L parts m k) ∧ sumN (runsL L parts m k) ≤ 4 * m
  | 0, k => ⟨fun r hr => (by cases hr), by simp [runsL, sumN]⟩
  | m + 1, k => by
    have h1 := runsL_pos L parts m (nextK L (nextK L k (parts + 1)) 4)
    have h2 := nextR_bd (L := L) (k := nextK L k (parts + 1)) (n := 4) (by omega)
    refine ⟨fun r hr => ?_, ?_⟩
    · rcases List.mem_cons.1 hr with rfl | hr
      · simp only; omega
      · exact h1.1 r hr
    · simp only [runsL, sumN]; omega
theorem wrap_nn {x : Nat} (h : x < 9223372036854775808) : IntKind.wrap .i64 (x : Int) = x := w64 (by omega) (by omega)
theorem and_bd {a : Int} {m : Nat} (hm : m < 9223372036854775808) : ∃ q : Nat, q ≤ m ∧ IntKind.wrap .i64 ((BitVec.ofInt 64 a &&& BitVec.ofInt 64 (m : Int)).toNat : Int) = q := by
  have h1 : (BitVec.ofInt 64 a &&& BitVec.ofInt 64 (m : Int)).toNat ≤ m := by
    rw [BitVec.toNat_and]
    refine Nat.le_trans Nat.and_le_right ?_
    rw [BitVec.toNat_ofInt]
    omega
  exact ⟨_, h1, wrap_nn (by omega)⟩
theorem runsTidy_ev {h : AH} {tv : V} {T : List Int} {at_ : Int} (hw : h.lim ≤ h.next) (hT : SlT E1 h 1 tv T) :
    Ev tp i_horariumlaw5_RunsTidy [tv, .i .i64 at_] h (fun r h' => r = .b true ∧ Ext h h') := by
  have c1 := Sl.cell hT
  have c2 := Sl.cells hT
  obtain ⟨q, hq1, hq2⟩ := and_bd (a := at_) (m := 127) (by omega)
  replace hq2 : IntKind.wrap .i64 ((BitVec.ofInt 64 at_ &&& BitVec.ofInt 64 127).toNat : Int) = q := hq2
  refine Ev_of fn_horariumlaw5_RunsTidy (by simp [t_horariumlaw5_RunsTidy]) ?_; unfold t_horariumlaw5_RunsTidy
  simp (disch := omega) only [go_sem, ↓reduceIte, Nat.reduceEqDiff, Nat.reduceAdd, Nat.reduceSub, Nat.reduceLeDiff, Nat.reduceLT, List.reduceReplicate, Nat.reduceMul, Int.reduceNeg, reduceCtorEq, *,  horariumlaw5_RunsTidy_0, horariumlaw5_RunsTidy_1, fillP]
  have tb := tape_box hw hT
  refine Ev.imp (runs_ev (parts := 3) (most := 40) (by rw [lim_alloc, next_alloc]; omega) tb (by omega) (by omega)) ?_
  rintro l h2 ⟨sl, ol, u2⟩
  have x2 : Ext h h2 := Upd.toExt u2
  have w2 := ext_lim x2 hw
  have hb40 := nextR_bd (L := T) (k := 0) (n := 40) (by omega)
  generalize hm : (1 + nextR T 0 40).toNat = m at sl
  have hm40 : m ≤ 40 := by omega
  generalize hk : nextK T 0 40 = k at sl
  have hlp := runsL_pos T 3 m k
  have hll := runsL_len T 3 m k
  generalize runsL T 3 m k = L at sl hlp hll
  obtain ⟨hap, hsm⟩ := hlp
  have hs62 : sumN L ≤ 4611686018427387904 := by omega
  have okL := runsOk_pos hap hs62
  clear hm hk hb40 u2
  simp (disch := omega) only [go_sem, ↓reduceIte, Nat.reduceEqDiff, Nat.reduceAdd, Nat.reduceSub, Nat.reduceLeDiff, Nat.reduceLT, List.reduceReplicate, Nat.reduceMul, Int.reduceNeg, reduceCtorEq, *,  horariumlaw5_RunsTidy_1, horariumlaw5_RunsTidy_2]
  refine Ev.imp (tidy_ev w2 sl okL (by omega)) ?_
  rintro x h3 ⟨sx, ox, x3⟩
  have w3 := ext_lim x3 w2
  have X := tidyOf hap hs62
  generalize tidyGo L [] = R at sx X
  have hxs : sumN R ≤ 4611686018427387904 := by rw [X.sum]; exact hs62
  have okR := runsOk_pos X.pos hxs
  have hRl := X.len
  obtain ⟨xlen, xbig, xlt, xget, xat, xrow⟩ := sx.facts
  simp (disch := omega) only [go_sem, ↓reduceIte, Nat.reduceEqDiff, Nat.reduceAdd, Nat.reduceSub, Nat.reduceLeDiff, Nat.reduceLT, List.reduceReplicate, Nat.reduceMul, Int.reduceNeg, reduceCtorEq, *,  horariumlaw5_RunsTidy_2, horariumlaw5_RunsTidy_3]
  refine WC_loop_n (fun n e h' => ∃ (i : Nat), n = R.length - i ∧ e 1 = .i .i64 at_ ∧ e 5 = l ∧ e 6 = x ∧ e 16 = .i .i64 R.length ∧ e 17 = .i .i64 i ∧ h3 = h' ∧ i ≤ R.length) ?_ _ _ _ ⟨0, rfl, ?_⟩
  · rintro n e h' ⟨i, rfl, e1, e5, e6, e16, e17, rfl, hi⟩ ih
    rw [horariumlaw5_RunsTidy_9_go]
    simp (disch := omega) only [go_sem, ↓reduceIte, Nat.reduceEqDiff, Nat.reduceAdd, Nat.reduceSub, Nat.reduceLeDiff, Nat.reduceLT, List.reduceReplicate, Nat.reduceMul, Int.reduceNeg, reduceCtorEq, *,  horariumlaw5_RunsTidy_4]
    refine Wb_dec (fun hc => ?_) (fun hc => ?_)
    · simp (disch := omega) only [go_sem, ↓reduceIte, Nat.reduceEqDiff, Nat.reduceAdd, Nat.reduceSub, Nat.reduceLeDiff, Nat.reduceLT, List.reduceReplicate, Nat.reduceMul, Int.reduceNeg, reduceCtorEq, *,  horariumlaw5_RunsTidy_5, horariumlaw5_RunsTidy_6]
      refine Wg_dec (fun hc2 => ?_) (fun hc2 => ?_)
      · obtain ⟨j, rfl⟩ : ∃ j, i = j + 1 := ⟨i - 1, by omega⟩
        have hne := sep_nth j X.sep (by omega)
        have z1 : ((j : Int) + 1).toNat = j + 1 := by omega
        have hj1 : (0 : Int) < (j : Int) + 1 := by omega
        simp (disch := omega) only [go_sem, ↓reduceIte, Nat.reduceEqDiff, Nat.reduceAdd, Nat.reduceSub, Nat.reduceLeDiff, Nat.reduceLT, List.reduceReplicate, Nat.reduceMul, Int.reduceNeg, reduceCtorEq, *,  horariumlaw5_RunsTidy_6]
        refine Wb_dec (fun hc3 => by omega) (fun hc3 => ?_)
        simp (disch := omega) only [go_sem, ↓reduceIte, Nat.reduceEqDiff, Nat.reduceAdd, Nat.reduceSub, Nat.reduceLeDiff, Nat.reduceLT, List.reduceReplicate, Nat.reduceMul, Int.reduceNeg, reduceCtorEq, *,  horariumlaw5_RunsTidy_8]
        refine ih _ _ _ ?_ ⟨j + 2, rfl, ?_⟩
        · omega
        · simp (disch := omega) only [go_sem, ↓reduceIte, Nat.reduceEqDiff, Nat.reduceAdd, Nat.reduceSub, Nat.reduceLeDiff, Nat.reduceLT, List.reduceReplicate, Nat.reduceMul, Int.reduceNeg, reduceCtorEq, *]
          first | (refine ⟨?_, ?_⟩ <;> first | omega | (congr 1; done) | (congr 1; omega)) | omega
      · simp (disch := omega) only [go_sem, ↓reduceIte, Nat.reduceEqDiff, Nat.reduceAdd, Nat.reduceSub, Nat.reduceLeDiff, Nat.reduceLT, List.reduceReplicate, Nat.reduceMul, Int.reduceNeg, reduceCtorEq, *,  horariumlaw5_RunsTidy_6, horariumlaw5_RunsTidy_8]
        refine ih _ _ _ ?_ ⟨i + 1, rfl, ?_⟩
        · omega
        · simp (disch := omega) only [go_sem, ↓reduceIte, Nat.reduceEqDiff, Nat.reduceAdd, Nat.reduceSub, Nat.reduceLeDiff, Nat.reduceLT, List.reduceReplicate, Nat.reduceMul, Int.reduceNeg, reduceCtorEq, *]
          omega
    · simp (disch := omega) only [go_sem, ↓reduceIte, Nat.reduceEqDiff, Nat.reduceAdd, Nat.reduceSub, Nat.reduceLeDiff, Nat.reduceLT, List.reduceReplicate, Nat.reduceMul, Int.reduceNeg, reduceCtorEq, *,  horariumlaw5_RunsTidy_10]
      refine WC_loop_n (fun n e h' => ∃ (p : Int), n = (4 - p).toNat ∧ e 1 = .i .i64 at_ ∧ e 5 = l ∧ e 6 = x ∧ e 8 = .i .i64 p ∧ -1 ≤ p ∧ p ≤ 4 ∧ Ext h3 h') ?_ _ _ _ ⟨-1, rfl, ?_⟩
      · rintro n e h' ⟨p, rfl, e1, e5, e6, e8, hp1, hp2, hx⟩ ih2
        have w' := ext_lim hx w3
        rw [horariumlaw5_RunsTidy_15_go]
        simp (disch := omega) only [go_sem, ↓reduceIte, Nat.reduceEqDiff, Nat.reduceAdd, Nat.reduceSub, Nat.reduceLeDiff, Nat.reduceLT, List.reduceReplicate, Nat.reduceMul, Int.reduceNeg, reduceCtorEq, *,  horariumlaw5_RunsTidy_11]
        refine Wb_dec (fun hc5 => ?_) (fun hc5 => ?_)
        · simp (disch := omega) only [go_sem, ↓reduceIte, Nat.reduceEqDiff, Nat.reduceAdd, Nat.reduceSub, Nat.reduceLeDiff, Nat.reduceLT, List.reduceReplicate, Nat.reduceMul, Int.reduceNeg, reduceCtorEq, *,  horariumlaw5_RunsTidy_12]
          refine Ev.imp (ticks_ev w' (sx.ext hx) okR) ?_
          rintro _ h4 ⟨rfl, x4⟩
          have w4 := ext_lim x4 w'
          simp (disch := omega) only [go_sem, ↓reduceIte, Nat.reduceEqDiff, Nat.reduceAdd, Nat.reduceSub, Nat.reduceLeDiff, Nat.reduceLT, List.reduceReplicate, Nat.reduceMul, Int.reduceNeg, reduceCtorEq, *,  horariumlaw5_RunsTidy_12]
          refine Ev.imp (ticks_ev w4 (sl.ext (x3.trans (hx.trans x4))) okL) ?_
          rintro _ h5 ⟨rfl, x5⟩
          have et : ticksGo p R 0 = ticksGo p L 0 := by
            rw [ticksGo_tk p R 0 X.pos (by omega) (by omega), ticksGo_tk p L 0 hap (by omega) (by omega), X.tks p]
          simp (disch := omega) only [go_sem, ↓reduceIte, Nat.reduceEqDiff, Nat.reduceAdd, Nat.reduceSub, Nat.reduceLeDiff, Nat.reduceLT, List.reduceReplicate, Nat.reduceMul, Int.reduceNeg, reduceCtorEq, *,  horariumlaw5_RunsTidy_12, horariumlaw5_RunsTidy_14]
          refine ih2 _ _ _ ?_ ⟨p + 1, rfl, ?_⟩
          · omega
          · simp (disch := omega) only [go_sem, ↓reduceIte, Nat.reduceEqDiff, Nat.reduceAdd, Nat.reduceSub, Nat.reduceLeDiff, Nat.reduceLT, List.reduceReplicate, Nat.reduceMul, Int.reduceNeg, reduceCtorEq, *]
            exact ⟨by omega, by omega, hx.trans (x4.trans x5)⟩
        · simp (disch := omega) only [go_sem, ↓reduceIte, Nat.reduceEqDiff, Nat.reduceAdd, Nat.reduceSub, Nat.reduceLeDiff, Nat.reduceLT, List.reduceReplicate, Nat.reduceMul, Int.reduceNeg, reduceCtorEq, *,  horariumlaw5_RunsTidy_16]
          refine Ev.imp (tidy_ev w' (sx.ext hx) okR (by omega)) ?_
          rintro y h4 ⟨sy, oy, x4⟩
          rw [tidy_stays X.pos X.sep] at sy
          have w4 := ext_lim x4 w'
          have sx4 := (sx.ext hx).ext x4
          simp (disch := omega) only [go_sem, ↓reduceIte, Nat.reduceEqDiff, Nat.reduceAdd, Nat.reduceSub, Nat.reduceLeDiff, Nat.reduceLT, List.reduceReplicate, Nat.reduceMul, Int.reduceNeg, reduceCtorEq, *,  horariumlaw5_RunsTidy_16]
          refine Ev.imp (same_ev sy sx4) ?_
          rintro _ h4' ⟨rfl, rfl⟩
          have hee := eqR_self R
          simp (disch := omega) only [go_sem, ↓reduceIte, Nat.reduceEqDiff, Nat.reduceAdd, Nat.reduceSub, Nat.reduceLeDiff, Nat.reduceLT, List.reduceReplicate, Nat.reduceMul, Int.reduceNeg, reduceCtorEq, *,  horariumlaw5_RunsTidy_16]
          refine Ev.imp (length_ev w4 sx4 okR) ?_
          rintro _ h5 ⟨rfl, x5⟩
          have w5 := ext_lim x5 w4
          simp (disch := omega) only [go_sem, ↓reduceIte, Nat.reduceEqDiff, Nat.reduceAdd, Nat.reduceSub, Nat.reduceLeDiff, Nat.reduceLT, List.reduceReplicate, Nat.reduceMul, Int.reduceNeg, reduceCtorEq, *,  horariumlaw5_RunsTidy_16]
          refine Ev.imp (length_ev w5 (sl.ext (x3.trans (hx.trans (x4.trans x5)))) okL) ?_
          rintro _ h6 ⟨rfl, x6⟩
          have w6 := ext_lim x6 w5
          have el : lengthGo R 0 = lengthGo L 0 := by
            rw [lengthGo_sum R 0 X.pos (by omega) (by omega), lengthGo_sum L 0 hap (by omega) (by omega), X.sum]
          simp (disch := omega) only [go_sem, ↓reduceIte, Nat.reduceEqDiff, Nat.reduceAdd, Nat.reduceSub, Nat.reduceLeDiff, Nat.reduceLT, List.reduceReplicate, Nat.reduceMul, Int.reduceNeg, reduceCtorEq, *,  horariumlaw5_RunsTidy_16, bin_and]
          generalize hqq : IntKind.i64.wrap _ = qq
          obtain rfl : qq = (q : Int) := hqq.symm.trans hq2
          clear hqq
          refine Ev.imp (at_ev (t := q) w6 (sx4.ext (x5.trans x6)) (by omega)) ?_
          rintro _ h7 ⟨rfl, x7⟩
          have w7 := ext_lim x7 w6
          simp (disch := omega) only [go_sem, ↓reduceIte, Nat.reduceEqDiff, Nat.reduceAdd, Nat.reduceSub, Nat.reduceLeDiff, Nat.reduceLT, List.reduceReplicate, Nat.reduceMul, Int.reduceNeg, reduceCtorEq, *,  horariumlaw5_RunsTidy_16, bin_and]
          generalize hqq : IntKind.i64.wrap _ = qq
          obtain rfl : qq = (q : Int) := hqq.symm.trans hq2
          clear hqq
          refine Ev.imp (at_ev (t := q) w7 (sl.ext (x3.trans (hx.trans (x4.trans (x5.trans (x6.trans x7)))))) (by omega)) ?_
          rintro _ h8 ⟨rfl, x8⟩
          have w8 := ext_lim x8 w7
          have ea : atR R q = atR L q := by rw [atR_part X.pos (by omega), atR_part hap (by omega), X.at_]
          simp (disch := omega) only [go_sem, ↓reduceIte, Nat.reduceEqDiff, Nat.reduceAdd, Nat.reduceSub, Nat.reduceLeDiff, Nat.reduceLT, List.reduceReplicate, Nat.reduceMul, Int.reduceNeg, reduceCtorEq, *,  horariumlaw5_RunsTidy_16]
          refine Ev.imp (switches_ev w8 (sx4.ext (x5.trans (x6.trans (x7.trans x8)))) okR (by omega)) ?_
          rintro _ h9 ⟨rfl, x9⟩
          have w9 := ext_lim x9 w8
          have es : switchesR R ≤ R.length := by
            have := swGo_le R 0
            unfold switchesR; rw [tidy_stays X.pos X.sep]; omega
          simp (disch := omega) only [go_sem, ↓reduceIte, Nat.reduceEqDiff, Nat.reduceAdd, Nat.reduceSub, Nat.reduceLeDiff, Nat.reduceLT, List.reduceReplicate, Nat.reduceMul, Int.reduceNeg, reduceCtorEq, *,  horariumlaw5_RunsTidy_16]
          refine Ev.imp (known5_ev w9) ?_
          rintro _ h10 ⟨rfl, x10⟩
          simp (disch := omega) only [go_sem, ↓reduceIte, Nat.reduceEqDiff, Nat.reduceAdd, Nat.reduceSub, Nat.reduceLeDiff, Nat.reduceLT, List.reduceReplicate, Nat.reduceMul, Int.reduceNeg, reduceCtorEq, *,  horariumlaw5_RunsTidy_16]
          exact x2.trans (x3.trans (hx.trans (x4.trans (x5.trans (x6.trans (x7.trans (x8.trans (x9.trans x10))))))))
      · simp (disch := omega) only [go_sem, ↓reduceIte, Nat.reduceEqDiff, Nat.reduceAdd, Nat.reduceSub, Nat.reduceLeDiff, Nat.reduceLT, List.reduceReplicate, Nat.reduceMul, Int.reduceNeg, reduceCtorEq, *]
        exact ⟨by omega, by omega, Ext.refl _⟩
  · simp (disch := omega) only [go_sem, ↓reduceIte, Nat.reduceEqDiff, Nat.reduceAdd, Nat.reduceSub, Nat.reduceLeDiff, Nat.reduceLT, List.reduceReplicate, Nat.reduceMul, Int.reduceNeg, reduceCtorEq, *]
    exact Nat.zero_le _
end Go.Ab.T
