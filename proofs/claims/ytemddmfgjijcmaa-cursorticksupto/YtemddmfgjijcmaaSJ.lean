/- Part of the proof that CursorTicks returns true for every input of the second form's bound (no other condition). -/
import Derived.Test.YtemddmfgjijcmaaSI
import Derived.Test.YtemddmfgjijcmaaAbE
set_option linter.all false
namespace Go.Ab.T
open Go Go.Ab
set_option linter.unusedSimpArgs false
set_option linter.unusedVariables false
set_option maxHeartbeats 4000000
set_option maxRecDepth 10000
theorem nth_cons {α : Type} [Inhabited α] {a : α} {l : List α} {i : Nat} : nth (a :: l) (i + 1) = nth l i := by simp [nth]
def AllPos (w : List Run) : Prop := ∀ r ∈ w, 1 ≤ r.n
theorem AllPos.nth {w : List Run} (h : AllPos w) {i : Nat} (hi : i < w.length) : 1 ≤ (nth w i).n := by
  rw [nth_eq hi]; exact h _ (List.getElem_mem _)
theorem Fo.runs_allpos : ∀ (f : Fo), f.ok → AllPos f.runs
  | .nil, _ => by intro r hr; cases hr
  | .leaf x r, ho => by
    intro q hq
    rcases List.mem_cons.1 hq with rfl | hq
    · exact kids_n (by rw [ho.1]; omega)
    · exact Fo.runs_allpos r ho.2 q hq
  | .seq x k r, ho => by
    intro q hq
    rcases List.mem_append.1 hq with hq | hq
    · exact Fo.runs_allpos k ho.2.2.2.1 q hq
    · exact Fo.runs_allpos r ho.2.2.2.2 q hq
  | .rep x k r, ho => by
    intro q hq
    rcases List.mem_append.1 hq with hq | hq
    · obtain ⟨l, hl, hq⟩ := List.mem_flatten.1 hq
      rw [List.eq_of_mem_replicate hl] at hq
      exact Fo.runs_allpos k ho.2.2.2.1 q hq
    · exact Fo.runs_allpos r ho.2.2.2.2 q hq
theorem sumN_pos : ∀ {w : List Run}, AllPos w → 0 ≤ sumN w
  | [], _ => by simp [sumN]
  | r :: l, h => by
    have := sumN_pos (w := l) (fun q hq => h q (List.mem_cons_of_mem _ hq))
    have := h r (List.mem_cons_self ..)
    simp only [sumN]; omega
theorem partGo_at : ∀ (w : List Run) (i : Nat) (d : Int), i < w.length → AllPos w → 0 ≤ d → d < (nth w i).n → partGo w (sumN (w.take i) + d) = (nth w i).part
  | [], i, d, hi, _, _, _ => by simp at hi
  | r :: l, 0, d, hi, hp, h0, h1 => by
    simp only [nth_cons0] at h1 ⊢
    simp only [List.take_zero, sumN, partGo, Int.zero_add]
    rw [if_pos h1]
  | r :: l, i + 1, d, hi, hp, h0, h1 => by
    rw [nth_cons] at h1 ⊢
    have hp2 : AllPos l := fun q hq => hp q (List.mem_cons_of_mem _ hq)
    have hs : 0 ≤ sumN (l.take i) := sumN_pos (fun q hq => hp2 q (List.mem_of_mem_take hq))
    simp only [List.take_succ_cons, sumN, partGo]
    rw [if_neg (by omega), show r.n + sumN (l.take i) + d - r.n = sumN (l.take i) + d by omega]
    exact partGo_at l i d (by simpa using hi) hp2 h0 h1
theorem sumN_take : ∀ (w : List Run) (i : Nat), i < w.length → sumN (w.take (i + 1)) = sumN (w.take i) + (nth w i).n
  | [], i, hi => by simp at hi
  | r :: l, 0, hi => by simp [sumN, nth]
  | r :: l, i + 1, hi => by
    rw [nth_cons, List.take_succ_cons, List.take_succ_cons, sumN, sumN, sumN_take l i (by simpa using hi)]; omega
theorem sumN_take_le (w : List Run) (i : Nat) (h : AllPos w) : sumN (w.take i) ≤ sumN w := by
  have h1 := congrArg sumN (List.take_append_drop i w)
  rw [sumN_app] at h1
  have := sumN_pos (w := w.drop i) (fun q hq => h q (List.mem_of_mem_drop hq))
  omega
theorem rowF {α : Type} {enc : α → List V} {h h' : AH} {id sz : Nat} {sv sv' wv : V} {R : List α} (s : SlT enc h sz wv R) (b : idV wv ≠ id ∧ (sv = .ns ∨ idV wv ≠ idV sv)) (f : CurF h id sv h' sv') : SlT enc h' sz wv R :=
  Sl.same s f.next (fun _ hl => f.get _ hl b.1 b.2)
/-- What is left of the runs. -/
def restL (w : List Run) (i : Nat) (left : Int) : List Run := if i < w.length then ⟨(nth w i).part, left⟩ :: w.drop (i + 1) else []
theorem restL_start {w : List Run} {i : Nat} (h : i < w.length) : restL w i (nth w i).n = w.drop i := by
  unfold restL; rw [if_pos h, drop_nth h]
theorem restL_end {w : List Run} {i : Nat} {a : Int} (h : w.length ≤ i) : restL w i a = [] := by
  unfold restL; rw [if_neg (by omega)]
theorem SlT.raise {α : Type} {enc : α → List V} {h : AH} {sz : Nat} {v : V} {L : List α} (s : SlT enc h sz v L) : SlT enc h.raise sz v L := Sl.same s (Nat.le_refl _) (fun _ _ => rfl)
structure Kept (p : Prop) : Prop where
  of : p
structure PlayJ (h : AH) (v sv0 : V) (id : Nat) (lv wv : V) (f : Fo) (ST : List Int) (k i : Nat) (left : Int) (sv : V) (c : Cs) (e : Env) (h' : AH) : Prop where
  e0 : e 0 = v
  e1 : e 1 = sv0
  e5 : e 5 = .p id 0 0
  e6 : e 6 = wv
  e7 : e 7 = .i .i64 c.at_
  e8 : e 8 = .i .i64 i
  e9 : e 9 = .i .i64 left
  e10 : e 10 = .i .i64 k
  k400 : k ≤ 400
  new : NewC h h' f.flat id lv sv c
  rem : Rem f.flat c (restL f.runs i left)
  row : SlT Run.enc h' 2 wv f.runs
  box : idV wv ≠ id ∧ (sv = .ns ∨ idV wv ≠ idV sv)
  ile : i ≤ f.runs.length
  lft : Kept (i < f.runs.length → 1 ≤ left ∧ left ≤ (nth f.runs i).n ∧ c.at_ = sumN (f.runs.take i) + ((nth f.runs i).n - left))
theorem play_ev {h : AH} {v sv0 : V} {L : List Node} {ST : List Int} (hw : h.lim ≤ h.next) (hS : SlT Node.enc h 3 v L) (hT : SlT E1 h 1 sv0 ST) (hLb : L.length < 4000000000) : Ev tp i_horariumlaw4_play [v, sv0] h (fun r h' => r = .b true ∧ Ext h h') := by
  refine Ev_of fn_horariumlaw4_play (by simp [t_horariumlaw4_play]) ?_; unfold t_horariumlaw4_play
  simp (disch := omega) only [go_sem, ↓reduceIte, Nat.reduceEqDiff, Nat.reduceAdd, Nat.reduceSub, Nat.reduceLeDiff, Nat.reduceLT, List.reduceReplicate, Nat.reduceMul, Int.reduceNeg, reduceCtorEq, *,  horariumlaw4_play_0, horariumlaw4_play_1]
  by_cases hr : rightR L = 0
  · obtain ⟨h128, f, ho, hc, rfl, hdp, hln⟩ := (right_iff L).1 hr
    refine Ev.imp (new_good hw hS hLb hr) ?_
    rintro _ h1 ⟨id, lv, sv, rfl, N1⟩
    have x1 := N1.ext
    have n1 := x1.next
    have l1 := x1.lim
    simp (disch := omega) only [go_sem, ↓reduceIte, Nat.reduceEqDiff, Nat.reduceAdd, Nat.reduceSub, Nat.reduceLeDiff, Nat.reduceLT, List.reduceReplicate, Nat.reduceMul, Int.reduceNeg, reduceCtorEq, *,  horariumlaw4_play_1, horariumlaw4_play_2]
    refine Ev.imp (refRight_ev (by omega) (hS.ext x1) hLb) ?_
    rintro _ h2 ⟨rfl, hx2⟩
    have n2 := hx2.next
    have l2 := hx2.lim
    have N2 := N1.grow hx2
    simp (disch := omega) only [go_sem, ↓reduceIte, Nat.reduceEqDiff, Nat.reduceAdd, Nat.reduceSub, Nat.reduceLeDiff, Nat.reduceLT, List.reduceReplicate, Nat.reduceMul, Int.reduceNeg, reduceCtorEq, *,  horariumlaw4_play_2, horariumlaw4_play_4, horariumlaw4_play_6, eqV, Bool.false_eq_true]
    refine Ev.imp (law4leaves_ev (by omega) (hS.ext (x1.trans hx2)) hr ho hc hln) ?_
    rintro wv h3 ⟨s3, o3, hx3⟩
    have N3 := N2.grow hx3
    have hrp := Fo.runs_pos f ho (by omega)
    have hap := Fo.runs_allpos f ho
    have hsum := Fo.runs_sum f ho
    have hrl := Fo.runs_len f ho
    obtain ⟨slen, sbig, slt, sget, sat, srow⟩ := s3.facts
    have srow0 := srow 0 (by omega)
    rw [Nat.add_zero] at srow0
    have z0 : Int.toNat 0 = 0 := rfl
    have hwn : wv ≠ .ns := by
      rintro rfl
      simp [lenV] at slen; omega
    have how : h2.next ≤ idV wv := by
      rcases o3 with h4 | h4
      · exact absurd h4 hwn
      · exact h4
    have hbx : idV wv ≠ id ∧ (sv = .ns ∨ idV wv ≠ idV sv) := by
      refine ⟨by have := N2.cur.hi; omega, ?_⟩
      have := N2.cur.svlt
      exact this.imp (fun x => x) (fun x => by omega)
    simp (disch := omega) only [go_sem, ↓reduceIte, Nat.reduceEqDiff, Nat.reduceAdd, Nat.reduceSub, Nat.reduceLeDiff, Nat.reduceLT, List.reduceReplicate, Nat.reduceMul, Int.reduceNeg, reduceCtorEq, *,  horariumlaw4_play_6, horariumlaw4_play_7, horariumlaw4_play_8]
    refine WC_loop_n (fun n e h' => ∃ (k i : Nat) (left : Int) (sv' : V) (c : Cs), n = 400 - k ∧ PlayJ h v sv0 id lv wv f ST k i left sv' c e h') ?_ _ _ _ ⟨0, 0, (nth f.runs 0).n, sv, cur0 f.flat, rfl, ?_⟩
    · rintro n e h' ⟨k, i, left, sv', c, rfl, ⟨e0, e1, e5, e6, e7, e8, e9, e10, k400, N, R, row, box, ile, lft⟩⟩ ih
      have xx := N.ext
      have nn := xx.next
      have ll := xx.lim
      have lm := N.cur.lim_le
      obtain ⟨slen, sbig, slt, sget, sat, srow⟩ := row.facts
      have srow0 := srow 0 (by omega)
      rw [Nat.add_zero] at srow0
      have hat := R.at_
      rw [horariumlaw4_play_35_go]
      simp (disch := omega) only [go_sem, ↓reduceIte, Nat.reduceEqDiff, Nat.reduceAdd, Nat.reduceSub, Nat.reduceLeDiff, Nat.reduceLT, List.reduceReplicate, Nat.reduceMul, Int.reduceNeg, reduceCtorEq, *,  horariumlaw4_play_9]
      refine Wb_dec (fun hc1 => ?_) (fun hc1 => ?_)
      · simp (disch := omega) only [go_sem, ↓reduceIte, Nat.reduceEqDiff, Nat.reduceAdd, Nat.reduceSub, Nat.reduceLeDiff, Nat.reduceLT, List.reduceReplicate, Nat.reduceMul, Int.reduceNeg, reduceCtorEq, *,  horariumlaw4_play_10]
        refine Ev.imp (curAt_ev N.cur) ?_
        rintro _ h' ⟨rfl, rfl⟩
        obtain ⟨tlen, tbig, tlt, tget, tat, trow⟩ := (hT.ext xx).facts
        simp (disch := omega) only [go_sem, ↓reduceIte, Nat.reduceEqDiff, Nat.reduceAdd, Nat.reduceSub, Nat.reduceLeDiff, Nat.reduceLT, List.reduceReplicate, Nat.reduceMul, Int.reduceNeg, reduceCtorEq, *,  horariumlaw4_play_10, horariumlaw4_play_12, horariumlaw4_play_13]
        refine Wb_dec (fun hc2 => ?_) (fun hc2 => ?_)
        · simp (disch := omega) only [go_sem, ↓reduceIte, Nat.reduceEqDiff, Nat.reduceAdd, Nat.reduceSub, Nat.reduceLeDiff, Nat.reduceLT, List.reduceReplicate, Nat.reduceMul, Int.reduceNeg, reduceCtorEq, *,  horariumlaw4_play_14, horariumlaw4_play_15]
          generalize IntKind.i64.wrap _ = step
          refine Wb_dec (fun hc3 => ?_) (fun hc3 => ?_)
          · skip
            skip
            have hrest : restL f.runs i left = [] := by unfold restL; rw [if_neg (by omega)]
            rw [hrest] at R
            simp (disch := omega) only [go_sem, ↓reduceIte, Nat.reduceEqDiff, Nat.reduceAdd, Nat.reduceSub, Nat.reduceLeDiff, Nat.reduceLT, List.reduceReplicate, Nat.reduceMul, Int.reduceNeg, reduceCtorEq, *,  horariumlaw4_play_16]
            refine Ev.imp (newNext_end N R) ?_
            rintro _ h6 ⟨rfl, N6, x6⟩
            have l6 : h6.lim ≤ h6.next := N6.cur.lim_le
            have N6' := N6.grow (Ext.box (k0 := ⟨2, [[.i .i64 0, .i .i64 0]]⟩) (k := ⟨2, [[.i .i64 0, .i .i64 0]]⟩))
            simp (disch := omega) only [go_sem, ↓reduceIte, Nat.reduceEqDiff, Nat.reduceAdd, Nat.reduceSub, Nat.reduceLeDiff, Nat.reduceLT, List.reduceReplicate, Nat.reduceMul, Int.reduceNeg, reduceCtorEq, *,  horariumlaw4_play_16, horariumlaw4_play_17]
            refine Ev.imp (newTick_end N6' R) ?_
            rintro _ _ ⟨rfl, rfl⟩
            simp (disch := omega) only [go_sem, ↓reduceIte, Nat.reduceEqDiff, Nat.reduceAdd, Nat.reduceSub, Nat.reduceLeDiff, Nat.reduceLT, List.reduceReplicate, Nat.reduceMul, Int.reduceNeg, reduceCtorEq, *,  horariumlaw4_play_17, horariumlaw4_play_18, eqV, eqL, eqC, fillP]
            exact N6'.ext
          · simp (disch := omega) only [go_sem, ↓reduceIte, Nat.reduceEqDiff, Nat.reduceAdd, Nat.reduceSub, Nat.reduceLeDiff, Nat.reduceLT, List.reduceReplicate, Nat.reduceMul, Int.reduceNeg, reduceCtorEq, *,  horariumlaw4_play_19]
            have hl := Kept.mk (lft.of (by omega))
            have hl1 := hl.of.1
            have hl2 := hl.of.2.1
            have hrest : restL f.runs i left = ⟨(nth f.runs i).part, left⟩ :: f.runs.drop (i + 1) := by unfold restL; rw [if_pos (by omega)]
            rw [hrest] at R
            have srowi := srow i (by omega)
            refine Wb_dec (fun hc4 => ?_) (fun hc4 => ?_)
            · skip
              skip
              simp (disch := omega) only [go_sem, ↓reduceIte, Nat.reduceEqDiff, Nat.reduceAdd, Nat.reduceSub, Nat.reduceLeDiff, Nat.reduceLT, List.reduceReplicate, Nat.reduceMul, Int.reduceNeg, reduceCtorEq, *,  horariumlaw4_play_20]
              refine Ev.imp (newNext N R) ?_
              rintro _ h5 ⟨rfl, s5, c5, N5, f5, R5, a5⟩
              have l5 : h5.lim ≤ h5.next := N5.cur.lim_le
              have row5 := rowF row box f5
              have bw5 : Box h5 id s5 (idV wv) _ := Box.step ⟨sget (by omega), slt (by omega), box.1, box.2⟩ f5
              have B5 := Box.new (k0 := ⟨2, [[.i .i64 0, .i .i64 0]]⟩) (k := ⟨2, [[.i .i64 (nth f.runs i).part, .i .i64 left]]⟩) N5.cur
              have N5' := N5.grow (Ext.box (k0 := ⟨2, [[.i .i64 0, .i .i64 0]]⟩) (k := ⟨2, [[.i .i64 (nth f.runs i).part, .i .i64 left]]⟩))
              have row5' := row5.ext (Ext.box (k0 := ⟨2, [[.i .i64 0, .i .i64 0]]⟩) (k := ⟨2, [[.i .i64 (nth f.runs i).part, .i .i64 left]]⟩))
              have bw5' := bw5.ext (Ext.box (k0 := ⟨2, [[.i .i64 0, .i .i64 0]]⟩) (k := ⟨2, [[.i .i64 (nth f.runs i).part, .i .i64 left]]⟩))
              simp (disch := omega) only [go_sem, ↓reduceIte, Nat.reduceEqDiff, Nat.reduceAdd, Nat.reduceSub, Nat.reduceLeDiff, Nat.reduceLT, List.reduceReplicate, Nat.reduceMul, Int.reduceNeg, reduceCtorEq, *,  horariumlaw4_play_20]
              generalize hh7 : (h5.alloc ⟨2, [[.i .i64 0, .i .i64 0]]⟩).put h5.next ⟨2, [[.i .i64 (nth f.runs i).part, .i .i64 left]]⟩ = h7 at B5 N5' row5' bw5' ⊢
              have g7 := B5.get
              clear sget slt sat srow srow0 srowi
              obtain ⟨slen, sbig, slt, sget, sat, srow⟩ := row5'.facts
              have srowi := srow i (by omega)
              have a5k : Kept (c5.at_ = c.at_ + left) := ⟨a5⟩
              have hatv : c.at_ + left = c5.at_ := a5.symm
              have hat5 := R5.at_
              have hd5 := R5.sum
              have at0 := N5'.ext
              clear a5
              have hcs : c.at_ + left ≤ 4096 := by rw [hatv]; omega
              simp (disch := omega) only [go_sem, ↓reduceIte, Nat.reduceEqDiff, Nat.reduceAdd, Nat.reduceSub, Nat.reduceLeDiff, Nat.reduceLT, List.reduceReplicate, Nat.reduceMul, Int.reduceNeg, reduceCtorEq, *,  horariumlaw4_play_21, horariumlaw4_play_23, horariumlaw4_play_30, horariumlaw4_play_31, horariumlaw4_play_32]
              refine Wb_dec (fun hc5 => ?_) (fun hc5 => ?_)
              · have srowi1 := srow (i + 1) (by omega)
                have ki : ((i : Int) + 1).toNat = i + 1 := by omega
                simp (disch := omega) only [go_sem, ↓reduceIte, Nat.reduceEqDiff, Nat.reduceAdd, Nat.reduceSub, Nat.reduceLeDiff, Nat.reduceLT, List.reduceReplicate, Nat.reduceMul, Int.reduceNeg, reduceCtorEq, *,  horariumlaw4_play_33, horariumlaw4_play_34]
                refine ih _ _ _ ?_ ⟨k + 1, i + 1, (nth f.runs (i + 1)).n, s5, c5, rfl, ?_⟩
                · omega
                · refine ⟨?_, ?_, ?_, ?_, ?_, ?_, ?_, ?_, by omega, N5', by rw [restL_start (by omega)]; exact R5, row5', ⟨bw5'.ne, bw5'.nes⟩, by omega, Kept.mk fun _ => ⟨AllPos.nth hap (by omega), by omega, by rw [sumN_take f.runs i (by omega), a5k.of, hl.of.2.2]; omega⟩⟩
                  all_goals (simp (disch := omega) only [go_sem, ↓reduceIte, Nat.reduceEqDiff, Nat.reduceAdd, Nat.reduceSub, Nat.reduceLeDiff, Nat.reduceLT, List.reduceReplicate, Nat.reduceMul, Int.reduceNeg, reduceCtorEq, *])
              · simp (disch := omega) only [go_sem, ↓reduceIte, Nat.reduceEqDiff, Nat.reduceAdd, Nat.reduceSub, Nat.reduceLeDiff, Nat.reduceLT, List.reduceReplicate, Nat.reduceMul, Int.reduceNeg, reduceCtorEq, *,  horariumlaw4_play_34]
                refine ih _ _ _ ?_ ⟨k + 1, i + 1, 0, s5, c5, rfl, ?_⟩
                · omega
                · refine ⟨?_, ?_, ?_, ?_, ?_, ?_, ?_, ?_, by omega, N5', by rw [restL_end (by omega)]; rw [List.drop_eq_nil_of_le (by omega)] at R5; exact R5, row5', ⟨bw5'.ne, bw5'.nes⟩, by omega, Kept.mk fun hx => by omega⟩
                  all_goals (simp (disch := omega) only [go_sem, ↓reduceIte, Nat.reduceEqDiff, Nat.reduceAdd, Nat.reduceSub, Nat.reduceLeDiff, Nat.reduceLT, List.reduceReplicate, Nat.reduceMul, Int.reduceNeg, reduceCtorEq, *])
            · skip
              skip
              have hpg : partGo f.runs c.at_ = (nth f.runs i).part := by rw [hl.of.2.2]; exact partGo_at f.runs i _ (by omega) hap (by omega) (by omega)
              have hd5 := R.sum
              have hat := R.at_
              simp (disch := omega) only [go_sem, ↓reduceIte, Nat.reduceEqDiff, Nat.reduceAdd, Nat.reduceSub, Nat.reduceLeDiff, Nat.reduceLT, List.reduceReplicate, Nat.reduceMul, Int.reduceNeg, reduceCtorEq, *,  horariumlaw4_play_24]
              refine Ev.imp (Part_ev (f := f) (t := c.at_) (by rw [lim_raise, next_raise]; exact Nat.le_refl _) (SlT.raise (hS.ext xx)) hr ho hc hln (by omega)) ?_
              rintro _ h5 ⟨rfl, hx5⟩
              have x5 := hx5.back
              have N5 := N.grow x5
              have row5 := row.ext x5
              generalize hh6 : h5.back _ = h6 at x5 N5 row5 ⊢
              clear sget slt sat srow srow0 srowi
              obtain ⟨slen, sbig, slt, sget, sat, srow⟩ := row5.facts
              have srowi := srow i (by omega)
              simp (disch := omega) only [go_sem, ↓reduceIte, Nat.reduceEqDiff, Nat.reduceAdd, Nat.reduceSub, Nat.reduceLeDiff, Nat.reduceLT, List.reduceReplicate, Nat.reduceMul, Int.reduceNeg, reduceCtorEq, *,  horariumlaw4_play_24, horariumlaw4_play_26]
              refine Ev.imp (newTick N5 R) ?_
              rintro _ h7 ⟨rfl, s7, c7, N7, f7, R7, a7⟩
              have row7 := rowF row5 box f7
              have bw7 : Box h7 id s7 (idV wv) _ := Box.step ⟨sget (by omega), slt (by omega), box.1, box.2⟩ f7
              have a7k : Kept (c7.at_ = c.at_ + 1) := ⟨a7⟩
              have hatv : c.at_ + 1 = c7.at_ := a7.symm
              clear a7
              clear sget slt sat srow srowi
              obtain ⟨slen, sbig, slt, sget, sat, srow⟩ := row7.facts
              have srowi := srow i (by omega)
              have ki : ((i : Int) + 1).toNat = i + 1 := by omega
              have hca : c.at_ + 1 ≤ 4097 := by simp only [sumN] at hat hd5; omega
              have hlb : left ≤ 4096 := by
                have hq := sumN_pos (w := f.runs.drop (i + 1)) (fun q hq => hap q (List.mem_of_mem_drop hq))
                simp only [sumN] at hat; omega
              simp only at R7
              simp (disch := omega) only [go_sem, ↓reduceIte, Nat.reduceEqDiff, Nat.reduceAdd, Nat.reduceSub, Nat.reduceLeDiff, Nat.reduceLT, List.reduceReplicate, Nat.reduceMul, Int.reduceNeg, reduceCtorEq, *,  horariumlaw4_play_26, horariumlaw4_play_27, horariumlaw4_play_29, horariumlaw4_play_30]
              refine Wb_dec (fun hc5 => ?_) (fun hc5 => ?_)
              · rw [if_pos (by omega)] at R7
                simp (disch := omega) only [go_sem, ↓reduceIte, Nat.reduceEqDiff, Nat.reduceAdd, Nat.reduceSub, Nat.reduceLeDiff, Nat.reduceLT, List.reduceReplicate, Nat.reduceMul, Int.reduceNeg, reduceCtorEq, *,  horariumlaw4_play_31, horariumlaw4_play_32]
                refine Wb_dec (fun hc6 => ?_) (fun hc6 => ?_)
                · have srowi1 := srow (i + 1) (by omega)
                  simp (disch := omega) only [go_sem, ↓reduceIte, Nat.reduceEqDiff, Nat.reduceAdd, Nat.reduceSub, Nat.reduceLeDiff, Nat.reduceLT, List.reduceReplicate, Nat.reduceMul, Int.reduceNeg, reduceCtorEq, *,  horariumlaw4_play_33, horariumlaw4_play_34]
                  refine ih _ _ _ ?_ ⟨k + 1, i + 1, (nth f.runs (i + 1)).n, s7, c7, rfl, ?_⟩
                  · omega
                  · refine ⟨?_, ?_, ?_, ?_, ?_, ?_, ?_, ?_, by omega, N7, by rw [restL_start (by omega)]; exact R7, row7, ⟨bw7.ne, bw7.nes⟩, by omega, Kept.mk fun _ => ⟨AllPos.nth hap (by omega), by omega, by rw [sumN_take f.runs i (by omega), a7k.of, hl.of.2.2]; omega⟩⟩
                    all_goals (simp (disch := omega) only [go_sem, ↓reduceIte, Nat.reduceEqDiff, Nat.reduceAdd, Nat.reduceSub, Nat.reduceLeDiff, Nat.reduceLT, List.reduceReplicate, Nat.reduceMul, Int.reduceNeg, reduceCtorEq, *])
                · simp (disch := omega) only [go_sem, ↓reduceIte, Nat.reduceEqDiff, Nat.reduceAdd, Nat.reduceSub, Nat.reduceLeDiff, Nat.reduceLT, List.reduceReplicate, Nat.reduceMul, Int.reduceNeg, reduceCtorEq, *,  horariumlaw4_play_34]
                  refine ih _ _ _ ?_ ⟨k + 1, i + 1, 0, s7, c7, rfl, ?_⟩
                  · omega
                  · refine ⟨?_, ?_, ?_, ?_, ?_, ?_, ?_, ?_, by omega, N7, by rw [restL_end (by omega)]; rw [List.drop_eq_nil_of_le (by omega)] at R7; exact R7, row7, ⟨bw7.ne, bw7.nes⟩, by omega, Kept.mk fun hx => by omega⟩
                    all_goals (simp (disch := omega) only [go_sem, ↓reduceIte, Nat.reduceEqDiff, Nat.reduceAdd, Nat.reduceSub, Nat.reduceLeDiff, Nat.reduceLT, List.reduceReplicate, Nat.reduceMul, Int.reduceNeg, reduceCtorEq, *])
              · rw [if_neg (by omega)] at R7
                simp (disch := omega) only [go_sem, ↓reduceIte, Nat.reduceEqDiff, Nat.reduceAdd, Nat.reduceSub, Nat.reduceLeDiff, Nat.reduceLT, List.reduceReplicate, Nat.reduceMul, Int.reduceNeg, reduceCtorEq, *,  horariumlaw4_play_34]
                refine ih _ _ _ ?_ ⟨k + 1, i, left - 1, s7, c7, rfl, ?_⟩
                · omega
                · refine ⟨?_, ?_, ?_, ?_, ?_, ?_, ?_, ?_, by omega, N7, by unfold restL; rw [if_pos (by omega)]; exact R7, row7, ⟨bw7.ne, bw7.nes⟩, by omega, Kept.mk fun hx => ⟨by omega, by omega, by rw [a7k.of, hl.of.2.2]; omega⟩⟩
                  all_goals (simp (disch := omega) only [go_sem, ↓reduceIte, Nat.reduceEqDiff, Nat.reduceAdd, Nat.reduceSub, Nat.reduceLeDiff, Nat.reduceLT, List.reduceReplicate, Nat.reduceMul, Int.reduceNeg, reduceCtorEq, *])
        · simp (disch := omega) only [go_sem, ↓reduceIte, Nat.reduceEqDiff, Nat.reduceAdd, Nat.reduceSub, Nat.reduceLeDiff, Nat.reduceLT, List.reduceReplicate, Nat.reduceMul, Int.reduceNeg, reduceCtorEq, *,  horariumlaw4_play_15]
          refine Wb_dec (fun hc3 => ?_) (fun hc3 => ?_)
          · skip
            skip
            have hrest : restL f.runs i left = [] := by unfold restL; rw [if_neg (by omega)]
            rw [hrest] at R
            simp (disch := omega) only [go_sem, ↓reduceIte, Nat.reduceEqDiff, Nat.reduceAdd, Nat.reduceSub, Nat.reduceLeDiff, Nat.reduceLT, List.reduceReplicate, Nat.reduceMul, Int.reduceNeg, reduceCtorEq, *,  horariumlaw4_play_16]
            refine Ev.imp (newNext_end N R) ?_
            rintro _ h6 ⟨rfl, N6, x6⟩
            have l6 : h6.lim ≤ h6.next := N6.cur.lim_le
            have N6' := N6.grow (Ext.box (k0 := ⟨2, [[.i .i64 0, .i .i64 0]]⟩) (k := ⟨2, [[.i .i64 0, .i .i64 0]]⟩))
            simp (disch := omega) only [go_sem, ↓reduceIte, Nat.reduceEqDiff, Nat.reduceAdd, Nat.reduceSub, Nat.reduceLeDiff, Nat.reduceLT, List.reduceReplicate, Nat.reduceMul, Int.reduceNeg, reduceCtorEq, *,  horariumlaw4_play_16, horariumlaw4_play_17]
            refine Ev.imp (newTick_end N6' R) ?_
            rintro _ _ ⟨rfl, rfl⟩
            simp (disch := omega) only [go_sem, ↓reduceIte, Nat.reduceEqDiff, Nat.reduceAdd, Nat.reduceSub, Nat.reduceLeDiff, Nat.reduceLT, List.reduceReplicate, Nat.reduceMul, Int.reduceNeg, reduceCtorEq, *,  horariumlaw4_play_17, horariumlaw4_play_18, eqV, eqL, eqC, fillP]
            exact N6'.ext
          · simp (disch := omega) only [go_sem, ↓reduceIte, Nat.reduceEqDiff, Nat.reduceAdd, Nat.reduceSub, Nat.reduceLeDiff, Nat.reduceLT, List.reduceReplicate, Nat.reduceMul, Int.reduceNeg, reduceCtorEq, *,  horariumlaw4_play_19, Int.reduceEq]
            have hl := Kept.mk (lft.of (by omega))
            have hl1 := hl.of.1
            have hl2 := hl.of.2.1
            have hrest : restL f.runs i left = ⟨(nth f.runs i).part, left⟩ :: f.runs.drop (i + 1) := by unfold restL; rw [if_pos (by omega)]
            rw [hrest] at R
            have srowi := srow i (by omega)
            skip
            skip
            have hpg : partGo f.runs c.at_ = (nth f.runs i).part := by rw [hl.of.2.2]; exact partGo_at f.runs i _ (by omega) hap (by omega) (by omega)
            have hd5 := R.sum
            have hat := R.at_
            simp (disch := omega) only [go_sem, ↓reduceIte, Nat.reduceEqDiff, Nat.reduceAdd, Nat.reduceSub, Nat.reduceLeDiff, Nat.reduceLT, List.reduceReplicate, Nat.reduceMul, Int.reduceNeg, reduceCtorEq, *,  horariumlaw4_play_24]
            refine Ev.imp (Part_ev (f := f) (t := c.at_) (by rw [lim_raise, next_raise]; exact Nat.le_refl _) (SlT.raise (hS.ext xx)) hr ho hc hln (by omega)) ?_
            rintro _ h5 ⟨rfl, hx5⟩
            have x5 := hx5.back
            have N5 := N.grow x5
            have row5 := row.ext x5
            generalize hh6 : h5.back _ = h6 at x5 N5 row5 ⊢
            clear sget slt sat srow srow0 srowi
            obtain ⟨slen, sbig, slt, sget, sat, srow⟩ := row5.facts
            have srowi := srow i (by omega)
            simp (disch := omega) only [go_sem, ↓reduceIte, Nat.reduceEqDiff, Nat.reduceAdd, Nat.reduceSub, Nat.reduceLeDiff, Nat.reduceLT, List.reduceReplicate, Nat.reduceMul, Int.reduceNeg, reduceCtorEq, *,  horariumlaw4_play_24, horariumlaw4_play_26]
            refine Ev.imp (newTick N5 R) ?_
            rintro _ h7 ⟨rfl, s7, c7, N7, f7, R7, a7⟩
            have row7 := rowF row5 box f7
            have bw7 : Box h7 id s7 (idV wv) _ := Box.step ⟨sget (by omega), slt (by omega), box.1, box.2⟩ f7
            have a7k : Kept (c7.at_ = c.at_ + 1) := ⟨a7⟩
            have hatv : c.at_ + 1 = c7.at_ := a7.symm
            clear a7
            clear sget slt sat srow srowi
            obtain ⟨slen, sbig, slt, sget, sat, srow⟩ := row7.facts
            have srowi := srow i (by omega)
            have ki : ((i : Int) + 1).toNat = i + 1 := by omega
            have hca : c.at_ + 1 ≤ 4097 := by simp only [sumN] at hat hd5; omega
            have hlb : left ≤ 4096 := by
              have hq := sumN_pos (w := f.runs.drop (i + 1)) (fun q hq => hap q (List.mem_of_mem_drop hq))
              simp only [sumN] at hat; omega
            simp only at R7
            simp (disch := omega) only [go_sem, ↓reduceIte, Nat.reduceEqDiff, Nat.reduceAdd, Nat.reduceSub, Nat.reduceLeDiff, Nat.reduceLT, List.reduceReplicate, Nat.reduceMul, Int.reduceNeg, reduceCtorEq, *,  horariumlaw4_play_26, horariumlaw4_play_27, horariumlaw4_play_29, horariumlaw4_play_30]
            refine Wb_dec (fun hc5 => ?_) (fun hc5 => ?_)
            · rw [if_pos (by omega)] at R7
              simp (disch := omega) only [go_sem, ↓reduceIte, Nat.reduceEqDiff, Nat.reduceAdd, Nat.reduceSub, Nat.reduceLeDiff, Nat.reduceLT, List.reduceReplicate, Nat.reduceMul, Int.reduceNeg, reduceCtorEq, *,  horariumlaw4_play_31, horariumlaw4_play_32]
              refine Wb_dec (fun hc6 => ?_) (fun hc6 => ?_)
              · have srowi1 := srow (i + 1) (by omega)
                simp (disch := omega) only [go_sem, ↓reduceIte, Nat.reduceEqDiff, Nat.reduceAdd, Nat.reduceSub, Nat.reduceLeDiff, Nat.reduceLT, List.reduceReplicate, Nat.reduceMul, Int.reduceNeg, reduceCtorEq, *,  horariumlaw4_play_33, horariumlaw4_play_34]
                refine ih _ _ _ ?_ ⟨k + 1, i + 1, (nth f.runs (i + 1)).n, s7, c7, rfl, ?_⟩
                · omega
                · refine ⟨?_, ?_, ?_, ?_, ?_, ?_, ?_, ?_, by omega, N7, by rw [restL_start (by omega)]; exact R7, row7, ⟨bw7.ne, bw7.nes⟩, by omega, Kept.mk fun _ => ⟨AllPos.nth hap (by omega), by omega, by rw [sumN_take f.runs i (by omega), a7k.of, hl.of.2.2]; omega⟩⟩
                  all_goals (simp (disch := omega) only [go_sem, ↓reduceIte, Nat.reduceEqDiff, Nat.reduceAdd, Nat.reduceSub, Nat.reduceLeDiff, Nat.reduceLT, List.reduceReplicate, Nat.reduceMul, Int.reduceNeg, reduceCtorEq, *])
              · simp (disch := omega) only [go_sem, ↓reduceIte, Nat.reduceEqDiff, Nat.reduceAdd, Nat.reduceSub, Nat.reduceLeDiff, Nat.reduceLT, List.reduceReplicate, Nat.reduceMul, Int.reduceNeg, reduceCtorEq, *,  horariumlaw4_play_34]
                refine ih _ _ _ ?_ ⟨k + 1, i + 1, 0, s7, c7, rfl, ?_⟩
                · omega
                · refine ⟨?_, ?_, ?_, ?_, ?_, ?_, ?_, ?_, by omega, N7, by rw [restL_end (by omega)]; rw [List.drop_eq_nil_of_le (by omega)] at R7; exact R7, row7, ⟨bw7.ne, bw7.nes⟩, by omega, Kept.mk fun hx => by omega⟩
                  all_goals (simp (disch := omega) only [go_sem, ↓reduceIte, Nat.reduceEqDiff, Nat.reduceAdd, Nat.reduceSub, Nat.reduceLeDiff, Nat.reduceLT, List.reduceReplicate, Nat.reduceMul, Int.reduceNeg, reduceCtorEq, *])
            · rw [if_neg (by omega)] at R7
              simp (disch := omega) only [go_sem, ↓reduceIte, Nat.reduceEqDiff, Nat.reduceAdd, Nat.reduceSub, Nat.reduceLeDiff, Nat.reduceLT, List.reduceReplicate, Nat.reduceMul, Int.reduceNeg, reduceCtorEq, *,  horariumlaw4_play_34]
              refine ih _ _ _ ?_ ⟨k + 1, i, left - 1, s7, c7, rfl, ?_⟩
              · omega
              · refine ⟨?_, ?_, ?_, ?_, ?_, ?_, ?_, ?_, by omega, N7, by unfold restL; rw [if_pos (by omega)]; exact R7, row7, ⟨bw7.ne, bw7.nes⟩, by omega, Kept.mk fun hx => ⟨by omega, by omega, by rw [a7k.of, hl.of.2.2]; omega⟩⟩
                all_goals (simp (disch := omega) only [go_sem, ↓reduceIte, Nat.reduceEqDiff, Nat.reduceAdd, Nat.reduceSub, Nat.reduceLeDiff, Nat.reduceLT, List.reduceReplicate, Nat.reduceMul, Int.reduceNeg, reduceCtorEq, *])
      · simp (disch := omega) only [go_sem, ↓reduceIte, Nat.reduceEqDiff, Nat.reduceAdd, Nat.reduceSub, Nat.reduceLeDiff, Nat.reduceLT, List.reduceReplicate, Nat.reduceMul, Int.reduceNeg, reduceCtorEq, *,  horariumlaw4_play_36]
        refine Ev.imp (reset_ev N.cur ho hc hln) ?_
        rintro _ h4 ⟨rfl, s4, c4, f4⟩
        have N4 := N.step c4 f4
        have R4 := start_rem ho hc hln
        have row4 := rowF row box f4
        have bw4 : Box h4 id s4 (idV wv) _ := Box.step ⟨sget (by omega), slt (by omega), box.1, box.2⟩ f4
        have R4 : Rem f.flat (cur0 f.flat) (nth f.runs 0 :: f.runs.drop 1) := by
          rw [← drop_nth (by omega)]; exact R4
        simp (disch := omega) only [go_sem, ↓reduceIte, Nat.reduceEqDiff, Nat.reduceAdd, Nat.reduceSub, Nat.reduceLeDiff, Nat.reduceLT, List.reduceReplicate, Nat.reduceMul, Int.reduceNeg, reduceCtorEq, *,  horariumlaw4_play_36, horariumlaw4_play_37]
        refine Ev.imp (newNext N4 R4) ?_
        rintro _ h5 ⟨rfl, s5, c5, N5, f5, R5, a5⟩
        have l5 : h5.lim ≤ h5.next := N5.cur.lim_le
        have row5 := rowF row4 ⟨bw4.ne, bw4.nes⟩ f5
        have a5k : c5.at_ = (nth f.runs 0).n := by rw [a5]; simp [cur0]
        clear a5
        have B5 := Box.new (k0 := ⟨2, [[.i .i64 0, .i .i64 0]]⟩) (k := ⟨2, [[.i .i64 (nth f.runs 0).part, .i .i64 (nth f.runs 0).n]]⟩) N5.cur
        have N5' := N5.grow (Ext.box (k0 := ⟨2, [[.i .i64 0, .i .i64 0]]⟩) (k := ⟨2, [[.i .i64 (nth f.runs 0).part, .i .i64 (nth f.runs 0).n]]⟩))
        have row5' := row5.ext (Ext.box (k0 := ⟨2, [[.i .i64 0, .i .i64 0]]⟩) (k := ⟨2, [[.i .i64 (nth f.runs 0).part, .i .i64 (nth f.runs 0).n]]⟩))
        simp (disch := omega) only [go_sem, ↓reduceIte, Nat.reduceEqDiff, Nat.reduceAdd, Nat.reduceSub, Nat.reduceLeDiff, Nat.reduceLT, List.reduceReplicate, Nat.reduceMul, Int.reduceNeg, reduceCtorEq, *,  horariumlaw4_play_37]
        generalize hh7 : (h5.alloc ⟨2, [[.i .i64 0, .i .i64 0]]⟩).put h5.next ⟨2, [[.i .i64 (nth f.runs 0).part, .i .i64 (nth f.runs 0).n]]⟩ = h7 at B5 N5' row5' ⊢
        have g7 := B5.get
        clear sget slt sat srow srow0
        obtain ⟨slen, sbig, slt, sget, sat, srow⟩ := row5'.facts
        have srow0 := srow 0 (by omega)
        rw [Nat.add_zero] at srow0
        have k7 : h7.raise.get id = some (curB lv s5 c5) := N5'.cur.blk
        simp (disch := omega) only [go_sem, ↓reduceIte, Nat.reduceEqDiff, Nat.reduceAdd, Nat.reduceSub, Nat.reduceLeDiff, Nat.reduceLT, List.reduceReplicate, Nat.reduceMul, Int.reduceNeg, reduceCtorEq, *,  horariumlaw4_play_38]
        refine Ev.imp (curAt_evB k7) ?_
        rintro _ _ ⟨rfl, rfl⟩
        simp (disch := omega) only [go_sem, ↓reduceIte, Nat.reduceEqDiff, Nat.reduceAdd, Nat.reduceSub, Nat.reduceLeDiff, Nat.reduceLT, List.reduceReplicate, Nat.reduceMul, Int.reduceNeg, reduceCtorEq, *,  horariumlaw4_play_38, eqV, eqL, eqC]
        exact N5'.ext
    · simp (disch := omega) only [go_sem, ↓reduceIte, Nat.reduceEqDiff, Nat.reduceAdd, Nat.reduceSub, Nat.reduceLeDiff, Nat.reduceLT, List.reduceReplicate, Nat.reduceMul, Int.reduceNeg, reduceCtorEq, *]
      refine ⟨?_, ?_, ?_, ?_, ?_, ?_, ?_, ?_, by omega, N3, by rw [restL_start (by omega)]; exact start_rem ho hc hln, s3, hbx, by omega, Kept.mk fun _ => ⟨AllPos.nth hap (by omega), by omega, by simp [cur0, sumN]⟩⟩
      all_goals (simp (disch := omega) only [go_sem, ↓reduceIte, Nat.reduceEqDiff, Nat.reduceAdd, Nat.reduceSub, Nat.reduceLeDiff, Nat.reduceLT, List.reduceReplicate, Nat.reduceMul, Int.reduceNeg, reduceCtorEq, *])
      all_goals rfl
  · refine Ev.imp (new_bad hw hS hLb hr) ?_
    rintro _ h1 ⟨rfl, hx1⟩
    have n1 := hx1.next
    have l1 := hx1.lim
    simp (disch := omega) only [go_sem, ↓reduceIte, Nat.reduceEqDiff, Nat.reduceAdd, Nat.reduceSub, Nat.reduceLeDiff, Nat.reduceLT, List.reduceReplicate, Nat.reduceMul, Int.reduceNeg, reduceCtorEq, *,  horariumlaw4_play_1, horariumlaw4_play_2]
    refine Ev.imp (refRight_ev (by omega) (hS.ext hx1) hLb) ?_
    rintro _ h2 ⟨rfl, hx2⟩
    have n2 := hx2.next
    have l2 := hx2.lim
    simp (disch := omega) only [go_sem, ↓reduceIte, Nat.reduceEqDiff, Nat.reduceAdd, Nat.reduceSub, Nat.reduceLeDiff, Nat.reduceLT, List.reduceReplicate, Nat.reduceMul, Int.reduceNeg, reduceCtorEq, *,  horariumlaw4_play_2, horariumlaw4_play_3, eqV]
    refine Ev.imp (Part_bad (t := 0) (by omega) (hS.ext (hx1.trans hx2)) hLb (.inl hr)) ?_
    rintro _ h3 ⟨rfl, hx3⟩
    simp (disch := omega) only [go_sem, ↓reduceIte, Nat.reduceEqDiff, Nat.reduceAdd, Nat.reduceSub, Nat.reduceLeDiff, Nat.reduceLT, List.reduceReplicate, Nat.reduceMul, Int.reduceNeg, reduceCtorEq, *,  horariumlaw4_play_3]
    exact hx1.trans (hx2.trans hx3)
end Go.Ab.T
namespace Go.Ab.T
open Go Go.Ab
set_option linter.unusedSimpArgs false
set_option linter.unusedVariables false
set_option maxHeartbeats 4000000
set_option maxRecDepth 10000
/-- A tape laid into a box. -/
theorem tape_box {h : AH} {tv : V} {L : List Int} (hw : h.lim ≤ h.next) (hS : SlT E1 h 1 tv L) : Tape (h.alloc (tapeB tv 0)) h.next tv L 0 := by
  have x : Ext h (h.alloc (tapeB tv 0)) := (Ext.refl h).alloc _
  refine ⟨by rw [get_alloc, gsel_eq rfl]; rfl, hS.ext x, Sl.cell hS, ?_, by rw [lim_alloc]; exact hw, by rw [next_alloc]; omega, Nat.zero_le _⟩
  by_cases hv : tv = .ns
  · exact .inl hv
  · have := idV_ns_lt hS hv
    exact .inr (by omega)
theorem Upd.toExt {h h' : AH} {k0 k : Blk} (u : Upd (h.alloc k0) h.next k h') : Ext h h' := by
  have := u.next
  rw [next_alloc] at this
  exact ⟨by omega, u.lim, fun i hi => by rw [u.get i (by rw [next_alloc]; omega) (by omega), get_alloc, gsel_ne (by omega)]⟩
theorem rightB {L : List Node} : lenB L = false → rightR L ≠ 0 := by
  intro h hr
  obtain ⟨_, f, ho, hc, rfl, _, hl⟩ := (right_iff L).1 hr
  rw [lenB_flat ho hc] at h
  simp at h; omega
theorem partGo_end : ∀ (w : List Run) (t : Int), AllPos w → sumN w ≤ t → partGo w t = -1
  | [], t, _, _ => rfl
  | r :: l, t, hp, ht => by
    have hp2 : AllPos l := fun q hq => hp q (List.mem_cons_of_mem _ hq)
    have := sumN_pos hp2
    simp only [sumN] at ht
    rw [partGo, if_neg (by omega), partGo_end l _ hp2 (by omega)]
def partA (g : Fo) (t : Int) : Int := if rightR g.flat = 0 ∧ 0 ≤ t then partGo g.runs t else -1
theorem right_len {g : Fo} (ho : g.ok) (hc : g.count = 1) (hr : rightR g.flat = 0) : g.len ≤ 4096 := by
  have h1 := lenB_flat ho hc
  by_cases hb : lenB g.flat = true
  · rw [h1] at hb; simpa using hb
  · exact absurd hr (rightB (by simpa using hb))
theorem part_all {h : AH} {v : V} {g : Fo} {t : Int} (hw : h.lim ≤ h.next) (hS : SlT Node.enc h 3 v g.flat) (gb : g.flat.length < 4000000000) (ho : g.ok) (hc : g.count = 1) (ht : t ≤ 9223372036854775807) : Ev tp i_cursor_Part [v, .i .i64 t] h (fun r h' => r = .i .i64 (partA g t) ∧ Ext h h') := by
  unfold partA
  by_cases hh : rightR g.flat = 0 ∧ 0 ≤ t
  · rw [if_pos hh]
    exact Part_ev hw hS hh.1 ho hc (right_len ho hc hh.1) ⟨hh.2, ht⟩
  · rw [if_neg hh]
    exact Part_bad hw hS gb (by omega)
theorem cursorPlays_ev {h : AH} {tv sv rv : V} {T ST : List Int} {R : List Node} {deep at_ : Int} (hw : h.lim ≤ h.next) (hT : SlT E1 h 1 tv T) (hS : SlT E1 h 1 sv ST) (hR : SlT Node.enc h 3 rv R) (hRb : R.length < 4000000000) (hat : at_ ≤ 9223372036854775807) :
    Ev tp i_horariumlaw4_CursorPlays [tv, .i .i64 deep, sv, rv, .i .i64 at_] h (fun r h' => r = .b true ∧ Ext h h') := by
  have c1 := Sl.cell hT
  have c2 := Sl.cells hT
  have hd := within_bd (n := deep) (lo := 0) (hi := 4) (by omega)
  obtain ⟨d, hdd⟩ : ∃ d : Nat, within deep 0 4 = d := ⟨(within deep 0 4).toNat, by omega⟩
  refine Ev_of fn_horariumlaw4_CursorPlays (by simp [t_horariumlaw4_CursorPlays]) ?_; unfold t_horariumlaw4_CursorPlays
  simp (disch := omega) only [go_sem, ↓reduceIte, Nat.reduceEqDiff, Nat.reduceAdd, Nat.reduceSub, Nat.reduceLeDiff, Nat.reduceLT, List.reduceReplicate, Nat.reduceMul, Int.reduceNeg, reduceCtorEq, *,  horariumlaw4_CursorPlays_0, horariumlaw4_CursorPlays_1, fillP]
  have tb := tape_box hw hT
  refine Ev.imp (within_ev (by omega) (by omega) (by omega)) ?_
  rintro _ _ ⟨rfl, rfl⟩
  simp (disch := omega) only [go_sem, ↓reduceIte, Nat.reduceEqDiff, Nat.reduceAdd, Nat.reduceSub, Nat.reduceLeDiff, Nat.reduceLT, List.reduceReplicate, Nat.reduceMul, Int.reduceNeg, reduceCtorEq, *,  horariumlaw4_CursorPlays_1]
  refine Ev.imp (table_ev (parts := 4) (by omega) d _ _ (by omega) tb) ?_
  rintro l h2 ⟨g, k2, tr⟩
  have x2 : Ext h h2 := Upd.toExt tr.upd
  have n2 := x2.next
  have l2 := x2.lim
  have gl := tr.row
  have gb : g.flat.length < 4000000000 := by have := tr.big; have := tabB_le (by omega : d ≤ 10); omega
  simp (disch := omega) only [go_sem, ↓reduceIte, Nat.reduceEqDiff, Nat.reduceAdd, Nat.reduceSub, Nat.reduceLeDiff, Nat.reduceLT, List.reduceReplicate, Nat.reduceMul, Int.reduceNeg, reduceCtorEq, *,  horariumlaw4_CursorPlays_1, horariumlaw4_CursorPlays_2]
  refine Ev.imp (refLength_ev (by omega) gl gb) ?_
  rintro _ h3 ⟨rfl, x3⟩
  have n3 := x3.next
  have l3 := x3.lim
  have gl3 := gl.ext x3
  simp (disch := omega) only [go_sem, ↓reduceIte, Nat.reduceEqDiff, Nat.reduceAdd, Nat.reduceSub, Nat.reduceLeDiff, Nat.reduceLT, List.reduceReplicate, Nat.reduceMul, Int.reduceNeg, reduceCtorEq, *,  horariumlaw4_CursorPlays_2, horariumlaw4_CursorPlays_3]
  refine Ev.imp (part_all (by omega) gl3 gb tr.ok tr.one hat) ?_
  rintro _ h4 ⟨rfl, x4⟩
  have n4 := x4.next
  have l4 := x4.lim
  have gl4 := gl3.ext x4
  have X4 : Ext h h4 := x2.trans (x3.trans x4)
  clear x2 x3 x4
  by_cases hr : rightR g.flat = 0
  · obtain ⟨h128, _⟩ := (right_iff _).1 hr
    have hln := right_len tr.ok tr.one hr
    have eB : lenB g.flat = true := by rw [lenB_flat tr.ok tr.one]; simp; omega
    have eR : lenR g.flat = g.len := by rw [lenR_flat tr.ok tr.one, if_pos hln]
    have hap := Fo.runs_allpos g tr.ok
    have hsum := Fo.runs_sum g tr.ok
    simp (disch := omega) only [go_sem, ↓reduceIte, Nat.reduceEqDiff, Nat.reduceAdd, Nat.reduceSub, Nat.reduceLeDiff, Nat.reduceLT, List.reduceReplicate, Nat.reduceMul, Int.reduceNeg, reduceCtorEq, *,  horariumlaw4_CursorPlays_3, horariumlaw4_CursorPlays_4]
    refine Wg_dec (fun hc => ?_) (fun hc => ?_)
    · have e4 : partA g at_ = -1 := by unfold partA; rw [if_neg (by omega)]
      simp (disch := omega) only [go_sem, ↓reduceIte, Nat.reduceEqDiff, Nat.reduceAdd, Nat.reduceSub, Nat.reduceLeDiff, Nat.reduceLT, List.reduceReplicate, Nat.reduceMul, Int.reduceNeg, reduceCtorEq, *,  horariumlaw4_CursorPlays_4, horariumlaw4_CursorPlays_5]
      simp (disch := omega) only [go_sem, ↓reduceIte, Nat.reduceEqDiff, Nat.reduceAdd, Nat.reduceSub, Nat.reduceLeDiff, Nat.reduceLT, List.reduceReplicate, Nat.reduceMul, Int.reduceNeg, reduceCtorEq, *,  horariumlaw4_CursorPlays_9]
      refine Ev.imp (play_ev (by omega) gl4 (hS.ext X4) gb) ?_
      rintro _ k1 ⟨rfl, y1⟩
      have m1 := y1.next
      have o1 := y1.lim
      simp (disch := omega) only [go_sem, ↓reduceIte, Nat.reduceEqDiff, Nat.reduceAdd, Nat.reduceSub, Nat.reduceLeDiff, Nat.reduceLT, List.reduceReplicate, Nat.reduceMul, Int.reduceNeg, reduceCtorEq, *,  horariumlaw4_CursorPlays_9]
      refine Ev.imp (play_ev (by omega) (hR.ext (X4.trans y1)) (hS.ext (X4.trans y1)) hRb) ?_
      rintro _ k2 ⟨rfl, y2⟩
      have m2 := y2.next
      have o2 := y2.lim
      simp (disch := omega) only [go_sem, ↓reduceIte, Nat.reduceEqDiff, Nat.reduceAdd, Nat.reduceSub, Nat.reduceLeDiff, Nat.reduceLT, List.reduceReplicate, Nat.reduceMul, Int.reduceNeg, reduceCtorEq, *,  horariumlaw4_CursorPlays_9]
      refine Ev.imp (known4_ev (by omega)) ?_
      rintro _ k3 ⟨rfl, y3⟩
      simp (disch := omega) only [go_sem, ↓reduceIte, Nat.reduceEqDiff, Nat.reduceAdd, Nat.reduceSub, Nat.reduceLeDiff, Nat.reduceLT, List.reduceReplicate, Nat.reduceMul, Int.reduceNeg, reduceCtorEq, *,  horariumlaw4_CursorPlays_9]
      exact X4.trans (y1.trans (y2.trans y3))
    · simp (disch := omega) only [go_sem, ↓reduceIte, Nat.reduceEqDiff, Nat.reduceAdd, Nat.reduceSub, Nat.reduceLeDiff, Nat.reduceLT, List.reduceReplicate, Nat.reduceMul, Int.reduceNeg, reduceCtorEq, *,  horariumlaw4_CursorPlays_4]
      refine Wg_dec (fun hc2 => ?_) (fun hc2 => ?_)
      · have e4 : partA g at_ = -1 := by unfold partA; rw [if_pos ⟨hr, by omega⟩, partGo_end _ _ hap (by omega)]
        simp (disch := omega) only [go_sem, ↓reduceIte, Nat.reduceEqDiff, Nat.reduceAdd, Nat.reduceSub, Nat.reduceLeDiff, Nat.reduceLT, List.reduceReplicate, Nat.reduceMul, Int.reduceNeg, reduceCtorEq, *,  horariumlaw4_CursorPlays_4, horariumlaw4_CursorPlays_5]
        simp (disch := omega) only [go_sem, ↓reduceIte, Nat.reduceEqDiff, Nat.reduceAdd, Nat.reduceSub, Nat.reduceLeDiff, Nat.reduceLT, List.reduceReplicate, Nat.reduceMul, Int.reduceNeg, reduceCtorEq, *,  horariumlaw4_CursorPlays_9]
        refine Ev.imp (play_ev (by omega) gl4 (hS.ext X4) gb) ?_
        rintro _ k1 ⟨rfl, y1⟩
        have m1 := y1.next
        have o1 := y1.lim
        simp (disch := omega) only [go_sem, ↓reduceIte, Nat.reduceEqDiff, Nat.reduceAdd, Nat.reduceSub, Nat.reduceLeDiff, Nat.reduceLT, List.reduceReplicate, Nat.reduceMul, Int.reduceNeg, reduceCtorEq, *,  horariumlaw4_CursorPlays_9]
        refine Ev.imp (play_ev (by omega) (hR.ext (X4.trans y1)) (hS.ext (X4.trans y1)) hRb) ?_
        rintro _ k2 ⟨rfl, y2⟩
        have m2 := y2.next
        have o2 := y2.lim
        simp (disch := omega) only [go_sem, ↓reduceIte, Nat.reduceEqDiff, Nat.reduceAdd, Nat.reduceSub, Nat.reduceLeDiff, Nat.reduceLT, List.reduceReplicate, Nat.reduceMul, Int.reduceNeg, reduceCtorEq, *,  horariumlaw4_CursorPlays_9]
        refine Ev.imp (known4_ev (by omega)) ?_
        rintro _ k3 ⟨rfl, y3⟩
        simp (disch := omega) only [go_sem, ↓reduceIte, Nat.reduceEqDiff, Nat.reduceAdd, Nat.reduceSub, Nat.reduceLeDiff, Nat.reduceLT, List.reduceReplicate, Nat.reduceMul, Int.reduceNeg, reduceCtorEq, *,  horariumlaw4_CursorPlays_9]
        exact X4.trans (y1.trans (y2.trans y3))
      · simp (disch := omega) only [go_sem, ↓reduceIte, Nat.reduceEqDiff, Nat.reduceAdd, Nat.reduceSub, Nat.reduceLeDiff, Nat.reduceLT, List.reduceReplicate, Nat.reduceMul, Int.reduceNeg, reduceCtorEq, *,  horariumlaw4_CursorPlays_4]
        refine Ev.imp (refRight_ev (by omega) gl4 gb) ?_
        rintro _ h5 ⟨rfl, x5⟩
        have n5 := x5.next
        have l5 := x5.lim
        have gl5 := gl4.ext x5
        have e4 : partA g at_ = partGo g.runs at_ := by unfold partA; rw [if_pos ⟨hr, by omega⟩]
        simp (disch := omega) only [go_sem, ↓reduceIte, Nat.reduceEqDiff, Nat.reduceAdd, Nat.reduceSub, Nat.reduceLeDiff, Nat.reduceLT, List.reduceReplicate, Nat.reduceMul, Int.reduceNeg, reduceCtorEq, *,  horariumlaw4_CursorPlays_4, horariumlaw4_CursorPlays_7]
        refine Ev.imp (law4leaves_ev (by omega) gl5 hr tr.ok tr.one hln) ?_
        rintro w h6 ⟨s6, o6, x6⟩
        have n6 := x6.next
        have l6 := x6.lim
        simp (disch := omega) only [go_sem, ↓reduceIte, Nat.reduceEqDiff, Nat.reduceAdd, Nat.reduceSub, Nat.reduceLeDiff, Nat.reduceLT, List.reduceReplicate, Nat.reduceMul, Int.reduceNeg, reduceCtorEq, *,  horariumlaw4_CursorPlays_7]
        refine Ev.imp (refAt_ev (by omega) s6 (by omega) (fun i hi => AllPos.nth hap hi)) ?_
        rintro _ h7 ⟨rfl, x7⟩
        have n7 := x7.next
        have l7 := x7.lim
        have gl7 := (gl5.ext x6).ext x7
        have X7 : Ext h h7 := X4.trans (x5.trans (x6.trans x7))
        simp (disch := omega) only [go_sem, ↓reduceIte, Nat.reduceEqDiff, Nat.reduceAdd, Nat.reduceSub, Nat.reduceLeDiff, Nat.reduceLT, List.reduceReplicate, Nat.reduceMul, Int.reduceNeg, reduceCtorEq, *,  horariumlaw4_CursorPlays_7]
        simp (disch := omega) only [go_sem, ↓reduceIte, Nat.reduceEqDiff, Nat.reduceAdd, Nat.reduceSub, Nat.reduceLeDiff, Nat.reduceLT, List.reduceReplicate, Nat.reduceMul, Int.reduceNeg, reduceCtorEq, *,  horariumlaw4_CursorPlays_9]
        refine Ev.imp (play_ev (by omega) gl7 (hS.ext X7) gb) ?_
        rintro _ k1 ⟨rfl, y1⟩
        have m1 := y1.next
        have o1 := y1.lim
        simp (disch := omega) only [go_sem, ↓reduceIte, Nat.reduceEqDiff, Nat.reduceAdd, Nat.reduceSub, Nat.reduceLeDiff, Nat.reduceLT, List.reduceReplicate, Nat.reduceMul, Int.reduceNeg, reduceCtorEq, *,  horariumlaw4_CursorPlays_9]
        refine Ev.imp (play_ev (by omega) (hR.ext (X7.trans y1)) (hS.ext (X7.trans y1)) hRb) ?_
        rintro _ k2 ⟨rfl, y2⟩
        have m2 := y2.next
        have o2 := y2.lim
        simp (disch := omega) only [go_sem, ↓reduceIte, Nat.reduceEqDiff, Nat.reduceAdd, Nat.reduceSub, Nat.reduceLeDiff, Nat.reduceLT, List.reduceReplicate, Nat.reduceMul, Int.reduceNeg, reduceCtorEq, *,  horariumlaw4_CursorPlays_9]
        refine Ev.imp (known4_ev (by omega)) ?_
        rintro _ k3 ⟨rfl, y3⟩
        simp (disch := omega) only [go_sem, ↓reduceIte, Nat.reduceEqDiff, Nat.reduceAdd, Nat.reduceSub, Nat.reduceLeDiff, Nat.reduceLT, List.reduceReplicate, Nat.reduceMul, Int.reduceNeg, reduceCtorEq, *,  horariumlaw4_CursorPlays_9]
        exact X7.trans (y1.trans (y2.trans y3))
  · have e4 : partA g at_ = -1 := by unfold partA; rw [if_neg (fun hh => hr hh.1)]
    simp (disch := omega) only [go_sem, ↓reduceIte, Nat.reduceEqDiff, Nat.reduceAdd, Nat.reduceSub, Nat.reduceLeDiff, Nat.reduceLT, List.reduceReplicate, Nat.reduceMul, Int.reduceNeg, reduceCtorEq, *,  horariumlaw4_CursorPlays_3, horariumlaw4_CursorPlays_4]
    cases eB : lenB g.flat with
    | false =>
      simp (disch := omega) only [go_sem, ↓reduceIte, Nat.reduceEqDiff, Nat.reduceAdd, Nat.reduceSub, Nat.reduceLeDiff, Nat.reduceLT, List.reduceReplicate, Nat.reduceMul, Int.reduceNeg, reduceCtorEq, *,  horariumlaw4_CursorPlays_4, horariumlaw4_CursorPlays_5]
      simp (disch := omega) only [go_sem, ↓reduceIte, Nat.reduceEqDiff, Nat.reduceAdd, Nat.reduceSub, Nat.reduceLeDiff, Nat.reduceLT, List.reduceReplicate, Nat.reduceMul, Int.reduceNeg, reduceCtorEq, *,  horariumlaw4_CursorPlays_9]
      refine Ev.imp (play_ev (by omega) gl4 (hS.ext X4) gb) ?_
      rintro _ k1 ⟨rfl, y1⟩
      have m1 := y1.next
      have o1 := y1.lim
      simp (disch := omega) only [go_sem, ↓reduceIte, Nat.reduceEqDiff, Nat.reduceAdd, Nat.reduceSub, Nat.reduceLeDiff, Nat.reduceLT, List.reduceReplicate, Nat.reduceMul, Int.reduceNeg, reduceCtorEq, *,  horariumlaw4_CursorPlays_9]
      refine Ev.imp (play_ev (by omega) (hR.ext (X4.trans y1)) (hS.ext (X4.trans y1)) hRb) ?_
      rintro _ k2 ⟨rfl, y2⟩
      have m2 := y2.next
      have o2 := y2.lim
      simp (disch := omega) only [go_sem, ↓reduceIte, Nat.reduceEqDiff, Nat.reduceAdd, Nat.reduceSub, Nat.reduceLeDiff, Nat.reduceLT, List.reduceReplicate, Nat.reduceMul, Int.reduceNeg, reduceCtorEq, *,  horariumlaw4_CursorPlays_9]
      refine Ev.imp (known4_ev (by omega)) ?_
      rintro _ k3 ⟨rfl, y3⟩
      simp (disch := omega) only [go_sem, ↓reduceIte, Nat.reduceEqDiff, Nat.reduceAdd, Nat.reduceSub, Nat.reduceLeDiff, Nat.reduceLT, List.reduceReplicate, Nat.reduceMul, Int.reduceNeg, reduceCtorEq, *,  horariumlaw4_CursorPlays_9]
      exact X4.trans (y1.trans (y2.trans y3))
    | true =>
      simp (disch := omega) only [go_sem, ↓reduceIte, Nat.reduceEqDiff, Nat.reduceAdd, Nat.reduceSub, Nat.reduceLeDiff, Nat.reduceLT, List.reduceReplicate, Nat.reduceMul, Int.reduceNeg, reduceCtorEq, *,  horariumlaw4_CursorPlays_4]
      refine Wg_dec (fun hc => ?_) (fun hc => ?_)
      · simp (disch := omega) only [go_sem, ↓reduceIte, Nat.reduceEqDiff, Nat.reduceAdd, Nat.reduceSub, Nat.reduceLeDiff, Nat.reduceLT, List.reduceReplicate, Nat.reduceMul, Int.reduceNeg, reduceCtorEq, *,  horariumlaw4_CursorPlays_4, horariumlaw4_CursorPlays_5]
        simp (disch := omega) only [go_sem, ↓reduceIte, Nat.reduceEqDiff, Nat.reduceAdd, Nat.reduceSub, Nat.reduceLeDiff, Nat.reduceLT, List.reduceReplicate, Nat.reduceMul, Int.reduceNeg, reduceCtorEq, *,  horariumlaw4_CursorPlays_9]
        refine Ev.imp (play_ev (by omega) gl4 (hS.ext X4) gb) ?_
        rintro _ k1 ⟨rfl, y1⟩
        have m1 := y1.next
        have o1 := y1.lim
        simp (disch := omega) only [go_sem, ↓reduceIte, Nat.reduceEqDiff, Nat.reduceAdd, Nat.reduceSub, Nat.reduceLeDiff, Nat.reduceLT, List.reduceReplicate, Nat.reduceMul, Int.reduceNeg, reduceCtorEq, *,  horariumlaw4_CursorPlays_9]
        refine Ev.imp (play_ev (by omega) (hR.ext (X4.trans y1)) (hS.ext (X4.trans y1)) hRb) ?_
        rintro _ k2 ⟨rfl, y2⟩
        have m2 := y2.next
        have o2 := y2.lim
        simp (disch := omega) only [go_sem, ↓reduceIte, Nat.reduceEqDiff, Nat.reduceAdd, Nat.reduceSub, Nat.reduceLeDiff, Nat.reduceLT, List.reduceReplicate, Nat.reduceMul, Int.reduceNeg, reduceCtorEq, *,  horariumlaw4_CursorPlays_9]
        refine Ev.imp (known4_ev (by omega)) ?_
        rintro _ k3 ⟨rfl, y3⟩
        simp (disch := omega) only [go_sem, ↓reduceIte, Nat.reduceEqDiff, Nat.reduceAdd, Nat.reduceSub, Nat.reduceLeDiff, Nat.reduceLT, List.reduceReplicate, Nat.reduceMul, Int.reduceNeg, reduceCtorEq, *,  horariumlaw4_CursorPlays_9]
        exact X4.trans (y1.trans (y2.trans y3))
      · simp (disch := omega) only [go_sem, ↓reduceIte, Nat.reduceEqDiff, Nat.reduceAdd, Nat.reduceSub, Nat.reduceLeDiff, Nat.reduceLT, List.reduceReplicate, Nat.reduceMul, Int.reduceNeg, reduceCtorEq, *,  horariumlaw4_CursorPlays_4]
        refine Wg_dec (fun hc2 => ?_) (fun hc2 => ?_)
        · simp (disch := omega) only [go_sem, ↓reduceIte, Nat.reduceEqDiff, Nat.reduceAdd, Nat.reduceSub, Nat.reduceLeDiff, Nat.reduceLT, List.reduceReplicate, Nat.reduceMul, Int.reduceNeg, reduceCtorEq, *,  horariumlaw4_CursorPlays_4, horariumlaw4_CursorPlays_5]
          simp (disch := omega) only [go_sem, ↓reduceIte, Nat.reduceEqDiff, Nat.reduceAdd, Nat.reduceSub, Nat.reduceLeDiff, Nat.reduceLT, List.reduceReplicate, Nat.reduceMul, Int.reduceNeg, reduceCtorEq, *,  horariumlaw4_CursorPlays_9]
          refine Ev.imp (play_ev (by omega) gl4 (hS.ext X4) gb) ?_
          rintro _ k1 ⟨rfl, y1⟩
          have m1 := y1.next
          have o1 := y1.lim
          simp (disch := omega) only [go_sem, ↓reduceIte, Nat.reduceEqDiff, Nat.reduceAdd, Nat.reduceSub, Nat.reduceLeDiff, Nat.reduceLT, List.reduceReplicate, Nat.reduceMul, Int.reduceNeg, reduceCtorEq, *,  horariumlaw4_CursorPlays_9]
          refine Ev.imp (play_ev (by omega) (hR.ext (X4.trans y1)) (hS.ext (X4.trans y1)) hRb) ?_
          rintro _ k2 ⟨rfl, y2⟩
          have m2 := y2.next
          have o2 := y2.lim
          simp (disch := omega) only [go_sem, ↓reduceIte, Nat.reduceEqDiff, Nat.reduceAdd, Nat.reduceSub, Nat.reduceLeDiff, Nat.reduceLT, List.reduceReplicate, Nat.reduceMul, Int.reduceNeg, reduceCtorEq, *,  horariumlaw4_CursorPlays_9]
          refine Ev.imp (known4_ev (by omega)) ?_
          rintro _ k3 ⟨rfl, y3⟩
          simp (disch := omega) only [go_sem, ↓reduceIte, Nat.reduceEqDiff, Nat.reduceAdd, Nat.reduceSub, Nat.reduceLeDiff, Nat.reduceLT, List.reduceReplicate, Nat.reduceMul, Int.reduceNeg, reduceCtorEq, *,  horariumlaw4_CursorPlays_9]
          exact X4.trans (y1.trans (y2.trans y3))
        · simp (disch := omega) only [go_sem, ↓reduceIte, Nat.reduceEqDiff, Nat.reduceAdd, Nat.reduceSub, Nat.reduceLeDiff, Nat.reduceLT, List.reduceReplicate, Nat.reduceMul, Int.reduceNeg, reduceCtorEq, *,  horariumlaw4_CursorPlays_4]
          refine Ev.imp (refRight_ev (by omega) gl4 gb) ?_
          rintro _ h5 ⟨rfl, x5⟩
          have n5 := x5.next
          have l5 := x5.lim
          have gl5 := gl4.ext x5
          have X5 : Ext h h5 := X4.trans x5
          simp (disch := omega) only [go_sem, ↓reduceIte, Nat.reduceEqDiff, Nat.reduceAdd, Nat.reduceSub, Nat.reduceLeDiff, Nat.reduceLT, List.reduceReplicate, Nat.reduceMul, Int.reduceNeg, reduceCtorEq, *,  horariumlaw4_CursorPlays_4, horariumlaw4_CursorPlays_5]
          simp (disch := omega) only [go_sem, ↓reduceIte, Nat.reduceEqDiff, Nat.reduceAdd, Nat.reduceSub, Nat.reduceLeDiff, Nat.reduceLT, List.reduceReplicate, Nat.reduceMul, Int.reduceNeg, reduceCtorEq, *,  horariumlaw4_CursorPlays_9]
          refine Ev.imp (play_ev (by omega) gl5 (hS.ext X5) gb) ?_
          rintro _ k1 ⟨rfl, y1⟩
          have m1 := y1.next
          have o1 := y1.lim
          simp (disch := omega) only [go_sem, ↓reduceIte, Nat.reduceEqDiff, Nat.reduceAdd, Nat.reduceSub, Nat.reduceLeDiff, Nat.reduceLT, List.reduceReplicate, Nat.reduceMul, Int.reduceNeg, reduceCtorEq, *,  horariumlaw4_CursorPlays_9]
          refine Ev.imp (play_ev (by omega) (hR.ext (X5.trans y1)) (hS.ext (X5.trans y1)) hRb) ?_
          rintro _ k2 ⟨rfl, y2⟩
          have m2 := y2.next
          have o2 := y2.lim
          simp (disch := omega) only [go_sem, ↓reduceIte, Nat.reduceEqDiff, Nat.reduceAdd, Nat.reduceSub, Nat.reduceLeDiff, Nat.reduceLT, List.reduceReplicate, Nat.reduceMul, Int.reduceNeg, reduceCtorEq, *,  horariumlaw4_CursorPlays_9]
          refine Ev.imp (known4_ev (by omega)) ?_
          rintro _ k3 ⟨rfl, y3⟩
          simp (disch := omega) only [go_sem, ↓reduceIte, Nat.reduceEqDiff, Nat.reduceAdd, Nat.reduceSub, Nat.reduceLeDiff, Nat.reduceLT, List.reduceReplicate, Nat.reduceMul, Int.reduceNeg, reduceCtorEq, *,  horariumlaw4_CursorPlays_9]
          exact X5.trans (y1.trans (y2.trans y3))
end Go.Ab.T
namespace Go.Ab.T
open Go Go.Ab
set_option linter.unusedSimpArgs false
set_option linter.unusedVariables false
section
variable {H : Type}
/-- A slice that holds data of a shape is a slice of things. -/
theorem dv_slice {α : Type} {en : α → List V} {h : AH} {e : Sh} {d : DataW H} {x : V} (hd : DV h (.sl e) d [x]) (hp : ∀ (y : DataW H) (r : List V), DV h e y r → ∃ a, r = en a) :
    ∃ L : List α, SlT en h e.size x L ∧ (d = .nil ∧ L = [] ∨ ∃ elems spare, d = .slice elems spare ∧ L.length = elems.length) := by
  simp only [DV] at hd
  rcases hd with ⟨rfl, h1⟩ | ⟨elems, spare, id, rows, rfl, h1, h2, h3, h4, h5, h6⟩
  · cases h1
    exact ⟨[], Sl.nil _ _, .inl ⟨rfl, rfl⟩⟩
  · cases h1
    have : ∀ (n : Nat) (rows : List (List V)), rows.length = n → (∀ r ∈ rows, ∃ a, r = en a) → ∃ L : List α, L.length = n ∧ rows = L.map en := by
      intro n rows
      induction rows generalizing n with
      | nil => intro hl _; exact ⟨[], by simpa using hl, rfl⟩
      | cons r rows ih =>
        intro hl hr
        obtain ⟨a, rfl⟩ := hr r (List.mem_cons_self ..)
        obtain ⟨L, hL, rfl⟩ := ih (n - 1) (by simp at hl; omega) (fun q hq => hr q (List.mem_cons_of_mem _ hq))
        exact ⟨a :: L, by simp at hl ⊢; omega, rfl⟩
    obtain ⟨L, hL, rfl⟩ := this elems.length rows h4 (fun r hr => by
      obtain ⟨j, hj, rfl⟩ := List.getElem_of_mem hr
      exact hp elems[j] _ (h6 j _ _ (by simp [show j < elems.length by omega]) (by simp [hj])))
    refine ⟨L, .inr ⟨id, 0, L.length, ⟨e.size, L.map en⟩, by simp [hL], h2, rfl, by simp, by simp [List.take_of_length_le], by simp, h3, by simpa [hL] using h5⟩, .inr ⟨elems, spare, rfl, hL⟩⟩
theorem dv_ints {h : AH} {d : DataW H} {x : V} (hd : DV h (.sl (.i .i64)) d [x]) : ∃ L : List Int, SlT E1 h 1 x L ∧ (d = .nil ∧ L = [] ∨ ∃ elems spare, d = .slice elems spare ∧ L.length = elems.length) :=
  dv_slice hd (fun y r hy => by obtain ⟨n, _, _, rfl⟩ := hy; exact ⟨n, rfl⟩)
def shNode : Sh := .agg (.cons (.i .i64) (.cons (.i .i64) (.cons (.i .i64) .nil)))
theorem dv_nodes {h : AH} {d : DataW H} {x : V} (hd : DV h (.sl shNode) d [x]) : ∃ L : List Node, SlT Node.enc h 3 x L ∧ (d = .nil ∧ L = [] ∨ ∃ elems spare, d = .slice elems spare ∧ L.length = elems.length) :=
  dv_slice hd (fun y r hy => by
    simp only [shNode, DV, DVs] at hy
    obtain ⟨_, _, _, _, v1, v2, _, rfl, ⟨a, _, _, rfl⟩, _, _, v3, v4, _, rfl, ⟨b, _, _, rfl⟩, _, _, v5, v6, _, rfl, ⟨c, _, _, rfl⟩, _, rfl⟩ := hy
    exact ⟨⟨a, b, c⟩, rfl⟩)
end
end Go.Ab.T
