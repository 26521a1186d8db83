/- Part of the proof that RunsTables returns true for every input of the second form's bound (no other condition). -/
import Derived.Test.YtemddmfgjijcmaaSI
import Derived.Test.YtemddmfgjijcmaaAbE
import Derived.Test.YtemddmfgjijcmaaSG
import Derived.Test.YtemddmfgjijcmaaSH
set_option linter.all false
namespace Go.Ab.T
open Go Go.Ab
set_option linter.unusedSimpArgs false
set_option linter.unusedVariables false
set_option maxHeartbeats 4000000
set_option maxRecDepth 10000
theorem nth_cons {α : Type} [Inhabited α] {a : α} {l : List α} {i : Nat} : nth (a :: l) (i + 1) = nth l i := by simp [nth]
def AllPos (w : List Run) : Prop := ∀ r ∈ w, 1 ≤ r.n
theorem AllPos.nth {w : List Run} (h : AllPos w) {i : Nat} (hi : i < w.length) : 1 ≤ (nth w i).n := by
  rw [nth_eq hi]; exact h _ (List.getElem_mem _)
theorem Fo.runs_allpos : ∀ (f : Fo), f.ok → AllPos f.runs
  | .nil, _ => by intro r hr; cases hr
  | .leaf x r, ho => by
    intro q hq
    rcases List.mem_cons.1 hq with rfl | hq
    · exact kids_n (by rw [ho.1]; omega)
    · exact Fo.runs_allpos r ho.2 q hq
  | .seq x k r, ho => by
    intro q hq
    rcases List.mem_append.1 hq with hq | hq
    · exact Fo.runs_allpos k ho.2.2.2.1 q hq
    · exact Fo.runs_allpos r ho.2.2.2.2 q hq
  | .rep x k r, ho => by
    intro q hq
    rcases List.mem_append.1 hq with hq | hq
    · obtain ⟨l, hl, hq⟩ := List.mem_flatten.1 hq
      rw [List.eq_of_mem_replicate hl] at hq
      exact Fo.runs_allpos k ho.2.2.2.1 q hq
    · exact Fo.runs_allpos r ho.2.2.2.2 q hq
theorem sumN_pos : ∀ {w : List Run}, AllPos w → 0 ≤ sumN w
  | [], _ => by simp [sumN]
  | r :: l, h => by
    have := sumN_pos (w := l) (fun q hq => h q (List.mem_cons_of_mem _ hq))
    have := h r (List.mem_cons_self ..)
    simp only [sumN]; omega
theorem partGo_at : ∀ (w : List Run) (i : Nat) (d : Int), i < w.length → AllPos w → 0 ≤ d → d < (nth w i).n → partGo w (sumN (w.take i) + d) = (nth w i).part
  | [], i, d, hi, _, _, _ => by simp at hi
  | r :: l, 0, d, hi, hp, h0, h1 => by
    simp only [nth_cons0] at h1 ⊢
    simp only [List.take_zero, sumN, partGo, Int.zero_add]
    rw [if_pos h1]
  | r :: l, i + 1, d, hi, hp, h0, h1 => by
    rw [nth_cons] at h1 ⊢
    have hp2 : AllPos l := fun q hq => hp q (List.mem_cons_of_mem _ hq)
    have hs : 0 ≤ sumN (l.take i) := sumN_pos (fun q hq => hp2 q (List.mem_of_mem_take hq))
    simp only [List.take_succ_cons, sumN, partGo]
    rw [if_neg (by omega), show r.n + sumN (l.take i) + d - r.n = sumN (l.take i) + d by omega]
    exact partGo_at l i d (by simpa using hi) hp2 h0 h1
theorem sumN_take : ∀ (w : List Run) (i : Nat), i < w.length → sumN (w.take (i + 1)) = sumN (w.take i) + (nth w i).n
  | [], i, hi => by simp at hi
  | r :: l, 0, hi => by simp [sumN, nth]
  | r :: l, i + 1, hi => by
    rw [nth_cons, List.take_succ_cons, List.take_succ_cons, sumN, sumN, sumN_take l i (by simpa using hi)]; omega
theorem sumN_take_le (w : List Run) (i : Nat) (h : AllPos w) : sumN (w.take i) ≤ sumN w := by
  have h1 := congrArg sumN (List.take_append_drop i w)
  rw [sumN_app] at h1
  have := sumN_pos (w := w.drop i) (fun q hq => h q (List.mem_of_mem_drop hq))
  omega
theorem rowF {α : Type} {enc : α → List V} {h h' : AH} {id sz : Nat} {sv sv' wv : V} {R : List α} (s : SlT enc h sz wv R) (b : idV wv ≠ id ∧ (sv = .ns ∨ idV wv ≠ idV sv)) (f : CurF h id sv h' sv') : SlT enc h' sz wv R :=
  Sl.same s f.next (fun _ hl => f.get _ hl b.1 b.2)
/-- What is left of the runs. -/
def restL (w : List Run) (i : Nat) (left : Int) : List Run := if i < w.length then ⟨(nth w i).part, left⟩ :: w.drop (i + 1) else []
theorem restL_start {w : List Run} {i : Nat} (h : i < w.length) : restL w i (nth w i).n = w.drop i := by
  unfold restL; rw [if_pos h, drop_nth h]
theorem restL_end {w : List Run} {i : Nat} {a : Int} (h : w.length ≤ i) : restL w i a = [] := by
  unfold restL; rw [if_neg (by omega)]
theorem SlT.raise {α : Type} {enc : α → List V} {h : AH} {sz : Nat} {v : V} {L : List α} (s : SlT enc h sz v L) : SlT enc h.raise sz v L := Sl.same s (Nat.le_refl _) (fun _ _ => rfl)
structure Kept (p : Prop) : Prop where
  of : p
structure PlayJ (h : AH) (v sv0 : V) (id : Nat) (lv wv : V) (f : Fo) (ST : List Int) (k i : Nat) (left : Int) (sv : V) (c : Cs) (e : Env) (h' : AH) : Prop where
  e0 : e 0 = v
  e1 : e 1 = sv0
  e5 : e 5 = .p id 0 0
  e6 : e 6 = wv
  e7 : e 7 = .i .i64 c.at_
  e8 : e 8 = .i .i64 i
  e9 : e 9 = .i .i64 left
  e10 : e 10 = .i .i64 k
  k400 : k ≤ 400
  new : NewC h h' f.flat id lv sv c
  rem : Rem f.flat c (restL f.runs i left)
  row : SlT Run.enc h' 2 wv f.runs
  box : idV wv ≠ id ∧ (sv = .ns ∨ idV wv ≠ idV sv)
  ile : i ≤ f.runs.length
  lft : Kept (i < f.runs.length → 1 ≤ left ∧ left ≤ (nth f.runs i).n ∧ c.at_ = sumN (f.runs.take i) + ((nth f.runs i).n - left))
theorem play_ev {h : AH} {v sv0 : V} {L : List Node} {ST : List Int} (hw : h.lim ≤ h.next) (hS : SlT Node.enc h 3 v L) (hT : SlT E1 h 1 sv0 ST) (hLb : L.length < 4000000000) : Ev tp i_horariumlaw4_play [v, sv0] h (fun r h' => r = .b true ∧ Ext h h') := by
  refine Ev_of fn_horariumlaw4_play (by simp [t_horariumlaw4_play]) ?_; unfold t_horariumlaw4_play
  simp (disch := omega) only [go_sem, ↓reduceIte, Nat.reduceEqDiff, Nat.reduceAdd, Nat.reduceSub, Nat.reduceLeDiff, Nat.reduceLT, List.reduceReplicate, Nat.reduceMul, Int.reduceNeg, reduceCtorEq, *,  horariumlaw4_play_0, horariumlaw4_play_1]
  by_cases hr : rightR L = 0
  · obtain ⟨h128, f, ho, hc, rfl, hdp, hln⟩ := (right_iff L).1 hr
    refine Ev.imp (new_good hw hS hLb hr) ?_
    rintro _ h1 ⟨id, lv, sv, rfl, N1⟩
    have x1 := N1.ext
    have n1 := x1.next
    have l1 := x1.lim
    simp (disch := omega) only [go_sem, ↓reduceIte, Nat.reduceEqDiff, Nat.reduceAdd, Nat.reduceSub, Nat.reduceLeDiff, Nat.reduceLT, List.reduceReplicate, Nat.reduceMul, Int.reduceNeg, reduceCtorEq, *,  horariumlaw4_play_1, horariumlaw4_play_2]
    refine Ev.imp (refRight_ev (by omega) (hS.ext x1) hLb) ?_
    rintro _ h2 ⟨rfl, hx2⟩
    have n2 := hx2.next
    have l2 := hx2.lim
    have N2 := N1.grow hx2
    simp (disch := omega) only [go_sem, ↓reduceIte, Nat.reduceEqDiff, Nat.reduceAdd, Nat.reduceSub, Nat.reduceLeDiff, Nat.reduceLT, List.reduceReplicate, Nat.reduceMul, Int.reduceNeg, reduceCtorEq, *,  horariumlaw4_play_2, horariumlaw4_play_4, horariumlaw4_play_6, eqV, Bool.false_eq_true]
    refine Ev.imp (law4leaves_ev (by omega) (hS.ext (x1.trans hx2)) hr ho hc hln) ?_
    rintro wv h3 ⟨s3, o3, hx3⟩
    have N3 := N2.grow hx3
    have hrp := Fo.runs_pos f ho (by omega)
    have hap := Fo.runs_allpos f ho
    have hsum := Fo.runs_sum f ho
    have hrl := Fo.runs_len f ho
    obtain ⟨slen, sbig, slt, sget, sat, srow⟩ := s3.facts
    have srow0 := srow 0 (by omega)
    rw [Nat.add_zero] at srow0
    have z0 : Int.toNat 0 = 0 := rfl
    have hwn : wv ≠ .ns := by
      rintro rfl
      simp [lenV] at slen; omega
    have how : h2.next ≤ idV wv := by
      rcases o3 with h4 | h4
      · exact absurd h4 hwn
      · exact h4
    have hbx : idV wv ≠ id ∧ (sv = .ns ∨ idV wv ≠ idV sv) := by
      refine ⟨by have := N2.cur.hi; omega, ?_⟩
      have := N2.cur.svlt
      exact this.imp (fun x => x) (fun x => by omega)
    simp (disch := omega) only [go_sem, ↓reduceIte, Nat.reduceEqDiff, Nat.reduceAdd, Nat.reduceSub, Nat.reduceLeDiff, Nat.reduceLT, List.reduceReplicate, Nat.reduceMul, Int.reduceNeg, reduceCtorEq, *,  horariumlaw4_play_6, horariumlaw4_play_7, horariumlaw4_play_8]
    refine WC_loop_n (fun n e h' => ∃ (k i : Nat) (left : Int) (sv' : V) (c : Cs), n = 400 - k ∧ PlayJ h v sv0 id lv wv f ST k i left sv' c e h') ?_ _ _ _ ⟨0, 0, (nth f.runs 0).n, sv, cur0 f.flat, rfl, ?_⟩
    · rintro n e h' ⟨k, i, left, sv', c, rfl, ⟨e0, e1, e5, e6, e7, e8, e9, e10, k400, N, R, row, box, ile, lft⟩⟩ ih
      have xx := N.ext
      have nn := xx.next
      have ll := xx.lim
      have lm := N.cur.lim_le
      obtain ⟨slen, sbig, slt, sget, sat, srow⟩ := row.facts
      have srow0 := srow 0 (by omega)
      rw [Nat.add_zero] at srow0
      have hat := R.at_
      rw [horariumlaw4_play_35_go]
      simp (disch := omega) only [go_sem, ↓reduceIte, Nat.reduceEqDiff, Nat.reduceAdd, Nat.reduceSub, Nat.reduceLeDiff, Nat.reduceLT, List.reduceReplicate, Nat.reduceMul, Int.reduceNeg, reduceCtorEq, *,  horariumlaw4_play_9]
      refine Wb_dec (fun hc1 => ?_) (fun hc1 => ?_)
      · simp (disch := omega) only [go_sem, ↓reduceIte, Nat.reduceEqDiff, Nat.reduceAdd, Nat.reduceSub, Nat.reduceLeDiff, Nat.reduceLT, List.reduceReplicate, Nat.reduceMul, Int.reduceNeg, reduceCtorEq, *,  horariumlaw4_play_10]
        refine Ev.imp (curAt_ev N.cur) ?_
        rintro _ h' ⟨rfl, rfl⟩
        obtain ⟨tlen, tbig, tlt, tget, tat, trow⟩ := (hT.ext xx).facts
        simp (disch := omega) only [go_sem, ↓reduceIte, Nat.reduceEqDiff, Nat.reduceAdd, Nat.reduceSub, Nat.reduceLeDiff, Nat.reduceLT, List.reduceReplicate, Nat.reduceMul, Int.reduceNeg, reduceCtorEq, *,  horariumlaw4_play_10, horariumlaw4_play_12, horariumlaw4_play_13]
        refine Wb_dec (fun hc2 => ?_) (fun hc2 => ?_)
        · simp (disch := omega) only [go_sem, ↓reduceIte, Nat.reduceEqDiff, Nat.reduceAdd, Nat.reduceSub, Nat.reduceLeDiff, Nat.reduceLT, List.reduceReplicate, Nat.reduceMul, Int.reduceNeg, reduceCtorEq, *,  horariumlaw4_play_14, horariumlaw4_play_15]
          generalize IntKind.i64.wrap _ = step
          refine Wb_dec (fun hc3 => ?_) (fun hc3 => ?_)
          · skip
            skip
            have hrest : restL f.runs i left = [] := by unfold restL; rw [if_neg (by omega)]
            rw [hrest] at R
            simp (disch := omega) only [go_sem, ↓reduceIte, Nat.reduceEqDiff, Nat.reduceAdd, Nat.reduceSub, Nat.reduceLeDiff, Nat.reduceLT, List.reduceReplicate, Nat.reduceMul, Int.reduceNeg, reduceCtorEq, *,  horariumlaw4_play_16]
            refine Ev.imp (newNext_end N R) ?_
            rintro _ h6 ⟨rfl, N6, x6⟩
            have l6 : h6.lim ≤ h6.next := N6.cur.lim_le
            have N6' := N6.grow (Ext.box (k0 := ⟨2, [[.i .i64 0, .i .i64 0]]⟩) (k := ⟨2, [[.i .i64 0, .i .i64 0]]⟩))
            simp (disch := omega) only [go_sem, ↓reduceIte, Nat.reduceEqDiff, Nat.reduceAdd, Nat.reduceSub, Nat.reduceLeDiff, Nat.reduceLT, List.reduceReplicate, Nat.reduceMul, Int.reduceNeg, reduceCtorEq, *,  horariumlaw4_play_16, horariumlaw4_play_17]
            refine Ev.imp (newTick_end N6' R) ?_
            rintro _ _ ⟨rfl, rfl⟩
            simp (disch := omega) only [go_sem, ↓reduceIte, Nat.reduceEqDiff, Nat.reduceAdd, Nat.reduceSub, Nat.reduceLeDiff, Nat.reduceLT, List.reduceReplicate, Nat.reduceMul, Int.reduceNeg, reduceCtorEq, *,  horariumlaw4_play_17, horariumlaw4_play_18, eqV, eqL, eqC, fillP]
            exact N6'.ext
          · simp (disch := omega) only [go_sem, ↓reduceIte, Nat.reduceEqDiff, Nat.reduceAdd, Nat.reduceSub, Nat.reduceLeDiff, Nat.reduceLT, List.reduceReplicate, Nat.reduceMul, Int.reduceNeg, reduceCtorEq, *,  horariumlaw4_play_19]
            have hl := Kept.mk (lft.of (by omega))
            have hl1 := hl.of.1
            have hl2 := hl.of.2.1
            have hrest : restL f.runs i left = ⟨(nth f.runs i).part, left⟩ :: f.runs.drop (i + 1) := by unfold restL; rw [if_pos (by omega)]
            rw [hrest] at R
            have srowi := srow i (by omega)
            refine Wb_dec (fun hc4 => ?_) (fun hc4 => ?_)
            · skip
              skip
              simp (disch := omega) only [go_sem, ↓reduceIte, Nat.reduceEqDiff, Nat.reduceAdd, Nat.reduceSub, Nat.reduceLeDiff, Nat.reduceLT, List.reduceReplicate, Nat.reduceMul, Int.reduceNeg, reduceCtorEq, *,  horariumlaw4_play_20]
              refine Ev.imp (newNext N R) ?_
              rintro _ h5 ⟨rfl, s5, c5, N5, f5, R5, a5⟩
              have l5 : h5.lim ≤ h5.next := N5.cur.lim_le
              have row5 := rowF row box f5
              have bw5 : Box h5 id s5 (idV wv) _ := Box.step ⟨sget (by omega), slt (by omega), box.1, box.2⟩ f5
              have B5 := Box.new (k0 := ⟨2, [[.i .i64 0, .i .i64 0]]⟩) (k := ⟨2, [[.i .i64 (nth f.runs i).part, .i .i64 left]]⟩) N5.cur
              have N5' := N5.grow (Ext.box (k0 := ⟨2, [[.i .i64 0, .i .i64 0]]⟩) (k := ⟨2, [[.i .i64 (nth f.runs i).part, .i .i64 left]]⟩))
              have row5' := row5.ext (Ext.box (k0 := ⟨2, [[.i .i64 0, .i .i64 0]]⟩) (k := ⟨2, [[.i .i64 (nth f.runs i).part, .i .i64 left]]⟩))
              have bw5' := bw5.ext (Ext.box (k0 := ⟨2, [[.i .i64 0, .i .i64 0]]⟩) (k := ⟨2, [[.i .i64 (nth f.runs i).part, .i .i64 left]]⟩))
              simp (disch := omega) only [go_sem, ↓reduceIte, Nat.reduceEqDiff, Nat.reduceAdd, Nat.reduceSub, Nat.reduceLeDiff, Nat.reduceLT, List.reduceReplicate, Nat.reduceMul, Int.reduceNeg, reduceCtorEq, *,  horariumlaw4_play_20]
              generalize hh7 : (h5.alloc ⟨2, [[.i .i64 0, .i .i64 0]]⟩).put h5.next ⟨2, [[.i .i64 (nth f.runs i).part, .i .i64 left]]⟩ = h7 at B5 N5' row5' bw5' ⊢
              have g7 := B5.get
              clear sget slt sat srow srow0 srowi
              obtain ⟨slen, sbig, slt, sget, sat, srow⟩ := row5'.facts
              have srowi := srow i (by omega)
              have a5k : Kept (c5.at_ = c.at_ + left) := ⟨a5⟩
              have hatv : c.at_ + left = c5.at_ := a5.symm
              have hat5 := R5.at_
              have hd5 := R5.sum
              have at0 := N5'.ext
              clear a5
              have hcs : c.at_ + left ≤ 4096 := by rw [hatv]; omega
              simp (disch := omega) only [go_sem, ↓reduceIte, Nat.reduceEqDiff, Nat.reduceAdd, Nat.reduceSub, Nat.reduceLeDiff, Nat.reduceLT, List.reduceReplicate, Nat.reduceMul, Int.reduceNeg, reduceCtorEq, *,  horariumlaw4_play_21, horariumlaw4_play_23, horariumlaw4_play_30, horariumlaw4_play_31, horariumlaw4_play_32]
              refine Wb_dec (fun hc5 => ?_) (fun hc5 => ?_)
              · have srowi1 := srow (i + 1) (by omega)
                have ki : ((i : Int) + 1).toNat = i + 1 := by omega
                simp (disch := omega) only [go_sem, ↓reduceIte, Nat.reduceEqDiff, Nat.reduceAdd, Nat.reduceSub, Nat.reduceLeDiff, Nat.reduceLT, List.reduceReplicate, Nat.reduceMul, Int.reduceNeg, reduceCtorEq, *,  horariumlaw4_play_33, horariumlaw4_play_34]
                refine ih _ _ _ ?_ ⟨k + 1, i + 1, (nth f.runs (i + 1)).n, s5, c5, rfl, ?_⟩
                · omega
                · refine ⟨?_, ?_, ?_, ?_, ?_, ?_, ?_, ?_, by omega, N5', by rw [restL_start (by omega)]; exact R5, row5', ⟨bw5'.ne, bw5'.nes⟩, by omega, Kept.mk fun _ => ⟨AllPos.nth hap (by omega), by omega, by rw [sumN_take f.runs i (by omega), a5k.of, hl.of.2.2]; omega⟩⟩
                  all_goals (simp (disch := omega) only [go_sem, ↓reduceIte, Nat.reduceEqDiff, Nat.reduceAdd, Nat.reduceSub, Nat.reduceLeDiff, Nat.reduceLT, List.reduceReplicate, Nat.reduceMul, Int.reduceNeg, reduceCtorEq, *])
              · simp (disch := omega) only [go_sem, ↓reduceIte, Nat.reduceEqDiff, Nat.reduceAdd, Nat.reduceSub, Nat.reduceLeDiff, Nat.reduceLT, List.reduceReplicate, Nat.reduceMul, Int.reduceNeg, reduceCtorEq, *,  horariumlaw4_play_34]
                refine ih _ _ _ ?_ ⟨k + 1, i + 1, 0, s5, c5, rfl, ?_⟩
                · omega
                · refine ⟨?_, ?_, ?_, ?_, ?_, ?_, ?_, ?_, by omega, N5', by rw [restL_end (by omega)]; rw [List.drop_eq_nil_of_le (by omega)] at R5; exact R5, row5', ⟨bw5'.ne, bw5'.nes⟩, by omega, Kept.mk fun hx => by omega⟩
                  all_goals (simp (disch := omega) only [go_sem, ↓reduceIte, Nat.reduceEqDiff, Nat.reduceAdd, Nat.reduceSub, Nat.reduceLeDiff, Nat.reduceLT, List.reduceReplicate, Nat.reduceMul, Int.reduceNeg, reduceCtorEq, *])
            · skip
              skip
              have hpg : partGo f.runs c.at_ = (nth f.runs i).part := by rw [hl.of.2.2]; exact partGo_at f.runs i _ (by omega) hap (by omega) (by omega)
              have hd5 := R.sum
              have hat := R.at_
              simp (disch := omega) only [go_sem, ↓reduceIte, Nat.reduceEqDiff, Nat.reduceAdd, Nat.reduceSub, Nat.reduceLeDiff, Nat.reduceLT, List.reduceReplicate, Nat.reduceMul, Int.reduceNeg, reduceCtorEq, *,  horariumlaw4_play_24]
              refine Ev.imp (Part_ev (f := f) (t := c.at_) (by rw [lim_raise, next_raise]; exact Nat.le_refl _) (SlT.raise (hS.ext xx)) hr ho hc hln (by omega)) ?_
              rintro _ h5 ⟨rfl, hx5⟩
              have x5 := hx5.back
              have N5 := N.grow x5
              have row5 := row.ext x5
              generalize hh6 : h5.back _ = h6 at x5 N5 row5 ⊢
              clear sget slt sat srow srow0 srowi
              obtain ⟨slen, sbig, slt, sget, sat, srow⟩ := row5.facts
              have srowi := srow i (by omega)
              simp (disch := omega) only [go_sem, ↓reduceIte, Nat.reduceEqDiff, Nat.reduceAdd, Nat.reduceSub, Nat.reduceLeDiff, Nat.reduceLT, List.reduceReplicate, Nat.reduceMul, Int.reduceNeg, reduceCtorEq, *,  horariumlaw4_play_24, horariumlaw4_play_26]
              refine Ev.imp (newTick N5 R) ?_
              rintro _ h7 ⟨rfl, s7, c7, N7, f7, R7, a7⟩
              have row7 := rowF row5 box f7
              have bw7 : Box h7 id s7 (idV wv) _ := Box.step ⟨sget (by omega), slt (by omega), box.1, box.2⟩ f7
              have a7k : Kept (c7.at_ = c.at_ + 1) := ⟨a7⟩
              have hatv : c.at_ + 1 = c7.at_ := a7.symm
              clear a7
              clear sget slt sat srow srowi
              obtain ⟨slen, sbig, slt, sget, sat, srow⟩ := row7.facts
              have srowi := srow i (by omega)
              have ki : ((i : Int) + 1).toNat = i + 1 := by omega
              have hca : c.at_ + 1 ≤ 4097 := by simp only [sumN] at hat hd5; omega
              have hlb : left ≤ 4096 := by
                have hq := sumN_pos (w := f.runs.drop (i + 1)) (fun q hq => hap q (List.mem_of_mem_drop hq))
                simp only [sumN] at hat; omega
              simp only at R7
              simp (disch := omega) only [go_sem, ↓reduceIte, Nat.reduceEqDiff, Nat.reduceAdd, Nat.reduceSub, Nat.reduceLeDiff, Nat.reduceLT, List.reduceReplicate, Nat.reduceMul, Int.reduceNeg, reduceCtorEq, *,  horariumlaw4_play_26, horariumlaw4_play_27, horariumlaw4_play_29, horariumlaw4_play_30]
              refine Wb_dec (fun hc5 => ?_) (fun hc5 => ?_)
              · rw [if_pos (by omega)] at R7
                simp (disch := omega) only [go_sem, ↓reduceIte, Nat.reduceEqDiff, Nat.reduceAdd, Nat.reduceSub, Nat.reduceLeDiff, Nat.reduceLT, List.reduceReplicate, Nat.reduceMul, Int.reduceNeg, reduceCtorEq, *,  horariumlaw4_play_31, horariumlaw4_play_32]
                refine Wb_dec (fun hc6 => ?_) (fun hc6 => ?_)
                · have srowi1 := srow (i + 1) (by omega)
                  simp (disch := omega) only [go_sem, ↓reduceIte, Nat.reduceEqDiff, Nat.reduceAdd, Nat.reduceSub, Nat.reduceLeDiff, Nat.reduceLT, List.reduceReplicate, Nat.reduceMul, Int.reduceNeg, reduceCtorEq, *,  horariumlaw4_play_33, horariumlaw4_play_34]
                  refine ih _ _ _ ?_ ⟨k + 1, i + 1, (nth f.runs (i + 1)).n, s7, c7, rfl, ?_⟩
                  · omega
                  · refine ⟨?_, ?_, ?_, ?_, ?_, ?_, ?_, ?_, by omega, N7, by rw [restL_start (by omega)]; exact R7, row7, ⟨bw7.ne, bw7.nes⟩, by omega, Kept.mk fun _ => ⟨AllPos.nth hap (by omega), by omega, by rw [sumN_take f.runs i (by omega), a7k.of, hl.of.2.2]; omega⟩⟩
                    all_goals (simp (disch := omega) only [go_sem, ↓reduceIte, Nat.reduceEqDiff, Nat.reduceAdd, Nat.reduceSub, Nat.reduceLeDiff, Nat.reduceLT, List.reduceReplicate, Nat.reduceMul, Int.reduceNeg, reduceCtorEq, *])
                · simp (disch := omega) only [go_sem, ↓reduceIte, Nat.reduceEqDiff, Nat.reduceAdd, Nat.reduceSub, Nat.reduceLeDiff, Nat.reduceLT, List.reduceReplicate, Nat.reduceMul, Int.reduceNeg, reduceCtorEq, *,  horariumlaw4_play_34]
                  refine ih _ _ _ ?_ ⟨k + 1, i + 1, 0, s7, c7, rfl, ?_⟩
                  · omega
                  · refine ⟨?_, ?_, ?_, ?_, ?_, ?_, ?_, ?_, by omega, N7, by rw [restL_end (by omega)]; rw [List.drop_eq_nil_of_le (by omega)] at R7; exact R7, row7, ⟨bw7.ne, bw7.nes⟩, by omega, Kept.mk fun hx => by omega⟩
                    all_goals (simp (disch := omega) only [go_sem, ↓reduceIte, Nat.reduceEqDiff, Nat.reduceAdd, Nat.reduceSub, Nat.reduceLeDiff, Nat.reduceLT, List.reduceReplicate, Nat.reduceMul, Int.reduceNeg, reduceCtorEq, *])
              · rw [if_neg (by omega)] at R7
                simp (disch := omega) only [go_sem, ↓reduceIte, Nat.reduceEqDiff, Nat.reduceAdd, Nat.reduceSub, Nat.reduceLeDiff, Nat.reduceLT, List.reduceReplicate, Nat.reduceMul, Int.reduceNeg, reduceCtorEq, *,  horariumlaw4_play_34]
                refine ih _ _ _ ?_ ⟨k + 1, i, left - 1, s7, c7, rfl, ?_⟩
                · omega
                · refine ⟨?_, ?_, ?_, ?_, ?_, ?_, ?_, ?_, by omega, N7, by unfold restL; rw [if_pos (by omega)]; exact R7, row7, ⟨bw7.ne, bw7.nes⟩, by omega, Kept.mk fun hx => ⟨by omega, by omega, by rw [a7k.of, hl.of.2.2]; omega⟩⟩
                  all_goals (simp (disch := omega) only [go_sem, ↓reduceIte, Nat.reduceEqDiff, Nat.reduceAdd, Nat.reduceSub, Nat.reduceLeDiff, Nat.reduceLT, List.reduceReplicate, Nat.reduceMul, Int.reduceNeg, reduceCtorEq, *])
        · simp (disch := omega) only [go_sem, ↓reduceIte, Nat.reduceEqDiff, Nat.reduceAdd, Nat.reduceSub, Nat.reduceLeDiff, Nat.reduceLT, List.reduceReplicate, Nat.reduceMul, Int.reduceNeg, reduceCtorEq, *,  horariumlaw4_play_15]
          refine Wb_dec (fun hc3 => ?_) (fun hc3 => ?_)
          · skip
            skip
            have hrest : restL f.runs i left = [] := by unfold restL; rw [if_neg (by omega)]
            rw [hrest] at R
            simp (disch := omega) only [go_sem, ↓reduceIte, Nat.reduceEqDiff, Nat.reduceAdd, Nat.reduceSub, Nat.reduceLeDiff, Nat.reduceLT, List.reduceReplicate, Nat.reduceMul, Int.reduceNeg, reduceCtorEq, *,  horariumlaw4_play_16]
            refine Ev.imp (newNext_end N R) ?_
            rintro _ h6 ⟨rfl, N6, x6⟩
            have l6 : h6.lim ≤ h6.next := N6.cur.lim_le
            have N6' := N6.grow (Ext.box (k0 := ⟨2, [[.i .i64 0, .i .i64 0]]⟩) (k := ⟨2, [[.i .i64 0, .i .i64 0]]⟩))
            simp (disch := omega) only [go_sem, ↓reduceIte, Nat.reduceEqDiff, Nat.reduceAdd, Nat.reduceSub, Nat.reduceLeDiff, Nat.reduceLT, List.reduceReplicate, Nat.reduceMul, Int.reduceNeg, reduceCtorEq, *,  horariumlaw4_play_16, horariumlaw4_play_17]
            refine Ev.imp (newTick_end N6' R) ?_
            rintro _ _ ⟨rfl, rfl⟩
            simp (disch := omega) only [go_sem, ↓reduceIte, Nat.reduceEqDiff, Nat.reduceAdd, Nat.reduceSub, Nat.reduceLeDiff, Nat.reduceLT, List.reduceReplicate, Nat.reduceMul, Int.reduceNeg, reduceCtorEq, *,  horariumlaw4_play_17, horariumlaw4_play_18, eqV, eqL, eqC, fillP]
            exact N6'.ext
          · simp (disch := omega) only [go_sem, ↓reduceIte, Nat.reduceEqDiff, Nat.reduceAdd, Nat.reduceSub, Nat.reduceLeDiff, Nat.reduceLT, List.reduceReplicate, Nat.reduceMul, Int.reduceNeg, reduceCtorEq, *,  horariumlaw4_play_19, Int.reduceEq]
            have hl := Kept.mk (lft.of (by omega))
            have hl1 := hl.of.1
            have hl2 := hl.of.2.1
            have hrest : restL f.runs i left = ⟨(nth f.runs i).part, left⟩ :: f.runs.drop (i + 1) := by unfold restL; rw [if_pos (by omega)]
            rw [hrest] at R
            have srowi := srow i (by omega)
            skip
            skip
            have hpg : partGo f.runs c.at_ = (nth f.runs i).part := by rw [hl.of.2.2]; exact partGo_at f.runs i _ (by omega) hap (by omega) (by omega)
            have hd5 := R.sum
            have hat := R.at_
            simp (disch := omega) only [go_sem, ↓reduceIte, Nat.reduceEqDiff, Nat.reduceAdd, Nat.reduceSub, Nat.reduceLeDiff, Nat.reduceLT, List.reduceReplicate, Nat.reduceMul, Int.reduceNeg, reduceCtorEq, *,  horariumlaw4_play_24]
            refine Ev.imp (Part_ev (f := f) (t := c.at_) (by rw [lim_raise, next_raise]; exact Nat.le_refl _) (SlT.raise (hS.ext xx)) hr ho hc hln (by omega)) ?_
            rintro _ h5 ⟨rfl, hx5⟩
            have x5 := hx5.back
            have N5 := N.grow x5
            have row5 := row.ext x5
            generalize hh6 : h5.back _ = h6 at x5 N5 row5 ⊢
            clear sget slt sat srow srow0 srowi
            obtain ⟨slen, sbig, slt, sget, sat, srow⟩ := row5.facts
            have srowi := srow i (by omega)
            simp (disch := omega) only [go_sem, ↓reduceIte, Nat.reduceEqDiff, Nat.reduceAdd, Nat.reduceSub, Nat.reduceLeDiff, Nat.reduceLT, List.reduceReplicate, Nat.reduceMul, Int.reduceNeg, reduceCtorEq, *,  horariumlaw4_play_24, horariumlaw4_play_26]
            refine Ev.imp (newTick N5 R) ?_
            rintro _ h7 ⟨rfl, s7, c7, N7, f7, R7, a7⟩
            have row7 := rowF row5 box f7
            have bw7 : Box h7 id s7 (idV wv) _ := Box.step ⟨sget (by omega), slt (by omega), box.1, box.2⟩ f7
            have a7k : Kept (c7.at_ = c.at_ + 1) := ⟨a7⟩
            have hatv : c.at_ + 1 = c7.at_ := a7.symm
            clear a7
            clear sget slt sat srow srowi
            obtain ⟨slen, sbig, slt, sget, sat, srow⟩ := row7.facts
            have srowi := srow i (by omega)
            have ki : ((i : Int) + 1).toNat = i + 1 := by omega
            have hca : c.at_ + 1 ≤ 4097 := by simp only [sumN] at hat hd5; omega
            have hlb : left ≤ 4096 := by
              have hq := sumN_pos (w := f.runs.drop (i + 1)) (fun q hq => hap q (List.mem_of_mem_drop hq))
              simp only [sumN] at hat; omega
            simp only at R7
            simp (disch := omega) only [go_sem, ↓reduceIte, Nat.reduceEqDiff, Nat.reduceAdd, Nat.reduceSub, Nat.reduceLeDiff, Nat.reduceLT, List.reduceReplicate, Nat.reduceMul, Int.reduceNeg, reduceCtorEq, *,  horariumlaw4_play_26, horariumlaw4_play_27, horariumlaw4_play_29, horariumlaw4_play_30]
            refine Wb_dec (fun hc5 => ?_) (fun hc5 => ?_)
            · rw [if_pos (by omega)] at R7
              simp (disch := omega) only [go_sem, ↓reduceIte, Nat.reduceEqDiff, Nat.reduceAdd, Nat.reduceSub, Nat.reduceLeDiff, Nat.reduceLT, List.reduceReplicate, Nat.reduceMul, Int.reduceNeg, reduceCtorEq, *,  horariumlaw4_play_31, horariumlaw4_play_32]
              refine Wb_dec (fun hc6 => ?_) (fun hc6 => ?_)
              · have srowi1 := srow (i + 1) (by omega)
                simp (disch := omega) only [go_sem, ↓reduceIte, Nat.reduceEqDiff, Nat.reduceAdd, Nat.reduceSub, Nat.reduceLeDiff, Nat.reduceLT, List.reduceReplicate, Nat.reduceMul, Int.reduceNeg, reduceCtorEq, *,  horariumlaw4_play_33, horariumlaw4_play_34]
                refine ih _ _ _ ?_ ⟨k + 1, i + 1, (nth f.runs (i + 1)).n, s7, c7, rfl, ?_⟩
                · omega
                · refine ⟨?_, ?_, ?_, ?_, ?_, ?_, ?_, ?_, by omega, N7, by rw [restL_start (by omega)]; exact R7, row7, ⟨bw7.ne, bw7.nes⟩, by omega, Kept.mk fun _ => ⟨AllPos.nth hap (by omega), by omega, by rw [sumN_take f.runs i (by omega), a7k.of, hl.of.2.2]; omega⟩⟩
                  all_goals (simp (disch := omega) only [go_sem, ↓reduceIte, Nat.reduceEqDiff, Nat.reduceAdd, Nat.reduceSub, Nat.reduceLeDiff, Nat.reduceLT, List.reduceReplicate, Nat.reduceMul, Int.reduceNeg, reduceCtorEq, *])
              · simp (disch := omega) only [go_sem, ↓reduceIte, Nat.reduceEqDiff, Nat.reduceAdd, Nat.reduceSub, Nat.reduceLeDiff, Nat.reduceLT, List.reduceReplicate, Nat.reduceMul, Int.reduceNeg, reduceCtorEq, *,  horariumlaw4_play_34]
                refine ih _ _ _ ?_ ⟨k + 1, i + 1, 0, s7, c7, rfl, ?_⟩
                · omega
                · refine ⟨?_, ?_, ?_, ?_, ?_, ?_, ?_, ?_, by omega, N7, by rw [restL_end (by omega)]; rw [List.drop_eq_nil_of_le (by omega)] at R7; exact R7, row7, ⟨bw7.ne, bw7.nes⟩, by omega, Kept.mk fun hx => by omega⟩
                  all_goals (simp (disch := omega) only [go_sem, ↓reduceIte, Nat.reduceEqDiff, Nat.reduceAdd, Nat.reduceSub, Nat.reduceLeDiff, Nat.reduceLT, List.reduceReplicate, Nat.reduceMul, Int.reduceNeg, reduceCtorEq, *])
            · rw [if_neg (by omega)] at R7
              simp (disch := omega) only [go_sem, ↓reduceIte, Nat.reduceEqDiff, Nat.reduceAdd, Nat.reduceSub, Nat.reduceLeDiff, Nat.reduceLT, List.reduceReplicate, Nat.reduceMul, Int.reduceNeg, reduceCtorEq, *,  horariumlaw4_play_34]
              refine ih _ _ _ ?_ ⟨k + 1, i, left - 1, s7, c7, rfl, ?_⟩
              · omega
              · refine ⟨?_, ?_, ?_, ?_, ?_, ?_, ?_, ?_, by omega, N7, by unfold restL; rw [if_pos (by omega)]; exact R7, row7, ⟨bw7.ne, bw7.nes⟩, by omega, Kept.mk fun hx => ⟨by omega, by omega, by rw [a7k.of, hl.of.2.2]; omega⟩⟩
                all_goals (simp (disch := omega) only [go_sem, ↓reduceIte, Nat.reduceEqDiff, Nat.reduceAdd, Nat.reduceSub, Nat.reduceLeDiff, Nat.reduceLT, List.reduceReplicate, Nat.reduceMul, Int.reduceNeg, reduceCtorEq, *])
      · simp (disch := omega) only [go_sem, ↓reduceIte, Nat.reduceEqDiff, Nat.reduceAdd, Nat.reduceSub, Nat.reduceLeDiff, Nat.reduceLT, List.reduceReplicate, Nat.reduceMul, Int.reduceNeg, reduceCtorEq, *,  horariumlaw4_play_36]
        refine Ev.imp (reset_ev N.cur ho hc hln) ?_
        rintro _ h4 ⟨rfl, s4, c4, f4⟩
        have N4 := N.step c4 f4
        have R4 := start_rem ho hc hln
        have row4 := rowF row box f4
        have bw4 : Box h4 id s4 (idV wv) _ := Box.step ⟨sget (by omega), slt (by omega), box.1, box.2⟩ f4
        have R4 : Rem f.flat (cur0 f.flat) (nth f.runs 0 :: f.runs.drop 1) := by
          rw [← drop_nth (by omega)]; exact R4
        simp (disch := omega) only [go_sem, ↓reduceIte, Nat.reduceEqDiff, Nat.reduceAdd, Nat.reduceSub, Nat.reduceLeDiff, Nat.reduceLT, List.reduceReplicate, Nat.reduceMul, Int.reduceNeg, reduceCtorEq, *,  horariumlaw4_play_36, horariumlaw4_play_37]
        refine Ev.imp (newNext N4 R4) ?_
        rintro _ h5 ⟨rfl, s5, c5, N5, f5, R5, a5⟩
        have l5 : h5.lim ≤ h5.next := N5.cur.lim_le
        have row5 := rowF row4 ⟨bw4.ne, bw4.nes⟩ f5
        have a5k : c5.at_ = (nth f.runs 0).n := by rw [a5]; simp [cur0]
        clear a5
        have B5 := Box.new (k0 := ⟨2, [[.i .i64 0, .i .i64 0]]⟩) (k := ⟨2, [[.i .i64 (nth f.runs 0).part, .i .i64 (nth f.runs 0).n]]⟩) N5.cur
        have N5' := N5.grow (Ext.box (k0 := ⟨2, [[.i .i64 0, .i .i64 0]]⟩) (k := ⟨2, [[.i .i64 (nth f.runs 0).part, .i .i64 (nth f.runs 0).n]]⟩))
        have row5' := row5.ext (Ext.box (k0 := ⟨2, [[.i .i64 0, .i .i64 0]]⟩) (k := ⟨2, [[.i .i64 (nth f.runs 0).part, .i .i64 (nth f.runs 0).n]]⟩))
        simp (disch := omega) only [go_sem, ↓reduceIte, Nat.reduceEqDiff, Nat.reduceAdd, Nat.reduceSub, Nat.reduceLeDiff, Nat.reduceLT, List.reduceReplicate, Nat.reduceMul, Int.reduceNeg, reduceCtorEq, *,  horariumlaw4_play_37]
        generalize hh7 : (h5.alloc ⟨2, [[.i .i64 0, .i .i64 0]]⟩).put h5.next ⟨2, [[.i .i64 (nth f.runs 0).part, .i .i64 (nth f.runs 0).n]]⟩ = h7 at B5 N5' row5' ⊢
        have g7 := B5.get
        clear sget slt sat srow srow0
        obtain ⟨slen, sbig, slt, sget, sat, srow⟩ := row5'.facts
        have srow0 := srow 0 (by omega)
        rw [Nat.add_zero] at srow0
        have k7 : h7.raise.get id = some (curB lv s5 c5) := N5'.cur.blk
        simp (disch := omega) only [go_sem, ↓reduceIte, Nat.reduceEqDiff, Nat.reduceAdd, Nat.reduceSub, Nat.reduceLeDiff, Nat.reduceLT, List.reduceReplicate, Nat.reduceMul, Int.reduceNeg, reduceCtorEq, *,  horariumlaw4_play_38]
        refine Ev.imp (curAt_evB k7) ?_
        rintro _ _ ⟨rfl, rfl⟩
        simp (disch := omega) only [go_sem, ↓reduceIte, Nat.reduceEqDiff, Nat.reduceAdd, Nat.reduceSub, Nat.reduceLeDiff, Nat.reduceLT, List.reduceReplicate, Nat.reduceMul, Int.reduceNeg, reduceCtorEq, *,  horariumlaw4_play_38, eqV, eqL, eqC]
        exact N5'.ext
    · simp (disch := omega) only [go_sem, ↓reduceIte, Nat.reduceEqDiff, Nat.reduceAdd, Nat.reduceSub, Nat.reduceLeDiff, Nat.reduceLT, List.reduceReplicate, Nat.reduceMul, Int.reduceNeg, reduceCtorEq, *]
      refine ⟨?_, ?_, ?_, ?_, ?_, ?_, ?_, ?_, by omega, N3, by rw [restL_start (by omega)]; exact start_rem ho hc hln, s3, hbx, by omega, Kept.mk fun _ => ⟨AllPos.nth hap (by omega), by omega, by simp [cur0, sumN]⟩⟩
      all_goals (simp (disch := omega) only [go_sem, ↓reduceIte, Nat.reduceEqDiff, Nat.reduceAdd, Nat.reduceSub, Nat.reduceLeDiff, Nat.reduceLT, List.reduceReplicate, Nat.reduceMul, Int.reduceNeg, reduceCtorEq, *])
      all_goals rfl
  · refine Ev.imp (new_bad hw hS hLb hr) ?_
    rintro _ h1 ⟨rfl, hx1⟩
    have n1 := hx1.next
    have l1 := hx1.lim
    simp (disch := omega) only [go_sem, ↓reduceIte, Nat.reduceEqDiff, Nat.reduceAdd, Nat.reduceSub, Nat.reduceLeDiff, Nat.reduceLT, List.reduceReplicate, Nat.reduceMul, Int.reduceNeg, reduceCtorEq, *,  horariumlaw4_play_1, horariumlaw4_play_2]
    refine Ev.imp (refRight_ev (by omega) (hS.ext hx1) hLb) ?_
    rintro _ h2 ⟨rfl, hx2⟩
    have n2 := hx2.next
    have l2 := hx2.lim
    simp (disch := omega) only [go_sem, ↓reduceIte, Nat.reduceEqDiff, Nat.reduceAdd, Nat.reduceSub, Nat.reduceLeDiff, Nat.reduceLT, List.reduceReplicate, Nat.reduceMul, Int.reduceNeg, reduceCtorEq, *,  horariumlaw4_play_2, horariumlaw4_play_3, eqV]
    refine Ev.imp (Part_bad (t := 0) (by omega) (hS.ext (hx1.trans hx2)) hLb (.inl hr)) ?_
    rintro _ h3 ⟨rfl, hx3⟩
    simp (disch := omega) only [go_sem, ↓reduceIte, Nat.reduceEqDiff, Nat.reduceAdd, Nat.reduceSub, Nat.reduceLeDiff, Nat.reduceLT, List.reduceReplicate, Nat.reduceMul, Int.reduceNeg, reduceCtorEq, *,  horariumlaw4_play_3]
    exact hx1.trans (hx2.trans hx3)
end Go.Ab.T
namespace Go.Ab.T
open Go Go.Ab
set_option linter.unusedSimpArgs false
set_option linter.unusedVariables false
set_option maxHeartbeats 4000000
set_option maxRecDepth 10000
/-- A tape laid into a box. -/
theorem tape_box {h : AH} {tv : V} {L : List Int} (hw : h.lim ≤ h.next) (hS : SlT E1 h 1 tv L) : Tape (h.alloc (tapeB tv 0)) h.next tv L 0 := by
  have x : Ext h (h.alloc (tapeB tv 0)) := (Ext.refl h).alloc _
  refine ⟨by rw [get_alloc, gsel_eq rfl]; rfl, hS.ext x, Sl.cell hS, ?_, by rw [lim_alloc]; exact hw, by rw [next_alloc]; omega, Nat.zero_le _⟩
  by_cases hv : tv = .ns
  · exact .inl hv
  · have := idV_ns_lt hS hv
    exact .inr (by omega)
theorem Upd.toExt {h h' : AH} {k0 k : Blk} (u : Upd (h.alloc k0) h.next k h') : Ext h h' := by
  have := u.next
  rw [next_alloc] at this
  exact ⟨by omega, u.lim, fun i hi => by rw [u.get i (by rw [next_alloc]; omega) (by omega), get_alloc, gsel_ne (by omega)]⟩
theorem rightB {L : List Node} : lenB L = false → rightR L ≠ 0 := by
  intro h hr
  obtain ⟨_, f, ho, hc, rfl, _, hl⟩ := (right_iff L).1 hr
  rw [lenB_flat ho hc] at h
  simp at h; omega
theorem partGo_end : ∀ (w : List Run) (t : Int), AllPos w → sumN w ≤ t → partGo w t = -1
  | [], t, _, _ => rfl
  | r :: l, t, hp, ht => by
    have hp2 : AllPos l := fun q hq => hp q (List.mem_cons_of_mem _ hq)
    have := sumN_pos hp2
    simp only [sumN] at ht
    rw [partGo, if_neg (by omega), partGo_end l _ hp2 (by omega)]
def partA (g : Fo) (t : Int) : Int := if rightR g.flat = 0 ∧ 0 ≤ t then partGo g.runs t else -1
theorem right_len {g : Fo} (ho : g.ok) (hc : g.count = 1) (hr : rightR g.flat = 0) : g.len ≤ 4096 := by
  have h1 := lenB_flat ho hc
  by_cases hb : lenB g.flat = true
  · rw [h1] at hb; simpa using hb
  · exact absurd hr (rightB (by simpa using hb))
theorem part_all {h : AH} {v : V} {g : Fo} {t : Int} (hw : h.lim ≤ h.next) (hS : SlT Node.enc h 3 v g.flat) (gb : g.flat.length < 4000000000) (ho : g.ok) (hc : g.count = 1) (ht : t ≤ 9223372036854775807) : Ev tp i_cursor_Part [v, .i .i64 t] h (fun r h' => r = .i .i64 (partA g t) ∧ Ext h h') := by
  unfold partA
  by_cases hh : rightR g.flat = 0 ∧ 0 ≤ t
  · rw [if_pos hh]
    exact Part_ev hw hS hh.1 ho hc (right_len ho hc hh.1) ⟨hh.2, ht⟩
  · rw [if_neg hh]
    exact Part_bad hw hS gb (by omega)
theorem cursorPlays_ev {h : AH} {tv sv rv : V} {T ST : List Int} {R : List Node} {deep at_ : Int} (hw : h.lim ≤ h.next) (hT : SlT E1 h 1 tv T) (hS : SlT E1 h 1 sv ST) (hR : SlT Node.enc h 3 rv R) (hRb : R.length < 4000000000) (hat : at_ ≤ 9223372036854775807) :
    Ev tp i_horariumlaw4_CursorPlays [tv, .i .i64 deep, sv, rv, .i .i64 at_] h (fun r h' => r = .b true ∧ Ext h h') := by
  have c1 := Sl.cell hT
  have c2 := Sl.cells hT
  have hd := within_bd (n := deep) (lo := 0) (hi := 4) (by omega)
  obtain ⟨d, hdd⟩ : ∃ d : Nat, within deep 0 4 = d := ⟨(within deep 0 4).toNat, by omega⟩
  refine Ev_of fn_horariumlaw4_CursorPlays (by simp [t_horariumlaw4_CursorPlays]) ?_; unfold t_horariumlaw4_CursorPlays
  simp (disch := omega) only [go_sem, ↓reduceIte, Nat.reduceEqDiff, Nat.reduceAdd, Nat.reduceSub, Nat.reduceLeDiff, Nat.reduceLT, List.reduceReplicate, Nat.reduceMul, Int.reduceNeg, reduceCtorEq, *,  horariumlaw4_CursorPlays_0, horariumlaw4_CursorPlays_1, fillP]
  have tb := tape_box hw hT
  refine Ev.imp (within_ev (by omega) (by omega) (by omega)) ?_
  rintro _ _ ⟨rfl, rfl⟩
  simp (disch := omega) only [go_sem, ↓reduceIte, Nat.reduceEqDiff, Nat.reduceAdd, Nat.reduceSub, Nat.reduceLeDiff, Nat.reduceLT, List.reduceReplicate, Nat.reduceMul, Int.reduceNeg, reduceCtorEq, *,  horariumlaw4_CursorPlays_1]
  refine Ev.imp (table_ev (parts := 4) (by omega) d _ _ (by omega) tb) ?_
  rintro l h2 ⟨g, k2, tr⟩
  have x2 : Ext h h2 := Upd.toExt tr.upd
  have n2 := x2.next
  have l2 := x2.lim
  have gl := tr.row
  have gb : g.flat.length < 4000000000 := by have := tr.big; have := tabB_le (by omega : d ≤ 10); omega
  simp (disch := omega) only [go_sem, ↓reduceIte, Nat.reduceEqDiff, Nat.reduceAdd, Nat.reduceSub, Nat.reduceLeDiff, Nat.reduceLT, List.reduceReplicate, Nat.reduceMul, Int.reduceNeg, reduceCtorEq, *,  horariumlaw4_CursorPlays_1, horariumlaw4_CursorPlays_2]
  refine Ev.imp (refLength_ev (by omega) gl gb) ?_
  rintro _ h3 ⟨rfl, x3⟩
  have n3 := x3.next
  have l3 := x3.lim
  have gl3 := gl.ext x3
  simp (disch := omega) only [go_sem, ↓reduceIte, Nat.reduceEqDiff, Nat.reduceAdd, Nat.reduceSub, Nat.reduceLeDiff, Nat.reduceLT, List.reduceReplicate, Nat.reduceMul, Int.reduceNeg, reduceCtorEq, *,  horariumlaw4_CursorPlays_2, horariumlaw4_CursorPlays_3]
  refine Ev.imp (part_all (by omega) gl3 gb tr.ok tr.one hat) ?_
  rintro _ h4 ⟨rfl, x4⟩
  have n4 := x4.next
  have l4 := x4.lim
  have gl4 := gl3.ext x4
  have X4 : Ext h h4 := x2.trans (x3.trans x4)
  clear x2 x3 x4
  by_cases hr : rightR g.flat = 0
  · obtain ⟨h128, _⟩ := (right_iff _).1 hr
    have hln := right_len tr.ok tr.one hr
    have eB : lenB g.flat = true := by rw [lenB_flat tr.ok tr.one]; simp; omega
    have eR : lenR g.flat = g.len := by rw [lenR_flat tr.ok tr.one, if_pos hln]
    have hap := Fo.runs_allpos g tr.ok
    have hsum := Fo.runs_sum g tr.ok
    simp (disch := omega) only [go_sem, ↓reduceIte, Nat.reduceEqDiff, Nat.reduceAdd, Nat.reduceSub, Nat.reduceLeDiff, Nat.reduceLT, List.reduceReplicate, Nat.reduceMul, Int.reduceNeg, reduceCtorEq, *,  horariumlaw4_CursorPlays_3, horariumlaw4_CursorPlays_4]
    refine Wg_dec (fun hc => ?_) (fun hc => ?_)
    · have e4 : partA g at_ = -1 := by unfold partA; rw [if_neg (by omega)]
      simp (disch := omega) only [go_sem, ↓reduceIte, Nat.reduceEqDiff, Nat.reduceAdd, Nat.reduceSub, Nat.reduceLeDiff, Nat.reduceLT, List.reduceReplicate, Nat.reduceMul, Int.reduceNeg, reduceCtorEq, *,  horariumlaw4_CursorPlays_4, horariumlaw4_CursorPlays_5]
      simp (disch := omega) only [go_sem, ↓reduceIte, Nat.reduceEqDiff, Nat.reduceAdd, Nat.reduceSub, Nat.reduceLeDiff, Nat.reduceLT, List.reduceReplicate, Nat.reduceMul, Int.reduceNeg, reduceCtorEq, *,  horariumlaw4_CursorPlays_9]
      refine Ev.imp (play_ev (by omega) gl4 (hS.ext X4) gb) ?_
      rintro _ k1 ⟨rfl, y1⟩
      have m1 := y1.next
      have o1 := y1.lim
      simp (disch := omega) only [go_sem, ↓reduceIte, Nat.reduceEqDiff, Nat.reduceAdd, Nat.reduceSub, Nat.reduceLeDiff, Nat.reduceLT, List.reduceReplicate, Nat.reduceMul, Int.reduceNeg, reduceCtorEq, *,  horariumlaw4_CursorPlays_9]
      refine Ev.imp (play_ev (by omega) (hR.ext (X4.trans y1)) (hS.ext (X4.trans y1)) hRb) ?_
      rintro _ k2 ⟨rfl, y2⟩
      have m2 := y2.next
      have o2 := y2.lim
      simp (disch := omega) only [go_sem, ↓reduceIte, Nat.reduceEqDiff, Nat.reduceAdd, Nat.reduceSub, Nat.reduceLeDiff, Nat.reduceLT, List.reduceReplicate, Nat.reduceMul, Int.reduceNeg, reduceCtorEq, *,  horariumlaw4_CursorPlays_9]
      refine Ev.imp (known4_ev (by omega)) ?_
      rintro _ k3 ⟨rfl, y3⟩
      simp (disch := omega) only [go_sem, ↓reduceIte, Nat.reduceEqDiff, Nat.reduceAdd, Nat.reduceSub, Nat.reduceLeDiff, Nat.reduceLT, List.reduceReplicate, Nat.reduceMul, Int.reduceNeg, reduceCtorEq, *,  horariumlaw4_CursorPlays_9]
      exact X4.trans (y1.trans (y2.trans y3))
    · simp (disch := omega) only [go_sem, ↓reduceIte, Nat.reduceEqDiff, Nat.reduceAdd, Nat.reduceSub, Nat.reduceLeDiff, Nat.reduceLT, List.reduceReplicate, Nat.reduceMul, Int.reduceNeg, reduceCtorEq, *,  horariumlaw4_CursorPlays_4]
      refine Wg_dec (fun hc2 => ?_) (fun hc2 => ?_)
      · have e4 : partA g at_ = -1 := by unfold partA; rw [if_pos ⟨hr, by omega⟩, partGo_end _ _ hap (by omega)]
        simp (disch := omega) only [go_sem, ↓reduceIte, Nat.reduceEqDiff, Nat.reduceAdd, Nat.reduceSub, Nat.reduceLeDiff, Nat.reduceLT, List.reduceReplicate, Nat.reduceMul, Int.reduceNeg, reduceCtorEq, *,  horariumlaw4_CursorPlays_4, horariumlaw4_CursorPlays_5]
        simp (disch := omega) only [go_sem, ↓reduceIte, Nat.reduceEqDiff, Nat.reduceAdd, Nat.reduceSub, Nat.reduceLeDiff, Nat.reduceLT, List.reduceReplicate, Nat.reduceMul, Int.reduceNeg, reduceCtorEq, *,  horariumlaw4_CursorPlays_9]
        refine Ev.imp (play_ev (by omega) gl4 (hS.ext X4) gb) ?_
        rintro _ k1 ⟨rfl, y1⟩
        have m1 := y1.next
        have o1 := y1.lim
        simp (disch := omega) only [go_sem, ↓reduceIte, Nat.reduceEqDiff, Nat.reduceAdd, Nat.reduceSub, Nat.reduceLeDiff, Nat.reduceLT, List.reduceReplicate, Nat.reduceMul, Int.reduceNeg, reduceCtorEq, *,  horariumlaw4_CursorPlays_9]
        refine Ev.imp (play_ev (by omega) (hR.ext (X4.trans y1)) (hS.ext (X4.trans y1)) hRb) ?_
        rintro _ k2 ⟨rfl, y2⟩
        have m2 := y2.next
        have o2 := y2.lim
        simp (disch := omega) only [go_sem, ↓reduceIte, Nat.reduceEqDiff, Nat.reduceAdd, Nat.reduceSub, Nat.reduceLeDiff, Nat.reduceLT, List.reduceReplicate, Nat.reduceMul, Int.reduceNeg, reduceCtorEq, *,  horariumlaw4_CursorPlays_9]
        refine Ev.imp (known4_ev (by omega)) ?_
        rintro _ k3 ⟨rfl, y3⟩
        simp (disch := omega) only [go_sem, ↓reduceIte, Nat.reduceEqDiff, Nat.reduceAdd, Nat.reduceSub, Nat.reduceLeDiff, Nat.reduceLT, List.reduceReplicate, Nat.reduceMul, Int.reduceNeg, reduceCtorEq, *,  horariumlaw4_CursorPlays_9]
        exact X4.trans (y1.trans (y2.trans y3))
      · simp (disch := omega) only [go_sem, ↓reduceIte, Nat.reduceEqDiff, Nat.reduceAdd, Nat.reduceSub, Nat.reduceLeDiff, Nat.reduceLT, List.reduceReplicate, Nat.reduceMul, Int.reduceNeg, reduceCtorEq, *,  horariumlaw4_CursorPlays_4]
        refine Ev.imp (refRight_ev (by omega) gl4 gb) ?_
        rintro _ h5 ⟨rfl, x5⟩
        have n5 := x5.next
        have l5 := x5.lim
        have gl5 := gl4.ext x5
        have e4 : partA g at_ = partGo g.runs at_ := by unfold partA; rw [if_pos ⟨hr, by omega⟩]
        simp (disch := omega) only [go_sem, ↓reduceIte, Nat.reduceEqDiff, Nat.reduceAdd, Nat.reduceSub, Nat.reduceLeDiff, Nat.reduceLT, List.reduceReplicate, Nat.reduceMul, Int.reduceNeg, reduceCtorEq, *,  horariumlaw4_CursorPlays_4, horariumlaw4_CursorPlays_7]
        refine Ev.imp (law4leaves_ev (by omega) gl5 hr tr.ok tr.one hln) ?_
        rintro w h6 ⟨s6, o6, x6⟩
        have n6 := x6.next
        have l6 := x6.lim
        simp (disch := omega) only [go_sem, ↓reduceIte, Nat.reduceEqDiff, Nat.reduceAdd, Nat.reduceSub, Nat.reduceLeDiff, Nat.reduceLT, List.reduceReplicate, Nat.reduceMul, Int.reduceNeg, reduceCtorEq, *,  horariumlaw4_CursorPlays_7]
        refine Ev.imp (refAt_ev (by omega) s6 (by omega) (fun i hi => AllPos.nth hap hi)) ?_
        rintro _ h7 ⟨rfl, x7⟩
        have n7 := x7.next
        have l7 := x7.lim
        have gl7 := (gl5.ext x6).ext x7
        have X7 : Ext h h7 := X4.trans (x5.trans (x6.trans x7))
        simp (disch := omega) only [go_sem, ↓reduceIte, Nat.reduceEqDiff, Nat.reduceAdd, Nat.reduceSub, Nat.reduceLeDiff, Nat.reduceLT, List.reduceReplicate, Nat.reduceMul, Int.reduceNeg, reduceCtorEq, *,  horariumlaw4_CursorPlays_7]
        simp (disch := omega) only [go_sem, ↓reduceIte, Nat.reduceEqDiff, Nat.reduceAdd, Nat.reduceSub, Nat.reduceLeDiff, Nat.reduceLT, List.reduceReplicate, Nat.reduceMul, Int.reduceNeg, reduceCtorEq, *,  horariumlaw4_CursorPlays_9]
        refine Ev.imp (play_ev (by omega) gl7 (hS.ext X7) gb) ?_
        rintro _ k1 ⟨rfl, y1⟩
        have m1 := y1.next
        have o1 := y1.lim
        simp (disch := omega) only [go_sem, ↓reduceIte, Nat.reduceEqDiff, Nat.reduceAdd, Nat.reduceSub, Nat.reduceLeDiff, Nat.reduceLT, List.reduceReplicate, Nat.reduceMul, Int.reduceNeg, reduceCtorEq, *,  horariumlaw4_CursorPlays_9]
        refine Ev.imp (play_ev (by omega) (hR.ext (X7.trans y1)) (hS.ext (X7.trans y1)) hRb) ?_
        rintro _ k2 ⟨rfl, y2⟩
        have m2 := y2.next
        have o2 := y2.lim
        simp (disch := omega) only [go_sem, ↓reduceIte, Nat.reduceEqDiff, Nat.reduceAdd, Nat.reduceSub, Nat.reduceLeDiff, Nat.reduceLT, List.reduceReplicate, Nat.reduceMul, Int.reduceNeg, reduceCtorEq, *,  horariumlaw4_CursorPlays_9]
        refine Ev.imp (known4_ev (by omega)) ?_
        rintro _ k3 ⟨rfl, y3⟩
        simp (disch := omega) only [go_sem, ↓reduceIte, Nat.reduceEqDiff, Nat.reduceAdd, Nat.reduceSub, Nat.reduceLeDiff, Nat.reduceLT, List.reduceReplicate, Nat.reduceMul, Int.reduceNeg, reduceCtorEq, *,  horariumlaw4_CursorPlays_9]
        exact X7.trans (y1.trans (y2.trans y3))
  · have e4 : partA g at_ = -1 := by unfold partA; rw [if_neg (fun hh => hr hh.1)]
    simp (disch := omega) only [go_sem, ↓reduceIte, Nat.reduceEqDiff, Nat.reduceAdd, Nat.reduceSub, Nat.reduceLeDiff, Nat.reduceLT, List.reduceReplicate, Nat.reduceMul, Int.reduceNeg, reduceCtorEq, *,  horariumlaw4_CursorPlays_3, horariumlaw4_CursorPlays_4]
    cases eB : lenB g.flat with
    | false =>
      simp (disch := omega) only [go_sem, ↓reduceIte, Nat.reduceEqDiff, Nat.reduceAdd, Nat.reduceSub, Nat.reduceLeDiff, Nat.reduceLT, List.reduceReplicate, Nat.reduceMul, Int.reduceNeg, reduceCtorEq, *,  horariumlaw4_CursorPlays_4, horariumlaw4_CursorPlays_5]
      simp (disch := omega) only [go_sem, ↓reduceIte, Nat.reduceEqDiff, Nat.reduceAdd, Nat.reduceSub, Nat.reduceLeDiff, Nat.reduceLT, List.reduceReplicate, Nat.reduceMul, Int.reduceNeg, reduceCtorEq, *,  horariumlaw4_CursorPlays_9]
      refine Ev.imp (play_ev (by omega) gl4 (hS.ext X4) gb) ?_
      rintro _ k1 ⟨rfl, y1⟩
      have m1 := y1.next
      have o1 := y1.lim
      simp (disch := omega) only [go_sem, ↓reduceIte, Nat.reduceEqDiff, Nat.reduceAdd, Nat.reduceSub, Nat.reduceLeDiff, Nat.reduceLT, List.reduceReplicate, Nat.reduceMul, Int.reduceNeg, reduceCtorEq, *,  horariumlaw4_CursorPlays_9]
      refine Ev.imp (play_ev (by omega) (hR.ext (X4.trans y1)) (hS.ext (X4.trans y1)) hRb) ?_
      rintro _ k2 ⟨rfl, y2⟩
      have m2 := y2.next
      have o2 := y2.lim
      simp (disch := omega) only [go_sem, ↓reduceIte, Nat.reduceEqDiff, Nat.reduceAdd, Nat.reduceSub, Nat.reduceLeDiff, Nat.reduceLT, List.reduceReplicate, Nat.reduceMul, Int.reduceNeg, reduceCtorEq, *,  horariumlaw4_CursorPlays_9]
      refine Ev.imp (known4_ev (by omega)) ?_
      rintro _ k3 ⟨rfl, y3⟩
      simp (disch := omega) only [go_sem, ↓reduceIte, Nat.reduceEqDiff, Nat.reduceAdd, Nat.reduceSub, Nat.reduceLeDiff, Nat.reduceLT, List.reduceReplicate, Nat.reduceMul, Int.reduceNeg, reduceCtorEq, *,  horariumlaw4_CursorPlays_9]
      exact X4.trans (y1.trans (y2.trans y3))
    | true =>
      simp (disch := omega) only [go_sem, ↓reduceIte, Nat.reduceEqDiff, Nat.reduceAdd, Nat.reduceSub, Nat.reduceLeDiff, Nat.reduceLT, List.reduceReplicate, Nat.reduceMul, Int.reduceNeg, reduceCtorEq, *,  horariumlaw4_CursorPlays_4]
      refine Wg_dec (fun hc => ?_) (fun hc => ?_)
      · simp (disch := omega) only [go_sem, ↓reduceIte, Nat.reduceEqDiff, Nat.reduceAdd, Nat.reduceSub, Nat.reduceLeDiff, Nat.reduceLT, List.reduceReplicate, Nat.reduceMul, Int.reduceNeg, reduceCtorEq, *,  horariumlaw4_CursorPlays_4, horariumlaw4_CursorPlays_5]
        simp (disch := omega) only [go_sem, ↓reduceIte, Nat.reduceEqDiff, Nat.reduceAdd, Nat.reduceSub, Nat.reduceLeDiff, Nat.reduceLT, List.reduceReplicate, Nat.reduceMul, Int.reduceNeg, reduceCtorEq, *,  horariumlaw4_CursorPlays_9]
        refine Ev.imp (play_ev (by omega) gl4 (hS.ext X4) gb) ?_
        rintro _ k1 ⟨rfl, y1⟩
        have m1 := y1.next
        have o1 := y1.lim
        simp (disch := omega) only [go_sem, ↓reduceIte, Nat.reduceEqDiff, Nat.reduceAdd, Nat.reduceSub, Nat.reduceLeDiff, Nat.reduceLT, List.reduceReplicate, Nat.reduceMul, Int.reduceNeg, reduceCtorEq, *,  horariumlaw4_CursorPlays_9]
        refine Ev.imp (play_ev (by omega) (hR.ext (X4.trans y1)) (hS.ext (X4.trans y1)) hRb) ?_
        rintro _ k2 ⟨rfl, y2⟩
        have m2 := y2.next
        have o2 := y2.lim
        simp (disch := omega) only [go_sem, ↓reduceIte, Nat.reduceEqDiff, Nat.reduceAdd, Nat.reduceSub, Nat.reduceLeDiff, Nat.reduceLT, List.reduceReplicate, Nat.reduceMul, Int.reduceNeg, reduceCtorEq, *,  horariumlaw4_CursorPlays_9]
        refine Ev.imp (known4_ev (by omega)) ?_
        rintro _ k3 ⟨rfl, y3⟩
        simp (disch := omega) only [go_sem, ↓reduceIte, Nat.reduceEqDiff, Nat.reduceAdd, Nat.reduceSub, Nat.reduceLeDiff, Nat.reduceLT, List.reduceReplicate, Nat.reduceMul, Int.reduceNeg, reduceCtorEq, *,  horariumlaw4_CursorPlays_9]
        exact X4.trans (y1.trans (y2.trans y3))
      · simp (disch := omega) only [go_sem, ↓reduceIte, Nat.reduceEqDiff, Nat.reduceAdd, Nat.reduceSub, Nat.reduceLeDiff, Nat.reduceLT, List.reduceReplicate, Nat.reduceMul, Int.reduceNeg, reduceCtorEq, *,  horariumlaw4_CursorPlays_4]
        refine Wg_dec (fun hc2 => ?_) (fun hc2 => ?_)
        · simp (disch := omega) only [go_sem, ↓reduceIte, Nat.reduceEqDiff, Nat.reduceAdd, Nat.reduceSub, Nat.reduceLeDiff, Nat.reduceLT, List.reduceReplicate, Nat.reduceMul, Int.reduceNeg, reduceCtorEq, *,  horariumlaw4_CursorPlays_4, horariumlaw4_CursorPlays_5]
          simp (disch := omega) only [go_sem, ↓reduceIte, Nat.reduceEqDiff, Nat.reduceAdd, Nat.reduceSub, Nat.reduceLeDiff, Nat.reduceLT, List.reduceReplicate, Nat.reduceMul, Int.reduceNeg, reduceCtorEq, *,  horariumlaw4_CursorPlays_9]
          refine Ev.imp (play_ev (by omega) gl4 (hS.ext X4) gb) ?_
          rintro _ k1 ⟨rfl, y1⟩
          have m1 := y1.next
          have o1 := y1.lim
          simp (disch := omega) only [go_sem, ↓reduceIte, Nat.reduceEqDiff, Nat.reduceAdd, Nat.reduceSub, Nat.reduceLeDiff, Nat.reduceLT, List.reduceReplicate, Nat.reduceMul, Int.reduceNeg, reduceCtorEq, *,  horariumlaw4_CursorPlays_9]
          refine Ev.imp (play_ev (by omega) (hR.ext (X4.trans y1)) (hS.ext (X4.trans y1)) hRb) ?_
          rintro _ k2 ⟨rfl, y2⟩
          have m2 := y2.next
          have o2 := y2.lim
          simp (disch := omega) only [go_sem, ↓reduceIte, Nat.reduceEqDiff, Nat.reduceAdd, Nat.reduceSub, Nat.reduceLeDiff, Nat.reduceLT, List.reduceReplicate, Nat.reduceMul, Int.reduceNeg, reduceCtorEq, *,  horariumlaw4_CursorPlays_9]
          refine Ev.imp (known4_ev (by omega)) ?_
          rintro _ k3 ⟨rfl, y3⟩
          simp (disch := omega) only [go_sem, ↓reduceIte, Nat.reduceEqDiff, Nat.reduceAdd, Nat.reduceSub, Nat.reduceLeDiff, Nat.reduceLT, List.reduceReplicate, Nat.reduceMul, Int.reduceNeg, reduceCtorEq, *,  horariumlaw4_CursorPlays_9]
          exact X4.trans (y1.trans (y2.trans y3))
        · simp (disch := omega) only [go_sem, ↓reduceIte, Nat.reduceEqDiff, Nat.reduceAdd, Nat.reduceSub, Nat.reduceLeDiff, Nat.reduceLT, List.reduceReplicate, Nat.reduceMul, Int.reduceNeg, reduceCtorEq, *,  horariumlaw4_CursorPlays_4]
          refine Ev.imp (refRight_ev (by omega) gl4 gb) ?_
          rintro _ h5 ⟨rfl, x5⟩
          have n5 := x5.next
          have l5 := x5.lim
          have gl5 := gl4.ext x5
          have X5 : Ext h h5 := X4.trans x5
          simp (disch := omega) only [go_sem, ↓reduceIte, Nat.reduceEqDiff, Nat.reduceAdd, Nat.reduceSub, Nat.reduceLeDiff, Nat.reduceLT, List.reduceReplicate, Nat.reduceMul, Int.reduceNeg, reduceCtorEq, *,  horariumlaw4_CursorPlays_4, horariumlaw4_CursorPlays_5]
          simp (disch := omega) only [go_sem, ↓reduceIte, Nat.reduceEqDiff, Nat.reduceAdd, Nat.reduceSub, Nat.reduceLeDiff, Nat.reduceLT, List.reduceReplicate, Nat.reduceMul, Int.reduceNeg, reduceCtorEq, *,  horariumlaw4_CursorPlays_9]
          refine Ev.imp (play_ev (by omega) gl5 (hS.ext X5) gb) ?_
          rintro _ k1 ⟨rfl, y1⟩
          have m1 := y1.next
          have o1 := y1.lim
          simp (disch := omega) only [go_sem, ↓reduceIte, Nat.reduceEqDiff, Nat.reduceAdd, Nat.reduceSub, Nat.reduceLeDiff, Nat.reduceLT, List.reduceReplicate, Nat.reduceMul, Int.reduceNeg, reduceCtorEq, *,  horariumlaw4_CursorPlays_9]
          refine Ev.imp (play_ev (by omega) (hR.ext (X5.trans y1)) (hS.ext (X5.trans y1)) hRb) ?_
          rintro _ k2 ⟨rfl, y2⟩
          have m2 := y2.next
          have o2 := y2.lim
          simp (disch := omega) only [go_sem, ↓reduceIte, Nat.reduceEqDiff, Nat.reduceAdd, Nat.reduceSub, Nat.reduceLeDiff, Nat.reduceLT, List.reduceReplicate, Nat.reduceMul, Int.reduceNeg, reduceCtorEq, *,  horariumlaw4_CursorPlays_9]
          refine Ev.imp (known4_ev (by omega)) ?_
          rintro _ k3 ⟨rfl, y3⟩
          simp (disch := omega) only [go_sem, ↓reduceIte, Nat.reduceEqDiff, Nat.reduceAdd, Nat.reduceSub, Nat.reduceLeDiff, Nat.reduceLT, List.reduceReplicate, Nat.reduceMul, Int.reduceNeg, reduceCtorEq, *,  horariumlaw4_CursorPlays_9]
          exact X5.trans (y1.trans (y2.trans y3))
end Go.Ab.T
namespace Go.Ab.T
open Go Go.Ab
set_option linter.unusedSimpArgs false
set_option linter.unusedVariables false
section
variable {H : Type}
/-- A slice that holds data of a shape is a slice of things. -/
theorem dv_slice {α : Type} {en : α → List V} {h : AH} {e : Sh} {d : DataW H} {x : V} (hd : DV h (.sl e) d [x]) (hp : ∀ (y : DataW H) (r : List V), DV h e y r → ∃ a, r = en a) :
    ∃ L : List α, SlT en h e.size x L ∧ (d = .nil ∧ L = [] ∨ ∃ elems spare, d = .slice elems spare ∧ L.length = elems.length) := by
  simp only [DV] at hd
  rcases hd with ⟨rfl, h1⟩ | ⟨elems, spare, id, rows, rfl, h1, h2, h3, h4, h5, h6⟩
  · cases h1
    exact ⟨[], Sl.nil _ _, .inl ⟨rfl, rfl⟩⟩
  · cases h1
    have : ∀ (n : Nat) (rows : List (List V)), rows.length = n → (∀ r ∈ rows, ∃ a, r = en a) → ∃ L : List α, L.length = n ∧ rows = L.map en := by
      intro n rows
      induction rows generalizing n with
      | nil => intro hl _; exact ⟨[], by simpa using hl, rfl⟩
      | cons r rows ih =>
        intro hl hr
        obtain ⟨a, rfl⟩ := hr r (List.mem_cons_self ..)
        obtain ⟨L, hL, rfl⟩ := ih (n - 1) (by simp at hl; omega) (fun q hq => hr q (List.mem_cons_of_mem _ hq))
        exact ⟨a :: L, by simp at hl ⊢; omega, rfl⟩
    obtain ⟨L, hL, rfl⟩ := this elems.length rows h4 (fun r hr => by
      obtain ⟨j, hj, rfl⟩ := List.getElem_of_mem hr
      exact hp elems[j] _ (h6 j _ _ (by simp [show j < elems.length by omega]) (by simp [hj])))
    refine ⟨L, .inr ⟨id, 0, L.length, ⟨e.size, L.map en⟩, by simp [hL], h2, rfl, by simp, by simp [List.take_of_length_le], by simp, h3, by simpa [hL] using h5⟩, .inr ⟨elems, spare, rfl, hL⟩⟩
theorem dv_ints {h : AH} {d : DataW H} {x : V} (hd : DV h (.sl (.i .i64)) d [x]) : ∃ L : List Int, SlT E1 h 1 x L ∧ (d = .nil ∧ L = [] ∨ ∃ elems spare, d = .slice elems spare ∧ L.length = elems.length) :=
  dv_slice hd (fun y r hy => by obtain ⟨n, _, _, rfl⟩ := hy; exact ⟨n, rfl⟩)
def shNode : Sh := .agg (.cons (.i .i64) (.cons (.i .i64) (.cons (.i .i64) .nil)))
theorem dv_nodes {h : AH} {d : DataW H} {x : V} (hd : DV h (.sl shNode) d [x]) : ∃ L : List Node, SlT Node.enc h 3 x L ∧ (d = .nil ∧ L = [] ∨ ∃ elems spare, d = .slice elems spare ∧ L.length = elems.length) :=
  dv_slice hd (fun y r hy => by
    simp only [shNode, DV, DVs] at hy
    obtain ⟨_, _, _, _, v1, v2, _, rfl, ⟨a, _, _, rfl⟩, _, _, v3, v4, _, rfl, ⟨b, _, _, rfl⟩, _, _, v5, v6, _, rfl, ⟨c, _, _, rfl⟩, _, rfl⟩ := hy
    exact ⟨⟨a, b, c⟩, rfl⟩)
end
end Go.Ab.T
namespace Go.Ab.T
open Go Go.Ab
set_option linter.unusedSimpArgs false
set_option linter.unusedVariables false
/-! ### What Tidy is -/
def Lim62 (x : Int) : Prop := x ≤ 4611686018427387904
theorem addR_sum {a b : Int} (ha : 0 ≤ a) (hb : 0 ≤ b) (h : a + b ≤ 4611686018427387904) : addR a b = a + b := by unfold addR; rw [if_neg (by omega)]; omega
theorem tidy_snoc {B : List Run} {q r : Run} {l : List Run} (hr : 1 ≤ r.n) : tidyGo (r :: l) (B ++ [q]) = if q.part = r.part then tidyGo l (B ++ [⟨q.part, addR q.n r.n⟩]) else tidyGo l (B ++ [q] ++ [r]) := by
  have h1 : nth (B ++ [q]) ((B ++ [q]).length - 1) = q := by simp [nth, List.getD]
  rw [tidyGo, if_neg (by omega), h1]
  by_cases h : q.part = r.part
  · rw [if_pos ⟨by simp, h⟩, if_pos h, h]
    congr 1
    rw [List.length_append, List.length_singleton, Nat.add_sub_cancel, List.set_append_right _ _ (Nat.le_refl _)]
    simp
  · rw [if_neg (fun hh => h hh.2), if_neg h]
theorem tidy_nil {r : Run} {l : List Run} (hr : 1 ≤ r.n) : tidyGo (r :: l) [] = tidyGo l [r] := by
  rw [tidyGo, if_neg (by omega), if_neg (by simp)]; rfl
def tk (p : Int) : List Run → Int
  | [] => 0
  | r :: l => (if r.part = p then r.n else 0) + tk p l
theorem tk_app (p : Int) : ∀ (a b : List Run), tk p (a ++ b) = tk p a + tk p b
  | [], b => by simp [tk]
  | r :: l, b => by simp only [List.cons_append, tk, tk_app p l b]; omega
def Sep : List Run → Prop
  | [] => True
  | [_] => True
  | a :: b :: l => a.part ≠ b.part ∧ Sep (b :: l)
theorem sep_snoc : ∀ {B : List Run} {q r : Run}, Sep (B ++ [q]) → q.part ≠ r.part → Sep (B ++ [q] ++ [r])
  | [], q, r, _, h => ⟨h, trivial⟩
  | [a], q, r, h1, h => ⟨h1.1, h, trivial⟩
  | a :: b :: B, q, r, h1, h => ⟨h1.1, sep_snoc (B := b :: B) h1.2 h⟩
theorem sep_last : ∀ {B : List Run} {q r : Run}, Sep (B ++ [q]) → q.part = r.part → Sep (B ++ [r])
  | [], q, r, _, h => trivial
  | [a], q, r, h1, h => ⟨by rw [← h]; exact h1.1, trivial⟩
  | a :: b :: B, q, r, h1, h => ⟨h1.1, sep_last (B := b :: B) h1.2 h⟩
theorem allPos_app {a b : List Run} (h : AllPos (a ++ b)) : AllPos a ∧ AllPos b := ⟨fun r hr => h r (List.mem_append_left _ hr), fun r hr => h r (List.mem_append_right _ hr)⟩
theorem allPos_mk {a b : List Run} (h1 : AllPos a) (h2 : AllPos b) : AllPos (a ++ b) := fun r hr => by
  rcases List.mem_append.1 hr with hr | hr
  · exact h1 r hr
  · exact h2 r hr
theorem partGo_merge {p a b : Int} {l : List Run} (ha : 0 ≤ a) (hb : 0 ≤ b) : ∀ (B : List Run) (t : Int), partGo (B ++ ⟨p, a + b⟩ :: l) t = partGo (B ++ ⟨p, a⟩ :: ⟨p, b⟩ :: l) t
  | [], t => by
    simp only [List.nil_append, partGo]
    by_cases h1 : t < a + b
    · rw [if_pos h1]
      by_cases h2 : t < a
      · rw [if_pos h2]
      · rw [if_neg h2, if_pos (by omega)]
    · rw [if_neg h1, if_neg (by omega), if_neg (by omega)]; congr 1; omega
  | r :: B, t => by simp only [List.cons_append, partGo, partGo_merge ha hb B]
/-- All that is said of a tidy row. -/
structure TidyOf (L R : List Run) : Prop where
  pos : AllPos R
  sep : Sep R
  sum : sumN R = sumN L
  tks : ∀ p, tk p R = tk p L
  at_ : ∀ t, partGo R t = partGo L t
  parts : ∀ r ∈ R, ∃ q ∈ L, q.part = r.part
  len : R.length ≤ L.length
  ne : L ≠ [] → R ≠ []
theorem tidy_of : ∀ (l B : List Run) (q : Run), AllPos (B ++ [q]) → AllPos l → Sep (B ++ [q]) → sumN (B ++ [q]) + sumN l ≤ 4611686018427387904 → TidyOf (B ++ [q] ++ l) (tidyGo l (B ++ [q]))
  | [], B, q, hp, _, hs, _ => by
    rw [tidyGo, List.append_nil]
    exact ⟨hp, hs, rfl, fun _ => rfl, fun _ => rfl, fun r hr => ⟨r, hr, rfl⟩, Nat.le_refl _, fun h => h⟩
  | r :: l, B, q, hp, hl, hs, hb => by
    have hr := hl r (List.mem_cons_self ..)
    have hl2 : AllPos l := fun x hx => hl x (List.mem_cons_of_mem _ hx)
    have hq := hp q (by simp)
    have hB := (allPos_app hp).1
    have sB := sumN_pos hB
    have sl := sumN_pos hl2
    simp only [sumN, sumN_app] at hb
    rw [tidy_snoc hr]
    by_cases h : q.part = r.part
    · rw [if_pos h, addR_sum (by omega) (by omega) (by omega)]
      have ih := tidy_of l B ⟨q.part, q.n + r.n⟩ (allPos_mk hB (fun x hx => by simp at hx; subst hx; simp only; omega)) hl2 (sep_last hs rfl) (by simp only [sumN, sumN_app]; omega)
      refine ⟨ih.pos, ih.sep, by rw [ih.sum]; simp only [sumN, sumN_app]; omega, fun p => ?_, fun t => ?_, fun x hx => ?_, ?_, fun _ => ih.ne (by simp)⟩
      · rw [ih.tks]; simp only [tk, tk_app, h]; split <;> omega
      · rw [ih.at_]
        have e1 : B ++ [⟨q.part, q.n + r.n⟩] ++ l = B ++ ⟨q.part, q.n + r.n⟩ :: l := by simp
        have e2 : B ++ [q] ++ r :: l = B ++ ⟨q.part, q.n⟩ :: ⟨q.part, r.n⟩ :: l := by
          rw [show (⟨q.part, r.n⟩ : Run) = r by cases r; simp_all]; simp
        rw [e1, e2]
        exact partGo_merge (by omega) (by omega) B t
      · obtain ⟨y, hy, he⟩ := ih.parts x hx
        rcases List.mem_append.1 hy with hy | hy
        · rcases List.mem_append.1 hy with hy | hy
          · exact ⟨y, by simp [hy], he⟩
          · simp at hy; subst hy; exact ⟨q, by simp, he⟩
        · exact ⟨y, by simp [hy], he⟩
      · have := ih.len; simp at this ⊢; omega
    · rw [if_neg h]
      have ih := tidy_of l (B ++ [q]) r (allPos_mk hp (fun x hx => by simp at hx; subst hx; exact hr)) hl2 (sep_snoc hs h) (by simp only [sumN, sumN_app]; omega)
      have e : B ++ [q] ++ [r] ++ l = B ++ [q] ++ r :: l := by simp
      rw [e] at ih
      exact ih
theorem tidyOf {L : List Run} (hp : AllPos L) (hs : sumN L ≤ 4611686018427387904) : TidyOf L (tidyGo L []) := by
  cases L with
  | nil => exact ⟨hp, trivial, rfl, fun _ => rfl, fun _ => rfl, fun r hr => ⟨r, hr, rfl⟩, Nat.le_refl _, fun h => h⟩
  | cons r l =>
    rw [tidy_nil (hp r (List.mem_cons_self ..))]
    exact tidy_of l [] r (fun x hx => by simp at hx; subst hx; exact hp _ (List.mem_cons_self ..)) (fun x hx => hp x (List.mem_cons_of_mem _ hx)) trivial (by simpa [sumN] using hs)
/-- What is tidy stays. -/
theorem tidy_sep : ∀ (l B : List Run) (q : Run), AllPos l → Sep (B ++ [q] ++ l) → tidyGo l (B ++ [q]) = B ++ [q] ++ l
  | [], B, q, _, _ => by rw [tidyGo, List.append_nil]
  | r :: l, B, q, hl, hs => by
    have hr := hl r (List.mem_cons_self ..)
    have hne : q.part ≠ r.part := by
      have : ∀ (B : List Run), Sep (B ++ [q] ++ r :: l) → q.part ≠ r.part := by
        intro B
        induction B with
        | nil => intro h; exact h.1
        | cons a B ih =>
          intro h
          cases B with
          | nil => exact ih h.2
          | cons b B => exact ih h.2
      exact this B hs
    rw [tidy_snoc hr, if_neg hne]
    have e : B ++ [q] ++ [r] ++ l = B ++ [q] ++ r :: l := by simp
    rw [tidy_sep l (B ++ [q]) r (fun x hx => hl x (List.mem_cons_of_mem _ hx)) (by rw [e]; exact hs), e]
theorem tidy_stays {X : List Run} (hp : AllPos X) (hs : Sep X) : tidyGo X [] = X := by
  cases X with
  | nil => rfl
  | cons r l =>
    rw [tidy_nil (hp r (List.mem_cons_self ..))]
    exact tidy_sep l [] r (fun x hx => hp x (List.mem_cons_of_mem _ hx)) hs
theorem sep_nth : ∀ {X : List Run} (i : Nat), Sep X → i + 1 < X.length → (nth X i).part ≠ (nth X (i + 1)).part
  | [], i, _, h => by simp at h
  | [_], i, _, h => by simp at h
  | a :: b :: l, 0, h, _ => h.1
  | a :: b :: l, i + 1, h, hi => by
    have := sep_nth (X := b :: l) i h.2 (by simpa using hi)
    rwa [nth_cons, nth_cons]
/-! ### What the loops tell, where nothing runs over -/
theorem ticksGo_tk (p : Int) : ∀ (L : List Run) (a : Int), AllPos L → 0 ≤ a → a + sumN L ≤ 4611686018427387904 → ticksGo p L a = a + tk p L
  | [], a, _, _, _ => by simp [ticksGo, tk]
  | r :: l, a, hp, ha, hb => by
    have hr := hp r (List.mem_cons_self ..)
    have hl : AllPos l := fun x hx => hp x (List.mem_cons_of_mem _ hx)
    have := sumN_pos hl
    simp only [sumN] at hb
    rw [ticksGo, tk]
    split
    · rw [addR_sum ha (by omega) (by omega), ticksGo_tk p l _ hl (by omega) (by omega)]; omega
    · rw [ticksGo_tk p l _ hl ha (by omega)]; omega
theorem lengthGo_sum : ∀ (L : List Run) (a : Int), AllPos L → 0 ≤ a → a + sumN L ≤ 4611686018427387904 → lengthGo L a = a + sumN L
  | [], a, _, _, _ => by simp [lengthGo, sumN]
  | r :: l, a, hp, ha, hb => by
    have hr := hp r (List.mem_cons_self ..)
    have hl : AllPos l := fun x hx => hp x (List.mem_cons_of_mem _ hx)
    have := sumN_pos hl
    simp only [sumN] at hb ⊢
    rw [lengthGo, addR_sum ha (by omega) (by omega), lengthGo_sum l _ hl (by omega) (by omega)]; omega
theorem atGo_part : ∀ (L : List Run) (t : Int), AllPos L → atGo L t = partGo L t
  | [], t, _ => rfl
  | r :: l, t, hp => by
    have hr := hp r (List.mem_cons_self ..)
    rw [atGo, partGo, show max 0 r.n = r.n by omega, atGo_part l _ (fun x hx => hp x (List.mem_cons_of_mem _ hx))]
theorem atR_part {L : List Run} {t : Int} (hp : AllPos L) (ht : 0 ≤ t) : atR L t = partGo L t := by
  unfold atR; rw [if_neg (by omega), atGo_part L t hp]
theorem eqGo_self : ∀ (L : List Run), eqGo L L = true
  | [] => rfl
  | r :: l => by rw [eqGo, if_pos ⟨rfl, rfl⟩, eqGo_self l]
theorem eqR_self (L : List Run) : eqR L L = true := by unfold eqR; rw [if_pos rfl, eqGo_self]
theorem swGo_le : ∀ (L : List Run) (n : Int), swGo L n ≤ n + L.length
  | [], n => by simp [swGo]
  | r :: l, n => by
    have := swGo_le l (if r.part = -1 then n else n + 1)
    rw [swGo]; simp only [List.length_cons]
    split at this <;> split <;> simp_all <;> omega
theorem runsOk_pos {L : List Run} (hp : AllPos L) (hs : sumN L ≤ 4611686018427387904) : RunsOk L := by
  intro i hi
  have h1 := sumN_take L i hi
  have h2 := sumN_take_le L (i + 1) hp
  have h3 := sumN_pos (w := L.take i) (fun q hq => hp q (List.mem_of_mem_take hq))
  omega
/-! ### Rows of rows -/
theorem tidy_app : ∀ (a b A : List Run), tidyGo (a ++ b) A = tidyGo b (tidyGo a A)
  | [], b, A => rfl
  | r :: l, b, A => by
    rw [List.cons_append, tidyGo, tidyGo]
    split
    · exact tidy_app l b A
    · split
      · exact tidy_app l b _
      · exact tidy_app l b _
theorem tidy_front : ∀ (l : List Run) (B : List Run) (q : Run), AllPos l → tidyGo l (B ++ [q]) = B ++ tidyGo l [q]
  | [], B, q, _ => rfl
  | r :: l, B, q, hl => by
    have hr := hl r (List.mem_cons_self ..)
    have hl2 : AllPos l := fun x hx => hl x (List.mem_cons_of_mem _ hx)
    have h1 := tidy_snoc (B := []) (q := q) (l := l) hr
    simp only [List.nil_append] at h1
    rw [tidy_snoc hr, h1]
    split
    · exact tidy_front l B _ hl2
    · rw [tidy_front l (B ++ [q]) r hl2, show [q] ++ [r] = [q] ++ [r] from rfl, tidy_front l [q] r hl2, List.append_assoc]
theorem tidy_len : ∀ (l : List Run) (q q' : Run), AllPos l → q.part = q'.part → (tidyGo l [q]).length = (tidyGo l [q']).length
  | [], q, q', _, _ => rfl
  | r :: l, q, q', hl, h => by
    have hr := hl r (List.mem_cons_self ..)
    have hl2 : AllPos l := fun x hx => hl x (List.mem_cons_of_mem _ hx)
    have h1 := tidy_snoc (B := []) (q := q) (l := l) hr
    have h2 := tidy_snoc (B := []) (q := q') (l := l) hr
    simp only [List.nil_append] at h1 h2
    rw [h1, h2, h]
    split
    · exact tidy_len l _ _ hl2 rfl
    · rw [tidy_front l [q] r hl2, tidy_front l [q'] r hl2]; simp
theorem tidy_join (l : List Run) (A : List Run) (hl : AllPos l) : (tidyGo l A).length ≤ A.length + (tidyGo l []).length := by
  rcases List.eq_nil_or_concat A with rfl | ⟨B, q, rfl⟩
  · simp
  · rw [List.concat_eq_append, tidy_front l B q hl]
    cases l with
    | nil => simp [tidyGo]
    | cons r l =>
      have hr := hl r (List.mem_cons_self ..)
      have hl2 : AllPos l := fun x hx => hl x (List.mem_cons_of_mem _ hx)
      have h1 := tidy_snoc (B := []) (q := q) (l := l) hr
      simp only [List.nil_append] at h1
      rw [tidy_nil hr, h1]
      split
      · rename_i h
        rw [List.length_append, tidy_len l ⟨q.part, addR q.n r.n⟩ r hl2 h]; simp
      · rw [tidy_front l [q] r hl2]; simp; omega
theorem tidy_rep (l : List Run) (hl : AllPos l) : ∀ (m : Nat) (A : List Run), (tidyGo (List.replicate m l).flatten A).length ≤ A.length + m * (tidyGo l []).length
  | 0, A => by simp [tidyGo]
  | m + 1, A => by
    rw [List.replicate_succ, List.flatten_cons, tidy_app]
    have h1 := tidy_rep l hl m (tidyGo l A)
    have h2 := tidy_join l A hl
    rw [Nat.succ_mul]; omega
theorem tk_rep (p : Int) (l : List Run) : ∀ (m : Nat), tk p (List.replicate m l).flatten = m * tk p l
  | 0 => by simp [tk]
  | m + 1 => by rw [List.replicate_succ, List.flatten_cons, tk_app, tk_rep p l m, Int.natCast_add, Int.add_mul]; simp; omega
end Go.Ab.T
namespace Go.Ab.T
open Go Go.Ab
set_option linter.unusedSimpArgs false
set_option linter.unusedVariables false
set_option maxHeartbeats 2000000
theorem Cur.app {h h4 : AH} {id : Nat} {lv sv o w : V} {L : List Node} {c : Cs} (k : Cur h id lv sv L c) (a : App2 h o w h4) (ho : o = .ns ∨ (idV o ≠ id ∧ idV o ≠ idV lv ∧ (sv = .ns ∨ idV o ≠ idV sv))) : Cur h4 id lv sv L c := by
  have hn := a.next
  refine ⟨by rw [a.get id k.hi (ho.imp (fun x => x) (fun x => x.1.symm))]; exact k.blk, ?_, ?_, k.pos, k.big, k.sbig, k.lne, by rw [a.lim]; exact k.sne, by rw [a.lim]; exact k.lo, by have := k.hi; omega⟩
  · exact Sl.same k.row hn (fun _ hl => a.get _ hl (ho.imp (fun x => x) (fun x => x.2.1.symm)))
  · refine Sl.same k.stk hn (fun hv hl => a.get _ hl ?_)
    rcases ho with h1 | h1
    · exact .inl h1
    · rcases h1.2.2 with h2 | h2
      · exact absurd h2 hv
      · exact .inr h2.symm
/-- A row that grows beside a cursor. -/
def Beside (h0 : AH) (id : Nat) (lv sv o : V) : Prop := o = .ns ∨ (h0.next ≤ idV o ∧ idV o ≠ id ∧ idV o ≠ idV lv ∧ (sv = .ns ∨ idV o ≠ idV sv))
theorem Beside.step {h0 h h' : AH} {id : Nat} {lv sv sv' o : V} (b : Beside h0 id lv sv o) (hl : o = .ns ∨ idV o < h.next) (f : CurF h id sv h' sv') : Beside h0 id lv sv' o := by
  rcases hl with hl | hl
  · exact .inl hl
  rcases b with b | b
  · exact .inl b
  · refine .inr ⟨b.1, b.2.1, b.2.2.1, ?_⟩
    rcases f.own with h1 | ⟨h1, h2⟩ | h1
    · exact .inl h1
    · rcases b.2.2.2 with h3 | h3
      · exact absurd h3 h1
      · exact .inr (by omega)
    · exact .inr (by omega)
theorem NewC.app {h0 h h4 : AH} {L : List Node} {id : Nat} {lv sv o w : V} {c : Cs} (n : NewC h0 h L id lv sv c) (a : App2 h o w h4) (b : Beside h0 id lv sv o) : NewC h0 h4 L id lv sv c ∧ Beside h0 id lv sv w := by
  have hn := a.next
  have x := n.ext
  have := x.next
  refine ⟨⟨n.cur.app a (b.imp (fun x => x) (fun x => x.2)), ⟨by omega, a.lim.trans x.lim, fun i hi => ?_⟩, n.id_, n.lv_, n.sv_⟩, ?_⟩
  · rw [a.get i (by omega) (b.imp (fun x => x) (fun x => by omega)), x.get i hi]
  · rcases a.own with ⟨h1, h2⟩ | h1
    · rcases b with b | b
      · exact absurd b h1
      · exact .inr (by rw [h2]; exact b)
    · have h3 := n.cur.hi
      have h4 := n.cur.row.facts.lt n.cur.pos
      have h5 := n.cur.svlt
      exact .inr ⟨by omega, by omega, by omega, h5.imp (fun x => x) (fun x => by omega)⟩
def ofT (f : Fo) : List Run := tidyGo f.runs []
theorem Of_bad {h : AH} {v : V} {L : List Node} (hw : h.lim ≤ h.next) (hS : SlT Node.enc h 3 v L) (hLb : L.length < 4000000000) (hr : rightR L ≠ 0) : Ev tp i_runs_Of [v] h (fun r h' => r = .tup [.ns, .i .i64 (rightR L)] ∧ Ext h h') := by
  refine Ev_of fn_runs_Of (by simp [t_runs_Of]) ?_; unfold t_runs_Of
  simp (disch := omega) only [go_sem, ↓reduceIte, Nat.reduceEqDiff, Nat.reduceAdd, Nat.reduceSub, Nat.reduceLeDiff, Nat.reduceLT, List.reduceReplicate, Nat.reduceMul, Int.reduceNeg, reduceCtorEq, *,  runs_Of_0, runs_Of_1]
  refine Ev.imp (nodeRight_ev hw hS hLb) ?_
  rintro _ h2 ⟨rfl, hx2⟩
  simp (disch := omega) only [go_sem, ↓reduceIte, Nat.reduceEqDiff, Nat.reduceAdd, Nat.reduceSub, Nat.reduceLeDiff, Nat.reduceLT, List.reduceReplicate, Nat.reduceMul, Int.reduceNeg, reduceCtorEq, *,  runs_Of_1, runs_Of_2, runs_Of_3]
theorem Of_ev {h : AH} {v : V} {f : Fo} (hw : h.lim ≤ h.next) (hS : SlT Node.enc h 3 v f.flat) (hr : rightR f.flat = 0) (ho : f.ok) (hc : f.count = 1) (hl : f.len ≤ 4096) : Ev tp i_runs_Of [v] h (fun r h' => ∃ o e, r = .tup [o, .i .i64 e] ∧ (if 96 < (ofT f).length then o = .ns ∧ e = 3 else e = 0 ∧ SlT Run.enc h' 2 o (ofT f)) ∧ Own h o ∧ Ext h h') := by
  have hLb := ((right_iff _).1 hr).1
  have hap := Fo.runs_allpos f ho
  have hsum := Fo.runs_sum f ho
  have hrl := Fo.runs_len f ho
  refine Ev_of fn_runs_Of (by simp [t_runs_Of]) ?_; unfold t_runs_Of
  simp (disch := omega) only [go_sem, ↓reduceIte, Nat.reduceEqDiff, Nat.reduceAdd, Nat.reduceSub, Nat.reduceLeDiff, Nat.reduceLT, List.reduceReplicate, Nat.reduceMul, Int.reduceNeg, reduceCtorEq, *,  runs_Of_0, runs_Of_1]
  refine Ev.imp (nodeRight_ev hw hS (by omega)) ?_
  rintro _ h2 ⟨rfl, hx2⟩
  have n2 := hx2.next
  have l2 := hx2.lim
  simp (disch := omega) only [go_sem, ↓reduceIte, Nat.reduceEqDiff, Nat.reduceAdd, Nat.reduceSub, Nat.reduceLeDiff, Nat.reduceLT, List.reduceReplicate, Nat.reduceMul, Int.reduceNeg, reduceCtorEq, *,  runs_Of_1, runs_Of_2, runs_Of_4, runs_Of_5]
  refine Ev.imp (new_good (by omega) (hS.ext hx2) (by omega) hr) ?_
  rintro _ h3 ⟨id, lv, sv, rfl, N3⟩
  simp (disch := omega) only [go_sem, ↓reduceIte, Nat.reduceEqDiff, Nat.reduceAdd, Nat.reduceSub, Nat.reduceLeDiff, Nat.reduceLT, List.reduceReplicate, Nat.reduceMul, Int.reduceNeg, reduceCtorEq, *,  runs_Of_5]
  refine WC_loop_n (fun n e h' => ∃ (sv' o : V) (c : Cs) (l A : List Run), n = l.length ∧ e 5 = o ∧ e 6 = .p id 0 0 ∧ NewC h2 h' f.flat id lv sv' c ∧ Rem f.flat c l ∧ SlT Run.enc h' 2 o A ∧ Beside h2 id lv sv' o ∧ A ++ l = f.runs) ?_ _ _ _ ⟨sv, .ns, cur0 f.flat, f.runs, [], rfl, ?_⟩
  · rintro n e h' ⟨sv', o, c, l, A, rfl, e5, e6, N, R, so, bo, hz⟩ ih
    have nn := N.ext.next
    have ll := N.ext.lim
    have lm := N.cur.lim_le
    have olt : o = .ns ∨ idV o < h'.next := by
      by_cases hs : o = .ns
      · exact .inl hs
      · exact .inr (idV_ns_lt so hs)
    rw [runs_Of_9_go]
    simp (disch := omega) only [go_sem, ↓reduceIte, Nat.reduceEqDiff, Nat.reduceAdd, Nat.reduceSub, Nat.reduceLeDiff, Nat.reduceLT, List.reduceReplicate, Nat.reduceMul, Int.reduceNeg, reduceCtorEq, *,  runs_Of_6]
    match l, R, hz, ih with
    | [], R, hz, ih =>
      refine Ev.imp (newNext_end N R) ?_
      rintro _ h4 ⟨rfl, N4, x4⟩
      have l4 : h4.lim ≤ h4.next := N4.cur.lim_le
      have xb : Ext h4 ((h4.alloc ⟨2, [[.i .i64 0, .i .i64 0]]⟩).put h4.next ⟨2, [[.i .i64 0, .i .i64 0]]⟩) := Ext.box
      have N5 := N4.grow xb
      have y5 := N5.ext
      have so5 := (so.ext x4).ext xb
      have hA : A = f.runs := by simpa using hz
      subst hA
      simp (disch := omega) only [go_sem, ↓reduceIte, Nat.reduceEqDiff, Nat.reduceAdd, Nat.reduceSub, Nat.reduceLeDiff, Nat.reduceLT, List.reduceReplicate, Nat.reduceMul, Int.reduceNeg, reduceCtorEq, *,  runs_Of_6, runs_Of_7, runs_Of_10]
      refine Ev.imp (tidy_ev (by simp only [lim_put, lim_alloc, next_put, next_alloc]; omega) so5 (runsOk_pos hap (by omega)) (by omega)) ?_
      rintro t h6 ⟨st, ot, x6⟩
      have tlen := st.facts.len
      have ho6 : Own h t := by
        have := y5.next
        have := n2
        rcases ot with h7 | h7
        · exact .inl h7
        · exact .inr (by omega)
      have hx6 : Ext h h6 := hx2.trans (y5.trans x6)
      simp (disch := omega) only [go_sem, ↓reduceIte, Nat.reduceEqDiff, Nat.reduceAdd, Nat.reduceSub, Nat.reduceLeDiff, Nat.reduceLT, List.reduceReplicate, Nat.reduceMul, Int.reduceNeg, reduceCtorEq, *,  runs_Of_10, runs_Of_11]
      refine Wb_dec (fun hc5 => ?_) (fun hc5 => ?_)
      · simp (disch := omega) only [go_sem, ↓reduceIte, Nat.reduceEqDiff, Nat.reduceAdd, Nat.reduceSub, Nat.reduceLeDiff, Nat.reduceLT, List.reduceReplicate, Nat.reduceMul, Int.reduceNeg, reduceCtorEq, *,  runs_Of_12]
        refine ⟨.ns, 3, rfl, ?_, .inl rfl⟩
        unfold ofT
        rw [if_pos (by omega)]; exact ⟨rfl, rfl⟩
      · simp (disch := omega) only [go_sem, ↓reduceIte, Nat.reduceEqDiff, Nat.reduceAdd, Nat.reduceSub, Nat.reduceLeDiff, Nat.reduceLT, List.reduceReplicate, Nat.reduceMul, Int.reduceNeg, reduceCtorEq, *,  runs_Of_13]
        refine ⟨t, 0, rfl, ?_, ho6⟩
        unfold ofT
        rw [if_neg (by omega)]; exact ⟨rfl, st⟩
    | r :: l, R, hz, ih =>
      refine Ev.imp (newNext N R) ?_
      rintro _ h4 ⟨rfl, s4, c4, N4, f4, R4, a4⟩
      clear a4
      have l4 : h4.lim ≤ h4.next := N4.cur.lim_le
      have bo4 := bo.step olt f4
      have so4 : SlT Run.enc h4 2 o A := by
        refine Sl.same so f4.next (fun hv hl => ?_)
        rcases bo with b | b
        · exact absurd b hv
        · exact f4.get _ hl b.2.1 b.2.2.2
      have xb : Ext h4 ((h4.alloc ⟨2, [[.i .i64 0, .i .i64 0]]⟩).put h4.next ⟨2, [[.i .i64 r.part, .i .i64 r.n]]⟩) := Ext.box
      have N5 := N4.grow xb
      have so5 := so4.ext xb
      have hzl := congrArg List.length hz
      simp only [List.length_append, List.length_cons] at hzl
      have n5 := N5.ext.next
      have l5 := N5.ext.lim
      simp only [next_put, next_alloc, lim_put, lim_alloc] at n5 l5
      simp (disch := omega) only [go_sem, ↓reduceIte, Nat.reduceEqDiff, Nat.reduceAdd, Nat.reduceSub, Nat.reduceLeDiff, Nat.reduceLT, List.reduceReplicate, Nat.reduceMul, Int.reduceNeg, reduceCtorEq, *,  runs_Of_6, runs_Of_7, runs_Of_8, fillE]
      refine app_two so5 ?_ (by simp; omega) ?_
      · rcases bo4 with b | b
        · exact .inl b
        · exact .inr (by simp only [lim_put, lim_alloc]; omega)
      intro w h6 s6 a6
      obtain ⟨N6, b6⟩ := N5.app a6 bo4
      simp (disch := omega) only [go_sem, ↓reduceIte, Nat.reduceEqDiff, Nat.reduceAdd, Nat.reduceSub, Nat.reduceLeDiff, Nat.reduceLT, List.reduceReplicate, Nat.reduceMul, Int.reduceNeg, reduceCtorEq, *,  runs_Of_8]
      refine ih _ _ _ ?_ ⟨s4, w, c4, l, A ++ [r], rfl, ?_⟩
      · simp
      · simp (disch := omega) only [go_sem, ↓reduceIte, Nat.reduceEqDiff, Nat.reduceAdd, Nat.reduceSub, Nat.reduceLeDiff, Nat.reduceLT, List.reduceReplicate, Nat.reduceMul, Int.reduceNeg, reduceCtorEq, *]
        exact ⟨by simpa [SlT, Run.enc] using s6, by rw [← hz]; simp⟩
  · simp (disch := omega) only [go_sem, ↓reduceIte, Nat.reduceEqDiff, Nat.reduceAdd, Nat.reduceSub, Nat.reduceLeDiff, Nat.reduceLT, List.reduceReplicate, Nat.reduceMul, Int.reduceNeg, reduceCtorEq, *]
    exact ⟨start_rem ho hc hl, Sl.nil _ _, .inl rfl⟩
theorem refOf_bad {h : AH} {v : V} {L : List Node} (hw : h.lim ≤ h.next) (hS : SlT Node.enc h 3 v L) (hLb : L.length < 4000000000) (hr : rightR L ≠ 0) : Ev tp i_horariumref3_Of [v] h (fun r h' => r = .tup [.ns, .i .i64 (rightR L)] ∧ Ext h h') := by
  refine Ev_of fn_horariumref3_Of (by simp [t_horariumref3_Of]) ?_; unfold t_horariumref3_Of
  simp (disch := omega) only [go_sem, ↓reduceIte, Nat.reduceEqDiff, Nat.reduceAdd, Nat.reduceSub, Nat.reduceLeDiff, Nat.reduceLT, List.reduceReplicate, Nat.reduceMul, Int.reduceNeg, reduceCtorEq, *,  horariumref3_Of_0, horariumref3_Of_1]
  refine Ev.imp (refRight_ev hw hS hLb) ?_
  rintro _ h2 ⟨rfl, hx2⟩
  simp (disch := omega) only [go_sem, ↓reduceIte, Nat.reduceEqDiff, Nat.reduceAdd, Nat.reduceSub, Nat.reduceLeDiff, Nat.reduceLT, List.reduceReplicate, Nat.reduceMul, Int.reduceNeg, reduceCtorEq, *,  horariumref3_Of_1, horariumref3_Of_2, horariumref3_Of_3]
theorem refOf_ev {h : AH} {v : V} {f : Fo} (hw : h.lim ≤ h.next) (hS : SlT Node.enc h 3 v f.flat) (hr : rightR f.flat = 0) (ho : f.ok) (hc : f.count = 1) (hl : f.len ≤ 4096) : Ev tp i_horariumref3_Of [v] h (fun r h' => ∃ o e, r = .tup [o, .i .i64 e] ∧ (if 96 < (ofT f).length then o = .ns ∧ e = 3 else e = 0 ∧ SlT Run.enc h' 2 o (ofT f)) ∧ Own h o ∧ Ext h h') := by
  have hLb := ((right_iff _).1 hr).1
  have hap := Fo.runs_allpos f ho
  have hsum := Fo.runs_sum f ho
  have hrl := Fo.runs_len f ho
  refine Ev_of fn_horariumref3_Of (by simp [t_horariumref3_Of]) ?_; unfold t_horariumref3_Of
  simp (disch := omega) only [go_sem, ↓reduceIte, Nat.reduceEqDiff, Nat.reduceAdd, Nat.reduceSub, Nat.reduceLeDiff, Nat.reduceLT, List.reduceReplicate, Nat.reduceMul, Int.reduceNeg, reduceCtorEq, *,  horariumref3_Of_0, horariumref3_Of_1]
  refine Ev.imp (refRight_ev hw hS (by omega)) ?_
  rintro _ h2 ⟨rfl, hx2⟩
  have n2 := hx2.next
  have l2 := hx2.lim
  simp (disch := omega) only [go_sem, ↓reduceIte, Nat.reduceEqDiff, Nat.reduceAdd, Nat.reduceSub, Nat.reduceLeDiff, Nat.reduceLT, List.reduceReplicate, Nat.reduceMul, Int.reduceNeg, reduceCtorEq, *,  horariumref3_Of_1, horariumref3_Of_2, horariumref3_Of_4]
  refine Ev.imp (refLeaves_ev (by omega) (hS.ext hx2) (by omega) ho hc hl) ?_
  rintro w h3 ⟨s3, o3, x3⟩
  have n3 := x3.next
  have l3 := x3.lim
  simp (disch := omega) only [go_sem, ↓reduceIte, Nat.reduceEqDiff, Nat.reduceAdd, Nat.reduceSub, Nat.reduceLeDiff, Nat.reduceLT, List.reduceReplicate, Nat.reduceMul, Int.reduceNeg, reduceCtorEq, *,  horariumref3_Of_4]
  refine Ev.imp (refTidy_ev (by omega) s3 (runsOk_pos hap (by omega)) (by omega)) ?_
  rintro t h4 ⟨st, ot, x4⟩
  have tlen := st.facts.len
  have hx4 : Ext h h4 := hx2.trans (x3.trans x4)
  have ho6 : Own h t := by
    rcases ot with h7 | h7
    · exact .inl h7
    · exact .inr (by omega)
  simp (disch := omega) only [go_sem, ↓reduceIte, Nat.reduceEqDiff, Nat.reduceAdd, Nat.reduceSub, Nat.reduceLeDiff, Nat.reduceLT, List.reduceReplicate, Nat.reduceMul, Int.reduceNeg, reduceCtorEq, *,  horariumref3_Of_4, horariumref3_Of_5]
  refine Wb_dec (fun hc5 => ?_) (fun hc5 => ?_)
  · simp (disch := omega) only [go_sem, ↓reduceIte, Nat.reduceEqDiff, Nat.reduceAdd, Nat.reduceSub, Nat.reduceLeDiff, Nat.reduceLT, List.reduceReplicate, Nat.reduceMul, Int.reduceNeg, reduceCtorEq, *,  horariumref3_Of_6]
    refine ⟨.ns, 3, rfl, ?_, .inl rfl⟩
    unfold ofT
    rw [if_pos (by omega)]; exact ⟨rfl, rfl⟩
  · simp (disch := omega) only [go_sem, ↓reduceIte, Nat.reduceEqDiff, Nat.reduceAdd, Nat.reduceSub, Nat.reduceLeDiff, Nat.reduceLT, List.reduceReplicate, Nat.reduceMul, Int.reduceNeg, reduceCtorEq, *,  horariumref3_Of_7]
    refine ⟨t, 0, rfl, ?_, ho6⟩
    unfold ofT
    rw [if_neg (by omega)]; exact ⟨rfl, st⟩
def runOk (r : Run) : Bool := decide (1 ≤ r.n ∧ r.n ≤ 4096 ∧ -1 ≤ r.part ∧ r.part < 6)
def frameB (L : List Run) : Bool := L.all runOk && decide (0 < L.length ∧ L.length ≤ 96 ∧ sumN L ≤ 4096)
theorem runsPart_ev {h : AH} {p : Int} : Ev tp i_runs_part [.i .i64 p] h (fun r h' => r = .b (decide (-1 ≤ p ∧ p < 6)) ∧ h' = h) := by
  refine Ev_of fn_runs_part (by simp [t_runs_part]) ?_; unfold t_runs_part
  simp (disch := omega) only [go_sem, ↓reduceIte, Nat.reduceEqDiff, Nat.reduceAdd, Nat.reduceSub, Nat.reduceLeDiff, Nat.reduceLT, List.reduceReplicate, Nat.reduceMul, Int.reduceNeg, reduceCtorEq, *,  runs_part_0, runs_part_1]
  repeat' (first | (refine Wg_dec (fun hc => ?_) (fun hc => ?_) <;> simp (disch := omega) only [go_sem, ↓reduceIte, Nat.reduceEqDiff, Nat.reduceAdd, Nat.reduceSub, Nat.reduceLeDiff, Nat.reduceLT, List.reduceReplicate, Nat.reduceMul, Int.reduceNeg, reduceCtorEq, *,  runs_part_0, runs_part_1]) | (refine Wb_dec (fun hc => ?_) (fun hc => ?_) <;> simp (disch := omega) only [go_sem, ↓reduceIte, Nat.reduceEqDiff, Nat.reduceAdd, Nat.reduceSub, Nat.reduceLeDiff, Nat.reduceLT, List.reduceReplicate, Nat.reduceMul, Int.reduceNeg, reduceCtorEq, *,  runs_part_0, runs_part_1]))
  all_goals (first | (congr 1; done) | (congr 1; simp; done) | (congr 1; simp; omega) | (simp; omega))
theorem runsRight_ev {h : AH} {v : V} {L : List Run} (hw : h.lim ≤ h.next) (hS : SlT Run.enc h 2 v L) : Ev tp i_runs_Right [v] h (fun r h' => r = .b (frameB L) ∧ Ext h h') := by
  obtain ⟨hlen, hbig, hlt, hget, hat, hrow⟩ := hS.facts
  refine Ev_of fn_runs_Right (by simp [t_runs_Right]) ?_; unfold t_runs_Right
  simp (disch := omega) only [go_sem, ↓reduceIte, Nat.reduceEqDiff, Nat.reduceAdd, Nat.reduceSub, Nat.reduceLeDiff, Nat.reduceLT, List.reduceReplicate, Nat.reduceMul, Int.reduceNeg, reduceCtorEq, *,  runs_Right_0, runs_Right_1, runs_Right_2]
  refine WC_loop_n (fun n e h' => ∃ (i : Nat) (a : Int), n = L.length - i ∧ e 0 = v ∧ e 3 = .i .i64 a ∧ e 6 = v ∧ e 7 = .i .i64 L.length ∧ e 8 = .i .i64 i ∧ Ext h h' ∧ i ≤ L.length ∧ 0 ≤ a ∧ a ≤ 4096 * i ∧ (L.drop i).all runOk = L.all runOk ∧ a + sumN (L.drop i) = sumN L) ?_ _ _ _ ⟨0, 0, rfl, ?_⟩
  · rintro n e h' ⟨i, a, rfl, e0, e3, e6, e7, e8, hx, hi, ha0, ha, hz, hs⟩ ih
    have hg := hx.get
    have hn := hx.next
    have hl := hx.lim
    rw [runs_Right_9_go]
    simp (disch := omega) only [go_sem, ↓reduceIte, Nat.reduceEqDiff, Nat.reduceAdd, Nat.reduceSub, Nat.reduceLeDiff, Nat.reduceLT, List.reduceReplicate, Nat.reduceMul, Int.reduceNeg, reduceCtorEq, *,  runs_Right_3]
    refine Wb_dec (fun hc => ?_) (fun hc => ?_)
    · rw [drop_nth (by omega), List.all_cons] at hz
      rw [drop_nth (by omega), sumN] at hs
      have hxb : Ext h ((h'.alloc ⟨2, [[.i .i64 0, .i .i64 0]]⟩).put h'.next ⟨2, [[.i .i64 (nth L i).part, .i .i64 (nth L i).n]]⟩) := hx.trans Ext.box
      have bad : runOk (nth L i) = false → frameB L = false := by
        intro hb
        unfold frameB; rw [← hz, hb]; simp
      simp (disch := omega) only [go_sem, ↓reduceIte, Nat.reduceEqDiff, Nat.reduceAdd, Nat.reduceSub, Nat.reduceLeDiff, Nat.reduceLT, List.reduceReplicate, Nat.reduceMul, Int.reduceNeg, reduceCtorEq, *,  runs_Right_4, runs_Right_5]
      refine Wg_dec (fun hc2 => ?_) (fun hc2 => ?_)
      · have hb := bad (by simp [runOk]; omega)
        simp (disch := omega) only [go_sem, ↓reduceIte, Nat.reduceEqDiff, Nat.reduceAdd, Nat.reduceSub, Nat.reduceLeDiff, Nat.reduceLT, List.reduceReplicate, Nat.reduceMul, Int.reduceNeg, reduceCtorEq, *,  runs_Right_5, runs_Right_6]
      · simp (disch := omega) only [go_sem, ↓reduceIte, Nat.reduceEqDiff, Nat.reduceAdd, Nat.reduceSub, Nat.reduceLeDiff, Nat.reduceLT, List.reduceReplicate, Nat.reduceMul, Int.reduceNeg, reduceCtorEq, *,  runs_Right_5]
        refine Wg_dec (fun hc3 => ?_) (fun hc3 => ?_)
        · have hb := bad (by simp [runOk]; omega)
          simp (disch := omega) only [go_sem, ↓reduceIte, Nat.reduceEqDiff, Nat.reduceAdd, Nat.reduceSub, Nat.reduceLeDiff, Nat.reduceLT, List.reduceReplicate, Nat.reduceMul, Int.reduceNeg, reduceCtorEq, *,  runs_Right_5, runs_Right_6]
        · simp (disch := omega) only [go_sem, ↓reduceIte, Nat.reduceEqDiff, Nat.reduceAdd, Nat.reduceSub, Nat.reduceLeDiff, Nat.reduceLT, List.reduceReplicate, Nat.reduceMul, Int.reduceNeg, reduceCtorEq, *,  runs_Right_5]
          refine Ev.imp runsPart_ev ?_
          rintro _ h5 ⟨rfl, rfl⟩
          simp (disch := omega) only [go_sem, ↓reduceIte, Nat.reduceEqDiff, Nat.reduceAdd, Nat.reduceSub, Nat.reduceLeDiff, Nat.reduceLT, List.reduceReplicate, Nat.reduceMul, Int.reduceNeg, reduceCtorEq, *,  runs_Right_5]
          refine Wb_dec (fun hc4 => ?_) (fun hc4 => ?_)
          · have hb := bad (by simp [runOk]; omega)
            simp (disch := omega) only [go_sem, ↓reduceIte, Nat.reduceEqDiff, Nat.reduceAdd, Nat.reduceSub, Nat.reduceLeDiff, Nat.reduceLT, List.reduceReplicate, Nat.reduceMul, Int.reduceNeg, reduceCtorEq, *,  runs_Right_6]
          · have hok : runOk (nth L i) = true := by simp [runOk]; omega
            rw [hok, Bool.true_and] at hz
            simp (disch := omega) only [go_sem, ↓reduceIte, Nat.reduceEqDiff, Nat.reduceAdd, Nat.reduceSub, Nat.reduceLeDiff, Nat.reduceLT, List.reduceReplicate, Nat.reduceMul, Int.reduceNeg, reduceCtorEq, *,  runs_Right_7, runs_Right_8]
            refine ih _ _ _ ?_ ⟨i + 1, a + (nth L i).n, rfl, ?_⟩
            · omega
            · simp (disch := omega) only [go_sem, ↓reduceIte, Nat.reduceEqDiff, Nat.reduceAdd, Nat.reduceSub, Nat.reduceLeDiff, Nat.reduceLT, List.reduceReplicate, Nat.reduceMul, Int.reduceNeg, reduceCtorEq, *]
              exact ⟨by omega, by omega, by omega, by omega⟩
    · rw [List.drop_eq_nil_of_le (by omega)] at hz hs
      simp only [List.all_nil, sumN] at hz hs
      have hz2 := hz.symm
      clear hz
      have hav : a = sumN L := by omega
      simp (disch := omega) only [go_sem, ↓reduceIte, Nat.reduceEqDiff, Nat.reduceAdd, Nat.reduceSub, Nat.reduceLeDiff, Nat.reduceLT, List.reduceReplicate, Nat.reduceMul, Int.reduceNeg, reduceCtorEq, *,  runs_Right_10]
      refine Wg_dec (fun hc2 => ?_) (fun hc2 => ?_)
      · simp (disch := omega) only [go_sem, ↓reduceIte, Nat.reduceEqDiff, Nat.reduceAdd, Nat.reduceSub, Nat.reduceLeDiff, Nat.reduceLT, List.reduceReplicate, Nat.reduceMul, Int.reduceNeg, reduceCtorEq, *,  runs_Right_10]
        refine Wg_dec (fun hc3 => ?_) (fun hc3 => ?_)
        · simp (disch := omega) only [go_sem, ↓reduceIte, Nat.reduceEqDiff, Nat.reduceAdd, Nat.reduceSub, Nat.reduceLeDiff, Nat.reduceLT, List.reduceReplicate, Nat.reduceMul, Int.reduceNeg, reduceCtorEq, *,  runs_Right_10]
          have q1 : 0 < L.length := by omega
          have q2 : L.length ≤ 96 := by omega
          unfold frameB; rw [hz2]; simp [q1, q2]
        · simp (disch := omega) only [go_sem, ↓reduceIte, Nat.reduceEqDiff, Nat.reduceAdd, Nat.reduceSub, Nat.reduceLeDiff, Nat.reduceLT, List.reduceReplicate, Nat.reduceMul, Int.reduceNeg, reduceCtorEq, *,  runs_Right_10]
          first | (refine ⟨?_, hx⟩; congr 1; unfold frameB; rw [hz2]; simp; omega) | (unfold frameB; rw [hz2]; simp; omega)
      · simp (disch := omega) only [go_sem, ↓reduceIte, Nat.reduceEqDiff, Nat.reduceAdd, Nat.reduceSub, Nat.reduceLeDiff, Nat.reduceLT, List.reduceReplicate, Nat.reduceMul, Int.reduceNeg, reduceCtorEq, *,  runs_Right_10]
        first | (refine ⟨?_, hx⟩; congr 1; unfold frameB; rw [hz2]; simp; omega) | (unfold frameB; rw [hz2]; simp; omega)
  · simp (disch := omega) only [go_sem, ↓reduceIte, Nat.reduceEqDiff, Nat.reduceAdd, Nat.reduceSub, Nat.reduceLeDiff, Nat.reduceLT, List.reduceReplicate, Nat.reduceMul, Int.reduceNeg, reduceCtorEq, *]
    exact ⟨Ext.refl h, Nat.zero_le _, by omega, by omega, by simp⟩
end Go.Ab.T
namespace Go.Ab.T
open Go Go.Ab
set_option linter.unusedSimpArgs false
set_option linter.unusedVariables false
set_option maxHeartbeats 4000000
set_option maxRecDepth 10000
def fo2 : Fo := .rep ⟨4, 0, 2⟩ (.leaf ⟨1, 0, 5⟩ .nil) .nil
theorem fo2_ok : fo2.ok := ⟨rfl, kids_rep (by omega), rfl, ⟨kids_win (by omega) (by omega) (by omega), trivial⟩, trivial⟩
theorem fo2_right : rightR fo2.flat = 0 := right_flat fo2_ok rfl (by decide) (by decide) (by decide)
def kR : List Run := [⟨0, 5⟩, ⟨-1, 1⟩]
def kR0 : List Run := [⟨0, 2⟩, ⟨0, 3⟩, ⟨1, 0⟩, ⟨-1, 1⟩]
theorem ext_lim {h h' : AH} (x : Ext h h') (hw : h.lim ≤ h.next) : h'.lim ≤ h'.next := by have := x.lim; have := x.next; omega
theorem known5_ev {h : AH} (hw : h.lim ≤ h.next) : Ev tp i_horariumlaw5_known [] h (fun r h' => r = .b true ∧ Ext h h') := by
  refine Ev_of fn_horariumlaw5_known (by simp [t_horariumlaw5_known]) ?_; unfold t_horariumlaw5_known
  simp (disch := omega) only [go_sem, ↓reduceIte, Nat.reduceEqDiff, Nat.reduceAdd, Nat.reduceSub, Nat.reduceLeDiff, Nat.reduceLT, List.reduceReplicate, Nat.reduceMul, Int.reduceNeg, reduceCtorEq, *,  horariumlaw5_known_0, horariumlaw5_known_1, fillP, fillE]
  have xa : Ext h (h.alloc ⟨2, kR0.map Run.enc⟩) := (Ext.refl h).alloc _
  have sa : SlT Run.enc (h.alloc ⟨2, kR0.map Run.enc⟩) 2 (.sl h.next 0 4 4) kR0 := sl_lit (L := kR0) (by decide)
  have ok0 : RunsOk kR0 := by
    intro i hi
    match i, hi with
    | 0, _ => decide
    | 1, _ => decide
    | 2, _ => decide
    | 3, _ => decide
  refine Ev.imp (tidy_ev (ext_lim xa hw) sa ok0 (by decide)) ?_
  rintro t h1 ⟨st, ot, x1⟩
  have X1 := xa.trans x1
  have w1 := ext_lim X1 hw
  have e0 : tidyGo kR0 [] = kR := by decide
  rw [e0] at st
  clear e0
  simp (disch := omega) only [go_sem, ↓reduceIte, Nat.reduceEqDiff, Nat.reduceAdd, Nat.reduceSub, Nat.reduceLeDiff, Nat.reduceLT, List.reduceReplicate, Nat.reduceMul, Int.reduceNeg, reduceCtorEq, *,  horariumlaw5_known_1, horariumlaw5_known_2, fillP, fillE]
  have xb : Ext h1 (h1.alloc ⟨3, fo2.flat.map Node.enc⟩) := (Ext.refl h1).alloc _
  have sb : SlT Node.enc (h1.alloc ⟨3, fo2.flat.map Node.enc⟩) 3 (.sl h1.next 0 2 2) fo2.flat := sl_lit (L := fo2.flat) (by decide)
  refine Ev.imp (Of_ev (ext_lim xb w1) sb fo2_right fo2_ok rfl (by decide)) ?_
  rintro _ h2 ⟨o, e, rfl, hoe, oo, x2⟩
  rw [show ofT fo2 = [⟨0, 10⟩] by decide, if_neg (by decide)] at hoe
  obtain ⟨rfl, so⟩ := hoe
  have X2 := xb.trans x2
  have w2 := ext_lim X2 w1
  have s2 := st.ext X2
  obtain ⟨tlen, tbig, tlt, tget, tat, trow⟩ := s2.facts
  obtain ⟨olen, obig, olt, oget, oat, orow⟩ := so.facts
  have tr0 := trow 0 (by decide)
  have or0 := orow 0 (by decide)
  rw [Nat.add_zero] at tr0 or0
  have kn : nth kR 0 = ⟨0, 5⟩ := rfl
  have kl : kR.length = 2 := rfl
  have kn1 : nth ([⟨0, 10⟩] : List Run) 0 = ⟨0, 10⟩ := rfl
  have kl1 : ([⟨0, 10⟩] : List Run).length = 1 := rfl
  rw [kl] at tlen tlt tget tat
  rw [kl1] at olen olt oget oat
  rw [kn] at tr0
  rw [kn1] at or0
  clear trow orow kl kl1 kn kn1
  have z0 : Int.toNat 0 = 0 := rfl
  replace tlen : lenV t = some (.i .i64 2) := tlen
  replace olen : lenV o = some (.i .i64 1) := olen
  replace tat : ∀ (k : IntKind) (cs : List (List V)), iad2 (some ⟨2, cs⟩) 2 t (.i k 0) = some (.p (idV t) (elV t) 0) := fun k cs => tat k 0 cs (by decide) (by decide)
  replace oat : ∀ (k : IntKind) (cs : List (List V)), iad2 (some ⟨2, cs⟩) 2 o (.i k 0) = some (.p (idV o) (elV o) 0) := fun k cs => oat k 0 cs (by decide) (by decide)
  replace tget := tget (by decide)
  replace oget := oget (by decide)
  replace tlt := tlt (by decide)
  replace olt := olt (by decide)
  have q1 : switchesR kR = 1 := by decide
  have q2 : frameB [] = false := by decide
  have q3 : frameB kR = true := by decide
  have q4 : ticksGo 0 kR 0 = 5 := by decide
  have q5 : lengthGo kR 0 = 6 := by decide
  have q6 : atR kR 5 = -1 := by decide
  have q7 : atR kR 4 = 0 := by decide
  have q8 := eqR_self kR
  have okk : RunsOk kR := by
    intro i hi
    match i, hi with
    | 0, _ => decide
    | 1, _ => decide
  simp (disch := omega) only [go_sem, ↓reduceIte, Nat.reduceEqDiff, Nat.reduceAdd, Nat.reduceSub, Nat.reduceLeDiff, Nat.reduceLT, List.reduceReplicate, Nat.reduceMul, Int.reduceNeg, reduceCtorEq, *,  horariumlaw5_known_2, horariumlaw5_known_3, eqV, eqL, eqC, fillP, Int.reduceEq]
  refine Ev.imp (switches_ev w2 s2 okk (by decide)) ?_
  rintro _ h3 ⟨rfl, x3⟩
  have w3 := ext_lim x3 w2
  simp (disch := omega) only [go_sem, ↓reduceIte, Nat.reduceEqDiff, Nat.reduceAdd, Nat.reduceSub, Nat.reduceLeDiff, Nat.reduceLT, List.reduceReplicate, Nat.reduceMul, Int.reduceNeg, reduceCtorEq, *,  horariumlaw5_known_3, Int.reduceEq]
  refine Ev.imp (runsRight_ev (L := []) w3 (Sl.nil _ _)) ?_
  rintro _ h4 ⟨rfl, x4⟩
  have w4 := ext_lim x4 w3
  have s4 := (s2.ext x3).ext x4
  simp (disch := omega) only [go_sem, ↓reduceIte, Nat.reduceEqDiff, Nat.reduceAdd, Nat.reduceSub, Nat.reduceLeDiff, Nat.reduceLT, List.reduceReplicate, Nat.reduceMul, Int.reduceNeg, reduceCtorEq, *,  horariumlaw5_known_3, Int.reduceEq]
  refine Ev.imp (runsRight_ev w4 s4) ?_
  rintro _ h5 ⟨rfl, x5⟩
  have w5 := ext_lim x5 w4
  have s5 := s4.ext x5
  have X5 := x3.trans (x4.trans x5)
  have og5 := (X5.get (idV o) olt).trans oget
  simp (disch := omega) only [go_sem, ↓reduceIte, Nat.reduceEqDiff, Nat.reduceAdd, Nat.reduceSub, Nat.reduceLeDiff, Nat.reduceLT, List.reduceReplicate, Nat.reduceMul, Int.reduceNeg, reduceCtorEq, *,  horariumlaw5_known_3, Int.reduceEq]
  refine Ev.imp (ticks_ev w5 s5 okk) ?_
  rintro _ h6 ⟨rfl, x6⟩
  have w6 := ext_lim x6 w5
  have s6 := s5.ext x6
  simp (disch := omega) only [go_sem, ↓reduceIte, Nat.reduceEqDiff, Nat.reduceAdd, Nat.reduceSub, Nat.reduceLeDiff, Nat.reduceLT, List.reduceReplicate, Nat.reduceMul, Int.reduceNeg, reduceCtorEq, *,  horariumlaw5_known_3, Int.reduceEq]
  refine Ev.imp (length_ev w6 s6 okk) ?_
  rintro _ h7 ⟨rfl, x7⟩
  have w7 := ext_lim x7 w6
  have s7 := s6.ext x7
  simp (disch := omega) only [go_sem, ↓reduceIte, Nat.reduceEqDiff, Nat.reduceAdd, Nat.reduceSub, Nat.reduceLeDiff, Nat.reduceLT, List.reduceReplicate, Nat.reduceMul, Int.reduceNeg, reduceCtorEq, *,  horariumlaw5_known_3, Int.reduceEq]
  refine Ev.imp (at_ev (t := 5) w7 s7 (by omega)) ?_
  rintro _ h8 ⟨rfl, x8⟩
  have w8 := ext_lim x8 w7
  have s8 := s7.ext x8
  simp (disch := omega) only [go_sem, ↓reduceIte, Nat.reduceEqDiff, Nat.reduceAdd, Nat.reduceSub, Nat.reduceLeDiff, Nat.reduceLT, List.reduceReplicate, Nat.reduceMul, Int.reduceNeg, reduceCtorEq, *,  horariumlaw5_known_3, Int.reduceEq]
  refine Ev.imp (at_ev (t := 4) w8 s8 (by omega)) ?_
  rintro _ h9 ⟨rfl, x9⟩
  have s9 := s8.ext x9
  simp (disch := omega) only [go_sem, ↓reduceIte, Nat.reduceEqDiff, Nat.reduceAdd, Nat.reduceSub, Nat.reduceLeDiff, Nat.reduceLT, List.reduceReplicate, Nat.reduceMul, Int.reduceNeg, reduceCtorEq, *,  horariumlaw5_known_3, Int.reduceEq]
  refine Ev.imp (same_ev s9 s9) ?_
  rintro _ h9' ⟨rfl, rfl⟩
  simp (disch := omega) only [go_sem, ↓reduceIte, Nat.reduceEqDiff, Nat.reduceAdd, Nat.reduceSub, Nat.reduceLeDiff, Nat.reduceLT, List.reduceReplicate, Nat.reduceMul, Int.reduceNeg, reduceCtorEq, *,  horariumlaw5_known_3, Int.reduceEq]
  exact X1.trans (X2.trans (X5.trans (x6.trans (x7.trans (x8.trans x9)))))
end Go.Ab.T
