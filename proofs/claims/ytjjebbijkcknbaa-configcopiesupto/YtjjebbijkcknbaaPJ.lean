/- Part of the proof that ConfigCopies returns true for every input of the second form's bound (no other condition). -/
import Derived.Test.YtjjebbijkcknbaaPI
set_option linter.all false
namespace Go.Ab.T
open Go Go.Ab
set_option maxHeartbeats 4000000
section
variable {ow : Bool} {C : Config} {h h' : AH} {vp vc vt o1 o2 : V} {A : List Part} {X : List Chan} {B : List (List Node)}
theorem KS.keep {h2 : AH} (a : KS ow C h h' vp vc vt o1 o2 A X B) (hn : h'.next ≤ h2.next) (hl : h2.lim = h'.lim) (g : ∀ i, i < h'.next → h2.get i = h'.get i) : Owns (h.next + 3) h'.next h2 (ownL ow vp vc vt o1 o2 A X B) ∧ h2.lim = h.lim ∧ (∀ i, i < h.next → h2.get i = h.get i) ∧ h2.get h.next = some ⟨3, [C.enc]⟩ ∧ h2.get (h.next + 1) = some ⟨3, [[.ns, .ns, .ns]]⟩ ∧ h2.get (h.next + 2) = some ⟨3, [[vp, vc, vt]]⟩ := by
  have := a.own.bq
  exact ⟨a.own.keep hn g, hl.trans a.lim, fun i hi => (g i (by omega)).trans (a.low i hi), (g _ (by omega)).trans a.arg, (g _ (by omega)).trans a.res, (g _ (by omega)).trans a.box⟩
theorem KS.mk2 {h5 : AH} {q : Nat} {vp' vc' vt' o1' o2' : V} {A' : List Part} {X' : List Chan} {B' : List (List Node)} (o : Owns (h.next + 3) q h5 (ownL ow vp' vc' vt' o1' o2' A' X' B')) (hl : h5.lim = h.lim) (low : ∀ i, i < h.next → h5.get i = h.get i) (arg : h5.get h.next = some ⟨3, [C.enc]⟩) (res : h5.get (h.next + 1) = some ⟨3, [[.ns, .ns, .ns]]⟩) :
    KS ow C h (h5.put (h.next + 2) ⟨3, [[vp', vc', vt']]⟩) vp' vc' vt' o1' o2' A' X' B' := by
  have := o.bq; have := o.q2
  exact ⟨(o.put _ _ (.inl (by omega))).up (by rw [next_put]; omega) (Nat.le_refl _), hl, fun i hi => by rw [get_put, gsel_ne (by omega)]; exact low i hi, by rw [get_put, gsel_ne (by omega)]; exact arg, by rw [get_put, gsel_ne (by omega)]; exact res, by rw [get_put, gsel_eq rfl]⟩
theorem rowsP_len {ow : Bool} {v : V} {A : List Part} : (rowsP ow v A).length = A.length := by cases A <;> simp [rowsP]
theorem rowsT_len {ow : Bool} {v : V} {A : List (List Node)} : (rowsT ow v A).length = A.length := by cases A <;> simp [rowsT]
theorem own_next {i : Nat} {w : V} {Ps : List Part} (hcase : ¬ (ow = true ∧ i = 0)) (hi : i ≤ Ps.length) (hts : Ps.take (i + 1) = Ps.take i ++ [nth Ps i]) (hc : i < Ps.length) : ownL ow w .ns .ns o1 .ns (Ps.take (i + 1)) [] [] = (ownL ow vp .ns .ns o1 .ns (Ps.take i) [] []).set 0 (11, w, rowsP ow o1 (Ps.take i) ++ [(nth Ps i).enc]) := by
  rw [hts]
  by_cases h0 : i = 0
  · have hf : ow = false := by cases ow with | false => rfl | true => exact absurd ⟨rfl, h0⟩ hcase
    subst hf; subst h0
    simp [ownL, rowsP, r1]
  · have hne : Ps.take i ≠ [] := by
      intro h; have : (Ps.take i).length = 0 := by rw [h]; rfl
      rw [List.length_take] at this; omega
    rw [ownL, rowsP_snoc hne, r1_snoc hne]; rfl
theorem copy_parts {K : Ex → Env → AH → Prop} {e : Env} (hlo : h.lim ≤ h.next) (hPl : C.parts.length < 4000000000) (a : KS ow C h h' .ns .ns .ns .ns .ns [] [] [])
    (e1 : e 1 = .p h.next 0 0) (e2 : e 2 = .p (h.next + 1) 0 0) (e3 : e 3 = .p (h.next + 2) 0 0) (e9 : e 9 = .fl 11 (C.parts.map Part.enc)) (e10 : e 10 = .i .i64 C.parts.length) (e11 : e 11 = .i .i64 0)
    (kk : ∀ e' h' vp o1, e' 1 = .p h.next 0 0 → e' 2 = .p (h.next + 1) 0 0 → e' 3 = .p (h.next + 2) 0 0 → KS ow C h h' vp .ns .ns o1 .ns C.parts [] [] → K (.ex 0) e' h') : ZC tp (.loop Q16_8) e h' K := by
  refine ZC_loop_n (fun n' e hh => ∃ (i : Nat) (vp o1 : V), n' = C.parts.length - i ∧ e 1 = .p h.next 0 0 ∧ e 2 = .p (h.next + 1) 0 0 ∧ e 3 = .p (h.next + 2) 0 0 ∧ e 9 = .fl 11 (C.parts.map Part.enc) ∧ e 10 = .i .i64 C.parts.length ∧ e 11 = .i .i64 i ∧ i ≤ C.parts.length ∧ KS ow C h hh vp .ns .ns o1 .ns (C.parts.take i) [] []) ?_ _ _ _ ⟨0, .ns, .ns, rfl, e1, e2, e3, e9, e10, e11, by omega, a⟩
  clear e1 e2 e3 e9 e10 e11 e a
  rintro n' e hh ⟨i, vp, o1, rfl, e1, e2, e3, e9, e10, e11, hi, a⟩ ih
  have hbq := a.own.bq
  have hlh := a.lim
  rw [ZC_unf Q16_8.eq_1]
  simp (disch := omega) only [go_sem, *]
  refine Wb_dec (fun hc => ?_) (fun hc => ?_)
  · have hts := take_snoc (L := C.parts) (i := i) (by omega)
    simp (disch := omega) only [go_sem, *]
    have x1 : Ext hh ((hh.alloc ⟨11, [[.s ⟨#[]⟩, .i .i64 0, .i .i64 0, .b false, .b false, .ns, .i .i64 0, .i .i64 0, .i .i64 0, .i .i64 0, .i .i64 0]]⟩).put hh.next ⟨11, [(nth C.parts i).enc]⟩) := by (repeat (first | exact Ext.refl _ | refine Ext.alloc ?_ _ | (refine Ext.put ?_ _ _ ?_; rotate_left; (first | omega | (simp only [next_alloc, next_put]; omega)))))
    have b1 : ((hh.alloc ⟨11, [[.s ⟨#[]⟩, .i .i64 0, .i .i64 0, .b false, .b false, .ns, .i .i64 0, .i .i64 0, .i .i64 0, .i .i64 0, .i .i64 0]]⟩).put hh.next ⟨11, [(nth C.parts i).enc]⟩).get hh.next = some ⟨11, [(nth C.parts i).enc]⟩ := by rw [get_put, gsel_eq rfl]
    have n1 : hh.next < ((hh.alloc ⟨11, [[.s ⟨#[]⟩, .i .i64 0, .i .i64 0, .b false, .b false, .ns, .i .i64 0, .i .i64 0, .i .i64 0, .i .i64 0, .i .i64 0]]⟩).put hh.next ⟨11, [(nth C.parts i).enc]⟩).next := Nat.lt_succ_self _
    simp only [Part.enc] at x1 b1 n1
    generalize (hh.alloc ⟨11, [[.s ⟨#[]⟩, .i .i64 0, .i .i64 0, .b false, .b false, .ns, .i .i64 0, .i .i64 0, .i .i64 0, .i .i64 0, .i .i64 0]]⟩).put hh.next ⟨11, [[.s (nth C.parts i).name, .i .i64 (nth C.parts i).budget, .i .i64 (nth C.parts i).period, .b (nth C.parts i).sched, .b (nth C.parts i).stop, .fl 2 ((nth C.parts i).procs.map Proc.enc), .i .i64 (nth C.parts i).h0, .i .i64 (nth C.parts i).h1, .i .i64 (nth C.parts i).h2, .i .i64 (nth C.parts i).h3, .i .i64 (nth C.parts i).h4]]⟩ = h1 at x1 b1 n1 ⊢
    have hl1 := x1.lim
    by_cases hcase : ow = true ∧ i = 0
    · obtain ⟨rfl, rfl⟩ := hcase
      refine cloneProco (by omega) ?_
      intro r h2 s2 x2
      simp (disch := omega) only [go_sem, *]
      refine clipProco s2 ?_
      intro v s3
      have hb2 : h2.get hh.next = some ⟨11, [[.s (nth C.parts 0).name, .i .i64 (nth C.parts 0).budget, .i .i64 (nth C.parts 0).period, .b (nth C.parts 0).sched, .b (nth C.parts 0).stop, .fl 2 ((nth C.parts 0).procs.map Proc.enc), .i .i64 (nth C.parts 0).h0, .i .i64 (nth C.parts 0).h1, .i .i64 (nth C.parts 0).h2, .i .i64 (nth C.parts 0).h3, .i .i64 (nth C.parts 0).h4]]⟩ := (x2.get _ n1).trans b1
      have n2 := x2.next
      have l2 := x2.lim
      have x3 : Ext hh (h2.put hh.next ⟨11, [(nth C.parts 0).encO v]⟩) := (x1.trans x2).put _ _ (Nat.le_refl _)
      have b3 : (h2.put hh.next ⟨11, [(nth C.parts 0).encO v]⟩).get hh.next = some ⟨11, [(nth C.parts 0).encO v]⟩ := by rw [get_put, gsel_eq rfl]
      have s4 : Sl hh.next (h2.put hh.next ⟨11, [(nth C.parts 0).encO v]⟩) 2 v ((nth C.parts 0).procs.map Proc.enc) := Sl.weak (sl_put s3 _ _ ((sl_own s3).imp (fun x => x) (fun x => by omega))) (by omega)
      obtain ⟨_, _, _, _, _, _, _, vcell, vcells⟩ := s4.facts
      obtain ⟨o3, lim3, low3, arg3, res3, box3⟩ := a.keep x3.next x3.lim x3.get
      have o3 := o3.new (i := 3) (by simp [ownL]) s4
      have hts2 : C.parts.take (0 + 1) = [nth C.parts 0] := by rw [hts]; simp
      simp only [Part.encO] at x3 b3 o3 lim3 low3 arg3 res3 box3
      simp (disch := omega) only [go_sem, *]
      clear s2 s3 s4 x1 x2 hl1 b1 n1 hb2
      generalize h2.put hh.next ⟨11, [[.s (nth C.parts 0).name, .i .i64 (nth C.parts 0).budget, .i .i64 (nth C.parts 0).period, .b (nth C.parts 0).sched, .b (nth C.parts 0).stop, v, .i .i64 (nth C.parts 0).h0, .i .i64 (nth C.parts 0).h1, .i .i64 (nth C.parts 0).h2, .i .i64 (nth C.parts 0).h3, .i .i64 (nth C.parts 0).h4]]⟩ = h3 at x3 b3 o3 lim3 low3 arg3 res3 box3 ⊢
      have hbq3 := o3.bq
      have hq23 := o3.q2
      refine app_rule (N := [[.s (nth C.parts 0).name, .i .i64 (nth C.parts 0).budget, .i .i64 (nth C.parts 0).period, .b (nth C.parts 0).sched, .b (nth C.parts 0).stop, v, .i .i64 (nth C.parts 0).h0, .i .i64 (nth C.parts 0).h1, .i .i64 (nth C.parts 0).h2, .i .i64 (nth C.parts 0).h3, .i .i64 (nth C.parts 0).h4]]) ((o3.sl 0 _ rfl).alloc _) (by first | omega | (simp (disch := omega) only [go_sem, *] <;> omega)) (by first | omega | (simp (disch := omega) only [go_sem, *] <;> omega)) (by have hl := rowsP_len (ow := true) (v := o1) (A := C.parts.take 0); simp only [List.length_cons, List.length_nil, hl, List.length_take]; omega) ?_
      intro w h5 s5 g5
      have x5 := (Ext.refl h3).alloc ⟨11, [[.s (nth C.parts 0).name, .i .i64 (nth C.parts 0).budget, .i .i64 (nth C.parts 0).period, .b (nth C.parts 0).sched, .b (nth C.parts 0).stop, v, .i .i64 (nth C.parts 0).h0, .i .i64 (nth C.parts 0).h1, .i .i64 (nth C.parts 0).h2, .i .i64 (nth C.parts 0).h3, .i .i64 (nth C.parts 0).h4]]⟩
      have lo5 := o3.low (i := 0) rfl x5 g5
      have o5 := o3.grow (i := 0) rfl x5 g5 s5
      have hb5 : h5.get (h.next + 2) = some ⟨3, [[vp, .ns, .ns]]⟩ := (lo5 _ (by omega)).trans box3
      have l5 := g5.lim
      have hc5 := g5.cell
      have hcs5 := g5.cells
      simp only [lim_alloc] at l5
      have k5 : KS true C h (h5.put (h.next + 2) ⟨3, [[w, .ns, .ns]]⟩) w .ns .ns v .ns (C.parts.take (0 + 1)) [] [] := KS.mk2 (q := h5.next) (by
        have e : ownL true w .ns .ns v .ns (C.parts.take (0 + 1)) [] [] = ((ownL true vp .ns .ns o1 .ns (C.parts.take 0) [] []).set 3 (2, v, (nth C.parts 0).procs.map Proc.enc)).set 0 (11, w, rowsP true o1 (C.parts.take 0) ++ [[.s (nth C.parts 0).name, .i .i64 (nth C.parts 0).budget, .i .i64 (nth C.parts 0).period, .b (nth C.parts 0).sched, .b (nth C.parts 0).stop, v, .i .i64 (nth C.parts 0).h0, .i .i64 (nth C.parts 0).h1, .i .i64 (nth C.parts 0).h2, .i .i64 (nth C.parts 0).h3, .i .i64 (nth C.parts 0).h4]]) := (by rw [hts2]; simp [ownL, rowsP, r1, Part.encO])
        rw [e]; exact o5) (by omega) (fun i hi => (lo5 i (by omega)).trans (low3 i hi)) ((lo5 _ (by omega)).trans arg3) ((lo5 _ (by omega)).trans res3)
      clear s5 g5 x5 o5 lo5 hts hts2 o3
      simp (disch := omega) only [go_sem, *]
      refine ih _ _ _ ?_ ⟨0 + 1, w, v, rfl, ?_⟩
      · omega
      · clear ih kk
        simp (disch := omega) only [go_sem, *]
        ((repeat' refine And.intro ?_ ?_) <;> first | omega | assumption | (exact k5))
    · obtain ⟨_, _, _, _, _, box1⟩ := a.keep x1.next x1.lim x1.get
      have x3 : Ext hh (h1.put hh.next ⟨11, [[.s (nth C.parts i).name, .i .i64 (nth C.parts i).budget, .i .i64 (nth C.parts i).period, .b (nth C.parts i).sched, .b (nth C.parts i).stop, .fl 2 ((nth C.parts i).procs.map Proc.enc), .i .i64 (nth C.parts i).h0, .i .i64 (nth C.parts i).h1, .i .i64 (nth C.parts i).h2, .i .i64 (nth C.parts i).h3, .i .i64 (nth C.parts i).h4]]⟩) := x1.put _ _ (Nat.le_refl _)
      obtain ⟨o3, lim3, low3, arg3, res3, box3⟩ := a.keep x3.next x3.lim x3.get
      refine Pf.go (cloneProc_ev) (by simp only [go_sem]) fun _ => ?_; simp (disch := omega) only [go_sem, *]
      refine Pf.go (clipProc_ev) (by simp only [go_sem]) fun _ => ?_; simp (disch := omega) only [go_sem, *]
      clear hl1 b1 box1
      have n3 : hh.next < (h1.put hh.next ⟨11, [[.s (nth C.parts i).name, .i .i64 (nth C.parts i).budget, .i .i64 (nth C.parts i).period, .b (nth C.parts i).sched, .b (nth C.parts i).stop, .fl 2 ((nth C.parts i).procs.map Proc.enc), .i .i64 (nth C.parts i).h0, .i .i64 (nth C.parts i).h1, .i .i64 (nth C.parts i).h2, .i .i64 (nth C.parts i).h3, .i .i64 (nth C.parts i).h4]]⟩).next := n1
      generalize h1.put hh.next ⟨11, [[.s (nth C.parts i).name, .i .i64 (nth C.parts i).budget, .i .i64 (nth C.parts i).period, .b (nth C.parts i).sched, .b (nth C.parts i).stop, .fl 2 ((nth C.parts i).procs.map Proc.enc), .i .i64 (nth C.parts i).h0, .i .i64 (nth C.parts i).h1, .i .i64 (nth C.parts i).h2, .i .i64 (nth C.parts i).h3, .i .i64 (nth C.parts i).h4]]⟩ = h3 at x3 o3 lim3 low3 arg3 res3 box3 n3 ⊢
      clear x1 n1
      have o3 := o3.up (Nat.le_of_lt n3) (Nat.le_refl _)
      have hbq3 := o3.bq
      have hq23 := o3.q2
      refine app_rule (N := [[.s (nth C.parts i).name, .i .i64 (nth C.parts i).budget, .i .i64 (nth C.parts i).period, .b (nth C.parts i).sched, .b (nth C.parts i).stop, .fl 2 ((nth C.parts i).procs.map Proc.enc), .i .i64 (nth C.parts i).h0, .i .i64 (nth C.parts i).h1, .i .i64 (nth C.parts i).h2, .i .i64 (nth C.parts i).h3, .i .i64 (nth C.parts i).h4]]) ((o3.sl 0 _ rfl).alloc _) (by first | omega | (simp (disch := omega) only [go_sem, *] <;> omega)) (by first | omega | (simp (disch := omega) only [go_sem, *] <;> omega)) (by have hl := rowsP_len (ow := ow) (v := o1) (A := C.parts.take i); simp only [List.length_cons, List.length_nil, hl, List.length_take]; omega) ?_
      intro w h5 s5 g5
      have x5 := (Ext.refl h3).alloc ⟨11, [[.s (nth C.parts i).name, .i .i64 (nth C.parts i).budget, .i .i64 (nth C.parts i).period, .b (nth C.parts i).sched, .b (nth C.parts i).stop, .fl 2 ((nth C.parts i).procs.map Proc.enc), .i .i64 (nth C.parts i).h0, .i .i64 (nth C.parts i).h1, .i .i64 (nth C.parts i).h2, .i .i64 (nth C.parts i).h3, .i .i64 (nth C.parts i).h4]]⟩
      have lo5 := o3.low (i := 0) rfl x5 g5
      have o5 := o3.grow (i := 0) rfl x5 g5 s5
      have hb5 : h5.get (h.next + 2) = some ⟨3, [[vp, .ns, .ns]]⟩ := (lo5 _ (by omega)).trans box3
      have l5 := g5.lim
      have hc5 := g5.cell
      have hcs5 := g5.cells
      simp only [lim_alloc] at l5
      have k5 : KS ow C h (h5.put (h.next + 2) ⟨3, [[w, .ns, .ns]]⟩) w .ns .ns o1 .ns (C.parts.take (i + 1)) [] [] := KS.mk2 (q := h5.next) (by
        have e : ownL ow w .ns .ns o1 .ns (C.parts.take (i + 1)) [] [] = (ownL ow vp .ns .ns o1 .ns (C.parts.take i) [] []).set 0 (11, w, rowsP ow o1 (C.parts.take i) ++ [[.s (nth C.parts i).name, .i .i64 (nth C.parts i).budget, .i .i64 (nth C.parts i).period, .b (nth C.parts i).sched, .b (nth C.parts i).stop, .fl 2 ((nth C.parts i).procs.map Proc.enc), .i .i64 (nth C.parts i).h0, .i .i64 (nth C.parts i).h1, .i .i64 (nth C.parts i).h2, .i .i64 (nth C.parts i).h3, .i .i64 (nth C.parts i).h4]]) := (own_next hcase hi hts (by omega))
        rw [e]; exact o5) (by omega) (fun i hi => (lo5 i (by omega)).trans (low3 i hi)) ((lo5 _ (by omega)).trans arg3) ((lo5 _ (by omega)).trans res3)
      clear s5 g5 x5 o5 lo5 hts o3
      simp (disch := omega) only [go_sem, *]
      refine ih _ _ _ ?_ ⟨i + 1, w, o1, rfl, ?_⟩
      · omega
      · clear ih kk
        simp (disch := omega) only [go_sem, *]
        ((repeat' refine And.intro ?_ ?_) <;> first | omega | assumption | (exact k5))
  · obtain rfl : i = C.parts.length := by omega
    rw [List.take_length] at a
    simp (disch := omega) only [go_sem, *]
    exact kk _ hh vp o1 e1 e2 e3 a
end
end Go.Ab.T
namespace Go.Ab.T
open Go Go.Ab
set_option maxHeartbeats 4000000
section
variable {ow : Bool} {C : Config} {h h' : AH} {vp vc vt o1 o2 : V} {A : List Part} {X : List Chan} {B : List (List Node)}
theorem own_nextT {i : Nat} {w : V} {Ts : List (List Node)} (hcase : ¬ (ow = true ∧ i = 0)) (hi : i ≤ Ts.length) (hts : Ts.take (i + 1) = Ts.take i ++ [nth Ts i]) (hc : i < Ts.length) : ownL ow vp vc w o1 o2 A X (Ts.take (i + 1)) = (ownL ow vp vc vt o1 o2 A X (Ts.take i)).set 2 (1, w, rowsT ow o2 (Ts.take i) ++ [Tab.enc (nth Ts i)]) := by
  rw [hts]
  by_cases h0 : i = 0
  · have hf : ow = false := by cases ow with | false => rfl | true => exact absurd ⟨rfl, h0⟩ hcase
    subst hf; subst h0
    simp [ownL, rowsT, r2, Tab.enc]
  · have hne : Ts.take i ≠ [] := by
      intro h; have : (Ts.take i).length = 0 := by rw [h]; rfl
      rw [List.length_take] at this; omega
    rw [ownL, rowsT_snoc hne, r2_snoc hne]; rfl
theorem copy_tabs {K : Ex → Env → AH → Prop} {e : Env} (hlo : h.lim ≤ h.next) (hPl : C.tables.length < 4000000000) (a : KS ow C h h' vp vc .ns o1 .ns A X [])
    (e2 : e 2 = .p (h.next + 1) 0 0) (e3 : e 3 = .p (h.next + 2) 0 0) (e33 : e 33 = .fl 1 (C.tables.map Tab.enc)) (e34 : e 34 = .i .i64 C.tables.length) (e35 : e 35 = .i .i64 0)
    (kk : ∀ e' h' vt o2, e' 2 = .p (h.next + 1) 0 0 → e' 3 = .p (h.next + 2) 0 0 → KS ow C h h' vp vc vt o1 o2 A X C.tables → K (.ex 2) e' h') : ZC tp (.loop Q16_15) e h' K := by
  refine ZC_loop_n (fun n' e hh => ∃ (i : Nat) (vt o2 : V), n' = C.tables.length - i ∧ e 2 = .p (h.next + 1) 0 0 ∧ e 3 = .p (h.next + 2) 0 0 ∧ e 33 = .fl 1 (C.tables.map Tab.enc) ∧ e 34 = .i .i64 C.tables.length ∧ e 35 = .i .i64 i ∧ i ≤ C.tables.length ∧ KS ow C h hh vp vc vt o1 o2 A X (C.tables.take i)) ?_ _ _ _ ⟨0, .ns, .ns, rfl, e2, e3, e33, e34, e35, by omega, a⟩
  clear e2 e3 e33 e34 e35 e a
  rintro n' e hh ⟨i, vt, o2, rfl, e2, e3, e33, e34, e35, hi, a⟩ ih
  have hbq := a.own.bq
  have hlq : hh.lim ≤ h.next := by rw [a.lim]; exact hlo
  have hbx := a.box
  rw [ZC_unf Q16_15.eq_1]
  simp (disch := omega) only [go_sem, *]
  refine Wb_dec (fun hc => ?_) (fun hc => ?_)
  · have hts := take_snoc (L := C.tables) (i := i) (by omega)
    simp (disch := omega) only [go_sem, *]
    by_cases hcase : ow = true ∧ i = 0
    · obtain ⟨rfl, rfl⟩ := hcase
      refine cloneNodeo (by rw [lim_raise, next_raise]; exact Nat.le_refl _) ?_
      intro r h2 s2 x2
      have x3 : Ext hh (h2.back hh.lim) := ⟨x2.next, rfl, x2.get⟩
      have s3 : Sl hh.next (h2.back hh.lim) 3 r ((nth C.tables 0).map Node.enc) := s2
      simp (disch := omega) only [go_sem, *]
      generalize h2.back hh.lim = h3 at x3 s3 ⊢
      clear s2 x2
      have hrb : h3.raise.back hh.lim = h3 := by rw [← x3.lim]; exact raise_back
      refine clipNodeo s3.raise ?_
      intro v s4
      have s4 : Sl hh.next h3 3 v ((nth C.tables 0).map Node.enc) := s4
      obtain ⟨_, _, _, _, _, _, _, vcell, vcells⟩ := s4.facts
      obtain ⟨o3, lim3, low3, arg3, res3, box3⟩ := a.keep x3.next x3.lim x3.get
      have o3 := o3.new (i := 4) (by simp [ownL]) s4
      have hts2 : C.tables.take (0 + 1) = [nth C.tables 0] := by rw [hts]; simp
      simp (disch := omega) only [go_sem, *]
      have hbq3 := o3.bq
      have hq23 := o3.q2
      refine app_rule (N := [[v]]) ((o3.sl 2 _ rfl).alloc _) (by first | omega | (simp (disch := omega) only [go_sem, *] <;> omega)) (by first | omega | (simp (disch := omega) only [go_sem, *] <;> omega)) (by have hl := rowsT_len (ow := true) (v := o2) (A := C.tables.take 0); simp only [List.length_cons, List.length_nil, hl, List.length_take]; omega) ?_
      intro w h5 s5 g5
      have x5 := (Ext.refl h3).alloc ⟨1, [[v]]⟩
      have lo5 := o3.low (i := 2) rfl x5 g5
      have o5 := o3.grow (i := 2) rfl x5 g5 s5
      have hb5 : h5.get (h.next + 2) = some ⟨3, [[vp, vc, vt]]⟩ := (lo5 _ (by omega)).trans box3
      have l5 := g5.lim
      have hc5 := g5.cell
      have hcs5 := g5.cells
      simp only [lim_alloc] at l5
      have k5 : KS true C h (h5.put (h.next + 2) ⟨3, [[vp, vc, w]]⟩) vp vc w o1 v A X (C.tables.take (0 + 1)) := KS.mk2 (q := h5.next) (by
        have e : ownL true vp vc w o1 v A X (C.tables.take (0 + 1)) = ((ownL true vp vc vt o1 o2 A X (C.tables.take 0)).set 4 (3, v, (nth C.tables 0).map Node.enc)).set 2 (1, w, rowsT true o2 (C.tables.take 0) ++ [[v]]) := (by rw [hts2]; simp [ownL, rowsT, r2])
        rw [e]; exact o5) (by omega) (fun i hi => (lo5 i (by omega)).trans (low3 i hi)) ((lo5 _ (by omega)).trans arg3) ((lo5 _ (by omega)).trans res3)
      have lq5 : h5.lim ≤ h.next := by omega
      clear s5 g5 x5 o5 lo5 hts l5 hts2 o3
      simp (disch := omega) only [go_sem, *]
      refine ih _ _ _ ?_ ⟨0 + 1, w, v, rfl, ?_⟩
      · omega
      · clear ih kk
        simp (disch := omega) only [go_sem, *]
        ((repeat' refine And.intro ?_ ?_) <;> first | omega | assumption | (exact k5))
    · refine Pf.go (cloneNode_ev) (by simp only [go_sem]) fun _ => ?_; simp (disch := omega) only [go_sem, *]
      refine Pf.go (clipNode_ev) (by simp only [go_sem]) fun _ => ?_; simp (disch := omega) only [go_sem, *]
      obtain ⟨o3, lim3, low3, arg3, res3, box3⟩ := a.keep (h2 := hh) (Nat.le_refl _) rfl (fun _ _ => rfl)
      generalize hh = h3 at *
      have hbq3 := o3.bq
      have hq23 := o3.q2
      refine app_rule (N := [[.fl 3 ((nth C.tables i).map Node.enc)]]) ((o3.sl 2 _ rfl).alloc _) (by first | omega | (simp (disch := omega) only [go_sem, *] <;> omega)) (by first | omega | (simp (disch := omega) only [go_sem, *] <;> omega)) (by have hl := rowsT_len (ow := ow) (v := o2) (A := C.tables.take i); simp only [List.length_cons, List.length_nil, hl, List.length_take]; omega) ?_
      intro w h5 s5 g5
      have x5 := (Ext.refl h3).alloc ⟨1, [[.fl 3 ((nth C.tables i).map Node.enc)]]⟩
      have lo5 := o3.low (i := 2) rfl x5 g5
      have o5 := o3.grow (i := 2) rfl x5 g5 s5
      have hb5 : h5.get (h.next + 2) = some ⟨3, [[vp, vc, vt]]⟩ := (lo5 _ (by omega)).trans box3
      have l5 := g5.lim
      have hc5 := g5.cell
      have hcs5 := g5.cells
      simp only [lim_alloc] at l5
      have k5 : KS ow C h (h5.put (h.next + 2) ⟨3, [[vp, vc, w]]⟩) vp vc w o1 o2 A X (C.tables.take (i + 1)) := KS.mk2 (q := h5.next) (by
        have e : ownL ow vp vc w o1 o2 A X (C.tables.take (i + 1)) = (ownL ow vp vc vt o1 o2 A X (C.tables.take i)).set 2 (1, w, rowsT ow o2 (C.tables.take i) ++ [[.fl 3 ((nth C.tables i).map Node.enc)]]) := (own_nextT hcase hi hts (by omega))
        rw [e]; exact o5) (by omega) (fun i hi => (lo5 i (by omega)).trans (low3 i hi)) ((lo5 _ (by omega)).trans arg3) ((lo5 _ (by omega)).trans res3)
      have lq5 : h5.lim ≤ h.next := by omega
      clear s5 g5 x5 o5 lo5 hts l5 o3
      simp (disch := omega) only [go_sem, *]
      refine ih _ _ _ ?_ ⟨i + 1, w, o2, rfl, ?_⟩
      · omega
      · clear ih kk
        simp (disch := omega) only [go_sem, *]
        ((repeat' refine And.intro ?_ ?_) <;> first | omega | assumption | (exact k5))
  · obtain rfl : i = C.tables.length := by omega
    rw [List.take_length] at a
    simp (disch := omega) only [go_sem, *]
    exact kk _ hh vt o2 e2 e3 a
end
end Go.Ab.T
namespace Go.Ab.T
open Go Go.Ab
set_option maxHeartbeats 4000000
theorem sl_cell {b sz : Nat} {h : AH} {v : V} {R : List (List V)} (s : Sl b h sz v R) : v.isCell = true ∧ v.cells = [v] := by
  rcases s with ⟨hv, _⟩ | ⟨_, _, _, _, rfl, _⟩
  · rcases hv with rfl | rfl <;> exact ⟨rfl, rfl⟩
  · exact ⟨rfl, rfl⟩
theorem copy_body {ow : Bool} {C : Config} {h : AH} {K : V → AH → Prop} (hlo : h.lim ≤ h.next) (hPl : C.parts.length < 4000000000) (hTl : C.tables.length < 4000000000)
    (kk : ∀ vp vc vt o1 o2 h2, Owns (h.next + 3) h2.next h2 (ownL ow vp vc vt o1 o2 C.parts C.chans C.tables) → h2.lim = h.lim → (∀ i, i < h.next → h2.get i = h.get i) → K (.agg [vp, vc, vt]) h2) :
    ZC tp t_Q16.body (env0 [.agg C.enc]) h (fun x e h2 => Zend t_Q16.res x e h2 K) := by
  unfold t_Q16
  simp (disch := omega) only [go_sem, *]
  have x0 : Ext h (((h.alloc ⟨3, [C.enc]⟩).alloc ⟨3, [[.ns, .ns, .ns]]⟩).alloc ⟨3, [[.ns, .ns, .ns]]⟩) := by (repeat (first | exact Ext.refl _ | refine Ext.alloc ?_ _ | (refine Ext.put ?_ _ _ ?_; rotate_left; (first | omega | (simp only [next_alloc, next_put]; omega)))))
  have k0 : KS ow C h (((h.alloc ⟨3, [C.enc]⟩).alloc ⟨3, [[.ns, .ns, .ns]]⟩).alloc ⟨3, [[.ns, .ns, .ns]]⟩) .ns .ns .ns .ns .ns [] [] [] := by
    refine ⟨Owns.nil (by simp only [next_alloc]; omega) (fun a ha => ?_), rfl, x0.get, by simp (disch := omega) only [go_sem, *], by simp (disch := omega) only [go_sem, *], by simp (disch := omega) only [go_sem, *]⟩
    simp only [ownL, List.mem_cons, List.not_mem_nil, or_false] at ha
    rcases ha with rfl | rfl | rfl | rfl | rfl <;> simp [rowsP, rowsT, r1, r2]
  simp only [Config.enc] at k0
  refine copy_parts hlo hPl k0 (by simp (disch := omega) only [go_sem, *]) (by simp (disch := omega) only [go_sem, *]) (by simp (disch := omega) only [go_sem, *]) (by simp (disch := omega) only [go_sem, *]) (by simp (disch := omega) only [go_sem, *]) (by simp (disch := omega) only [go_sem, *]) ?_
  clear k0 x0
  intro e h1 vp o1 e1 e2 e3 a
  have harg := a.arg
  have hbq := a.own.bq
  simp only [Config.enc] at harg
  simp (disch := omega) only [go_sem, *]
  have hl1 := a.lim
  refine cloneChano (by omega) ?_
  intro r h2 s2 x2
  have hn2 := x2.next
  simp (disch := omega) only [go_sem, *]
  refine clipChano s2 ?_
  intro v s3
  obtain ⟨_, _, _, _, _, _, _, vcell, vcells⟩ := s3.facts
  obtain ⟨o3, lim3, low3, arg3, res3, box3⟩ := a.keep x2.next x2.lim x2.get
  have o3 := o3.new (i := 1) (by simp [ownL]) s3
  have e4 : (ownL ow vp .ns .ns o1 .ns C.parts [] []).set 1 (6, v, C.chans.map Chan.enc) = ownL ow vp v .ns o1 .ns C.parts C.chans [] := rfl
  rw [e4] at o3
  have a3 := KS.mk2 (ow := ow) (C := C) o3 lim3 low3 arg3 res3
  have harg3 := arg3
  have hl2 := x2.lim
  simp only [Config.enc] at harg3
  clear e4 s2 s3 o3 low3 res3 arg3 harg a
  simp (disch := omega) only [go_sem, *]
  refine copy_tabs hlo hTl a3 (by simp (disch := omega) only [go_sem, *]) (by simp (disch := omega) only [go_sem, *]) (by simp (disch := omega) only [go_sem, *]) (by simp (disch := omega) only [go_sem, *]) (by simp (disch := omega) only [go_sem, *]) ?_
  clear e1 e2 e3 a3 harg3 box3 hn2 lim3 hl1 hl2 x2 hbq
  intro e h1 vt o2 e2 e3 a
  have hbox := a.box
  have hres := a.res
  have hbq := a.own.bq
  have hlq : h1.lim ≤ h.next := by rw [a.lim]; exact hlo
  have f := kk vp v vt o1 o2 (h1.put (h.next + 1) ⟨3, [[vp, v, vt]]⟩) (a.own.put _ _ (.inl (by omega))) a.lim (fun i hi => by rw [get_put, gsel_ne (by omega)]; exact a.low i hi)
  obtain ⟨c1, c2⟩ := sl_cell (a.own.sl 0 (11, vp, _) rfl)
  obtain ⟨c3, c4⟩ := sl_cell (a.own.sl 1 (6, v, _) rfl)
  obtain ⟨c5, c6⟩ := sl_cell (a.own.sl 2 (1, vt, _) rfl)
  dsimp only at c1 c2 c3 c4 c5 c6
  clear kk
  simp (disch := omega) only [go_sem, *]
theorem copyA {C : Config} {h : AH} {K : V → AH → Prop} (ow : Bool) (hPl : C.parts.length < 4000000000) (hTl : C.tables.length < 4000000000)
    (kk : ∀ vp vc vt o1 o2 h2, Owns (h.next + 3) h2.next h2 (ownL ow vp vc vt o1 o2 C.parts C.chans C.tables) → h2.lim = h.lim → (∀ i, i < h.next → h2.get i = h.get i) → K (.agg [vp, vc, vt]) h2) : Cq tp i_Q16 [.agg C.enc] h K :=
  Cq_raw_go fn_Q16 (by simp [t_Q16]) fun wf rp => copy_body (ow := ow) wf.1 hPl hTl kk
theorem copy_ev {C : Config} : Pf tp i_Q16 [.agg C.enc] (.agg C.enc) := by
  refine Pf_go fn_Q16 (by simp [t_Q16]) fun rp => ?_
  have hcl := Rep.len (rp.head.agg (.fl 6 (C.chans.map Chan.enc)) (by simp [Config.enc]))
  have hpl := Rep.len (rp.head.agg (.fl 11 (C.parts.map Part.enc)) (by simp [Config.enc]))
  have htl := Rep.len (rp.head.agg (.fl 1 (C.tables.map Tab.enc)) (by simp [Config.enc]))
  refine copy_body (ow := false) (Nat.zero_le _) hpl htl ?_
  intro vp vc vt o1 o2 h2 o hl low
  have s0 := o.sl 0 _ rfl
  have s1 := o.sl 1 _ rfl
  have s2 := o.sl 2 _ rfl
  simp only [rowsP_no, rowsT_no] at s0 s1 s2
  exact .agg _ _ _ (.cons _ _ _ _ _ (s0.froze (fun _ => rfl) trivial hpl) (.cons _ _ _ _ _ (s1.froze (fun _ => rfl) trivial hcl) (.cons _ _ _ _ _ (s2.froze (fun _ => rfl) trivial htl) (.nil _))))
end Go.Ab.T
namespace Go.Ab.T
open Go Go.Ab
set_option maxHeartbeats 4000000
theorem Cq_fixg {tp : TP} {f : Nat} {args args' : List V} {h h2 : AH} {K : V → AH → Prop} (P : Nat → Prop) (hn : h2.next = h.next) (hl : h2.lim = h.lim)
    (hb : Wf h → ∀ i k, h2.get i = some k → i < h2.next ∧ ¬ P i ∧ ∃ cs, h.get i = some ⟨k.sz, cs⟩ ∧ Frzr P h h2.next cs k.cs) (hz : Frzs P h h2.next args args') (z : Cq tp f args' h2 K) : Cq tp f args h K := by
  intro S m hc args1 c p
  have wf := c.wf
  have st : ∀ r R, Frz P h h2.next r R → Settle h h r P R h2 := fun r R f => ⟨Nat.le_of_eq hn.symm, hl, Nat.le_of_eq hn, hb wf, f⟩
  obtain ⟨q1, q2, _⟩ := (st .u .u (.z _ _ .u)).ok c c (Adv.refl c) (.u _ .u)
  have hz2 := Frzs.ok c hz p
  refine (z _ m hc args1 q1 hz2).imp ?_
  rintro r1 hc' ⟨r, h', S', m', c', a', q, k⟩
  exact ⟨r, h', S', m', c', q2.trans a', q, k⟩
def kP : Part := ⟨⟨#[97]⟩, 0, 0, false, false, [⟨0, 0⟩], 0, 0, 0, 0, 0⟩
def kC : Config := ⟨[kP], [], [[⟨1, 0, 1⟩]]⟩
def kD : Config := ⟨[kP], [⟨0, 0, false, 0, 0, 0⟩], [[⟨1, 0, 1⟩]]⟩
theorem kP_name : nameB kP.name = true := by unfold nameB; decide
theorem kP_part : partB kP = true := by
  unfold partB
  have : procsB kP.procs = true := by unfold procsB; decide
  rw [this]; decide
theorem kP_good {j : Nat} (h : j < 1) : GoodP [kP] j := by
  obtain rfl : j = 0 := by omega
  exact ⟨kP_name, rfl, kP_part⟩
theorem k_tab : TabOk 1 [⟨1, 0, 1⟩] := by
  refine TabOk.of (by omega) ?_ (PtOk.one (by simp) (by simp))
  have e : ([⟨1, 0, 1⟩] : List Node) = (Fo.leaf ⟨1, 0, 1⟩ .nil).flat := rfl
  have hr : rightR [⟨1, 0, 1⟩] = 0 := by
    rw [e]
    exact right_flat ⟨rfl, trivial⟩ rfl (by simp [Fo.depth]) (by simp [Fo.len]) (by simp [Fo.flat])
  rw [ofR_good hr]
  obtain ⟨_, ho, hc1, hL, hd, hl⟩ := foOf_ok hr
  have hap := Fo.runs_allpos _ ho
  have hsum := Fo.runs_sum _ ho
  have hrl := Fo.runs_len _ ho
  have ht := tidyOf hap (by omega)
  have : (foOf [⟨1, 0, 1⟩]).len = 1 := by
    have m1 := (measured_flat ho hc1).2
    have m2 := (measured_flat (f := Fo.leaf ⟨1, 0, 1⟩ .nil) ⟨rfl, trivial⟩ rfl).2
    rw [← hL] at m1
    rw [← e] at m2
    rw [m1] at m2
    have l2 : (Fo.leaf ⟨1, 0, 1⟩ .nil).len = 1 := rfl
    rw [l2] at m2
    omega
  rw [if_neg (by unfold ofT; have := ht.len; omega)]
theorem kC_where : whereR kC = (0, -1) := by
  rw [where_iff]
  refine ⟨⟨by decide, by decide, by decide, by decide, by decide⟩, fun j hj => kP_good hj, fun x hx => (by cases hx), fun t ht => ?_⟩
  rw [List.mem_singleton.1 ht, tableR_iff]
  refine ⟨k_tab, ?_⟩
  rw [holdsR_iff]
  exact ⟨rfl, ptShort_zero _ _ fun p hp => by rw [List.mem_singleton.1 hp]; rfl⟩
theorem kD_where : whereR kD = (17, 0) := by
  have hc : chanB 1 ⟨0, 0, false, 0, 0, 0⟩ = false := by unfold chanB; decide
  unfold whereR
  rw [if_neg (by decide)]
  show whParts kD 0 [kP] = _
  rw [whParts, if_neg (by rw [kP_name]; simp), if_neg (by rw [kP_part]; simp), whParts]
  show whChans kD 0 [_] = _
  rw [whChans, if_pos (show chanB (kD.parts.length : Int) ⟨0, 0, false, 0, 0, 0⟩ = false from hc)]; rfl
theorem k0_where : whereR ⟨[], [], []⟩ = (3, 0) := if_pos (by decide)
theorem kC_nm : NmOk kC := fun p hp => by rw [List.mem_singleton.1 hp]; decide
theorem kD_nm : NmOk kD := fun p hp => by rw [List.mem_singleton.1 hp]; decide
def kH : AH := ⟨fun i => if i = 4 then some ⟨3, [kC.enc]⟩ else if i = 5 then some ⟨3, [kD.enc]⟩ else none, 7, 0⟩
theorem kH_4 : kH.get 4 = some ⟨3, [kC.enc]⟩ := rfl
theorem kH_5 : kH.get 5 = some ⟨3, [kD.enc]⟩ := rfl
theorem frz_sl {P : Nat → Prop} {h : AH} {n id sz : Nat} {r r' : List V} (hP : P id) (hg : h.get id = some ⟨sz, [r]⟩) (q : Frzs P h 0 r r') : Frz P h n (.sl id 0 1 1) (.fl sz [r']) :=
  .sl _ _ _ _ _ _ [r] _ hP hg (by simp) (by omega) (by decide) (.cons _ _ _ _ _ q (.nil _))
theorem k_fix {h : AH} {f : Nat} {K : V → AH → Prop} (hn : h.next = 7) (hl : h.lim = 0) (g0 : h.get 0 = some ⟨2, [[.i .i64 0, .i .i64 0]]⟩) (g1 : h.get 1 = some ⟨11, [[.s ⟨#[97]⟩, .i .i64 0, .i .i64 0, .b false, .b false, .sl 0 0 1 1, .i .i64 0, .i .i64 0, .i .i64 0, .i .i64 0, .i .i64 0]]⟩)
    (g2 : h.get 2 = some ⟨3, [[.i .i64 1, .i .i64 0, .i .i64 1]]⟩) (g3 : h.get 3 = some ⟨1, [[.sl 2 0 1 1]]⟩) (g4 : h.get 4 = some ⟨3, [[.sl 1 0 1 1, .ns, .sl 3 0 1 1]]⟩) (g5 : h.get 5 = some ⟨3, [[.sl 1 0 1 1, .sl 6 0 1 1, .sl 3 0 1 1]]⟩) (g6 : h.get 6 = some ⟨6, [[.i .i64 0, .i .i64 0, .b false, .i .i64 0, .i .u32 0, .i .i64 0]]⟩)
    (z : Cq tp f [.agg kD.enc] kH K) : Cq tp f [.agg [.sl 1 0 1 1, .sl 6 0 1 1, .sl 3 0 1 1]] h K := by
  have zz : ∀ {n : Nat} {v : V}, Plain0 v → Frz (fun i => i ≠ 4 ∧ i ≠ 5) h n v v := fun h0 => .z _ _ h0
  have fp : ∀ n, Frz (fun i => i ≠ 4 ∧ i ≠ 5) h n (.sl 1 0 1 1) (.fl 11 [kP.enc]) := fun n => frz_sl (by decide) g1 (.cons _ _ _ _ _ (zz (.s _)) (.cons _ _ _ _ _ (zz (.i _ _)) (.cons _ _ _ _ _ (zz (.i _ _)) (.cons _ _ _ _ _ (zz (.b _)) (.cons _ _ _ _ _ (zz (.b _)) (.cons _ _ _ _ _ (frz_sl (by decide) g0 (.cons _ _ _ _ _ (zz (.i _ _)) (.cons _ _ _ _ _ (zz (.i _ _)) (.nil _)))) (.cons _ _ _ _ _ (zz (.i _ _)) (.cons _ _ _ _ _ (zz (.i _ _)) (.cons _ _ _ _ _ (zz (.i _ _)) (.cons _ _ _ _ _ (zz (.i _ _)) (.cons _ _ _ _ _ (zz (.i _ _)) (.nil _))))))))))))
  have ft : ∀ n, Frz (fun i => i ≠ 4 ∧ i ≠ 5) h n (.sl 3 0 1 1) (.fl 1 [Tab.enc [⟨1, 0, 1⟩]]) := fun n => frz_sl (by decide) g3 (.cons _ _ _ _ _ (frz_sl (by decide) g2 (.cons _ _ _ _ _ (zz (.i _ _)) (.cons _ _ _ _ _ (zz (.i _ _)) (.cons _ _ _ _ _ (zz (.i _ _)) (.nil _))))) (.nil _))
  have fc : ∀ n, Frz (fun i => i ≠ 4 ∧ i ≠ 5) h n (.sl 6 0 1 1) (.fl 6 [Chan.enc ⟨0, 0, false, 0, 0, 0⟩]) := fun n => frz_sl (by decide) g6 (.cons _ _ _ _ _ (zz (.i _ _)) (.cons _ _ _ _ _ (zz (.i _ _)) (.cons _ _ _ _ _ (zz (.b _)) (.cons _ _ _ _ _ (zz (.i _ _)) (.cons _ _ _ _ _ (zz (.i _ _)) (.cons _ _ _ _ _ (zz (.i _ _)) (.nil _)))))))
  refine Cq_fixg (fun i => i ≠ 4 ∧ i ≠ 5) hn.symm hl.symm (fun _ i k hk => ?_) (.cons _ _ _ _ _ (.agg _ _ _ (.cons _ _ _ _ _ (fp _) (.cons _ _ _ _ _ (fc _) (.cons _ _ _ _ _ (ft _) (.nil _))))) (.nil _)) z
  unfold kH at hk
  simp only at hk
  by_cases h4 : i = 4
  · subst h4
    rw [if_pos rfl] at hk; cases hk
    exact ⟨by decide, by simp, _, g4, .cons _ _ _ _ _ (.cons _ _ _ _ _ (fp _) (.cons _ _ _ _ _ (.ns _ _) (.cons _ _ _ _ _ (ft _) (.nil _)))) (.nil _)⟩
  · rw [if_neg h4] at hk
    by_cases h5 : i = 5
    · subst h5
      rw [if_pos rfl] at hk; cases hk
      exact ⟨by decide, by simp, _, g5, .cons _ _ _ _ _ (.cons _ _ _ _ _ (fp _) (.cons _ _ _ _ _ (fc _) (.cons _ _ _ _ _ (ft _) (.nil _)))) (.nil _)⟩
    · rw [if_neg h5] at hk; cases hk
theorem known12_ev : Pf tp i_Q12 [] (.b true) := by
  have n1 : nameB ⟨#[49, 97]⟩ = false := by unfold nameB; decide
  have n2 : nameB ⟨#[97, 95, 49]⟩ = true := by unfold nameB; decide
  have e0 : ([V.ns, .ns, .ns] : List V) = [.ns, .ns, .ns] := rfl
  have hCC : decide (kC = kC) = true := by simp
  have hCD : decide (kC = kD) = false := by decide
  have g4 := kH_4
  have g5 := kH_5
  have hkn : kH.next = 7 := rfl
  have hkl : kH.lim = 0 := rfl
  have w1 := kC_where
  have w2 := kD_where
  have w3 := k0_where
  refine Pf_go fn_Q12 (by simp [t_Q12]) fun rp => ?_; unfold t_Q12; simp (disch := omega) only [go_sem, *]
  refine k_fix rfl rfl (by simp (disch := omega) only [go_sem, *]) (by simp (disch := omega) only [go_sem, *]) (by simp (disch := omega) only [go_sem, *]) (by simp (disch := omega) only [go_sem, *]) (by simp (disch := omega) only [go_sem, *]) (by simp (disch := omega) only [go_sem, *]) (by simp (disch := omega) only [go_sem, *]) ?_
  simp only [Config.enc] at g4 g5
  refine Pf.go (where_ev kD_nm) (by simp only [go_sem]) fun _ => ?_; simp (disch := omega) only [go_sem, *]
  refine Pf.go (where_ev kC_nm) (by simp only [go_sem]) fun _ => ?_; simp (disch := omega) only [go_sem, *]
  refine Pf.look (right_ev (C := ⟨[], [], []⟩) (fun p hp => by cases hp)) (.cons _ _ _ _ _ (.agg _ _ _ (.cons _ _ _ _ _ (.ns _ _) (.cons _ _ _ _ _ (.ns _ _) (.cons _ _ _ _ _ (.ns _ _) (.nil _))))) (.nil _)) rfl fun _ => ?_
  simp (disch := omega) only [go_sem, *]
  refine Pf.go (right_ev kC_nm) (by simp only [go_sem]) fun _ => ?_; simp (disch := omega) only [go_sem, *]
  refine Pf.go (cname_ev (s := ⟨#[49, 97]⟩) (by decide)) (by simp only [go_sem]) fun _ => ?_; simp (disch := omega) only [go_sem, *]
  refine Pf.go (cname_ev (s := ⟨#[97, 95, 49]⟩) (by decide)) (by simp only [go_sem]) fun _ => ?_; simp (disch := omega) only [go_sem, *]
  refine Pf.go (copy_ev (C := kC)) (by simp only [go_sem]) fun _ => ?_; simp (disch := omega) only [go_sem, *]
  refine Pf.go (csame_ev (a := kC) (b := kC)) (by simp only [go_sem]) fun _ => ?_; simp (disch := omega) only [go_sem, *]
  refine Pf.go (csame_ev (a := kC) (b := kD)) (by simp only [go_sem]) fun _ => ?_; simp (disch := omega) only [go_sem, *]
end Go.Ab.T
namespace Go.Ab.T
open Go Go.Ab
set_option maxHeartbeats 4000000
theorem Sl.frzg {b nx sz m : Nat} {h : AH} {v : V} {R R' : List (List V)} (s : Sl b h sz v R) (hm : m ≤ b) (hr : Frzr (m ≤ ·) h 0 R R') (hL : R.length < 4000000000) : Frz (m ≤ ·) h nx v (.fl sz R') := by
  rcases s with ⟨hv, rfl⟩ | ⟨i, el, cap, cs, rfl, hg, a1, a2, a3, a4, a5, a6⟩
  · cases hr
    rcases hv with rfl | rfl
    · exact .ns _ _
    · exact .e0 _ _
  · exact .sl _ _ _ _ _ _ cs _ (Nat.le_trans hm a5) hg (by omega) a3 (by simpa [frzLen] using hL) (by rw [a2]; exact hr)
theorem Frzr.app {P : Nat → Prop} {h : AH} {n : Nat} : ∀ {a a' b b' : List (List V)}, Frzr P h n a a' → Frzr P h n b b' → Frzr P h n (a ++ b) (a' ++ b')
  | _, _, _, _, .nil _, q => q
  | _, _, _, _, .cons _ _ _ _ _ p r, q => .cons _ _ _ _ _ p (Frzr.app r q)
structure Small (k : Nat) (C : Config) : Prop where
  p0 : 0 < C.parts.length
  p1 : C.parts.length ≤ 6
  c : C.chans.length ≤ k
  t : C.tables.length ≤ k
  n : ∀ t ∈ C.tables, t.length ≤ 700 + k
  pr : ∀ p ∈ C.parts, p.procs.length ≤ k
  nm : NmOk C
def ownO (vp vc vt vr : V) (A : List Part) (p : Part) (X : List Chan) (B : List (List Node)) : List (Nat × V × List (List V)) :=
  [(11, vp, A.map Part.enc ++ [p.encO vr]), (6, vc, X.map Chan.enc), (1, vt, B.map Tab.enc), (2, vr, p.procs.map Proc.enc)]
structure OD (h h' : AH) (vp vc vt vr : V) (A : List Part) (p : Part) (X : List Chan) (B : List (List Node)) : Prop where
  own : Owns (h.next + 2) h'.next h' (ownO vp vc vt vr A p X B)
  lim : h'.lim = h.lim
  low : ∀ i, i < h.next → h'.get i = h.get i
  box : h'.get h.next = some ⟨3, [[vp, vc, vt]]⟩
  res : h'.get (h.next + 1) = some ⟨3, [[.ns, .ns, .ns]]⟩
section
variable {h h' : AH} {vp vc vt vr : V} {A : List Part} {p : Part} {X : List Chan} {B : List (List Node)}
theorem fin0 {K : V → AH → Prop} {h3 : AH} {C : Config} (wf : Wf h) (x : Ext h h3) (fp : Frz (h.next ≤ ·) h3 h.next vp (.fl 11 (C.parts.map Part.enc))) (fc : Frz (h.next ≤ ·) h3 h.next vc (.fl 6 (C.chans.map Chan.enc))) (ft : Frz (h.next ≤ ·) h3 h.next vt (.fl 1 (C.tables.map Tab.enc))) (k : K (.agg C.enc) h) : ∃ P R H, Settle h h3 (.agg [vp, vc, vt]) P R H ∧ K R H :=
  ⟨_, _, _, Settle.ext wf x (.agg _ _ _ (.cons _ _ _ _ _ fp (.cons _ _ _ _ _ fc (.cons _ _ _ _ _ ft (.nil _))))), k⟩
theorem encO_frz {P : Nat → Prop} {h : AH} {n : Nat} (hv : Frz P h n vr (.fl 2 (p.procs.map Proc.enc))) : Frzs P h n (p.encO vr) p.enc :=
  .cons _ _ _ _ _ (.z _ _ (.s _)) (.cons _ _ _ _ _ (.z _ _ (.i _ _)) (.cons _ _ _ _ _ (.z _ _ (.i _ _)) (.cons _ _ _ _ _ (.z _ _ (.b _)) (.cons _ _ _ _ _ (.z _ _ (.b _)) (.cons _ _ _ _ _ hv (.cons _ _ _ _ _ (.z _ _ (.i _ _)) (.cons _ _ _ _ _ (.z _ _ (.i _ _)) (.cons _ _ _ _ _ (.z _ _ (.i _ _)) (.cons _ _ _ _ _ (.z _ _ (.i _ _)) (.cons _ _ _ _ _ (.z _ _ (.i _ _)) (.nil _)))))))))))
theorem own_fp {q : Nat} {h3 : AH} (o : Owns (h.next + 2) q h3 (ownO vp vc vt vr A p X B)) (hA : A.length ≤ 6) (hp : p.procs.length ≤ 1000) : Frz (h.next ≤ ·) h3 h.next vp (.fl 11 ((A ++ [p]).map Part.enc)) := by
  have s0 := o.sl 0 _ rfl
  have s3 := o.sl 3 _ rfl
  refine Sl.frzg s0 (by omega) ?_ (by simp; omega)
  rw [List.map_append]
  exact Frzr.app (Frzr.of_map (fun _ => rfl) A) (.cons _ _ _ _ _ (encO_frz (Sl.frzb (Sl.weak s3 (by omega)) (fun _ => rfl) (by omega))) (.nil _))
theorem own_fc {q : Nat} {h3 : AH} (o : Owns (h.next + 2) q h3 (ownO vp vc vt vr A p X B)) (hX : X.length ≤ 1000) : Frz (h.next ≤ ·) h3 h.next vc (.fl 6 (X.map Chan.enc)) := Sl.frzb (Sl.weak (o.sl 1 _ rfl) (by omega)) (fun _ => rfl) (by omega)
theorem own_ft {q : Nat} {h3 : AH} (o : Owns (h.next + 2) q h3 (ownO vp vc vt vr A p X B)) (hB : B.length ≤ 1000) : Frz (h.next ≤ ·) h3 h.next vt (.fl 1 (B.map Tab.enc)) := Sl.frzb (Sl.weak (o.sl 2 _ rfl) (by omega)) (fun _ => rfl) (by omega)
theorem OD.done {K : V → AH → Prop} (wf : Wf h) (a : OD h h' vp vc vt vr A p X B) (hA : A.length ≤ 6) (hp : p.procs.length ≤ 1000) (hX : X.length ≤ 1000) (hB : B.length ≤ 1000) (k : K (.agg (Config.enc ⟨A ++ [p], X, B⟩)) h) :
    ∃ P R H, Settle h (h'.put (h.next + 1) ⟨3, [[vp, vc, vt]]⟩) (.agg [vp, vc, vt]) P R H ∧ K R H := by
  have o := a.own.put (h.next + 1) ⟨3, [[vp, vc, vt]]⟩ (.inl (by omega))
  have hb := a.own.bq
  exact fin0 wf ⟨by rw [next_put]; omega, a.lim, fun i hi => by rw [get_put, gsel_ne (by omega)]; exact a.low i hi⟩ (own_fp o hA hp) (own_fc o hX) (own_ft o hB) k
theorem OD.mk2 {q : Nat} {h5 : AH} {vp' vc' vt' vr' : V} {A' : List Part} {p' : Part} {X' : List Chan} {B' : List (List Node)} (o : Owns (h.next + 2) q h5 (ownO vp' vc' vt' vr' A' p' X' B')) (hl : h5.lim = h.lim) (low : ∀ i, i < h.next → h5.get i = h.get i) (res : h5.get (h.next + 1) = some ⟨3, [[.ns, .ns, .ns]]⟩) :
    OD h (h5.put h.next ⟨3, [[vp', vc', vt']]⟩) vp' vc' vt' vr' A' p' X' B' := by
  have := o.bq; have := o.q2
  exact ⟨(o.put _ _ (.inl (by omega))).up (by rw [next_put]; omega) (Nat.le_refl _), hl, fun i hi => by rw [get_put, gsel_ne (by omega)]; exact low i hi, by rw [get_put, gsel_eq rfl], by rw [get_put, gsel_ne (by omega)]; exact res⟩
theorem OD.keep {h2 : AH} (a : OD h h' vp vc vt vr A p X B) (hn : h'.next ≤ h2.next) (hl : h2.lim = h'.lim) (g : ∀ i, i < h'.next → h2.get i = h'.get i) : Owns (h.next + 2) h'.next h2 (ownO vp vc vt vr A p X B) ∧ h2.lim = h.lim ∧ (∀ i, i < h.next → h2.get i = h.get i) ∧ h2.get h.next = some ⟨3, [[vp, vc, vt]]⟩ ∧ h2.get (h.next + 1) = some ⟨3, [[.ns, .ns, .ns]]⟩ := by
  have := a.own.bq
  exact ⟨a.own.keep hn g, hl.trans a.lim, fun i hi => (g i (by omega)).trans (a.low i hi), (g _ (by omega)).trans a.box, (g _ (by omega)).trans a.res⟩
theorem OD.part (a : OD h h' vp vc vt vr A p X B) (p' : Part) (hp : p'.procs = p.procs) : OD h (h'.put (idV vp) ⟨11, (csOf h' vp).set (elV vp + A.length) (p'.encO vr)⟩) vp vc vt vr A p' X B := by
  have o := a.own.set (i := 0) (n := A.length) (r := p'.encO vr) rfl (by simp)
  have hl := sl_own (a.own.sl 0 (11, vp, _) rfl)
  have hnil : nilV vp = false := by
    rcases a.own.sl 0 (11, vp, A.map Part.enc ++ [p.encO vr]) rfl with ⟨_, hR⟩ | ⟨_, _, _, _, hv, _⟩
    · simp at hR
    · dsimp only at hv; rw [hv]; rfl
  have hl : h.next + 2 ≤ idV vp := by
    rcases hl with q | q
    · dsimp only at q; rw [hnil] at q; cases q
    · exact q
  refine ⟨?_, a.lim, fun i hi => by rw [get_put, gsel_ne (by omega)]; exact a.low i hi, by rw [get_put, gsel_ne (by omega)]; exact a.box, by rw [get_put, gsel_ne (by omega)]; exact a.res⟩
  have e : ownO vp vc vt vr A p' X B = (ownO vp vc vt vr A p X B).set 0 (11, vp, (A.map Part.enc ++ [p.encO vr]).set A.length (p'.encO vr)) := by
    simp [ownO, hp]
  rw [e]
  exact o
structure ODF (h h' : AH) (vp vc vt vr : V) (A : List Part) (p : Part) : Prop where
  len : lenV vp = some (.i .i64 ((A.length + 1 : Nat) : Int))
  get : h'.get (idV vp) = some ⟨11, csOf h' vp⟩
  at_ : ∀ (k : IntKind) (j : Int) (cs : List (List V)), 0 ≤ j → j < ((A.length + 1 : Nat) : Int) → iad2 (some ⟨11, cs⟩) 11 vp (.i k j) = some (.p (idV vp) (elV vp + j.toNat) 0)
  row : (csOf h' vp)[elV vp + A.length]? = some (p.encO vr)
  lo : h.next + 2 ≤ idV vp
  lt : idV vp < h'.next
  rl : elV vp + A.length < (csOf h' vp).length
  c0 : vp.isCell = true
  c1 : vp.cells = [vp]
  c2 : vc.isCell = true
  c3 : vc.cells = [vc]
  c4 : vt.isCell = true
  c5 : vt.cells = [vt]
  c6 : vr.isCell = true
  c7 : vr.cells = [vr]
theorem OD.facts (a : OD h h' vp vc vt vr A p X B) : ODF h h' vp vc vt vr A p := by
  have s0 := a.own.sl 0 (11, vp, A.map Part.enc ++ [p.encO vr]) rfl
  dsimp only at s0
  have f : SlF (fun x => x) (h.next + 2) h' 11 vp (A.map Part.enc ++ [p.encO vr]) := Sl.facts (enc := fun x => x) (by rw [List.map_id']; exact s0)
  have hl : (A.map Part.enc ++ [p.encO vr]).length = A.length + 1 := by simp
  obtain ⟨len, _, lt, lo, get, at_, row, _, _⟩ := f
  rw [hl] at len lt lo get at_ row
  have hr := row A.length (by omega)
  have hn : nth (A.map Part.enc ++ [p.encO vr]) A.length = p.encO vr := by
    rw [nth_app, if_neg (by simp), List.length_map, Nat.sub_self, nth_cons0]
  rw [hn] at hr
  obtain ⟨c0, c1⟩ := sl_cell s0
  obtain ⟨c2, c3⟩ := sl_cell (a.own.sl 1 (6, vc, _) rfl)
  obtain ⟨c4, c5⟩ := sl_cell (a.own.sl 2 (1, vt, _) rfl)
  obtain ⟨c6, c7⟩ := sl_cell (a.own.sl 3 (2, vr, _) rfl)
  exact ⟨len, get (by omega), at_, hr, lo (by omega), lt (by omega), Sl.rowlt s0 (by simp), c0, c1, c2, c3, c4, c5, c6, c7⟩
theorem OD.chan {h1 h5 : AH} {w : V} {c : Chan} (a : OD h h' vp vc vt vr A p X B) (x : Ext h' h1) (s : Sl (h.next + 2) h5 6 w (X.map Chan.enc ++ [c.enc])) (g : Grown (h.next + 2) h1 vc w h5) : OD h (h5.put h.next ⟨3, [[vp, w, vt]]⟩) vp w vt vr A p (X ++ [c]) B := by
  have lo := a.own.low (i := 1) rfl x g
  have o := a.own.grow (i := 1) rfl x g s
  have hb := a.own.bq
  have e : ownO vp w vt vr A p (X ++ [c]) B = (ownO vp vc vt vr A p X B).set 1 (6, w, X.map Chan.enc ++ [c.enc]) := by simp [ownO]
  exact OD.mk2 (q := h5.next) (by rw [e]; exact o) (g.lim.trans (x.lim.trans a.lim)) (fun i hi => (lo i (by omega)).trans (a.low i hi)) ((lo _ (by omega)).trans a.res)
theorem OD.procs {h5 : AH} {q : Nat} {v : V} {L : List Proc} (a : OD h h' vp vc vt vr A p X B) (hq : h'.next ≤ q) (o : Owns (h.next + 2) q h5 ((ownO vp vc vt vr A p X B).set 3 (2, v, L.map Proc.enc))) (hl : h5.lim = h'.lim) (g : ∀ i, i < h.next + 2 → h5.get i = h'.get i) (hcs : csOf h5 vp = csOf h' vp) :
    OD h (h5.put (idV vp) ⟨11, (csOf h' vp).set (elV vp + A.length) ({ p with procs := L }.encO v)⟩) vp vc vt v A { p with procs := L } X B := by
  have f := a.facts
  have f1 := f.lo
  have q2 := o.q2
  have os := o.set (i := 0) (a := (11, vp, A.map Part.enc ++ [p.encO vr])) (n := A.length) (r := { p with procs := L }.encO v) rfl (by simp)
  dsimp only at os
  rw [hcs] at os
  have e : ownO vp vc vt v A { p with procs := L } X B = ((ownO vp vc vt vr A p X B).set 3 (2, v, L.map Proc.enc)).set 0 (11, vp, (A.map Part.enc ++ [p.encO vr]).set A.length ({ p with procs := L }.encO v)) := by simp [ownO]
  refine ⟨by rw [e]; exact os.up q2 (Nat.le_refl _), hl.trans a.lim, fun i hi => by rw [get_put, gsel_ne (by omega), g i (by omega)]; exact a.low i hi, by rw [get_put, gsel_ne (by omega), g _ (by omega)]; exact a.box, by rw [get_put, gsel_ne (by omega), g _ (by omega)]; exact a.res⟩
theorem Small.np {k : Nat} (sm : Small k ⟨A ++ [p], X, B⟩) : p.name.size < 4000000000 := sm.nm p (by simp)
end
end Go.Ab.T
namespace Go.Ab.T
open Go Go.Ab
set_option maxHeartbeats 4000000
attribute [-go_sem] bin_and
section
variable {h h' : AH} {vp vc vt vr : V} {A : List Part} {p : Part} {X : List Chan} {B : List (List Node)}
end
end Go.Ab.T
namespace Go.Ab.T
open Go Go.Ab
set_option maxHeartbeats 8000000
attribute [-go_sem] bin_and
end Go.Ab.T
namespace Go.Ab.T
open Go Go.Ab
set_option maxHeartbeats 4000000
attribute [go_sem] bin_and
end Go.Ab.T
namespace Go.Ab.T
open Go Go.Ab
set_option maxHeartbeats 4000000
theorem Owns.app {b q q2 : Nat} {h : AH} {l1 l2 : List (Nat × V × List (List V))} (o1 : Owns b q h l1) (o2 : Owns q q2 h l2) : Owns b q2 h (l1 ++ l2) := by
  have x1 := o1.bq; have x2 := o2.bq
  have key : ∀ (i : Nat) (a : Nat × V × List (List V)), (l1 ++ l2)[i]? = some a → (i < l1.length ∧ l1[i]? = some a) ∨ (l1.length ≤ i ∧ l2[i - l1.length]? = some a) := fun i a e => by
    by_cases hi : i < l1.length
    · rw [List.getElem?_append_left hi] at e; exact .inl ⟨hi, e⟩
    · rw [List.getElem?_append_right (by omega)] at e; exact .inr ⟨by omega, e⟩
  refine ⟨by omega, o2.q2, fun i a e => ?_, fun i a e => ?_, fun i j a c hij ea ec => ?_⟩
  · rcases key i a e with ⟨_, e⟩ | ⟨_, e⟩
    · exact o1.sl _ _ e
    · exact Sl.weak (o2.sl _ _ e) x1
  · rcases key i a e with ⟨_, e⟩ | ⟨_, e⟩
    · exact (o1.lt _ _ e).imp (fun x => x) (fun x => by omega)
    · exact o2.lt _ _ e
  · rcases key i a ea with ⟨_, ea⟩ | ⟨hi, ea⟩ <;> rcases key j c ec with ⟨_, ec⟩ | ⟨hj, ec⟩
    · exact o1.dj _ _ _ _ hij ea ec
    · rcases o1.lt _ _ ea with k | k
      · exact .inl k
      · rcases sl_own (o2.sl _ _ ec) with k2 | k2
        · exact .inr (.inl k2)
        · exact .inr (.inr (by omega))
    · rcases o1.lt _ _ ec with k | k
      · exact .inr (.inl k)
      · rcases sl_own (o2.sl _ _ ea) with k2 | k2
        · exact .inl k2
        · exact .inr (.inr (by omega))
    · exact o2.dj _ _ _ _ (by omega) ea ec
theorem Owns.down {b b' q : Nat} {h : AH} {l : List (Nat × V × List (List V))} (o : Owns b q h l) (hb : b' ≤ b) : Owns b' q h l :=
  ⟨Nat.le_trans hb o.bq, o.q2, fun i a e => Sl.weak (o.sl i a e) hb, o.lt, o.dj⟩
theorem Made.lens {C : Config} (m : Made C) : 1 ≤ C.parts.length ∧ 1 ≤ C.tables.length := by
  obtain ⟨⟨h1, h2, h3, h4, h5⟩, _⟩ := where_iff.1 m.wh
  exact ⟨h1, h4⟩
end Go.Ab.T
namespace Go.Ab.T
open Go Go.Ab
set_option maxHeartbeats 4000000
section
variable {P : List Part} {X X' : List Chan} {T T' : List (List Node)}
end
theorem Sl.frzT {b nx sz : Nat} {h : AH} {v : V} {R R' : List (List V)} (s : Sl b h sz v R) (hr : Frzr (fun _ => True) h 0 R R') (hL : R.length < 4000000000) : Frz (fun _ => True) h nx v (.fl sz R') := by
  rcases s with ⟨hv, rfl⟩ | ⟨i, el, cap, cs, rfl, hg, a1, a2, a3, a4, a5, a6⟩
  · cases hr
    rcases hv with rfl | rfl
    · exact .ns _ _
    · exact .e0 _ _
  · exact .sl _ _ _ _ _ _ cs _ trivial hg (by omega) a3 (by simpa [frzLen] using hL) (by rw [a2]; exact hr)
theorem Frzr.set {P : Nat → Prop} {h : AH} {n : Nat} {r r' : List V} (q : Frzs P h n r r') : ∀ {a a' : List (List V)} (k : Nat), Frzr P h n a a' → Frzr P h n (a.set k r) (a'.set k r')
  | _, _, _, .nil _ => .nil _
  | _, _, 0, .cons _ _ _ _ _ _ t => .cons _ _ _ _ _ q t
  | _, _, k + 1, .cons _ _ _ _ _ p t => .cons _ _ _ _ _ p (Frzr.set q k t)
end Go.Ab.T
namespace Go.Ab.T
open Go Go.Ab
set_option maxHeartbeats 4000000
/-! Chapter 1's bytes, as the code reckons them. -/
@[go_sem] def encB (z : Int) : List V := [.i .u8 z]
def u0 (n : Int) : Int := if n < 0 then IntKind.wrap .u64 (0 - IntKind.wrap .u64 n) else IntKind.wrap .u64 n
def putGo : Nat → Int → List Int → List Int
  | 0, _, x => x
  | f + 1, u, x => if 0 < u then putGo f (u.fdiv 256) (IntKind.wrap .u8 u :: x) else x
def putX (n : Int) : List Int := putGo 8 (u0 n) []
def putR (B : List Int) (n : Int) : List Int := B ++ [IntKind.wrap .u8 ((if n < 0 then 128 else 0) + IntKind.wrap .u8 ((putX n).length : Int))] ++ putX n
theorem u64_bd (x : Int) : 0 ≤ IntKind.wrap .u64 x ∧ IntKind.wrap .u64 x < 18446744073709551616 := by
  have e : IntKind.wrap .u64 x = x % 18446744073709551616 := by unfold IntKind.wrap; simp [IntKind.bits, IntKind.signed]
  rw [e]; omega
theorem u0_bd (n : Int) : 0 ≤ u0 n ∧ u0 n < 18446744073709551616 := by unfold u0; split <;> exact u64_bd _
theorem putGo_len : ∀ (f : Nat) (u : Int) (x : List Int), (putGo f u x).length ≤ x.length + f
  | 0, u, x => by simp [putGo]
  | f + 1, u, x => by
    rw [putGo]; split
    · have := putGo_len f (u.fdiv 256) (IntKind.wrap .u8 u :: x)
      simp at this; omega
    · omega
theorem putR_len (B : List Int) (n : Int) : (putR B n).length ≤ B.length + 9 := by
  have := putGo_len 8 (u0 n) []
  simp only [putR, putX, List.length_append, List.length_cons, List.length_nil] at this ⊢; omega
theorem shr8 (u : Int) : binV .shr (.i .u64 u) (.i .u64 8) = some (.i .u64 (u.fdiv 256)) := rfl
theorem put_8 {K : Ex → Env → AH → Prop} {e : Env} {h h' : AH} {b : V} {kb u : Int} (hlo : h.lim ≤ h.next) (hu0 : 0 ≤ u) (hu1 : u < 18446744073709551616) (x0 : Ext h h') (e0 : e 0 = b) (e5 : e 5 = .i .u64 u) (e6 : e 6 = .i .u8 kb) (e7 : e 7 = .ns)
    (kk : ∀ e' h2 v, e' 0 = b → e' 6 = .i .u8 kb → e' 7 = v → Ext h h2 → Sl h.next h2 1 v ((putGo 8 u []).map encB) → K (.ex 0) e' h2) : ZC tp (.loop Q35_8) e h' K := by
  have hs := shr8
  refine ZC_loop_n (fun n' e hh => ∃ (f : Nat) (w : Int) (v : V) (x : List Int), n' = f ∧ Ext h hh ∧ e 0 = b ∧ e 5 = .i .u64 w ∧ e 6 = .i .u8 kb ∧ e 7 = v ∧ 0 ≤ w ∧ w < 256 ^ f ∧ x.length + f ≤ 8 ∧ Sl h.next hh 1 v (x.map encB) ∧ putGo f w x = putGo 8 u []) ?_ _ _ _ ⟨8, u, .ns, [], rfl, x0, e0, e5, e6, e7, hu0, by omega, by simp, Sl.nil _ _ _, rfl⟩
  clear e0 e5 e6 e7 e x0
  rintro n' e hh ⟨f, w, v, x, hf, xx, e0, e5, e6, e7, hw0, hw1, hl, s, hz⟩ ih
  subst hf
  have hlm := xx.lim
  have hnx := xx.next
  rw [ZC_unf Q35_8.eq_1]
  simp (disch := omega) only [go_sem, *]
  refine Wb_dec (fun hc => ?_) (fun hc => ?_)
  · cases n' with
    | zero => simp at hw1; omega
    | succ f =>
      have hz2 : putGo f (w.fdiv 256) (IntKind.wrap .u8 w :: x) = putGo 8 u [] := by rw [← hz, putGo, if_pos hc]
      have hd : w.fdiv 256 = w / 256 := Int.fdiv_eq_ediv_of_nonneg _ (by omega)
      have hp : (256 : Int) ^ (f + 1) = 256 ^ f * 256 := Int.pow_succ ..
      have hd1 : 0 ≤ w.fdiv 256 := by rw [hd]; omega
      have hd2 : w.fdiv 256 < 256 ^ f := by rw [hd]; omega
      have hv : rowsV 1 (hh.alloc ⟨1, [encB (IntKind.wrap .u8 w)]⟩) v = some (x.map encB) := (s.alloc _).rows
      have s0 : Sl h.next (hh.alloc ⟨1, [encB (IntKind.wrap .u8 w)]⟩) 1 (.sl hh.next 0 1 1) [encB (IntKind.wrap .u8 w)] := Sl.new hnx (by simp)
      clear hz hd hp
      simp only [encB] at hv
      simp (disch := omega) only [go_sem, *]
      refine app_rule s0 (by first | omega | (simp (disch := omega) only [go_sem, *] <;> omega)) (by first | omega | (simp (disch := omega) only [go_sem, *] <;> omega)) (by simp; omega) ?_
      intro r h4 s4 g4
      have g4 : Grown h.next (hh.alloc ⟨1, [encB (IntKind.wrap .u8 w)]⟩) (.sl hh.next 0 1 1) r h4 := g4
      have x4 : Ext h h4 := ⟨by have := g4.next; rw [next_alloc] at this; omega, by rw [g4.lim, lim_alloc]; exact hlm, fun j hj => by rw [g4.low j hj, get_alloc, gsel_ne (by omega)]; exact xx.get j hj⟩
      have s5 : Sl h.next h4 1 r ((IntKind.wrap .u8 w :: x).map encB) := by simpa using s4
      clear s4 g4 hv s0
      simp (disch := omega) only [go_sem, *]
      refine ih _ _ _ ?_ ⟨f, w.fdiv 256, r, IntKind.wrap .u8 w :: x, rfl, ?_⟩
      · omega
      · have hl5 : (IntKind.wrap .u8 w :: x).length + f ≤ 8 := by simp only [List.length_cons]; omega
        clear ih kk
        simp (disch := omega) only [go_sem, *]
        all_goals ((repeat' refine And.intro ?_ ?_) <;> first | omega | assumption | (exact x4) | (exact s5) | (exact hl5) | (exact hz2))
  · have hx : putGo n' w x = x := by cases n' with
      | zero => rfl
      | succ f => rw [putGo, if_neg hc]
    rw [hx] at hz
    clear hx
    simp (disch := omega) only [go_sem, *]
    exact kk _ hh v e0 e6 e7 xx (by rw [← hz]; exact s)
theorem put_ev {m : Nat} {h : AH} {b : V} {B : List Int} {n : Int} {K : V → AH → Prop} (hlo : h.lim ≤ h.next) (s : Sl m h 1 b (B.map encB)) (hB : B.length < 1000000)
    (kk : ∀ r h', Sl h.next h' 1 r ((putR B n).map encB) → Ext h h' → K r h') : Cq tp i_Q35 [b, .i .i64 n] h K := by
  refine Cq_raw_go fn_Q35 (by simp [t_Q35]) fun wf rp => ?_
  unfold t_Q35
  have hu := u0_bd n
  have hkr : ∀ r h', Sl h.next h' 1 r ((B ++ [IntKind.wrap .u8 ((if n < 0 then 128 else 0) + IntKind.wrap .u8 ((putX n).length : Int))] ++ putX n).map encB) → Ext h h' → K r h' := kk
  simp (disch := omega) only [go_sem, *]
  refine Wb_dec (fun hc => ?_) (fun hc => ?_)
  · have hu0 : u0 n = IntKind.wrap .u64 (0 - IntKind.wrap .u64 n) := if_pos hc
    rw [if_pos hc] at hkr
    simp (disch := omega) only [go_sem, *]
    refine put_8 (b := b) (u := u0 n) (kb := 128) hlo hu.1 hu.2 (Ext.refl h) (by simp (disch := omega) only [go_sem, *]) (by simp (disch := omega) only [go_sem, *]) (by simp (disch := omega) only [go_sem, *]) (by simp (disch := omega) only [go_sem, *]) ?_
    clear hu0
    intro e' h2 v f0 f6 f7 x2 s2
    have hlm := x2.lim
    have hnx := x2.next
    have hv : rowsV 1 h2 b = some (B.map encB) := (s.ext x2).rows
    simp (disch := omega) only [go_sem, *]
    refine app_rule (b := h.next) (R := []) (Sl.nil' _ _ _) (by omega) (by omega) (by simp; omega) ?_
    intro r1 h3 s3 g3
    have x3 : Ext h2 h3 := ⟨g3.next, g3.lim, fun i hi => g3.get i hi (.inl rfl)⟩
    have s2' := s2.ext x3
    have vl := (s2'.facts).len
    have hpl := putGo_len 8 (u0 n) []
    simp only [List.length_nil, Nat.zero_add] at hpl
    have hn3 := x3.next
    have hl3 := x3.lim
    have dj : Dj r1 v := by
      rcases g3.own with q | ⟨q, _⟩ | q
      · exact .inl q
      · cases q
      · rcases sl_low s2 with q2 | q2
        · exact .inr (.inl q2)
        · exact .inr (.inr (by omega))
    have ho3 := sl_own s3
    clear g3 hv
    simp (disch := omega) only [go_sem, *]
    refine app_rule (N := [encB ?z128]) (s3.alloc ⟨1, [encB ?z128]⟩) ?_ ?_ ?_ ?_
    · rw [lim_alloc]; omega
    · rw [next_alloc]; omega
    · simp; omega
    intro r2 h4 s4 g4
    have x4 : Ext h3 (h3.alloc ⟨1, [encB ?z128]⟩) := (Ext.refl _).alloc _
    have s24 := sl_grown (s2'.ext x4) g4 dj
    have dj2 : Dj r2 v := dj_grown g4 dj ((sl_low s2').imp (fun x => x) (fun x => by rw [next_alloc]; omega))
    have hv4 := s24.rows
    have hn4 := g4.next
    have hl4 := g4.lim
    have lw4 : ∀ i, i < h.next → h4.get i = h.get i := fun i hi => by rw [g4.low i hi, get_alloc, gsel_ne (by omega), x3.get i (by omega)]; exact x2.get i hi
    rw [next_alloc] at hn4
    rw [lim_alloc] at hl4
    clear g4 x4
    simp (disch := omega) only [go_sem, *]
    refine app_rule s4 (by omega) (by omega) (by simp; omega) ?_
    intro r3 h5 s5 g5
    have x5 : Ext h h5 := ⟨by have := g5.next; omega, by rw [g5.lim]; omega, fun i hi => by rw [g5.low i hi]; exact lw4 i hi⟩
    have w1 := g5.cell
    have f := hkr r3 h5 (by simpa [putX, encB] using s5) x5
    clear s5 g5 hkr kk
    simp (disch := omega) only [go_sem, *]
  · have hu0 : u0 n = IntKind.wrap .u64 n := if_neg hc
    rw [if_neg hc] at hkr
    simp (disch := omega) only [go_sem, *]
    refine put_8 (b := b) (u := u0 n) (kb := 0) hlo hu.1 hu.2 (Ext.refl h) (by simp (disch := omega) only [go_sem, *]) (by simp (disch := omega) only [go_sem, *]) (by simp (disch := omega) only [go_sem, *]) (by simp (disch := omega) only [go_sem, *]) ?_
    clear hu0
    intro e' h2 v f0 f6 f7 x2 s2
    have hlm := x2.lim
    have hnx := x2.next
    have hv : rowsV 1 h2 b = some (B.map encB) := (s.ext x2).rows
    simp (disch := omega) only [go_sem, *]
    refine app_rule (b := h.next) (R := []) (Sl.nil' _ _ _) (by omega) (by omega) (by simp; omega) ?_
    intro r1 h3 s3 g3
    have x3 : Ext h2 h3 := ⟨g3.next, g3.lim, fun i hi => g3.get i hi (.inl rfl)⟩
    have s2' := s2.ext x3
    have vl := (s2'.facts).len
    have hpl := putGo_len 8 (u0 n) []
    simp only [List.length_nil, Nat.zero_add] at hpl
    have hn3 := x3.next
    have hl3 := x3.lim
    have dj : Dj r1 v := by
      rcases g3.own with q | ⟨q, _⟩ | q
      · exact .inl q
      · cases q
      · rcases sl_low s2 with q2 | q2
        · exact .inr (.inl q2)
        · exact .inr (.inr (by omega))
    have ho3 := sl_own s3
    clear g3 hv
    simp (disch := omega) only [go_sem, *]
    refine app_rule (N := [encB ?z0]) (s3.alloc ⟨1, [encB ?z0]⟩) ?_ ?_ ?_ ?_
    · rw [lim_alloc]; omega
    · rw [next_alloc]; omega
    · simp; omega
    intro r2 h4 s4 g4
    have x4 : Ext h3 (h3.alloc ⟨1, [encB ?z0]⟩) := (Ext.refl _).alloc _
    have s24 := sl_grown (s2'.ext x4) g4 dj
    have dj2 : Dj r2 v := dj_grown g4 dj ((sl_low s2').imp (fun x => x) (fun x => by rw [next_alloc]; omega))
    have hv4 := s24.rows
    have hn4 := g4.next
    have hl4 := g4.lim
    have lw4 : ∀ i, i < h.next → h4.get i = h.get i := fun i hi => by rw [g4.low i hi, get_alloc, gsel_ne (by omega), x3.get i (by omega)]; exact x2.get i hi
    rw [next_alloc] at hn4
    rw [lim_alloc] at hl4
    clear g4 x4
    simp (disch := omega) only [go_sem, *]
    refine app_rule s4 (by omega) (by omega) (by simp; omega) ?_
    intro r3 h5 s5 g5
    have x5 : Ext h h5 := ⟨by have := g5.next; omega, by rw [g5.lim]; omega, fun i hi => by rw [g5.low i hi]; exact lw4 i hi⟩
    have w1 := g5.cell
    have f := hkr r3 h5 (by simpa [putX, encB] using s5) x5
    clear s5 g5 hkr kk
    simp (disch := omega) only [go_sem, *]
end Go.Ab.T
namespace Go.Ab.T
open Go Go.Ab
set_option maxHeartbeats 4000000
def sB (s : ByteArray) : List Int := s.data.toList.map fun c => (c.toNat : Int)
theorem bytesV_sB (s : ByteArray) : bytesV s = (sB s).map encB := by simp [bytesV, sB, encB]
theorem sB_len (s : ByteArray) : (sB s).length = s.size := by simp only [sB, List.length_map, Array.length_toList]; rfl
theorem flag_ev {m : Nat} {h : AH} {b : V} {B : List Int} {f : Bool} {K : V → AH → Prop} (hlo : h.lim ≤ h.next) (s : Sl m h 1 b (B.map encB)) (hB : B.length < 1000000)
    (kk : ∀ r h', Sl h.next h' 1 r ((putR B (if f = true then 1 else 0)).map encB) → Ext h h' → K r h') : Cq tp i_Q37 [b, .b f] h K := by
  refine Cq_raw_go fn_Q37 (by simp [t_Q37]) fun wf rp => ?_; unfold t_Q37; simp (disch := omega) only [go_sem, *]
  cases f
  · simp (disch := omega) only [go_sem, *]
    refine put_ev hlo s hB (fun r h' s' x => ?_)
    have f := kk r h' s' x
    clear kk
    simp (disch := omega) only [go_sem, *]
  · simp (disch := omega) only [go_sem, *]
    refine put_ev hlo s hB (fun r h' s' x => ?_)
    have f := kk r h' s' x
    clear kk
    simp (disch := omega) only [go_sem, *]
theorem text_ev {m : Nat} {h : AH} {b : V} {B : List Int} {s : ByteArray} {K : V → AH → Prop} (hlo : h.lim ≤ h.next) (sb : Sl m h 1 b (B.map encB)) (hB : B.length < 1000000) (hs : s.size < 1000)
    (kk : ∀ r h', Sl h.next h' 1 r ((putR B s.size ++ sB s).map encB) → Ext h h' → K r h') : Cq tp i_Q36 [b, .s s] h K := by
  refine Cq_raw_go fn_Q36 (by simp [t_Q36]) fun wf rp => ?_; unfold t_Q36; simp (disch := omega) only [go_sem, *]
  refine put_ev hlo sb hB (fun r h' s' x => ?_)
  have hl := putR_len B s.size
  have hsl := sB_len s
  have hbv := bytesV_sB s
  have hx := x.lim
  have hn := x.next
  simp (disch := omega) only [go_sem, *]
  refine app_rule s' (by omega) (by omega) (by simp; omega) ?_
  intro r2 h4 s4 g4
  have x4 : Ext h h4 := ⟨by have := g4.next; omega, by rw [g4.lim]; exact hx, fun i hi => by rw [g4.low i hi]; exact x.get i hi⟩
  have f := kk r2 h4 (by rw [List.map_append]; exact s4) x4
  clear kk s4 g4 hsl hbv
  simp (disch := omega) only [go_sem, *]
def xr (a b : Int) : Int := IntKind.wrap .u32 ((BitVec.ofInt 32 a ^^^ BitVec.ofInt 32 b).toNat : Int)
def sh1 (c : Int) : Int := IntKind.wrap .u32 (c * 2)
def nxStep (c : Int) : Int := if c.fdiv 2147483648 = 1 then xr (sh1 c) 79764919 else sh1 c
def nxIt : Nat → Int → Int
  | 0, c => c
  | n + 1, c => nxIt n (nxStep c)
def nextR (c b : Int) : Int := nxIt 8 (xr c (IntKind.wrap .u32 (IntKind.wrap .u32 b * 16777216)))
theorem op_xor (a b : Int) : binV .xor (.i .u32 a) (.i .u32 b) = some (.i .u32 (xr a b)) := rfl
theorem op_sh1 (a : Int) : binV .shl (.i .u32 a) (.i .u64 1) = some (.i .u32 (sh1 a)) := rfl
theorem op_sh24 (a : Int) : binV .shl (.i .u32 a) (.i .u64 24) = some (.i .u32 (IntKind.wrap .u32 (a * 16777216))) := rfl
theorem op_r31 (a : Int) : binV .shr (.i .u32 a) (.i .u64 31) = some (.i .u32 (a.fdiv 2147483648)) := rfl
theorem op_r24 (a : Int) : binV .shr (.i .u32 a) (.i .u64 24) = some (.i .u32 (a.fdiv 16777216)) := rfl
theorem op_r16 (a : Int) : binV .shr (.i .u32 a) (.i .u64 16) = some (.i .u32 (a.fdiv 65536)) := rfl
theorem op_r8 (a : Int) : binV .shr (.i .u32 a) (.i .u64 8) = some (.i .u32 (a.fdiv 256)) := rfl
theorem next1_ev {c b : Int} : Pf tp i_Q71 [.i .u32 c, .i .u8 b] (.i .u32 (nextR c b)) := by
  have h1 := op_xor; have h2 := op_sh1; have h3 := op_sh24; have h4 := op_r31
  refine Pf_go fn_Q71 (by simp [t_Q71]) fun rp => ?_; unfold t_Q71; simp (disch := omega) only [go_sem, *]
  refine ZC_loop_n (fun n' e hh => ∃ (i : Nat) (w : Int), n' = 8 - i ∧ hh.lim = 0 ∧ e 0 = .i .u32 w ∧ e 5 = .i .i64 i ∧ i ≤ 8 ∧ nxIt (8 - i) w = nextR c b) ?_ _ _ _ ⟨0, xr c (IntKind.wrap .u32 (IntKind.wrap .u32 b * 16777216)), rfl, ?_⟩
  · rintro n' e hh ⟨i, w, rfl, hlm, e0, e5, hi, hz⟩ ih
    rw [ZC_unf Q71_9.eq_1]
    have hz1 := hz
    clear hz
    simp (disch := omega) only [go_sem, *]
    refine Wb_dec (fun hc => ?_) (fun hc => ?_)
    · have e8 : 8 - i = (8 - (i + 1)) + 1 := by omega
      have hz2 : nxIt (8 - (i + 1)) (nxStep w) = nextR c b := by rw [← hz1, e8]; rfl
      clear hz1 e8
      unfold nxStep at hz2
      simp (disch := omega) only [go_sem, *]
      refine Wb_dec (fun hc2 => ?_) (fun hc2 => ?_)
      · rw [if_pos hc2] at hz2
        simp (disch := omega) only [go_sem, *]
        refine ih _ _ _ ?_ ⟨i + 1, xr (sh1 w) 79764919, rfl, ?_⟩
        · omega
        · have hz3 := hz2
          clear hz2 ih
          simp (disch := omega) only [go_sem, *]
          all_goals ((repeat' refine And.intro ?_ ?_) <;> first | omega | assumption | (exact hz3))
      · rw [if_neg hc2] at hz2
        simp (disch := omega) only [go_sem, *]
        refine ih _ _ _ ?_ ⟨i + 1, sh1 w, rfl, ?_⟩
        · omega
        · have hz3 := hz2
          clear hz2 ih
          simp (disch := omega) only [go_sem, *]
          all_goals ((repeat' refine And.intro ?_ ?_) <;> first | omega | assumption | (exact hz3))
    · obtain rfl : i = 8 := by omega
      have hz2 : w = nextR c b := hz1
      clear hz1
      simp (disch := omega) only [go_sem, *]
  · simp (disch := omega) only [go_sem, *]
    all_goals ((repeat' refine And.intro ?_ ?_) <;> first | omega | assumption | (rfl))
def ux (a : Int) : Int := IntKind.wrap .u32 ((BitVec.ofInt 32 4294967295 ^^^ BitVec.ofInt 32 a).toNat : Int)
theorem op_ux (a : Int) : unV .xor (.i .u32 a) = some (.i .u32 (ux a)) := rfl
def sumGo : List Int → Int → Int
  | [], c => c
  | b :: l, c => sumGo l (nextR c b)
def sumR (B : List Int) : Int := ux (sumGo B 4294967295)
theorem sum1_ev {m : Nat} {h : AH} {b : V} {B : List Int} {K : V → AH → Prop} (s : Sl m h 1 b (B.map encB)) (kk : K (.i .u32 (sumR B)) h) : Cq tp i_Q57 [b] h K := by
  have h1 := op_ux
  obtain ⟨len, _, lt, lo, get, at_, row, _, _⟩ := s.facts
  simp only [encB] at row
  refine Cq_raw_go fn_Q57 (by simp [t_Q57]) fun wf rp => ?_
  unfold t_Q57
  simp (disch := omega) only [go_sem, *]
  refine ZC_loop_n (fun n' e hh => ∃ (i : Nat) (w : Int), n' = B.length - i ∧ hh = h ∧ e 0 = b ∧ e 3 = .i .u32 w ∧ e 4 = .i .i64 i ∧ i ≤ B.length ∧ sumGo (B.drop i) w = sumGo B 4294967295) ?_ _ _ _ ⟨0, 4294967295, rfl, ?_⟩
  · rintro n' e hh ⟨i, w, rfl, rfl, e0, e3, e4, hi, hz⟩ ih
    rw [ZC_unf Q57_6.eq_1]
    have hz1 := hz
    clear hz
    simp (disch := omega) only [go_sem, *]
    refine Wb_dec (fun hc => ?_) (fun hc => ?_)
    · rw [drop_nth (by omega), sumGo] at hz1
      simp (disch := omega) only [go_sem, *]
      refine Pf.go (next1_ev (c := w) (b := nth B i)) (by simp only [go_sem]) fun _ => ?_; simp (disch := omega) only [go_sem, *]
      refine ih _ _ _ ?_ ⟨i + 1, nextR w (nth B i), rfl, ?_⟩
      · omega
      · have hz3 := hz1
        clear hz1 ih
        simp (disch := omega) only [go_sem, *]
        all_goals ((repeat' refine And.intro ?_ ?_) <;> first | omega | assumption | (exact hz3))
    · rw [List.drop_eq_nil_of_le (by omega), sumGo] at hz1
      have f : K (.i .u32 (ux w)) hh := by rw [hz1]; exact kk
      clear kk hz1
      simp (disch := omega) only [go_sem, *]
  · simp (disch := omega) only [go_sem, *]
    all_goals ((repeat' refine And.intro ?_ ?_) <;> first | omega | assumption | (rfl))
def sealR (B : List Int) : List Int := B ++ [IntKind.wrap .u8 ((sumR B).fdiv 16777216), IntKind.wrap .u8 ((sumR B).fdiv 65536), IntKind.wrap .u8 ((sumR B).fdiv 256), IntKind.wrap .u8 (sumR B)]
theorem seal_ev {m : Nat} {h : AH} {b : V} {B : List Int} {K : V → AH → Prop} (hlo : h.lim ≤ h.next) (s : Sl m h 1 b (B.map encB)) (hB : B.length < 1000000)
    (kk : ∀ r h', Sl h.next h' 1 r ((sealR B).map encB) → Ext h h' → K r h') : Cq tp i_Q38 [b] h K := by
  have h1 := op_r24; have h2 := op_r16; have h3 := op_r8
  have hv := s.rows
  refine Cq_raw_go fn_Q38 (by simp [t_Q38]) fun wf rp => ?_; unfold t_Q38; simp (disch := omega) only [go_sem, *]
  refine sum1_ev s ?_
  simp (disch := omega) only [go_sem, *]
  refine app_rule (b := h.next) (R := []) (Sl.nil' _ _ _) (by omega) (by omega) (by simp; omega) ?_
  intro r1 hx s3 g3
  have x3 : Ext h hx := ⟨g3.next, g3.lim, fun i hi => g3.get i hi (.inl rfl)⟩
  have hn3 := x3.next
  have hl3 := x3.lim
  clear g3 hv
  simp (disch := omega) only [go_sem, *]
  refine app_rule (N := [encB (IntKind.wrap .u8 ((sumR B).fdiv 16777216)), encB (IntKind.wrap .u8 ((sumR B).fdiv 65536)), encB (IntKind.wrap .u8 ((sumR B).fdiv 256)), encB (IntKind.wrap .u8 (sumR B))]) (s3.alloc ⟨1, [encB (IntKind.wrap .u8 ((sumR B).fdiv 16777216)), encB (IntKind.wrap .u8 ((sumR B).fdiv 65536)), encB (IntKind.wrap .u8 ((sumR B).fdiv 256)), encB (IntKind.wrap .u8 (sumR B))]⟩) ?_ ?_ ?_ ?_
  · rw [lim_alloc]; omega
  · rw [next_alloc]; omega
  · simp; omega
  intro r2 h4 s4 g4
  have x4 : Ext h h4 := ⟨by have := g4.next; rw [next_alloc] at this; omega, by rw [g4.lim, lim_alloc]; exact hl3, fun i hi => by rw [g4.low i hi, get_alloc, gsel_ne (by omega)]; exact x3.get i hi⟩
  have f := kk r2 h4 (by simpa [sealR, encB] using s4) x4
  clear kk s4 g4
  simp (disch := omega) only [go_sem, *]
theorem sealR_len (B : List Int) : (sealR B).length = B.length + 4 := by simp [sealR]
end Go.Ab.T
namespace Go.Ab.T
open Go Go.Ab
set_option maxHeartbeats 4000000
def flagR (B : List Int) (f : Bool) : List Int := putR B (if f = true then 1 else 0)
def fProc (B : List Int) (p : Proc) : List Int := putR (putR B p.entry) p.prio
def fPart (B : List Int) (p : Part) : List Int := putR (putR (putR (putR (putR (p.procs.foldl fProc (putR (flagR (flagR (putR (putR (putR B p.name.size ++ sB p.name) p.budget) p.period) p.sched) p.stop) p.procs.length)) p.h0) p.h1) p.h2) p.h3) p.h4
def fChan (B : List Int) (x : Chan) : List Int := putR (putR (putR (flagR (putR (putR B x.src) x.dst) x.queue) x.cap) (IntKind.wrap .i64 x.top)) x.late
def fNode (B : List Int) (n : Node) : List Int := putR (putR (putR B n.kind) n.part) n.n
def fTab (B : List Int) (t : List Node) : List Int := t.foldl fNode (putR B t.length)
def bytesR (C : Config) : List Int := sealR (C.tables.foldl fTab (putR (C.chans.foldl fChan (putR (C.parts.foldl fPart (putR [72, 79, 82, 65] C.parts.length)) C.chans.length)) C.tables.length))
theorem flagR_len (B : List Int) (f : Bool) : (flagR B f).length ≤ B.length + 9 := putR_len _ _
theorem byt_12 {K : Ex → Env → AH → Prop} {e : Env} {h0 h' : AH} {v : V} {B : List Int} {L : List Proc} {bx : Nat} {row : List V} {i : Nat} {v23 : V} {n24 : Int} (x0 : Ext h0 h') (hl0 : h0.lim = 0) (s : Sl 0 h' 1 v (B.map encB)) (hB : B.length + 18 * L.length < 900000) (hb : h'.get bx = some ⟨11, [row]⟩) (hbl : bx < h'.next)
    (e1 : e 1 = .p 0 0 0) (e3 : e 3 = v) (e5 : e 5 = .p bx 0 0) (e23 : e 23 = v23) (e24 : e 24 = .i .i64 n24) (e25 : e 25 = .i .i64 i) (e51 : e 51 = .fl 2 (L.map Proc.enc)) (e52 : e 52 = .i .i64 L.length) (e53 : e 53 = .i .i64 0)
    (kk : ∀ e' h2 v, e' 1 = .p 0 0 0 → e' 3 = v → e' 5 = .p bx 0 0 → e' 23 = v23 → e' 24 = .i .i64 n24 → e' 25 = .i .i64 i → Ext h0 h2 → Sl 0 h2 1 v ((L.foldl fProc B).map encB) → (L.foldl fProc B).length ≤ B.length + 18 * L.length → h2.get bx = some ⟨11, [row]⟩ → bx < h2.next → K (.ex 2) e' h2) : ZC tp (.loop Q17_12) e h' K := by
  refine ZC_loop_n (fun n' e hh => ∃ (q : Nat) (v : V) (A : List Int), n' = L.length - q ∧ Ext h0 hh ∧ e 1 = .p 0 0 0 ∧ e 3 = v ∧ e 5 = .p bx 0 0 ∧ e 23 = v23 ∧ e 24 = .i .i64 n24 ∧ e 25 = .i .i64 i ∧ e 51 = .fl 2 (L.map Proc.enc) ∧ e 52 = .i .i64 L.length ∧ e 53 = .i .i64 q ∧ q ≤ L.length ∧ Sl 0 hh 1 v (A.map encB) ∧ A.length ≤ B.length + 18 * q ∧ hh.get bx = some ⟨11, [row]⟩ ∧ bx < hh.next ∧ (L.drop q).foldl fProc A = L.foldl fProc B) ?_ _ _ _ ⟨0, v, B, rfl, x0, e1, e3, e5, e23, e24, e25, e51, e52, e53, by omega, s, by omega, hb, hbl, rfl⟩
  clear e1 e3 e5 e23 e24 e25 e51 e52 e53 e x0 s hb hbl
  rintro n' e hh ⟨q, v, A, rfl, xx, e1, e3, e5, e23, e24, e25, e51, e52, e53, hq, s, hA, hb, hbl, hz⟩ ih
  have hlq : hh.lim ≤ hh.next := by rw [xx.lim, hl0]; exact Nat.zero_le _
  have hl00 : hh.lim ≤ 0 := by rw [xx.lim, hl0]; exact Nat.le_refl _
  rw [ZC_unf Q17_12.eq_1]
  have hz1 := hz
  clear hz
  simp (disch := omega) only [go_sem, *]
  refine Wb_dec (fun hc => ?_) (fun hc => ?_)
  · rw [drop_nth (by omega), List.foldl_cons] at hz1
    have x1 : Ext hh ((hh.alloc ⟨2, [[.i .i64 0, .i .i64 0]]⟩).put hh.next ⟨2, [[.i .i64 (nth L q).entry, .i .i64 (nth L q).prio]]⟩) := by (repeat (first | exact Ext.refl _ | refine Ext.alloc ?_ _ | (refine Ext.put ?_ _ _ ?_; rotate_left; (first | omega | (simp only [next_alloc, next_put]; omega)))))
    have b1 : ((hh.alloc ⟨2, [[.i .i64 0, .i .i64 0]]⟩).put hh.next ⟨2, [[.i .i64 (nth L q).entry, .i .i64 (nth L q).prio]]⟩).get hh.next = some ⟨2, [[.i .i64 (nth L q).entry, .i .i64 (nth L q).prio]]⟩ := by rw [get_put, gsel_eq rfl]
    have n1 : hh.next < ((hh.alloc ⟨2, [[.i .i64 0, .i .i64 0]]⟩).put hh.next ⟨2, [[.i .i64 (nth L q).entry, .i .i64 (nth L q).prio]]⟩).next := Nat.lt_succ_self _
    have s1 := s.ext x1
    simp (disch := omega) only [go_sem, *]
    generalize (hh.alloc ⟨2, [[.i .i64 0, .i .i64 0]]⟩).put hh.next ⟨2, [[.i .i64 (nth L q).entry, .i .i64 (nth L q).prio]]⟩ = h1 at x1 b1 n1 s1 ⊢
    refine put_ev (by simp only [lim_raise, next_raise]; exact Nat.le_refl _) (s1).raise (by omega)  ?_
    intro r2 k2 t2 y2
    have x2 : Ext h1 (k2.back (h1).lim) := ⟨y2.next, rfl, y2.get⟩
    have s2 : Sl 0 (k2.back (h1).lim) 1 r2 _ := Sl.weak t2 (Nat.zero_le _)
    have hb2 := (x2.get _ n1).trans (b1)
    have lt2 := Nat.lt_of_lt_of_le n1 x2.next
    have len2 := (putR_len A (nth L q).entry)
    clear t2 y2
    simp (disch := omega) only [go_sem, *]
    generalize k2.back (h1).lim = g2 at x2 s2 hb2 lt2 ⊢
    refine put_ev (by simp only [lim_raise, next_raise]; exact Nat.le_refl _) (s2).raise (by omega)  ?_
    intro r3 k3 t3 y3
    have x3 : Ext g2 (k3.back (g2).lim) := ⟨y3.next, rfl, y3.get⟩
    have s3 : Sl 0 (k3.back (g2).lim) 1 r3 _ := Sl.weak t3 (Nat.zero_le _)
    have hb3 := (x3.get _ lt2).trans (hb2)
    have lt3 := Nat.lt_of_lt_of_le lt2 x3.next
    have len3 := (putR_len (putR A (nth L q).entry) (nth L q).prio)
    clear t3 y3
    simp (disch := omega) only [go_sem, *]
    generalize k3.back (g2).lim = g3 at x3 s3 hb3 lt3 ⊢
    have xn := xx.trans (x1.trans (x2.trans x3))
    have hbn := ((x1.trans (x2.trans x3)).get bx hbl).trans hb
    have hbl2 : bx < g3.next := Nat.lt_of_lt_of_le hbl (x1.trans (x2.trans x3)).next
    have lA : (fProc A (nth L q)).length ≤ B.length + 18 * (q + 1) := by unfold fProc; omega
    refine ih _ _ _ ?_ ⟨q + 1, r3, fProc A (nth L q), rfl, ?_⟩
    · omega
    · have hz3 := hz1
      clear hz1 ih kk
      simp (disch := omega) only [go_sem, *]
      all_goals ((repeat' refine And.intro ?_ ?_) <;> first | omega | assumption | (exact xn) | (exact s3) | (exact lA) | (exact hbn) | (exact hz3))
  · rw [List.drop_eq_nil_of_le (by omega), List.foldl_nil] at hz1
    have f := kk
    clear kk
    simp (disch := omega) only [go_sem, *]
    exact f _ hh v e1 e3 e5 e23 e24 e25 xx (by rw [← hz1]; exact s) (by rw [← hz1]; omega) hb hbl
theorem byt_39 {K : Ex → Env → AH → Prop} {e : Env} {h0 h' : AH} {v : V} {B : List Int} {L : List Node} {i : Nat} {v115 : V} {n116 : Int} (x0 : Ext h0 h') (hl0 : h0.lim = 0) (s : Sl 0 h' 1 v (B.map encB)) (hB : B.length + 27 * L.length < 900000)
    (e3 : e 3 = v) (e115 : e 115 = v115) (e116 : e 116 = .i .i64 n116) (e117 : e 117 = .i .i64 i) (e125 : e 125 = .fl 3 (L.map Node.enc)) (e126 : e 126 = .i .i64 L.length) (e127 : e 127 = .i .i64 0)
    (kk : ∀ e' h2 v, e' 3 = v → e' 115 = v115 → e' 116 = .i .i64 n116 → e' 117 = .i .i64 i → Ext h0 h2 → Sl 0 h2 1 v ((L.foldl fNode B).map encB) → (L.foldl fNode B).length ≤ B.length + 27 * L.length → K (.ex 10) e' h2) : ZC tp (.loop Q17_39) e h' K := by
  refine ZC_loop_n (fun n' e hh => ∃ (q : Nat) (v : V) (A : List Int), n' = L.length - q ∧ Ext h0 hh ∧ e 3 = v ∧ e 115 = v115 ∧ e 116 = .i .i64 n116 ∧ e 117 = .i .i64 i ∧ e 125 = .fl 3 (L.map Node.enc) ∧ e 126 = .i .i64 L.length ∧ e 127 = .i .i64 q ∧ q ≤ L.length ∧ Sl 0 hh 1 v (A.map encB) ∧ A.length ≤ B.length + 27 * q ∧ (L.drop q).foldl fNode A = L.foldl fNode B) ?_ _ _ _ ⟨0, v, B, rfl, x0, e3, e115, e116, e117, e125, e126, e127, by omega, s, by omega, rfl⟩
  clear e3 e115 e116 e117 e125 e126 e127 e x0 s
  rintro n' e hh ⟨q, v, A, rfl, xx, e3, e115, e116, e117, e125, e126, e127, hq, s, hA, hz⟩ ih
  have hlq : hh.lim ≤ hh.next := by rw [xx.lim, hl0]; exact Nat.zero_le _
  have hl00 : hh.lim ≤ 0 := by rw [xx.lim, hl0]; exact Nat.le_refl _
  rw [ZC_unf Q17_39.eq_1]
  have hz1 := hz
  clear hz
  simp (disch := omega) only [go_sem, *]
  refine Wb_dec (fun hc => ?_) (fun hc => ?_)
  · rw [drop_nth (by omega), List.foldl_cons] at hz1
    have x1 : Ext hh ((hh.alloc ⟨3, [[.i .i64 0, .i .i64 0, .i .i64 0]]⟩).put hh.next ⟨3, [[.i .i64 (nth L q).kind, .i .i64 (nth L q).part, .i .i64 (nth L q).n]]⟩) := by (repeat (first | exact Ext.refl _ | refine Ext.alloc ?_ _ | (refine Ext.put ?_ _ _ ?_; rotate_left; (first | omega | (simp only [next_alloc, next_put]; omega)))))
    have b1 : ((hh.alloc ⟨3, [[.i .i64 0, .i .i64 0, .i .i64 0]]⟩).put hh.next ⟨3, [[.i .i64 (nth L q).kind, .i .i64 (nth L q).part, .i .i64 (nth L q).n]]⟩).get hh.next = some ⟨3, [[.i .i64 (nth L q).kind, .i .i64 (nth L q).part, .i .i64 (nth L q).n]]⟩ := by rw [get_put, gsel_eq rfl]
    have n1 : hh.next < ((hh.alloc ⟨3, [[.i .i64 0, .i .i64 0, .i .i64 0]]⟩).put hh.next ⟨3, [[.i .i64 (nth L q).kind, .i .i64 (nth L q).part, .i .i64 (nth L q).n]]⟩).next := Nat.lt_succ_self _
    have s1 := s.ext x1
    simp (disch := omega) only [go_sem, *]
    generalize (hh.alloc ⟨3, [[.i .i64 0, .i .i64 0, .i .i64 0]]⟩).put hh.next ⟨3, [[.i .i64 (nth L q).kind, .i .i64 (nth L q).part, .i .i64 (nth L q).n]]⟩ = h1 at x1 b1 n1 s1 ⊢
    refine put_ev (by simp only [lim_raise, next_raise]; exact Nat.le_refl _) (s1).raise (by omega)  ?_
    intro r2 k2 t2 y2
    have x2 : Ext h1 (k2.back (h1).lim) := ⟨y2.next, rfl, y2.get⟩
    have s2 : Sl 0 (k2.back (h1).lim) 1 r2 _ := Sl.weak t2 (Nat.zero_le _)
    have hb2 := (x2.get _ n1).trans (b1)
    have lt2 := Nat.lt_of_lt_of_le n1 x2.next
    have len2 := (putR_len A (nth L q).kind)
    clear t2 y2
    simp (disch := omega) only [go_sem, *]
    generalize k2.back (h1).lim = g2 at x2 s2 hb2 lt2 ⊢
    refine put_ev (by simp only [lim_raise, next_raise]; exact Nat.le_refl _) (s2).raise (by omega)  ?_
    intro r3 k3 t3 y3
    have x3 : Ext g2 (k3.back (g2).lim) := ⟨y3.next, rfl, y3.get⟩
    have s3 : Sl 0 (k3.back (g2).lim) 1 r3 _ := Sl.weak t3 (Nat.zero_le _)
    have hb3 := (x3.get _ lt2).trans (hb2)
    have lt3 := Nat.lt_of_lt_of_le lt2 x3.next
    have len3 := (putR_len (putR A (nth L q).kind) (nth L q).part)
    clear t3 y3
    simp (disch := omega) only [go_sem, *]
    generalize k3.back (g2).lim = g3 at x3 s3 hb3 lt3 ⊢
    refine put_ev (by simp only [lim_raise, next_raise]; exact Nat.le_refl _) (s3).raise (by omega)  ?_
    intro r4 k4 t4 y4
    have x4 : Ext g3 (k4.back (g3).lim) := ⟨y4.next, rfl, y4.get⟩
    have s4 : Sl 0 (k4.back (g3).lim) 1 r4 _ := Sl.weak t4 (Nat.zero_le _)
    have hb4 := (x4.get _ lt3).trans (hb3)
    have lt4 := Nat.lt_of_lt_of_le lt3 x4.next
    have len4 := (putR_len (putR (putR A (nth L q).kind) (nth L q).part) (nth L q).n)
    clear t4 y4
    simp (disch := omega) only [go_sem, *]
    generalize k4.back (g3).lim = g4 at x4 s4 hb4 lt4 ⊢
    have xn := xx.trans (x1.trans (x2.trans (x3.trans x4)))
    have lA : (fNode A (nth L q)).length ≤ B.length + 27 * (q + 1) := by unfold fNode; omega
    refine ih _ _ _ ?_ ⟨q + 1, r4, fNode A (nth L q), rfl, ?_⟩
    · omega
    · have hz3 := hz1
      clear hz1 ih kk
      simp (disch := omega) only [go_sem, *]
      all_goals ((repeat' refine And.intro ?_ ?_) <;> first | omega | assumption | (exact xn) | (exact s4) | (exact lA) | (exact hz3))
  · rw [List.drop_eq_nil_of_le (by omega), List.foldl_nil] at hz1
    have f := kk
    clear kk
    simp (disch := omega) only [go_sem, *]
    exact f _ hh v e3 e115 e116 e117 xx (by rw [← hz1]; exact s) (by rw [← hz1]; omega)
theorem byt_41 {K : Ex → Env → AH → Prop} {e : Env} {h0 h' : AH} {v : V} {B : List Int} {L : List (List Node)} (x0 : Ext h0 h') (hl0 : h0.lim = 0) (s : Sl 0 h' 1 v (B.map encB)) (hB : B.length + 20000 * L.length < 800000) (hT : ∀ t ∈ L, t.length ≤ 710)
    (e3 : e 3 = v) (e115 : e 115 = .fl 1 (L.map Tab.enc)) (e116 : e 116 = .i .i64 L.length) (e117 : e 117 = .i .i64 0)
    (kk : ∀ e' h2 v, e' 3 = v → Ext h0 h2 → Sl 0 h2 1 v ((L.foldl fTab B).map encB) → (L.foldl fTab B).length ≤ B.length + 20000 * L.length → K (.ex 8) e' h2) : ZC tp (.loop Q17_41) e h' K := by
  refine ZC_loop_n (fun n' e hh => ∃ (q : Nat) (v : V) (A : List Int), n' = L.length - q ∧ Ext h0 hh ∧ e 3 = v ∧ e 115 = .fl 1 (L.map Tab.enc) ∧ e 116 = .i .i64 L.length ∧ e 117 = .i .i64 q ∧ q ≤ L.length ∧ Sl 0 hh 1 v (A.map encB) ∧ A.length ≤ B.length + 20000 * q ∧ (L.drop q).foldl fTab A = L.foldl fTab B) ?_ _ _ _ ⟨0, v, B, rfl, x0, e3, e115, e116, e117, by omega, s, by omega, rfl⟩
  clear e3 e115 e116 e117 e x0 s
  rintro n' e hh ⟨q, v, A, rfl, xx, e3, e115, e116, e117, hq, s, hA, hz⟩ ih
  have hlq : hh.lim ≤ hh.next := by rw [xx.lim, hl0]; exact Nat.zero_le _
  rw [ZC_unf Q17_41.eq_1]
  have hz1 := hz
  clear hz
  simp (disch := omega) only [go_sem, *]
  refine Wb_dec (fun hc => ?_) (fun hc => ?_)
  · rw [drop_nth (by omega), List.foldl_cons] at hz1
    have ht := hT _ (nth_mem (L := L) (j := q) (by omega))
    simp (disch := omega) only [go_sem, *]
    refine put_ev hlq s (by omega) ?_
    intro r2 h2 s2 x2
    have l2 := putR_len A (nth L q).length
    have s2 := Sl.weak s2 (Nat.zero_le _)
    simp (disch := omega) only [go_sem, *]
    refine byt_39 (L := nth L q) (i := q) (v115 := .fl 1 (L.map Tab.enc)) (n116 := L.length) (xx.trans x2) hl0 s2 (by omega) (by simp (disch := omega) only [go_sem, *]) (by simp (disch := omega) only [go_sem, *]) (by simp (disch := omega) only [go_sem, *]) (by simp (disch := omega) only [go_sem, *]) (by simp (disch := omega) only [go_sem, *]) (by simp (disch := omega) only [go_sem, *]) (by simp (disch := omega) only [go_sem, *]) ?_
    intro e' h3 v3 f3 f115 f116 f117 x3 s3 l3
    have lA : (fTab A (nth L q)).length ≤ B.length + 20000 * (q + 1) := by unfold fTab; omega
    simp (disch := omega) only [go_sem, *]
    refine ih _ _ _ ?_ ⟨q + 1, v3, fTab A (nth L q), rfl, ?_⟩
    · omega
    · have hz3 := hz1
      clear hz1 ih kk
      simp (disch := omega) only [go_sem, *]
      all_goals ((repeat' refine And.intro ?_ ?_) <;> first | omega | assumption | (exact x3) | (exact s3) | (exact lA) | (exact hz3))
  · rw [List.drop_eq_nil_of_le (by omega), List.foldl_nil] at hz1
    have f := kk
    clear kk
    simp (disch := omega) only [go_sem, *]
    exact f _ hh v e3 xx (by rw [← hz1]; exact s) (by rw [← hz1]; omega)
theorem byt_28 {K : Ex → Env → AH → Prop} {e : Env} {h0 h' : AH} {v : V} {B : List Int} {L : List Chan} (x0 : Ext h0 h') (hl0 : h0.lim = 0) (s : Sl 0 h' 1 v (B.map encB)) (hB : B.length + 54 * L.length < 900000)
    (e1 : e 1 = .p 0 0 0) (e3 : e 3 = v) (e81 : e 81 = .fl 6 (L.map Chan.enc)) (e82 : e 82 = .i .i64 L.length) (e83 : e 83 = .i .i64 0)
    (kk : ∀ e' h2 v, e' 1 = .p 0 0 0 → e' 3 = v → Ext h0 h2 → Sl 0 h2 1 v ((L.foldl fChan B).map encB) → (L.foldl fChan B).length ≤ B.length + 54 * L.length → K (.ex 6) e' h2) : ZC tp (.loop Q17_28) e h' K := by
  refine ZC_loop_n (fun n' e hh => ∃ (q : Nat) (v : V) (A : List Int), n' = L.length - q ∧ Ext h0 hh ∧ e 1 = .p 0 0 0 ∧ e 3 = v ∧ e 81 = .fl 6 (L.map Chan.enc) ∧ e 82 = .i .i64 L.length ∧ e 83 = .i .i64 q ∧ q ≤ L.length ∧ Sl 0 hh 1 v (A.map encB) ∧ A.length ≤ B.length + 54 * q ∧ (L.drop q).foldl fChan A = L.foldl fChan B) ?_ _ _ _ ⟨0, v, B, rfl, x0, e1, e3, e81, e82, e83, by omega, s, by omega, rfl⟩
  clear e1 e3 e81 e82 e83 e x0 s
  rintro n' e hh ⟨q, v, A, rfl, xx, e1, e3, e81, e82, e83, hq, s, hA, hz⟩ ih
  have hlq : hh.lim ≤ hh.next := by rw [xx.lim, hl0]; exact Nat.zero_le _
  have hl00 : hh.lim ≤ 0 := by rw [xx.lim, hl0]; exact Nat.le_refl _
  rw [ZC_unf Q17_28.eq_1]
  have hz1 := hz
  clear hz
  simp (disch := omega) only [go_sem, *]
  refine Wb_dec (fun hc => ?_) (fun hc => ?_)
  · rw [drop_nth (by omega), List.foldl_cons] at hz1
    have x1 : Ext hh ((hh.alloc ⟨6, [[.i .i64 0, .i .i64 0, .b false, .i .i64 0, .i .u32 0, .i .i64 0]]⟩).put hh.next ⟨6, [(nth L q).enc]⟩) := by (repeat (first | exact Ext.refl _ | refine Ext.alloc ?_ _ | (refine Ext.put ?_ _ _ ?_; rotate_left; (first | omega | (simp only [next_alloc, next_put]; omega)))))
    have b1 : ((hh.alloc ⟨6, [[.i .i64 0, .i .i64 0, .b false, .i .i64 0, .i .u32 0, .i .i64 0]]⟩).put hh.next ⟨6, [(nth L q).enc]⟩).get hh.next = some ⟨6, [(nth L q).enc]⟩ := by rw [get_put, gsel_eq rfl]
    have n1 : hh.next < ((hh.alloc ⟨6, [[.i .i64 0, .i .i64 0, .b false, .i .i64 0, .i .u32 0, .i .i64 0]]⟩).put hh.next ⟨6, [(nth L q).enc]⟩).next := Nat.lt_succ_self _
    have s1 := s.ext x1
    simp only [Chan.enc] at x1 b1 n1 s1
    simp (disch := omega) only [go_sem, *]
    generalize (hh.alloc ⟨6, [[.i .i64 0, .i .i64 0, .b false, .i .i64 0, .i .u32 0, .i .i64 0]]⟩).put hh.next ⟨6, [[.i .i64 (nth L q).src, .i .i64 (nth L q).dst, .b (nth L q).queue, .i .i64 (nth L q).cap, .i .u32 (nth L q).top, .i .i64 (nth L q).late]]⟩ = h1 at x1 b1 n1 s1 ⊢
    refine put_ev (by simp only [lim_raise, next_raise]; exact Nat.le_refl _) (s1).raise (by omega)  ?_
    intro r2 k2 t2 y2
    have x2 : Ext h1 (k2.back (h1).lim) := ⟨y2.next, rfl, y2.get⟩
    have s2 : Sl 0 (k2.back (h1).lim) 1 r2 _ := Sl.weak t2 (Nat.zero_le _)
    have hb2 := (x2.get _ n1).trans (b1)
    have lt2 := Nat.lt_of_lt_of_le n1 x2.next
    have len2 := (putR_len A (nth L q).src)
    clear t2 y2
    simp (disch := omega) only [go_sem, *]
    generalize k2.back (h1).lim = g2 at x2 s2 hb2 lt2 ⊢
    refine put_ev (by simp only [lim_raise, next_raise]; exact Nat.le_refl _) (s2).raise (by omega)  ?_
    intro r3 k3 t3 y3
    have x3 : Ext g2 (k3.back (g2).lim) := ⟨y3.next, rfl, y3.get⟩
    have s3 : Sl 0 (k3.back (g2).lim) 1 r3 _ := Sl.weak t3 (Nat.zero_le _)
    have hb3 := (x3.get _ lt2).trans (hb2)
    have lt3 := Nat.lt_of_lt_of_le lt2 x3.next
    have len3 := (putR_len (putR A (nth L q).src) (nth L q).dst)
    clear t3 y3
    simp (disch := omega) only [go_sem, *]
    generalize k3.back (g2).lim = g3 at x3 s3 hb3 lt3 ⊢
    refine flag_ev (by simp only [lim_raise, next_raise]; exact Nat.le_refl _) (s3).raise (by omega)  ?_
    intro r4 k4 t4 y4
    have x4 : Ext g3 (k4.back (g3).lim) := ⟨y4.next, rfl, y4.get⟩
    have s4 : Sl 0 (k4.back (g3).lim) 1 r4 _ := Sl.weak t4 (Nat.zero_le _)
    have hb4 := (x4.get _ lt3).trans (hb3)
    have lt4 := Nat.lt_of_lt_of_le lt3 x4.next
    have len4 := (flagR_len (putR (putR A (nth L q).src) (nth L q).dst) (nth L q).queue)
    clear t4 y4
    simp (disch := omega) only [go_sem, *]
    generalize k4.back (g3).lim = g4 at x4 s4 hb4 lt4 ⊢
    have s4 : Sl 0 g4 1 r4 ((flagR (putR (putR A (nth L q).src) (nth L q).dst) (nth L q).queue).map encB) := s4
    generalize hG : flagR (putR (putR A (nth L q).src) (nth L q).dst) (nth L q).queue = G at s4 len4
    refine put_ev (by simp only [lim_raise, next_raise]; exact Nat.le_refl _) (s4).raise (by omega)  ?_
    intro r5 k5 t5 y5
    have x5 : Ext g4 (k5.back (g4).lim) := ⟨y5.next, rfl, y5.get⟩
    have s5 : Sl 0 (k5.back (g4).lim) 1 r5 _ := Sl.weak t5 (Nat.zero_le _)
    have hb5 := (x5.get _ lt4).trans (hb4)
    have lt5 := Nat.lt_of_lt_of_le lt4 x5.next
    have len5 := (putR_len G (nth L q).cap)
    clear t5 y5
    simp (disch := omega) only [go_sem, *]
    generalize k5.back (g4).lim = g5 at x5 s5 hb5 lt5 ⊢
    refine put_ev (by simp only [lim_raise, next_raise]; exact Nat.le_refl _) (s5).raise (by omega)  ?_
    intro r6 k6 t6 y6
    have x6 : Ext g5 (k6.back (g5).lim) := ⟨y6.next, rfl, y6.get⟩
    have s6 : Sl 0 (k6.back (g5).lim) 1 r6 _ := Sl.weak t6 (Nat.zero_le _)
    have hb6 := (x6.get _ lt5).trans (hb5)
    have lt6 := Nat.lt_of_lt_of_le lt5 x6.next
    have len6 := (putR_len (putR G (nth L q).cap) (IntKind.wrap .i64 (nth L q).top))
    clear t6 y6
    simp (disch := omega) only [go_sem, *]
    generalize k6.back (g5).lim = g6 at x6 s6 hb6 lt6 ⊢
    refine put_ev (by simp only [lim_raise, next_raise]; exact Nat.le_refl _) (s6).raise (by omega)  ?_
    intro r7 k7 t7 y7
    have x7 : Ext g6 (k7.back (g6).lim) := ⟨y7.next, rfl, y7.get⟩
    have s7 : Sl 0 (k7.back (g6).lim) 1 r7 _ := Sl.weak t7 (Nat.zero_le _)
    have hb7 := (x7.get _ lt6).trans (hb6)
    have lt7 := Nat.lt_of_lt_of_le lt6 x7.next
    have len7 := (putR_len (putR (putR G (nth L q).cap) (IntKind.wrap .i64 (nth L q).top)) (nth L q).late)
    clear t7 y7
    simp (disch := omega) only [go_sem, *]
    generalize k7.back (g6).lim = g7 at x7 s7 hb7 lt7 ⊢
    have xn := xx.trans (x1.trans (x2.trans (x3.trans (x4.trans (x5.trans (x6.trans x7))))))
    have lA : (fChan A (nth L q)).length ≤ B.length + 54 * (q + 1) := by unfold fChan; rw [hG]; omega
    have s7' : Sl 0 g7 1 r7 ((fChan A (nth L q)).map encB) := by unfold fChan; rw [hG]; exact s7
    clear hG
    refine ih _ _ _ ?_ ⟨q + 1, r7, fChan A (nth L q), rfl, ?_⟩
    · omega
    · have hz3 := hz1
      clear hz1 ih kk
      simp (disch := omega) only [go_sem, *]
      all_goals ((repeat' refine And.intro ?_ ?_) <;> first | omega | assumption | (exact xn) | (exact s7') | (exact lA) | (exact hz3))
  · rw [List.drop_eq_nil_of_le (by omega), List.foldl_nil] at hz1
    have f := kk
    clear kk
    simp (disch := omega) only [go_sem, *]
    exact f _ hh v e1 e3 xx (by rw [← hz1]; exact s) (by rw [← hz1]; omega)
end Go.Ab.T
namespace Go.Ab.T
open Go Go.Ab
set_option maxHeartbeats 4000000
theorem byt_18 {K : Ex → Env → AH → Prop} {e : Env} {h0 h' : AH} {v : V} {B : List Int} {a0 a1 a2 a3 a4 : Int} {i : Nat} {v23 : V} {n24 : Int} (x0 : Ext h0 h') (hl0 : h0.lim = 0) (s0 : Sl 0 h' 1 v (B.map encB)) (hB : B.length + 45 < 900000)
    (e1 : e 1 = .p 0 0 0) (e3 : e 3 = v) (e23 : e 23 = v23) (e24 : e 24 = .i .i64 n24) (e25 : e 25 = .i .i64 i) (e66 : e 66 = .agg [.i .i64 a0, .i .i64 a1, .i .i64 a2, .i .i64 a3, .i .i64 a4]) (e67 : e 67 = .i .i64 0)
    (kk : ∀ e' h2 v, e' 1 = .p 0 0 0 → e' 3 = v → e' 23 = v23 → e' 24 = .i .i64 n24 → e' 25 = .i .i64 i → Ext h0 h2 → Sl 0 h2 1 v ((putR (putR (putR (putR (putR B a0) a1) a2) a3) a4).map encB) → (putR (putR (putR (putR (putR B a0) a1) a2) a3) a4).length ≤ B.length + 45 → K (.ex 4) e' h2) : ZC tp (.loop Q17_18) e h' K := by
  have hq1 : (h').lim ≤ (h').next := by rw [(x0).lim, hl0]; exact Nat.zero_le _
  refine ZC_loop ?_
  rw [ZC_unf Q17_18.eq_1]
  simp (disch := omega) only [go_sem, *]
  refine put_ev hq1 s0 (by omega) ?_
  intro r1 g1 t1 y1
  have x1 := (x0).trans y1
  have s1 := Sl.weak t1 (Nat.zero_le _)
  have l1 := putR_len B a0
  clear t1 y1
  simp (disch := omega) only [go_sem, *]
  have hq2 : (g1).lim ≤ (g1).next := by rw [(x1).lim, hl0]; exact Nat.zero_le _
  refine ZC_loop ?_
  rw [ZC_unf Q17_18.eq_1]
  simp (disch := omega) only [go_sem, *]
  refine put_ev hq2 s1 (by omega) ?_
  intro r2 g2 t2 y2
  have x2 := (x1).trans y2
  have s2 := Sl.weak t2 (Nat.zero_le _)
  have l2 := putR_len (putR B a0) a1
  clear t2 y2
  simp (disch := omega) only [go_sem, *]
  have hq3 : (g2).lim ≤ (g2).next := by rw [(x2).lim, hl0]; exact Nat.zero_le _
  refine ZC_loop ?_
  rw [ZC_unf Q17_18.eq_1]
  simp (disch := omega) only [go_sem, *]
  refine put_ev hq3 s2 (by omega) ?_
  intro r3 g3 t3 y3
  have x3 := (x2).trans y3
  have s3 := Sl.weak t3 (Nat.zero_le _)
  have l3 := putR_len (putR (putR B a0) a1) a2
  clear t3 y3
  simp (disch := omega) only [go_sem, *]
  have hq4 : (g3).lim ≤ (g3).next := by rw [(x3).lim, hl0]; exact Nat.zero_le _
  refine ZC_loop ?_
  rw [ZC_unf Q17_18.eq_1]
  simp (disch := omega) only [go_sem, *]
  refine put_ev hq4 s3 (by omega) ?_
  intro r4 g4 t4 y4
  have x4 := (x3).trans y4
  have s4 := Sl.weak t4 (Nat.zero_le _)
  have l4 := putR_len (putR (putR (putR B a0) a1) a2) a3
  clear t4 y4
  simp (disch := omega) only [go_sem, *]
  have hq5 : (g4).lim ≤ (g4).next := by rw [(x4).lim, hl0]; exact Nat.zero_le _
  refine ZC_loop ?_
  rw [ZC_unf Q17_18.eq_1]
  simp (disch := omega) only [go_sem, *]
  refine put_ev hq5 s4 (by omega) ?_
  intro r5 g5 t5 y5
  have x5 := (x4).trans y5
  have s5 := Sl.weak t5 (Nat.zero_le _)
  have l5 := putR_len (putR (putR (putR (putR B a0) a1) a2) a3) a4
  clear t5 y5
  simp (disch := omega) only [go_sem, *]
  refine ZC_loop ?_
  rw [ZC_unf Q17_18.eq_1]
  have f := kk
  clear kk
  simp (disch := omega) only [go_sem, *]
  refine f _ _ _ ?_ ?_ ?_ ?_ ?_ x5 s5 (by omega) <;> simp (disch := omega) only [go_sem, *]
theorem byt_20 {K : Ex → Env → AH → Prop} {e : Env} {h0 h' : AH} {v : V} {B : List Int} {L : List Part} (x0 : Ext h0 h') (hl0 : h0.lim = 0) (s : Sl 0 h' 1 v (B.map encB)) (hB : B.length + 3000 * L.length < 800000) (hP : ∀ p ∈ L, p.name.size < 1000 ∧ p.procs.length ≤ 100)
    (e1 : e 1 = .p 0 0 0) (e3 : e 3 = v) (e23 : e 23 = .fl 11 (L.map Part.enc)) (e24 : e 24 = .i .i64 L.length) (e25 : e 25 = .i .i64 0)
    (kk : ∀ e' h2 v, e' 1 = .p 0 0 0 → e' 3 = v → Ext h0 h2 → Sl 0 h2 1 v ((L.foldl fPart B).map encB) → (L.foldl fPart B).length ≤ B.length + 3000 * L.length → K (.ex 0) e' h2) : ZC tp (.loop Q17_20) e h' K := by
  refine ZC_loop_n (fun n' e hh => ∃ (q : Nat) (v : V) (A : List Int), n' = L.length - q ∧ Ext h0 hh ∧ e 1 = .p 0 0 0 ∧ e 3 = v ∧ e 23 = .fl 11 (L.map Part.enc) ∧ e 24 = .i .i64 L.length ∧ e 25 = .i .i64 q ∧ q ≤ L.length ∧ Sl 0 hh 1 v (A.map encB) ∧ A.length ≤ B.length + 3000 * q ∧ (L.drop q).foldl fPart A = L.foldl fPart B) ?_ _ _ _ ⟨0, v, B, rfl, x0, e1, e3, e23, e24, e25, by omega, s, by omega, rfl⟩
  clear e1 e3 e23 e24 e25 e x0 s
  rintro n' e hh ⟨q, v, A, rfl, xx, e1, e3, e23, e24, e25, hq, s, hA, hz⟩ ih
  have hlq : hh.lim ≤ hh.next := by rw [xx.lim, hl0]; exact Nat.zero_le _
  have hl00 : hh.lim ≤ 0 := by rw [xx.lim, hl0]; exact Nat.le_refl _
  rw [ZC_unf Q17_20.eq_1]
  have hz1 := hz
  clear hz
  simp (disch := omega) only [go_sem, *]
  refine Wb_dec (fun hc => ?_) (fun hc => ?_)
  · rw [drop_nth (by omega), List.foldl_cons] at hz1
    obtain ⟨hnm, hpl⟩ := hP _ (nth_mem (L := L) (j := q) (by omega))
    have hsl := sB_len (nth L q).name
    have x1 : Ext hh ((hh.alloc ⟨11, [[.s ⟨#[]⟩, .i .i64 0, .i .i64 0, .b false, .b false, .ns, .i .i64 0, .i .i64 0, .i .i64 0, .i .i64 0, .i .i64 0]]⟩).put hh.next ⟨11, [(nth L q).enc]⟩) := by (repeat (first | exact Ext.refl _ | refine Ext.alloc ?_ _ | (refine Ext.put ?_ _ _ ?_; rotate_left; (first | omega | (simp only [next_alloc, next_put]; omega)))))
    have b1 : ((hh.alloc ⟨11, [[.s ⟨#[]⟩, .i .i64 0, .i .i64 0, .b false, .b false, .ns, .i .i64 0, .i .i64 0, .i .i64 0, .i .i64 0, .i .i64 0]]⟩).put hh.next ⟨11, [(nth L q).enc]⟩).get hh.next = some ⟨11, [(nth L q).enc]⟩ := by rw [get_put, gsel_eq rfl]
    have n1 : hh.next < ((hh.alloc ⟨11, [[.s ⟨#[]⟩, .i .i64 0, .i .i64 0, .b false, .b false, .ns, .i .i64 0, .i .i64 0, .i .i64 0, .i .i64 0, .i .i64 0]]⟩).put hh.next ⟨11, [(nth L q).enc]⟩).next := Nat.lt_succ_self _
    have s1 := s.ext x1
    simp only [Part.enc] at x1 b1 n1 s1
    simp (disch := omega) only [go_sem, *]
    generalize (hh.alloc ⟨11, [[.s ⟨#[]⟩, .i .i64 0, .i .i64 0, .b false, .b false, .ns, .i .i64 0, .i .i64 0, .i .i64 0, .i .i64 0, .i .i64 0]]⟩).put hh.next ⟨11, [[.s (nth L q).name, .i .i64 (nth L q).budget, .i .i64 (nth L q).period, .b (nth L q).sched, .b (nth L q).stop, .fl 2 ((nth L q).procs.map Proc.enc), .i .i64 (nth L q).h0, .i .i64 (nth L q).h1, .i .i64 (nth L q).h2, .i .i64 (nth L q).h3, .i .i64 (nth L q).h4]]⟩ = h1 at x1 b1 n1 s1 ⊢
    refine text_ev (by simp only [lim_raise, next_raise]; exact Nat.le_refl _) (s1).raise (by omega) hnm ?_
    intro r2 k2 t2 y2
    have x2 : Ext h1 (k2.back (h1).lim) := ⟨y2.next, rfl, y2.get⟩
    have s2 : Sl 0 (k2.back (h1).lim) 1 r2 _ := Sl.weak t2 (Nat.zero_le _)
    have hb2 := (x2.get _ n1).trans (b1)
    have lt2 := Nat.lt_of_lt_of_le n1 x2.next
    have len2 := (putR_len A (nth L q).name.size)
    clear t2 y2
    simp (disch := omega) only [go_sem, *]
    generalize k2.back (h1).lim = g2 at x2 s2 hb2 lt2 ⊢
    have s2 : Sl 0 g2 1 r2 ((putR A (nth L q).name.size ++ sB (nth L q).name).map encB) := s2
    have len2' : (putR A (nth L q).name.size ++ sB (nth L q).name).length ≤ A.length + 1009 := by rw [List.length_append, hsl]; omega
    generalize hG : putR A (nth L q).name.size ++ sB (nth L q).name = G at s2 len2'
    refine put_ev (by simp only [lim_raise, next_raise]; exact Nat.le_refl _) (s2).raise (by omega)  ?_
    intro r3 k3 t3 y3
    have x3 : Ext g2 (k3.back (g2).lim) := ⟨y3.next, rfl, y3.get⟩
    have s3 : Sl 0 (k3.back (g2).lim) 1 r3 _ := Sl.weak t3 (Nat.zero_le _)
    have hb3 := (x3.get _ lt2).trans (hb2)
    have lt3 := Nat.lt_of_lt_of_le lt2 x3.next
    have len3 := (putR_len G (nth L q).budget)
    clear t3 y3
    simp (disch := omega) only [go_sem, *]
    generalize k3.back (g2).lim = g3 at x3 s3 hb3 lt3 ⊢
    refine put_ev (by simp only [lim_raise, next_raise]; exact Nat.le_refl _) (s3).raise (by omega)  ?_
    intro r4 k4 t4 y4
    have x4 : Ext g3 (k4.back (g3).lim) := ⟨y4.next, rfl, y4.get⟩
    have s4 : Sl 0 (k4.back (g3).lim) 1 r4 _ := Sl.weak t4 (Nat.zero_le _)
    have hb4 := (x4.get _ lt3).trans (hb3)
    have lt4 := Nat.lt_of_lt_of_le lt3 x4.next
    have len4 := (putR_len (putR G (nth L q).budget) (nth L q).period)
    clear t4 y4
    simp (disch := omega) only [go_sem, *]
    generalize k4.back (g3).lim = g4 at x4 s4 hb4 lt4 ⊢
    generalize hG2 : putR (putR G (nth L q).budget) (nth L q).period = G2 at s4 len4
    refine flag_ev (by simp only [lim_raise, next_raise]; exact Nat.le_refl _) (s4).raise (by omega)  ?_
    intro r5 k5 t5 y5
    have x5 : Ext g4 (k5.back (g4).lim) := ⟨y5.next, rfl, y5.get⟩
    have s5 : Sl 0 (k5.back (g4).lim) 1 r5 _ := Sl.weak t5 (Nat.zero_le _)
    have hb5 := (x5.get _ lt4).trans (hb4)
    have lt5 := Nat.lt_of_lt_of_le lt4 x5.next
    have len5 := (flagR_len G2 (nth L q).sched)
    clear t5 y5
    simp (disch := omega) only [go_sem, *]
    generalize k5.back (g4).lim = g5 at x5 s5 hb5 lt5 ⊢
    have s5 : Sl 0 g5 1 r5 ((flagR G2 (nth L q).sched).map encB) := s5
    refine flag_ev (by simp only [lim_raise, next_raise]; exact Nat.le_refl _) (s5).raise (by omega)  ?_
    intro r6 k6 t6 y6
    have x6 : Ext g5 (k6.back (g5).lim) := ⟨y6.next, rfl, y6.get⟩
    have s6 : Sl 0 (k6.back (g5).lim) 1 r6 _ := Sl.weak t6 (Nat.zero_le _)
    have hb6 := (x6.get _ lt5).trans (hb5)
    have lt6 := Nat.lt_of_lt_of_le lt5 x6.next
    have len6 := (flagR_len (flagR G2 (nth L q).sched) (nth L q).stop)
    clear t6 y6
    simp (disch := omega) only [go_sem, *]
    generalize k6.back (g5).lim = g6 at x6 s6 hb6 lt6 ⊢
    have s6 : Sl 0 g6 1 r6 ((flagR (flagR G2 (nth L q).sched) (nth L q).stop).map encB) := s6
    refine put_ev (by simp only [lim_raise, next_raise]; exact Nat.le_refl _) (s6).raise (by omega)  ?_
    intro r7 k7 t7 y7
    have x7 : Ext g6 (k7.back (g6).lim) := ⟨y7.next, rfl, y7.get⟩
    have s7 : Sl 0 (k7.back (g6).lim) 1 r7 _ := Sl.weak t7 (Nat.zero_le _)
    have hb7 := (x7.get _ lt6).trans (hb6)
    have lt7 := Nat.lt_of_lt_of_le lt6 x7.next
    have len7 := (putR_len (flagR (flagR G2 (nth L q).sched) (nth L q).stop) (nth L q).procs.length)
    clear t7 y7
    simp (disch := omega) only [go_sem, *]
    generalize k7.back (g6).lim = g7 at x7 s7 hb7 lt7 ⊢
    generalize hG3 : putR (flagR (flagR G2 (nth L q).sched) (nth L q).stop) (nth L q).procs.length = G3 at s7 len7
    have xn := xx.trans (x1.trans (x2.trans (x3.trans (x4.trans (x5.trans (x6.trans x7))))))
    refine byt_12 (L := (nth L q).procs) (i := q) (v23 := .fl 11 (L.map Part.enc)) (n24 := L.length) (bx := hh.next) xn hl0 s7 (by omega) hb7 lt7 (by simp (disch := omega) only [go_sem, *]) (by simp (disch := omega) only [go_sem, *]) (by simp (disch := omega) only [go_sem, *]) (by simp (disch := omega) only [go_sem, *]) (by simp (disch := omega) only [go_sem, *]) (by simp (disch := omega) only [go_sem, *]) (by simp (disch := omega) only [go_sem, *]) (by simp (disch := omega) only [go_sem, *]) (by simp (disch := omega) only [go_sem, *]) ?_
    intro e' h8 v8 f1 f3 f5 f23 f24 f25 x8 s8 l8 b8 lt8
    clear x1 x2 x3 x4 x5 x6 x7 xn hb2 hb3 hb4 hb5 hb6 hb7 b1 s1 s2 s3 s4 s5 s6 s7 lt2 lt3 lt4 lt5 lt6 lt7 n1
    simp (disch := omega) only [go_sem, *]
    refine byt_18 (i := q) (v23 := .fl 11 (L.map Part.enc)) (n24 := L.length) (a0 := (nth L q).h0) (a1 := (nth L q).h1) (a2 := (nth L q).h2) (a3 := (nth L q).h3) (a4 := (nth L q).h4) x8 hl0 s8 (by omega) (by simp (disch := omega) only [go_sem, *]) (by simp (disch := omega) only [go_sem, *]) (by simp (disch := omega) only [go_sem, *]) (by simp (disch := omega) only [go_sem, *]) (by simp (disch := omega) only [go_sem, *]) (by simp (disch := omega) only [go_sem, *]) (by simp (disch := omega) only [go_sem, *]) ?_
    intro e' h9 v9 k1 k3 k23 k24 k25 x9 s9 l9
    have eA : putR (putR (putR (putR (putR (List.foldl fProc G3 (nth L q).procs) (nth L q).h0) (nth L q).h1) (nth L q).h2) (nth L q).h3) (nth L q).h4 = fPart A (nth L q) := by unfold fPart; rw [← hG3, ← hG2, ← hG]
    rw [eA] at s9 l9
    have lA : (fPart A (nth L q)).length ≤ B.length + 3000 * (q + 1) := by omega
    clear hG hG2 hG3 eA
    simp (disch := omega) only [go_sem, *]
    refine ih _ _ _ ?_ ⟨q + 1, v9, fPart A (nth L q), rfl, ?_⟩
    · omega
    · have hz3 := hz1
      clear hz1 ih kk
      simp (disch := omega) only [go_sem, *]
      all_goals ((repeat' refine And.intro ?_ ?_) <;> first | omega | assumption | (exact x9) | (exact s9) | (exact lA) | (exact hz3))
  · rw [List.drop_eq_nil_of_le (by omega), List.foldl_nil] at hz1
    have f := kk
    clear kk
    simp (disch := omega) only [go_sem, *]
    exact f _ hh v e1 e3 xx (by rw [← hz1]; exact s) (by rw [← hz1]; omega)
end Go.Ab.T
namespace Go.Ab.T
open Go Go.Ab
set_option maxHeartbeats 4000000
@[go_sem] theorem bytesOf_map : ∀ B : List Int, bytesOf? (B.map encB) = some (B.map fun z => UInt8.ofNat z.toNat)
  | [] => rfl
  | z :: B => by
    have := bytesOf_map B
    simp only [List.map_cons, encB, bytesOf?] at this ⊢
    rw [this]; rfl
structure BytOk (C : Config) : Prop where
  p : C.parts.length ≤ 16
  c : C.chans.length ≤ 100
  t : C.tables.length ≤ 10
  pp : ∀ p ∈ C.parts, p.name.size < 1000 ∧ p.procs.length ≤ 100
  tt : ∀ t ∈ C.tables, t.length ≤ 710
theorem bytes_ev {C : Config} (hC : BytOk C) : Pf tp i_Q17 [.agg C.enc] (.fl 1 ((bytesR C).map encB)) := by
  obtain ⟨hp, hc, ht, hpp, htt⟩ := hC
  refine Pf_go fn_Q17 (by simp [t_Q17]) fun rp => ?_
  unfold t_Q17
  have s0 : Sl 0 ((AH.emp.alloc ⟨3, [C.enc]⟩).alloc ⟨1, [encB 72, encB 79, encB 82, encB 65]⟩) 1 (.sl 1 0 4 4) (([72, 79, 82, 65] : List Int).map encB) := Sl.new (by omega) (by simp)
  have b0 : ((AH.emp.alloc ⟨3, [C.enc]⟩).alloc ⟨1, [encB 72, encB 79, encB 82, encB 65]⟩).get 0 = some ⟨3, [C.enc]⟩ := rfl
  simp only [encB, Config.enc] at s0 b0
  simp (disch := omega) only [go_sem, *]
  have hl0 : ((AH.emp.alloc ⟨3, [[.fl 11 (C.parts.map Part.enc), .fl 6 (C.chans.map Chan.enc), .fl 1 (C.tables.map Tab.enc)]]⟩).alloc ⟨1, [[.i .u8 72], [.i .u8 79], [.i .u8 82], [.i .u8 65]]⟩).lim = 0 := rfl
  have hn0 : ((AH.emp.alloc ⟨3, [[.fl 11 (C.parts.map Part.enc), .fl 6 (C.chans.map Chan.enc), .fl 1 (C.tables.map Tab.enc)]]⟩).alloc ⟨1, [[.i .u8 72], [.i .u8 79], [.i .u8 82], [.i .u8 65]]⟩).next = 2 := rfl
  generalize (AH.emp.alloc ⟨3, [[.fl 11 (C.parts.map Part.enc), .fl 6 (C.chans.map Chan.enc), .fl 1 (C.tables.map Tab.enc)]]⟩).alloc ⟨1, [[.i .u8 72], [.i .u8 79], [.i .u8 82], [.i .u8 65]]⟩ = h0 at *
  refine put_ev (by omega) s0 (by simp) ?_
  intro r1 h1 t1 x1
  have s1 := Sl.weak t1 (Nat.zero_le _)
  have l1 := putR_len [72, 79, 82, 65] C.parts.length
  have b1 := (x1.get 0 (by omega)).trans b0
  simp only [List.length_cons, List.length_nil] at l1
  clear t1 s0
  simp (disch := omega) only [go_sem, *]
  refine byt_20 x1 hl0 s1 (by omega) hpp (by simp (disch := omega) only [go_sem, *]) (by simp (disch := omega) only [go_sem, *]) (by simp (disch := omega) only [go_sem, *]) (by simp (disch := omega) only [go_sem, *]) (by simp (disch := omega) only [go_sem, *]) ?_
  intro e h2 r2 f1 f3 x2 s2 l2
  clear x1 s1 b1
  have b2 := (x2.get 0 (by omega)).trans b0
  have m2 := x2.lim
  generalize hB2 : C.parts.foldl fPart (putR [72, 79, 82, 65] C.parts.length) = B2 at s2 l2
  simp (disch := omega) only [go_sem, *]
  refine put_ev (by omega) s2 (by omega) ?_
  intro r3 h3 t3 y3
  have x3 := x2.trans y3
  have s3 := Sl.weak t3 (Nat.zero_le _)
  have l3 := putR_len B2 C.chans.length
  have b3 := (x3.get 0 (by omega)).trans b0
  clear t3 y3 s2 b2
  simp (disch := omega) only [go_sem, *]
  refine byt_28 (L := C.chans) x3 hl0 s3 (by omega) (by simp (disch := omega) only [go_sem, *]) (by simp (disch := omega) only [go_sem, *]) (by simp (disch := omega) only [go_sem, *]) (by simp (disch := omega) only [go_sem, *]) (by simp (disch := omega) only [go_sem, *]) ?_
  intro e h4 r4 g1 g3 x4 s4 l4
  clear x3 s3 b3
  have b4 := (x4.get 0 (by omega)).trans b0
  have m4 := x4.lim
  generalize hB4 : C.chans.foldl fChan (putR B2 C.chans.length) = B4 at s4 l4
  simp (disch := omega) only [go_sem, *]
  refine put_ev (by omega) s4 (by omega) ?_
  intro r5 h5 t5 y5
  have x5 := x4.trans y5
  have s5 := Sl.weak t5 (Nat.zero_le _)
  have l5 := putR_len B4 C.tables.length
  have b5 := (x5.get 0 (by omega)).trans b0
  clear t5 y5 s4 b4
  simp (disch := omega) only [go_sem, *]
  refine byt_41 (L := C.tables) x5 hl0 s5 (by omega) htt (by simp (disch := omega) only [go_sem, *]) (by simp (disch := omega) only [go_sem, *]) (by simp (disch := omega) only [go_sem, *]) (by simp (disch := omega) only [go_sem, *]) ?_
  intro e h6 r6 k3 x6 s6 l6
  clear x5 s5 b5
  have m6 := x6.lim
  generalize hB6 : C.tables.foldl fTab (putR B4 C.tables.length) = B6 at s6 l6
  simp (disch := omega) only [go_sem, *]
  refine seal_ev (by omega) s6 (by omega) ?_
  intro r7 h7 t7 y7
  have l7 := sealR_len B6
  have eB : bytesR C = sealR B6 := by unfold bytesR; rw [hB2, hB4, hB6]
  rw [eB]
  clear hB2 hB4 hB6
  simp (disch := omega) only [go_sem, *]
  exact t7.froze (fun _ => rfl) trivial (by omega)
end Go.Ab.T
namespace Go.Ab.T
open Go Go.Ab
set_option maxHeartbeats 4000000
/-! A copy whose first partition's processes and first table's nodes are known as one's own. -/
def ownC (vp vc vt o1 o2 : V) (p : Part) (P : List Part) (X : List Chan) (t : List Node) (T : List (List Node)) : List (Nat × V × List (List V)) :=
  [(11, vp, p.encO o1 :: P.map Part.enc), (6, vc, X.map Chan.enc), (1, vt, [o2] :: T.map Tab.enc), (2, o1, p.procs.map Proc.enc), (3, o2, t.map Node.enc)]
theorem ownL_C {vp vc vt o1 o2 : V} {p : Part} {P : List Part} {X : List Chan} {t : List Node} {T : List (List Node)} : ownL true vp vc vt o1 o2 (p :: P) X (t :: T) = ownC vp vc vt o1 o2 p P X t T := by
  simp [ownL, ownC, rowsP, rowsT, r1, r2]
structure CpO (d bx cb : Nat) (C : Config) (h : AH) (vp vc vt o1 o2 : V) (p : Part) (P : List Part) (X : List Chan) (t : List Node) (T : List (List Node)) : Prop where
  own : Owns d bx h (ownC vp vc vt o1 o2 p P X t T)
  lim : h.lim = 0
  nx : h.next = bx + 1
  cd : cb < d
  box : h.get bx = some ⟨3, [[vp, vc, vt]]⟩
  cbox : h.get cb = some ⟨3, [C.enc]⟩
section
variable {d bx cb : Nat} {C : Config} {h : AH} {vp vc vt o1 o2 : V} {p : Part} {P : List Part} {X : List Chan} {t : List Node} {T : List (List Node)}
theorem sl_bd {b q sz : Nat} {v : V} {R : List (List V)} (s : Sl b h sz v R) (hR : 0 < R.length) (hq : nilV v = true ∨ idV v < q) : b ≤ idV v ∧ idV v < q := by
  have h0 : nilV v = false := by
    rcases s with ⟨_, hR2⟩ | ⟨_, _, _, _, hv, _⟩
    · rw [hR2] at hR; simp at hR
    · rw [hv]; rfl
  have h1 := sl_own s
  rw [h0] at h1 hq
  constructor
  · rcases h1 with h1 | h1
    · cases h1
    · exact h1
  · rcases hq with h1 | h1
    · cases h1
    · exact h1
theorem CpO.step {i n : Nat} {a : Nat × V × List (List V)} {r : List V} {p' : Part} {X' : List Chan} {t' : List Node} (a0 : CpO d bx cb C h vp vc vt o1 o2 p P X t T) (e : (ownC vp vc vt o1 o2 p P X t T)[i]? = some a) (hn : n < a.2.2.length)
    (el : (ownC vp vc vt o1 o2 p P X t T).set i (a.1, a.2.1, a.2.2.set n r) = ownC vp vc vt o1 o2 p' P X' t' T) : CpO d bx cb C (h.put (idV a.2.1) ⟨a.1, (csOf h a.2.1).set (elV a.2.1 + n) r⟩) vp vc vt o1 o2 p' P X' t' T := by
  have o := a0.own.set (r := r) e hn
  rw [el] at o
  obtain ⟨b1, b2⟩ := sl_bd (a0.own.sl i a e) (by omega) (a0.own.lt i a e)
  have := a0.cd
  exact ⟨o, a0.lim, a0.nx, a0.cd, by rw [get_put, gsel_ne (by omega)]; exact a0.box, by rw [get_put, gsel_ne (by omega)]; exact a0.cbox⟩
theorem CpO.part (a : CpO d bx cb C h vp vc vt o1 o2 p P X t T) (p' : Part) (hp : p'.procs = p.procs) : CpO d bx cb C (h.put (idV vp) ⟨11, (csOf h vp).set (elV vp) (p'.encO o1)⟩) vp vc vt o1 o2 p' P X t T := by
  have := a.step (i := 0) (n := 0) (r := p'.encO o1) (p' := p') (X' := X) (t' := t) rfl (by simp) (by simp [ownC, hp])
  exact this
theorem CpO.proc (a : CpO d bx cb C h vp vc vt o1 o2 p P X t T) (h0 : 0 < p.procs.length) (x : Proc) : CpO d bx cb C (h.put (idV o1) ⟨2, (csOf h o1).set (elV o1) x.enc⟩) vp vc vt o1 o2 { p with procs := p.procs.set 0 x } P X t T := by
  have := a.step (i := 3) (n := 0) (r := x.enc) (p' := { p with procs := p.procs.set 0 x }) (X' := X) (t' := t) rfl (by simpa using h0) (by simp [ownC, List.map_set, Part.encO])
  exact this
theorem CpO.node (a : CpO d bx cb C h vp vc vt o1 o2 p P X t T) (h0 : 0 < t.length) (x : Node) : CpO d bx cb C (h.put (idV o2) ⟨3, (csOf h o2).set (elV o2) x.enc⟩) vp vc vt o1 o2 p P X (t.set 0 x) T := by
  have := a.step (i := 4) (n := 0) (r := x.enc) (p' := p) (X' := X) (t' := t.set 0 x) rfl (by simpa using h0) (by simp [ownC, List.map_set])
  exact this
theorem CpO.chan (a : CpO d bx cb C h vp vc vt o1 o2 p P X t T) {i : Nat} (h0 : i < X.length) (x : Chan) : CpO d bx cb C (h.put (idV vc) ⟨6, (csOf h vc).set (elV vc + i) x.enc⟩) vp vc vt o1 o2 p P (X.set i x) t T := by
  have := a.step (i := 1) (n := i) (r := x.enc) (p' := p) (X' := X.set i x) (t' := t) rfl (by simpa using h0) (by simp [ownC, List.map_set])
  exact this
theorem ownC_frz {nx : Nat} (o : Owns d bx h (ownC vp vc vt o1 o2 p P X t T)) (hP : P.length ≤ 1000) (hX : X.length ≤ 1000) (hT : T.length ≤ 1000) (hp : p.procs.length ≤ 1000) (ht : t.length ≤ 1000) : Frz (fun _ => True) h nx (.agg [vp, vc, vt]) (.agg (Config.enc ⟨p :: P, X, t :: T⟩)) := by
  have s0 := o.sl 0 _ rfl
  have s1 := o.sl 1 _ rfl
  have s2 := o.sl 2 _ rfl
  have s3 := o.sl 3 _ rfl
  have s4 := o.sl 4 _ rfl
  dsimp only at s0 s1 s2 s3 s4
  refine .agg _ _ _ (.cons _ _ _ _ _ (Sl.frzT s0 ?_ (by simp; omega)) (.cons _ _ _ _ _ (s1.froze (fun _ => rfl) trivial (by omega)) (.cons _ _ _ _ _ (Sl.frzT s2 ?_ (by simp; omega)) (.nil _))))
  · exact .cons _ _ _ _ _ (encO_frz (s3.froze (fun _ => rfl) trivial (by omega))) (Frzr.of_map (fun _ => rfl) P)
  · exact .cons _ _ _ _ _ (.cons _ _ _ _ _ (s4.froze (fun _ => rfl) trivial (by omega)) (.nil _)) (Frzr.of_map (fun _ => rfl) T)
structure CpF (d bx : Nat) (h : AH) (vp vc vt o1 o2 : V) (p : Part) (X : List Chan) (t : List Node) : Prop where
  pget : h.get (idV vp) = some ⟨11, csOf h vp⟩
  pat : ∀ (k : IntKind) (cs : List (List V)), iad2 (some ⟨11, cs⟩) 11 vp (.i k 0) = some (.p (idV vp) (elV vp) 0)
  prow : (csOf h vp)[elV vp]? = some (p.encO o1)
  plt : elV vp < (csOf h vp).length
  rget : h.get (idV o1) = some ⟨2, csOf h o1⟩
  rat : ∀ (k : IntKind) (cs : List (List V)), iad2 (some ⟨2, cs⟩) 2 o1 (.i k 0) = some (.p (idV o1) (elV o1) 0)
  rrow : (csOf h o1)[elV o1]? = some (nth p.procs 0).enc
  rlt : elV o1 < (csOf h o1).length
  tget : h.get (idV vt) = some ⟨1, csOf h vt⟩
  tat : ∀ (k : IntKind) (cs : List (List V)), iad2 (some ⟨1, cs⟩) 1 vt (.i k 0) = some (.p (idV vt) (elV vt) 0)
  trow : (csOf h vt)[elV vt]? = some [o2]
  nget : h.get (idV o2) = some ⟨3, csOf h o2⟩
  nat : ∀ (k : IntKind) (cs : List (List V)), iad2 (some ⟨3, cs⟩) 3 o2 (.i k 0) = some (.p (idV o2) (elV o2) 0)
  nrow : (csOf h o2)[elV o2]? = some (nth t 0).enc
  nlt : elV o2 < (csOf h o2).length
  c0 : vp.isCell = true
  c1 : vp.cells = [vp]
  c2 : vc.isCell = true
  c3 : vc.cells = [vc]
  c4 : vt.isCell = true
  c5 : vt.cells = [vt]
  c6 : o1.isCell = true
  c7 : o1.cells = [o1]
  c8 : o2.isCell = true
  c9 : o2.cells = [o2]
theorem CpO.facts (a : CpO d bx cb C h vp vc vt o1 o2 p P X t T) (hp : 0 < p.procs.length) (ht : 0 < t.length) : CpF d bx h vp vc vt o1 o2 p X t := by
  have s0 := a.own.sl 0 (11, vp, _) rfl
  have s1 := a.own.sl 1 (6, vc, _) rfl
  have s2 := a.own.sl 2 (1, vt, _) rfl
  have s3 := a.own.sl 3 (2, o1, _) rfl
  have s4 := a.own.sl 4 (3, o2, _) rfl
  dsimp only at s0 s1 s2 s3 s4
  have f0 : SlF (fun x => x) d h 11 vp (p.encO o1 :: P.map Part.enc) := Sl.facts (enc := fun x => x) (by rw [List.map_id']; exact s0)
  have f2 : SlF (fun x => x) d h 1 vt ([o2] :: T.map Tab.enc) := Sl.facts (enc := fun x => x) (by rw [List.map_id']; exact s2)
  have f3 := Sl.facts s3
  have f4 := Sl.facts s4
  obtain ⟨_, _, _, _, pget, pat, prow, _, _⟩ := f0
  obtain ⟨_, _, _, _, tget, tat, trow, _, _⟩ := f2
  obtain ⟨_, _, _, _, rget, rat, rrow, _, _⟩ := f3
  obtain ⟨_, _, _, _, nget, nat, nrow, _, _⟩ := f4
  obtain ⟨c0, c1⟩ := sl_cell s0
  obtain ⟨c2, c3⟩ := sl_cell s1
  obtain ⟨c4, c5⟩ := sl_cell s2
  obtain ⟨c6, c7⟩ := sl_cell s3
  obtain ⟨c8, c9⟩ := sl_cell s4
  exact ⟨pget (by simp), fun k cs => pat k 0 cs (by omega) (by simp; try omega), prow 0 (by simp), Sl.rowlt (j := 0) s0 (by simp), rget (by simpa using hp), fun k cs => rat k 0 cs (by omega) (by omega), rrow 0 hp, Sl.rowlt (j := 0) s3 (by simpa using hp),
    tget (by simp), fun k cs => tat k 0 cs (by omega) (by simp; try omega), trow 0 (by simp), nget (by simpa using ht), fun k cs => nat k 0 cs (by omega) (by omega), nrow 0 ht, Sl.rowlt (j := 0) s4 (by simpa using ht), c0, c1, c2, c3, c4, c5, c6, c7, c8, c9⟩
theorem cop_14 {K : Ex → Env → AH → Prop} {e : Env} {v7 : V} (a : CpO d bx cb C h vp vc vt o1 o2 p P X t T) (hX : X.length ≤ 1000) (e5 : e 5 = .p cb 0 0) (e6 : e 6 = .p bx 0 0) (e7 : e 7 = v7) (e77 : e 77 = .i .i64 X.length) (e78 : e 78 = .i .i64 0)
    (kk : ∀ e' h2 X', e' 5 = .p cb 0 0 → e' 6 = .p bx 0 0 → e' 7 = v7 → X'.length = X.length → CpO d bx cb C h2 vp vc vt o1 o2 p P X' t T → K (.ex 0) e' h2) : ZC tp (.loop Q2_14) e h K := by
  refine ZC_loop_n (fun n' e hh => ∃ (i : Nat) (X' : List Chan), n' = X.length - i ∧ X'.length = X.length ∧ i ≤ X.length ∧ e 5 = .p cb 0 0 ∧ e 6 = .p bx 0 0 ∧ e 7 = v7 ∧ e 77 = .i .i64 X.length ∧ e 78 = .i .i64 i ∧ CpO d bx cb C hh vp vc vt o1 o2 p P X' t T) ?_ _ _ _ ⟨0, X, rfl, rfl, by omega, e5, e6, e7, e77, e78, a⟩
  clear e5 e6 e7 e77 e78 e a
  rintro n' e hh ⟨i, X', rfl, hl, hi, e5, e6, e7, e77, e78, a⟩ ih
  rw [ZC_unf Q2_14.eq_1]
  simp (disch := omega) only [go_sem, *]
  refine Wb_dec (fun hc => ?_) (fun hc => ?_)
  · have hiX : i < X'.length := by omega
    obtain ⟨_, _, clt, clo, cget, cat, crow, c2, c3⟩ := Sl.facts (enc := Chan.enc) (L := X') (a.own.sl 1 (6, vc, _) rfl)
    have clt := clt (by omega)
    have cget := cget (by omega)
    have crow := crow i hiX
    have crl := Sl.rowlt (j := i) (a.own.sl 1 (6, vc, X'.map Chan.enc) rfl) (by simpa using hiX)
    have cbd := sl_bd (a.own.sl 1 (6, vc, X'.map Chan.enc) rfl) (by simp; omega) (a.own.lt 1 (6, vc, _) rfl)
    have a2 := a.chan hiX { nth X' i with late := 77 }
    have bxx := a.box
    have lm : hh.lim ≤ 0 := by have := a.lim; omega
    dsimp only at clt cget crow crl cbd cat c2 c3
    simp only [Chan.enc] at crow a2
    clear a kk
    rw [hl] at cat
    simp (disch := omega) only [go_sem, *]
    clear crl crow cget cbd clt bxx
    generalize hh.put (idV vc) ⟨6, (csOf hh vc).set (elV vc + i) [.i .i64 (nth X' i).src, .i .i64 (nth X' i).dst, .b (nth X' i).queue, .i .i64 (nth X' i).cap, .i .u32 (nth X' i).top, .i .i64 77]⟩ = h3 at a2 ⊢
    refine ih _ _ _ ?_ ⟨i + 1, X'.set i { nth X' i with late := 77 }, rfl, ?_⟩
    · omega
    · have l3 : (X'.set i { nth X' i with late := 77 }).length = X.length := by simpa using hl
      clear ih
      simp (disch := omega) only [go_sem, *]
      all_goals ((repeat' refine And.intro ?_ ?_) <;> first | omega | assumption | (exact a2) | (exact l3))
  · have f := kk
    clear kk
    simp (disch := omega) only [go_sem, *]
    exact f _ hh X' e5 e6 e7 hl a
end
end Go.Ab.T
namespace Go.Ab.T
open Go Go.Ab
set_option maxHeartbeats 4000000
attribute [-go_sem] bin_and
theorem and127 (n : Int) : ∃ q : Int, binV .and (.i .i64 n) (.i .i64 127) = some (.i .i64 q) := by
  rw [bin_and]; exact ⟨_, rfl⟩
theorem nameB_size {s : ByteArray} (h : nameB s = true) : s.size ≤ 12 := by
  unfold nameB at h; simp only [decide_eq_true_eq] at h; exact h.2.2
theorem procsB_size {L : List Proc} (h : procsB L = true) : 1 ≤ L.length ∧ L.length ≤ 3 := by
  refine ⟨?_, ?_⟩ <;> refine Classical.byContradiction fun hn => ?_ <;> rw [procsB_no (by omega)] at h <;> cases h
theorem Made.procs {C : Config} (m : Made C) : ∀ p ∈ C.parts, p.name.size ≤ 12 ∧ 1 ≤ p.procs.length ∧ p.procs.length ≤ 3 := by
  intro p hp
  obtain ⟨_, hg, _, _⟩ := where_iff.1 m.wh
  obtain ⟨j, hj, rfl⟩ := List.getElem_of_mem hp
  have g := hg j hj
  have e : nth C.parts j = C.parts[j] := nth_eq hj
  rw [← e]
  refine ⟨nameB_size g.1, procsB_size ?_⟩
  have := g.2.2
  unfold partB at this
  simp only [Bool.and_eq_true] at this
  exact this.1.1
theorem Made.tabs {C : Config} (m : Made C) : ∀ t ∈ C.tables, 0 < t.length ∧ t.length ≤ 128 := by
  intro t ht
  obtain ⟨_, _, _, hT⟩ := where_iff.1 m.wh
  have g := hT t ht
  rw [tableR_iff] at g
  have hr := g.1.right
  refine ⟨g.1.ne, ?_⟩
  unfold rightR at hr
  split at hr
  · cases hr
  · omega
theorem Made.byt {C : Config} (m : Made C) : BytOk C := by
  have h1 := m.pt; have h2 := m.ch; have h3 := m.tb
  refine ⟨by omega, by omega, by omega, fun p hp => ?_, fun t ht => ?_⟩
  · have := m.procs p hp; omega
  · have := m.tabs t ht; omega
theorem sl_nn {b sz : Nat} {h : AH} {v : V} {R : List (List V)} (s : Sl b h sz v R) (hR : 0 < R.length) : nilV v = false := by
  rcases s with ⟨_, hR2⟩ | ⟨_, _, _, _, hv, _⟩
  · rw [hR2] at hR; simp at hR
  · rw [hv]; rfl
theorem wrap_ne (n : Int) : IntKind.wrap .i64 (n + 1) ≠ n := by
  unfold IntKind.wrap; simp only [IntKind.bits, IntKind.signed]; simp; omega
theorem tab_ne {t : List Node} (h : 0 < t.length) : t ≠ t.set 0 ⟨(nth t 0).kind, (nth t 0).part, IntKind.wrap .i64 ((nth t 0).n + 1)⟩ := by
  cases t with
  | nil => simp at h
  | cons a l =>
    intro he
    rw [nth_cons0] at he
    injection he with h1 _
    exact wrap_ne a.n (congrArg Node.n h1).symm
structure CEq (C : Config) (p : Part) (P : List Part) (X : List Chan) (t : List Node) (T : List (List Node)) : Prop where
  e : C = ⟨p :: P, X, t :: T⟩
theorem configCopies_ev {L : List Int} {n : Int} (hL : L.length < 4000000000) : Pf tp i_Q2 [.fl 1 (L.map encI), .i .i64 n] (.b true) := by
  refine Pf_go fn_Q2 (by simp [t_Q2]) fun rp => ?_; unfold t_Q2; simp (disch := omega) only [go_sem, *]
  refine config_ev (id := 0) (k := 0) (L := L) ?_ (by omega) hL ?_ ?_
  · simp only [tapeB]
    simp (disch := omega) only [go_sem, *]
    all_goals rfl
  · simp (disch := omega) only [go_sem, *]
  intro C j hj hC
  have hprocs := hC.procs
  have htabs := hC.tabs
  have hbyt := hC.byt
  have hlens := hC.lens
  have hch := hC.ch
  have htb := hC.tb
  have hpt := hC.pt
  have hnm := hC.nm
  obtain ⟨p, P, X, t, T, ce⟩ : ∃ p P X t T, CEq C p P X t T := by
    obtain ⟨P0, X, T0⟩ := C
    cases P0 with
    | nil => simp at hlens
    | cons p P =>
      cases T0 with
      | nil => simp at hlens
      | cons t T => exact ⟨p, P, X, t, T, ⟨rfl⟩⟩
  have hX : C.chans = X := by rw [ce.e]
  have hPl : C.parts.length = P.length + 1 := by rw [ce.e]; rfl
  have hTl : C.tables.length = T.length + 1 := by rw [ce.e]; rfl
  have hpp := hprocs p (by rw [ce.e]; exact List.mem_cons_self ..)
  have htt := htabs t (by rw [ce.e]; exact List.mem_cons_self ..)
  rw [hX] at hch
  clear hprocs htabs hX
  simp (disch := omega) only [go_sem, *]
  refine copyA (C := C) true (by omega) (by omega) ?_
  intro vp vc vt o1 o2 h1 ow hl low
  have ow1 : Owns 4 h1.next h1 (ownC vp vc vt o1 o2 p P X t T) := by
    have e : ownL true vp vc vt o1 o2 C.parts C.chans C.tables = ownC vp vc vt o1 o2 p P X t T := by rw [ce.e]; exact ownL_C
    rw [← e]
    exact ow.down (by simp only [next_put, next_alloc, emp_next]; omega)
  have l1 : h1.lim = 0 := hl
  have bx1 : h1.get 1 = some ⟨3, [C.enc]⟩ := (low 1 (by simp only [next_put, next_alloc, emp_next]; omega)).trans rfl
  clear ow hl low
  obtain ⟨c0, c1⟩ := sl_cell (ow1.sl 0 (11, vp, _) rfl)
  obtain ⟨c2, c3⟩ := sl_cell (ow1.sl 1 (6, vc, _) rfl)
  obtain ⟨c4, c5⟩ := sl_cell (ow1.sl 2 (1, vt, _) rfl)
  dsimp only at c0 c1 c2 c3 c4 c5
  have n1 : 4 ≤ h1.next := ow1.bq
  have co : CpO 4 h1.next 1 C ((h1.alloc ⟨3, [[.ns, .ns, .ns]]⟩).put h1.next ⟨3, [[vp, vc, vt]]⟩) vp vc vt o1 o2 p P X t T :=
    ⟨ow1.keep (by simp only [next_put, next_alloc]; omega) (fun i hi => by rw [get_put, gsel_ne (by omega), get_alloc, gsel_ne (by omega)]), l1, rfl, by omega, by rw [get_put, gsel_eq rfl], by rw [get_put, gsel_ne (by omega), get_alloc, gsel_ne (by omega)]; exact bx1⟩
  clear ow1
  have bx := co.box
  have cbx := co.cbox
  have lmb := co.lim
  have nxb := co.nx
  have plen : lenV vp = some (.i .i64 C.parts.length) := by
    have := (Sl.facts (enc := fun x => x) (L := p.encO o1 :: P.map Part.enc) (by rw [List.map_id']; exact co.own.sl 0 (11, vp, _) rfl)).len
    rw [this, hPl]; simp
  have clen : lenV vc = some (.i .i64 C.chans.length) := by
    have := (Sl.facts (enc := Chan.enc) (L := X) (co.own.sl 1 (6, vc, _) rfl)).len
    rw [ce.e]; exact this
  have tlen : lenV vt = some (.i .i64 C.tables.length) := by
    have := (Sl.facts (enc := fun x => x) (L := [o2] :: T.map Tab.enc) (by rw [List.map_id']; exact co.own.sl 2 (1, vt, _) rfl)).len
    rw [this, hTl]; simp
  have fz : ∀ nx, Frz (fun _ => True) ((h1.alloc ⟨3, [[.ns, .ns, .ns]]⟩).put h1.next ⟨3, [[vp, vc, vt]]⟩) nx (.agg [vp, vc, vt]) (.agg C.enc) := fun nx => by rw [ce.e]; exact ownC_frz co.own (by omega) (by omega) (by omega) (by omega) (by omega)
  simp only [Config.enc] at cbx fz
  clear bx1
  simp (disch := omega) only [go_sem, *]
  generalize (h1.alloc ⟨3, [[.ns, .ns, .ns]]⟩).put h1.next ⟨3, [[vp, vc, vt]]⟩ = hb at *
  refine Pf.look (csame_ev (a := C) (b := C)) (.cons _ _ _ _ _ (.agg _ _ _ (.cons _ _ _ _ _ (.fl _ _ _) (.cons _ _ _ _ _ (.fl _ _ _) (.cons _ _ _ _ _ (.fl _ _ _) (.nil _))))) (.cons _ _ _ _ _ (fz _) (.nil _))) rfl fun _ => ?_
  simp (disch := omega) only [go_sem, *]
  refine Pf.go (bytes_ev hbyt) (by simp only [go_sem]) fun _ => ?_; simp (disch := omega) only [go_sem, *]
  have bd0 := sl_bd (co.own.sl 0 (11, vp, _) rfl) (by simp) (co.own.lt 0 (11, vp, _) rfl)
  have bd3 := sl_bd (co.own.sl 3 (2, o1, p.procs.map Proc.enc) rfl) (by simp; omega) (co.own.lt 3 (2, o1, _) rfl)
  have bd2 := sl_bd (co.own.sl 2 (1, vt, _) rfl) (by simp) (co.own.lt 2 (1, vt, _) rfl)
  have bd4 := sl_bd (co.own.sl 4 (3, o2, t.map Node.enc) rfl) (by simp; omega) (co.own.lt 4 (3, o2, _) rfl)
  dsimp only at bd0 bd2 bd3 bd4
  have ne {i k : Nat} {a c : Nat × V × List (List V)} (hik : i ≠ k) (e1 : (ownC vp vc vt o1 o2 p P X t T)[i]? = some a) (e2 : (ownC vp vc vt o1 o2 p P X t T)[k]? = some c) (h1 : 0 < a.2.2.length) (h2 : 0 < c.2.2.length) : idV a.2.1 ≠ idV c.2.1 := by
    have u1 := sl_nn (co.own.sl _ _ e1) h1
    have u2 := sl_nn (co.own.sl _ _ e2) h2
    rcases co.own.dj i k a c hik e1 e2 with d | d | d
    · rw [u1] at d; cases d
    · rw [u2] at d; cases d
    · exact d
  have dj32 : idV o1 ≠ idV vt := ne (i := 3) (k := 2) (a := (2, o1, p.procs.map Proc.enc)) (c := (1, vt, [o2] :: T.map Tab.enc)) (by decide) rfl rfl (by simp; omega) (by simp)
  clear ne
  have f := co.facts (by omega) (by omega)
  have pget := f.pget
  have pat := f.pat
  have prow := f.prow
  have plt := f.plt
  have c6 := f.c6
  have c7 := f.c7
  have c8 := f.c8
  have c9 := f.c9
  clear f
  have co1 := co.part { p with name := ⟨#[111, 116, 104, 101, 114]⟩ } rfl
  simp only [Part.encO] at prow co1
  have lm : hb.lim ≤ 0 := by omega
  clear fz plen clen tlen co lmb cbx
  simp (disch := omega) only [go_sem, *]
  clear lm pget pat prow plt bx nxb bd0
  generalize hb.put (idV vp) ⟨11, (csOf hb vp).set (elV vp) [.s ⟨#[111, 116, 104, 101, 114]⟩, .i .i64 p.budget, .i .i64 p.period, .b p.sched, .b p.stop, o1, .i .i64 p.h0, .i .i64 p.h1, .i .i64 p.h2, .i .i64 p.h3, .i .i64 p.h4]⟩ = hd at co1 ⊢
  obtain ⟨q, hq⟩ := and127 n
  have f := co1.facts (by simp only; omega) (by omega)
  have rget := f.rget
  have rat := f.rat
  have rrow := f.rrow
  have rlt := f.rlt
  have tget := f.tget
  have bx := co1.box
  have lm : hd.lim ≤ 0 := by have := co1.lim; omega
  have co2 := co1.proc (by simp only; omega) ⟨(nth p.procs 0).entry, q⟩
  simp only [Proc.enc] at rrow co2
  clear f co1
  simp (disch := omega) only [go_sem, *]
  clear rget rat rrow rlt tget bx lm bd3
  generalize hd.put (idV o1) ⟨2, (csOf hd o1).set (elV o1) [.i .i64 (nth p.procs 0).entry, .i .i64 q]⟩ = he at co2 ⊢
  have f := co2.facts (by simp only [List.length_set]; omega) (by omega)
  have tget := f.tget
  have tat := f.tat
  have trow := f.trow
  have nget := f.nget
  have nat := f.nat
  have nrow := f.nrow
  have nlt := f.nlt
  have bx := co2.box
  have lm : he.lim ≤ 0 := by have := co2.lim; omega
  have co3 := co2.node (by omega) ⟨(nth t 0).kind, (nth t 0).part, IntKind.wrap .i64 ((nth t 0).n + 1)⟩
  simp only [Node.enc] at nrow co3
  clear f co2
  simp (disch := omega) only [go_sem, *]
  clear tget tat trow nget nat nrow nlt bx lm bd2 bd4 dj32 hq
  generalize he.put (idV o2) ⟨3, (csOf he o2).set (elV o2) [.i .i64 (nth t 0).kind, .i .i64 (nth t 0).part, .i .i64 (IntKind.wrap .i64 ((nth t 0).n + 1))]⟩ = hf at co3 ⊢
  have clen := (Sl.facts (enc := Chan.enc) (L := X) (co3.own.sl 1 (6, vc, _) rfl)).len
  dsimp only at clen
  simp (disch := omega) only [go_sem, *]
  refine cop_14 (v7 := .fl 1 ((bytesR C).map encB)) co3 (by omega) (by simp (disch := omega) only [go_sem, *]) (by simp (disch := omega) only [go_sem, *]) (by simp (disch := omega) only [go_sem, *]) (by simp (disch := omega) only [go_sem, *]) (by simp (disch := omega) only [go_sem, *]) ?_
  intro e hg X' f5 f6 f7 hl co4
  have bx := co4.box
  have cbx := co4.cbox
  have ow := co4.own.keep (h2 := hg.raise) (Nat.le_refl _) (fun _ _ => rfl)
  simp only [Config.enc] at cbx
  clear co3 co4 clen
  simp (disch := omega) only [go_sem, *]
  refine Pf.go (bytes_ev hbyt) (by simp only [go_sem]) fun _ => ?_; simp (disch := omega) only [go_sem, *]
  obtain ⟨p2, hp2, ow⟩ : ∃ p2 : Part, p2.procs.length ≤ 3 ∧ Owns 4 h1.next hg.raise (ownC vp vc vt o1 o2 p2 P X' (t.set 0 ⟨(nth t 0).kind, (nth t 0).part, IntKind.wrap .i64 ((nth t 0).n + 1)⟩) T) := ⟨_, by simp only [List.length_set]; omega, ow⟩
  have fz : ∀ nx, Frz (fun _ => True) hg.raise nx (.agg [vp, vc, vt]) (.agg (Config.enc ⟨p2 :: P, X', t.set 0 ⟨(nth t 0).kind, (nth t 0).part, IntKind.wrap .i64 ((nth t 0).n + 1)⟩ :: T⟩)) := fun nx => ownC_frz ow (by omega) (by omega) (by omega) (by omega) (by simp only [List.length_set]; omega)
  have hne : decide (C = ⟨p2 :: P, X', t.set 0 ⟨(nth t 0).kind, (nth t 0).part, IntKind.wrap .i64 ((nth t 0).n + 1)⟩ :: T⟩) = false := by
    rw [ce.e, decide_eq_false_iff_not]
    intro he
    injection he with _ _ h3
    injection h3 with h4 _
    exact tab_ne htt.1 h4
  clear ow
  refine Pf.look (csame_ev (a := C) (b := ⟨p2 :: P, X', t.set 0 ⟨(nth t 0).kind, (nth t 0).part, IntKind.wrap .i64 ((nth t 0).n + 1)⟩ :: T⟩)) (.cons _ _ _ _ _ (.agg _ _ _ (.cons _ _ _ _ _ (.fl _ _ _) (.cons _ _ _ _ _ (.fl _ _ _) (.cons _ _ _ _ _ (.fl _ _ _) (.nil _))))) (.cons _ _ _ _ _ (fz _) (.nil _))) rfl fun _ => ?_
  rw [hne]
  clear hne fz
  simp (disch := omega) only [go_sem, *]
  refine Pf.go (known12_ev) (by simp only [go_sem]) fun _ => ?_; simp (disch := omega) only [go_sem, *]
end Go.Ab.T
