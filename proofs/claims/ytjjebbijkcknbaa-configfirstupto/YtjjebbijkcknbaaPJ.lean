/- Part of the proof that ConfigFirst returns true for every input of the second form's bound (no other condition). -/
import Derived.JoinedCond
import Derived.ChangeArms
import Derived.WalkKit
import Derived.ProofKit
import Derived.OpenShut
import Derived.ShutString
import Derived.ChangeOld
import Derived.SizedLaws
import Derived.Test.YtjjebbijkcknbaaPI
import Derived.Test.YtjjebbijkcknbaaPC
import Derived.Test.YtjjebbijkcknbaaPE
set_option linter.all false
namespace Go.Ab.T
open Go Go.Ab
set_option maxHeartbeats 4000000
section
variable {ow : Bool} {C : Config} {h h' : AH} {vp vc vt o1 o2 : V} {A : List Part} {X : List Chan} {B : List (List Node)}
theorem KS.keep {h2 : AH} (a : KS ow C h h' vp vc vt o1 o2 A X B) (hn : h'.next ≤ h2.next) (hl : h2.lim = h'.lim) (g : ∀ i, i < h'.next → h2.get i = h'.get i) : Owns (h.next + 3) h'.next h2 (ownL ow vp vc vt o1 o2 A X B) ∧ h2.lim = h.lim ∧ (∀ i, i < h.next → h2.get i = h.get i) ∧ h2.get h.next = some ⟨3, [C.enc]⟩ ∧ h2.get (h.next + 1) = some ⟨3, [[.ns, .ns, .ns]]⟩ ∧ h2.get (h.next + 2) = some ⟨3, [[vp, vc, vt]]⟩ := by
  have := a.own.bq
  exact ⟨a.own.keep hn g, hl.trans a.lim, fun i hi => (g i (by omega)).trans (a.low i hi), (g _ (by omega)).trans a.arg, (g _ (by omega)).trans a.res, (g _ (by omega)).trans a.box⟩
theorem KS.mk2 {h5 : AH} {q : Nat} {vp' vc' vt' o1' o2' : V} {A' : List Part} {X' : List Chan} {B' : List (List Node)} (o : Owns (h.next + 3) q h5 (ownL ow vp' vc' vt' o1' o2' A' X' B')) (hl : h5.lim = h.lim) (low : ∀ i, i < h.next → h5.get i = h.get i) (arg : h5.get h.next = some ⟨3, [C.enc]⟩) (res : h5.get (h.next + 1) = some ⟨3, [[.ns, .ns, .ns]]⟩) :
    KS ow C h (h5.put (h.next + 2) ⟨3, [[vp', vc', vt']]⟩) vp' vc' vt' o1' o2' A' X' B' := by
  have := o.bq; have := o.q2
  exact ⟨(o.put _ _ (.inl (by omega))).up (by rw [next_put]; omega) (Nat.le_refl _), hl, fun i hi => by rw [get_put, gsel_ne (by omega)]; exact low i hi, by rw [get_put, gsel_ne (by omega)]; exact arg, by rw [get_put, gsel_ne (by omega)]; exact res, by rw [get_put, gsel_eq rfl]⟩
theorem rowsP_len {ow : Bool} {v : V} {A : List Part} : (rowsP ow v A).length = A.length := by cases A <;> simp [rowsP]
theorem rowsT_len {ow : Bool} {v : V} {A : List (List Node)} : (rowsT ow v A).length = A.length := by cases A <;> simp [rowsT]
theorem own_next {i : Nat} {w : V} {Ps : List Part} (hcase : ¬ (ow = true ∧ i = 0)) (hi : i ≤ Ps.length) (hts : Ps.take (i + 1) = Ps.take i ++ [nth Ps i]) (hc : i < Ps.length) : ownL ow w .ns .ns o1 .ns (Ps.take (i + 1)) [] [] = (ownL ow vp .ns .ns o1 .ns (Ps.take i) [] []).set 0 (11, w, rowsP ow o1 (Ps.take i) ++ [(nth Ps i).enc]) := by
  rw [hts]
  by_cases h0 : i = 0
  · have hf : ow = false := by cases ow with | false => rfl | true => exact absurd ⟨rfl, h0⟩ hcase
    subst hf; subst h0
    simp [ownL, rowsP, r1]
  · have hne : Ps.take i ≠ [] := by
      intro h; have : (Ps.take i).length = 0 := by rw [h]; rfl
      rw [List.length_take] at this; omega
    rw [ownL, rowsP_snoc hne, r1_snoc hne]; rfl
theorem copy_parts {K : Ex → Env → AH → Prop} {e : Env} (hlo : h.lim ≤ h.next) (hPl : C.parts.length < 4000000000) (a : KS ow C h h' .ns .ns .ns .ns .ns [] [] [])
    (e1 : e 1 = .p h.next 0 0) (e2 : e 2 = .p (h.next + 1) 0 0) (e3 : e 3 = .p (h.next + 2) 0 0) (e9 : e 9 = .fl 11 (C.parts.map Part.enc)) (e10 : e 10 = .i .i64 C.parts.length) (e11 : e 11 = .i .i64 0)
    (kk : ∀ e' h' vp o1, e' 1 = .p h.next 0 0 → e' 2 = .p (h.next + 1) 0 0 → e' 3 = .p (h.next + 2) 0 0 → KS ow C h h' vp .ns .ns o1 .ns C.parts [] [] → K (.ex 0) e' h') : ZC tp (.loop Q16_8) e h' K := by
  refine ZC_loop_n (fun n' e hh => ∃ (i : Nat) (vp o1 : V), n' = C.parts.length - i ∧ e 1 = .p h.next 0 0 ∧ e 2 = .p (h.next + 1) 0 0 ∧ e 3 = .p (h.next + 2) 0 0 ∧ e 9 = .fl 11 (C.parts.map Part.enc) ∧ e 10 = .i .i64 C.parts.length ∧ e 11 = .i .i64 i ∧ i ≤ C.parts.length ∧ KS ow C h hh vp .ns .ns o1 .ns (C.parts.take i) [] []) ?_ _ _ _ ⟨0, .ns, .ns, rfl, e1, e2, e3, e9, e10, e11, by omega, a⟩
  clear e1 e2 e3 e9 e10 e11 e a
  rintro n' e hh ⟨i, vp, o1, rfl, e1, e2, e3, e9, e10, e11, hi, a⟩ ih
  have hbq := a.own.bq
  have hlh := a.lim
  rw [ZC_unf Q16_8.eq_1]
  simp (disch := omega) only [go_sem, *]
  refine Wb_dec (fun hc => ?_) (fun hc => ?_)
  · have hts := take_snoc (L := C.parts) (i := i) (by omega)
    simp (disch := omega) only [go_sem, *]
    have x1 : Ext hh ((hh.alloc ⟨11, [[.s ⟨#[]⟩, .i .i64 0, .i .i64 0, .b false, .b false, .ns, .i .i64 0, .i .i64 0, .i .i64 0, .i .i64 0, .i .i64 0]]⟩).put hh.next ⟨11, [(nth C.parts i).enc]⟩) := by (repeat (first | exact Ext.refl _ | refine Ext.alloc ?_ _ | (refine Ext.put ?_ _ _ ?_; rotate_left; (first | omega | (simp only [next_alloc, next_put]; omega)))))
    have b1 : ((hh.alloc ⟨11, [[.s ⟨#[]⟩, .i .i64 0, .i .i64 0, .b false, .b false, .ns, .i .i64 0, .i .i64 0, .i .i64 0, .i .i64 0, .i .i64 0]]⟩).put hh.next ⟨11, [(nth C.parts i).enc]⟩).get hh.next = some ⟨11, [(nth C.parts i).enc]⟩ := by rw [get_put, gsel_eq rfl]
    have n1 : hh.next < ((hh.alloc ⟨11, [[.s ⟨#[]⟩, .i .i64 0, .i .i64 0, .b false, .b false, .ns, .i .i64 0, .i .i64 0, .i .i64 0, .i .i64 0, .i .i64 0]]⟩).put hh.next ⟨11, [(nth C.parts i).enc]⟩).next := Nat.lt_succ_self _
    simp only [Part.enc] at x1 b1 n1
    generalize (hh.alloc ⟨11, [[.s ⟨#[]⟩, .i .i64 0, .i .i64 0, .b false, .b false, .ns, .i .i64 0, .i .i64 0, .i .i64 0, .i .i64 0, .i .i64 0]]⟩).put hh.next ⟨11, [[.s (nth C.parts i).name, .i .i64 (nth C.parts i).budget, .i .i64 (nth C.parts i).period, .b (nth C.parts i).sched, .b (nth C.parts i).stop, .fl 2 ((nth C.parts i).procs.map Proc.enc), .i .i64 (nth C.parts i).h0, .i .i64 (nth C.parts i).h1, .i .i64 (nth C.parts i).h2, .i .i64 (nth C.parts i).h3, .i .i64 (nth C.parts i).h4]]⟩ = h1 at x1 b1 n1 ⊢
    have hl1 := x1.lim
    by_cases hcase : ow = true ∧ i = 0
    · obtain ⟨rfl, rfl⟩ := hcase
      refine cloneProco (by omega) ?_
      intro r h2 s2 x2
      simp (disch := omega) only [go_sem, *]
      refine clipProco s2 ?_
      intro v s3
      have hb2 : h2.get hh.next = some ⟨11, [[.s (nth C.parts 0).name, .i .i64 (nth C.parts 0).budget, .i .i64 (nth C.parts 0).period, .b (nth C.parts 0).sched, .b (nth C.parts 0).stop, .fl 2 ((nth C.parts 0).procs.map Proc.enc), .i .i64 (nth C.parts 0).h0, .i .i64 (nth C.parts 0).h1, .i .i64 (nth C.parts 0).h2, .i .i64 (nth C.parts 0).h3, .i .i64 (nth C.parts 0).h4]]⟩ := (x2.get _ n1).trans b1
      have n2 := x2.next
      have l2 := x2.lim
      have x3 : Ext hh (h2.put hh.next ⟨11, [(nth C.parts 0).encO v]⟩) := (x1.trans x2).put _ _ (Nat.le_refl _)
      have b3 : (h2.put hh.next ⟨11, [(nth C.parts 0).encO v]⟩).get hh.next = some ⟨11, [(nth C.parts 0).encO v]⟩ := by rw [get_put, gsel_eq rfl]
      have s4 : Sl hh.next (h2.put hh.next ⟨11, [(nth C.parts 0).encO v]⟩) 2 v ((nth C.parts 0).procs.map Proc.enc) := Sl.weak (sl_put s3 _ _ ((sl_own s3).imp (fun x => x) (fun x => by omega))) (by omega)
      obtain ⟨_, _, _, _, _, _, _, vcell, vcells⟩ := s4.facts
      obtain ⟨o3, lim3, low3, arg3, res3, box3⟩ := a.keep x3.next x3.lim x3.get
      have o3 := o3.new (i := 3) (by simp [ownL]) s4
      have hts2 : C.parts.take (0 + 1) = [nth C.parts 0] := by rw [hts]; simp
      simp only [Part.encO] at x3 b3 o3 lim3 low3 arg3 res3 box3
      simp (disch := omega) only [go_sem, *]
      clear s2 s3 s4 x1 x2 hl1 b1 n1 hb2
      generalize h2.put hh.next ⟨11, [[.s (nth C.parts 0).name, .i .i64 (nth C.parts 0).budget, .i .i64 (nth C.parts 0).period, .b (nth C.parts 0).sched, .b (nth C.parts 0).stop, v, .i .i64 (nth C.parts 0).h0, .i .i64 (nth C.parts 0).h1, .i .i64 (nth C.parts 0).h2, .i .i64 (nth C.parts 0).h3, .i .i64 (nth C.parts 0).h4]]⟩ = h3 at x3 b3 o3 lim3 low3 arg3 res3 box3 ⊢
      have hbq3 := o3.bq
      have hq23 := o3.q2
      refine app_rule (N := [[.s (nth C.parts 0).name, .i .i64 (nth C.parts 0).budget, .i .i64 (nth C.parts 0).period, .b (nth C.parts 0).sched, .b (nth C.parts 0).stop, v, .i .i64 (nth C.parts 0).h0, .i .i64 (nth C.parts 0).h1, .i .i64 (nth C.parts 0).h2, .i .i64 (nth C.parts 0).h3, .i .i64 (nth C.parts 0).h4]]) ((o3.sl 0 _ rfl).alloc _) (by first | omega | (simp (disch := omega) only [go_sem, *] <;> omega)) (by first | omega | (simp (disch := omega) only [go_sem, *] <;> omega)) (by have hl := rowsP_len (ow := true) (v := o1) (A := C.parts.take 0); simp only [List.length_cons, List.length_nil, hl, List.length_take]; omega) ?_
      intro w h5 s5 g5
      have x5 := (Ext.refl h3).alloc ⟨11, [[.s (nth C.parts 0).name, .i .i64 (nth C.parts 0).budget, .i .i64 (nth C.parts 0).period, .b (nth C.parts 0).sched, .b (nth C.parts 0).stop, v, .i .i64 (nth C.parts 0).h0, .i .i64 (nth C.parts 0).h1, .i .i64 (nth C.parts 0).h2, .i .i64 (nth C.parts 0).h3, .i .i64 (nth C.parts 0).h4]]⟩
      have lo5 := o3.low (i := 0) rfl x5 g5
      have o5 := o3.grow (i := 0) rfl x5 g5 s5
      have hb5 : h5.get (h.next + 2) = some ⟨3, [[vp, .ns, .ns]]⟩ := (lo5 _ (by omega)).trans box3
      have l5 := g5.lim
      have hc5 := g5.cell
      have hcs5 := g5.cells
      simp only [lim_alloc] at l5
      have k5 : KS true C h (h5.put (h.next + 2) ⟨3, [[w, .ns, .ns]]⟩) w .ns .ns v .ns (C.parts.take (0 + 1)) [] [] := KS.mk2 (q := h5.next) (by
        have e : ownL true w .ns .ns v .ns (C.parts.take (0 + 1)) [] [] = ((ownL true vp .ns .ns o1 .ns (C.parts.take 0) [] []).set 3 (2, v, (nth C.parts 0).procs.map Proc.enc)).set 0 (11, w, rowsP true o1 (C.parts.take 0) ++ [[.s (nth C.parts 0).name, .i .i64 (nth C.parts 0).budget, .i .i64 (nth C.parts 0).period, .b (nth C.parts 0).sched, .b (nth C.parts 0).stop, v, .i .i64 (nth C.parts 0).h0, .i .i64 (nth C.parts 0).h1, .i .i64 (nth C.parts 0).h2, .i .i64 (nth C.parts 0).h3, .i .i64 (nth C.parts 0).h4]]) := (by rw [hts2]; simp [ownL, rowsP, r1, Part.encO])
        rw [e]; exact o5) (by omega) (fun i hi => (lo5 i (by omega)).trans (low3 i hi)) ((lo5 _ (by omega)).trans arg3) ((lo5 _ (by omega)).trans res3)
      clear s5 g5 x5 o5 lo5 hts hts2 o3
      simp (disch := omega) only [go_sem, *]
      refine ih _ _ _ ?_ ⟨0 + 1, w, v, rfl, ?_⟩
      · omega
      · clear ih kk
        simp (disch := omega) only [go_sem, *]
        ((repeat' refine And.intro ?_ ?_) <;> first | omega | assumption | (exact k5))
    · obtain ⟨_, _, _, _, _, box1⟩ := a.keep x1.next x1.lim x1.get
      have x3 : Ext hh (h1.put hh.next ⟨11, [[.s (nth C.parts i).name, .i .i64 (nth C.parts i).budget, .i .i64 (nth C.parts i).period, .b (nth C.parts i).sched, .b (nth C.parts i).stop, .fl 2 ((nth C.parts i).procs.map Proc.enc), .i .i64 (nth C.parts i).h0, .i .i64 (nth C.parts i).h1, .i .i64 (nth C.parts i).h2, .i .i64 (nth C.parts i).h3, .i .i64 (nth C.parts i).h4]]⟩) := x1.put _ _ (Nat.le_refl _)
      obtain ⟨o3, lim3, low3, arg3, res3, box3⟩ := a.keep x3.next x3.lim x3.get
      refine Pf.go (cloneProc_ev) (by simp only [go_sem]) fun _ => ?_; simp (disch := omega) only [go_sem, *]
      refine Pf.go (clipProc_ev) (by simp only [go_sem]) fun _ => ?_; simp (disch := omega) only [go_sem, *]
      clear hl1 b1 box1
      have n3 : hh.next < (h1.put hh.next ⟨11, [[.s (nth C.parts i).name, .i .i64 (nth C.parts i).budget, .i .i64 (nth C.parts i).period, .b (nth C.parts i).sched, .b (nth C.parts i).stop, .fl 2 ((nth C.parts i).procs.map Proc.enc), .i .i64 (nth C.parts i).h0, .i .i64 (nth C.parts i).h1, .i .i64 (nth C.parts i).h2, .i .i64 (nth C.parts i).h3, .i .i64 (nth C.parts i).h4]]⟩).next := n1
      generalize h1.put hh.next ⟨11, [[.s (nth C.parts i).name, .i .i64 (nth C.parts i).budget, .i .i64 (nth C.parts i).period, .b (nth C.parts i).sched, .b (nth C.parts i).stop, .fl 2 ((nth C.parts i).procs.map Proc.enc), .i .i64 (nth C.parts i).h0, .i .i64 (nth C.parts i).h1, .i .i64 (nth C.parts i).h2, .i .i64 (nth C.parts i).h3, .i .i64 (nth C.parts i).h4]]⟩ = h3 at x3 o3 lim3 low3 arg3 res3 box3 n3 ⊢
      clear x1 n1
      have o3 := o3.up (Nat.le_of_lt n3) (Nat.le_refl _)
      have hbq3 := o3.bq
      have hq23 := o3.q2
      refine app_rule (N := [[.s (nth C.parts i).name, .i .i64 (nth C.parts i).budget, .i .i64 (nth C.parts i).period, .b (nth C.parts i).sched, .b (nth C.parts i).stop, .fl 2 ((nth C.parts i).procs.map Proc.enc), .i .i64 (nth C.parts i).h0, .i .i64 (nth C.parts i).h1, .i .i64 (nth C.parts i).h2, .i .i64 (nth C.parts i).h3, .i .i64 (nth C.parts i).h4]]) ((o3.sl 0 _ rfl).alloc _) (by first | omega | (simp (disch := omega) only [go_sem, *] <;> omega)) (by first | omega | (simp (disch := omega) only [go_sem, *] <;> omega)) (by have hl := rowsP_len (ow := ow) (v := o1) (A := C.parts.take i); simp only [List.length_cons, List.length_nil, hl, List.length_take]; omega) ?_
      intro w h5 s5 g5
      have x5 := (Ext.refl h3).alloc ⟨11, [[.s (nth C.parts i).name, .i .i64 (nth C.parts i).budget, .i .i64 (nth C.parts i).period, .b (nth C.parts i).sched, .b (nth C.parts i).stop, .fl 2 ((nth C.parts i).procs.map Proc.enc), .i .i64 (nth C.parts i).h0, .i .i64 (nth C.parts i).h1, .i .i64 (nth C.parts i).h2, .i .i64 (nth C.parts i).h3, .i .i64 (nth C.parts i).h4]]⟩
      have lo5 := o3.low (i := 0) rfl x5 g5
      have o5 := o3.grow (i := 0) rfl x5 g5 s5
      have hb5 : h5.get (h.next + 2) = some ⟨3, [[vp, .ns, .ns]]⟩ := (lo5 _ (by omega)).trans box3
      have l5 := g5.lim
      have hc5 := g5.cell
      have hcs5 := g5.cells
      simp only [lim_alloc] at l5
      have k5 : KS ow C h (h5.put (h.next + 2) ⟨3, [[w, .ns, .ns]]⟩) w .ns .ns o1 .ns (C.parts.take (i + 1)) [] [] := KS.mk2 (q := h5.next) (by
        have e : ownL ow w .ns .ns o1 .ns (C.parts.take (i + 1)) [] [] = (ownL ow vp .ns .ns o1 .ns (C.parts.take i) [] []).set 0 (11, w, rowsP ow o1 (C.parts.take i) ++ [[.s (nth C.parts i).name, .i .i64 (nth C.parts i).budget, .i .i64 (nth C.parts i).period, .b (nth C.parts i).sched, .b (nth C.parts i).stop, .fl 2 ((nth C.parts i).procs.map Proc.enc), .i .i64 (nth C.parts i).h0, .i .i64 (nth C.parts i).h1, .i .i64 (nth C.parts i).h2, .i .i64 (nth C.parts i).h3, .i .i64 (nth C.parts i).h4]]) := (own_next hcase hi hts (by omega))
        rw [e]; exact o5) (by omega) (fun i hi => (lo5 i (by omega)).trans (low3 i hi)) ((lo5 _ (by omega)).trans arg3) ((lo5 _ (by omega)).trans res3)
      clear s5 g5 x5 o5 lo5 hts o3
      simp (disch := omega) only [go_sem, *]
      refine ih _ _ _ ?_ ⟨i + 1, w, o1, rfl, ?_⟩
      · omega
      · clear ih kk
        simp (disch := omega) only [go_sem, *]
        ((repeat' refine And.intro ?_ ?_) <;> first | omega | assumption | (exact k5))
  · obtain rfl : i = C.parts.length := by omega
    rw [List.take_length] at a
    simp (disch := omega) only [go_sem, *]
    exact kk _ hh vp o1 e1 e2 e3 a
end
end Go.Ab.T
namespace Go.Ab.T
open Go Go.Ab
set_option maxHeartbeats 4000000
section
variable {ow : Bool} {C : Config} {h h' : AH} {vp vc vt o1 o2 : V} {A : List Part} {X : List Chan} {B : List (List Node)}
theorem own_nextT {i : Nat} {w : V} {Ts : List (List Node)} (hcase : ¬ (ow = true ∧ i = 0)) (hi : i ≤ Ts.length) (hts : Ts.take (i + 1) = Ts.take i ++ [nth Ts i]) (hc : i < Ts.length) : ownL ow vp vc w o1 o2 A X (Ts.take (i + 1)) = (ownL ow vp vc vt o1 o2 A X (Ts.take i)).set 2 (1, w, rowsT ow o2 (Ts.take i) ++ [Tab.enc (nth Ts i)]) := by
  rw [hts]
  by_cases h0 : i = 0
  · have hf : ow = false := by cases ow with | false => rfl | true => exact absurd ⟨rfl, h0⟩ hcase
    subst hf; subst h0
    simp [ownL, rowsT, r2, Tab.enc]
  · have hne : Ts.take i ≠ [] := by
      intro h; have : (Ts.take i).length = 0 := by rw [h]; rfl
      rw [List.length_take] at this; omega
    rw [ownL, rowsT_snoc hne, r2_snoc hne]; rfl
theorem copy_tabs {K : Ex → Env → AH → Prop} {e : Env} (hlo : h.lim ≤ h.next) (hPl : C.tables.length < 4000000000) (a : KS ow C h h' vp vc .ns o1 .ns A X [])
    (e2 : e 2 = .p (h.next + 1) 0 0) (e3 : e 3 = .p (h.next + 2) 0 0) (e33 : e 33 = .fl 1 (C.tables.map Tab.enc)) (e34 : e 34 = .i .i64 C.tables.length) (e35 : e 35 = .i .i64 0)
    (kk : ∀ e' h' vt o2, e' 2 = .p (h.next + 1) 0 0 → e' 3 = .p (h.next + 2) 0 0 → KS ow C h h' vp vc vt o1 o2 A X C.tables → K (.ex 2) e' h') : ZC tp (.loop Q16_15) e h' K := by
  refine ZC_loop_n (fun n' e hh => ∃ (i : Nat) (vt o2 : V), n' = C.tables.length - i ∧ e 2 = .p (h.next + 1) 0 0 ∧ e 3 = .p (h.next + 2) 0 0 ∧ e 33 = .fl 1 (C.tables.map Tab.enc) ∧ e 34 = .i .i64 C.tables.length ∧ e 35 = .i .i64 i ∧ i ≤ C.tables.length ∧ KS ow C h hh vp vc vt o1 o2 A X (C.tables.take i)) ?_ _ _ _ ⟨0, .ns, .ns, rfl, e2, e3, e33, e34, e35, by omega, a⟩
  clear e2 e3 e33 e34 e35 e a
  rintro n' e hh ⟨i, vt, o2, rfl, e2, e3, e33, e34, e35, hi, a⟩ ih
  have hbq := a.own.bq
  have hlq : hh.lim ≤ h.next := by rw [a.lim]; exact hlo
  have hbx := a.box
  rw [ZC_unf Q16_15.eq_1]
  simp (disch := omega) only [go_sem, *]
  refine Wb_dec (fun hc => ?_) (fun hc => ?_)
  · have hts := take_snoc (L := C.tables) (i := i) (by omega)
    simp (disch := omega) only [go_sem, *]
    by_cases hcase : ow = true ∧ i = 0
    · obtain ⟨rfl, rfl⟩ := hcase
      refine cloneNodeo (by rw [lim_raise, next_raise]; exact Nat.le_refl _) ?_
      intro r h2 s2 x2
      have x3 : Ext hh (h2.back hh.lim) := ⟨x2.next, rfl, x2.get⟩
      have s3 : Sl hh.next (h2.back hh.lim) 3 r ((nth C.tables 0).map Node.enc) := s2
      simp (disch := omega) only [go_sem, *]
      generalize h2.back hh.lim = h3 at x3 s3 ⊢
      clear s2 x2
      have hrb : h3.raise.back hh.lim = h3 := by rw [← x3.lim]; exact raise_back
      refine clipNodeo s3.raise ?_
      intro v s4
      have s4 : Sl hh.next h3 3 v ((nth C.tables 0).map Node.enc) := s4
      obtain ⟨_, _, _, _, _, _, _, vcell, vcells⟩ := s4.facts
      obtain ⟨o3, lim3, low3, arg3, res3, box3⟩ := a.keep x3.next x3.lim x3.get
      have o3 := o3.new (i := 4) (by simp [ownL]) s4
      have hts2 : C.tables.take (0 + 1) = [nth C.tables 0] := by rw [hts]; simp
      simp (disch := omega) only [go_sem, *]
      have hbq3 := o3.bq
      have hq23 := o3.q2
      refine app_rule (N := [[v]]) ((o3.sl 2 _ rfl).alloc _) (by first | omega | (simp (disch := omega) only [go_sem, *] <;> omega)) (by first | omega | (simp (disch := omega) only [go_sem, *] <;> omega)) (by have hl := rowsT_len (ow := true) (v := o2) (A := C.tables.take 0); simp only [List.length_cons, List.length_nil, hl, List.length_take]; omega) ?_
      intro w h5 s5 g5
      have x5 := (Ext.refl h3).alloc ⟨1, [[v]]⟩
      have lo5 := o3.low (i := 2) rfl x5 g5
      have o5 := o3.grow (i := 2) rfl x5 g5 s5
      have hb5 : h5.get (h.next + 2) = some ⟨3, [[vp, vc, vt]]⟩ := (lo5 _ (by omega)).trans box3
      have l5 := g5.lim
      have hc5 := g5.cell
      have hcs5 := g5.cells
      simp only [lim_alloc] at l5
      have k5 : KS true C h (h5.put (h.next + 2) ⟨3, [[vp, vc, w]]⟩) vp vc w o1 v A X (C.tables.take (0 + 1)) := KS.mk2 (q := h5.next) (by
        have e : ownL true vp vc w o1 v A X (C.tables.take (0 + 1)) = ((ownL true vp vc vt o1 o2 A X (C.tables.take 0)).set 4 (3, v, (nth C.tables 0).map Node.enc)).set 2 (1, w, rowsT true o2 (C.tables.take 0) ++ [[v]]) := (by rw [hts2]; simp [ownL, rowsT, r2])
        rw [e]; exact o5) (by omega) (fun i hi => (lo5 i (by omega)).trans (low3 i hi)) ((lo5 _ (by omega)).trans arg3) ((lo5 _ (by omega)).trans res3)
      have lq5 : h5.lim ≤ h.next := by omega
      clear s5 g5 x5 o5 lo5 hts l5 hts2 o3
      simp (disch := omega) only [go_sem, *]
      refine ih _ _ _ ?_ ⟨0 + 1, w, v, rfl, ?_⟩
      · omega
      · clear ih kk
        simp (disch := omega) only [go_sem, *]
        ((repeat' refine And.intro ?_ ?_) <;> first | omega | assumption | (exact k5))
    · refine Pf.go (cloneNode_ev) (by simp only [go_sem]) fun _ => ?_; simp (disch := omega) only [go_sem, *]
      refine Pf.go (clipNode_ev) (by simp only [go_sem]) fun _ => ?_; simp (disch := omega) only [go_sem, *]
      obtain ⟨o3, lim3, low3, arg3, res3, box3⟩ := a.keep (h2 := hh) (Nat.le_refl _) rfl (fun _ _ => rfl)
      generalize hh = h3 at *
      have hbq3 := o3.bq
      have hq23 := o3.q2
      refine app_rule (N := [[.fl 3 ((nth C.tables i).map Node.enc)]]) ((o3.sl 2 _ rfl).alloc _) (by first | omega | (simp (disch := omega) only [go_sem, *] <;> omega)) (by first | omega | (simp (disch := omega) only [go_sem, *] <;> omega)) (by have hl := rowsT_len (ow := ow) (v := o2) (A := C.tables.take i); simp only [List.length_cons, List.length_nil, hl, List.length_take]; omega) ?_
      intro w h5 s5 g5
      have x5 := (Ext.refl h3).alloc ⟨1, [[.fl 3 ((nth C.tables i).map Node.enc)]]⟩
      have lo5 := o3.low (i := 2) rfl x5 g5
      have o5 := o3.grow (i := 2) rfl x5 g5 s5
      have hb5 : h5.get (h.next + 2) = some ⟨3, [[vp, vc, vt]]⟩ := (lo5 _ (by omega)).trans box3
      have l5 := g5.lim
      have hc5 := g5.cell
      have hcs5 := g5.cells
      simp only [lim_alloc] at l5
      have k5 : KS ow C h (h5.put (h.next + 2) ⟨3, [[vp, vc, w]]⟩) vp vc w o1 o2 A X (C.tables.take (i + 1)) := KS.mk2 (q := h5.next) (by
        have e : ownL ow vp vc w o1 o2 A X (C.tables.take (i + 1)) = (ownL ow vp vc vt o1 o2 A X (C.tables.take i)).set 2 (1, w, rowsT ow o2 (C.tables.take i) ++ [[.fl 3 ((nth C.tables i).map Node.enc)]]) := (own_nextT hcase hi hts (by omega))
        rw [e]; exact o5) (by omega) (fun i hi => (lo5 i (by omega)).trans (low3 i hi)) ((lo5 _ (by omega)).trans arg3) ((lo5 _ (by omega)).trans res3)
      have lq5 : h5.lim ≤ h.next := by omega
      clear s5 g5 x5 o5 lo5 hts l5 o3
      simp (disch := omega) only [go_sem, *]
      refine ih _ _ _ ?_ ⟨i + 1, w, o2, rfl, ?_⟩
      · omega
      · clear ih kk
        simp (disch := omega) only [go_sem, *]
        ((repeat' refine And.intro ?_ ?_) <;> first | omega | assumption | (exact k5))
  · obtain rfl : i = C.tables.length := by omega
    rw [List.take_length] at a
    simp (disch := omega) only [go_sem, *]
    exact kk _ hh vt o2 e2 e3 a
end
end Go.Ab.T
namespace Go.Ab.T
open Go Go.Ab
set_option maxHeartbeats 4000000
theorem sl_cell {b sz : Nat} {h : AH} {v : V} {R : List (List V)} (s : Sl b h sz v R) : v.isCell = true ∧ v.cells = [v] := by
  rcases s with ⟨hv, _⟩ | ⟨_, _, _, _, rfl, _⟩
  · rcases hv with rfl | rfl <;> exact ⟨rfl, rfl⟩
  · exact ⟨rfl, rfl⟩
theorem copy_body {ow : Bool} {C : Config} {h : AH} {K : V → AH → Prop} (hlo : h.lim ≤ h.next) (hPl : C.parts.length < 4000000000) (hTl : C.tables.length < 4000000000)
    (kk : ∀ vp vc vt o1 o2 h2, Owns (h.next + 3) h2.next h2 (ownL ow vp vc vt o1 o2 C.parts C.chans C.tables) → h2.lim = h.lim → (∀ i, i < h.next → h2.get i = h.get i) → K (.agg [vp, vc, vt]) h2) :
    ZC tp t_Q16.body (env0 [.agg C.enc]) h (fun x e h2 => Zend t_Q16.res x e h2 K) := by
  unfold t_Q16
  simp (disch := omega) only [go_sem, *]
  have x0 : Ext h (((h.alloc ⟨3, [C.enc]⟩).alloc ⟨3, [[.ns, .ns, .ns]]⟩).alloc ⟨3, [[.ns, .ns, .ns]]⟩) := by (repeat (first | exact Ext.refl _ | refine Ext.alloc ?_ _ | (refine Ext.put ?_ _ _ ?_; rotate_left; (first | omega | (simp only [next_alloc, next_put]; omega)))))
  have k0 : KS ow C h (((h.alloc ⟨3, [C.enc]⟩).alloc ⟨3, [[.ns, .ns, .ns]]⟩).alloc ⟨3, [[.ns, .ns, .ns]]⟩) .ns .ns .ns .ns .ns [] [] [] := by
    refine ⟨Owns.nil (by simp only [next_alloc]; omega) (fun a ha => ?_), rfl, x0.get, by simp (disch := omega) only [go_sem, *], by simp (disch := omega) only [go_sem, *], by simp (disch := omega) only [go_sem, *]⟩
    simp only [ownL, List.mem_cons, List.not_mem_nil, or_false] at ha
    rcases ha with rfl | rfl | rfl | rfl | rfl <;> simp [rowsP, rowsT, r1, r2]
  simp only [Config.enc] at k0
  refine copy_parts hlo hPl k0 (by simp (disch := omega) only [go_sem, *]) (by simp (disch := omega) only [go_sem, *]) (by simp (disch := omega) only [go_sem, *]) (by simp (disch := omega) only [go_sem, *]) (by simp (disch := omega) only [go_sem, *]) (by simp (disch := omega) only [go_sem, *]) ?_
  clear k0 x0
  intro e h1 vp o1 e1 e2 e3 a
  have harg := a.arg
  have hbq := a.own.bq
  simp only [Config.enc] at harg
  simp (disch := omega) only [go_sem, *]
  have hl1 := a.lim
  refine cloneChano (by omega) ?_
  intro r h2 s2 x2
  have hn2 := x2.next
  simp (disch := omega) only [go_sem, *]
  refine clipChano s2 ?_
  intro v s3
  obtain ⟨_, _, _, _, _, _, _, vcell, vcells⟩ := s3.facts
  obtain ⟨o3, lim3, low3, arg3, res3, box3⟩ := a.keep x2.next x2.lim x2.get
  have o3 := o3.new (i := 1) (by simp [ownL]) s3
  have e4 : (ownL ow vp .ns .ns o1 .ns C.parts [] []).set 1 (6, v, C.chans.map Chan.enc) = ownL ow vp v .ns o1 .ns C.parts C.chans [] := rfl
  rw [e4] at o3
  have a3 := KS.mk2 (ow := ow) (C := C) o3 lim3 low3 arg3 res3
  have harg3 := arg3
  have hl2 := x2.lim
  simp only [Config.enc] at harg3
  clear e4 s2 s3 o3 low3 res3 arg3 harg a
  simp (disch := omega) only [go_sem, *]
  refine copy_tabs hlo hTl a3 (by simp (disch := omega) only [go_sem, *]) (by simp (disch := omega) only [go_sem, *]) (by simp (disch := omega) only [go_sem, *]) (by simp (disch := omega) only [go_sem, *]) (by simp (disch := omega) only [go_sem, *]) ?_
  clear e1 e2 e3 a3 harg3 box3 hn2 lim3 hl1 hl2 x2 hbq
  intro e h1 vt o2 e2 e3 a
  have hbox := a.box
  have hres := a.res
  have hbq := a.own.bq
  have hlq : h1.lim ≤ h.next := by rw [a.lim]; exact hlo
  have f := kk vp v vt o1 o2 (h1.put (h.next + 1) ⟨3, [[vp, v, vt]]⟩) (a.own.put _ _ (.inl (by omega))) a.lim (fun i hi => by rw [get_put, gsel_ne (by omega)]; exact a.low i hi)
  obtain ⟨c1, c2⟩ := sl_cell (a.own.sl 0 (11, vp, _) rfl)
  obtain ⟨c3, c4⟩ := sl_cell (a.own.sl 1 (6, v, _) rfl)
  obtain ⟨c5, c6⟩ := sl_cell (a.own.sl 2 (1, vt, _) rfl)
  dsimp only at c1 c2 c3 c4 c5 c6
  clear kk
  simp (disch := omega) only [go_sem, *]
theorem copyA {C : Config} {h : AH} {K : V → AH → Prop} (ow : Bool) (hPl : C.parts.length < 4000000000) (hTl : C.tables.length < 4000000000)
    (kk : ∀ vp vc vt o1 o2 h2, Owns (h.next + 3) h2.next h2 (ownL ow vp vc vt o1 o2 C.parts C.chans C.tables) → h2.lim = h.lim → (∀ i, i < h.next → h2.get i = h.get i) → K (.agg [vp, vc, vt]) h2) : Cq tp i_Q16 [.agg C.enc] h K :=
  Cq_raw_go fn_Q16 (by simp [t_Q16]) fun wf rp => copy_body (ow := ow) wf.1 hPl hTl kk
theorem copy_ev {C : Config} : Pf tp i_Q16 [.agg C.enc] (.agg C.enc) := by
  refine Pf_go fn_Q16 (by simp [t_Q16]) fun rp => ?_
  have hcl := Rep.len (rp.head.agg (.fl 6 (C.chans.map Chan.enc)) (by simp [Config.enc]))
  have hpl := Rep.len (rp.head.agg (.fl 11 (C.parts.map Part.enc)) (by simp [Config.enc]))
  have htl := Rep.len (rp.head.agg (.fl 1 (C.tables.map Tab.enc)) (by simp [Config.enc]))
  refine copy_body (ow := false) (Nat.zero_le _) hpl htl ?_
  intro vp vc vt o1 o2 h2 o hl low
  have s0 := o.sl 0 _ rfl
  have s1 := o.sl 1 _ rfl
  have s2 := o.sl 2 _ rfl
  simp only [rowsP_no, rowsT_no] at s0 s1 s2
  exact .agg _ _ _ (.cons _ _ _ _ _ (s0.froze (fun _ => rfl) trivial hpl) (.cons _ _ _ _ _ (s1.froze (fun _ => rfl) trivial hcl) (.cons _ _ _ _ _ (s2.froze (fun _ => rfl) trivial htl) (.nil _))))
end Go.Ab.T
namespace Go.Ab.T
open Go Go.Ab
set_option maxHeartbeats 4000000
theorem Cq_fixg {tp : TP} {f : Nat} {args args' : List V} {h h2 : AH} {K : V → AH → Prop} (P : Nat → Prop) (hn : h2.next = h.next) (hl : h2.lim = h.lim)
    (hb : Wf h → ∀ i k, h2.get i = some k → i < h2.next ∧ ¬ P i ∧ ∃ cs, h.get i = some ⟨k.sz, cs⟩ ∧ Frzr P h h2.next cs k.cs) (hz : Frzs P h h2.next args args') (z : Cq tp f args' h2 K) : Cq tp f args h K := by
  intro S m hc args1 c p
  have wf := c.wf
  have st : ∀ r R, Frz P h h2.next r R → Settle h h r P R h2 := fun r R f => ⟨Nat.le_of_eq hn.symm, hl, Nat.le_of_eq hn, hb wf, f⟩
  obtain ⟨q1, q2, _⟩ := (st .u .u (.z _ _ .u)).ok c c (Adv.refl c) (.u _ .u)
  have hz2 := Frzs.ok c hz p
  refine (z _ m hc args1 q1 hz2).imp ?_
  rintro r1 hc' ⟨r, h', S', m', c', a', q, k⟩
  exact ⟨r, h', S', m', c', q2.trans a', q, k⟩
def kP : Part := ⟨⟨#[97]⟩, 0, 0, false, false, [⟨0, 0⟩], 0, 0, 0, 0, 0⟩
def kC : Config := ⟨[kP], [], [[⟨1, 0, 1⟩]]⟩
def kD : Config := ⟨[kP], [⟨0, 0, false, 0, 0, 0⟩], [[⟨1, 0, 1⟩]]⟩
theorem kP_name : nameB kP.name = true := by unfold nameB; decide
theorem kP_part : partB kP = true := by
  unfold partB
  have : procsB kP.procs = true := by unfold procsB; decide
  rw [this]; decide
theorem kP_good {j : Nat} (h : j < 1) : GoodP [kP] j := by
  obtain rfl : j = 0 := by omega
  exact ⟨kP_name, rfl, kP_part⟩
theorem k_tab : TabOk 1 [⟨1, 0, 1⟩] := by
  refine TabOk.of (by omega) ?_ (PtOk.one (by simp) (by simp))
  have e : ([⟨1, 0, 1⟩] : List Node) = (Fo.leaf ⟨1, 0, 1⟩ .nil).flat := rfl
  have hr : rightR [⟨1, 0, 1⟩] = 0 := by
    rw [e]
    exact right_flat ⟨rfl, trivial⟩ rfl (by simp [Fo.depth]) (by simp [Fo.len]) (by simp [Fo.flat])
  rw [ofR_good hr]
  obtain ⟨_, ho, hc1, hL, hd, hl⟩ := foOf_ok hr
  have hap := Fo.runs_allpos _ ho
  have hsum := Fo.runs_sum _ ho
  have hrl := Fo.runs_len _ ho
  have ht := tidyOf hap (by omega)
  have : (foOf [⟨1, 0, 1⟩]).len = 1 := by
    have m1 := (measured_flat ho hc1).2
    have m2 := (measured_flat (f := Fo.leaf ⟨1, 0, 1⟩ .nil) ⟨rfl, trivial⟩ rfl).2
    rw [← hL] at m1
    rw [← e] at m2
    rw [m1] at m2
    have l2 : (Fo.leaf ⟨1, 0, 1⟩ .nil).len = 1 := rfl
    rw [l2] at m2
    omega
  rw [if_neg (by unfold ofT; have := ht.len; omega)]
theorem kC_where : whereR kC = (0, -1) := by
  rw [where_iff]
  refine ⟨⟨by decide, by decide, by decide, by decide, by decide⟩, fun j hj => kP_good hj, fun x hx => (by cases hx), fun t ht => ?_⟩
  rw [List.mem_singleton.1 ht, tableR_iff]
  refine ⟨k_tab, ?_⟩
  rw [holdsR_iff]
  exact ⟨rfl, ptShort_zero _ _ fun p hp => by rw [List.mem_singleton.1 hp]; rfl⟩
theorem kD_where : whereR kD = (17, 0) := by
  have hc : chanB 1 ⟨0, 0, false, 0, 0, 0⟩ = false := by unfold chanB; decide
  unfold whereR
  rw [if_neg (by decide)]
  show whParts kD 0 [kP] = _
  rw [whParts, if_neg (by rw [kP_name]; simp), if_neg (by rw [kP_part]; simp), whParts]
  show whChans kD 0 [_] = _
  rw [whChans, if_pos (show chanB (kD.parts.length : Int) ⟨0, 0, false, 0, 0, 0⟩ = false from hc)]; rfl
theorem k0_where : whereR ⟨[], [], []⟩ = (3, 0) := if_pos (by decide)
theorem kC_nm : NmOk kC := fun p hp => by rw [List.mem_singleton.1 hp]; decide
theorem kD_nm : NmOk kD := fun p hp => by rw [List.mem_singleton.1 hp]; decide
def kH : AH := ⟨fun i => if i = 4 then some ⟨3, [kC.enc]⟩ else if i = 5 then some ⟨3, [kD.enc]⟩ else none, 7, 0⟩
theorem kH_4 : kH.get 4 = some ⟨3, [kC.enc]⟩ := rfl
theorem kH_5 : kH.get 5 = some ⟨3, [kD.enc]⟩ := rfl
theorem frz_sl {P : Nat → Prop} {h : AH} {n id sz : Nat} {r r' : List V} (hP : P id) (hg : h.get id = some ⟨sz, [r]⟩) (q : Frzs P h 0 r r') : Frz P h n (.sl id 0 1 1) (.fl sz [r']) :=
  .sl _ _ _ _ _ _ [r] _ hP hg (by simp) (by omega) (by decide) (.cons _ _ _ _ _ q (.nil _))
theorem k_fix {h : AH} {f : Nat} {K : V → AH → Prop} (hn : h.next = 7) (hl : h.lim = 0) (g0 : h.get 0 = some ⟨2, [[.i .i64 0, .i .i64 0]]⟩) (g1 : h.get 1 = some ⟨11, [[.s ⟨#[97]⟩, .i .i64 0, .i .i64 0, .b false, .b false, .sl 0 0 1 1, .i .i64 0, .i .i64 0, .i .i64 0, .i .i64 0, .i .i64 0]]⟩)
    (g2 : h.get 2 = some ⟨3, [[.i .i64 1, .i .i64 0, .i .i64 1]]⟩) (g3 : h.get 3 = some ⟨1, [[.sl 2 0 1 1]]⟩) (g4 : h.get 4 = some ⟨3, [[.sl 1 0 1 1, .ns, .sl 3 0 1 1]]⟩) (g5 : h.get 5 = some ⟨3, [[.sl 1 0 1 1, .sl 6 0 1 1, .sl 3 0 1 1]]⟩) (g6 : h.get 6 = some ⟨6, [[.i .i64 0, .i .i64 0, .b false, .i .i64 0, .i .u32 0, .i .i64 0]]⟩)
    (z : Cq tp f [.agg kD.enc] kH K) : Cq tp f [.agg [.sl 1 0 1 1, .sl 6 0 1 1, .sl 3 0 1 1]] h K := by
  have zz : ∀ {n : Nat} {v : V}, Plain0 v → Frz (fun i => i ≠ 4 ∧ i ≠ 5) h n v v := fun h0 => .z _ _ h0
  have fp : ∀ n, Frz (fun i => i ≠ 4 ∧ i ≠ 5) h n (.sl 1 0 1 1) (.fl 11 [kP.enc]) := fun n => frz_sl (by decide) g1 (.cons _ _ _ _ _ (zz (.s _)) (.cons _ _ _ _ _ (zz (.i _ _)) (.cons _ _ _ _ _ (zz (.i _ _)) (.cons _ _ _ _ _ (zz (.b _)) (.cons _ _ _ _ _ (zz (.b _)) (.cons _ _ _ _ _ (frz_sl (by decide) g0 (.cons _ _ _ _ _ (zz (.i _ _)) (.cons _ _ _ _ _ (zz (.i _ _)) (.nil _)))) (.cons _ _ _ _ _ (zz (.i _ _)) (.cons _ _ _ _ _ (zz (.i _ _)) (.cons _ _ _ _ _ (zz (.i _ _)) (.cons _ _ _ _ _ (zz (.i _ _)) (.cons _ _ _ _ _ (zz (.i _ _)) (.nil _))))))))))))
  have ft : ∀ n, Frz (fun i => i ≠ 4 ∧ i ≠ 5) h n (.sl 3 0 1 1) (.fl 1 [Tab.enc [⟨1, 0, 1⟩]]) := fun n => frz_sl (by decide) g3 (.cons _ _ _ _ _ (frz_sl (by decide) g2 (.cons _ _ _ _ _ (zz (.i _ _)) (.cons _ _ _ _ _ (zz (.i _ _)) (.cons _ _ _ _ _ (zz (.i _ _)) (.nil _))))) (.nil _))
  have fc : ∀ n, Frz (fun i => i ≠ 4 ∧ i ≠ 5) h n (.sl 6 0 1 1) (.fl 6 [Chan.enc ⟨0, 0, false, 0, 0, 0⟩]) := fun n => frz_sl (by decide) g6 (.cons _ _ _ _ _ (zz (.i _ _)) (.cons _ _ _ _ _ (zz (.i _ _)) (.cons _ _ _ _ _ (zz (.b _)) (.cons _ _ _ _ _ (zz (.i _ _)) (.cons _ _ _ _ _ (zz (.i _ _)) (.cons _ _ _ _ _ (zz (.i _ _)) (.nil _)))))))
  refine Cq_fixg (fun i => i ≠ 4 ∧ i ≠ 5) hn.symm hl.symm (fun _ i k hk => ?_) (.cons _ _ _ _ _ (.agg _ _ _ (.cons _ _ _ _ _ (fp _) (.cons _ _ _ _ _ (fc _) (.cons _ _ _ _ _ (ft _) (.nil _))))) (.nil _)) z
  unfold kH at hk
  simp only at hk
  by_cases h4 : i = 4
  · subst h4
    rw [if_pos rfl] at hk; cases hk
    exact ⟨by decide, by simp, _, g4, .cons _ _ _ _ _ (.cons _ _ _ _ _ (fp _) (.cons _ _ _ _ _ (.ns _ _) (.cons _ _ _ _ _ (ft _) (.nil _)))) (.nil _)⟩
  · rw [if_neg h4] at hk
    by_cases h5 : i = 5
    · subst h5
      rw [if_pos rfl] at hk; cases hk
      exact ⟨by decide, by simp, _, g5, .cons _ _ _ _ _ (.cons _ _ _ _ _ (fp _) (.cons _ _ _ _ _ (fc _) (.cons _ _ _ _ _ (ft _) (.nil _)))) (.nil _)⟩
    · rw [if_neg h5] at hk; cases hk
theorem known12_ev : Pf tp i_Q12 [] (.b true) := by
  have n1 : nameB ⟨#[49, 97]⟩ = false := by unfold nameB; decide
  have n2 : nameB ⟨#[97, 95, 49]⟩ = true := by unfold nameB; decide
  have e0 : ([V.ns, .ns, .ns] : List V) = [.ns, .ns, .ns] := rfl
  have hCC : decide (kC = kC) = true := by simp
  have hCD : decide (kC = kD) = false := by decide
  have g4 := kH_4
  have g5 := kH_5
  have hkn : kH.next = 7 := rfl
  have hkl : kH.lim = 0 := rfl
  have w1 := kC_where
  have w2 := kD_where
  have w3 := k0_where
  refine Pf_go fn_Q12 (by simp [t_Q12]) fun rp => ?_; unfold t_Q12; simp (disch := omega) only [go_sem, *]
  refine k_fix rfl rfl (by simp (disch := omega) only [go_sem, *]) (by simp (disch := omega) only [go_sem, *]) (by simp (disch := omega) only [go_sem, *]) (by simp (disch := omega) only [go_sem, *]) (by simp (disch := omega) only [go_sem, *]) (by simp (disch := omega) only [go_sem, *]) (by simp (disch := omega) only [go_sem, *]) ?_
  simp only [Config.enc] at g4 g5
  refine Pf.go (where_ev kD_nm) (by simp only [go_sem]) fun _ => ?_; simp (disch := omega) only [go_sem, *]
  refine Pf.go (where_ev kC_nm) (by simp only [go_sem]) fun _ => ?_; simp (disch := omega) only [go_sem, *]
  refine Pf.look (right_ev (C := ⟨[], [], []⟩) (fun p hp => by cases hp)) (.cons _ _ _ _ _ (.agg _ _ _ (.cons _ _ _ _ _ (.ns _ _) (.cons _ _ _ _ _ (.ns _ _) (.cons _ _ _ _ _ (.ns _ _) (.nil _))))) (.nil _)) rfl fun _ => ?_
  simp (disch := omega) only [go_sem, *]
  refine Pf.go (right_ev kC_nm) (by simp only [go_sem]) fun _ => ?_; simp (disch := omega) only [go_sem, *]
  refine Pf.go (cname_ev (s := ⟨#[49, 97]⟩) (by decide)) (by simp only [go_sem]) fun _ => ?_; simp (disch := omega) only [go_sem, *]
  refine Pf.go (cname_ev (s := ⟨#[97, 95, 49]⟩) (by decide)) (by simp only [go_sem]) fun _ => ?_; simp (disch := omega) only [go_sem, *]
  refine Pf.go (copy_ev (C := kC)) (by simp only [go_sem]) fun _ => ?_; simp (disch := omega) only [go_sem, *]
  refine Pf.go (csame_ev (a := kC) (b := kC)) (by simp only [go_sem]) fun _ => ?_; simp (disch := omega) only [go_sem, *]
  refine Pf.go (csame_ev (a := kC) (b := kD)) (by simp only [go_sem]) fun _ => ?_; simp (disch := omega) only [go_sem, *]
end Go.Ab.T
namespace Go.Ab.T
open Go Go.Ab
set_option maxHeartbeats 4000000
theorem Sl.frzg {b nx sz m : Nat} {h : AH} {v : V} {R R' : List (List V)} (s : Sl b h sz v R) (hm : m ≤ b) (hr : Frzr (m ≤ ·) h 0 R R') (hL : R.length < 4000000000) : Frz (m ≤ ·) h nx v (.fl sz R') := by
  rcases s with ⟨hv, rfl⟩ | ⟨i, el, cap, cs, rfl, hg, a1, a2, a3, a4, a5, a6⟩
  · cases hr
    rcases hv with rfl | rfl
    · exact .ns _ _
    · exact .e0 _ _
  · exact .sl _ _ _ _ _ _ cs _ (Nat.le_trans hm a5) hg (by omega) a3 (by simpa [frzLen] using hL) (by rw [a2]; exact hr)
theorem Frzr.app {P : Nat → Prop} {h : AH} {n : Nat} : ∀ {a a' b b' : List (List V)}, Frzr P h n a a' → Frzr P h n b b' → Frzr P h n (a ++ b) (a' ++ b')
  | _, _, _, _, .nil _, q => q
  | _, _, _, _, .cons _ _ _ _ _ p r, q => .cons _ _ _ _ _ p (Frzr.app r q)
structure Small (k : Nat) (C : Config) : Prop where
  p0 : 0 < C.parts.length
  p1 : C.parts.length ≤ 6
  c : C.chans.length ≤ k
  t : C.tables.length ≤ k
  n : ∀ t ∈ C.tables, t.length ≤ 700 + k
  pr : ∀ p ∈ C.parts, p.procs.length ≤ k
  nm : NmOk C
def ownO (vp vc vt vr : V) (A : List Part) (p : Part) (X : List Chan) (B : List (List Node)) : List (Nat × V × List (List V)) :=
  [(11, vp, A.map Part.enc ++ [p.encO vr]), (6, vc, X.map Chan.enc), (1, vt, B.map Tab.enc), (2, vr, p.procs.map Proc.enc)]
structure OD (h h' : AH) (vp vc vt vr : V) (A : List Part) (p : Part) (X : List Chan) (B : List (List Node)) : Prop where
  own : Owns (h.next + 2) h'.next h' (ownO vp vc vt vr A p X B)
  lim : h'.lim = h.lim
  low : ∀ i, i < h.next → h'.get i = h.get i
  box : h'.get h.next = some ⟨3, [[vp, vc, vt]]⟩
  res : h'.get (h.next + 1) = some ⟨3, [[.ns, .ns, .ns]]⟩
section
variable {h h' : AH} {vp vc vt vr : V} {A : List Part} {p : Part} {X : List Chan} {B : List (List Node)}
theorem fin0 {K : V → AH → Prop} {h3 : AH} {C : Config} (wf : Wf h) (x : Ext h h3) (fp : Frz (h.next ≤ ·) h3 h.next vp (.fl 11 (C.parts.map Part.enc))) (fc : Frz (h.next ≤ ·) h3 h.next vc (.fl 6 (C.chans.map Chan.enc))) (ft : Frz (h.next ≤ ·) h3 h.next vt (.fl 1 (C.tables.map Tab.enc))) (k : K (.agg C.enc) h) : ∃ P R H, Settle h h3 (.agg [vp, vc, vt]) P R H ∧ K R H :=
  ⟨_, _, _, Settle.ext wf x (.agg _ _ _ (.cons _ _ _ _ _ fp (.cons _ _ _ _ _ fc (.cons _ _ _ _ _ ft (.nil _))))), k⟩
theorem encO_frz {P : Nat → Prop} {h : AH} {n : Nat} (hv : Frz P h n vr (.fl 2 (p.procs.map Proc.enc))) : Frzs P h n (p.encO vr) p.enc :=
  .cons _ _ _ _ _ (.z _ _ (.s _)) (.cons _ _ _ _ _ (.z _ _ (.i _ _)) (.cons _ _ _ _ _ (.z _ _ (.i _ _)) (.cons _ _ _ _ _ (.z _ _ (.b _)) (.cons _ _ _ _ _ (.z _ _ (.b _)) (.cons _ _ _ _ _ hv (.cons _ _ _ _ _ (.z _ _ (.i _ _)) (.cons _ _ _ _ _ (.z _ _ (.i _ _)) (.cons _ _ _ _ _ (.z _ _ (.i _ _)) (.cons _ _ _ _ _ (.z _ _ (.i _ _)) (.cons _ _ _ _ _ (.z _ _ (.i _ _)) (.nil _)))))))))))
theorem own_fp {q : Nat} {h3 : AH} (o : Owns (h.next + 2) q h3 (ownO vp vc vt vr A p X B)) (hA : A.length ≤ 6) (hp : p.procs.length ≤ 1000) : Frz (h.next ≤ ·) h3 h.next vp (.fl 11 ((A ++ [p]).map Part.enc)) := by
  have s0 := o.sl 0 _ rfl
  have s3 := o.sl 3 _ rfl
  refine Sl.frzg s0 (by omega) ?_ (by simp; omega)
  rw [List.map_append]
  exact Frzr.app (Frzr.of_map (fun _ => rfl) A) (.cons _ _ _ _ _ (encO_frz (Sl.frzb (Sl.weak s3 (by omega)) (fun _ => rfl) (by omega))) (.nil _))
theorem own_fc {q : Nat} {h3 : AH} (o : Owns (h.next + 2) q h3 (ownO vp vc vt vr A p X B)) (hX : X.length ≤ 1000) : Frz (h.next ≤ ·) h3 h.next vc (.fl 6 (X.map Chan.enc)) := Sl.frzb (Sl.weak (o.sl 1 _ rfl) (by omega)) (fun _ => rfl) (by omega)
theorem own_ft {q : Nat} {h3 : AH} (o : Owns (h.next + 2) q h3 (ownO vp vc vt vr A p X B)) (hB : B.length ≤ 1000) : Frz (h.next ≤ ·) h3 h.next vt (.fl 1 (B.map Tab.enc)) := Sl.frzb (Sl.weak (o.sl 2 _ rfl) (by omega)) (fun _ => rfl) (by omega)
theorem OD.done {K : V → AH → Prop} (wf : Wf h) (a : OD h h' vp vc vt vr A p X B) (hA : A.length ≤ 6) (hp : p.procs.length ≤ 1000) (hX : X.length ≤ 1000) (hB : B.length ≤ 1000) (k : K (.agg (Config.enc ⟨A ++ [p], X, B⟩)) h) :
    ∃ P R H, Settle h (h'.put (h.next + 1) ⟨3, [[vp, vc, vt]]⟩) (.agg [vp, vc, vt]) P R H ∧ K R H := by
  have o := a.own.put (h.next + 1) ⟨3, [[vp, vc, vt]]⟩ (.inl (by omega))
  have hb := a.own.bq
  exact fin0 wf ⟨by rw [next_put]; omega, a.lim, fun i hi => by rw [get_put, gsel_ne (by omega)]; exact a.low i hi⟩ (own_fp o hA hp) (own_fc o hX) (own_ft o hB) k
theorem OD.mk2 {q : Nat} {h5 : AH} {vp' vc' vt' vr' : V} {A' : List Part} {p' : Part} {X' : List Chan} {B' : List (List Node)} (o : Owns (h.next + 2) q h5 (ownO vp' vc' vt' vr' A' p' X' B')) (hl : h5.lim = h.lim) (low : ∀ i, i < h.next → h5.get i = h.get i) (res : h5.get (h.next + 1) = some ⟨3, [[.ns, .ns, .ns]]⟩) :
    OD h (h5.put h.next ⟨3, [[vp', vc', vt']]⟩) vp' vc' vt' vr' A' p' X' B' := by
  have := o.bq; have := o.q2
  exact ⟨(o.put _ _ (.inl (by omega))).up (by rw [next_put]; omega) (Nat.le_refl _), hl, fun i hi => by rw [get_put, gsel_ne (by omega)]; exact low i hi, by rw [get_put, gsel_eq rfl], by rw [get_put, gsel_ne (by omega)]; exact res⟩
theorem OD.keep {h2 : AH} (a : OD h h' vp vc vt vr A p X B) (hn : h'.next ≤ h2.next) (hl : h2.lim = h'.lim) (g : ∀ i, i < h'.next → h2.get i = h'.get i) : Owns (h.next + 2) h'.next h2 (ownO vp vc vt vr A p X B) ∧ h2.lim = h.lim ∧ (∀ i, i < h.next → h2.get i = h.get i) ∧ h2.get h.next = some ⟨3, [[vp, vc, vt]]⟩ ∧ h2.get (h.next + 1) = some ⟨3, [[.ns, .ns, .ns]]⟩ := by
  have := a.own.bq
  exact ⟨a.own.keep hn g, hl.trans a.lim, fun i hi => (g i (by omega)).trans (a.low i hi), (g _ (by omega)).trans a.box, (g _ (by omega)).trans a.res⟩
theorem OD.part (a : OD h h' vp vc vt vr A p X B) (p' : Part) (hp : p'.procs = p.procs) : OD h (h'.put (idV vp) ⟨11, (csOf h' vp).set (elV vp + A.length) (p'.encO vr)⟩) vp vc vt vr A p' X B := by
  have o := a.own.set (i := 0) (n := A.length) (r := p'.encO vr) rfl (by simp)
  have hl := sl_own (a.own.sl 0 (11, vp, _) rfl)
  have hnil : nilV vp = false := by
    rcases a.own.sl 0 (11, vp, A.map Part.enc ++ [p.encO vr]) rfl with ⟨_, hR⟩ | ⟨_, _, _, _, hv, _⟩
    · simp at hR
    · dsimp only at hv; rw [hv]; rfl
  have hl : h.next + 2 ≤ idV vp := by
    rcases hl with q | q
    · dsimp only at q; rw [hnil] at q; cases q
    · exact q
  refine ⟨?_, a.lim, fun i hi => by rw [get_put, gsel_ne (by omega)]; exact a.low i hi, by rw [get_put, gsel_ne (by omega)]; exact a.box, by rw [get_put, gsel_ne (by omega)]; exact a.res⟩
  have e : ownO vp vc vt vr A p' X B = (ownO vp vc vt vr A p X B).set 0 (11, vp, (A.map Part.enc ++ [p.encO vr]).set A.length (p'.encO vr)) := by
    simp [ownO, hp]
  rw [e]
  exact o
structure ODF (h h' : AH) (vp vc vt vr : V) (A : List Part) (p : Part) : Prop where
  len : lenV vp = some (.i .i64 ((A.length + 1 : Nat) : Int))
  get : h'.get (idV vp) = some ⟨11, csOf h' vp⟩
  at_ : ∀ (k : IntKind) (j : Int) (cs : List (List V)), 0 ≤ j → j < ((A.length + 1 : Nat) : Int) → iad2 (some ⟨11, cs⟩) 11 vp (.i k j) = some (.p (idV vp) (elV vp + j.toNat) 0)
  row : (csOf h' vp)[elV vp + A.length]? = some (p.encO vr)
  lo : h.next + 2 ≤ idV vp
  lt : idV vp < h'.next
  rl : elV vp + A.length < (csOf h' vp).length
  c0 : vp.isCell = true
  c1 : vp.cells = [vp]
  c2 : vc.isCell = true
  c3 : vc.cells = [vc]
  c4 : vt.isCell = true
  c5 : vt.cells = [vt]
  c6 : vr.isCell = true
  c7 : vr.cells = [vr]
theorem OD.facts (a : OD h h' vp vc vt vr A p X B) : ODF h h' vp vc vt vr A p := by
  have s0 := a.own.sl 0 (11, vp, A.map Part.enc ++ [p.encO vr]) rfl
  dsimp only at s0
  have f : SlF (fun x => x) (h.next + 2) h' 11 vp (A.map Part.enc ++ [p.encO vr]) := Sl.facts (enc := fun x => x) (by rw [List.map_id']; exact s0)
  have hl : (A.map Part.enc ++ [p.encO vr]).length = A.length + 1 := by simp
  obtain ⟨len, _, lt, lo, get, at_, row, _, _⟩ := f
  rw [hl] at len lt lo get at_ row
  have hr := row A.length (by omega)
  have hn : nth (A.map Part.enc ++ [p.encO vr]) A.length = p.encO vr := by
    rw [nth_app, if_neg (by simp), List.length_map, Nat.sub_self, nth_cons0]
  rw [hn] at hr
  obtain ⟨c0, c1⟩ := sl_cell s0
  obtain ⟨c2, c3⟩ := sl_cell (a.own.sl 1 (6, vc, _) rfl)
  obtain ⟨c4, c5⟩ := sl_cell (a.own.sl 2 (1, vt, _) rfl)
  obtain ⟨c6, c7⟩ := sl_cell (a.own.sl 3 (2, vr, _) rfl)
  exact ⟨len, get (by omega), at_, hr, lo (by omega), lt (by omega), Sl.rowlt s0 (by simp), c0, c1, c2, c3, c4, c5, c6, c7⟩
theorem OD.chan {h1 h5 : AH} {w : V} {c : Chan} (a : OD h h' vp vc vt vr A p X B) (x : Ext h' h1) (s : Sl (h.next + 2) h5 6 w (X.map Chan.enc ++ [c.enc])) (g : Grown (h.next + 2) h1 vc w h5) : OD h (h5.put h.next ⟨3, [[vp, w, vt]]⟩) vp w vt vr A p (X ++ [c]) B := by
  have lo := a.own.low (i := 1) rfl x g
  have o := a.own.grow (i := 1) rfl x g s
  have hb := a.own.bq
  have e : ownO vp w vt vr A p (X ++ [c]) B = (ownO vp vc vt vr A p X B).set 1 (6, w, X.map Chan.enc ++ [c.enc]) := by simp [ownO]
  exact OD.mk2 (q := h5.next) (by rw [e]; exact o) (g.lim.trans (x.lim.trans a.lim)) (fun i hi => (lo i (by omega)).trans (a.low i hi)) ((lo _ (by omega)).trans a.res)
theorem OD.procs {h5 : AH} {q : Nat} {v : V} {L : List Proc} (a : OD h h' vp vc vt vr A p X B) (hq : h'.next ≤ q) (o : Owns (h.next + 2) q h5 ((ownO vp vc vt vr A p X B).set 3 (2, v, L.map Proc.enc))) (hl : h5.lim = h'.lim) (g : ∀ i, i < h.next + 2 → h5.get i = h'.get i) (hcs : csOf h5 vp = csOf h' vp) :
    OD h (h5.put (idV vp) ⟨11, (csOf h' vp).set (elV vp + A.length) ({ p with procs := L }.encO v)⟩) vp vc vt v A { p with procs := L } X B := by
  have f := a.facts
  have f1 := f.lo
  have q2 := o.q2
  have os := o.set (i := 0) (a := (11, vp, A.map Part.enc ++ [p.encO vr])) (n := A.length) (r := { p with procs := L }.encO v) rfl (by simp)
  dsimp only at os
  rw [hcs] at os
  have e : ownO vp vc vt v A { p with procs := L } X B = ((ownO vp vc vt vr A p X B).set 3 (2, v, L.map Proc.enc)).set 0 (11, vp, (A.map Part.enc ++ [p.encO vr]).set A.length ({ p with procs := L }.encO v)) := by simp [ownO]
  refine ⟨by rw [e]; exact os.up q2 (Nat.le_refl _), hl.trans a.lim, fun i hi => by rw [get_put, gsel_ne (by omega), g i (by omega)]; exact a.low i hi, by rw [get_put, gsel_ne (by omega), g _ (by omega)]; exact a.box, by rw [get_put, gsel_ne (by omega), g _ (by omega)]; exact a.res⟩
theorem Small.np {k : Nat} (sm : Small k ⟨A ++ [p], X, B⟩) : p.name.size < 4000000000 := sm.nm p (by simp)
theorem Pf.goE {tp : TP} {f : Nat} {args : List V} {R : V} {h : AH} {ops : List TO} {env : Env} {d : Option Nat} {K2 : Env → AH → Prop} (pf : Pf tp f args R) (hp : purs args = true) (k : ∀ e : Env, (∀ t, e t = env t) → ZOps tp ops (e.set d R) h K2) : Cq tp f args h (fun v h => ZOps tp ops (env.set d v) h K2) :=
  Pf.go pf hp fun _ => k env fun _ => rfl
end
end Go.Ab.T
namespace Go.Ab.T
open Go Go.Ab
set_option maxHeartbeats 4000000
attribute [-go_sem] bin_and
section
variable {h h' : AH} {vp vc vt vr : V} {A : List Part} {p : Part} {X : List Chan} {B : List (List Node)}
end
end Go.Ab.T
namespace Go.Ab.T
open Go Go.Ab
set_option maxHeartbeats 8000000
attribute [-go_sem] bin_and
end Go.Ab.T
namespace Go.Ab.T
open Go Go.Ab
set_option maxHeartbeats 4000000
attribute [go_sem] bin_and
end Go.Ab.T
namespace Go.Ab.T
open Go Go.Ab
set_option maxHeartbeats 4000000
theorem Owns.app {b q q2 : Nat} {h : AH} {l1 l2 : List (Nat × V × List (List V))} (o1 : Owns b q h l1) (o2 : Owns q q2 h l2) : Owns b q2 h (l1 ++ l2) := by
  have x1 := o1.bq; have x2 := o2.bq
  have key : ∀ (i : Nat) (a : Nat × V × List (List V)), (l1 ++ l2)[i]? = some a → (i < l1.length ∧ l1[i]? = some a) ∨ (l1.length ≤ i ∧ l2[i - l1.length]? = some a) := fun i a e => by
    by_cases hi : i < l1.length
    · rw [List.getElem?_append_left hi] at e; exact .inl ⟨hi, e⟩
    · rw [List.getElem?_append_right (by omega)] at e; exact .inr ⟨by omega, e⟩
  refine ⟨by omega, o2.q2, fun i a e => ?_, fun i a e => ?_, fun i j a c hij ea ec => ?_⟩
  · rcases key i a e with ⟨_, e⟩ | ⟨_, e⟩
    · exact o1.sl _ _ e
    · exact Sl.weak (o2.sl _ _ e) x1
  · rcases key i a e with ⟨_, e⟩ | ⟨_, e⟩
    · exact (o1.lt _ _ e).imp (fun x => x) (fun x => by omega)
    · exact o2.lt _ _ e
  · rcases key i a ea with ⟨_, ea⟩ | ⟨hi, ea⟩ <;> rcases key j c ec with ⟨_, ec⟩ | ⟨hj, ec⟩
    · exact o1.dj _ _ _ _ hij ea ec
    · rcases o1.lt _ _ ea with k | k
      · exact .inl k
      · rcases sl_own (o2.sl _ _ ec) with k2 | k2
        · exact .inr (.inl k2)
        · exact .inr (.inr (by omega))
    · rcases o1.lt _ _ ec with k | k
      · exact .inr (.inl k)
      · rcases sl_own (o2.sl _ _ ea) with k2 | k2
        · exact .inl k2
        · exact .inr (.inr (by omega))
    · exact o2.dj _ _ _ _ (by omega) ea ec
theorem Owns.down {b b' q : Nat} {h : AH} {l : List (Nat × V × List (List V))} (o : Owns b q h l) (hb : b' ≤ b) : Owns b' q h l :=
  ⟨Nat.le_trans hb o.bq, o.q2, fun i a e => Sl.weak (o.sl i a e) hb, o.lt, o.dj⟩
theorem Made.lens {C : Config} (m : Made C) : 1 ≤ C.parts.length ∧ 1 ≤ C.tables.length := by
  obtain ⟨⟨h1, h2, h3, h4, h5⟩, _⟩ := where_iff.1 m.wh
  exact ⟨h1, h4⟩
end Go.Ab.T
namespace Go.Ab.T
open Go Go.Ab
set_option maxHeartbeats 4000000
/-! What is wrong first. -/
theorem whParts_skip {C : Config} (i : Nat) : ∀ (m : Nat), i + m ≤ C.parts.length → (∀ j, i ≤ j → j < i + m → GoodP C.parts j) → whParts C i (C.parts.drop i) = whParts C (i + m) (C.parts.drop (i + m))
  | 0, _, _ => rfl
  | m + 1, hl, hg => by
    rw [whParts_skip i m (by omega) (fun j h1 h2 => hg j h1 (by omega)), drop_nth (L := C.parts) (i := i + m) (by omega), whParts]
    have g := hg (i + m) (by omega) (by omega)
    rw [if_neg (by rw [g.1, g.2.1]; simp), if_neg (by rw [g.2.2]; simp)]
    rfl
theorem whChans_skip {C : Config} {l2 : List Chan} : ∀ (l1 : List Chan) (i : Nat), (∀ x ∈ l1, chanB C.parts.length x = true) → whChans C i (l1 ++ l2) = whChans C (i + l1.length) l2
  | [], i, _ => rfl
  | x :: l, i, h => by
    rw [List.cons_append, whChans, if_neg (by rw [h x (List.mem_cons_self ..)]; simp), whChans_skip l (i + 1) (fun y hy => h y (List.mem_cons_of_mem _ hy))]
    congr 1
    simp; omega
theorem goodP_set {P : List Part} {k j : Nat} {p : Part} (h : j < k) : GoodP (P.set k p) j ↔ GoodP P j := by
  unfold GoodP
  have e1 : nth (P.set k p) j = nth P j := by
    unfold nth List.getD
    rw [List.getElem?_set_ne (by omega)]
  rw [e1, List.take_set_of_le (by omega)]
section
variable {P : List Part} {X X' : List Chan} {T T' : List (List Node)}
theorem first_1 (m : Made ⟨P, X, T⟩) (hT : 0 < T.length) : whereR ⟨P, X, T.set 0 []⟩ = (12, 0) := by
  obtain ⟨⟨a1, a2, a3, a4, a5⟩, hp, hc, ht⟩ := where_iff.1 m.wh
  dsimp only at a1 a2 a3 a4 a5 hp hc ht
  unfold whereR
  rw [if_neg (by simp only [List.length_set]; omega)]
  have e := whParts_skip (C := ⟨P, X, T.set 0 []⟩) 0 P.length (by simp) (fun j _ h => hp j (by omega))
  rw [List.drop_zero, Nat.zero_add] at e
  rw [e]
  have ed : List.drop P.length (⟨P, X, T.set 0 []⟩ : Config).parts = [] := List.drop_length
  rw [ed, whParts]
  have e2 := whChans_skip (C := ⟨P, X, T.set 0 []⟩) (l2 := []) X 0 hc
  rw [List.append_nil] at e2
  rw [e2, whChans]
  match T, hT with
  | t :: l, _ =>
    have hr : tableR ⟨P, X, (t :: l).set 0 []⟩ [] = 12 := by
      have r0 : rightR [] = 12 := by decide
      unfold tableR
      rw [ofR_bad (by rw [r0]; decide), r0]
      rfl
    show whTabs ⟨P, X, (t :: l).set 0 []⟩ 0 ([] :: l) = (12, 0)
    rw [whTabs, hr]
    rfl
theorem first_2 (m : Made ⟨P, X, T⟩) (hX : X.length ≤ 7) (hT : T'.length = T.length) : whereR ⟨P, X ++ [⟨-1, 0, false, 0, 0, 0⟩], T'⟩ = (17, (X.length : Int)) := by
  obtain ⟨⟨a1, a2, a3, a4, a5⟩, hp, hc, ht⟩ := where_iff.1 m.wh
  dsimp only at a1 a2 a3 a4 a5 hp hc ht
  unfold whereR
  rw [if_neg (by simp only [List.length_append, List.length_cons, List.length_nil]; omega)]
  have e := whParts_skip (C := ⟨P, X ++ [⟨-1, 0, false, 0, 0, 0⟩], T'⟩) 0 P.length (by simp) (fun j _ h => hp j (by omega))
  rw [List.drop_zero, Nat.zero_add] at e
  rw [e]
  have ed : List.drop P.length (⟨P, X ++ [⟨-1, 0, false, 0, 0, 0⟩], T'⟩ : Config).parts = [] := List.drop_length
  rw [ed, whParts]
  have e2 := whChans_skip (C := ⟨P, X ++ [⟨-1, 0, false, 0, 0, 0⟩], T'⟩) (l2 := [⟨-1, 0, false, 0, 0, 0⟩]) X 0 hc
  rw [e2, whChans]
  have hb : chanB (P.length : Int) ⟨-1, 0, false, 0, 0, 0⟩ = false := by unfold chanB; simp
  rw [if_pos hb, Nat.zero_add]
theorem first_3 (m : Made ⟨P, X, T⟩) {k : Nat} (hk : k < P.length) (hX : X'.length ≤ 8) (hT : T'.length = T.length) : whereR ⟨P.set k { nth P k with procs := [] }, X', T'⟩ = (16, (k : Int)) := by
  obtain ⟨⟨a1, a2, a3, a4, a5⟩, hp, hc, ht⟩ := where_iff.1 m.wh
  dsimp only at a1 a2 a3 a4 a5 hp hc ht
  unfold whereR
  rw [if_neg (by simp only [List.length_set]; omega)]
  have e := whParts_skip (C := ⟨P.set k { nth P k with procs := [] }, X', T'⟩) 0 k (by simp; omega) (fun j _ h => (goodP_set (by omega)).2 (hp j (by omega)))
  rw [List.drop_zero, Nat.zero_add] at e
  rw [e, drop_nth (L := P.set k { nth P k with procs := [] }) (i := k) (by simp; omega), whParts]
  have en : nth (P.set k { nth P k with procs := [] }) k = { nth P k with procs := [] } := by
    rw [nth_eq (by simp; omega), List.getElem_set_self]
  have g := hp k hk
  rw [en]
  rw [if_neg ?_, if_pos ?_]
  · have : procsB [] = false := by unfold procsB; decide
    unfold partB; rw [this]; rfl
  · show ¬ (nameB (nth P k).name = false ∨ ((P.set k { nth P k with procs := [] }).take k).any (fun q => decide (q.name = (nth P k).name)) = true)
    rw [List.take_set_of_le (Nat.le_refl _), g.1, g.2.1]; simp
theorem first_4 (m : Made ⟨P, X, T⟩) {k : Nat} (hk : k < P.length) (hX : X'.length ≤ 8) (hT : T'.length = T.length) : whereR ⟨P.set k { nth P k with procs := [], name := ⟨#[]⟩ }, X', T'⟩ = (15, (k : Int)) := by
  obtain ⟨⟨a1, a2, a3, a4, a5⟩, hp, hc, ht⟩ := where_iff.1 m.wh
  dsimp only at a1 a2 a3 a4 a5 hp hc ht
  unfold whereR
  rw [if_neg (by simp only [List.length_set]; omega)]
  have e := whParts_skip (C := ⟨P.set k { nth P k with procs := [], name := ⟨#[]⟩ }, X', T'⟩) 0 k (by simp; omega) (fun j _ h => (goodP_set (by omega)).2 (hp j (by omega)))
  rw [List.drop_zero, Nat.zero_add] at e
  rw [e, drop_nth (L := P.set k { nth P k with procs := [], name := ⟨#[]⟩ }) (i := k) (by simp; omega), whParts]
  have en : nth (P.set k { nth P k with procs := [], name := ⟨#[]⟩ }) k = { nth P k with procs := [], name := ⟨#[]⟩ } := by
    rw [nth_eq (by simp; omega), List.getElem_set_self]
  rw [en]
  have : nameB ⟨#[]⟩ = false := by unfold nameB; decide
  rw [if_pos (.inl this)]
end
theorem nm_set {P : List Part} {X : List Chan} {T : List (List Node)} {k : Nat} {p : Part} (h : ∀ q ∈ P, q.name.size < 4000000000) (hp : p.name.size < 4000000000) : NmOk ⟨P.set k p, X, T⟩ := fun q hq => by
  rcases List.mem_or_eq_of_mem_set hq with h1 | h1
  · exact h q h1
  · rw [h1]; exact hp
theorem Sl.frzT {b nx sz : Nat} {h : AH} {v : V} {R R' : List (List V)} (s : Sl b h sz v R) (hr : Frzr (fun _ => True) h 0 R R') (hL : R.length < 4000000000) : Frz (fun _ => True) h nx v (.fl sz R') := by
  rcases s with ⟨hv, rfl⟩ | ⟨i, el, cap, cs, rfl, hg, a1, a2, a3, a4, a5, a6⟩
  · cases hr
    rcases hv with rfl | rfl
    · exact .ns _ _
    · exact .e0 _ _
  · exact .sl _ _ _ _ _ _ cs _ trivial hg (by omega) a3 (by simpa [frzLen] using hL) (by rw [a2]; exact hr)
theorem Frzr.set {P : Nat → Prop} {h : AH} {n : Nat} {r r' : List V} (q : Frzs P h n r r') : ∀ {a a' : List (List V)} (k : Nat), Frzr P h n a a' → Frzr P h n (a.set k r) (a'.set k r')
  | _, _, _, .nil _ => .nil _
  | _, _, 0, .cons _ _ _ _ _ _ t => .cons _ _ _ _ _ q t
  | _, _, k + 1, .cons _ _ _ _ _ p t => .cons _ _ _ _ _ p (Frzr.set q k t)
theorem Owns.putne {b q i : Nat} {h : AH} {l : List (Nat × V × List (List V))} {k : Blk} (o : Owns b q h l) (hne : ∀ (j : Nat) (a : Nat × V × List (List V)), l[j]? = some a → nilV a.2.1 = true ∨ idV a.2.1 ≠ i) : Owns b q (h.put i k) l :=
  ⟨o.bq, o.q2, fun j a e => sl_put (o.sl j a e) _ _ ((hne j a e).imp (fun x => x) (fun x => Ne.symm x)), o.lt, o.dj⟩
theorem configFirst_ev {L : List Int} {which : Int} (hL : L.length < 4000000000) : Pf tp i_Q3 [.fl 1 (L.map encI), .i .i64 which] (.b true) := by
  refine Pf_go fn_Q3 (by simp [t_Q3]) fun rp => ?_; unfold t_Q3; simp (disch := omega) only [go_sem, *]
  refine config_ev (id := 0) (k := 0) (L := L) ?_ (by omega) hL ?_ ?_
  · simp only [tapeB]
    simp (disch := omega) only [go_sem, *]
    all_goals rfl
  · simp (disch := omega) only [go_sem, *]
  intro C j hj hC
  obtain ⟨P, X, T⟩ := C
  have hlens := hC.lens
  have hch := hC.ch
  have htb := hC.tb
  have hpt := hC.pt
  have hnm := hC.nm
  dsimp only at hlens hch htb hpt
  simp (disch := omega) only [go_sem, *]
  refine copyA (C := ⟨P, X, T⟩) false (by simp only; omega) (by simp only; omega) ?_
  intro vp vc vt o1 o2 h1 ow hl low
  have ow1 : Owns 4 h1.next h1 (ownL false vp vc vt o1 o2 P X T) := ow.down (by simp only [next_put, next_alloc, emp_next]; omega)
  have l1 : h1.lim = 0 := hl
  clear ow hl low
  obtain ⟨c0, c1⟩ := sl_cell (ow1.sl 0 (11, vp, _) rfl)
  obtain ⟨c2, c3⟩ := sl_cell (ow1.sl 1 (6, vc, _) rfl)
  obtain ⟨c4, c5⟩ := sl_cell (ow1.sl 2 (1, vt, _) rfl)
  obtain ⟨plen, _, plt, plo, pget, pat, prow, _, _⟩ := Sl.facts (enc := Part.enc) (L := P) (by have := ow1.sl 0 (11, vp, rowsP false o1 P) rfl; rw [rowsP_no] at this; exact this)
  obtain ⟨tlen, _, tlt, tlo, tget, tat, trow, _, _⟩ := Sl.facts (enc := Tab.enc) (L := T) (by have := ow1.sl 2 (1, vt, rowsT false o2 T) rfl; rw [rowsT_no] at this; exact this)
  dsimp only at c0 c1 c2 c3 c4 c5 plen plt plo pget pat prow tlen tlt tlo tget tat trow
  have n1 : 4 ≤ h1.next := ow1.bq
  have hP0 : ¬ (P.length : Int) = 0 := by omega
  have hT0 : ¬ (T.length : Int) = 0 := by omega
  have plt := plt (by omega)
  have plo := plo (by omega)
  have pget := pget (by omega)
  have tlt := tlt (by omega)
  have tlo := tlo (by omega)
  have tget := tget (by omega)
  have ob : Owns 4 h1.next ((h1.alloc ⟨3, [[.ns, .ns, .ns]]⟩).put h1.next ⟨3, [[vp, vc, vt]]⟩) (ownL false vp vc vt o1 o2 P X T) := ow1.keep (by simp only [next_put, next_alloc]; omega) (fun i hi => by rw [get_put, gsel_ne (by omega), get_alloc, gsel_ne (by omega)])
  have bx : ((h1.alloc ⟨3, [[.ns, .ns, .ns]]⟩).put h1.next ⟨3, [[vp, vc, vt]]⟩).get h1.next = some ⟨3, [[vp, vc, vt]]⟩ := by rw [get_put, gsel_eq rfl]
  have nb : ((h1.alloc ⟨3, [[.ns, .ns, .ns]]⟩).put h1.next ⟨3, [[vp, vc, vt]]⟩).next = h1.next + 1 := rfl
  have lb : ((h1.alloc ⟨3, [[.ns, .ns, .ns]]⟩).put h1.next ⟨3, [[vp, vc, vt]]⟩).lim = 0 := l1
  have kb : ∀ i, i < h1.next → ((h1.alloc ⟨3, [[.ns, .ns, .ns]]⟩).put h1.next ⟨3, [[vp, vc, vt]]⟩).get i = h1.get i := fun i hi => by rw [get_put, gsel_ne (by omega), get_alloc, gsel_ne (by omega)]
  have ecp : csOf ((h1.alloc ⟨3, [[.ns, .ns, .ns]]⟩).put h1.next ⟨3, [[vp, vc, vt]]⟩) vp = csOf h1 vp := by unfold csOf; rw [kb _ plt]
  have ect : csOf ((h1.alloc ⟨3, [[.ns, .ns, .ns]]⟩).put h1.next ⟨3, [[vp, vc, vt]]⟩) vt = csOf h1 vt := by unfold csOf; rw [kb _ tlt]
  have pget2 := (kb _ plt).trans pget
  have tget2 := (kb _ tlt).trans tget
  simp (disch := omega) only [go_sem, *]
  generalize (h1.alloc ⟨3, [[.ns, .ns, .ns]]⟩).put h1.next ⟨3, [[vp, vc, vt]]⟩ = hb at *
  clear kb pget tget ow1 l1
  rw [← ecp] at pget2 prow
  rw [← ect] at tget2 trow
  clear ecp ect
  refine Pf.goE (within_ev (n := which) (lo := 0) (hi := (P.length : Int) - 1) (by omega) (by omega) (by omega)) (by simp only [go_sem]) ?_
  have wb := within_bd (n := which) (lo := 0) (hi := (P.length : Int) - 1) (by omega)
  generalize within which 0 ((P.length : Int) - 1) = w at wb ⊢
  obtain ⟨k, rfl⟩ : ∃ k : Nat, w = k := ⟨w.toNat, by omega⟩
  have hk : k < P.length := by omega
  clear wb
  intro e he
  have e5 : e 5 = .p h1.next 0 0 := (he 5).trans (by simp (disch := omega) only [go_sem, *])
  clear he
  have rlt := Sl.rowlt (j := 0) (ob.sl 2 (1, vt, rowsT false o2 T) rfl) (by simp only [rowsT_len]; omega)
  have rlp := Sl.rowlt (j := k) (ob.sl 0 (11, vp, rowsP false o1 P) rfl) (by simp only [rowsP_len]; omega)
  have tr0 := trow 0 (by omega)
  have pr0 := prow k hk
  dsimp only at rlt rlp
  simp only [Nat.add_zero, Tab.enc] at rlt tr0
  clear trow prow
  simp (disch := omega) only [go_sem, *]
  have hnp : nilV vp = false := by
    rcases ob.sl 0 (11, vp, rowsP false o1 P) rfl with ⟨_, hR⟩ | ⟨_, _, _, _, hv, _⟩
    · have := congrArg List.length hR; dsimp only at this; rw [rowsP_len] at this; simp at this; rw [this] at hP0; simp at hP0
    · dsimp only at hv; rw [hv]; rfl
  have hnt : nilV vt = false := by
    rcases ob.sl 2 (1, vt, rowsT false o2 T) rfl with ⟨_, hR⟩ | ⟨_, _, _, _, hv, _⟩
    · have := congrArg List.length hR; dsimp only at this; rw [rowsT_len] at this; simp at this; rw [this] at hT0; simp at hT0
    · dsimp only at hv; rw [hv]; rfl
  have hpt2 : idV vp ≠ idV vt := by
    rcases ob.dj 0 2 (11, vp, rowsP false o1 P) (1, vt, rowsT false o2 T) (by decide) rfl rfl with d | d | d
    · dsimp only at d; rw [hnp] at d; cases d
    · dsimp only at d; rw [hnt] at d; cases d
    · exact d
  have hcp : nilV vc = true ∨ idV vp ≠ idV vc := by
    rcases ob.dj 0 1 (11, vp, rowsP false o1 P) (6, vc, X.map Chan.enc) (by decide) rfl rfl with d | d | d
    · dsimp only at d; rw [hnp] at d; cases d
    · exact .inl d
    · exact .inr d
  have hvc : nilV vc = true ∨ idV vc < h1.next := ob.lt 1 (6, vc, X.map Chan.enc) rfl
  have oc := ob.set (i := 2) (a := (1, vt, rowsT false o2 T)) (n := 0) (r := [.ns]) rfl (by simp only [rowsT_len]; omega)
  dsimp only at oc
  have bx2 : (hb.put (idV vt) ⟨1, (csOf hb vt).set (elV vt) [.ns]⟩).get h1.next = some ⟨3, [[vp, vc, vt]]⟩ := by rw [get_put, gsel_ne (by omega)]; exact bx
  have pg2 : (hb.put (idV vt) ⟨1, (csOf hb vt).set (elV vt) [.ns]⟩).get (idV vp) = some ⟨11, csOf hb vp⟩ := by rw [get_put, gsel_ne hpt2]; exact pget2
  have nn2 : (hb.put (idV vt) ⟨1, (csOf hb vt).set (elV vt) [.ns]⟩).next = h1.next + 1 := nb
  have ll2 : (hb.put (idV vt) ⟨1, (csOf hb vt).set (elV vt) [.ns]⟩).lim = 0 := lb
  rw [Nat.add_zero] at oc
  generalize hb.put (idV vt) ⟨1, (csOf hb vt).set (elV vt) [.ns]⟩ = h2 at oc bx2 pg2 nn2 ll2 ⊢
  have s0 : Sl 4 h2 11 vp (P.map Part.enc) := by have := oc.sl 0 (11, vp, rowsP false o1 P) rfl; rw [rowsP_no] at this; exact this
  have s1 : Sl 4 h2 6 vc (X.map Chan.enc) := oc.sl 1 (6, vc, _) rfl
  have s2 : Sl 4 h2 1 vt ((T.map Tab.enc).set 0 [.ns]) := by have := oc.sl 2 (1, vt, (rowsT false o2 T).set 0 [.ns]) rfl; rw [rowsT_no] at this; exact this
  have fT : ∀ (h : AH) (nx : Nat), Frzr (fun _ => True) h nx ((T.map Tab.enc).set 0 [.ns]) ((T.set 0 []).map Tab.enc) := fun h nx => by
    rw [List.map_set]
    exact Frzr.set (.cons _ _ _ _ _ (.ns _ _) (.nil _)) 0 (Frzr.of_map (fun _ => rfl) T)
  have hw1 := first_1 hC (by omega)
  clear bx pget2 nb lb tget2 ob
  refine Pf.look (where_ev (C := ⟨P, X, T.set 0 []⟩) hnm) (.cons _ _ _ _ _ (.agg _ _ _ (.cons _ _ _ _ _ (s0.froze (fun _ => rfl) trivial (by omega)) (.cons _ _ _ _ _ (s1.froze (fun _ => rfl) trivial (by omega)) (.cons _ _ _ _ _ (Sl.frzT s2 (fT _ _) (by simp; omega)) (.nil _))))) (.nil _)) rfl fun _ => ?_
  simp (disch := omega) only [go_sem, *]
  refine app_rule (N := [(⟨-1, 0, false, 0, 0, 0⟩ : Chan).enc]) ((oc.sl 1 (6, vc, X.map Chan.enc) rfl).alloc _) (by first | omega | (simp (disch := omega) only [go_sem, *] <;> omega)) (by first | omega | (simp (disch := omega) only [go_sem, *] <;> omega)) (by simp; omega) ?_
  intro w h3 s3 g3
  have g3 : Grown 4 (h2.alloc ⟨6, [(⟨-1, 0, false, 0, 0, 0⟩ : Chan).enc]⟩) vc w h3 := g3
  have x3 := (Ext.refl h2).alloc ⟨6, [(⟨-1, 0, false, 0, 0, 0⟩ : Chan).enc]⟩
  have od := oc.grow (i := 1) (a := (6, vc, X.map Chan.enc)) rfl x3 g3 s3
  have n3 := g3.next
  rw [next_alloc] at n3
  have bx3 : h3.get h1.next = some ⟨3, [[vp, vc, vt]]⟩ := by
    rw [g3.get h1.next (by rw [next_alloc]; omega) (hvc.imp (fun x => x) (fun x => by omega)), get_alloc, gsel_ne (by omega)]; exact bx2
  have pg3 : h3.get (idV vp) = some ⟨11, csOf hb vp⟩ := by
    rw [g3.get (idV vp) (by rw [next_alloc]; omega) hcp, get_alloc, gsel_ne (by omega)]; exact pg2
  have ll3 : h3.lim = 0 := g3.lim.trans ll2
  have w1 := g3.cell
  have w2 := g3.cells
  have wne : nilV w = true ∨ idV w ≠ h1.next := by
    rcases g3.own with q | ⟨q1, q2⟩ | q
    · exact .inl q
    · rcases hvc with q3 | q3
      · rw [q3] at q1; cases q1
      · exact .inr (by omega)
    · rw [next_alloc] at q; exact .inr (by omega)
  have oe : Owns 4 h3.next (h3.put h1.next ⟨3, [[vp, w, vt]]⟩) [(11, vp, rowsP false o1 P), (6, w, (X ++ [(⟨-1, 0, false, 0, 0, 0⟩ : Chan)]).map Chan.enc), (1, vt, (rowsT false o2 T).set 0 [.ns]), (2, o1, r1 false P), (3, o2, r2 false T)] := by
    have e : [(11, vp, rowsP false o1 P), (6, w, (X ++ [(⟨-1, 0, false, 0, 0, 0⟩ : Chan)]).map Chan.enc), (1, vt, (rowsT false o2 T).set 0 [.ns]), (2, o1, r1 false P), (3, o2, r2 false T)] = ((ownL false vp vc vt o1 o2 P X T).set 2 (1, vt, (rowsT false o2 T).set 0 [.ns])).set 1 (6, w, X.map Chan.enc ++ [(⟨-1, 0, false, 0, 0, 0⟩ : Chan).enc]) := by simp [ownL]
    rw [e]
    refine od.putne (fun i a hi => ?_)
    by_cases h1i : i = 1
    · subst h1i
      have : a = (6, w, X.map Chan.enc ++ [(⟨-1, 0, false, 0, 0, 0⟩ : Chan).enc]) := by simpa [ownL] using hi.symm
      rw [this]; exact wne
    · rw [List.getElem?_set_ne (Ne.symm h1i)] at hi
      exact (oc.lt i a hi).imp (fun x => x) (fun x => by omega)
  have bx4 : (h3.put h1.next ⟨3, [[vp, w, vt]]⟩).get h1.next = some ⟨3, [[vp, w, vt]]⟩ := by rw [get_put, gsel_eq rfl]
  have pg4 : (h3.put h1.next ⟨3, [[vp, w, vt]]⟩).get (idV vp) = some ⟨11, csOf hb vp⟩ := by rw [get_put, gsel_ne (by omega)]; exact pg3
  have ll4 : (h3.put h1.next ⟨3, [[vp, w, vt]]⟩).lim = 0 := ll3
  clear s0 s1 s2 s3 g3 x3 od pg3 pg2 bx2 oc
  simp (disch := omega) only [go_sem, *]
  generalize h3.put h1.next ⟨3, [[vp, w, vt]]⟩ = h4 at oe bx4 pg4 ll4 ⊢
  clear bx3 ll3
  have hX4 : (X ++ [(⟨-1, 0, false, 0, 0, 0⟩ : Chan)]).length = X.length + 1 := by simp
  have s0 : Sl 4 h4 11 vp (P.map Part.enc) := by have := oe.sl 0 (11, vp, rowsP false o1 P) rfl; rw [rowsP_no] at this; exact this
  have s1 : Sl 4 h4 6 w ((X ++ [(⟨-1, 0, false, 0, 0, 0⟩ : Chan)]).map Chan.enc) := oe.sl 1 (6, w, _) rfl
  have s2 : Sl 4 h4 1 vt ((T.map Tab.enc).set 0 [.ns]) := by have := oe.sl 2 (1, vt, (rowsT false o2 T).set 0 [.ns]) rfl; rw [rowsT_no] at this; exact this
  have hw2 := first_2 (T' := T.set 0 []) hC (by omega) (by simp)
  refine Pf.look (where_ev (C := ⟨P, X ++ [⟨-1, 0, false, 0, 0, 0⟩], T.set 0 []⟩) hnm) (.cons _ _ _ _ _ (.agg _ _ _ (.cons _ _ _ _ _ (s0.froze (fun _ => rfl) trivial (by omega)) (.cons _ _ _ _ _ (s1.froze (fun _ => rfl) trivial (by omega)) (.cons _ _ _ _ _ (Sl.frzT s2 (fT _ _) (by simp; omega)) (.nil _))))) (.nil _)) rfl fun _ => ?_
  have ecs : csOf h4 vp = csOf hb vp := by unfold csOf; rw [pg4]; rfl
  have oA := oe.set (i := 0) (a := (11, vp, rowsP false o1 P)) (n := k) (r := (nth P k).encO .ns) rfl (by simp only [rowsP_len]; omega)
  have oB := oe.set (i := 0) (a := (11, vp, rowsP false o1 P)) (n := k) (r := ({ nth P k with name := ⟨#[]⟩ } : Part).encO .ns) rfl (by simp only [rowsP_len]; omega)
  dsimp only at oA oB
  rw [ecs] at oA oB
  simp only [Part.encO] at oA oB
  have bxA : (h4.put (idV vp) ⟨11, (csOf hb vp).set (elV vp + k) [.s (nth P k).name, .i .i64 (nth P k).budget, .i .i64 (nth P k).period, .b (nth P k).sched, .b (nth P k).stop, .ns, .i .i64 (nth P k).h0, .i .i64 (nth P k).h1, .i .i64 (nth P k).h2, .i .i64 (nth P k).h3, .i .i64 (nth P k).h4]⟩).get h1.next = some ⟨3, [[vp, w, vt]]⟩ := by rw [get_put, gsel_ne (by omega)]; exact bx4
  have hnm3 : NmOk ⟨P.set k { nth P k with procs := [] }, X ++ [⟨-1, 0, false, 0, 0, 0⟩], T.set 0 []⟩ := nm_set hnm (show (nth P k).name.size < 4000000000 from hnm (nth P k) (nth_mem hk))
  have hnm4 : NmOk ⟨P.set k { nth P k with procs := [], name := ⟨#[]⟩ }, X ++ [⟨-1, 0, false, 0, 0, 0⟩], T.set 0 []⟩ := nm_set hnm (show (⟨#[]⟩ : ByteArray).size < 4000000000 by decide)
  have hw3 := first_3 (X' := X ++ [⟨-1, 0, false, 0, 0, 0⟩]) (T' := T.set 0 []) hC hk (by omega) (by simp)
  have hw4 := first_4 (X' := X ++ [⟨-1, 0, false, 0, 0, 0⟩]) (T' := T.set 0 []) hC hk (by omega) (by simp)
  clear s0 s1 s2 oe
  simp only [Part.enc] at pr0
  have wl := (Sl.facts (enc := Chan.enc) (L := X ++ [(⟨-1, 0, false, 0, 0, 0⟩ : Chan)]) (oA.sl 1 (6, w, _) rfl)).len
  dsimp only at wl
  rw [hX4] at wl
  simp (disch := omega) only [go_sem, *]
  have sA0 := oA.sl 0 (11, vp, _) rfl
  have sA1 := oA.sl 1 (6, w, _) rfl
  have sA2 := oA.sl 2 (1, vt, _) rfl
  dsimp only at sA0 sA1 sA2
  rw [rowsP_no] at sA0
  rw [rowsT_no] at sA2
  refine Pf.look (where_ev hnm3) (.cons _ _ _ _ _ (.agg _ _ _ (.cons _ _ _ _ _ (Sl.frzT (R' := (P.set k { nth P k with procs := [] }).map Part.enc) sA0 (by rw [List.map_set]; exact Frzr.set (encO_frz (p := { nth P k with procs := [] }) (.ns _ _)) k (Frzr.of_map (fun _ => rfl) P)) (by simp; omega)) (.cons _ _ _ _ _ (sA1.froze (fun _ => rfl) trivial (by omega)) (.cons _ _ _ _ _ (Sl.frzT sA2 (fT _ _) (by simp; omega)) (.nil _))))) (.nil _)) rfl fun _ => ?_
  clear sA0 sA1 sA2
  simp (disch := omega) only [go_sem, *]
  have sB0 := oB.sl 0 (11, vp, _) rfl
  have sB1 := oB.sl 1 (6, w, _) rfl
  have sB2 := oB.sl 2 (1, vt, _) rfl
  dsimp only at sB0 sB1 sB2
  rw [rowsP_no] at sB0
  rw [rowsT_no] at sB2
  refine Pf.look (where_ev hnm4) (.cons _ _ _ _ _ (.agg _ _ _ (.cons _ _ _ _ _ (Sl.frzT (R' := (P.set k { nth P k with procs := [], name := ⟨#[]⟩ }).map Part.enc) sB0 (by rw [List.map_set]; exact Frzr.set (encO_frz (p := { nth P k with procs := [], name := ⟨#[]⟩ }) (.ns _ _)) k (Frzr.of_map (fun _ => rfl) P)) (by simp; omega)) (.cons _ _ _ _ _ (sB1.froze (fun _ => rfl) trivial (by omega)) (.cons _ _ _ _ _ (Sl.frzT sB2 (fT _ _) (by simp; omega)) (.nil _))))) (.nil _)) rfl fun _ => ?_
  clear sB0 sB1 sB2 oA oB
  simp (disch := omega) only [go_sem, *]
  refine Pf.go (known12_ev) (by simp only [go_sem]) fun _ => ?_; simp (disch := omega) only [go_sem, *]
end Go.Ab.T
/- From a call's arguments, as the form reads them, to an abstract heap. -/
namespace Go.Ab
open Go Go.RowKit
/-! ### Shapes of arguments -/
mutual
inductive Sh where
  | b
  | i (k : IntKind)
  | s
  | sl (e : Sh)
  | agg (l : ShL)
inductive ShL where
  | nil
  | cons (x : Sh) (l : ShL)
end
mutual
def Sh.size : Sh → Nat
  | .b | .i _ | .s | .sl _ => 1
  | .agg l => l.size
def ShL.size : ShL → Nat
  | .nil => 0
  | .cons x l => x.size + l.size
end
def ShL.rep (x : Sh) : Nat → ShL
  | 0 => .nil
  | n + 1 => .cons x (ShL.rep x n)
mutual
inductive ShT (P : Program) : TypeId → Sh → Prop where
  | b (t : TypeId) : P.underlying t = some .bool → ShT P t .b
  | i (t : TypeId) (k : IntKind) : P.underlying t = some (.int k) → ShT P t (.i k)
  | s (t : TypeId) : P.underlying t = some .string → ShT P t .s
  | sl (t e : TypeId) (x : Sh) : P.underlying t = some (.slice e) → ShT P e x → P.cellsOf e = x.size → 0 < x.size → ShT P t (.sl x)
  | agg (t : TypeId) (fs : Array Field) (l : ShL) : P.underlying t = some (.struct fs) → ShF P fs.toList 0 l → P.cellsOf t = l.size → ShT P t (.agg l)
  | arr (t e : TypeId) (n : Nat) (x : Sh) : P.underlying t = some (.array n e) → ShT P e x → P.cellsOf e = x.size → P.cellsOf t = n * x.size → ShT P t (.agg (ShL.rep x n))
inductive ShF (P : Program) : List Field → Nat → ShL → Prop where
  | nil (o : Nat) : ShF P [] o .nil
  | cons (f : Field) (fs : List Field) (o : Nat) (x : Sh) (l : ShL) : f.offset = o → ShT P f.type x → P.cellsOf f.type = x.size → ShF P fs (o + x.size) l → ShF P (f :: fs) o (.cons x l)
end
section
variable {H : Type}
mutual
def DV (h : AH) : Sh → DataW H → List V → Prop
  | .b, d, vs => ∃ x, d = .lit (.bool x) ∧ vs = [.b x]
  | .i k, d, vs => ∃ n, d = .lit (.int k n) ∧ (Lit.int k n).wf = true ∧ vs = [.i k n]
  | .s, d, vs => ∃ x : ByteArray, d = .lit (.string x.data.toList) ∧ x.size ≤ maxLen ∧ vs = [.s x]
  | .sl e, d, vs => (d = .nil ∧ vs = [.ns]) ∨ ∃ (elems spare : List (DataW H)) (id : Nat) (rows : List (List V)), d = .slice elems spare ∧ vs = [.sl id 0 elems.length elems.length] ∧ h.get id = some ⟨e.size, rows⟩ ∧ id < h.next ∧ rows.length = elems.length ∧ elems.length < bigLen ∧ ∀ (j : Nat) (x : DataW H) (r : List V), elems[j]? = some x → rows[j]? = some r → DV h e x r
  | .agg l, d, vs => ∃ ds, d = .agg ds ∧ DVs h l ds vs
def DVs (h : AH) : ShL → List (DataW H) → List V → Prop
  | .nil, ds, vs => ds = [] ∧ vs = []
  | .cons x l, ds, vs => ∃ d ds' v1 v2, ds = d :: ds' ∧ vs = v1 ++ v2 ∧ DV h x d v1 ∧ DVs h l ds' v2
end
mutual
def Sml : Sh → DataW H → Prop
  | .sl e, d => ∀ elems spare, d = .slice elems spare → elems.length < bigLen ∧ ∀ x ∈ elems, Sml e x
  | .agg l, d => ∀ ds, d = .agg ds → Smls l ds
  | .b, _ | .i _, _ | .s, _ => True
def Smls : ShL → List (DataW H) → Prop
  | .nil, _ => True
  | .cons x l, ds => ∀ d ds', ds = d :: ds' → Sml x d ∧ Smls l ds'
end
structure Gr (M M' : Mp) (h h' : AH) : Prop where
  keeps : Keeps M M' h h'
  get : ∀ id, id < h.next → h'.get id = h.get id
theorem Gr.refl (M : Mp) (h : AH) : Gr M M h h := ⟨Keeps.refl M h, fun _ _ => rfl⟩
theorem Gr.trans {M M1 M2 : Mp} {h h1 h2 : AH} (a : Gr M M1 h h1) (b : Gr M1 M2 h1 h2) : Gr M M2 h h2 :=
  ⟨a.keeps.trans b.keeps, fun id hi => (b.get id (Nat.lt_of_lt_of_le hi a.keeps.next)).trans (a.get id hi)⟩
mutual
theorem DV.grow {M M' : Mp} {h h' : AH} (g : Gr M M' h h') : ∀ (sh : Sh) (d : DataW H) (vs : List V), DV h sh d vs → DV h' sh d vs
  | .b, d, vs, k => by simp only [DV] at k ⊢; exact k
  | .i _, d, vs, k => by simp only [DV] at k ⊢; exact k
  | .s, d, vs, k => by simp only [DV] at k ⊢; exact k
  | .sl e, d, vs, k => by
    simp only [DV] at k ⊢
    rcases k with k | ⟨elems, spare, id, rows, a, b, c, d, e1, f, g1⟩
    · exact .inl k
    · exact .inr ⟨elems, spare, id, rows, a, b, (g.get id d).trans c, Nat.lt_of_lt_of_le d g.keeps.next, e1, f, fun j x r hx hr => DV.grow g e x r (g1 j x r hx hr)⟩
  | .agg l, d, vs, k => by
    simp only [DV] at k ⊢
    obtain ⟨ds, a, b⟩ := k
    exact ⟨ds, a, DVs.grow g l ds vs b⟩
theorem DVs.grow {M M' : Mp} {h h' : AH} (g : Gr M M' h h') : ∀ (l : ShL) (ds : List (DataW H)) (vs : List V), DVs h l ds vs → DVs h' l ds vs
  | .nil, ds, vs, k => by simp only [DVs] at k ⊢; exact k
  | .cons x l, ds, vs, k => by
    simp only [DVs] at k ⊢
    obtain ⟨d, ds', v1, v2, a, b, c, e⟩ := k
    exact ⟨d, ds', v1, v2, a, b, DV.grow g x d v1 c, DVs.grow g l ds' v2 e⟩
end
structure In (M : Mp) (w : World) (h : AH) : Prop where
  cells : ∀ id k m, h.get id = some k → M id = some m → m.b < w.heap.size ∧ CellsAt M h w m k
  own : ∀ id m, M id = some m → m.own = false
  fresh : ∀ id, h.live id → id < h.next
  lim : h.lim = h.next
theorem In.sim {M : Mp} {w : World} {h : AH} (i : In M w h) : Sim M w.heap.size w h := by
  refine ⟨i.cells, fun id m hl hm ho => ?_, fun id m hl hm hli => ?_, fun id id' m m' _ _ hm _ _ ho => ?_, i.fresh, by rw [i.lim]; exact Nat.le_refl _, Nat.le_refl _⟩
  · rw [i.own id m hm] at ho; cases ho
  · have := i.fresh id hl; have := i.lim; omega
  · rw [i.own id m hm] at ho; cases ho
def AH.give (h : AH) (k : Blk) : AH := { get := fun j => if j = h.next then some k else h.get j, next := h.next + 1, lim := h.next + 1 }
def mput (M : Mp) (id : Nat) (m : MI) : Mp := fun j => if j = id then some m else M j
theorem give_gr {M : Mp} {h : AH} {k : Blk} {m : MI} (hf : ∀ id, h.live id → id < h.next) : Gr M (mput M h.next m) h (h.give k) := by
  refine ⟨⟨by simp [AH.give], fun id hi hl => ?_, fun id hi hl => ?_⟩, fun id hi => ?_⟩
  · have : (h.give k).get id = h.get id := by simp only [AH.give]; rw [if_neg (by omega)]
    rw [AH.live, this] at hl; exact hl
  · simp only [mput]; rw [if_neg (by omega)]
  · simp only [AH.give]; rw [if_neg (by omega)]
theorem In.give {M : Mp} {w : World} {h : AH} {k : Blk} {m : MI} (i : In M w h) (hb : m.b < w.heap.size) (ho : m.own = false) (hc : CellsAt M h w m k) : In (mput M h.next m) w (h.give k) := by
  have g := give_gr (M := M) (k := k) (m := m) i.fresh
  refine ⟨fun id k' m' hk hm => ?_, fun id m' hm => ?_, fun id hl => ?_, rfl⟩
  · simp only [AH.give, mput] at hk hm
    by_cases hid : id = h.next
    · rw [if_pos hid] at hk hm
      cases hk; cases hm
      exact ⟨hb, CellsAt.keep g.keeps rfl hc⟩
    · rw [if_neg hid] at hk hm
      exact ⟨(i.cells id k' m' hk hm).1, CellsAt.keep g.keeps rfl (i.cells id k' m' hk hm).2⟩
  · simp only [mput] at hm
    split at hm
    · cases hm; exact ho
    · exact i.own id m' hm
  · by_cases hid : id = h.next
    · subst hid; simp [AH.give]
    · have : (h.give k).get id = h.get id := by simp only [AH.give]; rw [if_neg hid]
      rw [AH.live, this] at hl
      have := i.fresh id hl
      simp only [AH.give]; omega
variable {P : Program} {w : World} {enc : TypeId × Value → H} {spare : Nat → Bool}
def Took (M : Mp) (w : World) (h : AH) (sh : Sh) (d : DataW H) (cs : List Value) : Prop :=
  ∃ (M' : Mp) (h' : AH) (vs : List V), In M' w h' ∧ Gr M M' h h' ∧ VRs M' h' vs cs ∧ DV h' sh d vs ∧ (∀ v ∈ vs, v.isCell = true)
def TookL (M : Mp) (w : World) (h : AH) (l : ShL) (ds : List (DataW H)) (cs : List Value) : Prop :=
  ∃ (M' : Mp) (h' : AH) (vs : List V), In M' w h' ∧ Gr M M' h h' ∧ VRs M' h' vs cs ∧ DVs h' l ds vs ∧ (∀ v ∈ vs, v.isCell = true)
theorem take_rows {e : Sh} (ih : ∀ (cs : List Value) (d : DataW H) (M : Mp) (h : AH), (∃ fuel t ps, ShT P t e ∧ DataW.trod enc P w 0 spare true fuel t cs = some (d, ps)) → In M w h → Sml e d → Took M w h e d cs) :
    ∀ (l : List (List Value × DataW H)) (M : Mp) (h : AH), In M w h → (∀ q ∈ l, (∃ fuel t ps, ShT P t e ∧ DataW.trod enc P w 0 spare true fuel t q.1 = some (q.2, ps)) ∧ Sml e q.2) →
      ∃ (M' : Mp) (h' : AH) (rows : List (List V)), In M' w h' ∧ Gr M M' h h' ∧ rows.length = l.length ∧ ∀ (j : Nat) (q : List Value × DataW H) (r : List V), l[j]? = some q → rows[j]? = some r → VRs M' h' r q.1 ∧ DV h' e q.2 r ∧ (∀ v ∈ r, v.isCell = true)
  | [], M, h, hi, _ => ⟨M, h, [], hi, Gr.refl M h, rfl, fun j q r hq => by simp at hq⟩
  | q :: l, M, h, hi, hq => by
    obtain ⟨M1, h1, vs, i1, g1, v1, d1, c1⟩ := ih q.1 q.2 M h (hq q (List.mem_cons_self ..)).1 hi (hq q (List.mem_cons_self ..)).2
    obtain ⟨M2, h2, rows, i2, g2, l2, a2⟩ := take_rows ih l M1 h1 i1 (fun x hx => hq x (List.mem_cons_of_mem _ hx))
    refine ⟨M2, h2, vs :: rows, i2, g1.trans g2, by simp [l2], fun j x r hx hr => ?_⟩
    cases j with
    | zero =>
      simp at hx hr; subst hx; subst hr
      exact ⟨v1.keep g2.keeps, d1.grow g2, c1⟩
    | succ j => exact a2 j x r (by simpa using hx) (by simpa using hr)
def Al (P : Program) (w : World) (enc : TypeId × Value → H) (spare : Nat → Bool) : ShL → List (List Value × DataW H) → Prop
  | .nil, q => q = []
  | .cons x l, q => ∃ p q', q = p :: q' ∧ (∃ fuel t ps, ShT P t x ∧ DataW.trod enc P w 0 spare true fuel t p.1 = some (p.2, ps)) ∧ Al P w enc spare l q'
theorem al_struct {n : Nat} {cs : List Value} : ∀ (fs : List Field) (o : Nat) (l : ShL) (xs : List (DataW H × List MemPlace)), ShF P fs o l → xs.length = fs.length → (∀ (i : Nat) (f : Field), fs[i]? = some f → DataW.trod enc P w 0 spare true n f.type ((cs.drop f.offset).take (P.cellsOf f.type)) = xs[i]?) →
    ∃ q, Al P w enc spare l q ∧ q.map (·.2) = xs.map (·.1) ∧ (q.map (·.1)).flatten = (cs.drop o).take l.size
  | [], o, _, xs, .nil _, hl, ha => by
    have : xs = [] := List.length_eq_zero_iff.1 hl
    subst this
    exact ⟨[], rfl, rfl, by simp [ShL.size]⟩
  | f :: fs, o, _, xs, .cons _ _ _ x l hf ht hc hr, hl, ha => by
    match xs, hl, ha with
    | y :: ys, hl, ha =>
      obtain ⟨q, q1, q2, q3⟩ := al_struct (n := n) (cs := cs) fs (o + x.size) l ys hr (by simpa using hl) (fun i g hg => by simpa using ha (i + 1) g (by simpa using hg))
      have h0 := ha 0 f rfl
      simp only [List.getElem?_cons_zero] at h0
      refine ⟨((cs.drop f.offset).take (P.cellsOf f.type), y.1) :: q, ⟨_, q, rfl, ⟨n, f.type, y.2, ht, h0⟩, q1⟩, by simp [q2], ?_⟩
      simp only [List.map_cons, List.flatten_cons, q3, hf, hc, ShL.size]
      rw [← List.drop_drop, List.take_add]
theorem al_array {n : Nat} {e : TypeId} {x : Sh} {cs : List Value} (ht : ShT P e x) (hc : P.cellsOf e = x.size) : ∀ (m i : Nat) (xs : List (DataW H × List MemPlace)), xs.length = m → (∀ j, j < m → DataW.trod enc P w 0 spare true n e ((cs.drop ((i + j) * P.cellsOf e)).take (P.cellsOf e)) = xs[j]?) →
    ∃ q, Al P w enc spare (ShL.rep x m) q ∧ q.map (·.2) = xs.map (·.1) ∧ (q.map (·.1)).flatten = (cs.drop (i * x.size)).take (m * x.size)
  | 0, i, xs, hl, ha => by
    have : xs = [] := List.length_eq_zero_iff.1 hl
    subst this
    exact ⟨[], rfl, rfl, by simp⟩
  | m + 1, i, xs, hl, ha => by
    match xs, hl, ha with
    | y :: ys, hl, ha =>
      obtain ⟨q, q1, q2, q3⟩ := al_array ht hc m (i + 1) ys (by simpa using hl) (fun j hj => by
        have := ha (j + 1) (by omega)
        simp only [List.getElem?_cons_succ] at this
        rw [← this, show i + (j + 1) = i + 1 + j by omega])
      have h0 := ha 0 (by omega)
      simp only [List.getElem?_cons_zero, Nat.add_zero] at h0
      refine ⟨((cs.drop (i * P.cellsOf e)).take (P.cellsOf e), y.1) :: q, ⟨_, q, rfl, ⟨n, e, y.2, ht, h0⟩, q1⟩, by simp [q2], ?_⟩
      simp only [List.map_cons, List.flatten_cons, q3, hc]
      rw [Nat.succ_mul, Nat.succ_mul, Nat.add_comm (m * x.size), List.take_add, List.drop_drop]
theorem trod_array {n : Nat} {e t : TypeId} {fuel : Nat} {cs : List Value} {x : DataW H × List MemPlace} (ht : P.underlying t = some (.array n e)) (h : DataW.trod enc P w 0 spare true fuel t cs = some x) :
    ∃ (xs : List (DataW H × List MemPlace)) (m : Nat), x = (.agg (xs.map (·.1)), xs.flatMap (·.2)) ∧ cs.length = P.cellsOf t ∧ xs.length = n ∧ ∀ j, j < n → DataW.trod enc P w 0 spare true m e ((cs.drop (j * P.cellsOf e)).take (P.cellsOf e)) = xs[j]? := by
  cases fuel with
  | zero => simp [DataW.trod] at h
  | succ m =>
    unfold DataW.trod at h
    rw [ht] at h
    split at h <;> simp_all
    obtain ⟨hl, xs, hp, hd⟩ := h
    exact ⟨xs, hd.symm, by simpa using mapM_some_length hp, m, fun j hj => by simpa using mapM_some_get hp j j (by simp [hj])⟩
theorem addr_add' {a : Addr} {n : Nat} (h : a.spot = none) : a.add n = ⟨a.block, a.off + n, none⟩ := by
  cases a
  simp only at h
  subst h
  simp only [Addr.add]
  split <;> simp_all
theorem addr_spot {a : Addr} {n : Nat} (h : a.spot = none) : (a.add n).spot = none := by rw [addr_add' h]
mutual
theorem take (hpos : 0 < w.heap.size) : ∀ (sh : Sh) (cs : List Value) (d : DataW H) (M : Mp) (h : AH), (∃ fuel t ps, ShT P t sh ∧ DataW.trod enc P w 0 (fun _ => true) true fuel t cs = some (d, ps)) → In M w h → Sml sh d → Took M w h sh d cs
  | .b, cs, d, M, h, ⟨fuel, t, ps, ht, hr⟩, hi, hs => by
    cases ht with
    | b _ hu =>
      obtain ⟨x, rfl, he⟩ := DataW.trod_bool hu hr
      cases he
      exact ⟨M, h, [.b x], hi, Gr.refl M h, .cons _ _ _ _ (.b x) .nil, ⟨x, rfl, rfl⟩, by simp [V.isCell]⟩
  | .i k, cs, d, M, h, ⟨fuel, t, ps, ht, hr⟩, hi, hs => by
    cases ht with
    | i _ _ hu =>
      obtain ⟨x, rfl, he, hw⟩ := DataW.trod_int hu hr
      cases he
      exact ⟨M, h, [.i k x], hi, Gr.refl M h, .cons _ _ _ _ (.i k x) .nil, ⟨x, rfl, hw, rfl⟩, by simp [V.isCell]⟩
  | .s, cs, d, M, h, ⟨fuel, t, ps, ht, hr⟩, hi, hs => by
    cases ht with
    | s _ hu =>
      obtain ⟨x, rfl, he, hw⟩ := DataW.trod_string hu hr
      cases he
      exact ⟨M, h, [.s x], hi, Gr.refl M h, .cons _ _ _ _ (.s x) .nil, ⟨x, rfl, hw, rfl⟩, by simp [V.isCell]⟩
  | .sl e, cs, d, M, h, ⟨fuel, t, ps, ht, hr⟩, hi, hs => by
    cases ht with
    | sl _ te _ hu hte hce hpe =>
      rcases DataW.trod_slice hu hr with ⟨rfl, he⟩ | ⟨a, len, cap, elems, rest, n, _, rfl, he, hb, hlc, hcm, hlen, hel, hsp, _⟩
      · cases he
        exact ⟨M, h, [.ns], hi, Gr.refl M h, .cons _ _ _ _ .ns .nil, .inl ⟨rfl, rfl⟩, by simp [V.isCell]⟩
      · cases he
        simp only [Sml] at hs
        obtain ⟨hs1, hs2⟩ := hs _ _ rfl
        have hs1' : elems.length < bigLen := by simpa using hs1
        have cell : ∀ j (y : DataW H × List MemPlace), elems[j]? = some y → ∃ cs', w.cells? 0 (a.add (j * P.cellsOf te)) (P.cellsOf te) = some cs' ∧ DataW.trod enc P w 0 (fun _ => true) true n te cs' = some y := by
          intro j y hy
          have hj : j < len := by rw [← hlen]; exact (List.getElem?_eq_some_iff.1 hy).1
          have := hel j hj
          rw [hy] at this
          simpa [Option.bind_eq_some_iff] using this
        let q : List (List Value × DataW H) := (List.range elems.length).map fun j => ((w.cells? 0 (a.add (j * P.cellsOf te)) (P.cellsOf te)).getD [], ((elems[j]?).map (·.1)).getD (.nil))
        have hq : ∀ j (y : DataW H × List MemPlace), elems[j]? = some y → ∃ cs', w.cells? 0 (a.add (j * P.cellsOf te)) (P.cellsOf te) = some cs' ∧ DataW.trod enc P w 0 (fun _ => true) true n te cs' = some y ∧ q[j]? = some (cs', y.1) := by
          intro j y hy
          obtain ⟨cs', h1, h2⟩ := cell j y hy
          have hj : j < elems.length := (List.getElem?_eq_some_iff.1 hy).1
          refine ⟨cs', h1, h2, ?_⟩
          simp only [q, List.getElem?_map, List.getElem?_range hj, Option.map_some, h1, hy, Option.getD_some]
        have hql : q.length = elems.length := by simp [q]
        obtain ⟨M1, h1, rows, i1, g1, l1, a1⟩ := take_rows (e := e) (fun cs d M h hh hi hs => take hpos e cs d M h hh hi hs) q M h hi (fun z hz => by
          obtain ⟨j, hj, hz⟩ := List.getElem_of_mem hz
          have hj' : j < elems.length := by rw [← hql]; exact hj
          obtain ⟨cs', h1, h2, h3⟩ := hq j elems[j] (by simp [hj'])
          rw [List.getElem?_eq_getElem hj, hz] at h3
          cases h3
          exact ⟨⟨n, te, elems[j].2, hte, h2⟩, hs2 _ (List.mem_map.2 ⟨elems[j], List.getElem_mem _, rfl⟩)⟩)
        have first : ∀ cs', w.cells? 0 (a.add 0) (P.cellsOf te) = some cs' → a.block < w.heap.size ∧ a.spot = none := by
          intro cs' hcs
          have h1 := World.cells?_block hcs (by omega)
          obtain ⟨_, h2, h3⟩ := World.cells?_some hcs
          have h4 := h3 0 (by omega)
          rw [List.getElem?_eq_getElem (by omega)] at h4
          have h5 := World.cell?_spot h4
          simp only [Addr.add, if_true] at h1 h5
          exact ⟨h1, h5⟩
        have hz : 0 < cap → a.block < w.heap.size ∧ a.spot = none := by
          intro hcap
          by_cases h0 : 0 < elems.length
          · obtain ⟨cs', h2, _, _⟩ := hq 0 elems[0] (by simp [h0])
            exact first cs' (by simpa using h2)
          · have := (hsp rfl).2 0 (by omega)
            rw [List.getElem?_eq_getElem (by rw [(hsp rfl).1]; omega)] at this
            simp only [Option.bind_eq_some_iff] at this
            obtain ⟨cs', h2, _⟩ := this
            exact first cs' (by rw [show (len + 0) * P.cellsOf te = 0 by rw [show len + 0 = 0 by omega]; simp] at h2; exact h2)
        let m : MI := ⟨if 0 < cap then a.block else 0, a.off, 0, e.size, false⟩
        have hmb : m.b < w.heap.size := by
          simp only [m]
          split
          · rename_i h0; exact (hz h0).1
          · exact hpos
        have hrow : ∀ (el : Nat) (r : List V), rows[el]? = some r → ∃ y cs', elems[el]? = some y ∧ q[el]? = some (cs', y.1) ∧ w.cells? 0 (a.add (el * P.cellsOf te)) (P.cellsOf te) = some cs' := by
          intro el r hr
          have hel2 : el < elems.length := by rw [← hql, ← l1]; exact (List.getElem?_eq_some_iff.1 hr).1
          obtain ⟨cs', h2, h3, h4⟩ := hq el elems[el] (by simp [hel2])
          exact ⟨elems[el], cs', by simp [hel2], h4, h2⟩
        have hcells : CellsAt M1 h1 w m ⟨e.size, rows⟩ := by
          refine ⟨rfl, fun el r hr => ?_⟩
          obtain ⟨y, cs', hy, hqe, hcs⟩ := hrow el r hr
          obtain ⟨hv, _, hcell⟩ := a1 el _ r hqe hr
          obtain ⟨_, hcl, hcc⟩ := World.cells?_some hcs
          have hlen2 := hv.length
          have hel2 : el < elems.length := (List.getElem?_eq_some_iff.1 hy).1
          have hz' := hz (by omega)
          refine ⟨by rw [hlen2]; simp only; omega, fun j v hj => ⟨hcell v (List.mem_of_getElem? hj), ?_⟩⟩
          obtain ⟨x, hx, hvx⟩ := hv.get j v hj
          have hjl : j < P.cellsOf te := by
            have := (List.getElem?_eq_some_iff.1 hx).1
            simp only at this; omega
          refine ⟨x, ?_, hvx⟩
          have e1 := hcc j hjl
          simp only at hx
          rw [hx, addr_add' (addr_spot hz'.2), addr_add' hz'.2] at e1
          rw [← e1]
          simp only [m]
          rw [if_pos (by omega), hce]
        have i2 := i1.give (m := m) hmb rfl hcells
        have g2 := give_gr (M := M1) (k := ⟨e.size, rows⟩) (m := m) i1.fresh
        refine ⟨_, _, [.sl h1.next 0 elems.length elems.length], i2, g1.trans g2, .cons _ _ _ _ ?_ .nil, .inr ⟨elems.map (·.1), rest.map (·.1), h1.next, rows, rfl, by simp, by simp [AH.give], by simp [AH.give], by simp [l1, hql], hs1, fun j x r hx hr => ?_⟩, by simp [V.isCell]⟩
        · rw [hlen]
          refine .sl _ _ _ _ _ _ (by simp [AH.give]) (by omega) (fun _ => ⟨m, by simp [mput], fun hc => ?_, by omega, fun ho => by cases ho⟩)
          have := hz hc
          simp only [m]
          rw [if_pos hc]
          cases a; simp_all
        · obtain ⟨y, cs', hy, hqe, _⟩ := hrow j r hr
          simp only [List.getElem?_map, hy, Option.map_some, Option.some.injEq] at hx
          subst hx
          exact (a1 j _ r hqe hr).2.1.grow g2
  | .agg l, cs, d, M, h, ⟨fuel, t, ps, ht, hr⟩, hi, hs => by
    cases ht with
    | agg _ fs _ hu hf hc =>
      obtain ⟨xs, n, _, he, hlen, hxl, hx⟩ := DataW.trod_struct hu hr
      cases he
      simp only [Sml] at hs
      obtain ⟨q, q1, q2, q3⟩ := al_struct (n := n) (cs := cs) fs.toList 0 l xs hf (by simpa using hxl) (fun i f hf => hx i f (by simpa using hf))
      obtain ⟨M', h', vs, i', g', v', d', c'⟩ := takeL hpos l q M h q1 hi (by rw [q2]; exact hs _ rfl)
      rw [q3, List.drop_zero, ← hc, ← hlen, List.take_length] at v'
      rw [q2] at d'
      exact ⟨M', h', vs, i', g', v', ⟨_, rfl, d'⟩, c'⟩
    | arr _ e n x hu hte hce hct =>
      obtain ⟨xs, m, he, hlen, hxl, hx⟩ := trod_array hu hr
      cases he
      simp only [Sml] at hs
      obtain ⟨q, q1, q2, q3⟩ := al_array (n := m) (cs := cs) hte hce n 0 xs hxl (fun j hj => by rw [Nat.zero_add]; exact hx j hj)
      obtain ⟨M', h', vs, i', g', v', d', c'⟩ := takeL hpos (ShL.rep x n) q M h q1 hi (by rw [q2]; exact hs _ rfl)
      rw [q3, Nat.zero_mul, List.drop_zero, ← hct, ← hlen, List.take_length] at v'
      rw [q2] at d'
      exact ⟨M', h', vs, i', g', v', ⟨_, rfl, d'⟩, c'⟩
theorem takeL (hpos : 0 < w.heap.size) : ∀ (l : ShL) (q : List (List Value × DataW H)) (M : Mp) (h : AH), Al P w enc (fun _ => true) l q → In M w h → Smls l (q.map (·.2)) → TookL M w h l (q.map (·.2)) (q.map (·.1)).flatten
  | .nil, q, M, h, ha, hi, hs => by
    simp only [Al] at ha; subst ha
    exact ⟨M, h, [], hi, Gr.refl M h, .nil, ⟨rfl, rfl⟩, by simp⟩
  | .cons x l, q, M, h, ha, hi, hs => by
    simp only [Al] at ha
    obtain ⟨p, q', rfl, ht, ha⟩ := ha
    simp only [Smls] at hs
    obtain ⟨s1, s2⟩ := hs _ _ rfl
    obtain ⟨M1, h1, vs, i1, g1, v1, d1, c1⟩ := take hpos x p.1 p.2 M h ht hi s1
    obtain ⟨M2, h2, us, i2, g2, v2, d2, c2⟩ := takeL hpos l q' M1 h1 ha i1 s2
    refine ⟨M2, h2, vs ++ us, i2, g1.trans g2, by simpa using (v1.keep g2.keeps).append v2, ⟨_, _, vs, us, rfl, rfl, d1.grow g2, d2⟩, fun v hv => ?_⟩
    rcases List.mem_append.1 hv with hv | hv
    · exact c1 v hv
    · exact c2 v hv
end
end
end Go.Ab
/- A law's row out of the abstract machine. -/
namespace Go.Ab
open Go Go.RowKit
theorem calls_bool {P : Program} {tp : TP} {wr : Wr} (hT : TpOk P wr tp) (hm : MethsOk P tp) (hx : P.follows .mixedOrders = true) {f : Nat} {args : List V} {h : AH} {M : Mp} {w : World} {xs : Array Value}
    (hi : In M w h) (ha : VRs M h args xs.toList) (he : Ev tp f args h (fun r _ => r = .b true)) : Calls P f xs w fun e w' => e = .returned (.bool true) ∧ Below w.heap.size w w' := by
  obtain ⟨k, v, h', hev, rfl⟩ := he
  refine ((ev_sound hT hm hx k f args h _ h' hev).2 M w.heap.size w xs hi.sim ha).mono fun e w' ⟨x, M', e1, hd⟩ => ?_
  subst e1
  have hv := hd.val
  cases hv
  exact ⟨rfl, hd.below⟩
theorem In.empty (w : World) : In (fun _ => none) w ⟨fun _ => none, 0, 0⟩ := ⟨fun _ _ _ hk => (by cases hk), fun _ _ hm => (by cases hm), fun _ hl => absurd rfl hl, rfl⟩
def posB (P : Program) : Bool :=
  if P.globals.size = 0 then decide (0 < (begin P (fun _ _ => 0) default).world.heap.size)
  else (((begin P (fun _ _ => 0) default).world.heap[0]?).bind Obj.row?).isSome
theorem shaped_pos {P : Program} {w : World} (hp : posB P = true) (hs : w.ShapedOpen P) : 0 < w.heap.size := by
  unfold posB at hp
  split at hp
  · rename_i h0
    simp only [decide_eq_true_eq] at hp
    obtain ⟨o, _, ho, _⟩ := hs.2 0 (by omega) hp
    by_cases hz : 0 < w.heap.size
    · exact hz
    · rw [Array.getElem?_eq_none (by omega)] at ho; cases ho
  · rename_i h0
    cases hb : ((begin P (fun _ _ => 0) default).world.heap[0]?).bind Obj.row? with
    | none => rw [hb] at hp; cases hp
    | some q =>
      obtain ⟨cs, hc, _⟩ := hs.1 0 q.1 q.2 (by omega) hb
      by_cases hz : 0 < w.heap.size
      · exact hz
      · rw [Array.getElem?_eq_none (by omega)] at hc; cases hc
theorem wf_i64 {n : Int} (h : (Lit.int .i64 n).wf = true) : -9223372036854775808 ≤ n ∧ n ≤ 9223372036854775807 := by
  simpa [Lit.wf, IntKind.min, IntKind.max, IntKind.signed, IntKind.bits] using h
def shFs (K : TypeId → Option Sh) (P : Program) : List Field → Nat → Option ShL
  | [], _ => some .nil
  | f :: fs, o => (K f.type).bind fun x => if f.offset = o ∧ P.cellsOf f.type = x.size then (shFs K P fs (o + x.size)).map fun l => .cons x l else none
def shB (P : Program) : Nat → TypeId → Option Sh
  | 0, _ => none
  | n + 1, t =>
    match P.underlying t with
    | some .bool => some .b
    | some (.int k) => some (.i k)
    | some .string => some .s
    | some (.slice e) => (shB P n e).bind fun x => if P.cellsOf e = x.size ∧ 0 < x.size then some (.sl x) else none
    | some (.struct fs) => (shFs (shB P n) P fs.toList 0).bind fun l => if P.cellsOf t = l.size then some (.agg l) else none
    | some (.array m e) => (shB P n e).bind fun x => if P.cellsOf e = x.size ∧ P.cellsOf t = m * x.size then some (.agg (ShL.rep x m)) else none
    | _ => none
theorem shFs_ok {K : TypeId → Option Sh} {P : Program} (hK : ∀ t x, K t = some x → ShT P t x) : ∀ (fs : List Field) (o : Nat) (l : ShL), shFs K P fs o = some l → ShF P fs o l
  | [], o, l, h => by cases h; exact .nil o
  | f :: fs, o, l, h => by
    simp only [shFs, Option.bind_eq_some_iff] at h
    obtain ⟨x, hx, h⟩ := h
    split at h
    · rename_i hh
      simp only [Option.map_eq_some_iff] at h
      obtain ⟨l', hl, rfl⟩ := h
      exact .cons f fs o x l' hh.1 (hK _ _ hx) hh.2 (shFs_ok hK fs _ l' hl)
    · cases h
theorem shB_ok {P : Program} : ∀ (n : Nat) (t : TypeId) (x : Sh), shB P n t = some x → ShT P t x
  | 0, t, x, h => by cases h
  | n + 1, t, x, h => by
    unfold shB at h
    split at h
    · rename_i hu; cases h; exact .b t hu
    · rename_i k hu; cases h; exact .i t k hu
    · rename_i hu; cases h; exact .s t hu
    · rename_i e hu
      simp only [Option.bind_eq_some_iff] at h
      obtain ⟨y, hy, h⟩ := h
      split at h
      · rename_i hh; cases h; exact .sl t e y hu (shB_ok n e y hy) hh.1 hh.2
      · cases h
    · rename_i fs hu
      simp only [Option.bind_eq_some_iff] at h
      obtain ⟨l, hl, h⟩ := h
      split at h
      · rename_i hh; cases h; exact .agg t fs l hu (shFs_ok (shB_ok n) _ _ _ hl) hh
      · cases h
    · rename_i m e hu
      simp only [Option.bind_eq_some_iff] at h
      obtain ⟨y, hy, h⟩ := h
      split at h
      · rename_i hh; cases h; exact .arr t e m y hu (shB_ok n e y hy) hh.1 hh.2
      · cases h
    · cases h
section
variable {H : Type} {enc : TypeId × Value → H}
theorem handed_cond {a : Assume} {C : Checked} {os : Os} {f : FuncId} {fn : Func} {s : OpenSpec} {k : (H : Type) → List (DataW H) → Bool} (hk : s.cond = some k) {F : Stop.Interp} {conds : List PathCond} {apart fresh handsOn again : Bool}
    (own : ownKnob C.prog.godebug = none) (started : os.Started) (noInit : C.prog.inits.idxOf? f = none) (hfn : C.prog.funcs[f]? = some fn) (hpos : posB C.prog = true)
    (witness : ∃ (w : World) (tape : Tape) (i : Input), w.os = os ∧ (w.forCall tape i).Shaped C.prog ∧ i.vars = [] ∧ Input.okWide C.prog (w.forCall tape i) .any w.heap.size f i ∧
      s.pre6 enc C.prog fn conds apart (w.forCall tape i).memory i.args ∧ a.holds C.prog (lone (Frame.enter C.prog f i.args .normal) [] (w.forCall tape i)))
    (contract : ∀ (W : World) (base : Nat) (args : Array Value) (ds gs : List (DataW H)) (before : List MemPlace), 0 < W.heap.size →
      (∀ (j : Nat) t v, fn.params[j]? = some t → args[j]? = some v → Value.okWide C.prog W .any base t v) →
      DataW.Whole enc C.prog fn.params.toList s.vars apart W args.toList ds gs before → k H (ds ++ gs) = true →
      Calls C.prog f args W fun e W' => ∃ v, e = .returned v ∧ (s.at F).post enc C.prog fn apart fresh handsOn again W args v W') :
    ReturnsInHanded a C os f .any (s.pre6 enc C.prog fn conds apart) ((s.at F).post enc C.prog fn apart fresh handsOn again) := by
  refine returnsInHanded_of_calls own started noInit witness ?_
  intro w tape i _ hshaped _ hok hpre _
  obtain ⟨_, _, _, fn', hfn', _, _, _, _, hval⟩ := hok
  obtain rfl : fn' = fn := Option.some.inj (hfn'.symm.trans hfn)
  obtain ⟨ds, gs, before, hw, _, hkk⟩ := (OpenSpec.pre_some hk conds apart _ _).1 hpre.1
  have hw' := DataW.Whole.of_heap (w' := w.forCall tape i) (by rfl) hw
  refine (contract (w.forCall tape i) w.heap.size i.args ds gs before (shaped_pos hpos hshaped) hval hw' hkk).mono fun e W' ⟨v, he, hp⟩ => ?_
  subst he
  exact ChangeSpec.post_blind hp
end
end Go.Ab
namespace Go.Ab.T
open Go Go.Ab
set_option maxHeartbeats 1000000
theorem Pf.ev {f : Nat} {args args1 : List V} {h : AH} (pf : Pf tp f args (.b true)) (hl : h.lim ≤ h.next) (p : PRs (· < h.next) (fun i => i) h.get 0 args args1) : Ev tp f args1 h (fun r _ => r = .b true) := by
  refine (pf (· < h.next) (fun i => i) h args1 (Cfg.emp (fun a ha => ha) hl _) p).imp ?_
  rintro r1 hc' ⟨r, h', S', m', c', a', q, rfl, rfl⟩
  cases q; rfl
structure BK {H : Type} (bk : DataW H → Nat) : Prop where
  sl : ∀ elems spare, elems.length ≤ bk (.slice elems spare)
  el : ∀ elems spare x, x ∈ elems → bk x ≤ bk (.slice elems spare)
  ag : ∀ parts x, x ∈ parts → bk x ≤ bk (.agg parts)
  st : ∀ l, l.length ≤ bk (.lit (.string l))
section
variable {H : Type} {bk : DataW H → Nat} {h : AH}
abbrev PW (h : AH) (u v : V) : Prop := PR (· < h.next) (fun i => i) h.get 0 u v
abbrev PWs (h : AH) (u v : List V) : Prop := PRs (· < h.next) (fun i => i) h.get 0 u v
theorem gr_mon {M M' : Mp} {h h' : AH} (g : Gr M M' h h') : PMon (· < h.next) (fun i => i) h.get 0 (· < h'.next) (fun i => i) h'.get 0 :=
  ⟨fun a ha => Nat.lt_of_lt_of_le ha g.keeps.next, fun a ha => g.get a ha, fun _ _ => rfl, Nat.le_refl _⟩
theorem PW.gr {M M' : Mp} {h h' : AH} {u v : V} (g : Gr M M' h h') (p : PW h u v) : PW h' u v := PR.mono (gr_mon g) p
theorem PWs.gr {M M' : Mp} {h h' : AH} {u v : List V} (g : Gr M M' h h') (p : PWs h u v) : PWs h' u v := PRs.mono (gr_mon g) p
theorem dec_slice {α : Type} {en : α → List V} {good : α → Prop} (B : BK bk) {e : Sh} {d : DataW H} {vs : List V} (hd : DV h (.sl e) d vs) (hb : bk d ≤ 1048576) (hp : ∀ (y : DataW H) (r : List V), DV h e y r → bk y ≤ 1048576 → ∃ a, good a ∧ PWs h (en a) r) :
    ∃ (L : List α) (x : V), vs = [x] ∧ (∀ a ∈ L, good a) ∧ L.length ≤ 1048576 ∧ PW h (.fl e.size (L.map en)) x := by
  simp only [DV] at hd
  rcases hd with ⟨rfl, rfl⟩ | ⟨elems, spare, id, rows, rfl, rfl, h2, h3, h4, h5, h6⟩
  · exact ⟨[], _, rfl, (fun a ha => by cases ha), by simp, .fl0 _ _⟩
  · have hl := B.sl elems spare
    have hel := B.el elems spare
    have : ∀ (els : List (DataW H)) (rows : List (List V)), rows.length = els.length → (∀ x ∈ els, bk x ≤ 1048576) → (∀ (j : Nat) (x : DataW H) (r : List V), els[j]? = some x → rows[j]? = some r → DV h e x r) → ∃ L : List α, L.length = els.length ∧ (∀ a ∈ L, good a) ∧ PRr (· < h.next) (fun i => i) h.get 0 (L.map en) rows := by
      intro els
      induction els with
      | nil => intro rows hl _ _; rw [List.length_eq_zero_iff.1 hl]; exact ⟨[], rfl, (fun a ha => by cases ha), .nil _⟩
      | cons y els ih =>
        intro rows hl hb hr
        match rows, hl with
        | r :: rows, hl =>
          obtain ⟨a, ga, pa⟩ := hp y r (hr 0 y r rfl rfl) (hb y (List.mem_cons_self ..))
          obtain ⟨L, l1, l2, l3⟩ := ih rows (by simpa using hl) (fun x hx => hb x (List.mem_cons_of_mem _ hx)) (fun j x r hx hr' => hr (j + 1) x r (by simpa using hx) (by simpa using hr'))
          exact ⟨a :: L, by simp [l1], fun b hb => by rcases List.mem_cons.1 hb with rfl | hb; exact ga; exact l2 b hb, .cons _ _ _ _ _ pa l3⟩
    obtain ⟨L, l1, l2, l3⟩ := this elems rows h4 (fun x hx => by have := hel x hx; omega) h6
    refine ⟨L, _, rfl, l2, by omega, ?_⟩
    have e1 : elems.length = (L.map en).length := by simp [l1]
    rw [e1]
    exact .fl _ _ _ id 0 _ rows h3 h2 (Nat.le_refl _) (by simp; omega) (by simp [frzLen]; omega) (by rw [List.drop_zero, List.take_of_length_le (by simp; omega)]; exact l3)
theorem dec_ints (B : BK bk) {d : DataW H} {vs : List V} (hd : DV h (.sl (.i .i64)) d vs) (hb : bk d ≤ 1048576) : ∃ (L : List Int) (x : V), vs = [x] ∧ L.length ≤ 1048576 ∧ PW h (.fl 1 (L.map encI)) x := by
  obtain ⟨L, x, h1, _, h3, h4⟩ := dec_slice (en := encI) (good := fun _ => True) B hd hb (fun y r hy _ => by obtain ⟨n, _, _, rfl⟩ := hy; exact ⟨n, trivial, .cons _ _ _ _ _ (.i _ _ _) (.nil _)⟩)
  exact ⟨L, x, h1, h3, h4⟩
end
end Go.Ab.T
