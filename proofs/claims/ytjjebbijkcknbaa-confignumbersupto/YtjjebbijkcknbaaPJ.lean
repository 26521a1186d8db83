/- Part of the proof that ConfigNumbers returns true for every input of the second form's bound (no other condition). -/
import Derived.JoinedCond
import Derived.ChangeArms
import Derived.WalkKit
import Derived.ProofKit
import Derived.OpenShut
import Derived.ShutString
import Derived.ChangeOld
import Derived.SizedLaws
import Derived.Test.YtjjebbijkcknbaaPI
import Derived.Test.YtjjebbijkcknbaaPC
import Derived.Test.YtjjebbijkcknbaaPE
set_option linter.all false
namespace Go.Ab.T
open Go Go.Ab
set_option maxHeartbeats 2000000
structure Owns (b q : Nat) (h : AH) (l : List (Nat × V × List (List V))) : Prop where
  bq : b ≤ q
  q2 : q ≤ h.next
  sl : ∀ (i : Nat) (a : Nat × V × List (List V)), l[i]? = some a → Sl b h a.1 a.2.1 a.2.2
  lt : ∀ (i : Nat) (a : Nat × V × List (List V)), l[i]? = some a → nilV a.2.1 = true ∨ idV a.2.1 < q
  dj : ∀ (i j : Nat) (a c : Nat × V × List (List V)), i ≠ j → l[i]? = some a → l[j]? = some c → Dj a.2.1 c.2.1
section
variable {b q : Nat} {h h2 : AH} {l : List (Nat × V × List (List V))}
theorem Owns.keep (o : Owns b q h l) (hn : h.next ≤ h2.next) (g : ∀ i, i < q → h2.get i = h.get i) : Owns b q h2 l :=
  ⟨o.bq, Nat.le_trans o.q2 hn, fun i a e => sl_keep (o.sl i a e) (o.lt i a e) hn g, o.lt, o.dj⟩
theorem Owns.ext (o : Owns b q h l) (x : Ext h h2) : Owns b q h2 l := o.keep x.next (fun i hi => x.get i (by have := o.q2; omega))
theorem Owns.up {q' : Nat} (o : Owns b q h l) (h1 : q ≤ q') (h2 : q' ≤ h.next) : Owns b q' h l :=
  ⟨Nat.le_trans o.bq h1, h2, o.sl, fun i a e => (o.lt i a e).imp (fun x => x) (fun x => by omega), o.dj⟩
theorem Owns.put (o : Owns b q h l) (i : Nat) (k : Blk) (hi : i < b ∨ q ≤ i) : Owns b q (h.put i k) l := by
  refine ⟨o.bq, o.q2, fun j a e => sl_put (o.sl j a e) _ _ ?_, o.lt, o.dj⟩
  have h1 := sl_own (o.sl j a e)
  have h2 := o.lt j a e
  rcases h1 with h1 | h1
  · exact .inl h1
  · rcases h2 with h2 | h2
    · exact .inl h2
    · exact .inr (by omega)
theorem Owns.low {b' i : Nat} {a : Nat × V × List (List V)} {h1 h3 : AH} {v : V} (o : Owns b q h l) (e : l[i]? = some a) (x : Ext h h1) (g : Grown b' h1 a.2.1 v h3) : ∀ k, k < b → h3.get k = h.get k := fun k hk => by
  have := o.bq; have := o.q2; have := x.next
  rw [g.get k (by omega) ((sl_own (o.sl i a e)).imp (fun x => x) (fun x => by omega)), x.get k (by omega)]
theorem Owns.grow {b' i : Nat} {a : Nat × V × List (List V)} {h1 h3 : AH} {v : V} {R : List (List V)} (o : Owns b q h l) (e : l[i]? = some a) (x : Ext h h1) (g : Grown b' h1 a.2.1 v h3) (s : Sl b h3 a.1 v R) : Owns b h3.next h3 (l.set i (a.1, v, R)) := by
  have n0 := o.bq; have n1 := o.q2; have n2 := x.next; have n3 := g.next
  have hi : i < l.length := (List.getElem?_eq_some_iff.1 e).1
  have o1 := o.ext x
  refine ⟨by omega, Nat.le_refl _, fun j c ej => ?_, fun j c ej => ?_, fun j k c d hjk ej ek => ?_⟩
  · by_cases hji : i = j
    · subst hji
      rw [List.getElem?_set_self hi] at ej
      cases ej; exact s
    · rw [List.getElem?_set_ne hji] at ej
      exact sl_grown (o1.sl j c ej) g (o.dj i j a c hji e ej)
  · by_cases hji : i = j
    · subst hji
      rw [List.getElem?_set_self hi] at ej
      cases ej; exact sl_low s
    · rw [List.getElem?_set_ne hji] at ej
      exact (o.lt j c ej).imp (fun x => x) (fun x => by omega)
  · by_cases hji : i = j
    · subst hji
      rw [List.getElem?_set_self hi] at ej
      rw [List.getElem?_set_ne hjk] at ek
      cases ej
      exact dj_grown g (o.dj i k a d hjk e ek) ((o.lt k d ek).imp (fun x => x) (fun x => by omega))
    · rw [List.getElem?_set_ne hji] at ej
      by_cases hki : i = k
      · subst hki
        rw [List.getElem?_set_self hi] at ek
        cases ek
        exact dj_sym (dj_grown g (o.dj i j a c hji e ej) ((o.lt j c ej).imp (fun x => x) (fun x => by omega)))
      · rw [List.getElem?_set_ne hki] at ek
        exact o.dj j k c d hjk ej ek
theorem Owns.set {i n : Nat} {a : Nat × V × List (List V)} {r : List V} (o : Owns b q h l) (e : l[i]? = some a) (hn : n < a.2.2.length) : Owns b q (h.put (idV a.2.1) ⟨a.1, (csOf h a.2.1).set (elV a.2.1 + n) r⟩) (l.set i (a.1, a.2.1, a.2.2.set n r)) := by
  have hi : i < l.length := (List.getElem?_eq_some_iff.1 e).1
  have hnil : nilV a.2.1 = false := by
    rcases o.sl i a e with ⟨_, hR⟩ | ⟨_, _, _, _, hv, _⟩
    · rw [hR] at hn; simp at hn
    · rw [hv]; rfl
  refine ⟨o.bq, o.q2, fun j c ej => ?_, fun j c ej => ?_, fun j k c d hjk ej ek => ?_⟩
  · by_cases hji : i = j
    · subst hji
      rw [List.getElem?_set_self hi] at ej
      cases ej
      exact Sl.of_get (o.sl i a e) hn (Nat.le_refl _) (by rw [get_put, gsel_eq rfl])
    · rw [List.getElem?_set_ne hji] at ej
      refine sl_put (o.sl j c ej) _ _ ?_
      rcases o.dj i j a c hji e ej with d | d | d
      · rw [d] at hnil; cases hnil
      · exact .inl d
      · exact .inr d
  · by_cases hji : i = j
    · subst hji
      rw [List.getElem?_set_self hi] at ej
      cases ej; exact o.lt i a e
    · rw [List.getElem?_set_ne hji] at ej
      exact o.lt j c ej
  · by_cases hji : i = j
    · subst hji
      rw [List.getElem?_set_self hi] at ej
      rw [List.getElem?_set_ne hjk] at ek
      cases ej
      exact o.dj i k a d hjk e ek
    · rw [List.getElem?_set_ne hji] at ej
      by_cases hki : i = k
      · subst hki
        rw [List.getElem?_set_self hi] at ek
        cases ek
        exact o.dj j i c a hjk ej e
      · rw [List.getElem?_set_ne hki] at ek
        exact o.dj j k c d hjk ej ek
theorem Owns.new {i sz : Nat} {v : V} {R : List (List V)} (o : Owns b q h l) (hi : i < l.length) (s : Sl q h sz v R) : Owns b h.next h (l.set i (sz, v, R)) := by
  have n0 := o.bq; have n1 := o.q2
  have hv := sl_own s
  refine ⟨by omega, Nat.le_refl _, fun j c ej => ?_, fun j c ej => ?_, fun j k c d hjk ej ek => ?_⟩
  · by_cases hji : i = j
    · subst hji
      rw [List.getElem?_set_self hi] at ej
      cases ej; exact Sl.weak s n0
    · rw [List.getElem?_set_ne hji] at ej
      exact o.sl j c ej
  · by_cases hji : i = j
    · subst hji
      rw [List.getElem?_set_self hi] at ej
      cases ej; exact sl_low s
    · rw [List.getElem?_set_ne hji] at ej
      exact (o.lt j c ej).imp (fun x => x) (fun x => by omega)
  · have ap : ∀ (j : Nat) (c : Nat × V × List (List V)), l[j]? = some c → Dj v c.2.1 := fun j c ej => by
      rcases hv with hv | hv
      · exact .inl hv
      · rcases o.lt j c ej with k | k
        · exact .inr (.inl k)
        · exact .inr (.inr (by omega))
    by_cases hji : i = j
    · subst hji
      rw [List.getElem?_set_self hi] at ej
      rw [List.getElem?_set_ne hjk] at ek
      cases ej
      exact ap k d ek
    · rw [List.getElem?_set_ne hji] at ej
      by_cases hki : i = k
      · subst hki
        rw [List.getElem?_set_self hi] at ek
        cases ek
        exact dj_sym (ap j c ej)
      · rw [List.getElem?_set_ne hki] at ek
        exact o.dj j k c d hjk ej ek
theorem Owns.nil (hb : b ≤ h.next) (hl : ∀ a ∈ l, a.2.1 = .ns ∧ a.2.2 = []) : Owns b h.next h l :=
  ⟨hb, Nat.le_refl _, fun i a e => by have := hl a (List.mem_of_getElem? e); rw [this.1, this.2]; exact Sl.nil _ _ _, fun i a e => by have := hl a (List.mem_of_getElem? e); rw [this.1]; exact .inl rfl, fun i j a c _ e _ => by have := hl a (List.mem_of_getElem? e); rw [this.1]; exact .inl rfl⟩
end
end Go.Ab.T
namespace Go.Ab.T
open Go Go.Ab
set_option maxHeartbeats 4000000
theorem clipProco {b : Nat} {h : AH} {v : V} {R : List (List V)} {K : V → AH → Prop} (s : Sl b h 2 v R) (k : ∀ v', Sl b h 2 v' R → K v' h) : Cq tp i_Q29 [v] h K := by
  obtain ⟨len, big, _, _, _, _, _, cell, cells⟩ := Sl.facts (enc := fun x => x) (L := R) (by simpa using s)
  refine Cq_raw_go fn_Q29 (by simp [t_Q29]) fun wf rp => ?_; unfold t_Q29; simp (disch := omega) only [go_sem, *]
  refine clip_rule s (fun v' s' _ => ?_)
  simp (disch := omega) only [go_sem, *]
theorem clipChano {b : Nat} {h : AH} {v : V} {R : List (List V)} {K : V → AH → Prop} (s : Sl b h 6 v R) (k : ∀ v', Sl b h 6 v' R → K v' h) : Cq tp i_Q31 [v] h K := by
  obtain ⟨len, big, _, _, _, _, _, cell, cells⟩ := Sl.facts (enc := fun x => x) (L := R) (by simpa using s)
  refine Cq_raw_go fn_Q31 (by simp [t_Q31]) fun wf rp => ?_; unfold t_Q31; simp (disch := omega) only [go_sem, *]
  refine clip_rule s (fun v' s' _ => ?_)
  simp (disch := omega) only [go_sem, *]
theorem clipNodeo {b : Nat} {h : AH} {v : V} {R : List (List V)} {K : V → AH → Prop} (s : Sl b h 3 v R) (k : ∀ v', Sl b h 3 v' R → K v' h) : Cq tp i_Q33 [v] h K := by
  obtain ⟨len, big, _, _, _, _, _, cell, cells⟩ := Sl.facts (enc := fun x => x) (L := R) (by simpa using s)
  refine Cq_raw_go fn_Q33 (by simp [t_Q33]) fun wf rp => ?_; unfold t_Q33; simp (disch := omega) only [go_sem, *]
  refine clip_rule s (fun v' s' _ => ?_)
  simp (disch := omega) only [go_sem, *]
@[go_sem] def Part.encO (v : V) (x : Part) : List V := [.s x.name, .i .i64 x.budget, .i .i64 x.period, .b x.sched, .b x.stop, v, .i .i64 x.h0, .i .i64 x.h1, .i .i64 x.h2, .i .i64 x.h3, .i .i64 x.h4]
def rowsP (ow : Bool) (v : V) : List Part → List (List V)
  | [] => []
  | p :: l => (if ow = true then p.encO v else p.enc) :: l.map Part.enc
def rowsT (ow : Bool) (v : V) : List (List Node) → List (List V)
  | [] => []
  | t :: l => [if ow = true then v else .fl 3 (t.map Node.enc)] :: l.map Tab.enc
def r1 (ow : Bool) : List Part → List (List V)
  | [] => []
  | p :: _ => if ow = true then p.procs.map Proc.enc else []
def r2 (ow : Bool) : List (List Node) → List (List V)
  | [] => []
  | t :: _ => if ow = true then t.map Node.enc else []
theorem rowsP_snoc {ow : Bool} {v : V} {A : List Part} {p : Part} (h : A ≠ []) : rowsP ow v (A ++ [p]) = rowsP ow v A ++ [p.enc] := by
  cases A with
  | nil => exact absurd rfl h
  | cons a l => simp [rowsP]
theorem rowsT_snoc {ow : Bool} {v : V} {A : List (List Node)} {p : List Node} (h : A ≠ []) : rowsT ow v (A ++ [p]) = rowsT ow v A ++ [Tab.enc p] := by
  cases A with
  | nil => exact absurd rfl h
  | cons a l => simp [rowsT]
theorem rowsP_no {v : V} {A : List Part} : rowsP false v A = A.map Part.enc := by cases A <;> simp [rowsP]
theorem rowsT_no {v : V} {A : List (List Node)} : rowsT false v A = A.map Tab.enc := by cases A <;> simp [rowsT, Tab.enc]
theorem r1_snoc {ow : Bool} {A : List Part} {p : Part} (h : A ≠ []) : r1 ow (A ++ [p]) = r1 ow A := by
  cases A with
  | nil => exact absurd rfl h
  | cons a l => rfl
theorem r2_snoc {ow : Bool} {A : List (List Node)} {p : List Node} (h : A ≠ []) : r2 ow (A ++ [p]) = r2 ow A := by
  cases A with
  | nil => exact absurd rfl h
  | cons a l => rfl
def ownL (ow : Bool) (vp vc vt o1 o2 : V) (A : List Part) (X : List Chan) (B : List (List Node)) : List (Nat × V × List (List V)) :=
  [(11, vp, rowsP ow o1 A), (6, vc, X.map Chan.enc), (1, vt, rowsT ow o2 B), (2, o1, r1 ow A), (3, o2, r2 ow B)]
structure KS (ow : Bool) (C : Config) (h h' : AH) (vp vc vt o1 o2 : V) (A : List Part) (X : List Chan) (B : List (List Node)) : Prop where
  own : Owns (h.next + 3) h'.next h' (ownL ow vp vc vt o1 o2 A X B)
  lim : h'.lim = h.lim
  low : ∀ i, i < h.next → h'.get i = h.get i
  arg : h'.get h.next = some ⟨3, [C.enc]⟩
  res : h'.get (h.next + 1) = some ⟨3, [[.ns, .ns, .ns]]⟩
  box : h'.get (h.next + 2) = some ⟨3, [[vp, vc, vt]]⟩
end Go.Ab.T
namespace Go.Ab.T
open Go Go.Ab
set_option maxHeartbeats 4000000
section
variable {ow : Bool} {C : Config} {h h' : AH} {vp vc vt o1 o2 : V} {A : List Part} {X : List Chan} {B : List (List Node)}
theorem KS.keep {h2 : AH} (a : KS ow C h h' vp vc vt o1 o2 A X B) (hn : h'.next ≤ h2.next) (hl : h2.lim = h'.lim) (g : ∀ i, i < h'.next → h2.get i = h'.get i) : Owns (h.next + 3) h'.next h2 (ownL ow vp vc vt o1 o2 A X B) ∧ h2.lim = h.lim ∧ (∀ i, i < h.next → h2.get i = h.get i) ∧ h2.get h.next = some ⟨3, [C.enc]⟩ ∧ h2.get (h.next + 1) = some ⟨3, [[.ns, .ns, .ns]]⟩ ∧ h2.get (h.next + 2) = some ⟨3, [[vp, vc, vt]]⟩ := by
  have := a.own.bq
  exact ⟨a.own.keep hn g, hl.trans a.lim, fun i hi => (g i (by omega)).trans (a.low i hi), (g _ (by omega)).trans a.arg, (g _ (by omega)).trans a.res, (g _ (by omega)).trans a.box⟩
theorem KS.mk2 {h5 : AH} {q : Nat} {vp' vc' vt' o1' o2' : V} {A' : List Part} {X' : List Chan} {B' : List (List Node)} (o : Owns (h.next + 3) q h5 (ownL ow vp' vc' vt' o1' o2' A' X' B')) (hl : h5.lim = h.lim) (low : ∀ i, i < h.next → h5.get i = h.get i) (arg : h5.get h.next = some ⟨3, [C.enc]⟩) (res : h5.get (h.next + 1) = some ⟨3, [[.ns, .ns, .ns]]⟩) :
    KS ow C h (h5.put (h.next + 2) ⟨3, [[vp', vc', vt']]⟩) vp' vc' vt' o1' o2' A' X' B' := by
  have := o.bq; have := o.q2
  exact ⟨(o.put _ _ (.inl (by omega))).up (by rw [next_put]; omega) (Nat.le_refl _), hl, fun i hi => by rw [get_put, gsel_ne (by omega)]; exact low i hi, by rw [get_put, gsel_ne (by omega)]; exact arg, by rw [get_put, gsel_ne (by omega)]; exact res, by rw [get_put, gsel_eq rfl]⟩
theorem rowsP_len {ow : Bool} {v : V} {A : List Part} : (rowsP ow v A).length = A.length := by cases A <;> simp [rowsP]
theorem rowsT_len {ow : Bool} {v : V} {A : List (List Node)} : (rowsT ow v A).length = A.length := by cases A <;> simp [rowsT]
theorem own_next {i : Nat} {w : V} {Ps : List Part} (hcase : ¬ (ow = true ∧ i = 0)) (hi : i ≤ Ps.length) (hts : Ps.take (i + 1) = Ps.take i ++ [nth Ps i]) (hc : i < Ps.length) : ownL ow w .ns .ns o1 .ns (Ps.take (i + 1)) [] [] = (ownL ow vp .ns .ns o1 .ns (Ps.take i) [] []).set 0 (11, w, rowsP ow o1 (Ps.take i) ++ [(nth Ps i).enc]) := by
  rw [hts]
  by_cases h0 : i = 0
  · have hf : ow = false := by cases ow with | false => rfl | true => exact absurd ⟨rfl, h0⟩ hcase
    subst hf; subst h0
    simp [ownL, rowsP, r1]
  · have hne : Ps.take i ≠ [] := by
      intro h; have : (Ps.take i).length = 0 := by rw [h]; rfl
      rw [List.length_take] at this; omega
    rw [ownL, rowsP_snoc hne, r1_snoc hne]; rfl
theorem copy_parts {K : Ex → Env → AH → Prop} {e : Env} (hlo : h.lim ≤ h.next) (hPl : C.parts.length < 4000000000) (a : KS ow C h h' .ns .ns .ns .ns .ns [] [] [])
    (e1 : e 1 = .p h.next 0 0) (e2 : e 2 = .p (h.next + 1) 0 0) (e3 : e 3 = .p (h.next + 2) 0 0) (e9 : e 9 = .fl 11 (C.parts.map Part.enc)) (e10 : e 10 = .i .i64 C.parts.length) (e11 : e 11 = .i .i64 0)
    (kk : ∀ e' h' vp o1, e' 1 = .p h.next 0 0 → e' 2 = .p (h.next + 1) 0 0 → e' 3 = .p (h.next + 2) 0 0 → KS ow C h h' vp .ns .ns o1 .ns C.parts [] [] → K (.ex 0) e' h') : ZC tp (.loop Q16_8) e h' K := by
  refine ZC_loop_n (fun n' e hh => ∃ (i : Nat) (vp o1 : V), n' = C.parts.length - i ∧ e 1 = .p h.next 0 0 ∧ e 2 = .p (h.next + 1) 0 0 ∧ e 3 = .p (h.next + 2) 0 0 ∧ e 9 = .fl 11 (C.parts.map Part.enc) ∧ e 10 = .i .i64 C.parts.length ∧ e 11 = .i .i64 i ∧ i ≤ C.parts.length ∧ KS ow C h hh vp .ns .ns o1 .ns (C.parts.take i) [] []) ?_ _ _ _ ⟨0, .ns, .ns, rfl, e1, e2, e3, e9, e10, e11, by omega, a⟩
  clear e1 e2 e3 e9 e10 e11 e a
  rintro n' e hh ⟨i, vp, o1, rfl, e1, e2, e3, e9, e10, e11, hi, a⟩ ih
  have hbq := a.own.bq
  have hlh := a.lim
  rw [ZC_unf Q16_8.eq_1]
  simp (disch := omega) only [go_sem, *]
  refine Wb_dec (fun hc => ?_) (fun hc => ?_)
  · have hts := take_snoc (L := C.parts) (i := i) (by omega)
    simp (disch := omega) only [go_sem, *]
    have x1 : Ext hh ((hh.alloc ⟨11, [[.s ⟨#[]⟩, .i .i64 0, .i .i64 0, .b false, .b false, .ns, .i .i64 0, .i .i64 0, .i .i64 0, .i .i64 0, .i .i64 0]]⟩).put hh.next ⟨11, [(nth C.parts i).enc]⟩) := by (repeat (first | exact Ext.refl _ | refine Ext.alloc ?_ _ | (refine Ext.put ?_ _ _ ?_; rotate_left; (first | omega | (simp only [next_alloc, next_put]; omega)))))
    have b1 : ((hh.alloc ⟨11, [[.s ⟨#[]⟩, .i .i64 0, .i .i64 0, .b false, .b false, .ns, .i .i64 0, .i .i64 0, .i .i64 0, .i .i64 0, .i .i64 0]]⟩).put hh.next ⟨11, [(nth C.parts i).enc]⟩).get hh.next = some ⟨11, [(nth C.parts i).enc]⟩ := by rw [get_put, gsel_eq rfl]
    have n1 : hh.next < ((hh.alloc ⟨11, [[.s ⟨#[]⟩, .i .i64 0, .i .i64 0, .b false, .b false, .ns, .i .i64 0, .i .i64 0, .i .i64 0, .i .i64 0, .i .i64 0]]⟩).put hh.next ⟨11, [(nth C.parts i).enc]⟩).next := Nat.lt_succ_self _
    simp only [Part.enc] at x1 b1 n1
    generalize (hh.alloc ⟨11, [[.s ⟨#[]⟩, .i .i64 0, .i .i64 0, .b false, .b false, .ns, .i .i64 0, .i .i64 0, .i .i64 0, .i .i64 0, .i .i64 0]]⟩).put hh.next ⟨11, [[.s (nth C.parts i).name, .i .i64 (nth C.parts i).budget, .i .i64 (nth C.parts i).period, .b (nth C.parts i).sched, .b (nth C.parts i).stop, .fl 2 ((nth C.parts i).procs.map Proc.enc), .i .i64 (nth C.parts i).h0, .i .i64 (nth C.parts i).h1, .i .i64 (nth C.parts i).h2, .i .i64 (nth C.parts i).h3, .i .i64 (nth C.parts i).h4]]⟩ = h1 at x1 b1 n1 ⊢
    have hl1 := x1.lim
    by_cases hcase : ow = true ∧ i = 0
    · obtain ⟨rfl, rfl⟩ := hcase
      refine cloneProco (by omega) ?_
      intro r h2 s2 x2
      simp (disch := omega) only [go_sem, *]
      refine clipProco s2 ?_
      intro v s3
      have hb2 : h2.get hh.next = some ⟨11, [[.s (nth C.parts 0).name, .i .i64 (nth C.parts 0).budget, .i .i64 (nth C.parts 0).period, .b (nth C.parts 0).sched, .b (nth C.parts 0).stop, .fl 2 ((nth C.parts 0).procs.map Proc.enc), .i .i64 (nth C.parts 0).h0, .i .i64 (nth C.parts 0).h1, .i .i64 (nth C.parts 0).h2, .i .i64 (nth C.parts 0).h3, .i .i64 (nth C.parts 0).h4]]⟩ := (x2.get _ n1).trans b1
      have n2 := x2.next
      have l2 := x2.lim
      have x3 : Ext hh (h2.put hh.next ⟨11, [(nth C.parts 0).encO v]⟩) := (x1.trans x2).put _ _ (Nat.le_refl _)
      have b3 : (h2.put hh.next ⟨11, [(nth C.parts 0).encO v]⟩).get hh.next = some ⟨11, [(nth C.parts 0).encO v]⟩ := by rw [get_put, gsel_eq rfl]
      have s4 : Sl hh.next (h2.put hh.next ⟨11, [(nth C.parts 0).encO v]⟩) 2 v ((nth C.parts 0).procs.map Proc.enc) := Sl.weak (sl_put s3 _ _ ((sl_own s3).imp (fun x => x) (fun x => by omega))) (by omega)
      obtain ⟨_, _, _, _, _, _, _, vcell, vcells⟩ := s4.facts
      obtain ⟨o3, lim3, low3, arg3, res3, box3⟩ := a.keep x3.next x3.lim x3.get
      have o3 := o3.new (i := 3) (by simp [ownL]) s4
      have hts2 : C.parts.take (0 + 1) = [nth C.parts 0] := by rw [hts]; simp
      simp only [Part.encO] at x3 b3 o3 lim3 low3 arg3 res3 box3
      simp (disch := omega) only [go_sem, *]
      clear s2 s3 s4 x1 x2 hl1 b1 n1 hb2
      generalize h2.put hh.next ⟨11, [[.s (nth C.parts 0).name, .i .i64 (nth C.parts 0).budget, .i .i64 (nth C.parts 0).period, .b (nth C.parts 0).sched, .b (nth C.parts 0).stop, v, .i .i64 (nth C.parts 0).h0, .i .i64 (nth C.parts 0).h1, .i .i64 (nth C.parts 0).h2, .i .i64 (nth C.parts 0).h3, .i .i64 (nth C.parts 0).h4]]⟩ = h3 at x3 b3 o3 lim3 low3 arg3 res3 box3 ⊢
      have hbq3 := o3.bq
      have hq23 := o3.q2
      refine app_rule (N := [[.s (nth C.parts 0).name, .i .i64 (nth C.parts 0).budget, .i .i64 (nth C.parts 0).period, .b (nth C.parts 0).sched, .b (nth C.parts 0).stop, v, .i .i64 (nth C.parts 0).h0, .i .i64 (nth C.parts 0).h1, .i .i64 (nth C.parts 0).h2, .i .i64 (nth C.parts 0).h3, .i .i64 (nth C.parts 0).h4]]) ((o3.sl 0 _ rfl).alloc _) (by first | omega | (simp (disch := omega) only [go_sem, *] <;> omega)) (by first | omega | (simp (disch := omega) only [go_sem, *] <;> omega)) (by have hl := rowsP_len (ow := true) (v := o1) (A := C.parts.take 0); simp only [List.length_cons, List.length_nil, hl, List.length_take]; omega) ?_
      intro w h5 s5 g5
      have x5 := (Ext.refl h3).alloc ⟨11, [[.s (nth C.parts 0).name, .i .i64 (nth C.parts 0).budget, .i .i64 (nth C.parts 0).period, .b (nth C.parts 0).sched, .b (nth C.parts 0).stop, v, .i .i64 (nth C.parts 0).h0, .i .i64 (nth C.parts 0).h1, .i .i64 (nth C.parts 0).h2, .i .i64 (nth C.parts 0).h3, .i .i64 (nth C.parts 0).h4]]⟩
      have lo5 := o3.low (i := 0) rfl x5 g5
      have o5 := o3.grow (i := 0) rfl x5 g5 s5
      have hb5 : h5.get (h.next + 2) = some ⟨3, [[vp, .ns, .ns]]⟩ := (lo5 _ (by omega)).trans box3
      have l5 := g5.lim
      have hc5 := g5.cell
      have hcs5 := g5.cells
      simp only [lim_alloc] at l5
      have k5 : KS true C h (h5.put (h.next + 2) ⟨3, [[w, .ns, .ns]]⟩) w .ns .ns v .ns (C.parts.take (0 + 1)) [] [] := KS.mk2 (q := h5.next) (by
        have e : ownL true w .ns .ns v .ns (C.parts.take (0 + 1)) [] [] = ((ownL true vp .ns .ns o1 .ns (C.parts.take 0) [] []).set 3 (2, v, (nth C.parts 0).procs.map Proc.enc)).set 0 (11, w, rowsP true o1 (C.parts.take 0) ++ [[.s (nth C.parts 0).name, .i .i64 (nth C.parts 0).budget, .i .i64 (nth C.parts 0).period, .b (nth C.parts 0).sched, .b (nth C.parts 0).stop, v, .i .i64 (nth C.parts 0).h0, .i .i64 (nth C.parts 0).h1, .i .i64 (nth C.parts 0).h2, .i .i64 (nth C.parts 0).h3, .i .i64 (nth C.parts 0).h4]]) := (by rw [hts2]; simp [ownL, rowsP, r1, Part.encO])
        rw [e]; exact o5) (by omega) (fun i hi => (lo5 i (by omega)).trans (low3 i hi)) ((lo5 _ (by omega)).trans arg3) ((lo5 _ (by omega)).trans res3)
      clear s5 g5 x5 o5 lo5 hts hts2 o3
      simp (disch := omega) only [go_sem, *]
      refine ih _ _ _ ?_ ⟨0 + 1, w, v, rfl, ?_⟩
      · omega
      · clear ih kk
        simp (disch := omega) only [go_sem, *]
        ((repeat' refine And.intro ?_ ?_) <;> first | omega | assumption | (exact k5))
    · obtain ⟨_, _, _, _, _, box1⟩ := a.keep x1.next x1.lim x1.get
      have x3 : Ext hh (h1.put hh.next ⟨11, [[.s (nth C.parts i).name, .i .i64 (nth C.parts i).budget, .i .i64 (nth C.parts i).period, .b (nth C.parts i).sched, .b (nth C.parts i).stop, .fl 2 ((nth C.parts i).procs.map Proc.enc), .i .i64 (nth C.parts i).h0, .i .i64 (nth C.parts i).h1, .i .i64 (nth C.parts i).h2, .i .i64 (nth C.parts i).h3, .i .i64 (nth C.parts i).h4]]⟩) := x1.put _ _ (Nat.le_refl _)
      obtain ⟨o3, lim3, low3, arg3, res3, box3⟩ := a.keep x3.next x3.lim x3.get
      refine Pf.go (cloneProc_ev) (by simp only [go_sem]) fun _ => ?_; simp (disch := omega) only [go_sem, *]
      refine Pf.go (clipProc_ev) (by simp only [go_sem]) fun _ => ?_; simp (disch := omega) only [go_sem, *]
      clear hl1 b1 box1
      have n3 : hh.next < (h1.put hh.next ⟨11, [[.s (nth C.parts i).name, .i .i64 (nth C.parts i).budget, .i .i64 (nth C.parts i).period, .b (nth C.parts i).sched, .b (nth C.parts i).stop, .fl 2 ((nth C.parts i).procs.map Proc.enc), .i .i64 (nth C.parts i).h0, .i .i64 (nth C.parts i).h1, .i .i64 (nth C.parts i).h2, .i .i64 (nth C.parts i).h3, .i .i64 (nth C.parts i).h4]]⟩).next := n1
      generalize h1.put hh.next ⟨11, [[.s (nth C.parts i).name, .i .i64 (nth C.parts i).budget, .i .i64 (nth C.parts i).period, .b (nth C.parts i).sched, .b (nth C.parts i).stop, .fl 2 ((nth C.parts i).procs.map Proc.enc), .i .i64 (nth C.parts i).h0, .i .i64 (nth C.parts i).h1, .i .i64 (nth C.parts i).h2, .i .i64 (nth C.parts i).h3, .i .i64 (nth C.parts i).h4]]⟩ = h3 at x3 o3 lim3 low3 arg3 res3 box3 n3 ⊢
      clear x1 n1
      have o3 := o3.up (Nat.le_of_lt n3) (Nat.le_refl _)
      have hbq3 := o3.bq
      have hq23 := o3.q2
      refine app_rule (N := [[.s (nth C.parts i).name, .i .i64 (nth C.parts i).budget, .i .i64 (nth C.parts i).period, .b (nth C.parts i).sched, .b (nth C.parts i).stop, .fl 2 ((nth C.parts i).procs.map Proc.enc), .i .i64 (nth C.parts i).h0, .i .i64 (nth C.parts i).h1, .i .i64 (nth C.parts i).h2, .i .i64 (nth C.parts i).h3, .i .i64 (nth C.parts i).h4]]) ((o3.sl 0 _ rfl).alloc _) (by first | omega | (simp (disch := omega) only [go_sem, *] <;> omega)) (by first | omega | (simp (disch := omega) only [go_sem, *] <;> omega)) (by have hl := rowsP_len (ow := ow) (v := o1) (A := C.parts.take i); simp only [List.length_cons, List.length_nil, hl, List.length_take]; omega) ?_
      intro w h5 s5 g5
      have x5 := (Ext.refl h3).alloc ⟨11, [[.s (nth C.parts i).name, .i .i64 (nth C.parts i).budget, .i .i64 (nth C.parts i).period, .b (nth C.parts i).sched, .b (nth C.parts i).stop, .fl 2 ((nth C.parts i).procs.map Proc.enc), .i .i64 (nth C.parts i).h0, .i .i64 (nth C.parts i).h1, .i .i64 (nth C.parts i).h2, .i .i64 (nth C.parts i).h3, .i .i64 (nth C.parts i).h4]]⟩
      have lo5 := o3.low (i := 0) rfl x5 g5
      have o5 := o3.grow (i := 0) rfl x5 g5 s5
      have hb5 : h5.get (h.next + 2) = some ⟨3, [[vp, .ns, .ns]]⟩ := (lo5 _ (by omega)).trans box3
      have l5 := g5.lim
      have hc5 := g5.cell
      have hcs5 := g5.cells
      simp only [lim_alloc] at l5
      have k5 : KS ow C h (h5.put (h.next + 2) ⟨3, [[w, .ns, .ns]]⟩) w .ns .ns o1 .ns (C.parts.take (i + 1)) [] [] := KS.mk2 (q := h5.next) (by
        have e : ownL ow w .ns .ns o1 .ns (C.parts.take (i + 1)) [] [] = (ownL ow vp .ns .ns o1 .ns (C.parts.take i) [] []).set 0 (11, w, rowsP ow o1 (C.parts.take i) ++ [[.s (nth C.parts i).name, .i .i64 (nth C.parts i).budget, .i .i64 (nth C.parts i).period, .b (nth C.parts i).sched, .b (nth C.parts i).stop, .fl 2 ((nth C.parts i).procs.map Proc.enc), .i .i64 (nth C.parts i).h0, .i .i64 (nth C.parts i).h1, .i .i64 (nth C.parts i).h2, .i .i64 (nth C.parts i).h3, .i .i64 (nth C.parts i).h4]]) := (own_next hcase hi hts (by omega))
        rw [e]; exact o5) (by omega) (fun i hi => (lo5 i (by omega)).trans (low3 i hi)) ((lo5 _ (by omega)).trans arg3) ((lo5 _ (by omega)).trans res3)
      clear s5 g5 x5 o5 lo5 hts o3
      simp (disch := omega) only [go_sem, *]
      refine ih _ _ _ ?_ ⟨i + 1, w, o1, rfl, ?_⟩
      · omega
      · clear ih kk
        simp (disch := omega) only [go_sem, *]
        ((repeat' refine And.intro ?_ ?_) <;> first | omega | assumption | (exact k5))
  · obtain rfl : i = C.parts.length := by omega
    rw [List.take_length] at a
    simp (disch := omega) only [go_sem, *]
    exact kk _ hh vp o1 e1 e2 e3 a
end
end Go.Ab.T
namespace Go.Ab.T
open Go Go.Ab
set_option maxHeartbeats 4000000
section
variable {ow : Bool} {C : Config} {h h' : AH} {vp vc vt o1 o2 : V} {A : List Part} {X : List Chan} {B : List (List Node)}
theorem own_nextT {i : Nat} {w : V} {Ts : List (List Node)} (hcase : ¬ (ow = true ∧ i = 0)) (hi : i ≤ Ts.length) (hts : Ts.take (i + 1) = Ts.take i ++ [nth Ts i]) (hc : i < Ts.length) : ownL ow vp vc w o1 o2 A X (Ts.take (i + 1)) = (ownL ow vp vc vt o1 o2 A X (Ts.take i)).set 2 (1, w, rowsT ow o2 (Ts.take i) ++ [Tab.enc (nth Ts i)]) := by
  rw [hts]
  by_cases h0 : i = 0
  · have hf : ow = false := by cases ow with | false => rfl | true => exact absurd ⟨rfl, h0⟩ hcase
    subst hf; subst h0
    simp [ownL, rowsT, r2, Tab.enc]
  · have hne : Ts.take i ≠ [] := by
      intro h; have : (Ts.take i).length = 0 := by rw [h]; rfl
      rw [List.length_take] at this; omega
    rw [ownL, rowsT_snoc hne, r2_snoc hne]; rfl
theorem copy_tabs {K : Ex → Env → AH → Prop} {e : Env} (hlo : h.lim ≤ h.next) (hPl : C.tables.length < 4000000000) (a : KS ow C h h' vp vc .ns o1 .ns A X [])
    (e2 : e 2 = .p (h.next + 1) 0 0) (e3 : e 3 = .p (h.next + 2) 0 0) (e33 : e 33 = .fl 1 (C.tables.map Tab.enc)) (e34 : e 34 = .i .i64 C.tables.length) (e35 : e 35 = .i .i64 0)
    (kk : ∀ e' h' vt o2, e' 2 = .p (h.next + 1) 0 0 → e' 3 = .p (h.next + 2) 0 0 → KS ow C h h' vp vc vt o1 o2 A X C.tables → K (.ex 2) e' h') : ZC tp (.loop Q16_15) e h' K := by
  refine ZC_loop_n (fun n' e hh => ∃ (i : Nat) (vt o2 : V), n' = C.tables.length - i ∧ e 2 = .p (h.next + 1) 0 0 ∧ e 3 = .p (h.next + 2) 0 0 ∧ e 33 = .fl 1 (C.tables.map Tab.enc) ∧ e 34 = .i .i64 C.tables.length ∧ e 35 = .i .i64 i ∧ i ≤ C.tables.length ∧ KS ow C h hh vp vc vt o1 o2 A X (C.tables.take i)) ?_ _ _ _ ⟨0, .ns, .ns, rfl, e2, e3, e33, e34, e35, by omega, a⟩
  clear e2 e3 e33 e34 e35 e a
  rintro n' e hh ⟨i, vt, o2, rfl, e2, e3, e33, e34, e35, hi, a⟩ ih
  have hbq := a.own.bq
  have hlq : hh.lim ≤ h.next := by rw [a.lim]; exact hlo
  have hbx := a.box
  rw [ZC_unf Q16_15.eq_1]
  simp (disch := omega) only [go_sem, *]
  refine Wb_dec (fun hc => ?_) (fun hc => ?_)
  · have hts := take_snoc (L := C.tables) (i := i) (by omega)
    simp (disch := omega) only [go_sem, *]
    by_cases hcase : ow = true ∧ i = 0
    · obtain ⟨rfl, rfl⟩ := hcase
      refine cloneNodeo (by rw [lim_raise, next_raise]; exact Nat.le_refl _) ?_
      intro r h2 s2 x2
      have x3 : Ext hh (h2.back hh.lim) := ⟨x2.next, rfl, x2.get⟩
      have s3 : Sl hh.next (h2.back hh.lim) 3 r ((nth C.tables 0).map Node.enc) := s2
      simp (disch := omega) only [go_sem, *]
      generalize h2.back hh.lim = h3 at x3 s3 ⊢
      clear s2 x2
      have hrb : h3.raise.back hh.lim = h3 := by rw [← x3.lim]; exact raise_back
      refine clipNodeo s3.raise ?_
      intro v s4
      have s4 : Sl hh.next h3 3 v ((nth C.tables 0).map Node.enc) := s4
      obtain ⟨_, _, _, _, _, _, _, vcell, vcells⟩ := s4.facts
      obtain ⟨o3, lim3, low3, arg3, res3, box3⟩ := a.keep x3.next x3.lim x3.get
      have o3 := o3.new (i := 4) (by simp [ownL]) s4
      have hts2 : C.tables.take (0 + 1) = [nth C.tables 0] := by rw [hts]; simp
      simp (disch := omega) only [go_sem, *]
      have hbq3 := o3.bq
      have hq23 := o3.q2
      refine app_rule (N := [[v]]) ((o3.sl 2 _ rfl).alloc _) (by first | omega | (simp (disch := omega) only [go_sem, *] <;> omega)) (by first | omega | (simp (disch := omega) only [go_sem, *] <;> omega)) (by have hl := rowsT_len (ow := true) (v := o2) (A := C.tables.take 0); simp only [List.length_cons, List.length_nil, hl, List.length_take]; omega) ?_
      intro w h5 s5 g5
      have x5 := (Ext.refl h3).alloc ⟨1, [[v]]⟩
      have lo5 := o3.low (i := 2) rfl x5 g5
      have o5 := o3.grow (i := 2) rfl x5 g5 s5
      have hb5 : h5.get (h.next + 2) = some ⟨3, [[vp, vc, vt]]⟩ := (lo5 _ (by omega)).trans box3
      have l5 := g5.lim
      have hc5 := g5.cell
      have hcs5 := g5.cells
      simp only [lim_alloc] at l5
      have k5 : KS true C h (h5.put (h.next + 2) ⟨3, [[vp, vc, w]]⟩) vp vc w o1 v A X (C.tables.take (0 + 1)) := KS.mk2 (q := h5.next) (by
        have e : ownL true vp vc w o1 v A X (C.tables.take (0 + 1)) = ((ownL true vp vc vt o1 o2 A X (C.tables.take 0)).set 4 (3, v, (nth C.tables 0).map Node.enc)).set 2 (1, w, rowsT true o2 (C.tables.take 0) ++ [[v]]) := (by rw [hts2]; simp [ownL, rowsT, r2])
        rw [e]; exact o5) (by omega) (fun i hi => (lo5 i (by omega)).trans (low3 i hi)) ((lo5 _ (by omega)).trans arg3) ((lo5 _ (by omega)).trans res3)
      have lq5 : h5.lim ≤ h.next := by omega
      clear s5 g5 x5 o5 lo5 hts l5 hts2 o3
      simp (disch := omega) only [go_sem, *]
      refine ih _ _ _ ?_ ⟨0 + 1, w, v, rfl, ?_⟩
      · omega
      · clear ih kk
        simp (disch := omega) only [go_sem, *]
        ((repeat' refine And.intro ?_ ?_) <;> first | omega | assumption | (exact k5))
    · refine Pf.go (cloneNode_ev) (by simp only [go_sem]) fun _ => ?_; simp (disch := omega) only [go_sem, *]
      refine Pf.go (clipNode_ev) (by simp only [go_sem]) fun _ => ?_; simp (disch := omega) only [go_sem, *]
      obtain ⟨o3, lim3, low3, arg3, res3, box3⟩ := a.keep (h2 := hh) (Nat.le_refl _) rfl (fun _ _ => rfl)
      generalize hh = h3 at *
      have hbq3 := o3.bq
      have hq23 := o3.q2
      refine app_rule (N := [[.fl 3 ((nth C.tables i).map Node.enc)]]) ((o3.sl 2 _ rfl).alloc _) (by first | omega | (simp (disch := omega) only [go_sem, *] <;> omega)) (by first | omega | (simp (disch := omega) only [go_sem, *] <;> omega)) (by have hl := rowsT_len (ow := ow) (v := o2) (A := C.tables.take i); simp only [List.length_cons, List.length_nil, hl, List.length_take]; omega) ?_
      intro w h5 s5 g5
      have x5 := (Ext.refl h3).alloc ⟨1, [[.fl 3 ((nth C.tables i).map Node.enc)]]⟩
      have lo5 := o3.low (i := 2) rfl x5 g5
      have o5 := o3.grow (i := 2) rfl x5 g5 s5
      have hb5 : h5.get (h.next + 2) = some ⟨3, [[vp, vc, vt]]⟩ := (lo5 _ (by omega)).trans box3
      have l5 := g5.lim
      have hc5 := g5.cell
      have hcs5 := g5.cells
      simp only [lim_alloc] at l5
      have k5 : KS ow C h (h5.put (h.next + 2) ⟨3, [[vp, vc, w]]⟩) vp vc w o1 o2 A X (C.tables.take (i + 1)) := KS.mk2 (q := h5.next) (by
        have e : ownL ow vp vc w o1 o2 A X (C.tables.take (i + 1)) = (ownL ow vp vc vt o1 o2 A X (C.tables.take i)).set 2 (1, w, rowsT ow o2 (C.tables.take i) ++ [[.fl 3 ((nth C.tables i).map Node.enc)]]) := (own_nextT hcase hi hts (by omega))
        rw [e]; exact o5) (by omega) (fun i hi => (lo5 i (by omega)).trans (low3 i hi)) ((lo5 _ (by omega)).trans arg3) ((lo5 _ (by omega)).trans res3)
      have lq5 : h5.lim ≤ h.next := by omega
      clear s5 g5 x5 o5 lo5 hts l5 o3
      simp (disch := omega) only [go_sem, *]
      refine ih _ _ _ ?_ ⟨i + 1, w, o2, rfl, ?_⟩
      · omega
      · clear ih kk
        simp (disch := omega) only [go_sem, *]
        ((repeat' refine And.intro ?_ ?_) <;> first | omega | assumption | (exact k5))
  · obtain rfl : i = C.tables.length := by omega
    rw [List.take_length] at a
    simp (disch := omega) only [go_sem, *]
    exact kk _ hh vt o2 e2 e3 a
end
end Go.Ab.T
namespace Go.Ab.T
open Go Go.Ab
set_option maxHeartbeats 4000000
theorem sl_cell {b sz : Nat} {h : AH} {v : V} {R : List (List V)} (s : Sl b h sz v R) : v.isCell = true ∧ v.cells = [v] := by
  rcases s with ⟨hv, _⟩ | ⟨_, _, _, _, rfl, _⟩
  · rcases hv with rfl | rfl <;> exact ⟨rfl, rfl⟩
  · exact ⟨rfl, rfl⟩
theorem copy_body {ow : Bool} {C : Config} {h : AH} {K : V → AH → Prop} (hlo : h.lim ≤ h.next) (hPl : C.parts.length < 4000000000) (hTl : C.tables.length < 4000000000)
    (kk : ∀ vp vc vt o1 o2 h2, Owns (h.next + 3) h2.next h2 (ownL ow vp vc vt o1 o2 C.parts C.chans C.tables) → h2.lim = h.lim → (∀ i, i < h.next → h2.get i = h.get i) → K (.agg [vp, vc, vt]) h2) :
    ZC tp t_Q16.body (env0 [.agg C.enc]) h (fun x e h2 => Zend t_Q16.res x e h2 K) := by
  unfold t_Q16
  simp (disch := omega) only [go_sem, *]
  have x0 : Ext h (((h.alloc ⟨3, [C.enc]⟩).alloc ⟨3, [[.ns, .ns, .ns]]⟩).alloc ⟨3, [[.ns, .ns, .ns]]⟩) := by (repeat (first | exact Ext.refl _ | refine Ext.alloc ?_ _ | (refine Ext.put ?_ _ _ ?_; rotate_left; (first | omega | (simp only [next_alloc, next_put]; omega)))))
  have k0 : KS ow C h (((h.alloc ⟨3, [C.enc]⟩).alloc ⟨3, [[.ns, .ns, .ns]]⟩).alloc ⟨3, [[.ns, .ns, .ns]]⟩) .ns .ns .ns .ns .ns [] [] [] := by
    refine ⟨Owns.nil (by simp only [next_alloc]; omega) (fun a ha => ?_), rfl, x0.get, by simp (disch := omega) only [go_sem, *], by simp (disch := omega) only [go_sem, *], by simp (disch := omega) only [go_sem, *]⟩
    simp only [ownL, List.mem_cons, List.not_mem_nil, or_false] at ha
    rcases ha with rfl | rfl | rfl | rfl | rfl <;> simp [rowsP, rowsT, r1, r2]
  simp only [Config.enc] at k0
  refine copy_parts hlo hPl k0 (by simp (disch := omega) only [go_sem, *]) (by simp (disch := omega) only [go_sem, *]) (by simp (disch := omega) only [go_sem, *]) (by simp (disch := omega) only [go_sem, *]) (by simp (disch := omega) only [go_sem, *]) (by simp (disch := omega) only [go_sem, *]) ?_
  clear k0 x0
  intro e h1 vp o1 e1 e2 e3 a
  have harg := a.arg
  have hbq := a.own.bq
  simp only [Config.enc] at harg
  simp (disch := omega) only [go_sem, *]
  have hl1 := a.lim
  refine cloneChano (by omega) ?_
  intro r h2 s2 x2
  have hn2 := x2.next
  simp (disch := omega) only [go_sem, *]
  refine clipChano s2 ?_
  intro v s3
  obtain ⟨_, _, _, _, _, _, _, vcell, vcells⟩ := s3.facts
  obtain ⟨o3, lim3, low3, arg3, res3, box3⟩ := a.keep x2.next x2.lim x2.get
  have o3 := o3.new (i := 1) (by simp [ownL]) s3
  have e4 : (ownL ow vp .ns .ns o1 .ns C.parts [] []).set 1 (6, v, C.chans.map Chan.enc) = ownL ow vp v .ns o1 .ns C.parts C.chans [] := rfl
  rw [e4] at o3
  have a3 := KS.mk2 (ow := ow) (C := C) o3 lim3 low3 arg3 res3
  have harg3 := arg3
  have hl2 := x2.lim
  simp only [Config.enc] at harg3
  clear e4 s2 s3 o3 low3 res3 arg3 harg a
  simp (disch := omega) only [go_sem, *]
  refine copy_tabs hlo hTl a3 (by simp (disch := omega) only [go_sem, *]) (by simp (disch := omega) only [go_sem, *]) (by simp (disch := omega) only [go_sem, *]) (by simp (disch := omega) only [go_sem, *]) (by simp (disch := omega) only [go_sem, *]) ?_
  clear e1 e2 e3 a3 harg3 box3 hn2 lim3 hl1 hl2 x2 hbq
  intro e h1 vt o2 e2 e3 a
  have hbox := a.box
  have hres := a.res
  have hbq := a.own.bq
  have hlq : h1.lim ≤ h.next := by rw [a.lim]; exact hlo
  have f := kk vp v vt o1 o2 (h1.put (h.next + 1) ⟨3, [[vp, v, vt]]⟩) (a.own.put _ _ (.inl (by omega))) a.lim (fun i hi => by rw [get_put, gsel_ne (by omega)]; exact a.low i hi)
  obtain ⟨c1, c2⟩ := sl_cell (a.own.sl 0 (11, vp, _) rfl)
  obtain ⟨c3, c4⟩ := sl_cell (a.own.sl 1 (6, v, _) rfl)
  obtain ⟨c5, c6⟩ := sl_cell (a.own.sl 2 (1, vt, _) rfl)
  dsimp only at c1 c2 c3 c4 c5 c6
  clear kk
  simp (disch := omega) only [go_sem, *]
theorem copy_ev {C : Config} : Pf tp i_Q16 [.agg C.enc] (.agg C.enc) := by
  refine Pf_go fn_Q16 (by simp [t_Q16]) fun rp => ?_
  have hcl := Rep.len (rp.head.agg (.fl 6 (C.chans.map Chan.enc)) (by simp [Config.enc]))
  have hpl := Rep.len (rp.head.agg (.fl 11 (C.parts.map Part.enc)) (by simp [Config.enc]))
  have htl := Rep.len (rp.head.agg (.fl 1 (C.tables.map Tab.enc)) (by simp [Config.enc]))
  refine copy_body (ow := false) (Nat.zero_le _) hpl htl ?_
  intro vp vc vt o1 o2 h2 o hl low
  have s0 := o.sl 0 _ rfl
  have s1 := o.sl 1 _ rfl
  have s2 := o.sl 2 _ rfl
  simp only [rowsP_no, rowsT_no] at s0 s1 s2
  exact .agg _ _ _ (.cons _ _ _ _ _ (s0.froze (fun _ => rfl) trivial hpl) (.cons _ _ _ _ _ (s1.froze (fun _ => rfl) trivial hcl) (.cons _ _ _ _ _ (s2.froze (fun _ => rfl) trivial htl) (.nil _))))
end Go.Ab.T
namespace Go.Ab.T
open Go Go.Ab
set_option maxHeartbeats 4000000
theorem same12_ev {C : Config} (hnm : NmOk C) : Pf tp i_Q7 [.agg C.enc] (.b true) := by
  refine Pf_go fn_Q7 (by simp [t_Q7]) fun rp => ?_; unfold t_Q7; simp (disch := omega) only [go_sem, *]
  refine Pf.go (where_ev hnm) (by simp only [go_sem]) fun _ => ?_; simp (disch := omega) only [go_sem, *]
  refine Pf.go (refWhere_ev hnm) (by simp only [go_sem]) fun _ => ?_; simp (disch := omega) only [go_sem, *]
  refine Pf.go (right_ev hnm) (by simp only [go_sem]) fun _ => ?_; simp (disch := omega) only [go_sem, *]
  refine Pf.go (csame_ev (a := C) (b := C)) (by simp only [go_sem]) fun _ => ?_; simp (disch := omega) only [go_sem, *]
  refine Pf.go (copy_ev (C := C)) (by simp only [go_sem]) fun _ => ?_; simp (disch := omega) only [go_sem, *]
  refine Pf.go (rsame_ev (a := C) (b := C)) (by simp only [go_sem]) fun _ => ?_; simp (disch := omega) only [go_sem, *]
theorem Cq_fixg {tp : TP} {f : Nat} {args args' : List V} {h h2 : AH} {K : V → AH → Prop} (P : Nat → Prop) (hn : h2.next = h.next) (hl : h2.lim = h.lim)
    (hb : Wf h → ∀ i k, h2.get i = some k → i < h2.next ∧ ¬ P i ∧ ∃ cs, h.get i = some ⟨k.sz, cs⟩ ∧ Frzr P h h2.next cs k.cs) (hz : Frzs P h h2.next args args') (z : Cq tp f args' h2 K) : Cq tp f args h K := by
  intro S m hc args1 c p
  have wf := c.wf
  have st : ∀ r R, Frz P h h2.next r R → Settle h h r P R h2 := fun r R f => ⟨Nat.le_of_eq hn.symm, hl, Nat.le_of_eq hn, hb wf, f⟩
  obtain ⟨q1, q2, _⟩ := (st .u .u (.z _ _ .u)).ok c c (Adv.refl c) (.u _ .u)
  have hz2 := Frzs.ok c hz p
  refine (z _ m hc args1 q1 hz2).imp ?_
  rintro r1 hc' ⟨r, h', S', m', c', a', q, k⟩
  exact ⟨r, h', S', m', c', q2.trans a', q, k⟩
def kP : Part := ⟨⟨#[97]⟩, 0, 0, false, false, [⟨0, 0⟩], 0, 0, 0, 0, 0⟩
def kC : Config := ⟨[kP], [], [[⟨1, 0, 1⟩]]⟩
def kD : Config := ⟨[kP], [⟨0, 0, false, 0, 0, 0⟩], [[⟨1, 0, 1⟩]]⟩
theorem kP_name : nameB kP.name = true := by unfold nameB; decide
theorem kP_part : partB kP = true := by
  unfold partB
  have : procsB kP.procs = true := by unfold procsB; decide
  rw [this]; decide
theorem kP_good {j : Nat} (h : j < 1) : GoodP [kP] j := by
  obtain rfl : j = 0 := by omega
  exact ⟨kP_name, rfl, kP_part⟩
theorem k_tab : TabOk 1 [⟨1, 0, 1⟩] := by
  refine TabOk.of (by omega) ?_ (PtOk.one (by simp) (by simp))
  have e : ([⟨1, 0, 1⟩] : List Node) = (Fo.leaf ⟨1, 0, 1⟩ .nil).flat := rfl
  have hr : rightR [⟨1, 0, 1⟩] = 0 := by
    rw [e]
    exact right_flat ⟨rfl, trivial⟩ rfl (by simp [Fo.depth]) (by simp [Fo.len]) (by simp [Fo.flat])
  rw [ofR_good hr]
  obtain ⟨_, ho, hc1, hL, hd, hl⟩ := foOf_ok hr
  have hap := Fo.runs_allpos _ ho
  have hsum := Fo.runs_sum _ ho
  have hrl := Fo.runs_len _ ho
  have ht := tidyOf hap (by omega)
  have : (foOf [⟨1, 0, 1⟩]).len = 1 := by
    have m1 := (measured_flat ho hc1).2
    have m2 := (measured_flat (f := Fo.leaf ⟨1, 0, 1⟩ .nil) ⟨rfl, trivial⟩ rfl).2
    rw [← hL] at m1
    rw [← e] at m2
    rw [m1] at m2
    have l2 : (Fo.leaf ⟨1, 0, 1⟩ .nil).len = 1 := rfl
    rw [l2] at m2
    omega
  rw [if_neg (by unfold ofT; have := ht.len; omega)]
theorem kC_where : whereR kC = (0, -1) := by
  rw [where_iff]
  refine ⟨⟨by decide, by decide, by decide, by decide, by decide⟩, fun j hj => kP_good hj, fun x hx => (by cases hx), fun t ht => ?_⟩
  rw [List.mem_singleton.1 ht, tableR_iff]
  refine ⟨k_tab, ?_⟩
  rw [holdsR_iff]
  exact ⟨rfl, ptShort_zero _ _ fun p hp => by rw [List.mem_singleton.1 hp]; rfl⟩
theorem kD_where : whereR kD = (17, 0) := by
  have hc : chanB 1 ⟨0, 0, false, 0, 0, 0⟩ = false := by unfold chanB; decide
  unfold whereR
  rw [if_neg (by decide)]
  show whParts kD 0 [kP] = _
  rw [whParts, if_neg (by rw [kP_name]; simp), if_neg (by rw [kP_part]; simp), whParts]
  show whChans kD 0 [_] = _
  rw [whChans, if_pos (show chanB (kD.parts.length : Int) ⟨0, 0, false, 0, 0, 0⟩ = false from hc)]; rfl
theorem k0_where : whereR ⟨[], [], []⟩ = (3, 0) := if_pos (by decide)
theorem kC_nm : NmOk kC := fun p hp => by rw [List.mem_singleton.1 hp]; decide
theorem kD_nm : NmOk kD := fun p hp => by rw [List.mem_singleton.1 hp]; decide
def kH : AH := ⟨fun i => if i = 4 then some ⟨3, [kC.enc]⟩ else if i = 5 then some ⟨3, [kD.enc]⟩ else none, 7, 0⟩
theorem kH_4 : kH.get 4 = some ⟨3, [kC.enc]⟩ := rfl
theorem kH_5 : kH.get 5 = some ⟨3, [kD.enc]⟩ := rfl
theorem frz_sl {P : Nat → Prop} {h : AH} {n id sz : Nat} {r r' : List V} (hP : P id) (hg : h.get id = some ⟨sz, [r]⟩) (q : Frzs P h 0 r r') : Frz P h n (.sl id 0 1 1) (.fl sz [r']) :=
  .sl _ _ _ _ _ _ [r] _ hP hg (by simp) (by omega) (by decide) (.cons _ _ _ _ _ q (.nil _))
theorem k_fix {h : AH} {f : Nat} {K : V → AH → Prop} (hn : h.next = 7) (hl : h.lim = 0) (g0 : h.get 0 = some ⟨2, [[.i .i64 0, .i .i64 0]]⟩) (g1 : h.get 1 = some ⟨11, [[.s ⟨#[97]⟩, .i .i64 0, .i .i64 0, .b false, .b false, .sl 0 0 1 1, .i .i64 0, .i .i64 0, .i .i64 0, .i .i64 0, .i .i64 0]]⟩)
    (g2 : h.get 2 = some ⟨3, [[.i .i64 1, .i .i64 0, .i .i64 1]]⟩) (g3 : h.get 3 = some ⟨1, [[.sl 2 0 1 1]]⟩) (g4 : h.get 4 = some ⟨3, [[.sl 1 0 1 1, .ns, .sl 3 0 1 1]]⟩) (g5 : h.get 5 = some ⟨3, [[.sl 1 0 1 1, .sl 6 0 1 1, .sl 3 0 1 1]]⟩) (g6 : h.get 6 = some ⟨6, [[.i .i64 0, .i .i64 0, .b false, .i .i64 0, .i .u32 0, .i .i64 0]]⟩)
    (z : Cq tp f [.agg kD.enc] kH K) : Cq tp f [.agg [.sl 1 0 1 1, .sl 6 0 1 1, .sl 3 0 1 1]] h K := by
  have zz : ∀ {n : Nat} {v : V}, Plain0 v → Frz (fun i => i ≠ 4 ∧ i ≠ 5) h n v v := fun h0 => .z _ _ h0
  have fp : ∀ n, Frz (fun i => i ≠ 4 ∧ i ≠ 5) h n (.sl 1 0 1 1) (.fl 11 [kP.enc]) := fun n => frz_sl (by decide) g1 (.cons _ _ _ _ _ (zz (.s _)) (.cons _ _ _ _ _ (zz (.i _ _)) (.cons _ _ _ _ _ (zz (.i _ _)) (.cons _ _ _ _ _ (zz (.b _)) (.cons _ _ _ _ _ (zz (.b _)) (.cons _ _ _ _ _ (frz_sl (by decide) g0 (.cons _ _ _ _ _ (zz (.i _ _)) (.cons _ _ _ _ _ (zz (.i _ _)) (.nil _)))) (.cons _ _ _ _ _ (zz (.i _ _)) (.cons _ _ _ _ _ (zz (.i _ _)) (.cons _ _ _ _ _ (zz (.i _ _)) (.cons _ _ _ _ _ (zz (.i _ _)) (.cons _ _ _ _ _ (zz (.i _ _)) (.nil _))))))))))))
  have ft : ∀ n, Frz (fun i => i ≠ 4 ∧ i ≠ 5) h n (.sl 3 0 1 1) (.fl 1 [Tab.enc [⟨1, 0, 1⟩]]) := fun n => frz_sl (by decide) g3 (.cons _ _ _ _ _ (frz_sl (by decide) g2 (.cons _ _ _ _ _ (zz (.i _ _)) (.cons _ _ _ _ _ (zz (.i _ _)) (.cons _ _ _ _ _ (zz (.i _ _)) (.nil _))))) (.nil _))
  have fc : ∀ n, Frz (fun i => i ≠ 4 ∧ i ≠ 5) h n (.sl 6 0 1 1) (.fl 6 [Chan.enc ⟨0, 0, false, 0, 0, 0⟩]) := fun n => frz_sl (by decide) g6 (.cons _ _ _ _ _ (zz (.i _ _)) (.cons _ _ _ _ _ (zz (.i _ _)) (.cons _ _ _ _ _ (zz (.b _)) (.cons _ _ _ _ _ (zz (.i _ _)) (.cons _ _ _ _ _ (zz (.i _ _)) (.cons _ _ _ _ _ (zz (.i _ _)) (.nil _)))))))
  refine Cq_fixg (fun i => i ≠ 4 ∧ i ≠ 5) hn.symm hl.symm (fun _ i k hk => ?_) (.cons _ _ _ _ _ (.agg _ _ _ (.cons _ _ _ _ _ (fp _) (.cons _ _ _ _ _ (fc _) (.cons _ _ _ _ _ (ft _) (.nil _))))) (.nil _)) z
  unfold kH at hk
  simp only at hk
  by_cases h4 : i = 4
  · subst h4
    rw [if_pos rfl] at hk; cases hk
    exact ⟨by decide, by simp, _, g4, .cons _ _ _ _ _ (.cons _ _ _ _ _ (fp _) (.cons _ _ _ _ _ (.ns _ _) (.cons _ _ _ _ _ (ft _) (.nil _)))) (.nil _)⟩
  · rw [if_neg h4] at hk
    by_cases h5 : i = 5
    · subst h5
      rw [if_pos rfl] at hk; cases hk
      exact ⟨by decide, by simp, _, g5, .cons _ _ _ _ _ (.cons _ _ _ _ _ (fp _) (.cons _ _ _ _ _ (fc _) (.cons _ _ _ _ _ (ft _) (.nil _)))) (.nil _)⟩
    · rw [if_neg h5] at hk; cases hk
theorem known12_ev : Pf tp i_Q12 [] (.b true) := by
  have n1 : nameB ⟨#[49, 97]⟩ = false := by unfold nameB; decide
  have n2 : nameB ⟨#[97, 95, 49]⟩ = true := by unfold nameB; decide
  have e0 : ([V.ns, .ns, .ns] : List V) = [.ns, .ns, .ns] := rfl
  have hCC : decide (kC = kC) = true := by simp
  have hCD : decide (kC = kD) = false := by decide
  have g4 := kH_4
  have g5 := kH_5
  have hkn : kH.next = 7 := rfl
  have hkl : kH.lim = 0 := rfl
  have w1 := kC_where
  have w2 := kD_where
  have w3 := k0_where
  refine Pf_go fn_Q12 (by simp [t_Q12]) fun rp => ?_; unfold t_Q12; simp (disch := omega) only [go_sem, *]
  refine k_fix rfl rfl (by simp (disch := omega) only [go_sem, *]) (by simp (disch := omega) only [go_sem, *]) (by simp (disch := omega) only [go_sem, *]) (by simp (disch := omega) only [go_sem, *]) (by simp (disch := omega) only [go_sem, *]) (by simp (disch := omega) only [go_sem, *]) (by simp (disch := omega) only [go_sem, *]) ?_
  simp only [Config.enc] at g4 g5
  refine Pf.go (where_ev kD_nm) (by simp only [go_sem]) fun _ => ?_; simp (disch := omega) only [go_sem, *]
  refine Pf.go (where_ev kC_nm) (by simp only [go_sem]) fun _ => ?_; simp (disch := omega) only [go_sem, *]
  refine Pf.look (right_ev (C := ⟨[], [], []⟩) (fun p hp => by cases hp)) (.cons _ _ _ _ _ (.agg _ _ _ (.cons _ _ _ _ _ (.ns _ _) (.cons _ _ _ _ _ (.ns _ _) (.cons _ _ _ _ _ (.ns _ _) (.nil _))))) (.nil _)) rfl fun _ => ?_
  simp (disch := omega) only [go_sem, *]
  refine Pf.go (right_ev kC_nm) (by simp only [go_sem]) fun _ => ?_; simp (disch := omega) only [go_sem, *]
  refine Pf.go (cname_ev (s := ⟨#[49, 97]⟩) (by decide)) (by simp only [go_sem]) fun _ => ?_; simp (disch := omega) only [go_sem, *]
  refine Pf.go (cname_ev (s := ⟨#[97, 95, 49]⟩) (by decide)) (by simp only [go_sem]) fun _ => ?_; simp (disch := omega) only [go_sem, *]
  refine Pf.go (copy_ev (C := kC)) (by simp only [go_sem]) fun _ => ?_; simp (disch := omega) only [go_sem, *]
  refine Pf.go (csame_ev (a := kC) (b := kC)) (by simp only [go_sem]) fun _ => ?_; simp (disch := omega) only [go_sem, *]
  refine Pf.go (csame_ev (a := kC) (b := kD)) (by simp only [go_sem]) fun _ => ?_; simp (disch := omega) only [go_sem, *]
end Go.Ab.T
namespace Go.Ab.T
open Go Go.Ab
set_option maxHeartbeats 4000000
theorem Sl.frzg {b nx sz m : Nat} {h : AH} {v : V} {R R' : List (List V)} (s : Sl b h sz v R) (hm : m ≤ b) (hr : Frzr (m ≤ ·) h 0 R R') (hL : R.length < 4000000000) : Frz (m ≤ ·) h nx v (.fl sz R') := by
  rcases s with ⟨hv, rfl⟩ | ⟨i, el, cap, cs, rfl, hg, a1, a2, a3, a4, a5, a6⟩
  · cases hr
    rcases hv with rfl | rfl
    · exact .ns _ _
    · exact .e0 _ _
  · exact .sl _ _ _ _ _ _ cs _ (Nat.le_trans hm a5) hg (by omega) a3 (by simpa [frzLen] using hL) (by rw [a2]; exact hr)
theorem Frzr.app {P : Nat → Prop} {h : AH} {n : Nat} : ∀ {a a' b b' : List (List V)}, Frzr P h n a a' → Frzr P h n b b' → Frzr P h n (a ++ b) (a' ++ b')
  | _, _, _, _, .nil _, q => q
  | _, _, _, _, .cons _ _ _ _ _ p r, q => .cons _ _ _ _ _ p (Frzr.app r q)
theorem Owns.nilE {b : Nat} {h : AH} {l : List (Nat × V × List (List V))} (hb : b ≤ h.next) (hl : ∀ a ∈ l, a.2.1 = .e0 ∧ a.2.2 = []) : Owns b h.next h l :=
  ⟨hb, Nat.le_refl _, fun i a e => by have := hl a (List.mem_of_getElem? e); rw [this.1, this.2]; exact Sl.nil' _ _ _, fun i a e => by have := hl a (List.mem_of_getElem? e); rw [this.1]; exact .inl rfl, fun i j a c _ e _ => by have := hl a (List.mem_of_getElem? e); rw [this.1]; exact .inl rfl⟩
structure Small (k : Nat) (C : Config) : Prop where
  p0 : 0 < C.parts.length
  p1 : C.parts.length ≤ 6
  c : C.chans.length ≤ k
  t : C.tables.length ≤ k
  n : ∀ t ∈ C.tables, t.length ≤ 700 + k
  pr : ∀ p ∈ C.parts, p.procs.length ≤ k
  nm : NmOk C
def ownO (vp vc vt vr : V) (A : List Part) (p : Part) (X : List Chan) (B : List (List Node)) : List (Nat × V × List (List V)) :=
  [(11, vp, A.map Part.enc ++ [p.encO vr]), (6, vc, X.map Chan.enc), (1, vt, B.map Tab.enc), (2, vr, p.procs.map Proc.enc)]
structure OD (h h' : AH) (vp vc vt vr : V) (A : List Part) (p : Part) (X : List Chan) (B : List (List Node)) : Prop where
  own : Owns (h.next + 2) h'.next h' (ownO vp vc vt vr A p X B)
  lim : h'.lim = h.lim
  low : ∀ i, i < h.next → h'.get i = h.get i
  box : h'.get h.next = some ⟨3, [[vp, vc, vt]]⟩
  res : h'.get (h.next + 1) = some ⟨3, [[.ns, .ns, .ns]]⟩
section
variable {h h' : AH} {vp vc vt vr : V} {A : List Part} {p : Part} {X : List Chan} {B : List (List Node)}
theorem fin0 {K : V → AH → Prop} {h3 : AH} {C : Config} (wf : Wf h) (x : Ext h h3) (fp : Frz (h.next ≤ ·) h3 h.next vp (.fl 11 (C.parts.map Part.enc))) (fc : Frz (h.next ≤ ·) h3 h.next vc (.fl 6 (C.chans.map Chan.enc))) (ft : Frz (h.next ≤ ·) h3 h.next vt (.fl 1 (C.tables.map Tab.enc))) (k : K (.agg C.enc) h) : ∃ P R H, Settle h h3 (.agg [vp, vc, vt]) P R H ∧ K R H :=
  ⟨_, _, _, Settle.ext wf x (.agg _ _ _ (.cons _ _ _ _ _ fp (.cons _ _ _ _ _ fc (.cons _ _ _ _ _ ft (.nil _))))), k⟩
theorem encO_frz {P : Nat → Prop} {h : AH} {n : Nat} (hv : Frz P h n vr (.fl 2 (p.procs.map Proc.enc))) : Frzs P h n (p.encO vr) p.enc :=
  .cons _ _ _ _ _ (.z _ _ (.s _)) (.cons _ _ _ _ _ (.z _ _ (.i _ _)) (.cons _ _ _ _ _ (.z _ _ (.i _ _)) (.cons _ _ _ _ _ (.z _ _ (.b _)) (.cons _ _ _ _ _ (.z _ _ (.b _)) (.cons _ _ _ _ _ hv (.cons _ _ _ _ _ (.z _ _ (.i _ _)) (.cons _ _ _ _ _ (.z _ _ (.i _ _)) (.cons _ _ _ _ _ (.z _ _ (.i _ _)) (.cons _ _ _ _ _ (.z _ _ (.i _ _)) (.cons _ _ _ _ _ (.z _ _ (.i _ _)) (.nil _)))))))))))
theorem own_fp {q : Nat} {h3 : AH} (o : Owns (h.next + 2) q h3 (ownO vp vc vt vr A p X B)) (hA : A.length ≤ 6) (hp : p.procs.length ≤ 1000) : Frz (h.next ≤ ·) h3 h.next vp (.fl 11 ((A ++ [p]).map Part.enc)) := by
  have s0 := o.sl 0 _ rfl
  have s3 := o.sl 3 _ rfl
  refine Sl.frzg s0 (by omega) ?_ (by simp; omega)
  rw [List.map_append]
  exact Frzr.app (Frzr.of_map (fun _ => rfl) A) (.cons _ _ _ _ _ (encO_frz (Sl.frzb (Sl.weak s3 (by omega)) (fun _ => rfl) (by omega))) (.nil _))
theorem own_fc {q : Nat} {h3 : AH} (o : Owns (h.next + 2) q h3 (ownO vp vc vt vr A p X B)) (hX : X.length ≤ 1000) : Frz (h.next ≤ ·) h3 h.next vc (.fl 6 (X.map Chan.enc)) := Sl.frzb (Sl.weak (o.sl 1 _ rfl) (by omega)) (fun _ => rfl) (by omega)
theorem own_ft {q : Nat} {h3 : AH} (o : Owns (h.next + 2) q h3 (ownO vp vc vt vr A p X B)) (hB : B.length ≤ 1000) : Frz (h.next ≤ ·) h3 h.next vt (.fl 1 (B.map Tab.enc)) := Sl.frzb (Sl.weak (o.sl 2 _ rfl) (by omega)) (fun _ => rfl) (by omega)
theorem OD.done {K : V → AH → Prop} (wf : Wf h) (a : OD h h' vp vc vt vr A p X B) (hA : A.length ≤ 6) (hp : p.procs.length ≤ 1000) (hX : X.length ≤ 1000) (hB : B.length ≤ 1000) (k : K (.agg (Config.enc ⟨A ++ [p], X, B⟩)) h) :
    ∃ P R H, Settle h (h'.put (h.next + 1) ⟨3, [[vp, vc, vt]]⟩) (.agg [vp, vc, vt]) P R H ∧ K R H := by
  have o := a.own.put (h.next + 1) ⟨3, [[vp, vc, vt]]⟩ (.inl (by omega))
  have hb := a.own.bq
  exact fin0 wf ⟨by rw [next_put]; omega, a.lim, fun i hi => by rw [get_put, gsel_ne (by omega)]; exact a.low i hi⟩ (own_fp o hA hp) (own_fc o hX) (own_ft o hB) k
theorem OD.mk2 {q : Nat} {h5 : AH} {vp' vc' vt' vr' : V} {A' : List Part} {p' : Part} {X' : List Chan} {B' : List (List Node)} (o : Owns (h.next + 2) q h5 (ownO vp' vc' vt' vr' A' p' X' B')) (hl : h5.lim = h.lim) (low : ∀ i, i < h.next → h5.get i = h.get i) (res : h5.get (h.next + 1) = some ⟨3, [[.ns, .ns, .ns]]⟩) :
    OD h (h5.put h.next ⟨3, [[vp', vc', vt']]⟩) vp' vc' vt' vr' A' p' X' B' := by
  have := o.bq; have := o.q2
  exact ⟨(o.put _ _ (.inl (by omega))).up (by rw [next_put]; omega) (Nat.le_refl _), hl, fun i hi => by rw [get_put, gsel_ne (by omega)]; exact low i hi, by rw [get_put, gsel_eq rfl], by rw [get_put, gsel_ne (by omega)]; exact res⟩
theorem OD.keep {h2 : AH} (a : OD h h' vp vc vt vr A p X B) (hn : h'.next ≤ h2.next) (hl : h2.lim = h'.lim) (g : ∀ i, i < h'.next → h2.get i = h'.get i) : Owns (h.next + 2) h'.next h2 (ownO vp vc vt vr A p X B) ∧ h2.lim = h.lim ∧ (∀ i, i < h.next → h2.get i = h.get i) ∧ h2.get h.next = some ⟨3, [[vp, vc, vt]]⟩ ∧ h2.get (h.next + 1) = some ⟨3, [[.ns, .ns, .ns]]⟩ := by
  have := a.own.bq
  exact ⟨a.own.keep hn g, hl.trans a.lim, fun i hi => (g i (by omega)).trans (a.low i hi), (g _ (by omega)).trans a.box, (g _ (by omega)).trans a.res⟩
theorem OD.part (a : OD h h' vp vc vt vr A p X B) (p' : Part) (hp : p'.procs = p.procs) : OD h (h'.put (idV vp) ⟨11, (csOf h' vp).set (elV vp + A.length) (p'.encO vr)⟩) vp vc vt vr A p' X B := by
  have o := a.own.set (i := 0) (n := A.length) (r := p'.encO vr) rfl (by simp)
  have hl := sl_own (a.own.sl 0 (11, vp, _) rfl)
  have hnil : nilV vp = false := by
    rcases a.own.sl 0 (11, vp, A.map Part.enc ++ [p.encO vr]) rfl with ⟨_, hR⟩ | ⟨_, _, _, _, hv, _⟩
    · simp at hR
    · dsimp only at hv; rw [hv]; rfl
  have hl : h.next + 2 ≤ idV vp := by
    rcases hl with q | q
    · dsimp only at q; rw [hnil] at q; cases q
    · exact q
  refine ⟨?_, a.lim, fun i hi => by rw [get_put, gsel_ne (by omega)]; exact a.low i hi, by rw [get_put, gsel_ne (by omega)]; exact a.box, by rw [get_put, gsel_ne (by omega)]; exact a.res⟩
  have e : ownO vp vc vt vr A p' X B = (ownO vp vc vt vr A p X B).set 0 (11, vp, (A.map Part.enc ++ [p.encO vr]).set A.length (p'.encO vr)) := by
    simp [ownO, hp]
  rw [e]
  exact o
structure ODF (h h' : AH) (vp vc vt vr : V) (A : List Part) (p : Part) : Prop where
  len : lenV vp = some (.i .i64 ((A.length + 1 : Nat) : Int))
  get : h'.get (idV vp) = some ⟨11, csOf h' vp⟩
  at_ : ∀ (k : IntKind) (j : Int) (cs : List (List V)), 0 ≤ j → j < ((A.length + 1 : Nat) : Int) → iad2 (some ⟨11, cs⟩) 11 vp (.i k j) = some (.p (idV vp) (elV vp + j.toNat) 0)
  row : (csOf h' vp)[elV vp + A.length]? = some (p.encO vr)
  lo : h.next + 2 ≤ idV vp
  lt : idV vp < h'.next
  rl : elV vp + A.length < (csOf h' vp).length
  c0 : vp.isCell = true
  c1 : vp.cells = [vp]
  c2 : vc.isCell = true
  c3 : vc.cells = [vc]
  c4 : vt.isCell = true
  c5 : vt.cells = [vt]
  c6 : vr.isCell = true
  c7 : vr.cells = [vr]
theorem OD.facts (a : OD h h' vp vc vt vr A p X B) : ODF h h' vp vc vt vr A p := by
  have s0 := a.own.sl 0 (11, vp, A.map Part.enc ++ [p.encO vr]) rfl
  dsimp only at s0
  have f : SlF (fun x => x) (h.next + 2) h' 11 vp (A.map Part.enc ++ [p.encO vr]) := Sl.facts (enc := fun x => x) (by rw [List.map_id']; exact s0)
  have hl : (A.map Part.enc ++ [p.encO vr]).length = A.length + 1 := by simp
  obtain ⟨len, _, lt, lo, get, at_, row, _, _⟩ := f
  rw [hl] at len lt lo get at_ row
  have hr := row A.length (by omega)
  have hn : nth (A.map Part.enc ++ [p.encO vr]) A.length = p.encO vr := by
    rw [nth_app, if_neg (by simp), List.length_map, Nat.sub_self, nth_cons0]
  rw [hn] at hr
  obtain ⟨c0, c1⟩ := sl_cell s0
  obtain ⟨c2, c3⟩ := sl_cell (a.own.sl 1 (6, vc, _) rfl)
  obtain ⟨c4, c5⟩ := sl_cell (a.own.sl 2 (1, vt, _) rfl)
  obtain ⟨c6, c7⟩ := sl_cell (a.own.sl 3 (2, vr, _) rfl)
  exact ⟨len, get (by omega), at_, hr, lo (by omega), lt (by omega), Sl.rowlt s0 (by simp), c0, c1, c2, c3, c4, c5, c6, c7⟩
theorem OD.chan {h1 h5 : AH} {w : V} {c : Chan} (a : OD h h' vp vc vt vr A p X B) (x : Ext h' h1) (s : Sl (h.next + 2) h5 6 w (X.map Chan.enc ++ [c.enc])) (g : Grown (h.next + 2) h1 vc w h5) : OD h (h5.put h.next ⟨3, [[vp, w, vt]]⟩) vp w vt vr A p (X ++ [c]) B := by
  have lo := a.own.low (i := 1) rfl x g
  have o := a.own.grow (i := 1) rfl x g s
  have hb := a.own.bq
  have e : ownO vp w vt vr A p (X ++ [c]) B = (ownO vp vc vt vr A p X B).set 1 (6, w, X.map Chan.enc ++ [c.enc]) := by simp [ownO]
  exact OD.mk2 (q := h5.next) (by rw [e]; exact o) (g.lim.trans (x.lim.trans a.lim)) (fun i hi => (lo i (by omega)).trans (a.low i hi)) ((lo _ (by omega)).trans a.res)
theorem OD.tab {h1 h5 : AH} {w : V} {c : List Node} (a : OD h h' vp vc vt vr A p X B) (x : Ext h' h1) (s : Sl (h.next + 2) h5 1 w (B.map Tab.enc ++ [Tab.enc c])) (g : Grown (h.next + 2) h1 vt w h5) : OD h (h5.put h.next ⟨3, [[vp, vc, w]]⟩) vp vc w vr A p X (B ++ [c]) := by
  have lo := a.own.low (i := 2) rfl x g
  have o := a.own.grow (i := 2) rfl x g s
  have hb := a.own.bq
  have e : ownO vp vc w vr A p X (B ++ [c]) = (ownO vp vc vt vr A p X B).set 2 (1, w, B.map Tab.enc ++ [Tab.enc c]) := by simp [ownO]
  exact OD.mk2 (q := h5.next) (by rw [e]; exact o) (g.lim.trans (x.lim.trans a.lim)) (fun i hi => (lo i (by omega)).trans (a.low i hi)) ((lo _ (by omega)).trans a.res)
theorem OD.exts {h1 : AH} (a : OD h h' vp vc vt vr A p X B) (x : Ext h' h1) : OD h h1 vp vc vt vr A p X B := by
  obtain ⟨o, l, lw, bx, rs⟩ := a.keep x.next x.lim x.get
  exact ⟨o.up x.next (Nat.le_refl _), l, lw, bx, rs⟩
theorem OD.procs {h5 : AH} {q : Nat} {v : V} {L : List Proc} (a : OD h h' vp vc vt vr A p X B) (hq : h'.next ≤ q) (o : Owns (h.next + 2) q h5 ((ownO vp vc vt vr A p X B).set 3 (2, v, L.map Proc.enc))) (hl : h5.lim = h'.lim) (g : ∀ i, i < h.next + 2 → h5.get i = h'.get i) (hcs : csOf h5 vp = csOf h' vp) :
    OD h (h5.put (idV vp) ⟨11, (csOf h' vp).set (elV vp + A.length) ({ p with procs := L }.encO v)⟩) vp vc vt v A { p with procs := L } X B := by
  have f := a.facts
  have f1 := f.lo
  have q2 := o.q2
  have os := o.set (i := 0) (a := (11, vp, A.map Part.enc ++ [p.encO vr])) (n := A.length) (r := { p with procs := L }.encO v) rfl (by simp)
  dsimp only at os
  rw [hcs] at os
  have e : ownO vp vc vt v A { p with procs := L } X B = ((ownO vp vc vt vr A p X B).set 3 (2, v, L.map Proc.enc)).set 0 (11, vp, (A.map Part.enc ++ [p.encO vr]).set A.length ({ p with procs := L }.encO v)) := by simp [ownO]
  refine ⟨by rw [e]; exact os.up q2 (Nat.le_refl _), hl.trans a.lim, fun i hi => by rw [get_put, gsel_ne (by omega), g i (by omega)]; exact a.low i hi, by rw [get_put, gsel_ne (by omega), g _ (by omega)]; exact a.box, by rw [get_put, gsel_ne (by omega), g _ (by omega)]; exact a.res⟩
theorem OD.proc0 (a : OD h h' vp vc vt vr A p X B) (h0 : 0 < p.procs.length) (x : Proc) : OD h (h'.put (idV vr) ⟨2, (csOf h' vr).set (elV vr) x.enc⟩) vp vc vt vr A { p with procs := p.procs.set 0 x } X B := by
  have o := a.own.set (i := 3) (a := (2, vr, p.procs.map Proc.enc)) (n := 0) (r := x.enc) rfl (by simpa using h0)
  dsimp only at o
  rw [Nat.add_zero] at o
  have f := Sl.facts (enc := Proc.enc) (L := p.procs) (a.own.sl 3 (2, vr, _) rfl)
  have lo := f.lo h0
  dsimp only at lo
  have e : ownO vp vc vt vr A { p with procs := p.procs.set 0 x } X B = (ownO vp vc vt vr A p X B).set 3 (2, vr, (p.procs.map Proc.enc).set 0 x.enc) := by simp [ownO, Part.encO, List.map_set]
  refine ⟨by rw [e]; exact o, a.lim, fun i hi => by rw [get_put, gsel_ne (by omega)]; exact a.low i hi, by rw [get_put, gsel_ne (by omega)]; exact a.box, by rw [get_put, gsel_ne (by omega)]; exact a.res⟩
theorem tab7 {v : Int} (h0 : 0 ≤ v) (h6 : v ≤ 6) : ∃ s : ByteArray, s.size < 100 ∧ [[V.s ⟨#[]⟩], [.s ⟨#[49, 97]⟩], [.s ⟨#[112, 97]⟩], [.s ⟨#[111, 107, 95, 49]⟩], [.s ⟨#[116, 104, 105, 114, 116, 101, 101, 110, 108, 111, 110, 103, 95]⟩], [.s ⟨#[65]⟩], [.s ⟨#[116, 119, 101, 108, 118, 101, 95, 108, 111, 110, 103, 95]⟩]][v.toNat]? = some [.s s] := by
  have : v = 0 ∨ v = 1 ∨ v = 2 ∨ v = 3 ∨ v = 4 ∨ v = 5 ∨ v = 6 := by omega
  rcases this with rfl | rfl | rfl | rfl | rfl | rfl | rfl
  all_goals exact ⟨_, by decide, rfl⟩
theorem OD.done3 {K : V → AH → Prop} {q : Nat} {h5 : AH} {t x : List Node} {B2 : List (List Node)} {v : V} (wf : Wf h) (o : Owns (h.next + 2) q h5 ((ownO vp vc vt vr A p X (t :: B2)).set 2 (1, vt, (Tab.enc t :: B2.map Tab.enc).set 0 [v]))) (fv : Frz (h.next ≤ ·) (h5.put (h.next + 1) ⟨3, [[vp, vc, vt]]⟩) 0 v (.fl 3 (x.map Node.enc))) (hl : h5.lim = h.lim) (low : ∀ i, i < h.next → h5.get i = h.get i)
    (hA : A.length ≤ 6) (hp : p.procs.length ≤ 1000) (hX : X.length ≤ 1000) (hB : B2.length ≤ 1000) (k : K (.agg (Config.enc ⟨A ++ [p], X, x :: B2⟩)) h) :
    ∃ P R H, Settle h (h5.put (h.next + 1) ⟨3, [[vp, vc, vt]]⟩) (.agg [vp, vc, vt]) P R H ∧ K R H := by
  have o2 := o.put (h.next + 1) ⟨3, [[vp, vc, vt]]⟩ (.inl (by omega))
  have hb := o.bq
  have q2 := o.q2
  have s0 : Sl (h.next + 2) (h5.put (h.next + 1) ⟨3, [[vp, vc, vt]]⟩) 11 vp (A.map Part.enc ++ [p.encO vr]) := o2.sl 0 _ rfl
  have s1 : Sl (h.next + 2) (h5.put (h.next + 1) ⟨3, [[vp, vc, vt]]⟩) 6 vc (X.map Chan.enc) := o2.sl 1 _ rfl
  have s2 : Sl (h.next + 2) (h5.put (h.next + 1) ⟨3, [[vp, vc, vt]]⟩) 1 vt ([v] :: B2.map Tab.enc) := o2.sl 2 _ rfl
  have s3 : Sl (h.next + 2) (h5.put (h.next + 1) ⟨3, [[vp, vc, vt]]⟩) 2 vr (p.procs.map Proc.enc) := o2.sl 3 _ rfl
  refine fin0 wf ⟨by rw [next_put]; omega, hl, fun i hi => by rw [get_put, gsel_ne (by omega)]; exact low i hi⟩ ?_ (Sl.frzb (Sl.weak s1 (by omega)) (fun _ => rfl) (by simp only; omega)) ?_ k
  · refine Sl.frzg s0 (by omega) ?_ (by simp; omega)
    simp only [List.map_append]
    exact Frzr.app (Frzr.of_map (fun _ => rfl) A) (.cons _ _ _ _ _ (encO_frz (Sl.frzb (Sl.weak s3 (by omega)) (fun _ => rfl) (by omega))) (.nil _))
  · exact Sl.frzg s2 (by omega) (.cons _ _ _ _ _ (.cons _ _ _ _ _ fv (.nil _)) (Frzr.of_map (fun _ => rfl) B2)) (by simp; omega)
theorem Small.mk' {k : Nat} {p' : Part} {X' : List Chan} {B' : List (List Node)} (sm : Small k ⟨A ++ [p], X, B⟩) (h1 : p'.procs.length ≤ k + 10) (h2 : p'.name.size < 4000000000) (hX : X'.length ≤ k + 10) (hB : B'.length ≤ k + 10) (hn : ∀ t ∈ B', t.length ≤ 710 + k) : Small (k + 10) ⟨A ++ [p'], X', B'⟩ := by
  refine ⟨by simp, by have := sm.p1; simpa using this, hX, hB, fun t ht => by have := hn t ht; omega, fun q hq => ?_, fun q hq => ?_⟩
  · rcases List.mem_append.1 hq with hq | hq
    · have := sm.pr q (List.mem_append_left _ hq); omega
    · rw [List.mem_singleton] at hq; subst hq; exact h1
  · rcases List.mem_append.1 hq with hq | hq
    · exact sm.nm q (List.mem_append_left _ hq)
    · rw [List.mem_singleton] at hq; subst hq; exact h2
theorem Small.nt {k : Nat} (sm : Small k ⟨A ++ [p], X, B⟩) : ∀ t ∈ B, t.length ≤ 710 + k := fun t ht => by have := sm.n t ht; omega
theorem Small.np {k : Nat} (sm : Small k ⟨A ++ [p], X, B⟩) : p.name.size < 4000000000 := sm.nm p (by simp)
theorem and_bd {n c : Int} (h0 : 0 ≤ c) (h1 : c < 2147483648) : 0 ≤ IntKind.wrap .i64 ((BitVec.ofInt 64 n &&& BitVec.ofInt 64 c).toNat : Int) ∧ IntKind.wrap .i64 ((BitVec.ofInt 64 n &&& BitVec.ofInt 64 c).toNat : Int) ≤ c := by
  have h : (BitVec.ofInt 64 n &&& BitVec.ofInt 64 c).toNat ≤ c.toNat := by
    rw [BitVec.toNat_and]
    refine Nat.le_trans Nat.and_le_right ?_
    rw [BitVec.toNat_ofInt]
    omega
  rw [w64 (by omega) (by omega)]
  omega
theorem Pf.goE {tp : TP} {f : Nat} {args : List V} {R : V} {h : AH} {ops : List TO} {env : Env} {d : Option Nat} {K2 : Env → AH → Prop} (pf : Pf tp f args R) (hp : purs args = true) (k : ∀ e : Env, (∀ t, e t = env t) → ZOps tp ops (e.set d R) h K2) : Cq tp f args h (fun v h => ZOps tp ops (env.set d v) h K2) :=
  Pf.go pf hp fun _ => k env fun _ => rfl
end
end Go.Ab.T
namespace Go.Ab.T
open Go Go.Ab
set_option maxHeartbeats 4000000
attribute [-go_sem] bin_and
section
variable {h h' : AH} {vp vc vt vr : V} {A : List Part} {p : Part} {X : List Chan} {B : List (List Node)}
theorem odd_l7 {K : Ex → Env → AH → Prop} {e : Env} {n q : Int} (hand : binV .and (.i .i64 n) (.i .i64 1) = some (.i .i64 q)) (hq0 : 0 ≤ q) (hq1 : q ≤ 1) (hlo : h.lim ≤ h.next) (hA : A.length ≤ 6) (hL : p.procs.length ≤ 1000) (a : OD h h' vp vc vt vr A p X B)
    (e2 : e 2 = .i .i64 n) (e3 : e 3 = .p h.next 0 0) (e6 : e 6 = .p (h.next + 1) 0 0) (e7 : e 7 = .p (idV vp) (elV vp + A.length) 0)
    (kk : ∀ e' h' vr L, e' 3 = .p h.next 0 0 → e' 6 = .p (h.next + 1) 0 0 → OD h h' vp vc vt vr A { p with procs := L } X B → L.length ≤ max p.procs.length 4 → K (.ex 3) e' h') : ZC tp (.loop Q9_27) e h' K := by
  refine ZC_loop_n (fun n' e hh => ∃ (vr : V) (L : List Proc), n' = (5 - L.length) ∧ e 2 = .i .i64 n ∧ e 3 = .p h.next 0 0 ∧ e 6 = .p (h.next + 1) 0 0 ∧ e 7 = .p (idV vp) (elV vp + A.length) 0 ∧ L.length ≤ max p.procs.length 4 ∧ OD h hh vp vc vt vr A { p with procs := L } X B) ?_ _ _ _ ⟨vr, p.procs, rfl, e2, e3, e6, e7, by omega, a⟩
  clear e2 e3 e6 e7 e a
  rintro n' e hh ⟨vr, L, rfl, e2, e3, e6, e7, hl, a⟩ ih
  obtain ⟨plen2, pget2, pat2, prow2, plo2, plt2, prl2, c0, c1, c2, c3, c4, c5, c6, c7⟩ := a.facts
  obtain ⟨rlen, _, rlt, rlo, rget, rat, rrow, _, _⟩ := Sl.facts (enc := Proc.enc) (L := L) (a.own.sl 3 (2, vr, _) rfl)
  dsimp only at rlen rlt rlo rget rat rrow
  simp only [Part.encO] at prow2
  have bq := a.own.bq
  have lq : hh.lim ≤ h.next := by rw [a.lim]; exact hlo
  rw [ZC_unf Q9_27.eq_1]
  simp (disch := omega) only [go_sem, *]
  refine Wb_dec (fun hc => ?_) (fun hc => ?_)
  · simp (disch := omega) only [go_sem, *]
    refine app_rule (N := [(⟨0, 0⟩ : Proc).enc]) ((a.own.sl 3 (2, vr, _) rfl).alloc _) (by first | omega | (simp (disch := omega) only [go_sem, *] <;> omega)) (by first | omega | (simp (disch := omega) only [go_sem, *] <;> omega)) (by simp; omega) ?_
    intro w h5 s5 g5
    have g5 : Grown (h.next + 2) (hh.alloc ⟨2, [(⟨0, 0⟩ : Proc).enc]⟩) vr w h5 := g5
    have x5 := (Ext.refl hh).alloc ⟨2, [(⟨0, 0⟩ : Proc).enc]⟩
    have lo5 := a.own.low (i := 3) rfl x5 g5
    have o5 := a.own.grow (i := 3) rfl x5 g5 s5
    have gp : h5.get (idV vp) = hh.get (idV vp) := by
      refine (g5.get (idV vp) (by have := x5.next; omega) ?_).trans (x5.get _ plt2)
      rcases a.own.dj 3 0 (2, vr, L.map Proc.enc) (11, vp, A.map Part.enc ++ [({ p with procs := L } : Part).encO vr]) (by decide) rfl rfl with d | d | d
      · exact .inl d
      · rcases a.own.sl 0 (11, vp, A.map Part.enc ++ [({ p with procs := L } : Part).encO vr]) rfl with ⟨_, hR⟩ | ⟨_, _, _, _, hv, _⟩
        · simp at hR
        · dsimp only at hv d; rw [hv] at d; cases d
      · exact .inr (Ne.symm d)
    have csp : csOf h5 vp = csOf hh vp := by unfold csOf; rw [gp]
    have e5 : L.map Proc.enc ++ [(⟨0, 0⟩ : Proc).enc] = (L ++ [(⟨0, 0⟩ : Proc)]).map Proc.enc := by simp
    dsimp only at o5
    rw [e5] at o5
    have a5 := OD.procs (L := L ++ [⟨0, 0⟩]) a (by have := x5.next; have := g5.next; omega) o5 (g5.lim.trans x5.lim) lo5 csp
    have pg5 : h5.get (idV vp) = some ⟨11, csOf hh vp⟩ := gp.trans pget2
    have lq5 : h5.lim ≤ h.next := by have := g5.lim; have := x5.lim; omega
    have w1 := g5.cell
    have w2 := g5.cells
    simp only [Part.encO] at a5
    clear s5 g5 x5 lo5 o5 gp csp e5 a
    simp (disch := omega) only [go_sem, *]
    refine ih _ _ _ ?_ ⟨w, L ++ [⟨0, 0⟩], rfl, ?_⟩
    · simp <;> omega
    · have hl5 : (L ++ [(⟨0, 0⟩ : Proc)]).length ≤ max p.procs.length 4 := by simp; omega
      clear ih kk
      simp (disch := omega) only [go_sem, *]
      all_goals ((repeat' refine And.intro ?_ ?_) <;> first | omega | assumption | (exact a5) | (exact hl5))
  · simp (disch := omega) only [go_sem, *]
    exact kk _ hh vr L e3 e6 a hl
theorem odd_l15 {K : Ex → Env → AH → Prop} {e : Env} {n q : Int} (hand : binV .and (.i .i64 n) (.i .i64 1) = some (.i .i64 q)) (hq0 : 0 ≤ q) (hq1 : q ≤ 1) (hlo : h.lim ≤ h.next) (hA : A.length ≤ 6) (hL : X.length ≤ 1000) (a : OD h h' vp vc vt vr A p X B)
    (e2 : e 2 = .i .i64 n) (e3 : e 3 = .p h.next 0 0) (e6 : e 6 = .p (h.next + 1) 0 0)
    (kk : ∀ e' h' vc X', e' 3 = .p h.next 0 0 → e' 6 = .p (h.next + 1) 0 0 → OD h h' vp vc vt vr A p X' B → X'.length ≤ max X.length 9 → K (.ex 1) e' h') : ZC tp (.loop Q9_46) e h' K := by
  obtain ⟨plen2, pget2, pat2, prow2, plo2, plt2, prl2, c0, c1, c2, c3, c4, c5, c6, c7⟩ := a.facts
  refine ZC_loop_n (fun n' e hh => ∃ (vc : V) (X' : List Chan), n' = (10 - X'.length) ∧ e 2 = .i .i64 n ∧ e 3 = .p h.next 0 0 ∧ e 6 = .p (h.next + 1) 0 0 ∧ X'.length ≤ max X.length 9 ∧ OD h hh vp vc vt vr A p X' B) ?_ _ _ _ ⟨vc, X, rfl, e2, e3, e6, by omega, a⟩
  clear e2 e3 e6 e a plen2 pget2 pat2 prow2 plo2 plt2 prl2 c0 c1 c2 c3 c4 c5 c6 c7
  rintro n' e hh ⟨vc, X', rfl, e2, e3, e6, hl, a⟩ ih
  obtain ⟨plen2, pget2, pat2, prow2, plo2, plt2, prl2, c0, c1, c2, c3, c4, c5, c6, c7⟩ := a.facts
  obtain ⟨clen, _, _, _, _, _, _, _, _⟩ := Sl.facts (enc := Chan.enc) (L := X') (a.own.sl 1 (6, vc, _) rfl)
  dsimp only at clen
  have bq := a.own.bq
  have bx := a.box
  have lq : hh.lim ≤ h.next := by rw [a.lim]; exact hlo
  rw [ZC_unf Q9_46.eq_1]
  simp (disch := omega) only [go_sem, *]
  refine Wb_dec (fun hc => ?_) (fun hc => ?_)
  · simp (disch := omega) only [go_sem, *]
    refine app_rule (N := [(⟨0, A.length, false, 0, 0, 0⟩ : Chan).enc]) ((a.own.sl 1 (6, vc, _) rfl).alloc _) (by first | omega | (simp (disch := omega) only [go_sem, *] <;> omega)) (by first | omega | (simp (disch := omega) only [go_sem, *] <;> omega)) (by simp; omega) ?_
    intro w h5 s5 g5
    have g5 : Grown (h.next + 2) (hh.alloc ⟨6, [(⟨0, A.length, false, 0, 0, 0⟩ : Chan).enc]⟩) vc w h5 := g5
    have x5 := (Ext.refl hh).alloc ⟨6, [(⟨0, A.length, false, 0, 0, 0⟩ : Chan).enc]⟩
    have lo5 := a.own.low (i := 1) rfl x5 g5
    have a5 := a.chan x5 s5 g5
    have bx5 := (lo5 h.next (by omega)).trans bx
    have lq5 : h5.lim ≤ h.next := by have := g5.lim; have := x5.lim; omega
    have w1 := g5.cell
    have w2 := g5.cells
    clear s5 g5 x5 lo5 a bx
    simp (disch := omega) only [go_sem, *]
    refine ih _ _ _ ?_ ⟨w, X' ++ [⟨0, A.length, false, 0, 0, 0⟩], rfl, ?_⟩
    · simp <;> omega
    · have hl5 : (X' ++ [(⟨0, A.length, false, 0, 0, 0⟩ : Chan)]).length ≤ max X.length 9 := by simp; omega
      clear ih kk
      simp (disch := omega) only [go_sem, *]
      all_goals ((repeat' refine And.intro ?_ ?_) <;> first | omega | assumption | (exact a5) | (exact hl5))
  · simp (disch := omega) only [go_sem, *]
    exact kk _ hh vc X' e3 e6 a hl
theorem odd_l14 {K : Ex → Env → AH → Prop} {e : Env} {n q : Int} (hand : binV .and (.i .i64 n) (.i .i64 1) = some (.i .i64 q)) (hq0 : 0 ≤ q) (hq1 : q ≤ 1) (hlo : h.lim ≤ h.next) (hA : A.length ≤ 6) (hL : B.length ≤ 1000) (hB : 0 < B.length) (a : OD h h' vp vc vt vr A p X B)
    (e2 : e 2 = .i .i64 n) (e3 : e 3 = .p h.next 0 0) (e6 : e 6 = .p (h.next + 1) 0 0)
    (kk : ∀ e' h' vt B', e' 3 = .p h.next 0 0 → e' 6 = .p (h.next + 1) 0 0 → OD h h' vp vc vt vr A p X B' → B'.length ≤ max B.length 4 → (∀ t ∈ B', t ∈ B) → K (.ex 5) e' h') : ZC tp (.loop Q9_43) e h' K := by
  refine ZC_loop_n (fun n' e hh => ∃ (vt : V) (B' : List (List Node)), n' = (5 - B'.length) ∧ e 2 = .i .i64 n ∧ e 3 = .p h.next 0 0 ∧ e 6 = .p (h.next + 1) 0 0 ∧ B'.length ≤ max B.length 4 ∧ 0 < B'.length ∧ (∀ t ∈ B', t ∈ B) ∧ OD h hh vp vc vt vr A p X B') ?_ _ _ _ ⟨vt, B, rfl, e2, e3, e6, by omega, hB, (fun t ht => ht), a⟩
  clear e2 e3 e6 e a
  rintro n' e hh ⟨vt, B', rfl, e2, e3, e6, hl, hp, hm, a⟩ ih
  obtain ⟨plen2, pget2, pat2, prow2, plo2, plt2, prl2, c0, c1, c2, c3, c4, c5, c6, c7⟩ := a.facts
  obtain ⟨tlen, _, tlt, tlo, tget, tat, trow, _, _⟩ := Sl.facts (enc := Tab.enc) (L := B') (a.own.sl 2 (1, vt, _) rfl)
  dsimp only at tlen tlt tlo tget tat trow
  have tr0 := trow 0 hp
  have t0m := hm _ (nth_mem (L := B') hp)
  simp only [Tab.enc, Nat.add_zero] at tr0
  clear trow
  have bq := a.own.bq
  have q2 := a.own.q2
  have bx := a.box
  have lq : hh.lim ≤ h.next := by rw [a.lim]; exact hlo
  rw [ZC_unf Q9_43.eq_1]
  simp (disch := omega) only [go_sem, *]
  refine Wb_dec (fun hc => ?_) (fun hc => ?_)
  · simp (disch := omega) only [go_sem, *]
    refine app_rule (N := [Tab.enc (nth B' 0)]) ((a.own.sl 2 (1, vt, _) rfl).alloc _) (by first | omega | (simp (disch := omega) only [go_sem, *] <;> omega)) (by first | omega | (simp (disch := omega) only [go_sem, *] <;> omega)) (by simp; omega) ?_
    intro w h5 s5 g5
    have g5 : Grown (h.next + 2) (hh.alloc ⟨1, [Tab.enc (nth B' 0)]⟩) vt w h5 := g5
    have x5 := (Ext.refl hh).alloc ⟨1, [Tab.enc (nth B' 0)]⟩
    have lo5 := a.own.low (i := 2) rfl x5 g5
    have a5 := a.tab x5 s5 g5
    have bx5 := (lo5 h.next (by omega)).trans bx
    have lq5 : h5.lim ≤ h.next := by have := g5.lim; have := x5.lim; omega
    have w1 := g5.cell
    have w2 := g5.cells
    clear s5 g5 x5 lo5 a bx
    simp (disch := omega) only [go_sem, *]
    refine ih _ _ _ ?_ ⟨w, B' ++ [nth B' 0], rfl, ?_⟩
    · simp <;> omega
    · have hl5 : (B' ++ [nth B' 0]).length ≤ max B.length 4 := by simp; omega
      have hp5 : 0 < (B' ++ [nth B' 0]).length := by simp
      have hm5 : ∀ t ∈ B' ++ [nth B' 0], t ∈ B := fun t ht => by
        rcases List.mem_append.1 ht with h1 | h1
        · exact hm t h1
        · rw [List.mem_singleton] at h1; rw [h1]; exact t0m
      clear ih kk hm
      simp (disch := omega) only [go_sem, *]
      all_goals ((repeat' refine And.intro ?_ ?_) <;> first | omega | assumption | (exact a5) | (exact hl5) | (exact hp5) | (exact hm5))
  · simp (disch := omega) only [go_sem, *]
    exact kk _ hh vt B' e3 e6 a hl hm
end
end Go.Ab.T
namespace Go.Ab.T
open Go Go.Ab
set_option maxHeartbeats 8000000
theorem snoc_of {α : Type} {L : List α} (h : 0 < L.length) : ∃ A p, L = A ++ [p] := by
  rcases List.eq_nil_or_concat L with h1 | ⟨A, p, h1⟩
  · rw [h1] at h; simp at h
  · exact ⟨A, p, by rw [h1, List.concat_eq_append]⟩
attribute [-go_sem] bin_and
theorem and_eq (n : Int) {c : Int} (h0 : 0 ≤ c) (h1 : c < 2147483648) : ∃ q : Int, 0 ≤ q ∧ q ≤ c ∧ binV .and (.i .i64 n) (.i .i64 c) = some (.i .i64 q) := by
  rw [bin_and]; exact ⟨_, (and_bd (n := n) h0 h1).1, (and_bd (n := n) h0 h1).2, rfl⟩
theorem within6 (q : Int) : ∃ v : Int, 0 ≤ v ∧ v ≤ 6 ∧ Pf tp i_Q18 [.i .i64 q, .i .i64 0, .i .i64 6] (.i .i64 v) :=
  ⟨within q 0 6, (within_bd (by omega)).1, (within_bd (by omega)).2, within_ev (by omega) (by omega) (by omega)⟩
theorem odd_ev {k : Nat} {C : Config} {what n : Int} {h : AH} {K : V → AH → Prop} (sm : Small k C) (hk : k ≤ 100) (kk : ∀ C', Small (k + 10) C' → K (.agg C'.enc) h) : Cq tp i_Q9 [.agg C.enc, .i .i64 what, .i .i64 n] h K := by
  obtain ⟨Ps, X, B⟩ := C
  obtain ⟨A, p, hPs⟩ := snoc_of sm.p0
  dsimp only at hPs
  subst hPs
  refine Cq_go fn_Q9 (by simp [t_Q9]) fun wf rp => ?_
  unfold t_Q9
  have hlo := wf.1
  have hAl : A.length ≤ 5 := by have := sm.p1; simp at this; omega
  have hXl := sm.c
  have hBl := sm.t
  dsimp only at hXl hBl
  simp (disch := omega) only [go_sem, *]
  have x0 : Ext h ((h.alloc ⟨3, [[.fl 11 ((A ++ [p]).map Part.enc), .fl 6 (X.map Chan.enc), .fl 1 (B.map Tab.enc)]]⟩).alloc ⟨3, [[.ns, .ns, .ns]]⟩) := by (repeat (first | exact Ext.refl _ | refine Ext.alloc ?_ _ | (refine Ext.put ?_ _ _ ?_; rotate_left; (first | omega | (simp only [next_alloc, next_put]; omega)))))
  have o0 : Owns (h.next + 2) ((h.alloc ⟨3, [[.fl 11 ((A ++ [p]).map Part.enc), .fl 6 (X.map Chan.enc), .fl 1 (B.map Tab.enc)]]⟩).alloc ⟨3, [[.ns, .ns, .ns]]⟩).next ((h.alloc ⟨3, [[.fl 11 ((A ++ [p]).map Part.enc), .fl 6 (X.map Chan.enc), .fl 1 (B.map Tab.enc)]]⟩).alloc ⟨3, [[.ns, .ns, .ns]]⟩) [(11, .e0, []), (6, .e0, []), (1, .e0, []), (2, .e0, [])] := Owns.nilE (Nat.le_refl _) (fun a ha => by
    simp only [List.mem_cons, List.not_mem_nil, or_false] at ha
    rcases ha with rfl | rfl | rfl | rfl <;> exact ⟨rfl, rfl⟩)
  have bx0 : ((h.alloc ⟨3, [[.fl 11 ((A ++ [p]).map Part.enc), .fl 6 (X.map Chan.enc), .fl 1 (B.map Tab.enc)]]⟩).alloc ⟨3, [[.ns, .ns, .ns]]⟩).get h.next = some ⟨3, [[.fl 11 ((A ++ [p]).map Part.enc), .fl 6 (X.map Chan.enc), .fl 1 (B.map Tab.enc)]]⟩ := by simp (disch := omega) only [go_sem, *]
  have rs0 : ((h.alloc ⟨3, [[.fl 11 ((A ++ [p]).map Part.enc), .fl 6 (X.map Chan.enc), .fl 1 (B.map Tab.enc)]]⟩).alloc ⟨3, [[.ns, .ns, .ns]]⟩).get (h.next + 1) = some ⟨3, [[.ns, .ns, .ns]]⟩ := by simp (disch := omega) only [go_sem, *]
  have lw0 := x0.get
  have lm0 : ((h.alloc ⟨3, [[.fl 11 ((A ++ [p]).map Part.enc), .fl 6 (X.map Chan.enc), .fl 1 (B.map Tab.enc)]]⟩).alloc ⟨3, [[.ns, .ns, .ns]]⟩).lim ≤ h.lim ∧ h.lim ≤ ((h.alloc ⟨3, [[.fl 11 ((A ++ [p]).map Part.enc), .fl 6 (X.map Chan.enc), .fl 1 (B.map Tab.enc)]]⟩).alloc ⟨3, [[.ns, .ns, .ns]]⟩).lim := ⟨Nat.le_refl _, Nat.le_refl _⟩
  clear x0
  generalize (h.alloc ⟨3, [[.fl 11 ((A ++ [p]).map Part.enc), .fl 6 (X.map Chan.enc), .fl 1 (B.map Tab.enc)]]⟩).alloc ⟨3, [[.ns, .ns, .ns]]⟩ = hc at *
  have oc := o0; have bxc := bx0; have rsc := rs0; have lwc := lw0; have lmc := lm0
  clear o0 bx0 rs0 lw0 lm0
  have bqc := oc.bq
  have q2c := oc.q2
  refine app_rule (oc.sl 0 _ rfl) (by omega) (by omega) (by simp; omega) ?_
  intro vp hx sx gx
  have lwx := oc.low (i := 0) rfl (Ext.refl _) gx
  have ox := oc.grow (i := 0) rfl (Ext.refl _) gx sx
  have bxx := (lwx h.next (by omega)).trans bxc
  have rsx := (lwx (h.next + 1) (by omega)).trans rsc
  have lwy : ∀ i, i < h.next → hx.get i = h.get i := fun i hi => (lwx i (by omega)).trans (lwc i hi)
  have lmx : hx.lim ≤ h.lim ∧ h.lim ≤ hx.lim := by have := gx.lim; omega
  have cex := gx.cell
  have cexs := gx.cells
  have vpc := gx.cell
  have vpcs := gx.cells
  clear lwx oc lwc bxc rsc gx sx lmc bqc q2c
  have bqx := ox.bq
  simp (disch := omega) only [go_sem, *]
  have oc := ox.put h.next ⟨3, [[vp, .fl 6 (X.map Chan.enc), .fl 1 (B.map Tab.enc)]]⟩ (.inl (by omega))
  have bxc : (hx.put h.next ⟨3, [[vp, .fl 6 (X.map Chan.enc), .fl 1 (B.map Tab.enc)]]⟩).get h.next = some ⟨3, [[vp, .fl 6 (X.map Chan.enc), .fl 1 (B.map Tab.enc)]]⟩ := by rw [get_put, gsel_eq rfl]
  have rsc : (hx.put h.next ⟨3, [[vp, .fl 6 (X.map Chan.enc), .fl 1 (B.map Tab.enc)]]⟩).get (h.next + 1) = some ⟨3, [[.ns, .ns, .ns]]⟩ := by rw [get_put, gsel_ne (by omega)]; exact rsx
  have lwc : ∀ i, i < h.next → (hx.put h.next ⟨3, [[vp, .fl 6 (X.map Chan.enc), .fl 1 (B.map Tab.enc)]]⟩).get i = h.get i := fun i hi => by rw [get_put, gsel_ne (by omega)]; exact lwy i hi
  have lmc : (hx.put h.next ⟨3, [[vp, .fl 6 (X.map Chan.enc), .fl 1 (B.map Tab.enc)]]⟩).lim ≤ h.lim ∧ h.lim ≤ (hx.put h.next ⟨3, [[vp, .fl 6 (X.map Chan.enc), .fl 1 (B.map Tab.enc)]]⟩).lim := lmx
  have bqc := ox.bq
  have q2c : hx.next ≤ (hx.put h.next ⟨3, [[vp, .fl 6 (X.map Chan.enc), .fl 1 (B.map Tab.enc)]]⟩).next := Nat.le_refl _
  clear ox bxx rsx lwy lmx cex cexs bqx
  generalize hx.put h.next ⟨3, [[vp, .fl 6 (X.map Chan.enc), .fl 1 (B.map Tab.enc)]]⟩ = hc at *
  refine app_rule (oc.sl 1 _ rfl) (by omega) (by omega) (by simp; omega) ?_
  intro vc hx sx gx
  have lwx := oc.low (i := 1) rfl (Ext.refl _) gx
  have ox := oc.grow (i := 1) rfl (Ext.refl _) gx sx
  have bxx := (lwx h.next (by omega)).trans bxc
  have rsx := (lwx (h.next + 1) (by omega)).trans rsc
  have lwy : ∀ i, i < h.next → hx.get i = h.get i := fun i hi => (lwx i (by omega)).trans (lwc i hi)
  have lmx : hx.lim ≤ h.lim ∧ h.lim ≤ hx.lim := by have := gx.lim; omega
  have cex := gx.cell
  have cexs := gx.cells
  have vcc := gx.cell
  have vccs := gx.cells
  clear lwx oc lwc bxc rsc gx sx lmc bqc q2c
  have bqx := ox.bq
  simp (disch := omega) only [go_sem, *]
  have oc := ox.put h.next ⟨3, [[vp, vc, .fl 1 (B.map Tab.enc)]]⟩ (.inl (by omega))
  have bxc : (hx.put h.next ⟨3, [[vp, vc, .fl 1 (B.map Tab.enc)]]⟩).get h.next = some ⟨3, [[vp, vc, .fl 1 (B.map Tab.enc)]]⟩ := by rw [get_put, gsel_eq rfl]
  have rsc : (hx.put h.next ⟨3, [[vp, vc, .fl 1 (B.map Tab.enc)]]⟩).get (h.next + 1) = some ⟨3, [[.ns, .ns, .ns]]⟩ := by rw [get_put, gsel_ne (by omega)]; exact rsx
  have lwc : ∀ i, i < h.next → (hx.put h.next ⟨3, [[vp, vc, .fl 1 (B.map Tab.enc)]]⟩).get i = h.get i := fun i hi => by rw [get_put, gsel_ne (by omega)]; exact lwy i hi
  have lmc : (hx.put h.next ⟨3, [[vp, vc, .fl 1 (B.map Tab.enc)]]⟩).lim ≤ h.lim ∧ h.lim ≤ (hx.put h.next ⟨3, [[vp, vc, .fl 1 (B.map Tab.enc)]]⟩).lim := lmx
  have bqc := ox.bq
  have q2c : hx.next ≤ (hx.put h.next ⟨3, [[vp, vc, .fl 1 (B.map Tab.enc)]]⟩).next := Nat.le_refl _
  clear ox bxx rsx lwy lmx cex cexs bqx
  generalize hx.put h.next ⟨3, [[vp, vc, .fl 1 (B.map Tab.enc)]]⟩ = hc at *
  refine app_rule (oc.sl 2 _ rfl) (by omega) (by omega) (by simp; omega) ?_
  intro vt hx sx gx
  have lwx := oc.low (i := 2) rfl (Ext.refl _) gx
  have ox := oc.grow (i := 2) rfl (Ext.refl _) gx sx
  have bxx := (lwx h.next (by omega)).trans bxc
  have rsx := (lwx (h.next + 1) (by omega)).trans rsc
  have lwy : ∀ i, i < h.next → hx.get i = h.get i := fun i hi => (lwx i (by omega)).trans (lwc i hi)
  have lmx : hx.lim ≤ h.lim ∧ h.lim ≤ hx.lim := by have := gx.lim; omega
  have cex := gx.cell
  have cexs := gx.cells
  have vtc := gx.cell
  have vtcs := gx.cells
  clear lwx oc lwc bxc rsc gx sx lmc bqc q2c
  have bqx := ox.bq
  simp (disch := omega) only [go_sem, *]
  have oc := ox.put h.next ⟨3, [[vp, vc, vt]]⟩ (.inl (by omega))
  have bxc : (hx.put h.next ⟨3, [[vp, vc, vt]]⟩).get h.next = some ⟨3, [[vp, vc, vt]]⟩ := by rw [get_put, gsel_eq rfl]
  have rsc : (hx.put h.next ⟨3, [[vp, vc, vt]]⟩).get (h.next + 1) = some ⟨3, [[.ns, .ns, .ns]]⟩ := by rw [get_put, gsel_ne (by omega)]; exact rsx
  have lwc : ∀ i, i < h.next → (hx.put h.next ⟨3, [[vp, vc, vt]]⟩).get i = h.get i := fun i hi => by rw [get_put, gsel_ne (by omega)]; exact lwy i hi
  have lmc : (hx.put h.next ⟨3, [[vp, vc, vt]]⟩).lim ≤ h.lim ∧ h.lim ≤ (hx.put h.next ⟨3, [[vp, vc, vt]]⟩).lim := lmx
  have bqc := ox.bq
  have q2c : hx.next ≤ (hx.put h.next ⟨3, [[vp, vc, vt]]⟩).next := Nat.le_refl _
  clear ox bxx rsx lwy lmx cex cexs bqx
  generalize hx.put h.next ⟨3, [[vp, vc, vt]]⟩ = hc at *
  have ol : Owns (h.next + 2) hx.next hc [(11, vp, (A ++ [p]).map Part.enc), (6, vc, X.map Chan.enc), (1, vt, B.map Tab.enc), (2, .e0, [])] := oc
  clear oc
  obtain ⟨plen, pbig, plt, plo, pget, pat, prow, _, _⟩ := Sl.facts (enc := Part.enc) (L := A ++ [p]) (ol.sl 0 _ rfl)
  have hnl : (A ++ [p]).length = A.length + 1 := by simp
  have hnth : nth (A ++ [p]) A.length = p := by rw [nth_app, if_neg (by omega), Nat.sub_self, nth_cons0]
  dsimp only at plen plt plo pget pat prow
  simp only [hnl] at plen plt plo pget pat prow
  have prowA := prow A.length (by omega)
  rw [hnth] at prowA
  have plt := plt (by omega)
  have plo := plo (by omega)
  have pget := pget (by omega)
  have hlx : hc.lim ≤ h.next := by omega
  clear prow hnl hnth pbig
  simp only [Part.enc] at prowA
  simp (disch := omega) only [go_sem, *]
  have hpl := sm.pr p (by simp)
  refine app_rule (ol.sl 3 _ rfl) (by omega) (by omega) (by simp; omega) ?_
  intro vr hy sy gy
  have lwy := ol.low (i := 3) rfl (Ext.refl _) gy
  have oy := ol.grow (i := 3) rfl (Ext.refl _) gy sy
  have gyn := gy.get (idV vp) plt (.inl rfl)
  have pgety : hy.get (idV vp) = some ⟨11, csOf hc vp⟩ := gyn.trans pget
  have csy : csOf hy vp = csOf hc vp := by unfold csOf; rw [gyn]
  have vrc := gy.cell
  have vrcs := gy.cells
  have lmy := gy.lim
  have od : OD h (hy.put (idV vp) ⟨11, (csOf hc vp).set (elV vp + A.length) (p.encO vr)⟩) vp vc vt vr A p X B := by
    have os := oy.set (i := 0) (n := A.length) (r := p.encO vr) rfl (by simp)
    have e : ownO vp vc vt vr A p X B = ([(11, vp, (A ++ [p]).map Part.enc), (6, vc, X.map Chan.enc), (1, vt, B.map Tab.enc), (2, V.e0, [])].set 3 (2, vr, [] ++ p.procs.map Proc.enc)).set 0 (11, vp, ((A ++ [p]).map Part.enc).set A.length (p.encO vr)) := by simp [ownO]
    dsimp only at os
    rw [csy] at os
    refine ⟨by rw [e]; exact os.up (Nat.le_refl _) (Nat.le_refl _), by rw [lim_put]; omega, fun i hi => by rw [get_put, gsel_ne (by omega), lwy i (by omega)]; exact lwc i hi, by rw [get_put, gsel_ne (by omega), lwy _ (by omega)]; exact bxc, by rw [get_put, gsel_ne (by omega), lwy _ (by omega)]; exact rsc⟩
  simp only [Part.encO] at od
  have hlz : hy.lim ≤ h.next := by omega
  have hrl : elV vp + A.length < (csOf hc vp).length := Sl.rowlt (ol.sl 0 _ rfl) (by simp)
  clear lwy oy gyn csy gy sy lmy lwc lmc ol bxc rsc bqc q2c hlx
  simp (disch := omega) only [go_sem, *]
  simp only [← Part.encO.eq_1] at od
  generalize hz : hy.put (idV vp) ⟨11, (csOf hc vp).set (elV vp + A.length) [.s p.name, .i .i64 p.budget, .i .i64 p.period, .b p.sched, .b p.stop, vr, .i .i64 p.h0, .i .i64 p.h1, .i .i64 p.h2, .i .i64 p.h3, .i .i64 p.h4]⟩ = hd
  have od2 : OD h hd vp vc vt vr A p X B := by rw [← hz]; exact od
  clear od hz hlz pgety prowA
  refine Pf.goE (within_ev (n := what) (lo := 0) (hi := 15) (by omega) (by omega) (by omega)) (by simp only [go_sem]) ?_
  have wb := within_bd (n := what) (lo := 0) (hi := 15) (by omega)
  generalize within what 0 15 = w at wb ⊢
  intro e he
  have e2 : e 2 = .i .i64 n := (he 2).trans (by simp (disch := omega) only [go_sem, *])
  have e3 : e 3 = .p h.next 0 0 := (he 3).trans (by simp (disch := omega) only [go_sem, *])
  have e6 : e 6 = .p (h.next + 1) 0 0 := (he 6).trans (by simp (disch := omega) only [go_sem, *])
  have e7 : e 7 = .p (idV vp) (elV vp + A.length) 0 := (he 7).trans (by simp (disch := omega) only [go_sem, *])
  clear he
  obtain ⟨plen2, pget2, pat2, prow2, plo2, plt2, prl2, c0, c1, c2, c3, c4, c5, c6, c7⟩ := od2.facts
  have bx := od2.box
  have rs := od2.res
  have lq : hd.lim ≤ h.next := by rw [od2.lim]; exact hlo
  simp only [Part.encO] at prow2
  obtain ⟨rlen, _, rlt, rlo, rget, rat, rrow, _, _⟩ := Sl.facts (enc := Proc.enc) (L := p.procs) (od2.own.sl 3 (2, vr, _) rfl)
  obtain ⟨clen, _, _, _, _, _, _, _, _⟩ := Sl.facts (enc := Chan.enc) (L := X) (od2.own.sl 1 (6, vc, _) rfl)
  obtain ⟨tlen, _, tlt, tlo, tget, tat, trow, _, _⟩ := Sl.facts (enc := Tab.enc) (L := B) (od2.own.sl 2 (1, vt, _) rfl)
  have qq := od2.own.q2
  have bq := od2.own.bq
  dsimp only at rlen rlt rlo rget rat rrow clen tlen tlt tlo tget tat trow
  clear plen pat hrl vpc vpcs vcc vccs vtc vtcs vrc vrcs
  have done0 : ∃ P R H, Settle h (hd.put (h.next + 1) ⟨3, [[vp, vc, vt]]⟩) (.agg [vp, vc, vt]) P R H ∧ K R H := OD.done wf od2 (by omega) (by omega) (by omega) (by omega) (kk _ (Small.mk' sm (by omega) sm.np (by omega) (by omega) sm.nt))
  have hw16 : w = 0 ∨ w = 1 ∨ w = 2 ∨ w = 3 ∨ w = 4 ∨ w = 5 ∨ w = 6 ∨ w = 7 ∨ w = 8 ∨ w = 9 ∨ w = 10 ∨ w = 11 ∨ w = 12 ∨ w = 13 ∨ w = 14 ∨ w = 15 := by omega
  clear wb
  rcases hw16 with rfl | rfl | rfl | rfl | rfl | rfl | rfl | rfl | rfl | rfl | rfl | rfl | rfl | rfl | rfl | rfl
  · -- name
    have hcs : csOf (hd.alloc ⟨1, [[V.s ⟨#[]⟩], [.s ⟨#[49, 97]⟩], [.s ⟨#[112, 97]⟩], [.s ⟨#[111, 107, 95, 49]⟩], [.s ⟨#[116, 104, 105, 114, 116, 101, 101, 110, 108, 111, 110, 103, 95]⟩], [.s ⟨#[65]⟩], [.s ⟨#[116, 119, 101, 108, 118, 101, 95, 108, 111, 110, 103, 95]⟩]]⟩) vp = csOf hd vp := by unfold csOf; rw [get_alloc, gsel_ne (by omega)]
    have fin := fun (s : ByteArray) (hs : s.size < 100) => OD.done (K := K) wf ((od2.exts ((Ext.refl hd).alloc ⟨1, [[V.s ⟨#[]⟩], [.s ⟨#[49, 97]⟩], [.s ⟨#[112, 97]⟩], [.s ⟨#[111, 107, 95, 49]⟩], [.s ⟨#[116, 104, 105, 114, 116, 101, 101, 110, 108, 111, 110, 103, 95]⟩], [.s ⟨#[65]⟩], [.s ⟨#[116, 119, 101, 108, 118, 101, 95, 108, 111, 110, 103, 95]⟩]]⟩)).part { p with name := s } rfl) (by omega) (by simp only; omega) (by omega) (by omega) (kk _ (Small.mk' sm (by simp only; omega) (by simp only; omega) (by omega) (by omega) sm.nt))
    rw [hcs] at fin
    simp only [Part.encO] at fin
    clear kk od2 done0 hcs
    obtain ⟨q, q0, q15, hand⟩ := and_eq n (c := 15) (by omega) (by omega)
    obtain ⟨v, v0, v6, pv⟩ := within6 q
    simp (disch := omega) only [go_sem, *]
    repeat' (first | (refine Wg_dec (fun hc => ?_) (fun hc => ?_) <;> simp (disch := omega) only [go_sem, *]) | (refine Wb_dec (fun hc => ?_) (fun hc => ?_) <;> simp (disch := omega) only [go_sem, *]) | (refine Wg_of (fun hc => ?_) (fun hc => ?_) <;> simp (disch := omega) only [go_sem, *]) | (refine Wb_of (fun hc => ?_) (fun hc => ?_) <;> simp (disch := omega) only [go_sem, *]))
    all_goals
      refine Pf.go pv (by simp only [go_sem]) fun _ => ?_
      obtain ⟨s, hs, hrow⟩ := tab7 v0 v6
      have fs := fin s hs
      clear fin
      simp (disch := omega) only [go_sem, *]
  · -- budget
    have fin := OD.done (K := K) wf (od2.part { p with budget := n } rfl) (by omega) (by simp only; omega) (by omega) (by omega) (kk _ (Small.mk' sm (by simp only; omega) sm.np (by omega) (by omega) sm.nt))
    simp only [Part.encO] at fin
    clear kk od2
    simp (disch := omega) only [go_sem, *]
    repeat' (first | (refine Wg_dec (fun hc => ?_) (fun hc => ?_) <;> simp (disch := omega) only [go_sem, *]) | (refine Wb_dec (fun hc => ?_) (fun hc => ?_) <;> simp (disch := omega) only [go_sem, *]) | (refine Wg_of (fun hc => ?_) (fun hc => ?_) <;> simp (disch := omega) only [go_sem, *]) | (refine Wb_of (fun hc => ?_) (fun hc => ?_) <;> simp (disch := omega) only [go_sem, *]))
  · -- period
    have fin := OD.done (K := K) wf (od2.part { p with period := n } rfl) (by omega) (by simp only; omega) (by omega) (by omega) (kk _ (Small.mk' sm (by simp only; omega) sm.np (by omega) (by omega) sm.nt))
    simp only [Part.encO] at fin
    clear kk od2
    simp (disch := omega) only [go_sem, *]
    repeat' (first | (refine Wg_dec (fun hc => ?_) (fun hc => ?_) <;> simp (disch := omega) only [go_sem, *]) | (refine Wb_dec (fun hc => ?_) (fun hc => ?_) <;> simp (disch := omega) only [go_sem, *]) | (refine Wg_of (fun hc => ?_) (fun hc => ?_) <;> simp (disch := omega) only [go_sem, *]) | (refine Wb_of (fun hc => ?_) (fun hc => ?_) <;> simp (disch := omega) only [go_sem, *]))
  · -- health
    obtain ⟨q, hq0, hq, hand⟩ := and_eq n (c := 3) (by omega) (by omega)
    have fin := fun (p' : Part) (h1 : p'.procs = p.procs) (h2 : p'.name = p.name) => OD.done (K := K) wf (od2.part p' h1) (by omega) (by rw [h1]; omega) (by omega) (by omega) (kk _ (Small.mk' sm (by rw [h1]; omega) (by rw [h2]; exact sm.np) (by omega) (by omega) sm.nt))
    have f0 := fin { p with h0 := n } rfl rfl
    have f1 := fin { p with h1 := n } rfl rfl
    have f2 := fin { p with h2 := n } rfl rfl
    have f3 := fin { p with h3 := n } rfl rfl
    simp only [Part.encO] at f0 f1 f2 f3
    clear fin kk od2 done0
    have hq4 : q = 0 ∨ q = 1 ∨ q = 2 ∨ q = 3 := by omega
    clear hq hq0
    rcases hq4 with rfl | rfl | rfl | rfl
    · clear f1 f2 f3
      simp (disch := omega) only [go_sem, *]
      repeat' (first | (refine Wg_dec (fun hc => ?_) (fun hc => ?_) <;> simp (disch := omega) only [go_sem, *]) | (refine Wb_dec (fun hc => ?_) (fun hc => ?_) <;> simp (disch := omega) only [go_sem, *]) | (refine Wg_of (fun hc => ?_) (fun hc => ?_) <;> simp (disch := omega) only [go_sem, *]) | (refine Wb_of (fun hc => ?_) (fun hc => ?_) <;> simp (disch := omega) only [go_sem, *]))
    · clear f0 f2 f3
      simp (disch := omega) only [go_sem, *]
      repeat' (first | (refine Wg_dec (fun hc => ?_) (fun hc => ?_) <;> simp (disch := omega) only [go_sem, *]) | (refine Wb_dec (fun hc => ?_) (fun hc => ?_) <;> simp (disch := omega) only [go_sem, *]) | (refine Wg_of (fun hc => ?_) (fun hc => ?_) <;> simp (disch := omega) only [go_sem, *]) | (refine Wb_of (fun hc => ?_) (fun hc => ?_) <;> simp (disch := omega) only [go_sem, *]))
    · clear f0 f1 f3
      simp (disch := omega) only [go_sem, *]
      repeat' (first | (refine Wg_dec (fun hc => ?_) (fun hc => ?_) <;> simp (disch := omega) only [go_sem, *]) | (refine Wb_dec (fun hc => ?_) (fun hc => ?_) <;> simp (disch := omega) only [go_sem, *]) | (refine Wg_of (fun hc => ?_) (fun hc => ?_) <;> simp (disch := omega) only [go_sem, *]) | (refine Wb_of (fun hc => ?_) (fun hc => ?_) <;> simp (disch := omega) only [go_sem, *]))
    · clear f0 f1 f2
      simp (disch := omega) only [go_sem, *]
      repeat' (first | (refine Wg_dec (fun hc => ?_) (fun hc => ?_) <;> simp (disch := omega) only [go_sem, *]) | (refine Wb_dec (fun hc => ?_) (fun hc => ?_) <;> simp (disch := omega) only [go_sem, *]) | (refine Wg_of (fun hc => ?_) (fun hc => ?_) <;> simp (disch := omega) only [go_sem, *]) | (refine Wb_of (fun hc => ?_) (fun hc => ?_) <;> simp (disch := omega) only [go_sem, *]))
  · -- entry
    by_cases hp0 : p.procs.length = 0
    · clear kk od2
      simp (disch := omega) only [go_sem, *]
    · have rr0 := rrow 0 (by omega)
      have fin := OD.done (K := K) wf (od2.proc0 (by omega) { nth p.procs 0 with entry := n }) (by omega) (by simp only [List.length_set]; omega) (by omega) (by omega) (kk _ (Small.mk' sm (by simp only [List.length_set]; omega) sm.np (by omega) (by omega) sm.nt))
      simp only [Proc.enc, Nat.add_zero] at fin rr0
      clear kk od2 rrow
      simp (disch := omega) only [go_sem, *]
      repeat' (first | (refine Wg_dec (fun hc => ?_) (fun hc => ?_) <;> simp (disch := omega) only [go_sem, *]) | (refine Wb_dec (fun hc => ?_) (fun hc => ?_) <;> simp (disch := omega) only [go_sem, *]) | (refine Wg_of (fun hc => ?_) (fun hc => ?_) <;> simp (disch := omega) only [go_sem, *]) | (refine Wb_of (fun hc => ?_) (fun hc => ?_) <;> simp (disch := omega) only [go_sem, *]))
  · -- prio
    by_cases hp0 : p.procs.length = 0
    · clear kk od2
      simp (disch := omega) only [go_sem, *]
    · have rr0 := rrow 0 (by omega)
      have fin := OD.done (K := K) wf (od2.proc0 (by omega) { nth p.procs 0 with prio := n }) (by omega) (by simp only [List.length_set]; omega) (by omega) (by omega) (kk _ (Small.mk' sm (by simp only [List.length_set]; omega) sm.np (by omega) (by omega) sm.nt))
      simp only [Proc.enc, Nat.add_zero] at fin rr0
      clear kk od2 rrow
      simp (disch := omega) only [go_sem, *]
      repeat' (first | (refine Wg_dec (fun hc => ?_) (fun hc => ?_) <;> simp (disch := omega) only [go_sem, *]) | (refine Wb_dec (fun hc => ?_) (fun hc => ?_) <;> simp (disch := omega) only [go_sem, *]) | (refine Wg_of (fun hc => ?_) (fun hc => ?_) <;> simp (disch := omega) only [go_sem, *]) | (refine Wb_of (fun hc => ?_) (fun hc => ?_) <;> simp (disch := omega) only [go_sem, *]))
  · -- no processes
    have o6 := od2.own.new (i := 3) (sz := 2) (R := []) (by simp [ownO]) (Sl.nil _ _ _)
    have fin := OD.done (K := K) wf (OD.procs (L := []) od2 (Nat.le_refl _) o6 rfl (fun _ _ => rfl) rfl) (by omega) (by simp) (by omega) (by omega) (kk _ (Small.mk' sm (by simp) sm.np (by omega) (by omega) sm.nt))
    simp only [Part.encO, List.map_nil] at fin
    clear kk od2 o6
    simp (disch := omega) only [go_sem, *]
    repeat' (first | (refine Wg_dec (fun hc => ?_) (fun hc => ?_) <;> simp (disch := omega) only [go_sem, *]) | (refine Wb_dec (fun hc => ?_) (fun hc => ?_) <;> simp (disch := omega) only [go_sem, *]) | (refine Wg_of (fun hc => ?_) (fun hc => ?_) <;> simp (disch := omega) only [go_sem, *]) | (refine Wb_of (fun hc => ?_) (fun hc => ?_) <;> simp (disch := omega) only [go_sem, *]))
  · -- more processes
    obtain ⟨q, q0, q1, hand⟩ := and_eq n (c := 1) (by omega) (by omega)
    clear done0
    simp (disch := omega) only [go_sem, *]
    repeat' (first | (refine Wg_dec (fun hc => ?_) (fun hc => ?_) <;> simp (disch := omega) only [go_sem, *]) | (refine Wb_dec (fun hc => ?_) (fun hc => ?_) <;> simp (disch := omega) only [go_sem, *]) | (refine Wg_of (fun hc => ?_) (fun hc => ?_) <;> simp (disch := omega) only [go_sem, *]) | (refine Wb_of (fun hc => ?_) (fun hc => ?_) <;> simp (disch := omega) only [go_sem, *]))
    all_goals
      refine odd_l7 hand q0 q1 hlo (by omega) (by omega) od2 (by simp (disch := omega) only [go_sem, *]) (by simp (disch := omega) only [go_sem, *]) (by simp (disch := omega) only [go_sem, *]) (by simp (disch := omega) only [go_sem, *]) ?_
      clear e2 e3 e6 e7
      intro e' h' vr' L e3 e6 a hl
      have fin := OD.done (K := K) wf a (by omega) (by simp only; omega) (by omega) (by omega) (kk _ (Small.mk' sm (by simp only; omega) sm.np (by omega) (by omega) sm.nt))
      have bx' := a.box
      have rs' := a.res
      have lq' : h'.lim ≤ h.next := by rw [a.lim]; exact hlo
      clear kk od2 a bx rs lq
      simp (disch := omega) only [go_sem, *]
  · -- a channel
    obtain ⟨q, q0, q1, hand⟩ := and_eq n (c := 1) (by omega) (by omega)
    clear done0
    simp (disch := omega) only [go_sem, *]
    repeat' (first | (refine Wg_dec (fun hc => ?_) (fun hc => ?_) <;> simp (disch := omega) only [go_sem, *]) | (refine Wb_dec (fun hc => ?_) (fun hc => ?_) <;> simp (disch := omega) only [go_sem, *]) | (refine Wg_of (fun hc => ?_) (fun hc => ?_) <;> simp (disch := omega) only [go_sem, *]) | (refine Wb_of (fun hc => ?_) (fun hc => ?_) <;> simp (disch := omega) only [go_sem, *]))
    all_goals
      refine app_rule (N := [(⟨n, 0, decide (q = 0), 1 - q, 0, 0⟩ : Chan).enc]) ((od2.own.sl 1 (6, vc, _) rfl).alloc _) (by first | omega | (simp (disch := omega) only [go_sem, *] <;> omega)) (by first | omega | (simp (disch := omega) only [go_sem, *] <;> omega)) (by simp; omega) ?_
      intro w h5 s5 g5
      have g5 : Grown (h.next + 2) (hd.alloc ⟨6, [(⟨n, 0, decide (q = 0), 1 - q, 0, 0⟩ : Chan).enc]⟩) vc w h5 := g5
      have x5 := (Ext.refl hd).alloc ⟨6, [(⟨n, 0, decide (q = 0), 1 - q, 0, 0⟩ : Chan).enc]⟩
      have lo5 := od2.own.low (i := 1) rfl x5 g5
      have a5 := od2.chan x5 s5 g5
      have bx5 := (lo5 h.next (by omega)).trans bx
      have rs5 := (lo5 (h.next + 1) (by omega)).trans rs
      have lq5 : h5.lim ≤ h.next := by have := g5.lim; have := x5.lim; omega
      have w1 := g5.cell
      have w2 := g5.cells
      have fin := OD.done (K := K) wf a5 (by omega) (by omega) (by simp; omega) (by omega) (kk _ (Small.mk' sm (by omega) sm.np (by simp; omega) (by omega) sm.nt))
      clear kk od2 a5 s5 g5 x5 lo5 bx rs
      simp (disch := omega) only [go_sem, *]
  · -- another
    obtain ⟨q, q0, q1, hand⟩ := and_eq n (c := 1) (by omega) (by omega)
    clear done0
    simp (disch := omega) only [go_sem, *]
    repeat' (first | (refine Wg_dec (fun hc => ?_) (fun hc => ?_) <;> simp (disch := omega) only [go_sem, *]) | (refine Wb_dec (fun hc => ?_) (fun hc => ?_) <;> simp (disch := omega) only [go_sem, *]) | (refine Wg_of (fun hc => ?_) (fun hc => ?_) <;> simp (disch := omega) only [go_sem, *]) | (refine Wb_of (fun hc => ?_) (fun hc => ?_) <;> simp (disch := omega) only [go_sem, *]))
    all_goals
      refine app_rule (N := [(⟨0, A.length, decide (q = 0), n, 0, 0⟩ : Chan).enc]) ((od2.own.sl 1 (6, vc, _) rfl).alloc _) (by first | omega | (simp (disch := omega) only [go_sem, *] <;> omega)) (by first | omega | (simp (disch := omega) only [go_sem, *] <;> omega)) (by simp; omega) ?_
      intro w h5 s5 g5
      have g5 : Grown (h.next + 2) (hd.alloc ⟨6, [(⟨0, A.length, decide (q = 0), n, 0, 0⟩ : Chan).enc]⟩) vc w h5 := g5
      have x5 := (Ext.refl hd).alloc ⟨6, [(⟨0, A.length, decide (q = 0), n, 0, 0⟩ : Chan).enc]⟩
      have lo5 := od2.own.low (i := 1) rfl x5 g5
      have a5 := od2.chan x5 s5 g5
      have bx5 := (lo5 h.next (by omega)).trans bx
      have rs5 := (lo5 (h.next + 1) (by omega)).trans rs
      have lq5 : h5.lim ≤ h.next := by have := g5.lim; have := x5.lim; omega
      have w1 := g5.cell
      have w2 := g5.cells
      have fin := OD.done (K := K) wf a5 (by omega) (by omega) (by simp; omega) (by omega) (kk _ (Small.mk' sm (by omega) sm.np (by simp; omega) (by omega) sm.nt))
      clear kk od2 a5 s5 g5 x5 lo5 bx rs
      simp (disch := omega) only [go_sem, *]
  · -- a third
    clear done0
    simp (disch := omega) only [go_sem, *]
    repeat' (first | (refine Wg_dec (fun hc => ?_) (fun hc => ?_) <;> simp (disch := omega) only [go_sem, *]) | (refine Wb_dec (fun hc => ?_) (fun hc => ?_) <;> simp (disch := omega) only [go_sem, *]) | (refine Wg_of (fun hc => ?_) (fun hc => ?_) <;> simp (disch := omega) only [go_sem, *]) | (refine Wb_of (fun hc => ?_) (fun hc => ?_) <;> simp (disch := omega) only [go_sem, *]))
    all_goals
      refine app_rule (N := [(⟨A.length, 0, false, 0, 0, n⟩ : Chan).enc]) ((od2.own.sl 1 (6, vc, _) rfl).alloc _) (by first | omega | (simp (disch := omega) only [go_sem, *] <;> omega)) (by first | omega | (simp (disch := omega) only [go_sem, *] <;> omega)) (by simp; omega) ?_
      intro w h5 s5 g5
      have g5 : Grown (h.next + 2) (hd.alloc ⟨6, [(⟨A.length, 0, false, 0, 0, n⟩ : Chan).enc]⟩) vc w h5 := g5
      have x5 := (Ext.refl hd).alloc ⟨6, [(⟨A.length, 0, false, 0, 0, n⟩ : Chan).enc]⟩
      have lo5 := od2.own.low (i := 1) rfl x5 g5
      have a5 := od2.chan x5 s5 g5
      have bx5 := (lo5 h.next (by omega)).trans bx
      have rs5 := (lo5 (h.next + 1) (by omega)).trans rs
      have lq5 : h5.lim ≤ h.next := by have := g5.lim; have := x5.lim; omega
      have w1 := g5.cell
      have w2 := g5.cells
      have fin := OD.done (K := K) wf a5 (by omega) (by omega) (by simp; omega) (by omega) (kk _ (Small.mk' sm (by omega) sm.np (by simp; omega) (by omega) sm.nt))
      clear kk od2 a5 s5 g5 x5 lo5 bx rs
      simp (disch := omega) only [go_sem, *]
  · -- one more node
    cases B with
    | nil =>
      simp only [List.length_nil] at tlen
      clear kk od2
      simp (disch := omega) only [go_sem, *]
      repeat' (first | (refine Wg_dec (fun hc => ?_) (fun hc => ?_) <;> simp (disch := omega) only [go_sem, *]) | (refine Wb_dec (fun hc => ?_) (fun hc => ?_) <;> simp (disch := omega) only [go_sem, *]) | (refine Wg_of (fun hc => ?_) (fun hc => ?_) <;> simp (disch := omega) only [go_sem, *]) | (refine Wb_of (fun hc => ?_) (fun hc => ?_) <;> simp (disch := omega) only [go_sem, *]))
    | cons t B2 =>
      have tr0 := trow 0 (by simp)
      have hlt := tlt (by simp)
      have htl := sm.n t (by simp)
      have hsv := Sl.sameV (od2.own.sl 2 (1, vt, _) rfl)
      have hB2 : B2.length + 1 ≤ k := by simpa using hBl
      simp only [nth_cons0, Tab.enc, Nat.add_zero, List.length_cons] at tr0 tlen tlt tlo tget tat
      clear trow rrow
      simp (disch := omega) only [go_sem, *]
      repeat' (first | (refine Wg_dec (fun hc => ?_) (fun hc => ?_) <;> simp (disch := omega) only [go_sem, *]) | (refine Wb_dec (fun hc => ?_) (fun hc => ?_) <;> simp (disch := omega) only [go_sem, *]) | (refine Wg_of (fun hc => ?_) (fun hc => ?_) <;> simp (disch := omega) only [go_sem, *]) | (refine Wb_of (fun hc => ?_) (fun hc => ?_) <;> simp (disch := omega) only [go_sem, *]))
      all_goals
        refine app_rule (b := hd.next) (R := []) (Sl.nil' _ _ _) (by rw [lim_raise]; exact Nat.le_refl _) (by rw [next_raise]; exact Nat.le_refl _) (by simp; omega) ?_
        intro w h5 s5 g5
        have x6 : Ext hd (h5.back hd.lim) := ⟨g5.next, rfl, g5.low⟩
        have s6 : Sl hd.next (h5.back hd.lim) 3 w (t.map Node.enc) := s5
        have w1 := g5.cell
        have w2 := g5.cells
        clear s5 g5
        simp (disch := omega) only [go_sem, *]
        generalize h5.back hd.lim = h6 at x6 s6 ⊢
        have n6 := x6.next
        have l6 := x6.lim
        refine app_rule (N := [(⟨2, 0, n⟩ : Node).enc]) (s6.alloc _) (by rw [lim_alloc]; omega) (by rw [next_alloc]; omega) (by simp; omega) ?_
        intro w' h7 s7 g7
        have x7 : Ext hd h7 := ⟨by have := g7.next; rw [next_alloc] at this; omega, by rw [g7.lim, lim_alloc]; exact l6, fun i hi => by rw [g7.low i hi, get_alloc, gsel_ne (by omega)]; exact x6.get i hi⟩
        have bx7 := (x7.get _ (by omega)).trans bx
        have rs7 := (x7.get _ (by omega)).trans rs
        have tg7 : h7.get (idV vt) = some ⟨1, csOf hd vt⟩ := (x7.get _ hlt).trans (tget (by omega))
        have cs7 : csOf h7 vt = csOf hd vt := by unfold csOf; rw [x7.get _ hlt]
        have l7 : h7.lim ≤ h.next := by rw [x7.lim]; exact lq
        have lo2 := tlo (by omega)
        have w3 := g7.cell
        have w4 := g7.cells
        have rl7 := (od2.own.sl 2 (1, vt, (t :: B2).map Tab.enc) rfl).rowlt (j := 0) (by simp)
        have o7 := (od2.own.keep x7.next x7.get).set (i := 2) (a := (1, vt, (t :: B2).map Tab.enc)) (n := 0) (r := [w']) rfl (by simp)
        dsimp only at o7 rl7
        rw [cs7, Nat.add_zero] at o7
        rw [Nat.add_zero] at rl7
        have s8 : Sl hd.next h7 3 w' ((t ++ [(⟨2, 0, n⟩ : Node)]).map Node.enc) := by simpa using s7
        have fin := OD.done3 (K := K) (x := t ++ [⟨2, 0, n⟩]) wf o7 (Sl.frzb (Sl.weak (sl_put (sl_put s8 (idV vt) ⟨1, (csOf hd vt).set (elV vt) [w']⟩ ((sl_own s8).imp (fun x => x) (fun x => by omega))) (h.next + 1) ⟨3, [[vp, vc, vt]]⟩ ((sl_own s8).imp (fun x => x) (fun x => by omega))) (by omega)) (fun _ => rfl) (by simp; omega)) (x7.lim.trans od2.lim) (fun i hi => by rw [get_put, gsel_ne (by omega), x7.get i (by omega)]; exact od2.low i hi) (by omega) (by omega) (by omega) (by omega) (kk _ (Small.mk' sm (by omega) sm.np (by omega) (by simp only [List.length_cons]; omega) (fun t' ht' => by
          rcases List.mem_cons.1 ht' with rfl | h1
          · simp; omega
          · exact sm.nt t' (List.mem_cons_of_mem _ h1))))
        simp only [Nat.add_zero] at fin
        clear kk od2 o7 s7 g7 s8 x7 x6 s6 cs7 bx rs lq l6 n6
        simp (disch := omega) only [go_sem, *]
  · -- a window
    obtain ⟨q, q0, q1, hand⟩ := and_eq n (c := 7) (by omega) (by omega)
    obtain ⟨q', q0', q1', hand'⟩ := and_eq n (c := 63) (by omega) (by omega)
    cases B with
    | nil =>
      simp only [List.length_nil] at tlen
      clear kk od2
      simp (disch := omega) only [go_sem, *]
      repeat' (first | (refine Wg_dec (fun hc => ?_) (fun hc => ?_) <;> simp (disch := omega) only [go_sem, *]) | (refine Wb_dec (fun hc => ?_) (fun hc => ?_) <;> simp (disch := omega) only [go_sem, *]) | (refine Wg_of (fun hc => ?_) (fun hc => ?_) <;> simp (disch := omega) only [go_sem, *]) | (refine Wb_of (fun hc => ?_) (fun hc => ?_) <;> simp (disch := omega) only [go_sem, *]))
    | cons t B2 =>
      have tr0 := trow 0 (by simp)
      have hlt := tlt (by simp)
      have hB2 : B2.length + 1 ≤ k := by simpa using hBl
      simp only [nth_cons0, Tab.enc, Nat.add_zero, List.length_cons] at tr0 tlen tlt tlo tget tat
      have lo2 := tlo (by omega)
      have x7 : Ext hd (hd.alloc ⟨3, [(⟨1, q, 1 + q'⟩ : Node).enc]⟩) := (Ext.refl hd).alloc _
      have cs7 : csOf (hd.alloc ⟨3, [(⟨1, q, 1 + q'⟩ : Node).enc]⟩) vt = csOf hd vt := by unfold csOf; rw [x7.get _ hlt]
      have rl7 := (od2.own.sl 2 (1, vt, (t :: B2).map Tab.enc) rfl).rowlt (j := 0) (by simp)
      have o7 := (od2.own.keep x7.next x7.get).set (i := 2) (a := (1, vt, (t :: B2).map Tab.enc)) (n := 0) (r := [.sl hd.next 0 1 1]) rfl (by simp)
      dsimp only at o7 rl7
      rw [cs7, Nat.add_zero] at o7
      rw [Nat.add_zero] at rl7
      have s8 : Sl hd.next (hd.alloc ⟨3, [(⟨1, q, 1 + q'⟩ : Node).enc]⟩) 3 (.sl hd.next 0 1 1) ([(⟨1, q, 1 + q'⟩ : Node)].map Node.enc) := Sl.new (Nat.le_refl _) (by simp)
      have fin := OD.done3 (K := K) (x := [⟨1, q, 1 + q'⟩]) wf o7 (Sl.frzb (Sl.weak (sl_put (sl_put s8 (idV vt) ⟨1, (csOf hd vt).set (elV vt) [.sl hd.next 0 1 1]⟩ ((sl_own s8).imp (fun x => x) (fun x => by omega))) (h.next + 1) ⟨3, [[vp, vc, vt]]⟩ ((sl_own s8).imp (fun x => x) (fun x => by omega))) (by omega)) (fun _ => rfl) (by simp)) (x7.lim.trans od2.lim) (fun i hi => by rw [get_put, gsel_ne (by omega), x7.get i (by omega)]; exact od2.low i hi) (by omega) (by omega) (by omega) (by omega) (kk _ (Small.mk' sm (by omega) sm.np (by omega) (by simp only [List.length_cons]; omega) (fun t' ht' => by
        rcases List.mem_cons.1 ht' with rfl | h1
        · simp only [List.length_cons, List.length_nil]; omega
        · exact sm.nt t' (List.mem_cons_of_mem _ h1))))
      simp only [Node.enc, Nat.add_zero] at fin
      clear kk od2 o7 s8 x7 cs7 trow rrow
      simp (disch := omega) only [go_sem, *]
      repeat' (first | (refine Wg_dec (fun hc => ?_) (fun hc => ?_) <;> simp (disch := omega) only [go_sem, *]) | (refine Wb_dec (fun hc => ?_) (fun hc => ?_) <;> simp (disch := omega) only [go_sem, *]) | (refine Wg_of (fun hc => ?_) (fun hc => ?_) <;> simp (disch := omega) only [go_sem, *]) | (refine Wb_of (fun hc => ?_) (fun hc => ?_) <;> simp (disch := omega) only [go_sem, *]))
  · -- no tables
    have o6 := od2.own.new (i := 2) (sz := 1) (R := []) (by simp [ownO]) (Sl.nil _ _ _)
    have a6 : OD h (hd.put h.next ⟨3, [[vp, vc, .ns]]⟩) vp vc .ns vr A p X [] := OD.mk2 o6 od2.lim od2.low od2.res
    have fin := OD.done (K := K) wf a6 (by omega) (by omega) (by omega) (by simp) (kk _ (Small.mk' sm (by omega) sm.np (by omega) (by simp) (fun t ht => by cases ht)))
    clear kk od2 o6 a6
    simp (disch := omega) only [go_sem, *]
    repeat' (first | (refine Wg_dec (fun hc => ?_) (fun hc => ?_) <;> simp (disch := omega) only [go_sem, *]) | (refine Wb_dec (fun hc => ?_) (fun hc => ?_) <;> simp (disch := omega) only [go_sem, *]) | (refine Wg_of (fun hc => ?_) (fun hc => ?_) <;> simp (disch := omega) only [go_sem, *]) | (refine Wb_of (fun hc => ?_) (fun hc => ?_) <;> simp (disch := omega) only [go_sem, *]))
  · -- more tables
    obtain ⟨q, q0, q1, hand⟩ := and_eq n (c := 1) (by omega) (by omega)
    by_cases hB0 : B.length = 0
    · clear kk od2
      simp (disch := omega) only [go_sem, *]
      repeat' (first | (refine Wg_dec (fun hc => ?_) (fun hc => ?_) <;> simp (disch := omega) only [go_sem, *]) | (refine Wb_dec (fun hc => ?_) (fun hc => ?_) <;> simp (disch := omega) only [go_sem, *]) | (refine Wg_of (fun hc => ?_) (fun hc => ?_) <;> simp (disch := omega) only [go_sem, *]) | (refine Wb_of (fun hc => ?_) (fun hc => ?_) <;> simp (disch := omega) only [go_sem, *]))
    · simp (disch := omega) only [go_sem, *]
      repeat' (first | (refine Wg_dec (fun hc => ?_) (fun hc => ?_) <;> simp (disch := omega) only [go_sem, *]) | (refine Wb_dec (fun hc => ?_) (fun hc => ?_) <;> simp (disch := omega) only [go_sem, *]) | (refine Wg_of (fun hc => ?_) (fun hc => ?_) <;> simp (disch := omega) only [go_sem, *]) | (refine Wb_of (fun hc => ?_) (fun hc => ?_) <;> simp (disch := omega) only [go_sem, *]))
      all_goals
        refine odd_l14 hand q0 q1 hlo (by omega) (by omega) (by omega) od2 (by simp (disch := omega) only [go_sem, *]) (by simp (disch := omega) only [go_sem, *]) (by simp (disch := omega) only [go_sem, *]) ?_
        clear e2 e3 e6 e7
        intro e' h' vt' B' e3 e6 a hl hm
        have fin := OD.done (K := K) wf a (by omega) (by omega) (by omega) (by omega) (kk _ (Small.mk' sm (by omega) sm.np (by omega) (by omega) (fun t ht => sm.nt t (hm t ht))))
        have bx' := a.box
        have rs' := a.res
        have lq' : h'.lim ≤ h.next := by rw [a.lim]; exact hlo
        have c4' := a.facts.c4
        have c5' := a.facts.c5
        clear kk od2 a bx rs lq hm done0
        simp (disch := omega) only [go_sem, *]
  · -- more channels
    obtain ⟨q, q0, q1, hand⟩ := and_eq n (c := 1) (by omega) (by omega)
    clear done0
    simp (disch := omega) only [go_sem, *]
    repeat' (first | (refine Wg_dec (fun hc => ?_) (fun hc => ?_) <;> simp (disch := omega) only [go_sem, *]) | (refine Wb_dec (fun hc => ?_) (fun hc => ?_) <;> simp (disch := omega) only [go_sem, *]) | (refine Wg_of (fun hc => ?_) (fun hc => ?_) <;> simp (disch := omega) only [go_sem, *]) | (refine Wb_of (fun hc => ?_) (fun hc => ?_) <;> simp (disch := omega) only [go_sem, *]))
    all_goals
      refine odd_l15 hand q0 q1 hlo (by omega) (by omega) od2 (by simp (disch := omega) only [go_sem, *]) (by simp (disch := omega) only [go_sem, *]) (by simp (disch := omega) only [go_sem, *]) ?_
      clear e2 e3 e6 e7
      intro e' h' vc' X' e3 e6 a hl
      have fin := OD.done (K := K) wf a (by omega) (by omega) (by omega) (by omega) (kk _ (Small.mk' sm (by omega) sm.np (by omega) (by omega) sm.nt))
      have bx' := a.box
      have rs' := a.res
      have lq' : h'.lim ≤ h.next := by rw [a.lim]; exact hlo
      have c4' := a.facts.c2
      have c5' := a.facts.c3
      clear kk od2 a bx rs lq
      simp (disch := omega) only [go_sem, *]
end Go.Ab.T
namespace Go.Ab.T
open Go Go.Ab
set_option maxHeartbeats 4000000
attribute [go_sem] bin_and
theorem Made.small {C : Config} (m : Made C) : Small 10 C := by
  obtain ⟨⟨h1, h2, h3, h4, h5⟩, hp, hc, ht⟩ := where_iff.1 m.wh
  refine ⟨h1, h2, by omega, by omega, fun t hx => ?_, fun p hx => ?_, m.nm⟩
  · have := (tableR_iff.1 (ht t hx)).1.right
    have := ((right_iff t).1 this).1
    omega
  · obtain ⟨i, hi, rfl⟩ := List.mem_iff_getElem.1 hx
    have := (hp i hi).2.2
    rw [nth_eq hi] at this
    unfold partB at this
    simp only [Bool.and_eq_true] at this
    have := this.1.1
    unfold procsB at this
    simp only [Bool.and_eq_true, decide_eq_true_eq] at this
    omega
end Go.Ab.T
namespace Go.Ab.T
open Go Go.Ab
set_option maxHeartbeats 4000000
set_option maxRecDepth 4000
theorem tape12_ev {k : Int} {h : AH} {K : V → AH → Prop} (kk : ∀ L : List Int, L.length ≤ 400 → K (.fl 1 (L.map encI)) h) : Cq tp i_Q5 [.i .i64 k] h K := by
  refine Cq_go fn_Q5 (by simp [t_Q5]) fun wf rp => ?_
  unfold t_Q5
  have hlo := wf.1
  simp (disch := omega) only [go_sem, *]
  refine ZC_loop_n (fun n' e hh => ∃ (i : Nat) (v : V) (L : List Int), n' = 400 - i ∧ Ext h hh ∧ e 0 = .i .i64 k ∧ e 3 = v ∧ e 4 = .i .i64 i ∧ i ≤ 400 ∧ L.length = i ∧ Sl h.next hh 1 v (L.map encI)) ?_ _ _ _ ⟨0, .ns, [], rfl, ?_⟩
  · rintro n' e hh ⟨i, v, L, rfl, x, e0, e3, e4, hi, hl, s⟩ ih
    have hlm := x.lim
    have hnx := x.next
    rw [ZC_unf Q5_6.eq_1]
    simp (disch := omega) only [go_sem, *]
    refine Wb_dec (fun hc => ?_) (fun hc => ?_)
    · simp (disch := omega) only [go_sem, *]
      refine app_rule (N := [encI ?x]) (s.alloc ⟨1, [encI ?x]⟩) ?_ ?_ ?_ ?_
      · rw [lim_alloc]; omega
      · rw [next_alloc]; omega
      · simp; omega
      intro w h4 s4 g4
      have x4 : Ext h h4 := ⟨by have := g4.next; rw [next_alloc] at this; omega, by rw [g4.lim, lim_alloc]; exact hlm, fun j hj => by rw [g4.low j hj, get_alloc, gsel_ne (by omega)]; exact x.get j hj⟩
      have s5 : Sl h.next h4 1 w ((L ++ [?x]).map encI) := by simpa using s4
      clear s4
      simp (disch := omega) only [go_sem, *]
      refine ih _ _ _ ?_ ⟨i + 1, w, L ++ [?x], rfl, ?_⟩
      · omega
      · simp (disch := omega) only [go_sem, *]
        all_goals ((repeat' refine And.intro ?_ ?_) <;> first | omega | assumption | (exact x4) | (exact s5) | ((simp; omega)))
    · simp (disch := omega) only [go_sem, *]
      exact ⟨_, .fl 1 (L.map encI), h, Settle.ext wf x (Sl.frzb s (fun _ => rfl) (by omega)), kk L (by omega)⟩
  · simp (disch := omega) only [go_sem, *]
    ((repeat' refine And.intro ?_ ?_) <;> first | omega | assumption | (exact Ext.refl _) | (exact Sl.nil _ _ _) | (rfl))
def L14 : List Int := [-1, 0, 1, 2, 3, 8, 9, 255, 256, 511, 512, 4096, 4097, 1099511627776]
theorem num_14 {K : Ex → Env → AH → Prop} {e : Env} {h' : AH} {C : Config} {bx m : Nat} {k w : Int} {v : V} (sm : Small 10 C) (hb : h'.get bx = some ⟨3, [C.enc]⟩) (s : Sl m h' 1 v (L14.map encI))
    (e1 : e 1 = .i .i64 k) (e2 : e 2 = .p bx 0 0) (e3 : e 3 = .i .i64 w) (e29 : e 29 = v) (e30 : e 30 = .i .i64 14) (e31 : e 31 = .i .i64 0)
    (kk : ∀ e', e' 1 = .i .i64 k → e' 2 = .p bx 0 0 → e' 3 = .i .i64 w → K (.ex 4) e' h') : ZC tp (.loop Q0_14) e h' K := by
  refine ZC_loop_n (fun n' e hh => ∃ i : Nat, n' = 14 - i ∧ hh = h' ∧ e 1 = .i .i64 k ∧ e 2 = .p bx 0 0 ∧ e 3 = .i .i64 w ∧ e 29 = v ∧ e 30 = .i .i64 14 ∧ e 31 = .i .i64 i ∧ i ≤ 14) ?_ _ _ _ ⟨0, rfl, rfl, e1, e2, e3, e29, e30, e31, by omega⟩
  clear e1 e2 e3 e29 e30 e31 e
  rintro n' e hh ⟨i, rfl, rfl, e1, e2, e3, e29, e30, e31, hi⟩ ih
  obtain ⟨vlen, _, vlt, _, vget, vat, vrow, _, _⟩ := s.facts
  have hl : L14.length = 14 := rfl
  rw [hl] at vlt vget vat vrow
  simp only [Config.enc] at hb
  rw [ZC_unf Q0_14.eq_1]
  simp (disch := omega) only [go_sem, *]
  refine Wb_dec (fun hc => ?_) (fun hc => ?_)
  · simp (disch := omega) only [go_sem, *]
    refine odd_ev sm (by omega) ?_
    intro C1 s1
    simp (disch := omega) only [go_sem, *]
    refine Pf.go (same12_ev s1.nm) (by simp only [go_sem]) fun _ => ?_; simp (disch := omega) only [go_sem, *]
    refine ih _ _ _ ?_ ⟨i + 1, rfl, ?_⟩
    · omega
    · simp (disch := omega) only [go_sem, *]
      all_goals ((repeat' refine And.intro ?_ ?_) <;> first | omega | assumption | (skip))
  · simp (disch := omega) only [go_sem, *]
    exact kk _ e1 e2 e3
theorem num_16 {K : Ex → Env → AH → Prop} {e : Env} {h' : AH} {C : Config} {bx : Nat} {k : Int} (sm : Small 10 C) (hlm : h'.lim = 0) (hbx : bx < h'.next) (hb : h'.get bx = some ⟨3, [C.enc]⟩)
    (e1 : e 1 = .i .i64 k) (e2 : e 2 = .p bx 0 0) (e3 : e 3 = .i .i64 0)
    (kk : ∀ e' h', h'.lim = 0 → e' 1 = .i .i64 k → K (.ex 2) e' h') : ZC tp (.loop Q0_16) e h' K := by
  refine ZC_loop_n (fun n' e hh => ∃ w : Nat, n' = 16 - w ∧ hh.lim = 0 ∧ bx < hh.next ∧ hh.get bx = some ⟨3, [C.enc]⟩ ∧ e 1 = .i .i64 k ∧ e 2 = .p bx 0 0 ∧ e 3 = .i .i64 w ∧ w ≤ 16) ?_ _ _ _ ⟨0, rfl, hlm, hbx, hb, e1, e2, e3, by omega⟩
  clear e1 e2 e3 e hb hbx hlm
  rintro n' e hh ⟨w, rfl, hlm, hbx, hb, e1, e2, e3, hw⟩ ih
  rw [ZC_unf Q0_16.eq_1]
  simp (disch := omega) only [go_sem, *]
  refine Wb_dec (fun hc => ?_) (fun hc => ?_)
  · simp (disch := omega) only [go_sem, *]
    have s0 : Sl 0 (hh.alloc ⟨1, L14.map encI⟩) 1 (.sl hh.next 0 14 14) (L14.map encI) := Sl.new (Nat.zero_le _) (by decide)
    refine num_14 (C := C) (bx := bx) (k := k) (w := w) sm (by rw [get_alloc, gsel_ne (by omega)]; exact hb) s0 (by simp (disch := omega) only [go_sem, *]) (by simp (disch := omega) only [go_sem, *]) (by simp (disch := omega) only [go_sem, *]) (by simp (disch := omega) only [go_sem, *]) (by simp (disch := omega) only [go_sem, *] <;> rfl) (by simp (disch := omega) only [go_sem, *]) ?_
    intro e' f1 f2 f3
    simp (disch := omega) only [go_sem, *]
    refine ih _ _ _ ?_ ⟨w + 1, rfl, ?_⟩
    · omega
    · have hb2 : (hh.alloc ⟨1, L14.map encI⟩).get bx = some ⟨3, [C.enc]⟩ := by rw [get_alloc, gsel_ne (by omega)]; exact hb
      clear ih kk
      simp (disch := omega) only [go_sem, *]
      all_goals ((repeat' refine And.intro ?_ ?_) <;> first | omega | assumption | (exact hb2))
  · simp (disch := omega) only [go_sem, *]
    exact kk _ hh hlm e1
theorem num_18 {K : Ex → Env → AH → Prop} {e : Env} {h' : AH} (hlm : h'.lim = 0) (e1 : e 1 = .i .i64 0) (kk : ∀ e' h', h'.lim = 0 → K (.ex 0) e' h') : ZC tp (.loop Q0_18) e h' K := by
  refine ZC_loop_n (fun n' e hh => ∃ k : Nat, n' = 40 - k ∧ hh.lim = 0 ∧ e 1 = .i .i64 k ∧ k ≤ 40) ?_ _ _ _ ⟨0, rfl, hlm, e1, by omega⟩
  clear e1 e hlm
  rintro n' e hh ⟨k, rfl, hlm, e1, hk⟩ ih
  rw [ZC_unf Q0_18.eq_1]
  simp (disch := omega) only [go_sem, *]
  refine Wb_dec (fun hc => ?_) (fun hc => ?_)
  · simp (disch := omega) only [go_sem, *]
    refine tape12_ev ?_
    intro L hL
    simp (disch := omega) only [go_sem, *]
    refine config_ev (id := hh.next) (k := 0) (L := L) ?_ (by omega) (by omega) ?_ ?_
    · simp only [tapeB]
      simp (disch := omega) only [go_sem, *]
      all_goals rfl
    · simp (disch := omega) only [go_sem, *]
    intro C j hj hC
    have hw := hC.wh
    simp (disch := omega) only [go_sem, *]
    refine Pf.go (same12_ev hC.nm) (by simp only [go_sem]) fun _ => ?_; simp (disch := omega) only [go_sem, *]
    refine Pf.go (right_ev hC.nm) (by simp only [go_sem]) fun _ => ?_; simp (disch := omega) only [go_sem, *]
    refine num_16 (C := C) (bx := hh.next + 1) (k := k) hC.small ?_ ?_ ?_ ?_ ?_ ?_ ?_
    · simp (disch := omega) only [go_sem, *]
    · simp (disch := omega) only [go_sem, *] <;> omega
    · simp only [Config.enc]
      simp (disch := omega) only [go_sem, *]
    · simp (disch := omega) only [go_sem, *]
    · simp (disch := omega) only [go_sem, *]
    · simp (disch := omega) only [go_sem, *]
    intro e' h' hlm' f1
    simp (disch := omega) only [go_sem, *]
    refine ih _ _ _ ?_ ⟨k + 1, rfl, ?_⟩
    · omega
    · simp (disch := omega) only [go_sem, *]
      all_goals ((repeat' refine And.intro ?_ ?_) <;> first | omega | assumption | (skip))
  · simp (disch := omega) only [go_sem, *]
    all_goals exact kk _ hh hlm
def N10 : List ByteArray := [⟨#[]⟩, ⟨#[97]⟩, ⟨#[95]⟩, ⟨#[122, 57, 95]⟩, ⟨#[57]⟩, ⟨#[97, 65]⟩, ⟨#[97, 45, 98]⟩, ⟨#[97, 255]⟩, ⟨#[97, 98, 99, 100, 101, 102, 103, 104, 105, 106, 107, 108]⟩, ⟨#[97, 98, 99, 100, 101, 102, 103, 104, 105, 106, 107, 108, 109]⟩]
def encS (s : ByteArray) : List V := [.s s]
theorem num_25 {K : Ex → Env → AH → Prop} {e : Env} {h' : AH} {v : V} {m : Nat} (s : Sl m h' 1 v (N10.map encS)) (e42 : e 42 = v) (e43 : e 43 = .i .i64 10) (e44 : e 44 = .i .i64 0) (kk : ∀ e', K (.ex 6) e' h') : ZC tp (.loop Q0_25) e h' K := by
  refine ZC_loop_n (fun n' e hh => ∃ i : Nat, n' = 10 - i ∧ hh = h' ∧ e 42 = v ∧ e 43 = .i .i64 10 ∧ e 44 = .i .i64 i ∧ i ≤ 10) ?_ _ _ _ ⟨0, rfl, rfl, e42, e43, e44, by omega⟩
  clear e42 e43 e44 e
  rintro n' e hh ⟨i, rfl, rfl, e42, e43, e44, hi⟩ ih
  obtain ⟨vlen, _, vlt, _, vget, vat, vrow, _, _⟩ := s.facts
  have hl : N10.length = 10 := rfl
  rw [hl] at vlt vget vat vrow
  simp only [encS] at vrow
  rw [ZC_unf Q0_25.eq_1]
  simp (disch := omega) only [go_sem, *]
  refine Wb_dec (fun hc => ?_) (fun hc => ?_)
  · have hsz : (nth N10 i).size < 4000000000 := by
      have hm : nth N10 i ∈ N10 := nth_mem (by rw [hl]; omega)
      have : ∀ s ∈ N10, s.size < 4000000000 := by decide
      exact this _ hm
    simp (disch := omega) only [go_sem, *]
    refine Pf.go (cname_ev hsz) (by simp only [go_sem]) fun _ => ?_; simp (disch := omega) only [go_sem, *]
    refine Pf.go (rname_ev hsz) (by simp only [go_sem]) fun _ => ?_; simp (disch := omega) only [go_sem, *]
    refine ih _ _ _ ?_ ⟨i + 1, rfl, ?_⟩
    · omega
    · simp (disch := omega) only [go_sem, *]
      all_goals ((repeat' refine And.intro ?_ ?_) <;> first | omega | assumption | (skip))
  · simp (disch := omega) only [go_sem, *]
    all_goals exact kk _
theorem configNumbers_ev : Pf tp i_Q0 [] (.b true) := by
  refine Pf_go fn_Q0 (by simp [t_Q0]) fun rp => ?_; unfold t_Q0; simp (disch := omega) only [go_sem, *]
  refine num_18 (by simp (disch := omega) only [go_sem, *]) (by simp (disch := omega) only [go_sem, *]) ?_
  intro e h hlm
  simp (disch := omega) only [go_sem, *]
  have s0 : Sl 0 (h.alloc ⟨1, N10.map encS⟩) 1 (.sl h.next 0 10 10) (N10.map encS) := Sl.new (Nat.zero_le _) (by decide)
  refine num_25 s0 (by simp (disch := omega) only [go_sem, *]) (by simp (disch := omega) only [go_sem, *] <;> rfl) (by simp (disch := omega) only [go_sem, *]) ?_
  intro e'
  simp (disch := omega) only [go_sem, *]
  refine Pf.go (known12_ev) (by simp only [go_sem]) fun _ => ?_; simp (disch := omega) only [go_sem, *]
end Go.Ab.T
/- From a call's arguments, as the form reads them, to an abstract heap. -/
namespace Go.Ab
open Go Go.RowKit
/-! ### Shapes of arguments -/
mutual
inductive Sh where
  | b
  | i (k : IntKind)
  | s
  | sl (e : Sh)
  | agg (l : ShL)
inductive ShL where
  | nil
  | cons (x : Sh) (l : ShL)
end
mutual
def Sh.size : Sh → Nat
  | .b | .i _ | .s | .sl _ => 1
  | .agg l => l.size
def ShL.size : ShL → Nat
  | .nil => 0
  | .cons x l => x.size + l.size
end
def ShL.rep (x : Sh) : Nat → ShL
  | 0 => .nil
  | n + 1 => .cons x (ShL.rep x n)
mutual
inductive ShT (P : Program) : TypeId → Sh → Prop where
  | b (t : TypeId) : P.underlying t = some .bool → ShT P t .b
  | i (t : TypeId) (k : IntKind) : P.underlying t = some (.int k) → ShT P t (.i k)
  | s (t : TypeId) : P.underlying t = some .string → ShT P t .s
  | sl (t e : TypeId) (x : Sh) : P.underlying t = some (.slice e) → ShT P e x → P.cellsOf e = x.size → 0 < x.size → ShT P t (.sl x)
  | agg (t : TypeId) (fs : Array Field) (l : ShL) : P.underlying t = some (.struct fs) → ShF P fs.toList 0 l → P.cellsOf t = l.size → ShT P t (.agg l)
  | arr (t e : TypeId) (n : Nat) (x : Sh) : P.underlying t = some (.array n e) → ShT P e x → P.cellsOf e = x.size → P.cellsOf t = n * x.size → ShT P t (.agg (ShL.rep x n))
inductive ShF (P : Program) : List Field → Nat → ShL → Prop where
  | nil (o : Nat) : ShF P [] o .nil
  | cons (f : Field) (fs : List Field) (o : Nat) (x : Sh) (l : ShL) : f.offset = o → ShT P f.type x → P.cellsOf f.type = x.size → ShF P fs (o + x.size) l → ShF P (f :: fs) o (.cons x l)
end
section
variable {H : Type}
mutual
def DV (h : AH) : Sh → DataW H → List V → Prop
  | .b, d, vs => ∃ x, d = .lit (.bool x) ∧ vs = [.b x]
  | .i k, d, vs => ∃ n, d = .lit (.int k n) ∧ (Lit.int k n).wf = true ∧ vs = [.i k n]
  | .s, d, vs => ∃ x : ByteArray, d = .lit (.string x.data.toList) ∧ x.size ≤ maxLen ∧ vs = [.s x]
  | .sl e, d, vs => (d = .nil ∧ vs = [.ns]) ∨ ∃ (elems spare : List (DataW H)) (id : Nat) (rows : List (List V)), d = .slice elems spare ∧ vs = [.sl id 0 elems.length elems.length] ∧ h.get id = some ⟨e.size, rows⟩ ∧ id < h.next ∧ rows.length = elems.length ∧ elems.length < bigLen ∧ ∀ (j : Nat) (x : DataW H) (r : List V), elems[j]? = some x → rows[j]? = some r → DV h e x r
  | .agg l, d, vs => ∃ ds, d = .agg ds ∧ DVs h l ds vs
def DVs (h : AH) : ShL → List (DataW H) → List V → Prop
  | .nil, ds, vs => ds = [] ∧ vs = []
  | .cons x l, ds, vs => ∃ d ds' v1 v2, ds = d :: ds' ∧ vs = v1 ++ v2 ∧ DV h x d v1 ∧ DVs h l ds' v2
end
mutual
def Sml : Sh → DataW H → Prop
  | .sl e, d => ∀ elems spare, d = .slice elems spare → elems.length < bigLen ∧ ∀ x ∈ elems, Sml e x
  | .agg l, d => ∀ ds, d = .agg ds → Smls l ds
  | .b, _ | .i _, _ | .s, _ => True
def Smls : ShL → List (DataW H) → Prop
  | .nil, _ => True
  | .cons x l, ds => ∀ d ds', ds = d :: ds' → Sml x d ∧ Smls l ds'
end
structure Gr (M M' : Mp) (h h' : AH) : Prop where
  keeps : Keeps M M' h h'
  get : ∀ id, id < h.next → h'.get id = h.get id
theorem Gr.refl (M : Mp) (h : AH) : Gr M M h h := ⟨Keeps.refl M h, fun _ _ => rfl⟩
theorem Gr.trans {M M1 M2 : Mp} {h h1 h2 : AH} (a : Gr M M1 h h1) (b : Gr M1 M2 h1 h2) : Gr M M2 h h2 :=
  ⟨a.keeps.trans b.keeps, fun id hi => (b.get id (Nat.lt_of_lt_of_le hi a.keeps.next)).trans (a.get id hi)⟩
mutual
theorem DV.grow {M M' : Mp} {h h' : AH} (g : Gr M M' h h') : ∀ (sh : Sh) (d : DataW H) (vs : List V), DV h sh d vs → DV h' sh d vs
  | .b, d, vs, k => by simp only [DV] at k ⊢; exact k
  | .i _, d, vs, k => by simp only [DV] at k ⊢; exact k
  | .s, d, vs, k => by simp only [DV] at k ⊢; exact k
  | .sl e, d, vs, k => by
    simp only [DV] at k ⊢
    rcases k with k | ⟨elems, spare, id, rows, a, b, c, d, e1, f, g1⟩
    · exact .inl k
    · exact .inr ⟨elems, spare, id, rows, a, b, (g.get id d).trans c, Nat.lt_of_lt_of_le d g.keeps.next, e1, f, fun j x r hx hr => DV.grow g e x r (g1 j x r hx hr)⟩
  | .agg l, d, vs, k => by
    simp only [DV] at k ⊢
    obtain ⟨ds, a, b⟩ := k
    exact ⟨ds, a, DVs.grow g l ds vs b⟩
theorem DVs.grow {M M' : Mp} {h h' : AH} (g : Gr M M' h h') : ∀ (l : ShL) (ds : List (DataW H)) (vs : List V), DVs h l ds vs → DVs h' l ds vs
  | .nil, ds, vs, k => by simp only [DVs] at k ⊢; exact k
  | .cons x l, ds, vs, k => by
    simp only [DVs] at k ⊢
    obtain ⟨d, ds', v1, v2, a, b, c, e⟩ := k
    exact ⟨d, ds', v1, v2, a, b, DV.grow g x d v1 c, DVs.grow g l ds' v2 e⟩
end
structure In (M : Mp) (w : World) (h : AH) : Prop where
  cells : ∀ id k m, h.get id = some k → M id = some m → m.b < w.heap.size ∧ CellsAt M h w m k
  own : ∀ id m, M id = some m → m.own = false
  fresh : ∀ id, h.live id → id < h.next
  lim : h.lim = h.next
theorem In.sim {M : Mp} {w : World} {h : AH} (i : In M w h) : Sim M w.heap.size w h := by
  refine ⟨i.cells, fun id m hl hm ho => ?_, fun id m hl hm hli => ?_, fun id id' m m' _ _ hm _ _ ho => ?_, i.fresh, by rw [i.lim]; exact Nat.le_refl _, Nat.le_refl _⟩
  · rw [i.own id m hm] at ho; cases ho
  · have := i.fresh id hl; have := i.lim; omega
  · rw [i.own id m hm] at ho; cases ho
def AH.give (h : AH) (k : Blk) : AH := { get := fun j => if j = h.next then some k else h.get j, next := h.next + 1, lim := h.next + 1 }
def mput (M : Mp) (id : Nat) (m : MI) : Mp := fun j => if j = id then some m else M j
theorem give_gr {M : Mp} {h : AH} {k : Blk} {m : MI} (hf : ∀ id, h.live id → id < h.next) : Gr M (mput M h.next m) h (h.give k) := by
  refine ⟨⟨by simp [AH.give], fun id hi hl => ?_, fun id hi hl => ?_⟩, fun id hi => ?_⟩
  · have : (h.give k).get id = h.get id := by simp only [AH.give]; rw [if_neg (by omega)]
    rw [AH.live, this] at hl; exact hl
  · simp only [mput]; rw [if_neg (by omega)]
  · simp only [AH.give]; rw [if_neg (by omega)]
theorem In.give {M : Mp} {w : World} {h : AH} {k : Blk} {m : MI} (i : In M w h) (hb : m.b < w.heap.size) (ho : m.own = false) (hc : CellsAt M h w m k) : In (mput M h.next m) w (h.give k) := by
  have g := give_gr (M := M) (k := k) (m := m) i.fresh
  refine ⟨fun id k' m' hk hm => ?_, fun id m' hm => ?_, fun id hl => ?_, rfl⟩
  · simp only [AH.give, mput] at hk hm
    by_cases hid : id = h.next
    · rw [if_pos hid] at hk hm
      cases hk; cases hm
      exact ⟨hb, CellsAt.keep g.keeps rfl hc⟩
    · rw [if_neg hid] at hk hm
      exact ⟨(i.cells id k' m' hk hm).1, CellsAt.keep g.keeps rfl (i.cells id k' m' hk hm).2⟩
  · simp only [mput] at hm
    split at hm
    · cases hm; exact ho
    · exact i.own id m' hm
  · by_cases hid : id = h.next
    · subst hid; simp [AH.give]
    · have : (h.give k).get id = h.get id := by simp only [AH.give]; rw [if_neg hid]
      rw [AH.live, this] at hl
      have := i.fresh id hl
      simp only [AH.give]; omega
variable {P : Program} {w : World} {enc : TypeId × Value → H} {spare : Nat → Bool}
def Took (M : Mp) (w : World) (h : AH) (sh : Sh) (d : DataW H) (cs : List Value) : Prop :=
  ∃ (M' : Mp) (h' : AH) (vs : List V), In M' w h' ∧ Gr M M' h h' ∧ VRs M' h' vs cs ∧ DV h' sh d vs ∧ (∀ v ∈ vs, v.isCell = true)
def TookL (M : Mp) (w : World) (h : AH) (l : ShL) (ds : List (DataW H)) (cs : List Value) : Prop :=
  ∃ (M' : Mp) (h' : AH) (vs : List V), In M' w h' ∧ Gr M M' h h' ∧ VRs M' h' vs cs ∧ DVs h' l ds vs ∧ (∀ v ∈ vs, v.isCell = true)
theorem take_rows {e : Sh} (ih : ∀ (cs : List Value) (d : DataW H) (M : Mp) (h : AH), (∃ fuel t ps, ShT P t e ∧ DataW.trod enc P w 0 spare true fuel t cs = some (d, ps)) → In M w h → Sml e d → Took M w h e d cs) :
    ∀ (l : List (List Value × DataW H)) (M : Mp) (h : AH), In M w h → (∀ q ∈ l, (∃ fuel t ps, ShT P t e ∧ DataW.trod enc P w 0 spare true fuel t q.1 = some (q.2, ps)) ∧ Sml e q.2) →
      ∃ (M' : Mp) (h' : AH) (rows : List (List V)), In M' w h' ∧ Gr M M' h h' ∧ rows.length = l.length ∧ ∀ (j : Nat) (q : List Value × DataW H) (r : List V), l[j]? = some q → rows[j]? = some r → VRs M' h' r q.1 ∧ DV h' e q.2 r ∧ (∀ v ∈ r, v.isCell = true)
  | [], M, h, hi, _ => ⟨M, h, [], hi, Gr.refl M h, rfl, fun j q r hq => by simp at hq⟩
  | q :: l, M, h, hi, hq => by
    obtain ⟨M1, h1, vs, i1, g1, v1, d1, c1⟩ := ih q.1 q.2 M h (hq q (List.mem_cons_self ..)).1 hi (hq q (List.mem_cons_self ..)).2
    obtain ⟨M2, h2, rows, i2, g2, l2, a2⟩ := take_rows ih l M1 h1 i1 (fun x hx => hq x (List.mem_cons_of_mem _ hx))
    refine ⟨M2, h2, vs :: rows, i2, g1.trans g2, by simp [l2], fun j x r hx hr => ?_⟩
    cases j with
    | zero =>
      simp at hx hr; subst hx; subst hr
      exact ⟨v1.keep g2.keeps, d1.grow g2, c1⟩
    | succ j => exact a2 j x r (by simpa using hx) (by simpa using hr)
def Al (P : Program) (w : World) (enc : TypeId × Value → H) (spare : Nat → Bool) : ShL → List (List Value × DataW H) → Prop
  | .nil, q => q = []
  | .cons x l, q => ∃ p q', q = p :: q' ∧ (∃ fuel t ps, ShT P t x ∧ DataW.trod enc P w 0 spare true fuel t p.1 = some (p.2, ps)) ∧ Al P w enc spare l q'
theorem al_struct {n : Nat} {cs : List Value} : ∀ (fs : List Field) (o : Nat) (l : ShL) (xs : List (DataW H × List MemPlace)), ShF P fs o l → xs.length = fs.length → (∀ (i : Nat) (f : Field), fs[i]? = some f → DataW.trod enc P w 0 spare true n f.type ((cs.drop f.offset).take (P.cellsOf f.type)) = xs[i]?) →
    ∃ q, Al P w enc spare l q ∧ q.map (·.2) = xs.map (·.1) ∧ (q.map (·.1)).flatten = (cs.drop o).take l.size
  | [], o, _, xs, .nil _, hl, ha => by
    have : xs = [] := List.length_eq_zero_iff.1 hl
    subst this
    exact ⟨[], rfl, rfl, by simp [ShL.size]⟩
  | f :: fs, o, _, xs, .cons _ _ _ x l hf ht hc hr, hl, ha => by
    match xs, hl, ha with
    | y :: ys, hl, ha =>
      obtain ⟨q, q1, q2, q3⟩ := al_struct (n := n) (cs := cs) fs (o + x.size) l ys hr (by simpa using hl) (fun i g hg => by simpa using ha (i + 1) g (by simpa using hg))
      have h0 := ha 0 f rfl
      simp only [List.getElem?_cons_zero] at h0
      refine ⟨((cs.drop f.offset).take (P.cellsOf f.type), y.1) :: q, ⟨_, q, rfl, ⟨n, f.type, y.2, ht, h0⟩, q1⟩, by simp [q2], ?_⟩
      simp only [List.map_cons, List.flatten_cons, q3, hf, hc, ShL.size]
      rw [← List.drop_drop, List.take_add]
theorem al_array {n : Nat} {e : TypeId} {x : Sh} {cs : List Value} (ht : ShT P e x) (hc : P.cellsOf e = x.size) : ∀ (m i : Nat) (xs : List (DataW H × List MemPlace)), xs.length = m → (∀ j, j < m → DataW.trod enc P w 0 spare true n e ((cs.drop ((i + j) * P.cellsOf e)).take (P.cellsOf e)) = xs[j]?) →
    ∃ q, Al P w enc spare (ShL.rep x m) q ∧ q.map (·.2) = xs.map (·.1) ∧ (q.map (·.1)).flatten = (cs.drop (i * x.size)).take (m * x.size)
  | 0, i, xs, hl, ha => by
    have : xs = [] := List.length_eq_zero_iff.1 hl
    subst this
    exact ⟨[], rfl, rfl, by simp⟩
  | m + 1, i, xs, hl, ha => by
    match xs, hl, ha with
    | y :: ys, hl, ha =>
      obtain ⟨q, q1, q2, q3⟩ := al_array ht hc m (i + 1) ys (by simpa using hl) (fun j hj => by
        have := ha (j + 1) (by omega)
        simp only [List.getElem?_cons_succ] at this
        rw [← this, show i + (j + 1) = i + 1 + j by omega])
      have h0 := ha 0 (by omega)
      simp only [List.getElem?_cons_zero, Nat.add_zero] at h0
      refine ⟨((cs.drop (i * P.cellsOf e)).take (P.cellsOf e), y.1) :: q, ⟨_, q, rfl, ⟨n, e, y.2, ht, h0⟩, q1⟩, by simp [q2], ?_⟩
      simp only [List.map_cons, List.flatten_cons, q3, hc]
      rw [Nat.succ_mul, Nat.succ_mul, Nat.add_comm (m * x.size), List.take_add, List.drop_drop]
theorem trod_array {n : Nat} {e t : TypeId} {fuel : Nat} {cs : List Value} {x : DataW H × List MemPlace} (ht : P.underlying t = some (.array n e)) (h : DataW.trod enc P w 0 spare true fuel t cs = some x) :
    ∃ (xs : List (DataW H × List MemPlace)) (m : Nat), x = (.agg (xs.map (·.1)), xs.flatMap (·.2)) ∧ cs.length = P.cellsOf t ∧ xs.length = n ∧ ∀ j, j < n → DataW.trod enc P w 0 spare true m e ((cs.drop (j * P.cellsOf e)).take (P.cellsOf e)) = xs[j]? := by
  cases fuel with
  | zero => simp [DataW.trod] at h
  | succ m =>
    unfold DataW.trod at h
    rw [ht] at h
    split at h <;> simp_all
    obtain ⟨hl, xs, hp, hd⟩ := h
    exact ⟨xs, hd.symm, by simpa using mapM_some_length hp, m, fun j hj => by simpa using mapM_some_get hp j j (by simp [hj])⟩
theorem addr_add' {a : Addr} {n : Nat} (h : a.spot = none) : a.add n = ⟨a.block, a.off + n, none⟩ := by
  cases a
  simp only at h
  subst h
  simp only [Addr.add]
  split <;> simp_all
theorem addr_spot {a : Addr} {n : Nat} (h : a.spot = none) : (a.add n).spot = none := by rw [addr_add' h]
mutual
theorem take (hpos : 0 < w.heap.size) : ∀ (sh : Sh) (cs : List Value) (d : DataW H) (M : Mp) (h : AH), (∃ fuel t ps, ShT P t sh ∧ DataW.trod enc P w 0 (fun _ => true) true fuel t cs = some (d, ps)) → In M w h → Sml sh d → Took M w h sh d cs
  | .b, cs, d, M, h, ⟨fuel, t, ps, ht, hr⟩, hi, hs => by
    cases ht with
    | b _ hu =>
      obtain ⟨x, rfl, he⟩ := DataW.trod_bool hu hr
      cases he
      exact ⟨M, h, [.b x], hi, Gr.refl M h, .cons _ _ _ _ (.b x) .nil, ⟨x, rfl, rfl⟩, by simp [V.isCell]⟩
  | .i k, cs, d, M, h, ⟨fuel, t, ps, ht, hr⟩, hi, hs => by
    cases ht with
    | i _ _ hu =>
      obtain ⟨x, rfl, he, hw⟩ := DataW.trod_int hu hr
      cases he
      exact ⟨M, h, [.i k x], hi, Gr.refl M h, .cons _ _ _ _ (.i k x) .nil, ⟨x, rfl, hw, rfl⟩, by simp [V.isCell]⟩
  | .s, cs, d, M, h, ⟨fuel, t, ps, ht, hr⟩, hi, hs => by
    cases ht with
    | s _ hu =>
      obtain ⟨x, rfl, he, hw⟩ := DataW.trod_string hu hr
      cases he
      exact ⟨M, h, [.s x], hi, Gr.refl M h, .cons _ _ _ _ (.s x) .nil, ⟨x, rfl, hw, rfl⟩, by simp [V.isCell]⟩
  | .sl e, cs, d, M, h, ⟨fuel, t, ps, ht, hr⟩, hi, hs => by
    cases ht with
    | sl _ te _ hu hte hce hpe =>
      rcases DataW.trod_slice hu hr with ⟨rfl, he⟩ | ⟨a, len, cap, elems, rest, n, _, rfl, he, hb, hlc, hcm, hlen, hel, hsp, _⟩
      · cases he
        exact ⟨M, h, [.ns], hi, Gr.refl M h, .cons _ _ _ _ .ns .nil, .inl ⟨rfl, rfl⟩, by simp [V.isCell]⟩
      · cases he
        simp only [Sml] at hs
        obtain ⟨hs1, hs2⟩ := hs _ _ rfl
        have hs1' : elems.length < bigLen := by simpa using hs1
        have cell : ∀ j (y : DataW H × List MemPlace), elems[j]? = some y → ∃ cs', w.cells? 0 (a.add (j * P.cellsOf te)) (P.cellsOf te) = some cs' ∧ DataW.trod enc P w 0 (fun _ => true) true n te cs' = some y := by
          intro j y hy
          have hj : j < len := by rw [← hlen]; exact (List.getElem?_eq_some_iff.1 hy).1
          have := hel j hj
          rw [hy] at this
          simpa [Option.bind_eq_some_iff] using this
        let q : List (List Value × DataW H) := (List.range elems.length).map fun j => ((w.cells? 0 (a.add (j * P.cellsOf te)) (P.cellsOf te)).getD [], ((elems[j]?).map (·.1)).getD (.nil))
        have hq : ∀ j (y : DataW H × List MemPlace), elems[j]? = some y → ∃ cs', w.cells? 0 (a.add (j * P.cellsOf te)) (P.cellsOf te) = some cs' ∧ DataW.trod enc P w 0 (fun _ => true) true n te cs' = some y ∧ q[j]? = some (cs', y.1) := by
          intro j y hy
          obtain ⟨cs', h1, h2⟩ := cell j y hy
          have hj : j < elems.length := (List.getElem?_eq_some_iff.1 hy).1
          refine ⟨cs', h1, h2, ?_⟩
          simp only [q, List.getElem?_map, List.getElem?_range hj, Option.map_some, h1, hy, Option.getD_some]
        have hql : q.length = elems.length := by simp [q]
        obtain ⟨M1, h1, rows, i1, g1, l1, a1⟩ := take_rows (e := e) (fun cs d M h hh hi hs => take hpos e cs d M h hh hi hs) q M h hi (fun z hz => by
          obtain ⟨j, hj, hz⟩ := List.getElem_of_mem hz
          have hj' : j < elems.length := by rw [← hql]; exact hj
          obtain ⟨cs', h1, h2, h3⟩ := hq j elems[j] (by simp [hj'])
          rw [List.getElem?_eq_getElem hj, hz] at h3
          cases h3
          exact ⟨⟨n, te, elems[j].2, hte, h2⟩, hs2 _ (List.mem_map.2 ⟨elems[j], List.getElem_mem _, rfl⟩)⟩)
        have first : ∀ cs', w.cells? 0 (a.add 0) (P.cellsOf te) = some cs' → a.block < w.heap.size ∧ a.spot = none := by
          intro cs' hcs
          have h1 := World.cells?_block hcs (by omega)
          obtain ⟨_, h2, h3⟩ := World.cells?_some hcs
          have h4 := h3 0 (by omega)
          rw [List.getElem?_eq_getElem (by omega)] at h4
          have h5 := World.cell?_spot h4
          simp only [Addr.add, if_true] at h1 h5
          exact ⟨h1, h5⟩
        have hz : 0 < cap → a.block < w.heap.size ∧ a.spot = none := by
          intro hcap
          by_cases h0 : 0 < elems.length
          · obtain ⟨cs', h2, _, _⟩ := hq 0 elems[0] (by simp [h0])
            exact first cs' (by simpa using h2)
          · have := (hsp rfl).2 0 (by omega)
            rw [List.getElem?_eq_getElem (by rw [(hsp rfl).1]; omega)] at this
            simp only [Option.bind_eq_some_iff] at this
            obtain ⟨cs', h2, _⟩ := this
            exact first cs' (by rw [show (len + 0) * P.cellsOf te = 0 by rw [show len + 0 = 0 by omega]; simp] at h2; exact h2)
        let m : MI := ⟨if 0 < cap then a.block else 0, a.off, 0, e.size, false⟩
        have hmb : m.b < w.heap.size := by
          simp only [m]
          split
          · rename_i h0; exact (hz h0).1
          · exact hpos
        have hrow : ∀ (el : Nat) (r : List V), rows[el]? = some r → ∃ y cs', elems[el]? = some y ∧ q[el]? = some (cs', y.1) ∧ w.cells? 0 (a.add (el * P.cellsOf te)) (P.cellsOf te) = some cs' := by
          intro el r hr
          have hel2 : el < elems.length := by rw [← hql, ← l1]; exact (List.getElem?_eq_some_iff.1 hr).1
          obtain ⟨cs', h2, h3, h4⟩ := hq el elems[el] (by simp [hel2])
          exact ⟨elems[el], cs', by simp [hel2], h4, h2⟩
        have hcells : CellsAt M1 h1 w m ⟨e.size, rows⟩ := by
          refine ⟨rfl, fun el r hr => ?_⟩
          obtain ⟨y, cs', hy, hqe, hcs⟩ := hrow el r hr
          obtain ⟨hv, _, hcell⟩ := a1 el _ r hqe hr
          obtain ⟨_, hcl, hcc⟩ := World.cells?_some hcs
          have hlen2 := hv.length
          have hel2 : el < elems.length := (List.getElem?_eq_some_iff.1 hy).1
          have hz' := hz (by omega)
          refine ⟨by rw [hlen2]; simp only; omega, fun j v hj => ⟨hcell v (List.mem_of_getElem? hj), ?_⟩⟩
          obtain ⟨x, hx, hvx⟩ := hv.get j v hj
          have hjl : j < P.cellsOf te := by
            have := (List.getElem?_eq_some_iff.1 hx).1
            simp only at this; omega
          refine ⟨x, ?_, hvx⟩
          have e1 := hcc j hjl
          simp only at hx
          rw [hx, addr_add' (addr_spot hz'.2), addr_add' hz'.2] at e1
          rw [← e1]
          simp only [m]
          rw [if_pos (by omega), hce]
        have i2 := i1.give (m := m) hmb rfl hcells
        have g2 := give_gr (M := M1) (k := ⟨e.size, rows⟩) (m := m) i1.fresh
        refine ⟨_, _, [.sl h1.next 0 elems.length elems.length], i2, g1.trans g2, .cons _ _ _ _ ?_ .nil, .inr ⟨elems.map (·.1), rest.map (·.1), h1.next, rows, rfl, by simp, by simp [AH.give], by simp [AH.give], by simp [l1, hql], hs1, fun j x r hx hr => ?_⟩, by simp [V.isCell]⟩
        · rw [hlen]
          refine .sl _ _ _ _ _ _ (by simp [AH.give]) (by omega) (fun _ => ⟨m, by simp [mput], fun hc => ?_, by omega, fun ho => by cases ho⟩)
          have := hz hc
          simp only [m]
          rw [if_pos hc]
          cases a; simp_all
        · obtain ⟨y, cs', hy, hqe, _⟩ := hrow j r hr
          simp only [List.getElem?_map, hy, Option.map_some, Option.some.injEq] at hx
          subst hx
          exact (a1 j _ r hqe hr).2.1.grow g2
  | .agg l, cs, d, M, h, ⟨fuel, t, ps, ht, hr⟩, hi, hs => by
    cases ht with
    | agg _ fs _ hu hf hc =>
      obtain ⟨xs, n, _, he, hlen, hxl, hx⟩ := DataW.trod_struct hu hr
      cases he
      simp only [Sml] at hs
      obtain ⟨q, q1, q2, q3⟩ := al_struct (n := n) (cs := cs) fs.toList 0 l xs hf (by simpa using hxl) (fun i f hf => hx i f (by simpa using hf))
      obtain ⟨M', h', vs, i', g', v', d', c'⟩ := takeL hpos l q M h q1 hi (by rw [q2]; exact hs _ rfl)
      rw [q3, List.drop_zero, ← hc, ← hlen, List.take_length] at v'
      rw [q2] at d'
      exact ⟨M', h', vs, i', g', v', ⟨_, rfl, d'⟩, c'⟩
    | arr _ e n x hu hte hce hct =>
      obtain ⟨xs, m, he, hlen, hxl, hx⟩ := trod_array hu hr
      cases he
      simp only [Sml] at hs
      obtain ⟨q, q1, q2, q3⟩ := al_array (n := m) (cs := cs) hte hce n 0 xs hxl (fun j hj => by rw [Nat.zero_add]; exact hx j hj)
      obtain ⟨M', h', vs, i', g', v', d', c'⟩ := takeL hpos (ShL.rep x n) q M h q1 hi (by rw [q2]; exact hs _ rfl)
      rw [q3, Nat.zero_mul, List.drop_zero, ← hct, ← hlen, List.take_length] at v'
      rw [q2] at d'
      exact ⟨M', h', vs, i', g', v', ⟨_, rfl, d'⟩, c'⟩
theorem takeL (hpos : 0 < w.heap.size) : ∀ (l : ShL) (q : List (List Value × DataW H)) (M : Mp) (h : AH), Al P w enc (fun _ => true) l q → In M w h → Smls l (q.map (·.2)) → TookL M w h l (q.map (·.2)) (q.map (·.1)).flatten
  | .nil, q, M, h, ha, hi, hs => by
    simp only [Al] at ha; subst ha
    exact ⟨M, h, [], hi, Gr.refl M h, .nil, ⟨rfl, rfl⟩, by simp⟩
  | .cons x l, q, M, h, ha, hi, hs => by
    simp only [Al] at ha
    obtain ⟨p, q', rfl, ht, ha⟩ := ha
    simp only [Smls] at hs
    obtain ⟨s1, s2⟩ := hs _ _ rfl
    obtain ⟨M1, h1, vs, i1, g1, v1, d1, c1⟩ := take hpos x p.1 p.2 M h ht hi s1
    obtain ⟨M2, h2, us, i2, g2, v2, d2, c2⟩ := takeL hpos l q' M1 h1 ha i1 s2
    refine ⟨M2, h2, vs ++ us, i2, g1.trans g2, by simpa using (v1.keep g2.keeps).append v2, ⟨_, _, vs, us, rfl, rfl, d1.grow g2, d2⟩, fun v hv => ?_⟩
    rcases List.mem_append.1 hv with hv | hv
    · exact c1 v hv
    · exact c2 v hv
end
end
end Go.Ab
/- A law's row out of the abstract machine. -/
namespace Go.Ab
open Go Go.RowKit
theorem calls_bool {P : Program} {tp : TP} {wr : Wr} (hT : TpOk P wr tp) (hm : MethsOk P tp) (hx : P.follows .mixedOrders = true) {f : Nat} {args : List V} {h : AH} {M : Mp} {w : World} {xs : Array Value}
    (hi : In M w h) (ha : VRs M h args xs.toList) (he : Ev tp f args h (fun r _ => r = .b true)) : Calls P f xs w fun e w' => e = .returned (.bool true) ∧ Below w.heap.size w w' := by
  obtain ⟨k, v, h', hev, rfl⟩ := he
  refine ((ev_sound hT hm hx k f args h _ h' hev).2 M w.heap.size w xs hi.sim ha).mono fun e w' ⟨x, M', e1, hd⟩ => ?_
  subst e1
  have hv := hd.val
  cases hv
  exact ⟨rfl, hd.below⟩
theorem In.empty (w : World) : In (fun _ => none) w ⟨fun _ => none, 0, 0⟩ := ⟨fun _ _ _ hk => (by cases hk), fun _ _ hm => (by cases hm), fun _ hl => absurd rfl hl, rfl⟩
def posB (P : Program) : Bool :=
  if P.globals.size = 0 then decide (0 < (begin P (fun _ _ => 0) default).world.heap.size)
  else (((begin P (fun _ _ => 0) default).world.heap[0]?).bind Obj.row?).isSome
theorem shaped_pos {P : Program} {w : World} (hp : posB P = true) (hs : w.ShapedOpen P) : 0 < w.heap.size := by
  unfold posB at hp
  split at hp
  · rename_i h0
    simp only [decide_eq_true_eq] at hp
    obtain ⟨o, _, ho, _⟩ := hs.2 0 (by omega) hp
    by_cases hz : 0 < w.heap.size
    · exact hz
    · rw [Array.getElem?_eq_none (by omega)] at ho; cases ho
  · rename_i h0
    cases hb : ((begin P (fun _ _ => 0) default).world.heap[0]?).bind Obj.row? with
    | none => rw [hb] at hp; cases hp
    | some q =>
      obtain ⟨cs, hc, _⟩ := hs.1 0 q.1 q.2 (by omega) hb
      by_cases hz : 0 < w.heap.size
      · exact hz
      · rw [Array.getElem?_eq_none (by omega)] at hc; cases hc
section
variable {H : Type} {enc : TypeId × Value → H}
theorem handed_cond {a : Assume} {C : Checked} {os : Os} {f : FuncId} {fn : Func} {s : OpenSpec} {k : (H : Type) → List (DataW H) → Bool} (hk : s.cond = some k) {F : Stop.Interp} {conds : List PathCond} {apart fresh handsOn again : Bool}
    (own : ownKnob C.prog.godebug = none) (started : os.Started) (noInit : C.prog.inits.idxOf? f = none) (hfn : C.prog.funcs[f]? = some fn) (hpos : posB C.prog = true)
    (witness : ∃ (w : World) (tape : Tape) (i : Input), w.os = os ∧ (w.forCall tape i).Shaped C.prog ∧ i.vars = [] ∧ Input.okWide C.prog (w.forCall tape i) .any w.heap.size f i ∧
      s.pre6 enc C.prog fn conds apart (w.forCall tape i).memory i.args ∧ a.holds C.prog (lone (Frame.enter C.prog f i.args .normal) [] (w.forCall tape i)))
    (contract : ∀ (W : World) (base : Nat) (args : Array Value) (ds gs : List (DataW H)) (before : List MemPlace), 0 < W.heap.size →
      (∀ (j : Nat) t v, fn.params[j]? = some t → args[j]? = some v → Value.okWide C.prog W .any base t v) →
      DataW.Whole enc C.prog fn.params.toList s.vars apart W args.toList ds gs before → k H (ds ++ gs) = true →
      Calls C.prog f args W fun e W' => ∃ v, e = .returned v ∧ (s.at F).post enc C.prog fn apart fresh handsOn again W args v W') :
    ReturnsInHanded a C os f .any (s.pre6 enc C.prog fn conds apart) ((s.at F).post enc C.prog fn apart fresh handsOn again) := by
  refine returnsInHanded_of_calls own started noInit witness ?_
  intro w tape i _ hshaped _ hok hpre _
  obtain ⟨_, _, _, fn', hfn', _, _, _, _, hval⟩ := hok
  obtain rfl : fn' = fn := Option.some.inj (hfn'.symm.trans hfn)
  obtain ⟨ds, gs, before, hw, _, hkk⟩ := (OpenSpec.pre_some hk conds apart _ _).1 hpre.1
  have hw' := DataW.Whole.of_heap (w' := w.forCall tape i) (by rfl) hw
  refine (contract (w.forCall tape i) w.heap.size i.args ds gs before (shaped_pos hpos hshaped) hval hw' hkk).mono fun e W' ⟨v, he, hp⟩ => ?_
  subst he
  exact ChangeSpec.post_blind hp
end
end Go.Ab
