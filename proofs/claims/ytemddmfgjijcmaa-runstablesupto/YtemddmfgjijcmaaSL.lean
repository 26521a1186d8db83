/- Part of the proof that RunsTables returns true for every input of the second form's bound (no other condition). -/
import Derived.Test.YtemddmfgjijcmaaSK
set_option linter.all false
namespace Go.Ab.T
open Go Go.Ab
set_option linter.unusedSimpArgs false
set_option linter.unusedVariables false
set_option maxHeartbeats 4000000
set_option maxRecDepth 10000
inductive OfRes (h : AH) (f : Fo) (o : V) : Int → Prop where
  | bad (e : Int) : rightR f.flat ≠ 0 → o = .ns → e = rightR f.flat → OfRes h f o e
  | long (e : Int) : rightR f.flat = 0 → 96 < (ofT f).length → o = .ns → e = 3 → OfRes h f o e
  | good (e : Int) : rightR f.flat = 0 → (ofT f).length ≤ 96 → e = 0 → SlT Run.enc h 2 o (ofT f) → OfRes h f o e
theorem OfRes.ext {h h' : AH} {f : Fo} {o : V} {e : Int} (r : OfRes h f o e) (x : Ext h h') : OfRes h' f o e := by
  cases r with
  | bad a b c => exact .bad _ a b c
  | long a b c d => exact .long _ a b c d
  | good a b c d => exact .good _ a b c (d.ext x)
theorem Of_all {h : AH} {v : V} {f : Fo} (hw : h.lim ≤ h.next) (hS : SlT Node.enc h 3 v f.flat) (hb : f.flat.length < 4000000000) (ho : f.ok) (hc : f.count = 1) : Ev tp i_runs_Of [v] h (fun r h' => ∃ o e, r = .tup [o, .i .i64 e] ∧ OfRes h' f o e ∧ Ext h h') := by
  by_cases hr : rightR f.flat = 0
  · refine Ev.imp (Of_ev hw hS hr ho hc (right_len ho hc hr)) ?_
    rintro _ h' ⟨o, e, rfl, h1, _, x⟩
    refine ⟨o, e, rfl, ?_, x⟩
    split at h1
    · rename_i hl; exact .long _ hr hl h1.1 h1.2
    · rename_i hl; exact .good _ hr (by omega) h1.1 h1.2
  · refine Ev.imp (Of_bad hw hS hb hr) ?_
    rintro _ h' ⟨rfl, x⟩
    exact ⟨_, _, rfl, .bad _ hr rfl rfl, x⟩
theorem refOf_all {h : AH} {v : V} {f : Fo} (hw : h.lim ≤ h.next) (hS : SlT Node.enc h 3 v f.flat) (hb : f.flat.length < 4000000000) (ho : f.ok) (hc : f.count = 1) : Ev tp i_horariumref3_Of [v] h (fun r h' => ∃ o e, r = .tup [o, .i .i64 e] ∧ OfRes h' f o e ∧ Ext h h') := by
  by_cases hr : rightR f.flat = 0
  · refine Ev.imp (refOf_ev hw hS hr ho hc (right_len ho hc hr)) ?_
    rintro _ h' ⟨o, e, rfl, h1, _, x⟩
    refine ⟨o, e, rfl, ?_, x⟩
    split at h1
    · rename_i hl; exact .long _ hr hl h1.1 h1.2
    · rename_i hl; exact .good _ hr (by omega) h1.1 h1.2
  · refine Ev.imp (refOf_bad hw hS hb hr) ?_
    rintro _ h' ⟨rfl, x⟩
    exact ⟨_, _, rfl, .bad _ hr rfl rfl, x⟩
theorem OfRes.same {h h' : AH} {f : Fo} {o o' : V} {e e' : Int} (r : OfRes h f o e) (r' : OfRes h' f o' e') : e' = e := by
  cases r <;> cases r' <;> first | omega | (exfalso; omega) | simp_all
theorem leaf_parts : ∀ (f : Fo), f.ok → ∀ r ∈ f.runs, -1 ≤ r.part ∧ r.part < 6
  | .nil, _, r, hr => by cases hr
  | .leaf x q, ho, r, hr => by
    rcases List.mem_cons.1 hr with rfl | hr
    · have hk := ho.1
      unfold partR; simp only
      unfold kids at hk; (repeat' split at hk) <;> split <;> omega
    · exact leaf_parts q ho.2 r hr
  | .seq x k q, ho, r, hr => by
    rcases List.mem_append.1 hr with hr | hr
    · exact leaf_parts k ho.2.2.2.1 r hr
    · exact leaf_parts q ho.2.2.2.2 r hr
  | .rep x k q, ho, r, hr => by
    rcases List.mem_append.1 hr with hr | hr
    · obtain ⟨l, hl, hq⟩ := List.mem_flatten.1 hr
      rw [List.eq_of_mem_replicate hl] at hq
      exact leaf_parts k ho.2.2.2.1 r hq
    · exact leaf_parts q ho.2.2.2.2 r hr
theorem mem_le_sum : ∀ {w : List Run}, AllPos w → ∀ r ∈ w, r.n ≤ sumN w
  | [], _, r, hr => by cases hr
  | a :: l, hp, r, hr => by
    have hl : AllPos l := fun x hx => hp x (List.mem_cons_of_mem _ hx)
    have := sumN_pos hl
    have ha := hp a (List.mem_cons_self ..)
    rcases List.mem_cons.1 hr with rfl | hr
    · simp only [sumN]; omega
    · have := mem_le_sum hl r hr; simp only [sumN]; omega
theorem tk_bd (p : Int) : ∀ {w : List Run} {b : Int}, AllPos w → sumN w ≤ b → 0 ≤ tk p w ∧ tk p w ≤ b
  | [], b, _, h => by simpa [tk, sumN] using h
  | r :: l, b, hp, h => by
    have hl : AllPos l := fun x hx => hp x (List.mem_cons_of_mem _ hx)
    have hr := hp r (List.mem_cons_self ..)
    simp only [sumN] at h
    have := tk_bd p (b := b - r.n) hl (by omega)
    simp only [tk]
    split <;> omega
theorem ofT_facts {f : Fo} (ho : f.ok) (hl : f.len ≤ 4096) : TidyOf f.runs (ofT f) ∧ sumN (ofT f) = f.len ∧ (∀ r ∈ ofT f, runOk r = true) := by
  have hs := Fo.runs_sum f ho
  have X := tidyOf (Fo.runs_allpos f ho) (by omega : sumN f.runs ≤ 4611686018427387904)
  have hsum : sumN (ofT f) = f.len := by rw [← hs]; exact X.sum
  refine ⟨X, hsum, fun r hr => ?_⟩
  have h1 := X.pos r hr
  have h2 := mem_le_sum X.pos r hr
  obtain ⟨q, hq, he⟩ := X.parts r hr
  have h3 := leaf_parts f ho q hq
  have h4 : sumN (tidyGo f.runs []) = f.len := hsum
  simp only [runOk, decide_eq_true_eq]
  omega
theorem runsTables_ev {h : AH} {tv : V} {T : List Int} {nn : Int} (hw : h.lim ≤ h.next) (hT : SlT E1 h 1 tv T) :
    Ev tp i_horariumlaw5_RunsTables [tv, .i .i64 nn] h (fun r h' => r = .b true ∧ Ext h h') := by
  have c1 := Sl.cell hT
  have c2 := Sl.cells hT
  obtain ⟨q, hq1, hq2⟩ := and_bd (a := nn) (m := 3) (by omega)
  replace hq2 : IntKind.wrap .i64 ((BitVec.ofInt 64 nn &&& BitVec.ofInt 64 3).toNat : Int) = q := hq2
  refine Ev_of fn_horariumlaw5_RunsTables (by simp [t_horariumlaw5_RunsTables]) ?_; unfold t_horariumlaw5_RunsTables
  simp (disch := omega) only [go_sem, ↓reduceIte, Nat.reduceEqDiff, Nat.reduceAdd, Nat.reduceSub, Nat.reduceLeDiff, Nat.reduceLT, List.reduceReplicate, Nat.reduceMul, Int.reduceNeg, reduceCtorEq, *,  horariumlaw5_RunsTables_0, horariumlaw5_RunsTables_1, fillP]
  have tb := tape_box hw hT
  refine Ev.imp (table_ev (parts := 3) (by omega) 3 _ _ (by omega) tb) ?_
  rintro x h2 ⟨g, k2, tr⟩
  have x2 : Ext h h2 := Upd.toExt tr.upd
  have w2 := ext_lim x2 hw
  have gl := tr.row
  have gbb := tr.big
  rw [show tabB 3 = 85 by decide] at gbb
  have gb : g.flat.length < 4000000000 := by omega
  have gdep := tr.dep
  have go := tr.ok
  have g1 := tr.one
  clear tr
  simp (disch := omega) only [go_sem, ↓reduceIte, Nat.reduceEqDiff, Nat.reduceAdd, Nat.reduceSub, Nat.reduceLeDiff, Nat.reduceLT, List.reduceReplicate, Nat.reduceMul, Int.reduceNeg, reduceCtorEq, *,  horariumlaw5_RunsTables_1, horariumlaw5_RunsTables_2]
  refine Ev.imp (Of_all w2 gl gb go g1) ?_
  rintro _ h3 ⟨l, e, rfl, R3, x3⟩
  have w3 := ext_lim x3 w2
  simp (disch := omega) only [go_sem, ↓reduceIte, Nat.reduceEqDiff, Nat.reduceAdd, Nat.reduceSub, Nat.reduceLeDiff, Nat.reduceLT, List.reduceReplicate, Nat.reduceMul, Int.reduceNeg, reduceCtorEq, *,  horariumlaw5_RunsTables_2, horariumlaw5_RunsTables_3]
  generalize hqq : IntKind.i64.wrap _ = qq
  obtain rfl : qq = (q : Int) := hqq.symm.trans hq2
  clear hqq
  let fo : Fo := .rep ⟨4, 0, 1 + (q : Int)⟩ g .nil
  have fok : fo.ok := ⟨rfl, kids_rep (by omega), g1, go, trivial⟩
  have ffl : fo.flat.length = 1 + g.flat.length := by simp [fo, Fo.flat]; omega
  simp (disch := omega) only [go_sem, ↓reduceIte, Nat.reduceEqDiff, Nat.reduceAdd, Nat.reduceSub, Nat.reduceLeDiff, Nat.reduceLT, List.reduceReplicate, Nat.reduceMul, Int.reduceNeg, reduceCtorEq, *,  horariumlaw5_RunsTables_3, horariumlaw5_RunsTables_4, fillP, fillE]
  have xa : Ext h3 (h3.alloc ⟨3, [Node.enc ⟨4, 0, 1 + (q : Int)⟩]⟩) := (Ext.refl h3).alloc _
  have sa : Sl (h3.alloc ⟨3, [Node.enc ⟨4, 0, 1 + (q : Int)⟩]⟩) 3 (.sl h3.next 0 1 1) [Node.enc ⟨4, 0, 1 + (q : Int)⟩] :=
    .inr ⟨h3.next, 0, 1, ⟨3, [Node.enc ⟨4, 0, 1 + (q : Int)⟩]⟩, rfl, by rw [get_alloc, gsel_eq rfl], rfl, by simp, by simp, by simp, by simp [next_alloc], by simp [bigLen]⟩
  refine app_many sa ((gl.ext x3).ext xa) (.inr (by rw [lim_alloc]; simp only [idV]; omega)) (by simp; omega) ?_
  intro y h4 s4 a4
  have x4 : Ext h3 h4 := by
    have := a4.next
    rw [next_alloc] at this
    refine ⟨by omega, a4.lim.trans lim_alloc, fun i hi => ?_⟩
    exact (a4.get i (by rw [next_alloc]; omega) (.inr (by simp only [idV]; omega))).trans (xa.get i hi)
  have w4 := ext_lim x4 w3
  have s4' : SlT Node.enc h4 3 y fo.flat := by simpa [SlT, fo, Fo.flat] using s4
  simp (disch := omega) only [go_sem, ↓reduceIte, Nat.reduceEqDiff, Nat.reduceAdd, Nat.reduceSub, Nat.reduceLeDiff, Nat.reduceLT, List.reduceReplicate, Nat.reduceMul, Int.reduceNeg, reduceCtorEq, *,  horariumlaw5_RunsTables_4]
  refine Ev.imp (Of_all w4 s4' (by omega) fok rfl) ?_
  rintro _ h5 ⟨o, e2, rfl, R5, x5⟩
  have w5 := ext_lim x5 w4
  have X5 : Ext h2 h5 := x3.trans (x4.trans x5)
  simp (disch := omega) only [go_sem, ↓reduceIte, Nat.reduceEqDiff, Nat.reduceAdd, Nat.reduceSub, Nat.reduceLeDiff, Nat.reduceLT, List.reduceReplicate, Nat.reduceMul, Int.reduceNeg, reduceCtorEq, *,  horariumlaw5_RunsTables_4, horariumlaw5_RunsTables_5]
  refine Ev.imp (refOf_all w5 (gl.ext X5) gb go g1) ?_
  rintro _ h6 ⟨o', e', rfl, R6, x6⟩
  obtain rfl := R3.same R6
  have w6 := ext_lim x6 w5
  have X6 : Ext h h6 := x2.trans (X5.trans x6)
  have R3' := R3.ext (x4.trans (x5.trans x6))
  have R5' := R5.ext x6
  have glen := (gl.ext (X5.trans x6)).facts.len
  clear R6 R3 R5
  simp (disch := omega) only [go_sem, ↓reduceIte, Nat.reduceEqDiff, Nat.reduceAdd, Nat.reduceSub, Nat.reduceLeDiff, Nat.reduceLT, List.reduceReplicate, Nat.reduceMul, Int.reduceNeg, reduceCtorEq, *,  horariumlaw5_RunsTables_5, horariumlaw5_RunsTables_6]
  refine Wb_dec (fun hc => ?_) (fun hc => ?_)
  · simp (disch := omega) only [go_sem, ↓reduceIte, Nat.reduceEqDiff, Nat.reduceAdd, Nat.reduceSub, Nat.reduceLeDiff, Nat.reduceLT, List.reduceReplicate, Nat.reduceMul, Int.reduceNeg, reduceCtorEq, *,  horariumlaw5_RunsTables_7]
    refine Ev.imp (known5_ev w6) ?_
    rintro _ h7 ⟨rfl, x7⟩
    simp (disch := omega) only [go_sem, ↓reduceIte, Nat.reduceEqDiff, Nat.reduceAdd, Nat.reduceSub, Nat.reduceLeDiff, Nat.reduceLT, List.reduceReplicate, Nat.reduceMul, Int.reduceNeg, reduceCtorEq, *,  horariumlaw5_RunsTables_7]
    exact X6.trans x7
  · simp (disch := omega) only [go_sem, ↓reduceIte, Nat.reduceEqDiff, Nat.reduceAdd, Nat.reduceSub, Nat.reduceLeDiff, Nat.reduceLT, List.reduceReplicate, Nat.reduceMul, Int.reduceNeg, reduceCtorEq, *,  horariumlaw5_RunsTables_8]
    have he : e' = 0 := by omega
    subst he
    have hgood : rightR g.flat = 0 ∧ (ofT g).length ≤ 96 ∧ SlT Run.enc h6 2 l (ofT g) := by
      cases R3' with
      | bad a b c => exact absurd c.symm a
      | long a b c d => omega
      | good a b c d => exact ⟨a, b, d⟩
    obtain ⟨hr, hl96, sl⟩ := hgood
    clear R3'
    have hln := right_len go g1 hr
    obtain ⟨TO, hsT, hok⟩ := ofT_facts go hln
    have hglp := (Fo.len_pos g go).2 (by omega)
    have okG := runsOk_pos TO.pos (by rw [hsT]; omega)
    have llen := sl.facts.len
    have hLen : lengthGo (ofT g) 0 = g.len := by rw [lengthGo_sum _ _ TO.pos (by omega) (by rw [hsT]; omega), hsT]; omega
    have hml : 0 ≤ g.len * (1 + (q : Int)) ∧ g.len * (1 + (q : Int)) ≤ 4096 * 4 := ⟨Int.mul_nonneg (by omega) (by omega), Int.mul_le_mul (by omega) (by omega) (by omega) (by omega)⟩
    have hml2 : 0 ≤ ((ofT g).length : Int) * (1 + (q : Int)) ∧ ((ofT g).length : Int) * (1 + (q : Int)) ≤ 96 * 4 := ⟨Int.mul_nonneg (by omega) (by omega), Int.mul_le_mul (by omega) (by omega) (by omega) (by omega)⟩
    have flen : fo.len = (1 + (q : Int)) * g.len := by simp [fo, Fo.len]
    have frun : fo.runs = (List.replicate (1 + q) g.runs).flatten := by
      simp only [fo, Fo.runs, List.append_nil]
      rw [show (1 + (q : Int)).toNat = 1 + q by omega]
    have frep := tidy_rep g.runs (Fo.runs_allpos g go) (1 + q) []
    rw [← frun] at frep
    refine Wb_dec (fun hc2 => ?_) (fun hc2 => ?_)
    · have why : 4096 < g.len * (1 + (q : Int)) ∨ 96 < ((ofT g).length : Int) * (1 + (q : Int)) := by
        cases R5' with
        | bad a b c =>
          left
          by_cases hh : g.len * (1 + (q : Int)) ≤ 4096
          · exact absurd (right_flat fok rfl (by simp only [fo, Fo.depth]; omega) (by rw [flen, Int.mul_comm]; exact hh) (by omega)) a
          · omega
        | long a b c d =>
          right
          have h1 : (ofT fo).length ≤ (1 + q) * (ofT g).length := by simpa [ofT] using frep
          have h2 : (((1 + q) * (ofT g).length : Nat) : Int) = ((ofT g).length : Int) * (1 + (q : Int)) := by rw [Int.natCast_mul, Int.mul_comm]; simp
          omega
        | good a b c d => exact absurd c hc2
      clear frep flen
      simp (disch := omega) only [go_sem, ↓reduceIte, Nat.reduceEqDiff, Nat.reduceAdd, Nat.reduceSub, Nat.reduceLeDiff, Nat.reduceLT, List.reduceReplicate, Nat.reduceMul, Int.reduceNeg, reduceCtorEq, *,  horariumlaw5_RunsTables_9]
      refine Ev.imp (length_ev w6 sl okG) ?_
      rintro _ h7 ⟨rfl, x7⟩
      have w7 := ext_lim x7 w6
      simp (disch := omega) only [go_sem, ↓reduceIte, Nat.reduceEqDiff, Nat.reduceAdd, Nat.reduceSub, Nat.reduceLeDiff, Nat.reduceLT, List.reduceReplicate, Nat.reduceMul, Int.reduceNeg, reduceCtorEq, *,  horariumlaw5_RunsTables_9]
      refine Wg_dec (fun hc3 => ?_) (fun hc3 => ?_)
      · simp (disch := omega) only [go_sem, ↓reduceIte, Nat.reduceEqDiff, Nat.reduceAdd, Nat.reduceSub, Nat.reduceLeDiff, Nat.reduceLT, List.reduceReplicate, Nat.reduceMul, Int.reduceNeg, reduceCtorEq, *,  horariumlaw5_RunsTables_9]
        refine Ev.imp (known5_ev w7) ?_
        rintro _ h8 ⟨rfl, x8⟩
        simp (disch := omega) only [go_sem, ↓reduceIte, Nat.reduceEqDiff, Nat.reduceAdd, Nat.reduceSub, Nat.reduceLeDiff, Nat.reduceLT, List.reduceReplicate, Nat.reduceMul, Int.reduceNeg, reduceCtorEq, *,  horariumlaw5_RunsTables_9]
        exact X6.trans (x7.trans x8)
      · have why2 : 96 < ((ofT g).length : Int) * (1 + (q : Int)) := by omega
        simp (disch := omega) only [go_sem, ↓reduceIte, Nat.reduceEqDiff, Nat.reduceAdd, Nat.reduceSub, Nat.reduceLeDiff, Nat.reduceLT, List.reduceReplicate, Nat.reduceMul, Int.reduceNeg, reduceCtorEq, *,  horariumlaw5_RunsTables_9]
        refine Ev.imp (known5_ev w7) ?_
        rintro _ h8 ⟨rfl, x8⟩
        simp (disch := omega) only [go_sem, ↓reduceIte, Nat.reduceEqDiff, Nat.reduceAdd, Nat.reduceSub, Nat.reduceLeDiff, Nat.reduceLT, List.reduceReplicate, Nat.reduceMul, Int.reduceNeg, reduceCtorEq, *,  horariumlaw5_RunsTables_9]
        exact X6.trans (x7.trans x8)
    · have he2 : e2 = 0 := by omega
      subst he2
      have hgood : rightR fo.flat = 0 ∧ SlT Run.enc h6 2 o (ofT fo) := by
        cases R5' with
        | bad a b c => exact absurd c.symm a
        | long a b c d => omega
        | good a b c d => exact ⟨a, d⟩
      obtain ⟨hr2, so⟩ := hgood
      clear R5' frep
      have hln2 := right_len fok rfl hr2
      obtain ⟨TO2, hsT2, hok2⟩ := ofT_facts fok hln2
      have okF := runsOk_pos TO2.pos (by rw [hsT2]; omega)
      simp (disch := omega) only [go_sem, ↓reduceIte, Nat.reduceEqDiff, Nat.reduceAdd, Nat.reduceSub, Nat.reduceLeDiff, Nat.reduceLT, List.reduceReplicate, Nat.reduceMul, Int.reduceNeg, reduceCtorEq, *,  horariumlaw5_RunsTables_10]
      refine WC_loop_n (fun n e h' => ∃ (p : Int), n = (4 - p).toNat ∧ e 6 = l ∧ e 8 = .i .i64 (1 + (q : Int)) ∧ e 9 = o ∧ e 13 = .i .i64 p ∧ -1 ≤ p ∧ p ≤ 4 ∧ Ext h6 h') ?_ _ _ _ ⟨-1, rfl, ?_⟩
      · rintro n e h' ⟨p, rfl, e6, e8, e9, e13, hp1, hp2, hx⟩ ih
        have w' := ext_lim hx w6
        have tkb : 0 ≤ tk p (ofT g) ∧ tk p (ofT g) ≤ 4096 := tk_bd p TO.pos (by rw [hsT]; omega)
        have tkm : 0 ≤ (1 + (q : Int)) * tk p (ofT g) ∧ (1 + (q : Int)) * tk p (ofT g) ≤ 4 * 4096 := ⟨Int.mul_nonneg (by omega) tkb.1, Int.mul_le_mul (by omega) tkb.2 tkb.1 (by omega)⟩
        have e1 : ticksGo p (ofT fo) 0 = (1 + (q : Int)) * tk p (ofT g) := by
          rw [ticksGo_tk p (ofT fo) 0 TO2.pos (by omega) (by rw [hsT2]; omega)]
          have h1 := TO2.tks p
          have h2 := TO.tks p
          rw [frun, tk_rep] at h1
          rw [h1, h2]; simp
        have e2 : ticksGo p (ofT g) 0 = tk p (ofT g) := by
          rw [ticksGo_tk p (ofT g) 0 TO.pos (by omega) (by rw [hsT]; omega)]; omega
        rw [horariumlaw5_RunsTables_15_go]
        simp (disch := omega) only [go_sem, ↓reduceIte, Nat.reduceEqDiff, Nat.reduceAdd, Nat.reduceSub, Nat.reduceLeDiff, Nat.reduceLT, List.reduceReplicate, Nat.reduceMul, Int.reduceNeg, reduceCtorEq, *,  horariumlaw5_RunsTables_11]
        refine Wb_dec (fun hc5 => ?_) (fun hc5 => ?_)
        · simp (disch := omega) only [go_sem, ↓reduceIte, Nat.reduceEqDiff, Nat.reduceAdd, Nat.reduceSub, Nat.reduceLeDiff, Nat.reduceLT, List.reduceReplicate, Nat.reduceMul, Int.reduceNeg, reduceCtorEq, *,  horariumlaw5_RunsTables_12]
          refine Ev.imp (ticks_ev w' (so.ext hx) okF) ?_
          rintro _ h7 ⟨rfl, x7⟩
          have w7 := ext_lim x7 w'
          simp (disch := omega) only [go_sem, ↓reduceIte, Nat.reduceEqDiff, Nat.reduceAdd, Nat.reduceSub, Nat.reduceLeDiff, Nat.reduceLT, List.reduceReplicate, Nat.reduceMul, Int.reduceNeg, reduceCtorEq, *,  horariumlaw5_RunsTables_12]
          refine Ev.imp (ticks_ev w7 (sl.ext (hx.trans x7)) okG) ?_
          rintro _ h8 ⟨rfl, x8⟩
          simp (disch := omega) only [go_sem, ↓reduceIte, Nat.reduceEqDiff, Nat.reduceAdd, Nat.reduceSub, Nat.reduceLeDiff, Nat.reduceLT, List.reduceReplicate, Nat.reduceMul, Int.reduceNeg, reduceCtorEq, *,  horariumlaw5_RunsTables_12, horariumlaw5_RunsTables_14]
          refine ih _ _ _ ?_ ⟨p + 1, rfl, ?_⟩
          · omega
          · simp (disch := omega) only [go_sem, ↓reduceIte, Nat.reduceEqDiff, Nat.reduceAdd, Nat.reduceSub, Nat.reduceLeDiff, Nat.reduceLT, List.reduceReplicate, Nat.reduceMul, Int.reduceNeg, reduceCtorEq, *]
            exact ⟨by omega, by omega, hx.trans (x7.trans x8)⟩
        · have hfr : frameB (ofT g) = true := by
            unfold frameB
            rw [List.all_eq_true.2 hok, hsT]
            have hne := TO.ne (by have := Fo.runs_pos g go (by omega); intro h0; rw [h0] at this; simp at this)
            have : 0 < (ofT g).length := List.length_pos_iff.2 hne
            simp; omega
          have hLen2 : lengthGo (ofT fo) 0 = (1 + (q : Int)) * g.len := by rw [lengthGo_sum _ _ TO2.pos (by omega) (by rw [hsT2]; omega), hsT2, flen]; omega
          have hml3 : 0 ≤ (1 + (q : Int)) * g.len ∧ (1 + (q : Int)) * g.len ≤ 4 * 4096 := by rw [Int.mul_comm]; omega
          simp (disch := omega) only [go_sem, ↓reduceIte, Nat.reduceEqDiff, Nat.reduceAdd, Nat.reduceSub, Nat.reduceLeDiff, Nat.reduceLT, List.reduceReplicate, Nat.reduceMul, Int.reduceNeg, reduceCtorEq, *,  horariumlaw5_RunsTables_16]
          refine Ev.imp (runsRight_ev w' (sl.ext hx)) ?_
          rintro _ h7 ⟨rfl, x7⟩
          have w7 := ext_lim x7 w'
          simp (disch := omega) only [go_sem, ↓reduceIte, Nat.reduceEqDiff, Nat.reduceAdd, Nat.reduceSub, Nat.reduceLeDiff, Nat.reduceLT, List.reduceReplicate, Nat.reduceMul, Int.reduceNeg, reduceCtorEq, *,  horariumlaw5_RunsTables_16]
          refine Ev.imp (length_ev w7 (so.ext (hx.trans x7)) okF) ?_
          rintro _ h8 ⟨rfl, x8⟩
          have w8 := ext_lim x8 w7
          simp (disch := omega) only [go_sem, ↓reduceIte, Nat.reduceEqDiff, Nat.reduceAdd, Nat.reduceSub, Nat.reduceLeDiff, Nat.reduceLT, List.reduceReplicate, Nat.reduceMul, Int.reduceNeg, reduceCtorEq, *,  horariumlaw5_RunsTables_16]
          refine Ev.imp (length_ev w8 (sl.ext (hx.trans (x7.trans x8))) okG) ?_
          rintro _ h9 ⟨rfl, x9⟩
          have w9 := ext_lim x9 w8
          simp (disch := omega) only [go_sem, ↓reduceIte, Nat.reduceEqDiff, Nat.reduceAdd, Nat.reduceSub, Nat.reduceLeDiff, Nat.reduceLT, List.reduceReplicate, Nat.reduceMul, Int.reduceNeg, reduceCtorEq, *,  horariumlaw5_RunsTables_16]
          refine Ev.imp (known5_ev w9) ?_
          rintro _ h10 ⟨rfl, x10⟩
          simp (disch := omega) only [go_sem, ↓reduceIte, Nat.reduceEqDiff, Nat.reduceAdd, Nat.reduceSub, Nat.reduceLeDiff, Nat.reduceLT, List.reduceReplicate, Nat.reduceMul, Int.reduceNeg, reduceCtorEq, *,  horariumlaw5_RunsTables_16]
          exact X6.trans (hx.trans (x7.trans (x8.trans (x9.trans x10))))
      · simp (disch := omega) only [go_sem, ↓reduceIte, Nat.reduceEqDiff, Nat.reduceAdd, Nat.reduceSub, Nat.reduceLeDiff, Nat.reduceLT, List.reduceReplicate, Nat.reduceMul, Int.reduceNeg, reduceCtorEq, *]
        exact ⟨by omega, by omega, Ext.refl _⟩
end Go.Ab.T
