/- Part of the proof that RunsTables returns true for every input of the second form's bound (no other condition). -/
import Derived.Test.YtemddmfgjijcmaaAbF
import Derived.Test.YtemddmfgjijcmaaAbD
set_option linter.all false
namespace Go.Ab.T
open Go Go.Ab
set_option linter.unusedSimpArgs false
set_option linter.unusedVariables false

theorem drop_nth {α : Type} [Inhabited α] {L : List α} {i : Nat} (h : i < L.length) : L.drop i = nth L i :: L.drop (i + 1) := by
  rw [nth_eq h]; exact List.drop_eq_getElem_cons h

def within (n lo hi : Int) : Int := if lo ≤ n ∧ n ≤ hi then n else lo + (if n.tmod (hi - lo + 1) < 0 then n.tmod (hi - lo + 1) + hi - lo + 1 else n.tmod (hi - lo + 1))
theorem within_bd {n lo hi : Int} (h : lo ≤ hi) : lo ≤ within n lo hi ∧ within n lo hi ≤ hi := by
  unfold within
  have h1 : 0 < hi - lo + 1 := by omega
  have a := Int.tmod_lt_of_pos n h1
  have b := Int.lt_tmod_of_pos n h1
  split
  · assumption
  · split <;> omega
theorem within_ev {h : AH} {n lo hi : Int} (h0 : 0 ≤ lo) (h1 : lo ≤ hi) (h2 : hi ≤ 2000000000) : Ev tp i_horariumbook_Within [.i .i64 n, .i .i64 lo, .i .i64 hi] h (fun v h' => v = .i .i64 (within n lo hi) ∧ h' = h) := by
  have hp : 0 < hi - lo + 1 := by omega
  have a := Int.tmod_lt_of_pos n hp
  have b := Int.lt_tmod_of_pos n hp
  refine Ev_of fn_horariumbook_Within (by simp [t_horariumbook_Within]) ?_
  unfold t_horariumbook_Within
  simp (disch := omega) only [go_sem, ↓reduceIte, Nat.reduceEqDiff, Nat.reduceAdd, Nat.reduceSub, Nat.reduceLeDiff, Nat.reduceLT, List.reduceReplicate, Nat.reduceMul, Int.reduceNeg, reduceCtorEq, *,  horariumbook_Within_0, horariumbook_Within_1, horariumbook_Within_2, horariumbook_Within_3, horariumbook_Within_4, horariumbook_Within_5, horariumbook_Within_6]
  repeat' (first | (refine Wg_dec (fun hc => ?_) (fun hc => ?_) <;> simp (disch := omega) only [go_sem, ↓reduceIte, Nat.reduceEqDiff, Nat.reduceAdd, Nat.reduceSub, Nat.reduceLeDiff, Nat.reduceLT, List.reduceReplicate, Nat.reduceMul, Int.reduceNeg, reduceCtorEq, *]) | (refine Wb_dec (fun hc => ?_) (fun hc => ?_) <;> simp (disch := omega) only [go_sem, ↓reduceIte, Nat.reduceEqDiff, Nat.reduceAdd, Nat.reduceSub, Nat.reduceLeDiff, Nat.reduceLT, List.reduceReplicate, Nat.reduceMul, Int.reduceNeg, reduceCtorEq, *]))
  all_goals (congr 1; unfold within; (repeat' split) <;> omega)

def E1 (x : Int) : List V := [.i .i64 x]
def nextR (L : List Int) (k : Nat) (n : Int) : Int := if L.length ≤ k ∨ n < 1 then 0 else (within (nth L k) 0 1073741824).tmod n
def nextK (L : List Int) (k : Nat) (n : Int) : Nat := if L.length ≤ k ∨ n < 1 then k else k + 1
theorem nextR_bd {L : List Int} {k : Nat} {n : Int} (hn : 1 ≤ n) : 0 ≤ nextR L k n ∧ nextR L k n < n := by
  unfold nextR
  split
  · omega
  · have := (within_bd (n := nth L k) (lo := 0) (hi := 1073741824) (by omega)).1
    exact ⟨Int.tmod_nonneg _ this, Int.tmod_lt_of_pos _ (by omega)⟩
/-- A tape: its numbers, and how many are read. -/
structure Tape (h : AH) (id : Nat) (tv : V) (L : List Int) (k : Nat) : Prop where
  blk : h.get id = some ⟨2, [[tv, .i .i64 k]]⟩
  row : SlT E1 h 1 tv L
  cell : tv.isCell = true
  ne : tv = .ns ∨ idV tv ≠ id
  lo : h.lim ≤ id
  hi : id < h.next
  le : k ≤ L.length
def tapeB (tv : V) (k : Nat) : Blk := ⟨2, [[tv, .i .i64 k]]⟩
theorem Tape.upd {h h' : AH} {id : Nat} {tv : V} {L : List Int} {k j : Nat} (t : Tape h id tv L k) (u : Upd h id (tapeB tv j) h') (hj : j ≤ L.length) : Tape h' id tv L j :=
  ⟨u.here, Sl.same t.row u.next (fun hv hl => u.get _ hl (t.ne.resolve_left hv)), t.cell, t.ne, by rw [u.lim]; exact t.lo, Nat.lt_of_lt_of_le t.hi u.next, hj⟩
theorem Tape.ext {h h' : AH} {id : Nat} {tv : V} {L : List Int} {k : Nat} (t : Tape h id tv L k) (u : Ext h h') : Tape h' id tv L k :=
  ⟨(u.get _ t.hi).trans t.blk, Sl.ext t.row u, t.cell, t.ne, by rw [u.lim]; exact t.lo, Nat.lt_of_lt_of_le t.hi u.next, t.le⟩
theorem next_ev {h : AH} {id : Nat} {tv : V} {L : List Int} {k : Nat} {n : Int} (t : Tape h id tv L k) : Ev tp i_horariumkeep_Tape_Next [.p id 0 0, .i .i64 n] h (fun r h' => r = .i .i64 (nextR L k n) ∧ Upd h id (tapeB tv (nextK L k n)) h') := by
  obtain ⟨hb, hr, hc0, hne, hlo, hhi, hle⟩ := t
  obtain ⟨hlen, hbig, hlt, hget, hat, hrow⟩ := hr.facts
  have hne : 0 < L.length → idV tv ≠ id := fun hl => hne.resolve_left (by rintro rfl; simp [lenV] at hlen; omega)
  refine Ev_of fn_horariumkeep_Tape_Next (by simp [t_horariumkeep_Tape_Next]) ?_
  unfold t_horariumkeep_Tape_Next
  simp (disch := omega) only [go_sem, ↓reduceIte, Nat.reduceEqDiff, Nat.reduceAdd, Nat.reduceSub, Nat.reduceLeDiff, Nat.reduceLT, List.reduceReplicate, Nat.reduceMul, Int.reduceNeg, reduceCtorEq, *,  horariumkeep_Tape_Next_0, horariumkeep_Tape_Next_1, horariumkeep_Tape_Next_2, horariumkeep_Tape_Next_3, horariumkeep_Tape_Next_4]
  repeat' (first | (refine Wg_dec (fun hc => ?_) (fun hc => ?_) <;> simp (disch := omega) only [go_sem, ↓reduceIte, Nat.reduceEqDiff, Nat.reduceAdd, Nat.reduceSub, Nat.reduceLeDiff, Nat.reduceLT, List.reduceReplicate, Nat.reduceMul, Int.reduceNeg, reduceCtorEq, *]) | (refine Wb_dec (fun hc => ?_) (fun hc => ?_) <;> simp (disch := omega) only [go_sem, ↓reduceIte, Nat.reduceEqDiff, Nat.reduceAdd, Nat.reduceSub, Nat.reduceLeDiff, Nat.reduceLT, List.reduceReplicate, Nat.reduceMul, Int.reduceNeg, reduceCtorEq, *]))
  · exact ⟨by unfold nextR; rw [if_pos (by omega)], by unfold nextK; rw [if_pos (by omega)]; exact Upd.same hb⟩
  · exact ⟨by unfold nextR; rw [if_pos (by omega)], by unfold nextK; rw [if_pos (by omega)]; exact Upd.same hb⟩
  · simp (disch := omega) only [go_sem, ↓reduceIte, Nat.reduceEqDiff, Nat.reduceAdd, Nat.reduceSub, Nat.reduceLeDiff, Nat.reduceLT, List.reduceReplicate, Nat.reduceMul, Int.reduceNeg, reduceCtorEq, *,  E1]
    refine Ev.imp (within_ev (by omega) (by omega) (by omega)) ?_
    rintro _ h2 ⟨rfl, rfl⟩
    have hw := within_bd (n := nth L k) (lo := 0) (hi := 1073741824) (by omega)
    simp (disch := omega) only [go_sem, ↓reduceIte, Nat.reduceEqDiff, Nat.reduceAdd, Nat.reduceSub, Nat.reduceLeDiff, Nat.reduceLT, List.reduceReplicate, Nat.reduceMul, Int.reduceNeg, reduceCtorEq, *]
    refine ⟨by unfold nextR; rw [if_neg (by omega)], ?_⟩
    unfold nextK
    rw [if_neg (by omega)]
    exact Upd.put
end Go.Ab.T
namespace Go.Ab.T
open Go Go.Ab
set_option linter.unusedSimpArgs false
set_option linter.unusedVariables false
structure Run where
  part : Int
  n : Int
  deriving DecidableEq, Inhabited
def Run.enc (x : Run) : List V := [.i .i64 x.part, .i .i64 x.n]
/-- So many runs from a place on, and the place behind. -/
def runsK (L : List Int) (parts : Int) : Nat → Nat → Nat
  | 0, k => k
  | m + 1, k => runsK L parts m (nextK L (nextK L k (parts + 1)) 4)
def runsL (L : List Int) (parts : Int) : Nat → Nat → List Run
  | 0, _ => []
  | m + 1, k => ⟨nextR L k (parts + 1) - 1, 1 + nextR L (nextK L k (parts + 1)) 4⟩ :: runsL L parts m (nextK L (nextK L k (parts + 1)) 4)
theorem nextK_le {L : List Int} {k : Nat} {n : Int} (h : k ≤ L.length) : nextK L k n ≤ L.length := by
  unfold nextK; split <;> omega
def Own (h : AH) (v : V) : Prop := v = .ns ∨ h.next ≤ idV v
theorem runs_ev {h : AH} {id : Nat} {tv : V} {L : List Int} {k : Nat} {parts most : Int} (hw : h.lim ≤ h.next) (t : Tape h id tv L k) (hp : 0 ≤ parts ∧ parts ≤ 1000) (hm : 1 ≤ most ∧ most ≤ 1000) :
    Ev tp i_horariumkeep_Tape_Runs [.p id 0 0, .i .i64 parts, .i .i64 most] h (fun v h' => SlT Run.enc h' 2 v (runsL L parts (1 + nextR L k most).toNat (nextK L k most)) ∧ Own h v ∧ Upd h id (tapeB tv (runsK L parts (1 + nextR L k most).toNat (nextK L k most))) h') := by
  refine Ev_of fn_horariumkeep_Tape_Runs (by simp [t_horariumkeep_Tape_Runs]) ?_
  unfold t_horariumkeep_Tape_Runs
  simp (disch := omega) only [go_sem, ↓reduceIte, Nat.reduceEqDiff, Nat.reduceAdd, Nat.reduceSub, Nat.reduceLeDiff, Nat.reduceLT, List.reduceReplicate, Nat.reduceMul, Int.reduceNeg, reduceCtorEq, *,  horariumkeep_Tape_Runs_0, horariumkeep_Tape_Runs_1, horariumkeep_Tape_Runs_2]
  refine Ev.imp (next_ev t) ?_
  rintro _ h1 ⟨rfl, u1⟩
  have b1 := nextR_bd (L := L) (k := k) hm.1
  have t1 := t.upd u1 (nextK_le t.le)
  have hid := t.hi
  simp (disch := omega) only [go_sem, ↓reduceIte, Nat.reduceEqDiff, Nat.reduceAdd, Nat.reduceSub, Nat.reduceLeDiff, Nat.reduceLT, List.reduceReplicate, Nat.reduceMul, Int.reduceNeg, reduceCtorEq, *]
  refine WC_loop_n (fun n e h' => ∃ (j : Nat) (out : V) (A : List Run), n = j ∧ j ≤ 1000 ∧ A.length + j ≤ 1000 ∧ e 0 = .p id 0 0 ∧ e 1 = .i .i64 parts ∧ e 7 = out ∧ e 8 = .i .i64 j ∧ Sl h' 2 out (A.map Run.enc) ∧ Own h out ∧
    (∃ k', Tape h' id tv L k' ∧ Upd h id (tapeB tv k') h' ∧ A ++ runsL L parts j k' = runsL L parts (1 + nextR L k most).toNat (nextK L k most) ∧ runsK L parts j k' = runsK L parts (1 + nextR L k most).toNat (nextK L k most))) ?_ _ _ _ ⟨(1 + nextR L k most).toNat, .ns, [], rfl, by omega, by simp; omega, ?_⟩
  · rintro n e h' ⟨j, out, A, rfl, hj, hA, e0, e1, e7, e8, so, oo, k', t', u', hL, hK⟩ ih
    unfold horariumkeep_Tape_Runs_6
    simp (disch := omega) only [go_sem, ↓reduceIte, Nat.reduceEqDiff, Nat.reduceAdd, Nat.reduceSub, Nat.reduceLeDiff, Nat.reduceLT, List.reduceReplicate, Nat.reduceMul, Int.reduceNeg, reduceCtorEq, *,  horariumkeep_Tape_Runs_3]
    refine Wb_dec (fun hc => ?_) (fun hc => ?_)
    · obtain ⟨m, rfl⟩ : ∃ j', n = j' + 1 := ⟨n - 1, by omega⟩
      simp (disch := omega) only [go_sem, ↓reduceIte, Nat.reduceEqDiff, Nat.reduceAdd, Nat.reduceSub, Nat.reduceLeDiff, Nat.reduceLT, List.reduceReplicate, Nat.reduceMul, Int.reduceNeg, reduceCtorEq, *,  horariumkeep_Tape_Runs_4, horariumkeep_Tape_Runs_5]
      refine Ev.imp (next_ev t') ?_
      rintro _ h2 ⟨rfl, u2⟩
      have b2 := nextR_bd (L := L) (k := k') (n := parts + 1) (by omega)
      have t2 := t'.upd u2 (nextK_le t'.le)
      simp (disch := omega) only [go_sem, ↓reduceIte, Nat.reduceEqDiff, Nat.reduceAdd, Nat.reduceSub, Nat.reduceLeDiff, Nat.reduceLT, List.reduceReplicate, Nat.reduceMul, Int.reduceNeg, reduceCtorEq, *]
      refine Ev.imp (next_ev t2) ?_
      rintro _ h3 ⟨rfl, u3⟩
      have b3 := nextR_bd (L := L) (k := nextK L k' (parts + 1)) (n := 4) (by omega)
      have t3 := t2.upd u3 (nextK_le t2.le)
      simp (disch := omega) only [go_sem, ↓reduceIte, Nat.reduceEqDiff, Nat.reduceAdd, Nat.reduceSub, Nat.reduceLeDiff, Nat.reduceLT, List.reduceReplicate, Nat.reduceMul, Int.reduceNeg, reduceCtorEq, *,  fillP, fillE]
      have hoi : out ≠ .ns → idV out ≠ id := fun hne => by
        rcases oo with hh | hh
        · exact absurd hh hne
        · omega
      refine app_one (R := A.map Run.enc) (Sl.same (Sl.same so u2.next (fun hne hl => u2.get _ hl (hoi hne))) u3.next (fun hne hl => u3.get _ hl (hoi hne))) ?_ (by simp; omega) ?_
      · rcases oo with hh | hh
        · exact .inl hh
        · exact .inr (by rw [u3.lim, u2.lim, u'.lim]; omega)
      · intro v h4 s4 a4
        have hn' := u'.next
        have hn2 := u2.next
        have hn3 := u3.next
        have u4 : Upd h id (tapeB tv (nextK L (nextK L k' (parts + 1)) 4)) h4 := by
          have u13 := (u'.trans u2).trans u3
          refine ⟨Nat.le_trans u13.next a4.next, a4.lim.trans u13.lim, (a4.get id (by omega) (fun hne => (hoi hne).symm)).trans u13.here, fun i hi hne => (a4.get i (by omega) (fun hne2 => ?_)).trans (u13.get i hi hne)⟩
          rcases oo with hh | hh
          · exact absurd hh hne2
          · omega
        simp (disch := omega) only [go_sem, ↓reduceIte, Nat.reduceEqDiff, Nat.reduceAdd, Nat.reduceSub, Nat.reduceLeDiff, Nat.reduceLT, List.reduceReplicate, Nat.reduceMul, Int.reduceNeg, reduceCtorEq, *]
        refine ih m _ _ (by omega) ⟨m, v, A ++ [⟨nextR L k' (parts + 1) - 1, 1 + nextR L (nextK L k' (parts + 1)) 4⟩], rfl, by omega, by simp; omega, ?_⟩
        simp (disch := omega) only [go_sem, ↓reduceIte, Nat.reduceEqDiff, Nat.reduceAdd, Nat.reduceSub, Nat.reduceLeDiff, Nat.reduceLT, List.reduceReplicate, Nat.reduceMul, Int.reduceNeg, reduceCtorEq, *]
        refine ⟨by simpa [Run.enc] using s4, .inr (a4.own h.next (by omega) oo), _, t.upd u4 (nextK_le (nextK_le t'.le)), u4, ?_, ?_⟩
        · rw [← hL]; simp [runsL]
        · rw [← hK]; simp [runsK]
    · simp (disch := omega) only [go_sem, ↓reduceIte, Nat.reduceEqDiff, Nat.reduceAdd, Nat.reduceSub, Nat.reduceLeDiff, Nat.reduceLT, List.reduceReplicate, Nat.reduceMul, Int.reduceNeg, reduceCtorEq, *,  horariumkeep_Tape_Runs_7]
      obtain rfl : n = 0 := by omega
      simp only [runsL, runsK, List.append_nil] at hL hK
      refine ⟨?_, by rw [← hK]; exact u'⟩
      rw [← hL]; exact so
  · simp (disch := omega) only [go_sem, ↓reduceIte, Nat.reduceEqDiff, Nat.reduceAdd, Nat.reduceSub, Nat.reduceLeDiff, Nat.reduceLT, List.reduceReplicate, Nat.reduceMul, Int.reduceNeg, reduceCtorEq, *]
    exact ⟨by rw [Int.toNat_of_nonneg (by omega)], Sl.nil _ _, .inl rfl, _, t1, u1, rfl, rfl⟩
end Go.Ab.T
namespace Go.Ab.T
open Go Go.Ab
set_option linter.unusedSimpArgs false
set_option linter.unusedVariables false
def Big (x : Int) : Prop := x ≤ 9223372036854775807
def addR (a b : Int) : Int := if 9223372036854775807 - max 0 b < max 0 a then 9223372036854775807 else max 0 a + max 0 b
theorem addR_big {a b : Int} : 0 ≤ addR a b ∧ addR a b ≤ 9223372036854775807 := by unfold addR; split <;> omega
theorem add_ev {h : AH} {a b : Int} (ha : a ≤ 9223372036854775807) (hb : b ≤ 9223372036854775807) : Ev tp i_runs_Add [.i .i64 a, .i .i64 b] h (fun v h' => v = .i .i64 (addR a b) ∧ h' = h) := by
  refine Ev_of fn_runs_Add (by simp [t_runs_Add]) ?_
  unfold t_runs_Add
  simp (disch := omega) only [go_sem, ↓reduceIte, Nat.reduceEqDiff, Nat.reduceAdd, Nat.reduceSub, Nat.reduceLeDiff, Nat.reduceLT, List.reduceReplicate, Nat.reduceMul, Int.reduceNeg, reduceCtorEq, *,  runs_Add_0, runs_Add_1, runs_Add_2, runs_Add_3, runs_Add_4]
  repeat' (first | (refine Wg_dec (fun hc => ?_) (fun hc => ?_) <;> simp (disch := omega) only [go_sem, ↓reduceIte, Nat.reduceEqDiff, Nat.reduceAdd, Nat.reduceSub, Nat.reduceLeDiff, Nat.reduceLT, List.reduceReplicate, Nat.reduceMul, Int.reduceNeg, reduceCtorEq, *]) | (refine Wb_dec (fun hc => ?_) (fun hc => ?_) <;> simp (disch := omega) only [go_sem, ↓reduceIte, Nat.reduceEqDiff, Nat.reduceAdd, Nat.reduceSub, Nat.reduceLeDiff, Nat.reduceLT, List.reduceReplicate, Nat.reduceMul, Int.reduceNeg, reduceCtorEq, *]))
  all_goals (congr 1; unfold addR; split <;> omega)
theorem sum_ev {h : AH} {a b : Int} (ha : a ≤ 9223372036854775807) (hb : b ≤ 9223372036854775807) : Ev tp i_horariumref3_Sum [.i .i64 a, .i .i64 b] h (fun v h' => v = .i .i64 (addR a b) ∧ h' = h) := by
  refine Ev_of fn_horariumref3_Sum (by simp [t_horariumref3_Sum]) ?_
  unfold t_horariumref3_Sum
  simp (disch := omega) only [go_sem, ↓reduceIte, Nat.reduceEqDiff, Nat.reduceAdd, Nat.reduceSub, Nat.reduceLeDiff, Nat.reduceLT, List.reduceReplicate, Nat.reduceMul, Int.reduceNeg, reduceCtorEq, *,  horariumref3_Sum_0, horariumref3_Sum_1, horariumref3_Sum_2, horariumref3_Sum_3, horariumref3_Sum_4]
  repeat' (first | (refine Wg_dec (fun hc => ?_) (fun hc => ?_) <;> simp (disch := omega) only [go_sem, ↓reduceIte, Nat.reduceEqDiff, Nat.reduceAdd, Nat.reduceSub, Nat.reduceLeDiff, Nat.reduceLT, List.reduceReplicate, Nat.reduceMul, Int.reduceNeg, reduceCtorEq, *]) | (refine Wb_dec (fun hc => ?_) (fun hc => ?_) <;> simp (disch := omega) only [go_sem, ↓reduceIte, Nat.reduceEqDiff, Nat.reduceAdd, Nat.reduceSub, Nat.reduceLeDiff, Nat.reduceLT, List.reduceReplicate, Nat.reduceMul, Int.reduceNeg, reduceCtorEq, *]))
  all_goals (congr 1; unfold addR; split <;> omega)

def ticksGo (p : Int) : List Run → Int → Int
  | [], n => n
  | r :: l, n => ticksGo p l (if r.part = p then addR n r.n else n)
def RunsOk (L : List Run) : Prop := ∀ i, i < L.length → (nth L i).n ≤ 9223372036854775807
theorem ticks_ev {h : AH} {v : V} {L : List Run} {p : Int} (hw : h.lim ≤ h.next) (hS : SlT Run.enc h 2 v L) (hok : RunsOk L) : Ev tp i_runs_Ticks [v, .i .i64 p] h (fun r h' => r = .i .i64 (ticksGo p L 0) ∧ Ext h h') := by
  obtain ⟨hlen, hbig, hlt, hget, hat, hrow⟩ := hS.facts
  refine Ev_of fn_runs_Ticks (by simp [t_runs_Ticks]) ?_
  unfold t_runs_Ticks
  simp (disch := omega) only [go_sem, ↓reduceIte, Nat.reduceEqDiff, Nat.reduceAdd, Nat.reduceSub, Nat.reduceLeDiff, Nat.reduceLT, List.reduceReplicate, Nat.reduceMul, Int.reduceNeg, reduceCtorEq, *,  runs_Ticks_0, runs_Ticks_1, runs_Ticks_2]
  refine WC_loop_n (fun n e h' => ∃ (i : Nat) (a : Int), n = L.length - i ∧ e 1 = .i .i64 p ∧ e 5 = .i .i64 a ∧ e 8 = v ∧ e 9 = .i .i64 L.length ∧ e 10 = .i .i64 i ∧ Ext h h' ∧ i ≤ L.length ∧ a ≤ 9223372036854775807 ∧ ticksGo p (L.drop i) a = ticksGo p L 0) ?_ _ _ _ ⟨0, 0, rfl, ?_⟩
  · rintro n e h' ⟨i, a, rfl, e1, e5, e8, e9, e10, hx, hi, ha, hz⟩ ih
    have hg := hx.get
    have hn := hx.next
    have hl := hx.lim
    unfold runs_Ticks_8
    simp (disch := omega) only [go_sem, ↓reduceIte, Nat.reduceEqDiff, Nat.reduceAdd, Nat.reduceSub, Nat.reduceLeDiff, Nat.reduceLT, List.reduceReplicate, Nat.reduceMul, Int.reduceNeg, reduceCtorEq, *,  runs_Ticks_3]
    refine Wb_dec (fun hc => ?_) (fun hc => ?_)
    · rw [drop_nth (by omega), ticksGo] at hz
      have hb := hok i (by omega)
      simp (disch := omega) only [go_sem, ↓reduceIte, Nat.reduceEqDiff, Nat.reduceAdd, Nat.reduceSub, Nat.reduceLeDiff, Nat.reduceLT, List.reduceReplicate, Nat.reduceMul, Int.reduceNeg, reduceCtorEq, *,  runs_Ticks_4, runs_Ticks_5, Run.enc]
      refine Wb_dec (fun hc2 => ?_) (fun hc2 => ?_)
      · rw [if_pos hc2] at hz
        simp (disch := omega) only [go_sem, ↓reduceIte, Nat.reduceEqDiff, Nat.reduceAdd, Nat.reduceSub, Nat.reduceLeDiff, Nat.reduceLT, List.reduceReplicate, Nat.reduceMul, Int.reduceNeg, reduceCtorEq, *,  runs_Ticks_6, runs_Ticks_7]
        refine Ev.imp (add_ev ha hb) ?_
        rintro _ h2 ⟨rfl, rfl⟩
        simp (disch := omega) only [go_sem, ↓reduceIte, Nat.reduceEqDiff, Nat.reduceAdd, Nat.reduceSub, Nat.reduceLeDiff, Nat.reduceLT, List.reduceReplicate, Nat.reduceMul, Int.reduceNeg, reduceCtorEq, *]
        refine ih _ _ _ ?_ ⟨i + 1, addR a (nth L i).n, rfl, ?_⟩
        · omega
        · simp (disch := omega) only [go_sem, ↓reduceIte, Nat.reduceEqDiff, Nat.reduceAdd, Nat.reduceSub, Nat.reduceLeDiff, Nat.reduceLT, List.reduceReplicate, Nat.reduceMul, Int.reduceNeg, reduceCtorEq, *]
          exact ⟨(hx.alloc _).put _ _ hn, by omega, addR_big.2⟩
      · rw [if_neg hc2] at hz
        simp (disch := omega) only [go_sem, ↓reduceIte, Nat.reduceEqDiff, Nat.reduceAdd, Nat.reduceSub, Nat.reduceLeDiff, Nat.reduceLT, List.reduceReplicate, Nat.reduceMul, Int.reduceNeg, reduceCtorEq, *,  runs_Ticks_7]
        refine ih _ _ _ ?_ ⟨i + 1, a, rfl, ?_⟩
        · omega
        · simp (disch := omega) only [go_sem, ↓reduceIte, Nat.reduceEqDiff, Nat.reduceAdd, Nat.reduceSub, Nat.reduceLeDiff, Nat.reduceLT, List.reduceReplicate, Nat.reduceMul, Int.reduceNeg, reduceCtorEq, *]
          exact ⟨(hx.alloc _).put _ _ hn, by omega⟩
    · rw [List.drop_eq_nil_of_le (by omega), ticksGo] at hz
      simp (disch := omega) only [go_sem, ↓reduceIte, Nat.reduceEqDiff, Nat.reduceAdd, Nat.reduceSub, Nat.reduceLeDiff, Nat.reduceLT, List.reduceReplicate, Nat.reduceMul, Int.reduceNeg, reduceCtorEq, *,  runs_Ticks_9]
  · simp (disch := omega) only [go_sem, ↓reduceIte, Nat.reduceEqDiff, Nat.reduceAdd, Nat.reduceSub, Nat.reduceLeDiff, Nat.reduceLT, List.reduceReplicate, Nat.reduceMul, Int.reduceNeg, reduceCtorEq, *]
    exact ⟨Ext.refl h, Nat.zero_le _, by omega⟩

def lengthGo : List Run → Int → Int
  | [], n => n
  | r :: l, n => lengthGo l (addR n r.n)
theorem length_ev {h : AH} {v : V} {L : List Run} (hw : h.lim ≤ h.next) (hS : SlT Run.enc h 2 v L) (hok : RunsOk L) : Ev tp i_runs_Length [v] h (fun r h' => r = .i .i64 (lengthGo L 0) ∧ Ext h h') := by
  obtain ⟨hlen, hbig, hlt, hget, hat, hrow⟩ := hS.facts
  refine Ev_of fn_runs_Length (by simp [t_runs_Length]) ?_
  unfold t_runs_Length
  simp (disch := omega) only [go_sem, ↓reduceIte, Nat.reduceEqDiff, Nat.reduceAdd, Nat.reduceSub, Nat.reduceLeDiff, Nat.reduceLT, List.reduceReplicate, Nat.reduceMul, Int.reduceNeg, reduceCtorEq, *,  runs_Length_0, runs_Length_1, runs_Length_2]
  refine WC_loop_n (fun n e h' => ∃ (i : Nat) (a : Int), n = L.length - i ∧ e 3 = .i .i64 a ∧ e 6 = v ∧ e 7 = .i .i64 L.length ∧ e 8 = .i .i64 i ∧ Ext h h' ∧ i ≤ L.length ∧ a ≤ 9223372036854775807 ∧ lengthGo (L.drop i) a = lengthGo L 0) ?_ _ _ _ ⟨0, 0, rfl, ?_⟩
  · rintro n e h' ⟨i, a, rfl, e3, e6, e7, e8, hx, hi, ha, hz⟩ ih
    have hg := hx.get
    have hn := hx.next
    have hl := hx.lim
    unfold runs_Length_7
    simp (disch := omega) only [go_sem, ↓reduceIte, Nat.reduceEqDiff, Nat.reduceAdd, Nat.reduceSub, Nat.reduceLeDiff, Nat.reduceLT, List.reduceReplicate, Nat.reduceMul, Int.reduceNeg, reduceCtorEq, *,  runs_Length_3]
    refine Wb_dec (fun hc => ?_) (fun hc => ?_)
    · rw [drop_nth (by omega), lengthGo] at hz
      have hb := hok i (by omega)
      simp (disch := omega) only [go_sem, ↓reduceIte, Nat.reduceEqDiff, Nat.reduceAdd, Nat.reduceSub, Nat.reduceLeDiff, Nat.reduceLT, List.reduceReplicate, Nat.reduceMul, Int.reduceNeg, reduceCtorEq, *,  runs_Length_4, runs_Length_5, runs_Length_6, Run.enc]
      refine Ev.imp (add_ev ha hb) ?_
      rintro _ h2 ⟨rfl, rfl⟩
      simp (disch := omega) only [go_sem, ↓reduceIte, Nat.reduceEqDiff, Nat.reduceAdd, Nat.reduceSub, Nat.reduceLeDiff, Nat.reduceLT, List.reduceReplicate, Nat.reduceMul, Int.reduceNeg, reduceCtorEq, *]
      refine ih _ _ _ ?_ ⟨i + 1, addR a (nth L i).n, rfl, ?_⟩
      · omega
      · simp (disch := omega) only [go_sem, ↓reduceIte, Nat.reduceEqDiff, Nat.reduceAdd, Nat.reduceSub, Nat.reduceLeDiff, Nat.reduceLT, List.reduceReplicate, Nat.reduceMul, Int.reduceNeg, reduceCtorEq, *]
        exact ⟨(hx.alloc _).put _ _ hn, by omega, addR_big.2⟩
    · rw [List.drop_eq_nil_of_le (by omega), lengthGo] at hz
      simp (disch := omega) only [go_sem, ↓reduceIte, Nat.reduceEqDiff, Nat.reduceAdd, Nat.reduceSub, Nat.reduceLeDiff, Nat.reduceLT, List.reduceReplicate, Nat.reduceMul, Int.reduceNeg, reduceCtorEq, *,  runs_Length_8]
  · simp (disch := omega) only [go_sem, ↓reduceIte, Nat.reduceEqDiff, Nat.reduceAdd, Nat.reduceSub, Nat.reduceLeDiff, Nat.reduceLT, List.reduceReplicate, Nat.reduceMul, Int.reduceNeg, reduceCtorEq, *]
    exact ⟨Ext.refl h, Nat.zero_le _, by omega⟩

def atGo : List Run → Int → Int
  | [], _ => -1
  | r :: l, t => if t < r.n then r.part else atGo l (t - max 0 r.n)
def atR (L : List Run) (t : Int) : Int := if t < 0 then -1 else atGo L t
theorem at_ev {h : AH} {v : V} {L : List Run} {t : Int} (hw : h.lim ≤ h.next) (hS : SlT Run.enc h 2 v L) (ht : t ≤ 9223372036854775807) : Ev tp i_runs_At [v, .i .i64 t] h (fun r h' => r = .i .i64 (atR L t) ∧ Ext h h') := by
  obtain ⟨hlen, hbig, hlt, hget, hat, hrow⟩ := hS.facts
  refine Ev_of fn_runs_At (by simp [t_runs_At]) ?_
  unfold t_runs_At
  simp (disch := omega) only [go_sem, ↓reduceIte, Nat.reduceEqDiff, Nat.reduceAdd, Nat.reduceSub, Nat.reduceLeDiff, Nat.reduceLT, List.reduceReplicate, Nat.reduceMul, Int.reduceNeg, reduceCtorEq, *,  runs_At_0, runs_At_1, runs_At_2, runs_At_3]
  repeat' (first | (refine Wg_dec (fun hc => ?_) (fun hc => ?_) <;> simp (disch := omega) only [go_sem, ↓reduceIte, Nat.reduceEqDiff, Nat.reduceAdd, Nat.reduceSub, Nat.reduceLeDiff, Nat.reduceLT, List.reduceReplicate, Nat.reduceMul, Int.reduceNeg, reduceCtorEq, *]) | (refine Wb_dec (fun hc => ?_) (fun hc => ?_) <;> simp (disch := omega) only [go_sem, ↓reduceIte, Nat.reduceEqDiff, Nat.reduceAdd, Nat.reduceSub, Nat.reduceLeDiff, Nat.reduceLT, List.reduceReplicate, Nat.reduceMul, Int.reduceNeg, reduceCtorEq, *]))
  · exact ⟨by simp [atR]; omega, Ext.refl h⟩
  · refine WC_loop_n (fun n e h' => ∃ (i : Nat) (a : Int), n = L.length - i ∧ e 1 = .i .i64 a ∧ e 9 = v ∧ e 10 = .i .i64 L.length ∧ e 11 = .i .i64 i ∧ Ext h h' ∧ i ≤ L.length ∧ 0 ≤ a ∧ a ≤ 9223372036854775807 ∧ atGo (L.drop i) a = atR L t) ?_ _ _ _ ⟨0, t, rfl, ?_⟩
    · rintro n e h' ⟨i, a, rfl, e1, e9, e10, e11, hx, hi, ha0, ha, hz⟩ ih
      have hg := hx.get
      have hn := hx.next
      have hl := hx.lim
      unfold runs_At_10
      simp (disch := omega) only [go_sem, ↓reduceIte, Nat.reduceEqDiff, Nat.reduceAdd, Nat.reduceSub, Nat.reduceLeDiff, Nat.reduceLT, List.reduceReplicate, Nat.reduceMul, Int.reduceNeg, reduceCtorEq, *,  runs_At_4]
      refine Wb_dec (fun hc => ?_) (fun hc => ?_)
      · rw [drop_nth (by omega), atGo] at hz
        simp (disch := omega) only [go_sem, ↓reduceIte, Nat.reduceEqDiff, Nat.reduceAdd, Nat.reduceSub, Nat.reduceLeDiff, Nat.reduceLT, List.reduceReplicate, Nat.reduceMul, Int.reduceNeg, reduceCtorEq, *,  runs_At_5, runs_At_6, Run.enc]
        refine Wb_dec (fun hc2 => ?_) (fun hc2 => ?_)
        · rw [if_pos hc2] at hz
          simp (disch := omega) only [go_sem, ↓reduceIte, Nat.reduceEqDiff, Nat.reduceAdd, Nat.reduceSub, Nat.reduceLeDiff, Nat.reduceLT, List.reduceReplicate, Nat.reduceMul, Int.reduceNeg, reduceCtorEq, *,  runs_At_7]
          exact (hx.alloc _).put _ _ hn
        · rw [if_neg hc2] at hz
          simp (disch := omega) only [go_sem, ↓reduceIte, Nat.reduceEqDiff, Nat.reduceAdd, Nat.reduceSub, Nat.reduceLeDiff, Nat.reduceLT, List.reduceReplicate, Nat.reduceMul, Int.reduceNeg, reduceCtorEq, *,  runs_At_8, runs_At_9]
          refine ih _ _ _ ?_ ⟨i + 1, a - max 0 (nth L i).n, rfl, ?_⟩
          · omega
          · simp (disch := omega) only [go_sem, ↓reduceIte, Nat.reduceEqDiff, Nat.reduceAdd, Nat.reduceSub, Nat.reduceLeDiff, Nat.reduceLT, List.reduceReplicate, Nat.reduceMul, Int.reduceNeg, reduceCtorEq, *]
            exact ⟨(hx.alloc _).put _ _ hn, by omega, by omega, by omega⟩
      · rw [List.drop_eq_nil_of_le (by omega), atGo] at hz
        simp (disch := omega) only [go_sem, ↓reduceIte, Nat.reduceEqDiff, Nat.reduceAdd, Nat.reduceSub, Nat.reduceLeDiff, Nat.reduceLT, List.reduceReplicate, Nat.reduceMul, Int.reduceNeg, reduceCtorEq, *,  runs_At_11]
    · simp (disch := omega) only [go_sem, ↓reduceIte, Nat.reduceEqDiff, Nat.reduceAdd, Nat.reduceSub, Nat.reduceLeDiff, Nat.reduceLT, List.reduceReplicate, Nat.reduceMul, Int.reduceNeg, reduceCtorEq, *]
      exact ⟨Ext.refl h, Nat.zero_le _, by omega, by simp only [atR]; rw [if_neg (by omega)]⟩
end Go.Ab.T
namespace Go.Ab.T
open Go Go.Ab
set_option linter.unusedSimpArgs false
set_option linter.unusedVariables false
theorem clip_ev {h : AH} {v : V} {R : List (List V)} (hS : Sl h 2 v R) : Ev tp i_slices_Clip_api_Run_api_Run [v] h (fun r h' => h' = h ∧ Sl h 2 r R ∧ (r = .ns ↔ v = .ns) ∧ (r ≠ .ns → idV r = idV v)) := by
  have hlen := hS.len
  refine Ev_of fn_slices_Clip_api_Run_api_Run (by simp [t_slices_Clip_api_Run_api_Run]) ?_
  unfold t_slices_Clip_api_Run_api_Run
  simp (disch := omega) only [go_sem, ↓reduceIte, Nat.reduceEqDiff, Nat.reduceAdd, Nat.reduceSub, Nat.reduceLeDiff, Nat.reduceLT, List.reduceReplicate, Nat.reduceMul, Int.reduceNeg, reduceCtorEq, *,  slices_Clip_api_Run_api_Run_0, slices_Clip_api_Run_api_Run_1]
  refine clip_rule hS (fun r s1 h1 h2 => ?_)
  simp (disch := omega) only [go_sem, ↓reduceIte, Nat.reduceEqDiff, Nat.reduceAdd, Nat.reduceSub, Nat.reduceLeDiff, Nat.reduceLT, List.reduceReplicate, Nat.reduceMul, Int.reduceNeg, reduceCtorEq, *]
  trivial

def eqGo : List Run → List Run → Bool
  | [], _ => true
  | _ :: _, [] => false
  | a :: l, b :: m => if a.part = b.part ∧ a.n = b.n then eqGo l m else false
def eqR (a b : List Run) : Bool := if a.length = b.length then eqGo a b else false
theorem eq_ev {h : AH} {v w : V} {L M : List Run} (hS : SlT Run.enc h 2 v L) (hT : SlT Run.enc h 2 w M) : Ev tp i_slices_Equal_api_Run_api_Run [v, w] h (fun r h' => r = .b (eqR L M) ∧ h' = h) := by
  obtain ⟨hlen, hbig, hlt, hget, hat, hrow⟩ := hS.facts
  obtain ⟨glen, gbig, glt, gget, gat, grow⟩ := hT.facts
  refine Ev_of fn_slices_Equal_api_Run_api_Run (by simp [t_slices_Equal_api_Run_api_Run]) ?_
  unfold t_slices_Equal_api_Run_api_Run
  simp (disch := omega) only [go_sem, ↓reduceIte, Nat.reduceEqDiff, Nat.reduceAdd, Nat.reduceSub, Nat.reduceLeDiff, Nat.reduceLT, List.reduceReplicate, Nat.reduceMul, Int.reduceNeg, reduceCtorEq, *,  slices_Equal_api_Run_api_Run_0, slices_Equal_api_Run_api_Run_1, slices_Equal_api_Run_api_Run_2, slices_Equal_api_Run_api_Run_3]
  refine Wb_dec (fun hc => ?_) (fun hc => ?_)
  · simp (disch := omega) only [go_sem, ↓reduceIte, Nat.reduceEqDiff, Nat.reduceAdd, Nat.reduceSub, Nat.reduceLeDiff, Nat.reduceLT, List.reduceReplicate, Nat.reduceMul, Int.reduceNeg, reduceCtorEq, *]
    simp only [eqR]; rw [if_neg (by omega)]
  · simp (disch := omega) only [go_sem, ↓reduceIte, Nat.reduceEqDiff, Nat.reduceAdd, Nat.reduceSub, Nat.reduceLeDiff, Nat.reduceLT, List.reduceReplicate, Nat.reduceMul, Int.reduceNeg, reduceCtorEq, *]
    refine WC_loop_n (fun n e h' => ∃ (i : Nat), n = L.length - i ∧ e 0 = v ∧ e 1 = w ∧ e 12 = .i .i64 L.length ∧ e 13 = .i .i64 i ∧ h' = h ∧ i ≤ L.length ∧ eqGo (L.drop i) (M.drop i) = eqR L M) ?_ _ _ _ ⟨0, rfl, ?_⟩
    · rintro n e h' ⟨i, rfl, e0, e1, e12, e13, rfl, hi, hz⟩ ih
      unfold slices_Equal_api_Run_api_Run_9
      simp (disch := omega) only [go_sem, ↓reduceIte, Nat.reduceEqDiff, Nat.reduceAdd, Nat.reduceSub, Nat.reduceLeDiff, Nat.reduceLT, List.reduceReplicate, Nat.reduceMul, Int.reduceNeg, reduceCtorEq, *,  slices_Equal_api_Run_api_Run_4]
      refine Wb_dec (fun hc2 => ?_) (fun hc2 => ?_)
      · rw [drop_nth (by omega), drop_nth (L := M) (by omega), eqGo] at hz
        simp (disch := omega) only [go_sem, ↓reduceIte, Nat.reduceEqDiff, Nat.reduceAdd, Nat.reduceSub, Nat.reduceLeDiff, Nat.reduceLT, List.reduceReplicate, Nat.reduceMul, Int.reduceNeg, reduceCtorEq, *,  slices_Equal_api_Run_api_Run_5, slices_Equal_api_Run_api_Run_6, Run.enc, eqV, eqL, eqC]
        refine Wb_dec (fun hc3 => ?_) (fun hc3 => ?_)
        · rw [if_neg hc3] at hz
          simp (disch := omega) only [go_sem, ↓reduceIte, Nat.reduceEqDiff, Nat.reduceAdd, Nat.reduceSub, Nat.reduceLeDiff, Nat.reduceLT, List.reduceReplicate, Nat.reduceMul, Int.reduceNeg, reduceCtorEq, *,  slices_Equal_api_Run_api_Run_7]
        · rw [if_pos (Decidable.not_not.1 hc3)] at hz
          simp (disch := omega) only [go_sem, ↓reduceIte, Nat.reduceEqDiff, Nat.reduceAdd, Nat.reduceSub, Nat.reduceLeDiff, Nat.reduceLT, List.reduceReplicate, Nat.reduceMul, Int.reduceNeg, reduceCtorEq, *,  slices_Equal_api_Run_api_Run_8]
          refine ih _ _ _ ?_ ⟨i + 1, rfl, ?_⟩
          · omega
          · simp (disch := omega) only [go_sem, ↓reduceIte, Nat.reduceEqDiff, Nat.reduceAdd, Nat.reduceSub, Nat.reduceLeDiff, Nat.reduceLT, List.reduceReplicate, Nat.reduceMul, Int.reduceNeg, reduceCtorEq, *]
            omega
      · rw [List.drop_eq_nil_of_le (by omega), eqGo] at hz
        simp (disch := omega) only [go_sem, ↓reduceIte, Nat.reduceEqDiff, Nat.reduceAdd, Nat.reduceSub, Nat.reduceLeDiff, Nat.reduceLT, List.reduceReplicate, Nat.reduceMul, Int.reduceNeg, reduceCtorEq, *,  slices_Equal_api_Run_api_Run_10]
    · simp (disch := omega) only [go_sem, ↓reduceIte, Nat.reduceEqDiff, Nat.reduceAdd, Nat.reduceSub, Nat.reduceLeDiff, Nat.reduceLT, List.reduceReplicate, Nat.reduceMul, Int.reduceNeg, reduceCtorEq, *]
      exact ⟨Nat.zero_le _, by simp only [eqR]; rw [if_pos (by omega)]⟩
theorem same_ev {h : AH} {v w : V} {L M : List Run} (hS : SlT Run.enc h 2 v L) (hT : SlT Run.enc h 2 w M) : Ev tp i_runs_Same [v, w] h (fun r h' => r = .b (eqR L M) ∧ h' = h) := by
  refine Ev_of fn_runs_Same (by simp [t_runs_Same]) ?_
  unfold t_runs_Same
  simp (disch := omega) only [go_sem, ↓reduceIte, Nat.reduceEqDiff, Nat.reduceAdd, Nat.reduceSub, Nat.reduceLeDiff, Nat.reduceLT, List.reduceReplicate, Nat.reduceMul, Int.reduceNeg, reduceCtorEq, *,  runs_Same_0, runs_Same_1]
  refine Ev.imp (eq_ev hS hT) ?_
  rintro _ h2 ⟨rfl, rfl⟩
  simp (disch := omega) only [go_sem, ↓reduceIte, Nat.reduceEqDiff, Nat.reduceAdd, Nat.reduceSub, Nat.reduceLeDiff, Nat.reduceLT, List.reduceReplicate, Nat.reduceMul, Int.reduceNeg, reduceCtorEq, *]

def tidyGo : List Run → List Run → List Run
  | [], A => A
  | r :: l, A => if r.n < 1 then tidyGo l A else if 0 < A.length ∧ (nth A (A.length - 1)).part = r.part then tidyGo l (A.set (A.length - 1) ⟨(nth A (A.length - 1)).part, addR (nth A (A.length - 1)).n r.n⟩) else tidyGo l (A ++ [r])
theorem runsOk_snoc {A : List Run} {r : Run} (h : RunsOk A) (hr : r.n ≤ 9223372036854775807) : RunsOk (A ++ [r]) := by
  intro i hi
  simp only [List.length_append, List.length_singleton] at hi
  by_cases hA : i < A.length
  · have := h i hA
    rw [nth_eq (by simp; omega), List.getElem_append_left hA, ← nth_eq hA]; exact this
  · obtain rfl : i = A.length := by omega
    rw [nth_eq (by simp)]; simpa using hr
theorem runsOk_set {A : List Run} {r : Run} {j : Nat} (h : RunsOk A) (hr : r.n ≤ 9223372036854775807) : RunsOk (A.set j r) := by
  intro i hi
  simp only [List.length_set] at hi
  rw [nth_eq (by simpa using hi), List.getElem_set]
  split
  · exact hr
  · rw [← nth_eq hi]; exact h i hi
theorem tidy_ev {h : AH} {v : V} {L : List Run} (hw : h.lim ≤ h.next) (hS : SlT Run.enc h 2 v L) (hok : RunsOk L) (hLb : L.length < 4000000000) : Ev tp i_runs_Tidy [v] h (fun r h' => SlT Run.enc h' 2 r (tidyGo L []) ∧ Own h r ∧ Ext h h') := by
  obtain ⟨hlen, hbig, hlt, hget, hat, hrow⟩ := hS.facts
  refine Ev_of fn_runs_Tidy (by simp [t_runs_Tidy]) ?_
  unfold t_runs_Tidy
  simp (disch := omega) only [go_sem, ↓reduceIte, Nat.reduceEqDiff, Nat.reduceAdd, Nat.reduceSub, Nat.reduceLeDiff, Nat.reduceLT, List.reduceReplicate, Nat.reduceMul, Int.reduceNeg, reduceCtorEq, *,  runs_Tidy_0, runs_Tidy_1, runs_Tidy_2]
  refine WC_loop_n (fun n e h' => ∃ (i : Nat) (out : V) (A : List Run), n = L.length - i ∧ e 3 = out ∧ e 7 = v ∧ e 8 = .i .i64 L.length ∧ e 9 = .i .i64 i ∧ Ext h h' ∧ i ≤ L.length ∧ A.length ≤ i ∧ Own h out ∧ SlT Run.enc h' 2 out A ∧ RunsOk A ∧ tidyGo (L.drop i) A = tidyGo L []) ?_ _ _ _ ⟨0, .ns, [], rfl, ?_⟩
  · rintro n e h' ⟨i, out, A, rfl, e3, e7, e8, e9, hx, hi, hA, oo, so, okA, hz⟩ ih
    obtain ⟨olen, obig, olt, oget, oat, orow⟩ := so.facts
    have hg := hx.get
    have hn := hx.next
    have hl := hx.lim
    have xa : ∀ k1 k2, Ext h' ((h'.alloc k1).put h'.next k2) := fun _ _ => ((Ext.refl h').alloc _).put _ _ (Nat.le_refl _)
    unfold runs_Tidy_11
    simp (disch := omega) only [go_sem, ↓reduceIte, Nat.reduceEqDiff, Nat.reduceAdd, Nat.reduceSub, Nat.reduceLeDiff, Nat.reduceLT, List.reduceReplicate, Nat.reduceMul, Int.reduceNeg, reduceCtorEq, *,  runs_Tidy_3]
    refine Wb_dec (fun hc => ?_) (fun hc => ?_)
    · rw [drop_nth (by omega), tidyGo] at hz
      have hb := hok i (by omega)
      simp (disch := omega) only [go_sem, ↓reduceIte, Nat.reduceEqDiff, Nat.reduceAdd, Nat.reduceSub, Nat.reduceLeDiff, Nat.reduceLT, List.reduceReplicate, Nat.reduceMul, Int.reduceNeg, reduceCtorEq, *,  runs_Tidy_4, runs_Tidy_5, runs_Tidy_6, Run.enc]
      refine Wb_dec (fun hc2 => ?_) (fun hc2 => ?_)
      · rw [if_pos hc2] at hz
        simp (disch := omega) only [go_sem, ↓reduceIte, Nat.reduceEqDiff, Nat.reduceAdd, Nat.reduceSub, Nat.reduceLeDiff, Nat.reduceLT, List.reduceReplicate, Nat.reduceMul, Int.reduceNeg, reduceCtorEq, *,  runs_Tidy_10]
        refine ih _ _ _ ?_ ⟨i + 1, out, A, rfl, ?_⟩
        · omega
        · simp (disch := omega) only [go_sem, ↓reduceIte, Nat.reduceEqDiff, Nat.reduceAdd, Nat.reduceSub, Nat.reduceLeDiff, Nat.reduceLT, List.reduceReplicate, Nat.reduceMul, Int.reduceNeg, reduceCtorEq, *]
          exact ⟨(hx.alloc _).put _ _ hn, by omega, by omega, SlT.ext so (xa _ _)⟩
      · rw [if_neg hc2] at hz
        simp (disch := omega) only [go_sem, ↓reduceIte, Nat.reduceEqDiff, Nat.reduceAdd, Nat.reduceSub, Nat.reduceLeDiff, Nat.reduceLT, List.reduceReplicate, Nat.reduceMul, Int.reduceNeg, reduceCtorEq, *,  runs_Tidy_7]
        refine Wg_dec (fun hc3 => ?_) (fun hc3 => ?_)
        · have hk : ((A.length : Int) - 1).toNat = A.length - 1 := by omega
          have ho : h.next ≤ idV out := by
            rcases oo with rfl | ho
            · simp [lenV] at olen; omega
            · exact ho
          have hAn := okA (A.length - 1) (by omega)
          simp (disch := omega) only [go_sem, ↓reduceIte, Nat.reduceEqDiff, Nat.reduceAdd, Nat.reduceSub, Nat.reduceLeDiff, Nat.reduceLT, List.reduceReplicate, Nat.reduceMul, Int.reduceNeg, reduceCtorEq, *,  Run.enc]
          refine Wb_dec (fun hc4 => ?_) (fun hc4 => ?_)
          · rw [if_pos ⟨by omega, hc4⟩] at hz
            simp (disch := omega) only [go_sem, ↓reduceIte, Nat.reduceEqDiff, Nat.reduceAdd, Nat.reduceSub, Nat.reduceLeDiff, Nat.reduceLT, List.reduceReplicate, Nat.reduceMul, Int.reduceNeg, reduceCtorEq, *,  runs_Tidy_8, runs_Tidy_10, Run.enc]
            refine Ev.imp (add_ev hAn hb) ?_
            rintro _ h2 ⟨rfl, rfl⟩
            simp (disch := omega) only [go_sem, ↓reduceIte, Nat.reduceEqDiff, Nat.reduceAdd, Nat.reduceSub, Nat.reduceLeDiff, Nat.reduceLT, List.reduceReplicate, Nat.reduceMul, Int.reduceNeg, reduceCtorEq, *,  Run.enc]
            refine ih _ _ _ ?_ ⟨i + 1, out, A.set (A.length - 1) ⟨(nth A (A.length - 1)).part, addR (nth A (A.length - 1)).n (nth L i).n⟩, rfl, ?_⟩
            · omega
            · simp (disch := omega) only [go_sem, ↓reduceIte, Nat.reduceEqDiff, Nat.reduceAdd, Nat.reduceSub, Nat.reduceLeDiff, Nat.reduceLT, List.reduceReplicate, Nat.reduceMul, Int.reduceNeg, reduceCtorEq, *,  List.length_set]
              have x1 := hx.trans (xa ⟨2, [[.i .i64 0, .i .i64 0]]⟩ ⟨2, [[.i .i64 (nth L i).part, .i .i64 (nth L i).n]]⟩)
              refine ⟨(x1.rb rfl).put _ _ ho, by omega, by omega, ?_, runsOk_set okA (r := ⟨_, _⟩) addR_big.2, by rw [← hz, hc4]⟩
              have s5 := Sl.store (r := [.i .i64 (nth L i).part, .i .i64 (addR (nth A (A.length - 1)).n (nth L i).n)]) (j := A.length - 1) (Sl.ext so (xa ⟨2, [[.i .i64 0, .i .i64 0]]⟩ ⟨2, [[.i .i64 (nth L i).part, .i .i64 (nth L i).n]]⟩)) (by simp; omega)
              rw [csOf_same ((xa _ _).get _ (olt (by omega)))] at s5
              unfold SlT
              rw [List.map_set]
              exact s5
          · rw [if_neg (fun hh => hc4 hh.2)] at hz
            simp (disch := omega) only [go_sem, ↓reduceIte, Nat.reduceEqDiff, Nat.reduceAdd, Nat.reduceSub, Nat.reduceLeDiff, Nat.reduceLT, List.reduceReplicate, Nat.reduceMul, Int.reduceNeg, reduceCtorEq, *,  runs_Tidy_9, runs_Tidy_10, fillE]
            refine app_one (h := (h'.alloc _).put _ _) (R := A.map Run.enc) (Sl.ext so (xa _ _)) ?_ (by simp; omega) ?_
            · rcases oo with hh | hh
              · exact .inl hh
              · exact .inr (by rw [lim_put, lim_alloc]; omega)
            · intro w h4 s4 a4
              have hn4 := a4.next
              simp only [next_put, next_alloc] at hn4
              simp (disch := omega) only [go_sem, ↓reduceIte, Nat.reduceEqDiff, Nat.reduceAdd, Nat.reduceSub, Nat.reduceLeDiff, Nat.reduceLT, List.reduceReplicate, Nat.reduceMul, Int.reduceNeg, reduceCtorEq, *]
              refine ih _ _ _ ?_ ⟨i + 1, w, A ++ [nth L i], rfl, ?_⟩
              · omega
              · simp (disch := omega) only [go_sem, ↓reduceIte, Nat.reduceEqDiff, Nat.reduceAdd, Nat.reduceSub, Nat.reduceLeDiff, Nat.reduceLT, List.reduceReplicate, Nat.reduceMul, Int.reduceNeg, reduceCtorEq, *]
                have hx4 : Ext h h4 := by
                  have x1 := hx.trans (xa ⟨2, [[.i .i64 0, .i .i64 0]]⟩ ⟨2, [[.i .i64 (nth L i).part, .i .i64 (nth L i).n]]⟩)
                  refine ⟨Nat.le_trans x1.next a4.next, a4.lim.trans x1.lim, fun q hq => (a4.get q (Nat.lt_of_lt_of_le hq x1.next) (fun hne => ?_)).trans (x1.get q hq)⟩
                  rcases oo with hh | hh
                  · exact absurd hh hne
                  · omega
                refine ⟨hx4, by omega, by simp; omega, .inr (a4.own h.next (by simp only [next_put, next_alloc]; omega) oo), by simpa [SlT, Run.enc] using s4, ?_⟩
                exact runsOk_snoc okA hb
        · rw [if_neg (fun hh => hc3 (by omega))] at hz
          simp (disch := omega) only [go_sem, ↓reduceIte, Nat.reduceEqDiff, Nat.reduceAdd, Nat.reduceSub, Nat.reduceLeDiff, Nat.reduceLT, List.reduceReplicate, Nat.reduceMul, Int.reduceNeg, reduceCtorEq, *,  runs_Tidy_9, runs_Tidy_10, fillE]
          refine app_one (h := (h'.alloc _).put _ _) (R := A.map Run.enc) (Sl.ext so (xa _ _)) ?_ (by simp; omega) ?_
          · rcases oo with hh | hh
            · exact .inl hh
            · exact .inr (by rw [lim_put, lim_alloc]; omega)
          · intro w h4 s4 a4
            have hn4 := a4.next
            simp only [next_put, next_alloc] at hn4
            simp (disch := omega) only [go_sem, ↓reduceIte, Nat.reduceEqDiff, Nat.reduceAdd, Nat.reduceSub, Nat.reduceLeDiff, Nat.reduceLT, List.reduceReplicate, Nat.reduceMul, Int.reduceNeg, reduceCtorEq, *]
            refine ih _ _ _ ?_ ⟨i + 1, w, A ++ [nth L i], rfl, ?_⟩
            · omega
            · simp (disch := omega) only [go_sem, ↓reduceIte, Nat.reduceEqDiff, Nat.reduceAdd, Nat.reduceSub, Nat.reduceLeDiff, Nat.reduceLT, List.reduceReplicate, Nat.reduceMul, Int.reduceNeg, reduceCtorEq, *]
              have hx4 : Ext h h4 := by
                have x1 := hx.trans (xa ⟨2, [[.i .i64 0, .i .i64 0]]⟩ ⟨2, [[.i .i64 (nth L i).part, .i .i64 (nth L i).n]]⟩)
                refine ⟨Nat.le_trans x1.next a4.next, a4.lim.trans x1.lim, fun q hq => (a4.get q (Nat.lt_of_lt_of_le hq x1.next) (fun hne => ?_)).trans (x1.get q hq)⟩
                rcases oo with hh | hh
                · exact absurd hh hne
                · omega
              refine ⟨hx4, by omega, by simp; omega, .inr (a4.own h.next (by simp only [next_put, next_alloc]; omega) oo), by simpa [SlT, Run.enc] using s4, ?_⟩
              exact runsOk_snoc okA hb
    · rw [List.drop_eq_nil_of_le (by omega), tidyGo] at hz
      simp (disch := omega) only [go_sem, ↓reduceIte, Nat.reduceEqDiff, Nat.reduceAdd, Nat.reduceSub, Nat.reduceLeDiff, Nat.reduceLT, List.reduceReplicate, Nat.reduceMul, Int.reduceNeg, reduceCtorEq, *,  runs_Tidy_12]
      refine Ev.imp (clip_ev so) ?_
      rintro r h2 ⟨rfl, s2, r1, r2⟩
      simp (disch := omega) only [go_sem, ↓reduceIte, Nat.reduceEqDiff, Nat.reduceAdd, Nat.reduceSub, Nat.reduceLeDiff, Nat.reduceLT, List.reduceReplicate, Nat.reduceMul, Int.reduceNeg, reduceCtorEq, *]
      refine ⟨by rw [← hz]; exact s2, ?_⟩
      by_cases hr : r = .ns
      · exact .inl hr
      · rcases oo with hh | hh
        · exact absurd (r1.2 hh) hr
        · exact .inr (by rw [r2 hr]; exact hh)
  · simp (disch := omega) only [go_sem, ↓reduceIte, Nat.reduceEqDiff, Nat.reduceAdd, Nat.reduceSub, Nat.reduceLeDiff, Nat.reduceLT, List.reduceReplicate, Nat.reduceMul, Int.reduceNeg, reduceCtorEq, *]
    exact ⟨Ext.refl h, Nat.zero_le _, .inl rfl, Sl.nil _ _, fun i hi => by simp at hi⟩
end Go.Ab.T
namespace Go.Ab.T
open Go Go.Ab
set_option linter.unusedSimpArgs false
set_option linter.unusedVariables false
structure Node where
  kind : Int
  part : Int
  n : Int
  deriving DecidableEq, Inhabited
def Node.enc (x : Node) : List V := [.i .i64 x.kind, .i .i64 x.part, .i .i64 x.n]

def kids (x : Node) : Int :=
  if x.n < 1 ∨ (x.kind ≠ 1 ∧ x.part ≠ 0) then -1
  else if (x.kind = 1 ∧ 0 ≤ x.part ∧ x.part < 6) ∨ x.kind = 2 then 0
  else if x.kind = 3 ∧ x.n ≤ 128 then x.n
  else if x.kind = 4 then 1 else -1
theorem kids_bd (x : Node) : -1 ≤ kids x ∧ kids x ≤ 128 := by
  unfold kids; repeat' split
  all_goals omega
theorem kids_ev {h : AH} {x : Node} : Ev tp i_node_kids [.agg x.enc] h (fun v h' => v = .i .i64 (kids x) ∧ Ext h h') := by
  refine Ev_of fn_node_kids (by simp [t_node_kids]) ?_
  unfold t_node_kids
  simp (disch := omega) only [go_sem, ↓reduceIte, Nat.reduceEqDiff, Nat.reduceAdd, Nat.reduceSub, Nat.reduceLeDiff, Nat.reduceLT, List.reduceReplicate, Nat.reduceMul, Int.reduceNeg, reduceCtorEq, *,  node_kids_0, node_kids_1, node_kids_2, node_kids_3, node_kids_4, node_kids_5, node_kids_6, node_kids_7, node_kids_8, node_kids_9, node_kids_10, Node.enc]
  repeat' (first | (refine Wg_dec (fun hc => ?_) (fun hc => ?_) <;> simp (disch := omega) only [go_sem, ↓reduceIte, Nat.reduceEqDiff, Nat.reduceAdd, Nat.reduceSub, Nat.reduceLeDiff, Nat.reduceLT, List.reduceReplicate, Nat.reduceMul, Int.reduceNeg, reduceCtorEq, *]) | (refine Wb_dec (fun hc => ?_) (fun hc => ?_) <;> simp (disch := omega) only [go_sem, ↓reduceIte, Nat.reduceEqDiff, Nat.reduceAdd, Nat.reduceSub, Nat.reduceLeDiff, Nat.reduceLT, List.reduceReplicate, Nat.reduceMul, Int.reduceNeg, reduceCtorEq, *]))
  all_goals refine ⟨?_, (Ext.refl h).alloc _⟩
  all_goals (congr 1; unfold kids; repeat' split)
  all_goals omega

def szGo : List Node → Int → Int → Int
  | [], _, _ => 0
  | x :: r, left, n => if kids x < 0 then 0 else if left + (kids x - 1) = 0 then n + 1 else szGo r (left + (kids x - 1)) (n + 1)
def size (L : List Node) (a : Int) : Int := if a < 0 ∨ (L.length : Int) ≤ a then 0 else szGo (L.drop a.toNat) 1 0

theorem size_ev {h : AH} {v : V} {L : List Node} {a : Int} (hS : SlT Node.enc h 3 v L) : Ev tp i_node_Size [v, .i .i64 a] h (fun r h' => r = .i .i64 (size L a) ∧ Ext h h') := by
  obtain ⟨hlen, hbig, hlt, hget, hat, hrow⟩ := hS.facts
  refine Ev_of fn_node_Size (by simp [t_node_Size]) ?_
  unfold t_node_Size
  simp (disch := omega) only [go_sem, ↓reduceIte, Nat.reduceEqDiff, Nat.reduceAdd, Nat.reduceSub, Nat.reduceLeDiff, Nat.reduceLT, List.reduceReplicate, Nat.reduceMul, Int.reduceNeg, reduceCtorEq, *,  node_Size_0, node_Size_1, node_Size_2, node_Size_3, node_Size_4]
  repeat' (first | (refine Wg_dec (fun hc => ?_) (fun hc => ?_) <;> simp (disch := omega) only [go_sem, ↓reduceIte, Nat.reduceEqDiff, Nat.reduceAdd, Nat.reduceSub, Nat.reduceLeDiff, Nat.reduceLT, List.reduceReplicate, Nat.reduceMul, Int.reduceNeg, reduceCtorEq, *]) | (refine Wb_dec (fun hc => ?_) (fun hc => ?_) <;> simp (disch := omega) only [go_sem, ↓reduceIte, Nat.reduceEqDiff, Nat.reduceAdd, Nat.reduceSub, Nat.reduceLeDiff, Nat.reduceLT, List.reduceReplicate, Nat.reduceMul, Int.reduceNeg, reduceCtorEq, *]))
  · exact ⟨by simp [size]; omega, Ext.refl h⟩
  · exact ⟨by simp [size]; omega, Ext.refl h⟩
  · refine WC_loop_n (fun n e h' => ∃ (i : Nat) (left : Int), n = L.length - i ∧ e 0 = v ∧ e 1 = .i .i64 a ∧ e 5 = .i .i64 left ∧ e 6 = .i .i64 i ∧ Ext h h' ∧ a ≤ i ∧ i ≤ L.length ∧ 0 < left ∧ left ≤ 1 + 128 * i ∧ szGo (L.drop i) left (i - a) = size L a) ?_ _ _ _ ⟨a.toNat, 1, rfl, ?_⟩
    · rintro n e h' ⟨i, left, rfl, e0, e1, e5, e6, hx, hi1, hi2, hl1, hl2, hz⟩ ih
      have hg := hx.get
      have hk := kids_bd (nth L i)
      unfold node_Size_13
      simp (disch := omega) only [go_sem, ↓reduceIte, Nat.reduceEqDiff, Nat.reduceAdd, Nat.reduceSub, Nat.reduceLeDiff, Nat.reduceLT, List.reduceReplicate, Nat.reduceMul, Int.reduceNeg, reduceCtorEq, *,  node_Size_5]
      refine Wb_dec (fun hc => ?_) (fun hc => ?_)
      · rw [drop_nth (by omega), szGo] at hz
        simp (disch := omega) only [go_sem, ↓reduceIte, Nat.reduceEqDiff, Nat.reduceAdd, Nat.reduceSub, Nat.reduceLeDiff, Nat.reduceLT, List.reduceReplicate, Nat.reduceMul, Int.reduceNeg, reduceCtorEq, *,  node_Size_6, node_Size_7, node_Size_8, node_Size_9, node_Size_10, node_Size_11, node_Size_12, Node.enc]
        refine Ev.imp kids_ev ?_
        rintro _ h2 ⟨rfl, hx2⟩
        simp (disch := omega) only [go_sem, ↓reduceIte, Nat.reduceEqDiff, Nat.reduceAdd, Nat.reduceSub, Nat.reduceLeDiff, Nat.reduceLT, List.reduceReplicate, Nat.reduceMul, Int.reduceNeg, reduceCtorEq, *]
        refine Wb_dec (fun hc2 => ?_) (fun hc2 => ?_)
        · simp (disch := omega) only [go_sem, ↓reduceIte, Nat.reduceEqDiff, Nat.reduceAdd, Nat.reduceSub, Nat.reduceLeDiff, Nat.reduceLT, List.reduceReplicate, Nat.reduceMul, Int.reduceNeg, reduceCtorEq, *]
          rw [if_pos hc2] at hz
          exact ⟨by rw [hz], hx.trans hx2⟩
        · rw [if_neg hc2] at hz
          simp (disch := omega) only [go_sem, ↓reduceIte, Nat.reduceEqDiff, Nat.reduceAdd, Nat.reduceSub, Nat.reduceLeDiff, Nat.reduceLT, List.reduceReplicate, Nat.reduceMul, Int.reduceNeg, reduceCtorEq, *]
          refine Wb_dec (fun hc3 => ?_) (fun hc3 => ?_)
          · simp (disch := omega) only [go_sem, ↓reduceIte, Nat.reduceEqDiff, Nat.reduceAdd, Nat.reduceSub, Nat.reduceLeDiff, Nat.reduceLT, List.reduceReplicate, Nat.reduceMul, Int.reduceNeg, reduceCtorEq, *]
            rw [if_pos hc3] at hz
            exact ⟨by congr 1; omega, hx.trans hx2⟩
          · rw [if_neg hc3] at hz
            simp (disch := omega) only [go_sem, ↓reduceIte, Nat.reduceEqDiff, Nat.reduceAdd, Nat.reduceSub, Nat.reduceLeDiff, Nat.reduceLT, List.reduceReplicate, Nat.reduceMul, Int.reduceNeg, reduceCtorEq, *]
            refine ih _ _ _ ?_ ⟨i + 1, left + (kids (nth L i) - 1), rfl, ?_⟩
            · omega
            · simp (disch := omega) only [go_sem, ↓reduceIte, Nat.reduceEqDiff, Nat.reduceAdd, Nat.reduceSub, Nat.reduceLeDiff, Nat.reduceLT, List.reduceReplicate, Nat.reduceMul, Int.reduceNeg, reduceCtorEq, *]
              refine ⟨hx.trans hx2, by omega, by omega, by omega, by omega, ?_⟩
              rw [← hz]; congr 1; omega
      · rw [List.drop_eq_nil_of_le (by omega), szGo] at hz
        simp (disch := omega) only [go_sem, ↓reduceIte, Nat.reduceEqDiff, Nat.reduceAdd, Nat.reduceSub, Nat.reduceLeDiff, Nat.reduceLT, List.reduceReplicate, Nat.reduceMul, Int.reduceNeg, reduceCtorEq, *,  node_Size_14]
    · simp (disch := omega) only [go_sem, ↓reduceIte, Nat.reduceEqDiff, Nat.reduceAdd, Nat.reduceSub, Nat.reduceLeDiff, Nat.reduceLT, List.reduceReplicate, Nat.reduceMul, Int.reduceNeg, reduceCtorEq, *]
      refine ⟨by rw [show ((a.toNat : Nat) : Int) = a by omega], Ext.refl h, by omega, by omega, by omega, by omega, ?_⟩
      simp only [size]
      rw [if_neg (by omega)]
      congr 1; omega

def wholeB (L : List Node) : Bool := decide (0 < L.length ∧ size L 0 = L.length)
theorem whole_ev {h : AH} {v : V} {L : List Node} (hS : SlT Node.enc h 3 v L) : Ev tp i_node_whole [v] h (fun r h' => r = .b (wholeB L) ∧ Ext h h') := by
  obtain ⟨hlen, hbig, hlt, hget, hat, hrow⟩ := hS.facts
  refine Ev_of fn_node_whole (by simp [t_node_whole]) ?_
  unfold t_node_whole
  simp (disch := omega) only [go_sem, ↓reduceIte, Nat.reduceEqDiff, Nat.reduceAdd, Nat.reduceSub, Nat.reduceLeDiff, Nat.reduceLT, List.reduceReplicate, Nat.reduceMul, Int.reduceNeg, reduceCtorEq, *,  node_whole_0, node_whole_1]
  refine Wg_dec (fun hc => ?_) (fun hc => ?_)
  · simp (disch := omega) only [go_sem, ↓reduceIte, Nat.reduceEqDiff, Nat.reduceAdd, Nat.reduceSub, Nat.reduceLeDiff, Nat.reduceLT, List.reduceReplicate, Nat.reduceMul, Int.reduceNeg, reduceCtorEq, *]
    refine Ev.imp (size_ev hS) ?_
    rintro _ h2 ⟨rfl, hx2⟩
    simp (disch := omega) only [go_sem, ↓reduceIte, Nat.reduceEqDiff, Nat.reduceAdd, Nat.reduceSub, Nat.reduceLeDiff, Nat.reduceLT, List.reduceReplicate, Nat.reduceMul, Int.reduceNeg, reduceCtorEq, *]
    simp only [wholeB]
    congr 1
    simp; omega
  · simp (disch := omega) only [go_sem, ↓reduceIte, Nat.reduceEqDiff, Nat.reduceAdd, Nat.reduceSub, Nat.reduceLeDiff, Nat.reduceLT, List.reduceReplicate, Nat.reduceMul, Int.reduceNeg, reduceCtorEq, *]
    refine ⟨?_, Ext.refl h⟩
    simp only [wholeB]
    congr 1
    simp; omega
def nadd (a b : Int) : Int := min 4097 (a + min 4097 b)
def ntimes (n t : Int) : Int := min 4097 (min 4097 n * t)
theorem nadd_ev {h : AH} {a b : Int} (ha : 0 ≤ a ∧ a ≤ 4097) (hb : 0 ≤ b) : Ev tp i_node_add [.i .i64 a, .i .i64 b] h (fun r h' => r = .i .i64 (nadd a b) ∧ h' = h) := by
  refine Ev_of fn_node_add (by simp [t_node_add]) ?_
  unfold t_node_add
  simp (disch := omega) only [go_sem, ↓reduceIte, Nat.reduceEqDiff, Nat.reduceAdd, Nat.reduceSub, Nat.reduceLeDiff, Nat.reduceLT, List.reduceReplicate, Nat.reduceMul, Int.reduceNeg, reduceCtorEq, *,  node_add_0, node_add_1]
  rfl
theorem ntimes_ev {h : AH} {n t : Int} (hn : 0 ≤ n) (ht : 0 ≤ t ∧ t ≤ 4097) : Ev tp i_node_times [.i .i64 n, .i .i64 t] h (fun r h' => r = .i .i64 (ntimes n t) ∧ h' = h) := by
  have h1 : 0 ≤ min 4097 n * t := Int.mul_nonneg (by omega) ht.1
  have h2 : min 4097 n * t ≤ 4097 * 4097 := Int.mul_le_mul (by omega) ht.2 ht.1 (by omega)
  refine Ev_of fn_node_times (by simp [t_node_times]) ?_
  unfold t_node_times
  simp (disch := omega) only [go_sem, ↓reduceIte, Nat.reduceEqDiff, Nat.reduceAdd, Nat.reduceSub, Nat.reduceLeDiff, Nat.reduceLT, List.reduceReplicate, Nat.reduceMul, Int.reduceNeg, reduceCtorEq, *,  node_times_0, node_times_1]
  rfl
end Go.Ab.T
namespace Go.Ab.T
open Go Go.Ab
set_option linter.unusedSimpArgs false
set_option linter.unusedVariables false
def swGo : List Run → Int → Int
  | [], n => n
  | r :: l, n => swGo l (if r.part = -1 then n else n + 1)
def switchesR (L : List Run) : Int := swGo (tidyGo L []) 0
theorem tidyGo_le : ∀ (L A : List Run), (tidyGo L A).length ≤ L.length + A.length
  | [], A => by simp [tidyGo]
  | r :: l, A => by
    rw [tidyGo]
    split
    · have := tidyGo_le l A; simp; omega
    · split
      · refine Nat.le_trans (tidyGo_le l _) ?_; simp only [List.length_set, List.length_cons]; omega
      · refine Nat.le_trans (tidyGo_le l _) ?_; simp only [List.length_append, List.length_cons, List.length_nil]; omega
theorem switches_ev {h : AH} {v : V} {L : List Run} (hw : h.lim ≤ h.next) (hS : SlT Run.enc h 2 v L) (hok : RunsOk L) (hLb : L.length < 4000000000) : Ev tp i_runs_Switches [v] h (fun r h' => r = .i .i64 (switchesR L) ∧ Ext h h') := by
  refine Ev_of fn_runs_Switches (by simp [t_runs_Switches]) ?_
  unfold t_runs_Switches
  simp (disch := omega) only [go_sem, ↓reduceIte, Nat.reduceEqDiff, Nat.reduceAdd, Nat.reduceSub, Nat.reduceLeDiff, Nat.reduceLT, List.reduceReplicate, Nat.reduceMul, Int.reduceNeg, reduceCtorEq, *,  runs_Switches_0, runs_Switches_1, runs_Switches_2]
  refine Ev.imp (tidy_ev hw hS hok hLb) ?_
  rintro r h2 ⟨hT, hO, hx2⟩
  have hle := tidyGo_le L []
  simp only [List.length_nil, Nat.add_zero] at hle
  obtain ⟨hlen, hbig, hlt, hget, hat, hrow⟩ := hT.facts
  have hn2 := hx2.next
  have hl2 := hx2.lim
  simp (disch := omega) only [go_sem, ↓reduceIte, Nat.reduceEqDiff, Nat.reduceAdd, Nat.reduceSub, Nat.reduceLeDiff, Nat.reduceLT, List.reduceReplicate, Nat.reduceMul, Int.reduceNeg, reduceCtorEq, *]
  refine WC_loop_n (fun n e h' => ∃ (i : Nat) (a : Int), n = (tidyGo L []).length - i ∧ e 3 = .i .i64 a ∧ e 7 = r ∧ e 8 = .i .i64 (tidyGo L []).length ∧ e 9 = .i .i64 i ∧ Ext h2 h' ∧ i ≤ (tidyGo L []).length ∧ 0 ≤ a ∧ a ≤ i ∧ swGo ((tidyGo L []).drop i) a = switchesR L) ?_ _ _ _ ⟨0, 0, rfl, ?_⟩
  · rintro n e h' ⟨i, a, rfl, e3, e7, e8, e9, hx, hi, ha0, ha, hz⟩ ih
    have hg := hx.get
    have hn := hx.next
    have hl := hx.lim
    unfold runs_Switches_8
    simp (disch := omega) only [go_sem, ↓reduceIte, Nat.reduceEqDiff, Nat.reduceAdd, Nat.reduceSub, Nat.reduceLeDiff, Nat.reduceLT, List.reduceReplicate, Nat.reduceMul, Int.reduceNeg, reduceCtorEq, *,  runs_Switches_3]
    refine Wb_dec (fun hc => ?_) (fun hc => ?_)
    · rw [drop_nth (by omega), swGo] at hz
      simp (disch := omega) only [go_sem, ↓reduceIte, Nat.reduceEqDiff, Nat.reduceAdd, Nat.reduceSub, Nat.reduceLeDiff, Nat.reduceLT, List.reduceReplicate, Nat.reduceMul, Int.reduceNeg, reduceCtorEq, *,  runs_Switches_4, runs_Switches_5, Run.enc]
      refine Wb_dec (fun hc2 => ?_) (fun hc2 => ?_)
      · rw [if_neg hc2] at hz
        simp (disch := omega) only [go_sem, ↓reduceIte, Nat.reduceEqDiff, Nat.reduceAdd, Nat.reduceSub, Nat.reduceLeDiff, Nat.reduceLT, List.reduceReplicate, Nat.reduceMul, Int.reduceNeg, reduceCtorEq, *,  runs_Switches_6, runs_Switches_7]
        refine ih _ _ _ ?_ ⟨i + 1, a + 1, rfl, ?_⟩
        · omega
        · simp (disch := omega) only [go_sem, ↓reduceIte, Nat.reduceEqDiff, Nat.reduceAdd, Nat.reduceSub, Nat.reduceLeDiff, Nat.reduceLT, List.reduceReplicate, Nat.reduceMul, Int.reduceNeg, reduceCtorEq, *]
          exact ⟨(hx.alloc _).put _ _ hn, by omega, by omega, by omega⟩
      · rw [if_pos (Decidable.not_not.1 hc2)] at hz
        simp (disch := omega) only [go_sem, ↓reduceIte, Nat.reduceEqDiff, Nat.reduceAdd, Nat.reduceSub, Nat.reduceLeDiff, Nat.reduceLT, List.reduceReplicate, Nat.reduceMul, Int.reduceNeg, reduceCtorEq, *,  runs_Switches_7]
        refine ih _ _ _ ?_ ⟨i + 1, a, rfl, ?_⟩
        · omega
        · simp (disch := omega) only [go_sem, ↓reduceIte, Nat.reduceEqDiff, Nat.reduceAdd, Nat.reduceSub, Nat.reduceLeDiff, Nat.reduceLT, List.reduceReplicate, Nat.reduceMul, Int.reduceNeg, reduceCtorEq, *]
          exact ⟨(hx.alloc _).put _ _ hn, by omega, by omega⟩
    · rw [List.drop_eq_nil_of_le (by omega), swGo] at hz
      simp (disch := omega) only [go_sem, ↓reduceIte, Nat.reduceEqDiff, Nat.reduceAdd, Nat.reduceSub, Nat.reduceLeDiff, Nat.reduceLT, List.reduceReplicate, Nat.reduceMul, Int.reduceNeg, reduceCtorEq, *,  runs_Switches_9]
      exact hx2.trans hx
  · simp (disch := omega) only [go_sem, ↓reduceIte, Nat.reduceEqDiff, Nat.reduceAdd, Nat.reduceSub, Nat.reduceLeDiff, Nat.reduceLT, List.reduceReplicate, Nat.reduceMul, Int.reduceNeg, reduceCtorEq, *]
    exact ⟨Ext.refl _, Nat.zero_le _, by omega, by omega, rfl⟩
end Go.Ab.T
namespace Go.Ab.T
open Go Go.Ab
set_option linter.unusedSimpArgs false
set_option linter.unusedVariables false
theorem clone_ev {h : AH} {v : V} {L : List Node} (hw : h.lim ≤ h.next) (hS : SlT Node.enc h 3 v L) : Ev tp i_slices_Clone_api_Node_api_Node [v] h (fun r h' => SlT Node.enc h' 3 r L ∧ Own h r ∧ Ext h h') := by
  have hni := Sl.isnil hS
  have hbig := hS.facts.big
  refine Ev_of fn_slices_Clone_api_Node_api_Node (by simp [t_slices_Clone_api_Node_api_Node]) ?_
  unfold t_slices_Clone_api_Node_api_Node
  simp (disch := omega) only [go_sem, ↓reduceIte, Nat.reduceEqDiff, Nat.reduceAdd, Nat.reduceSub, Nat.reduceLeDiff, Nat.reduceLT, List.reduceReplicate, Nat.reduceMul, Int.reduceNeg, reduceCtorEq, *,  slices_Clone_api_Node_api_Node_0, slices_Clone_api_Node_api_Node_1, slices_Clone_api_Node_api_Node_2]
  refine Wb_of (fun hc => ?_) (fun hc => ?_)
  · obtain ⟨rfl, hL⟩ := Sl.ofnil hS hc
    have hL' : L = [] := by simpa using hL
    subst hL'
    simp (disch := omega) only [go_sem, ↓reduceIte, Nat.reduceEqDiff, Nat.reduceAdd, Nat.reduceSub, Nat.reduceLeDiff, Nat.reduceLT, List.reduceReplicate, Nat.reduceMul, Int.reduceNeg, reduceCtorEq, *]
    exact ⟨.inl rfl, Ext.refl h⟩
  · simp (disch := omega) only [go_sem, ↓reduceIte, Nat.reduceEqDiff, Nat.reduceAdd, Nat.reduceSub, Nat.reduceLeDiff, Nat.reduceLT, List.reduceReplicate, Nat.reduceMul, Int.reduceNeg, reduceCtorEq, *,  slices_Clone_api_Node_api_Node_3, fillE]
    have hx : Ext h (h.alloc ⟨3, []⟩) := (Ext.refl h).alloc _
    refine app_rule (R := []) (N := L.map Node.enc) (.inr ⟨h.next, 0, 0, ⟨3, []⟩, rfl, by simp [get_alloc, gsel], rfl, by simp, by simp, by simp, by simp [next_alloc], by simp [bigLen]⟩) (fun hh => by simp at hh) (.inr (by simp [lim_alloc, idV]; omega)) (Sl.elems (Sl.ext hS hx)) (by simp; omega) ?_
    intro w h4 s4 g4
    simp (disch := omega) only [go_sem, ↓reduceIte, Nat.reduceEqDiff, Nat.reduceAdd, Nat.reduceSub, Nat.reduceLeDiff, Nat.reduceLT, List.reduceReplicate, Nat.reduceMul, Int.reduceNeg, reduceCtorEq, *]
    refine ⟨by simpa [SlT] using s4, ?_, ⟨Nat.le_trans hx.next g4.next, g4.lim.trans hx.lim, fun i hi => (g4.get i (by rw [next_alloc]; omega) (fun _ => by simp only [idV]; omega)).trans (hx.get i hi)⟩⟩
    rcases g4.own with hh | ⟨hh, _⟩ | hh
    · exact .inl hh
    · exact .inr (by rw [hh]; simp [idV])
    · exact .inr (by rw [hh, next_alloc]; omega)
end Go.Ab.T
namespace Go.Ab.T
open Go Go.Ab
set_option linter.unusedSimpArgs false
set_option linter.unusedVariables false
structure Frame where
  node : Node
  left : Int
  depth : Int
  ticks : Int
  deriving DecidableEq, Inhabited
def Frame.enc (f : Frame) : List V := [.i .i64 f.node.kind, .i .i64 f.node.part, .i .i64 f.node.n, .i .i64 f.left, .i .i64 f.depth, .i .i64 f.ticks]
/-- The top's ticks as they count above it. -/
def Frame.out (f : Frame) : Int := if f.node.kind = 4 then ntimes f.node.n f.ticks else f.ticks
def Frame.take (up top : Frame) : Frame := ⟨up.node, up.left - 1, max up.depth (top.depth + 1), nadd up.ticks top.out⟩
/-- The stack, its top first: what is whole goes up. -/
def popL : List Frame → List Frame
  | [] => []
  | [t] => [t]
  | top :: up :: r => if top.left = 0 then popL (up.take top :: r) else top :: up :: r
termination_by l => l.length
def pushF (n : Node) : Frame := ⟨n, kids n, 0, if kids n = 0 then min 4097 n.n else 0⟩
def measGo : List Node → List Frame → List Frame
  | [], s => s
  | n :: l, s => measGo l (popL (pushF n :: s))
def measured (L : List Node) : Frame := nth (measGo L [⟨⟨0, 0, 0⟩, 1, 0, 0⟩]).reverse 0
/-- What holds of each frame, p gone up. -/
structure FrameOk (p : Int) (f : Frame) : Prop where
  n0 : f.node.kind ≠ 4 ∨ 0 < f.node.n ∨ f.left < 0
  left : -1 - p ≤ f.left ∧ f.left ≤ 128
  depth : 0 ≤ f.depth ∧ f.depth ≤ p
  ticks : 0 ≤ f.ticks ∧ f.ticks ≤ 4097
theorem FrameOk.more {p : Int} {f : Frame} (h : FrameOk p f) : FrameOk (p + 1) f := ⟨h.n0, by have := h.left; omega, by have := h.depth; omega, h.ticks⟩
theorem nadd_bd {a b : Int} (ha : 0 ≤ a) (hb : 0 ≤ b) : 0 ≤ nadd a b ∧ nadd a b ≤ 4097 := by unfold nadd; omega
theorem ntimes_bd {a b : Int} (ha : 0 ≤ a) (hb : 0 ≤ b) : 0 ≤ ntimes a b ∧ ntimes a b ≤ 4097 := by
  unfold ntimes
  have h1 : 0 ≤ min 4097 a * b := Int.mul_nonneg (by omega) hb
  omega
theorem Frame.out_bd {p : Int} {f : Frame} (h : FrameOk p f) (hl : f.left = 0) : 0 ≤ f.out ∧ f.out ≤ 4097 := by
  unfold Frame.out
  have := h.n0; have := h.ticks
  split
  · exact ntimes_bd (by omega) (by omega)
  · omega
theorem FrameOk.took {p : Int} {u t : Frame} (hu : FrameOk p u) (ht : FrameOk p t) (hl : t.left = 0) : FrameOk (p + 1) (u.take t) := by
  have a := hu.n0; have b := hu.left; have c := hu.depth; have d := hu.ticks
  have e := ht.depth; have o := Frame.out_bd ht hl
  refine ⟨?_, ?_, ?_, ?_⟩
  · simp only [Frame.take]; omega
  · simp only [Frame.take]; omega
  · simp only [Frame.take]; omega
  · simp only [Frame.take]; exact nadd_bd d.1 o.1
theorem pushF_ok {p : Int} {n : Node} (hp : 0 ≤ p) : FrameOk p (pushF n) := by
  have hk := kids_bd n
  refine ⟨?_, by simp only [pushF]; omega, by simp only [pushF]; omega, ?_⟩
  · simp only [pushF]
    by_cases h : kids n < 0
    · omega
    · right; left
      unfold kids at h
      (repeat' split at h) <;> omega
  · simp only [pushF]
    split
    · rename_i h
      have : 1 ≤ n.n := by unfold kids at h; (repeat' split at h) <;> omega
      omega
    · omega
def FramesOk (p : Int) (S : List Frame) : Prop := ∀ f ∈ S, FrameOk p f
theorem FramesOk.more {p : Int} {S : List Frame} (h : FramesOk p S) : FramesOk (p + 1) S := fun f hf => (h f hf).more
theorem nth_cons0 {α : Type} [Inhabited α] {a : α} {l : List α} : nth (a :: l) 0 = a := by simp [nth]
theorem nth_cons1 {α : Type} [Inhabited α] {a b : α} {l : List α} : nth (a :: b :: l) 1 = b := by simp [nth]
theorem rev_nth {α : Type} [Inhabited α] {S : List α} {i : Nat} (h : i < S.length) : nth S.reverse (S.length - 1 - i) = nth S i := by
  rw [nth_eq (by simp; omega), nth_eq h, List.getElem_reverse]; congr 1; omega
end Go.Ab.T
namespace Go.Ab.T
open Go Go.Ab
set_option linter.unusedSimpArgs false
set_option linter.unusedVariables false
attribute [go_sem] Frame.enc
set_option maxHeartbeats 4000000
theorem rev_top {top up : Frame} {r : List Frame} : nth (top :: up :: r).reverse (r.length + 1) = top := by simp [nth, List.getD]
theorem rev_up {top up : Frame} {r : List Frame} : nth (top :: up :: r).reverse r.length = up := by simp [nth, List.getD]
theorem rev_take {top up : Frame} {r : List Frame} : (top :: up :: r).reverse.take (r.length + 1) = (up :: r).reverse := by
  rw [List.reverse_cons, List.take_append_of_le_length (by simp)]
  exact List.take_of_length_le (by simp)
theorem rev_set {up u : Frame} {r : List Frame} : (up :: r).reverse.set r.length u = (u :: r).reverse := by
  rw [List.reverse_cons, List.reverse_cons, List.set_append_right _ _ (by simp)]
  simp
structure MeasJ (h : AH) (v : V) (len i : Nat) (F : List Frame) (p : Nat) (S : List Frame) (st : V) (e : Env) (h' : AH) : Prop where
  e4 : e 4 = st
  e12 : e 12 = v
  e13 : e 13 = .i .i64 len
  e14 : e 14 = .i .i64 i
  hx : Ext h h'
  own : h.next ≤ idV st
  sl : SlT Frame.enc h' 6 st S.reverse
  ok : FramesOk p S
  cnt : p + S.length = i + 2
  pos : 1 ≤ S.length
  fin : popL S = F
theorem meas_inner {h : AH} {v : V} {len i : Nat} {F : List Frame} {Q : Ex → Env → AH → Prop} (hw : h.lim ≤ h.next) (hi : i < 4000000000)
    (hQ : ∀ p st e h', MeasJ h v len i F p F st e h' → Q (.ex 2) e h') : ∀ n e h', (∃ p S st, n = S.length ∧ MeasJ h v len i F p S st e h') → WC tp (.loop node_measure_17) e h' Q := by
  refine WC_loop_n _ ?_
  rintro n e h' ⟨p, S, st, rfl, ⟨e4, e12, e13, e14, hx, own, sl, ok, cnt, pos, fin⟩⟩ ih
  obtain ⟨slen, sbig, slt, sget, sat, srow⟩ := sl.facts
  have srl := fun j (hj : j < S.reverse.length) => sl.rowlt hj
  simp only [List.length_reverse] at slen sbig slt sget sat srow srl
  have hn := hx.next
  have hl := hx.lim
  rw [node_measure_17_go]
  simp (disch := omega) only [go_sem, ↓reduceIte, Nat.reduceEqDiff, Nat.reduceAdd, Nat.reduceSub, Nat.reduceLeDiff, Nat.reduceLT, List.reduceReplicate, Nat.reduceMul, Int.reduceNeg, reduceCtorEq, *,  node_measure_9]
  refine Wg_dec (fun hc => ?_) (fun hc => ?_)
  · obtain ⟨top, up, r, rfl⟩ : ∃ top up r, S = top :: up :: r := by
      match S, hc with
      | [], hc => simp at hc
      | [_], hc => simp at hc
      | a :: b :: r, _ => exact ⟨a, b, r, rfl⟩
    have hr0 := rev_top (top := top) (up := up) (r := r)
    have hr1 := rev_up (top := top) (up := up) (r := r)
    simp only [List.length_cons, Int.natCast_add, Int.natCast_one] at slen sbig slt sget sat srow srl cnt hc
    have k1 : ((r.length : Int) + 1).toNat = r.length + 1 := by omega
    have k2 : ((r.length : Int) + 1 + 1 - 2).toNat = r.length := by omega
    have srl0 := srl r.length (by omega)
    have spre := sl.pre
    simp only [List.length_reverse, List.length_cons, Int.natCast_add, Int.natCast_one] at spre
    have okt := ok top (by simp)
    have oku := ok up (by simp)
    have bt := okt.left; have bd := okt.depth; have bk := okt.ticks
    have ut := oku.left; have ud := oku.depth; have uk := oku.ticks
    simp (disch := omega) only [go_sem, ↓reduceIte, Nat.reduceEqDiff, Nat.reduceAdd, Nat.reduceSub, Nat.reduceLeDiff, Nat.reduceLT, List.reduceReplicate, Nat.reduceMul, Int.reduceNeg, reduceCtorEq, *]
    refine Wb_dec (fun hc2 => ?_) (fun hc2 => ?_)
    · simp (disch := omega) only [go_sem, ↓reduceIte, Nat.reduceEqDiff, Nat.reduceAdd, Nat.reduceSub, Nat.reduceLeDiff, Nat.reduceLT, List.reduceReplicate, Nat.reduceMul, Int.reduceNeg, reduceCtorEq, *,  node_measure_10, node_measure_11, slc_2, node_measure_12]
      refine Wb_dec (fun hc3 => ?_) (fun hc3 => ?_)
      · have := okt.n0
        simp (disch := omega) only [go_sem, ↓reduceIte, Nat.reduceEqDiff, Nat.reduceAdd, Nat.reduceSub, Nat.reduceLeDiff, Nat.reduceLT, List.reduceReplicate, Nat.reduceMul, Int.reduceNeg, reduceCtorEq, *,  node_measure_13]
        refine Ev.imp (ntimes_ev (by omega) (by omega)) ?_
        rintro _ h2 ⟨rfl, rfl⟩
        simp (disch := omega) only [go_sem, ↓reduceIte, Nat.reduceEqDiff, Nat.reduceAdd, Nat.reduceSub, Nat.reduceLeDiff, Nat.reduceLT, List.reduceReplicate, Nat.reduceMul, Int.reduceNeg, reduceCtorEq, *,  node_measure_14, node_measure_15, get_set_self, List.set_set, List.length_set]
        simp (disch := omega) only [go_sem, ↓reduceIte, Nat.reduceEqDiff, Nat.reduceAdd, Nat.reduceSub, Nat.reduceLeDiff, Nat.reduceLT, List.reduceReplicate, Nat.reduceMul, Int.reduceNeg, reduceCtorEq, *,  node_measure_16, get_set_self, List.set_set, List.length_set]
        refine Ev.imp (nadd_ev (by omega) (ntimes_bd (by omega) (by omega)).1) ?_
        rintro _ h3 ⟨rfl, rfl⟩
        simp (disch := omega) only [go_sem, ↓reduceIte, Nat.reduceEqDiff, Nat.reduceAdd, Nat.reduceSub, Nat.reduceLeDiff, Nat.reduceLT, List.reduceReplicate, Nat.reduceMul, Int.reduceNeg, reduceCtorEq, *,  get_set_self, List.set_set, List.length_set]
        refine ih _ _ _ ?_ ⟨p + 1, up.take top :: r, trunc st (r.length + 1), rfl, ?_, ?_, ?_, ?_, ?_, ?_, ?_, ?_, ?_, ?_, ?_⟩
        · simp
        · simp (disch := omega) only [go_sem, ↓reduceIte, Nat.reduceEqDiff, Nat.reduceAdd, Nat.reduceSub, Nat.reduceLeDiff, Nat.reduceLT, List.reduceReplicate, Nat.reduceMul, Int.reduceNeg, reduceCtorEq, *]
        · simp (disch := omega) only [go_sem, ↓reduceIte, Nat.reduceEqDiff, Nat.reduceAdd, Nat.reduceSub, Nat.reduceLeDiff, Nat.reduceLT, List.reduceReplicate, Nat.reduceMul, Int.reduceNeg, reduceCtorEq, *]
        · simp (disch := omega) only [go_sem, ↓reduceIte, Nat.reduceEqDiff, Nat.reduceAdd, Nat.reduceSub, Nat.reduceLeDiff, Nat.reduceLT, List.reduceReplicate, Nat.reduceMul, Int.reduceNeg, reduceCtorEq, *]
        · simp (disch := omega) only [go_sem, ↓reduceIte, Nat.reduceEqDiff, Nat.reduceAdd, Nat.reduceSub, Nat.reduceLeDiff, Nat.reduceLT, List.reduceReplicate, Nat.reduceMul, Int.reduceNeg, reduceCtorEq, *]
        · repeat' (first | exact hx | refine Ext.rb ?_ ?_ | refine Ext.put ?_ _ _ ?_ | refine Ext.alloc ?_ _)
          all_goals (first | omega | (simp (disch := omega) only [go_sem, ↓reduceIte, Nat.reduceEqDiff, Nat.reduceAdd, Nat.reduceSub, Nat.reduceLeDiff, Nat.reduceLT, List.reduceReplicate, Nat.reduceMul, Int.reduceNeg, reduceCtorEq, *]; done) | rfl)
        · simp (disch := omega) only [go_sem, ↓reduceIte, Nat.reduceEqDiff, Nat.reduceAdd, Nat.reduceSub, Nat.reduceLeDiff, Nat.reduceLT, List.reduceReplicate, Nat.reduceMul, Int.reduceNeg, reduceCtorEq, *]
        · have st1 := sl.truncd (n := r.length + 1) (by simp)
          rw [rev_take] at st1
          rw [← rev_set (up := up)]
          refine st1.of_get (by simp) ?_ ?_
          · simp (disch := omega) only [go_sem, ↓reduceIte, Nat.reduceEqDiff, Nat.reduceAdd, Nat.reduceSub, Nat.reduceLeDiff, Nat.reduceLT, List.reduceReplicate, Nat.reduceMul, Int.reduceNeg, reduceCtorEq, *]
            omega
          · simp (disch := omega) only [go_sem, ↓reduceIte, Nat.reduceEqDiff, Nat.reduceAdd, Nat.reduceSub, Nat.reduceLeDiff, Nat.reduceLT, List.reduceReplicate, Nat.reduceMul, Int.reduceNeg, reduceCtorEq, *,  get_set_self, List.set_set, List.length_set]
            simp only [Frame.take, Frame.out, if_pos hc3]
        · intro f hf
          rcases List.mem_cons.1 hf with rfl | hf
          · exact FrameOk.took oku okt hc2
          · exact (ok f (by simp [hf])).more
        · simp only [List.length_cons] at cnt ⊢; omega
        · simp
        · rw [← fin]; conv => rhs; rw [popL, if_pos hc2]
      · simp (disch := omega) only [go_sem, ↓reduceIte, Nat.reduceEqDiff, Nat.reduceAdd, Nat.reduceSub, Nat.reduceLeDiff, Nat.reduceLT, List.reduceReplicate, Nat.reduceMul, Int.reduceNeg, reduceCtorEq, *]
        simp (disch := omega) only [go_sem, ↓reduceIte, Nat.reduceEqDiff, Nat.reduceAdd, Nat.reduceSub, Nat.reduceLeDiff, Nat.reduceLT, List.reduceReplicate, Nat.reduceMul, Int.reduceNeg, reduceCtorEq, *,  node_measure_14, node_measure_15, get_set_self, List.set_set, List.length_set]
        simp (disch := omega) only [go_sem, ↓reduceIte, Nat.reduceEqDiff, Nat.reduceAdd, Nat.reduceSub, Nat.reduceLeDiff, Nat.reduceLT, List.reduceReplicate, Nat.reduceMul, Int.reduceNeg, reduceCtorEq, *,  node_measure_16, get_set_self, List.set_set, List.length_set]
        refine Ev.imp (nadd_ev (by omega) (by omega)) ?_
        rintro _ h3 ⟨rfl, rfl⟩
        simp (disch := omega) only [go_sem, ↓reduceIte, Nat.reduceEqDiff, Nat.reduceAdd, Nat.reduceSub, Nat.reduceLeDiff, Nat.reduceLT, List.reduceReplicate, Nat.reduceMul, Int.reduceNeg, reduceCtorEq, *,  get_set_self, List.set_set, List.length_set]
        refine ih _ _ _ ?_ ⟨p + 1, up.take top :: r, trunc st (r.length + 1), rfl, ?_, ?_, ?_, ?_, ?_, ?_, ?_, ?_, ?_, ?_, ?_⟩
        · simp
        · simp (disch := omega) only [go_sem, ↓reduceIte, Nat.reduceEqDiff, Nat.reduceAdd, Nat.reduceSub, Nat.reduceLeDiff, Nat.reduceLT, List.reduceReplicate, Nat.reduceMul, Int.reduceNeg, reduceCtorEq, *]
        · simp (disch := omega) only [go_sem, ↓reduceIte, Nat.reduceEqDiff, Nat.reduceAdd, Nat.reduceSub, Nat.reduceLeDiff, Nat.reduceLT, List.reduceReplicate, Nat.reduceMul, Int.reduceNeg, reduceCtorEq, *]
        · simp (disch := omega) only [go_sem, ↓reduceIte, Nat.reduceEqDiff, Nat.reduceAdd, Nat.reduceSub, Nat.reduceLeDiff, Nat.reduceLT, List.reduceReplicate, Nat.reduceMul, Int.reduceNeg, reduceCtorEq, *]
        · simp (disch := omega) only [go_sem, ↓reduceIte, Nat.reduceEqDiff, Nat.reduceAdd, Nat.reduceSub, Nat.reduceLeDiff, Nat.reduceLT, List.reduceReplicate, Nat.reduceMul, Int.reduceNeg, reduceCtorEq, *]
        · repeat' (first | exact hx | refine Ext.rb ?_ ?_ | refine Ext.put ?_ _ _ ?_ | refine Ext.alloc ?_ _)
          all_goals (first | omega | (simp (disch := omega) only [go_sem, ↓reduceIte, Nat.reduceEqDiff, Nat.reduceAdd, Nat.reduceSub, Nat.reduceLeDiff, Nat.reduceLT, List.reduceReplicate, Nat.reduceMul, Int.reduceNeg, reduceCtorEq, *]; done) | rfl)
        · simp (disch := omega) only [go_sem, ↓reduceIte, Nat.reduceEqDiff, Nat.reduceAdd, Nat.reduceSub, Nat.reduceLeDiff, Nat.reduceLT, List.reduceReplicate, Nat.reduceMul, Int.reduceNeg, reduceCtorEq, *]
        · have st1 := sl.truncd (n := r.length + 1) (by simp)
          rw [rev_take] at st1
          rw [← rev_set (up := up)]
          refine st1.of_get (by simp) ?_ ?_
          · simp (disch := omega) only [go_sem, ↓reduceIte, Nat.reduceEqDiff, Nat.reduceAdd, Nat.reduceSub, Nat.reduceLeDiff, Nat.reduceLT, List.reduceReplicate, Nat.reduceMul, Int.reduceNeg, reduceCtorEq, *]
            omega
          · simp (disch := omega) only [go_sem, ↓reduceIte, Nat.reduceEqDiff, Nat.reduceAdd, Nat.reduceSub, Nat.reduceLeDiff, Nat.reduceLT, List.reduceReplicate, Nat.reduceMul, Int.reduceNeg, reduceCtorEq, *,  get_set_self, List.set_set, List.length_set]
            simp only [Frame.take, Frame.out, if_neg hc3]
        · intro f hf
          rcases List.mem_cons.1 hf with rfl | hf
          · exact FrameOk.took oku okt hc2
          · exact (ok f (by simp [hf])).more
        · simp only [List.length_cons] at cnt ⊢; omega
        · simp
        · rw [← fin]; conv => rhs; rw [popL, if_pos hc2]
    · simp (disch := omega) only [go_sem, ↓reduceIte, Nat.reduceEqDiff, Nat.reduceAdd, Nat.reduceSub, Nat.reduceLeDiff, Nat.reduceLT, List.reduceReplicate, Nat.reduceMul, Int.reduceNeg, reduceCtorEq, *]
      have hF : top :: up :: r = F := by rw [← fin, popL, if_neg hc2]
      rw [hF] at fin sl ok pos
      refine hQ p st _ _ ⟨?_, ?_, ?_, ?_, hx, own, sl, ok, ?_, pos, fin⟩
      · simp (disch := omega) only [go_sem, ↓reduceIte, Nat.reduceEqDiff, Nat.reduceAdd, Nat.reduceSub, Nat.reduceLeDiff, Nat.reduceLT, List.reduceReplicate, Nat.reduceMul, Int.reduceNeg, reduceCtorEq, *]
      · simp (disch := omega) only [go_sem, ↓reduceIte, Nat.reduceEqDiff, Nat.reduceAdd, Nat.reduceSub, Nat.reduceLeDiff, Nat.reduceLT, List.reduceReplicate, Nat.reduceMul, Int.reduceNeg, reduceCtorEq, *]
      · simp (disch := omega) only [go_sem, ↓reduceIte, Nat.reduceEqDiff, Nat.reduceAdd, Nat.reduceSub, Nat.reduceLeDiff, Nat.reduceLT, List.reduceReplicate, Nat.reduceMul, Int.reduceNeg, reduceCtorEq, *]
      · simp (disch := omega) only [go_sem, ↓reduceIte, Nat.reduceEqDiff, Nat.reduceAdd, Nat.reduceSub, Nat.reduceLeDiff, Nat.reduceLT, List.reduceReplicate, Nat.reduceMul, Int.reduceNeg, reduceCtorEq, *]
      · rw [← hF]; simpa using cnt
  · simp (disch := omega) only [go_sem, ↓reduceIte, Nat.reduceEqDiff, Nat.reduceAdd, Nat.reduceSub, Nat.reduceLeDiff, Nat.reduceLT, List.reduceReplicate, Nat.reduceMul, Int.reduceNeg, reduceCtorEq, *]
    have hF : S = F := by
      match S, hc, pos with
      | [t], _, _ => rw [← fin, popL]
      | a :: b :: r, hc, _ => simp at hc; omega
    rw [hF] at fin sl ok pos cnt
    refine hQ p st _ _ ⟨?_, ?_, ?_, ?_, hx, own, sl, ok, cnt, pos, fin⟩
    · simp (disch := omega) only [go_sem, ↓reduceIte, Nat.reduceEqDiff, Nat.reduceAdd, Nat.reduceSub, Nat.reduceLeDiff, Nat.reduceLT, List.reduceReplicate, Nat.reduceMul, Int.reduceNeg, reduceCtorEq, *]
    · simp (disch := omega) only [go_sem, ↓reduceIte, Nat.reduceEqDiff, Nat.reduceAdd, Nat.reduceSub, Nat.reduceLeDiff, Nat.reduceLT, List.reduceReplicate, Nat.reduceMul, Int.reduceNeg, reduceCtorEq, *]
    · simp (disch := omega) only [go_sem, ↓reduceIte, Nat.reduceEqDiff, Nat.reduceAdd, Nat.reduceSub, Nat.reduceLeDiff, Nat.reduceLT, List.reduceReplicate, Nat.reduceMul, Int.reduceNeg, reduceCtorEq, *]
    · simp (disch := omega) only [go_sem, ↓reduceIte, Nat.reduceEqDiff, Nat.reduceAdd, Nat.reduceSub, Nat.reduceLeDiff, Nat.reduceLT, List.reduceReplicate, Nat.reduceMul, Int.reduceNeg, reduceCtorEq, *]
theorem popL_pos : ∀ (S : List Frame), 1 ≤ S.length → 1 ≤ (popL S).length
  | [], h => by simp at h
  | [t], _ => by rw [popL]; simp
  | t :: u :: r, _ => by
    rw [popL]
    split
    · exact popL_pos (u.take t :: r) (by simp)
    · simp
termination_by S => S.length
theorem measure_ev {h : AH} {v : V} {L : List Node} (hw : h.lim ≤ h.next) (hS : SlT Node.enc h 3 v L) (hLb : L.length < 4000000000) : Ev tp i_node_measure [v] h (fun r h' => r = .tup [.i .i64 (measured L).depth, .i .i64 (measured L).ticks] ∧ (0 ≤ (measured L).ticks ∧ (measured L).ticks ≤ 4097) ∧ (0 ≤ (measured L).depth ∧ (measured L).depth ≤ L.length) ∧ Ext h h') := by
  obtain ⟨hlen, hbig, hlt, hget, hat, hrow⟩ := hS.facts
  refine Ev_of fn_node_measure (by simp [t_node_measure]) ?_
  unfold t_node_measure
  simp (disch := omega) only [go_sem, ↓reduceIte, Nat.reduceEqDiff, Nat.reduceAdd, Nat.reduceSub, Nat.reduceLeDiff, Nat.reduceLT, List.reduceReplicate, Nat.reduceMul, Int.reduceNeg, reduceCtorEq, *,  node_measure_0, node_measure_1, node_measure_2, fillP, fillE]
  refine WC_loop_n (fun n e h' => ∃ (i : Nat) (st : V) (p : Nat) (S : List Frame), n = L.length - i ∧ e 4 = st ∧ e 12 = v ∧ e 13 = .i .i64 L.length ∧ e 14 = .i .i64 i ∧ Ext h h' ∧ i ≤ L.length ∧ h.next ≤ idV st ∧ SlT Frame.enc h' 6 st S.reverse ∧ FramesOk p S ∧ p + S.length = i + 1 ∧ 1 ≤ S.length ∧ measGo (L.drop i) S = measGo L [⟨⟨0, 0, 0⟩, 1, 0, 0⟩]) ?_ _ _ _ ⟨0, .sl h.next 0 1 1, 0, [⟨⟨0, 0, 0⟩, 1, 0, 0⟩], rfl, ?_⟩
  · rintro n e h' ⟨i, st, p, S, rfl, e4, e12, e13, e14, hx, hi, own, sl, ok, cnt, pos, hz⟩ ih
    have hg := hx.get
    have hn := hx.next
    have hl := hx.lim
    rw [node_measure_19_go]
    simp (disch := omega) only [go_sem, ↓reduceIte, Nat.reduceEqDiff, Nat.reduceAdd, Nat.reduceSub, Nat.reduceLeDiff, Nat.reduceLT, List.reduceReplicate, Nat.reduceMul, Int.reduceNeg, reduceCtorEq, *,  node_measure_3]
    refine Wb_dec (fun hc => ?_) (fun hc => ?_)
    · rw [drop_nth (by omega), measGo] at hz
      have hkb := kids_bd (nth L i)
      simp (disch := omega) only [go_sem, ↓reduceIte, Nat.reduceEqDiff, Nat.reduceAdd, Nat.reduceSub, Nat.reduceLeDiff, Nat.reduceLT, List.reduceReplicate, Nat.reduceMul, Int.reduceNeg, reduceCtorEq, *,  node_measure_4, node_measure_5, Node.enc]
      refine Ev.imp kids_ev ?_
      rintro _ h2 ⟨rfl, hx2⟩
      have hx3 : Ext h' (h2.back h.lim) := by
        rw [← hl]
        exact (((Ext.refl h').alloc ⟨3, [[.i .i64 0, .i .i64 0, .i .i64 0]]⟩).put h'.next ⟨3, [Node.enc (nth L i)]⟩ (Nat.le_refl _)).then_back hx2
      have hn3 := hx3.next
      have hb : h2.get h'.next = some ⟨3, [Node.enc (nth L i)]⟩ := by
        rw [hx2.get _ (by simp only [next_raise, next_put, next_alloc]; omega), get_raise, get_put, gsel_eq rfl]; rfl
      have hbn : h'.next < h2.next := by
        have := hx2.next
        simp only [next_raise, next_put, next_alloc] at this; omega
      have hidst : idV st < h'.next := sl.facts.lt (by simp; omega)
      simp (disch := omega) only [go_sem, ↓reduceIte, Nat.reduceEqDiff, Nat.reduceAdd, Nat.reduceSub, Nat.reduceLeDiff, Nat.reduceLT, List.reduceReplicate, Nat.reduceMul, Int.reduceNeg, reduceCtorEq, *,  fillP, fillE]
      refine app_one (h := h2.back h.lim) (row := [.i .i64 (nth L i).kind, .i .i64 (nth L i).part, .i .i64 (nth L i).n, .i .i64 (kids (nth L i)), .i .i64 0, .i .i64 0]) (Sl.ext sl hx3) (.inr (by rw [lim_back]; omega)) (by simp; omega) ?_
      intro w h4 s4 a4
      have hn4 := a4.next
      have hl4 := a4.lim
      rw [lim_back] at hl4
      have hnw := a4.own h.next (by omega) (.inr own)
      have s5 : SlT Frame.enc h4 6 w (⟨nth L i, kids (nth L i), 0, 0⟩ :: S).reverse := by simpa [SlT, Frame.enc] using s4
      obtain ⟨slen, sbig, slt, sget, sat, srow⟩ := s5.facts
      simp only [List.length_reverse, List.length_cons, Int.natCast_add, Int.natCast_one] at slen sbig slt sget sat srow
      have srl := s5.rowlt (j := S.length) (by simp)
      have h4x : Ext h h4 := by
        refine ⟨by have := hx.next; simp only [next_back] at hn3 hn4; omega, by omega, fun q hq => ?_⟩
        rw [a4.get q (by omega) (fun _ => by omega), hx3.get q (by omega), hx.get q hq]
      have hb4 : h4.get h'.next = some ⟨3, [Node.enc (nth L i)]⟩ := by
        rw [a4.get _ (by simp only [next_back]; omega) (fun _ => by omega), get_back, hb]
      have hrv : nth (⟨nth L i, kids (nth L i), 0, 0⟩ :: S).reverse S.length = ⟨nth L i, kids (nth L i), 0, 0⟩ := by simp [nth, List.getD]
      have hnl : (0 : Int) ≤ L.length := by omega
      simp (disch := omega) only [go_sem, ↓reduceIte, Nat.reduceEqDiff, Nat.reduceAdd, Nat.reduceSub, Nat.reduceLeDiff, Nat.reduceLT, List.reduceReplicate, Nat.reduceMul, Int.reduceNeg, reduceCtorEq, *,  node_measure_6, node_measure_7]
      refine Wb_dec (fun hc2 => ?_) (fun hc2 => ?_)
      · have hkn : 1 ≤ (nth L i).n := by unfold kids at hc2; (repeat' split at hc2) <;> omega
        have hrv0 := hrv
        rw [hc2] at hrv0
        simp (disch := omega) only [go_sem, ↓reduceIte, Nat.reduceEqDiff, Nat.reduceAdd, Nat.reduceSub, Nat.reduceLeDiff, Nat.reduceLT, List.reduceReplicate, Nat.reduceMul, Int.reduceNeg, reduceCtorEq, *,  node_measure_8, Node.enc]
        refine meas_inner (h := h) (v := v) (len := L.length) (i := i) (F := popL (pushF (nth L i) :: S)) hw (by omega) ?_ _ _ _ ⟨p, pushF (nth L i) :: S, w, rfl, ?_, ?_, ?_, ?_, ?_, ?_, ?_, ?_, ?_, ?_, ?_⟩
        · intro p' st' e' h' m
          have hpos := popL_pos (pushF (nth L i) :: S) (by simp)
          simp (disch := omega) only [go_sem, ↓reduceIte, Nat.reduceEqDiff, Nat.reduceAdd, Nat.reduceSub, Nat.reduceLeDiff, Nat.reduceLT, List.reduceReplicate, Nat.reduceMul, Int.reduceNeg, reduceCtorEq, *,  m.e4, m.e12, m.e13, m.e14, node_measure_18]
          refine ih _ _ _ ?_ ⟨i + 1, st', p', popL (pushF (nth L i) :: S), rfl, ?_⟩
          · omega
          · simp (disch := omega) only [go_sem, ↓reduceIte, Nat.reduceEqDiff, Nat.reduceAdd, Nat.reduceSub, Nat.reduceLeDiff, Nat.reduceLT, List.reduceReplicate, Nat.reduceMul, Int.reduceNeg, reduceCtorEq, *,  m.e4, m.e12, m.e13, m.e14]
            exact ⟨m.hx, by omega, m.own, m.sl, m.ok, by have := m.cnt; omega⟩
        · simp (disch := omega) only [go_sem, ↓reduceIte, Nat.reduceEqDiff, Nat.reduceAdd, Nat.reduceSub, Nat.reduceLeDiff, Nat.reduceLT, List.reduceReplicate, Nat.reduceMul, Int.reduceNeg, reduceCtorEq, *]
        · simp (disch := omega) only [go_sem, ↓reduceIte, Nat.reduceEqDiff, Nat.reduceAdd, Nat.reduceSub, Nat.reduceLeDiff, Nat.reduceLT, List.reduceReplicate, Nat.reduceMul, Int.reduceNeg, reduceCtorEq, *]
        · simp (disch := omega) only [go_sem, ↓reduceIte, Nat.reduceEqDiff, Nat.reduceAdd, Nat.reduceSub, Nat.reduceLeDiff, Nat.reduceLT, List.reduceReplicate, Nat.reduceMul, Int.reduceNeg, reduceCtorEq, *]
        · simp (disch := omega) only [go_sem, ↓reduceIte, Nat.reduceEqDiff, Nat.reduceAdd, Nat.reduceSub, Nat.reduceLeDiff, Nat.reduceLT, List.reduceReplicate, Nat.reduceMul, Int.reduceNeg, reduceCtorEq, *]
        · exact h4x.put _ _ hnw
        · exact hnw
        · (have hpf : pushF (nth L i) = ⟨nth L i, kids (nth L i), 0, min 4097 (nth L i).n⟩ := (by simp only [pushF, if_pos hc2]); rw [hpf, ← rev_set (up := ⟨nth L i, kids (nth L i), 0, 0⟩)]; refine s5.of_get (j := S.length) (by simp) ?_ ?_; all_goals (first | (simp (disch := omega) only [go_sem, ↓reduceIte, Nat.reduceEqDiff, Nat.reduceAdd, Nat.reduceSub, Nat.reduceLeDiff, Nat.reduceLT, List.reduceReplicate, Nat.reduceMul, Int.reduceNeg, reduceCtorEq, *,  get_set_self, hc2]; done) | (simp (disch := omega) only [go_sem, ↓reduceIte, Nat.reduceEqDiff, Nat.reduceAdd, Nat.reduceSub, Nat.reduceLeDiff, Nat.reduceLT, List.reduceReplicate, Nat.reduceMul, Int.reduceNeg, reduceCtorEq, *]; omega) | omega))
        · intro f hf
          rcases List.mem_cons.1 hf with rfl | hf
          · exact pushF_ok (by omega)
          · exact ok f hf
        · simp only [List.length_cons]; omega
        · simp
        · rfl
      · simp (disch := omega) only [go_sem, ↓reduceIte, Nat.reduceEqDiff, Nat.reduceAdd, Nat.reduceSub, Nat.reduceLeDiff, Nat.reduceLT, List.reduceReplicate, Nat.reduceMul, Int.reduceNeg, reduceCtorEq, *]
        refine meas_inner (h := h) (v := v) (len := L.length) (i := i) (F := popL (pushF (nth L i) :: S)) hw (by omega) ?_ _ _ _ ⟨p, pushF (nth L i) :: S, w, rfl, ?_, ?_, ?_, ?_, ?_, ?_, ?_, ?_, ?_, ?_, ?_⟩
        · intro p' st' e' h' m
          have hpos := popL_pos (pushF (nth L i) :: S) (by simp)
          simp (disch := omega) only [go_sem, ↓reduceIte, Nat.reduceEqDiff, Nat.reduceAdd, Nat.reduceSub, Nat.reduceLeDiff, Nat.reduceLT, List.reduceReplicate, Nat.reduceMul, Int.reduceNeg, reduceCtorEq, *,  m.e4, m.e12, m.e13, m.e14, node_measure_18]
          refine ih _ _ _ ?_ ⟨i + 1, st', p', popL (pushF (nth L i) :: S), rfl, ?_⟩
          · omega
          · simp (disch := omega) only [go_sem, ↓reduceIte, Nat.reduceEqDiff, Nat.reduceAdd, Nat.reduceSub, Nat.reduceLeDiff, Nat.reduceLT, List.reduceReplicate, Nat.reduceMul, Int.reduceNeg, reduceCtorEq, *,  m.e4, m.e12, m.e13, m.e14]
            exact ⟨m.hx, by omega, m.own, m.sl, m.ok, by have := m.cnt; omega⟩
        · simp (disch := omega) only [go_sem, ↓reduceIte, Nat.reduceEqDiff, Nat.reduceAdd, Nat.reduceSub, Nat.reduceLeDiff, Nat.reduceLT, List.reduceReplicate, Nat.reduceMul, Int.reduceNeg, reduceCtorEq, *]
        · simp (disch := omega) only [go_sem, ↓reduceIte, Nat.reduceEqDiff, Nat.reduceAdd, Nat.reduceSub, Nat.reduceLeDiff, Nat.reduceLT, List.reduceReplicate, Nat.reduceMul, Int.reduceNeg, reduceCtorEq, *]
        · simp (disch := omega) only [go_sem, ↓reduceIte, Nat.reduceEqDiff, Nat.reduceAdd, Nat.reduceSub, Nat.reduceLeDiff, Nat.reduceLT, List.reduceReplicate, Nat.reduceMul, Int.reduceNeg, reduceCtorEq, *]
        · simp (disch := omega) only [go_sem, ↓reduceIte, Nat.reduceEqDiff, Nat.reduceAdd, Nat.reduceSub, Nat.reduceLeDiff, Nat.reduceLT, List.reduceReplicate, Nat.reduceMul, Int.reduceNeg, reduceCtorEq, *]
        · exact h4x
        · exact hnw
        · (have hpf : pushF (nth L i) = ⟨nth L i, kids (nth L i), 0, 0⟩ := (by simp only [pushF, if_neg hc2]); rw [hpf]; exact s5)
        · intro f hf
          rcases List.mem_cons.1 hf with rfl | hf
          · exact pushF_ok (by omega)
          · exact ok f hf
        · simp only [List.length_cons]; omega
        · simp
        · rfl
    · rw [List.drop_eq_nil_of_le (by omega), measGo] at hz
      have hme : measured L = nth S.reverse 0 := by rw [measured, ← hz]
      have hf := ok (nth S.reverse 0) (by
        rw [nth_eq (by simp; omega)]
        exact List.mem_reverse.1 (List.getElem_mem _))
      obtain ⟨slen, sbig, slt, sget, sat, srow⟩ := sl.facts
      simp only [List.length_reverse] at slen sbig slt sget sat srow
      have hd := hf.depth; have ht := hf.ticks
      have z0 : Int.toNat 0 = 0 := rfl
      have srow0 := srow 0 (by omega)
      rw [Nat.add_zero] at srow0
      have hsl : (0 : Int) < S.length := by omega
      simp (disch := omega) only [go_sem, ↓reduceIte, Nat.reduceEqDiff, Nat.reduceAdd, Nat.reduceSub, Nat.reduceLeDiff, Nat.reduceLT, List.reduceReplicate, Nat.reduceMul, Int.reduceNeg, reduceCtorEq, *,  node_measure_20]
      rw [measured] at hme
      rw [hme]; omega
  · simp (disch := omega) only [go_sem, ↓reduceIte, Nat.reduceEqDiff, Nat.reduceAdd, Nat.reduceSub, Nat.reduceLeDiff, Nat.reduceLT, List.reduceReplicate, Nat.reduceMul, Int.reduceNeg, reduceCtorEq, *]
    refine ⟨(Ext.refl h).alloc _, Nat.zero_le _, by simp [idV], ?_, ?_⟩
    · exact .inr ⟨h.next, 0, 1, ⟨6, [Frame.enc ⟨⟨0, 0, 0⟩, 1, 0, 0⟩]⟩, rfl, by simp [get_alloc, gsel, Frame.enc], rfl, by simp, by simp, by simp, by simp [next_alloc], by simp [bigLen]⟩
    · intro f hf
      simp only [List.mem_singleton] at hf
      subst hf
      exact ⟨.inl (by simp), by simp, by simp, by simp⟩
end Go.Ab.T
namespace Go.Ab.T
open Go Go.Ab
set_option linter.unusedSimpArgs false
set_option linter.unusedVariables false
def lenB (L : List Node) : Bool := decide (wholeB L = true ∧ (measured L).ticks ≤ 4096)
def lenR (L : List Node) : Int := if lenB L = true then (measured L).ticks else 0
theorem nodeLength_ev {h : AH} {v : V} {L : List Node} (hw : h.lim ≤ h.next) (hS : SlT Node.enc h 3 v L) (hLb : L.length < 4000000000) : Ev tp i_node_Length [v] h (fun r h' => r = .tup [.i .i64 (lenR L), .b (lenB L)] ∧ Ext h h') := by
  refine Ev_of fn_node_Length (by simp [t_node_Length]) ?_; unfold t_node_Length
  simp (disch := omega) only [go_sem, ↓reduceIte, Nat.reduceEqDiff, Nat.reduceAdd, Nat.reduceSub, Nat.reduceLeDiff, Nat.reduceLT, List.reduceReplicate, Nat.reduceMul, Int.reduceNeg, reduceCtorEq, *,  node_Length_0, node_Length_1, node_Length_2, node_Length_3, node_Length_4, node_Length_5, node_Length_6]
  refine Ev.imp (whole_ev hS) ?_
  rintro _ h2 ⟨rfl, hx2⟩
  have hn2 := hx2.next
  have hl2 := hx2.lim
  simp (disch := omega) only [go_sem, ↓reduceIte, Nat.reduceEqDiff, Nat.reduceAdd, Nat.reduceSub, Nat.reduceLeDiff, Nat.reduceLT, List.reduceReplicate, Nat.reduceMul, Int.reduceNeg, reduceCtorEq, *,  node_Length_0, node_Length_1, node_Length_2, node_Length_3, node_Length_4, node_Length_5, node_Length_6]
  refine Wb_of (fun hc => ?_) (fun hc => ?_)
  · simp (disch := omega) only [go_sem, ↓reduceIte, Nat.reduceEqDiff, Nat.reduceAdd, Nat.reduceSub, Nat.reduceLeDiff, Nat.reduceLT, List.reduceReplicate, Nat.reduceMul, Int.reduceNeg, reduceCtorEq, *,  node_Length_0, node_Length_1, node_Length_2, node_Length_3, node_Length_4, node_Length_5, node_Length_6]
    simp at hc
    simp [lenR, lenB, hc]
  · simp at hc
    simp (disch := omega) only [go_sem, ↓reduceIte, Nat.reduceEqDiff, Nat.reduceAdd, Nat.reduceSub, Nat.reduceLeDiff, Nat.reduceLT, List.reduceReplicate, Nat.reduceMul, Int.reduceNeg, reduceCtorEq, *,  node_Length_0, node_Length_1, node_Length_2, node_Length_3, node_Length_4, node_Length_5, node_Length_6]
    refine Ev.imp (measure_ev (by omega) (hS.ext hx2) hLb) ?_
    rintro _ h3 ⟨rfl, b1, b2, hx3⟩
    simp (disch := omega) only [go_sem, ↓reduceIte, Nat.reduceEqDiff, Nat.reduceAdd, Nat.reduceSub, Nat.reduceLeDiff, Nat.reduceLT, List.reduceReplicate, Nat.reduceMul, Int.reduceNeg, reduceCtorEq, *,  node_Length_0, node_Length_1, node_Length_2, node_Length_3, node_Length_4, node_Length_5, node_Length_6]
    refine Wb_dec (fun hc2 => ?_) (fun hc2 => ?_)
    · simp (disch := omega) only [go_sem, ↓reduceIte, Nat.reduceEqDiff, Nat.reduceAdd, Nat.reduceSub, Nat.reduceLeDiff, Nat.reduceLT, List.reduceReplicate, Nat.reduceMul, Int.reduceNeg, reduceCtorEq, *,  node_Length_0, node_Length_1, node_Length_2, node_Length_3, node_Length_4, node_Length_5, node_Length_6]
      first | exact ⟨by simp [lenR, lenB, hc, hc2], hx2.trans hx3⟩ | (simp [lenR, lenB, hc, hc2])
    · simp (disch := omega) only [go_sem, ↓reduceIte, Nat.reduceEqDiff, Nat.reduceAdd, Nat.reduceSub, Nat.reduceLeDiff, Nat.reduceLT, List.reduceReplicate, Nat.reduceMul, Int.reduceNeg, reduceCtorEq, *,  node_Length_0, node_Length_1, node_Length_2, node_Length_3, node_Length_4, node_Length_5, node_Length_6]
      first | exact ⟨by simp [lenR, lenB, hc, hc2], hx2.trans hx3⟩ | (simp [lenR, lenB, hc, hc2])
def depR (L : List Node) : Int := if wholeB L = true then (measured L).depth else 0
theorem nodeDepth_ev {h : AH} {v : V} {L : List Node} (hw : h.lim ≤ h.next) (hS : SlT Node.enc h 3 v L) (hLb : L.length < 4000000000) : Ev tp i_node_Depth [v] h (fun r h' => r = .i .i64 (depR L) ∧ Ext h h') := by
  refine Ev_of fn_node_Depth (by simp [t_node_Depth]) ?_; unfold t_node_Depth
  simp (disch := omega) only [go_sem, ↓reduceIte, Nat.reduceEqDiff, Nat.reduceAdd, Nat.reduceSub, Nat.reduceLeDiff, Nat.reduceLT, List.reduceReplicate, Nat.reduceMul, Int.reduceNeg, reduceCtorEq, *,  node_Depth_0, node_Depth_1, node_Depth_2, node_Depth_3, node_Depth_4]
  refine Ev.imp (whole_ev hS) ?_
  rintro _ h2 ⟨rfl, hx2⟩
  have hn2 := hx2.next
  have hl2 := hx2.lim
  simp (disch := omega) only [go_sem, ↓reduceIte, Nat.reduceEqDiff, Nat.reduceAdd, Nat.reduceSub, Nat.reduceLeDiff, Nat.reduceLT, List.reduceReplicate, Nat.reduceMul, Int.reduceNeg, reduceCtorEq, *,  node_Depth_0, node_Depth_1, node_Depth_2, node_Depth_3, node_Depth_4]
  refine Wb_of (fun hc => ?_) (fun hc => ?_)
  · simp (disch := omega) only [go_sem, ↓reduceIte, Nat.reduceEqDiff, Nat.reduceAdd, Nat.reduceSub, Nat.reduceLeDiff, Nat.reduceLT, List.reduceReplicate, Nat.reduceMul, Int.reduceNeg, reduceCtorEq, *,  node_Depth_0, node_Depth_1, node_Depth_2, node_Depth_3, node_Depth_4]
    simp at hc
    simp [depR, hc]
  · simp at hc
    simp (disch := omega) only [go_sem, ↓reduceIte, Nat.reduceEqDiff, Nat.reduceAdd, Nat.reduceSub, Nat.reduceLeDiff, Nat.reduceLT, List.reduceReplicate, Nat.reduceMul, Int.reduceNeg, reduceCtorEq, *,  node_Depth_0, node_Depth_1, node_Depth_2, node_Depth_3, node_Depth_4]
    refine Ev.imp (measure_ev (by omega) (hS.ext hx2) hLb) ?_
    rintro _ h3 ⟨rfl, b1, b2, hx3⟩
    simp (disch := omega) only [go_sem, ↓reduceIte, Nat.reduceEqDiff, Nat.reduceAdd, Nat.reduceSub, Nat.reduceLeDiff, Nat.reduceLT, List.reduceReplicate, Nat.reduceMul, Int.reduceNeg, reduceCtorEq, *,  node_Depth_0, node_Depth_1, node_Depth_2, node_Depth_3, node_Depth_4]
    first | exact ⟨by simp [depR, hc], hx2.trans hx3⟩ | (simp [depR, hc])
def rightR (L : List Node) : Int := if 128 < L.length then 3 else if wholeB L = false then 12 else if 16 < depR L then 14 else if lenB L = false then 18 else 0
theorem nodeRight_ev {h : AH} {v : V} {L : List Node} (hw : h.lim ≤ h.next) (hS : SlT Node.enc h 3 v L) (hLb : L.length < 4000000000) : Ev tp i_node_Right [v] h (fun r h' => r = .i .i64 (rightR L) ∧ Ext h h') := by
  have hlen := hS.facts.len
  refine Ev_of fn_node_Right (by simp [t_node_Right]) ?_; unfold t_node_Right
  simp (disch := omega) only [go_sem, ↓reduceIte, Nat.reduceEqDiff, Nat.reduceAdd, Nat.reduceSub, Nat.reduceLeDiff, Nat.reduceLT, List.reduceReplicate, Nat.reduceMul, Int.reduceNeg, reduceCtorEq, *,  node_Right_0, node_Right_1, node_Right_2, node_Right_3, node_Right_4, node_Right_5, node_Right_6, node_Right_7, node_Right_8, node_Right_9, node_Right_10]
  refine Ev.imp (nodeLength_ev hw hS hLb) ?_
  rintro _ h2 ⟨rfl, hx2⟩
  have hn2 := hx2.next
  have hl2 := hx2.lim
  simp (disch := omega) only [go_sem, ↓reduceIte, Nat.reduceEqDiff, Nat.reduceAdd, Nat.reduceSub, Nat.reduceLeDiff, Nat.reduceLT, List.reduceReplicate, Nat.reduceMul, Int.reduceNeg, reduceCtorEq, *,  node_Right_0, node_Right_1, node_Right_2, node_Right_3, node_Right_4, node_Right_5, node_Right_6, node_Right_7, node_Right_8, node_Right_9, node_Right_10]
  refine Wb_dec (fun hc => ?_) (fun hc => ?_)
  · simp (disch := omega) only [go_sem, ↓reduceIte, Nat.reduceEqDiff, Nat.reduceAdd, Nat.reduceSub, Nat.reduceLeDiff, Nat.reduceLT, List.reduceReplicate, Nat.reduceMul, Int.reduceNeg, reduceCtorEq, *,  node_Right_0, node_Right_1, node_Right_2, node_Right_3, node_Right_4, node_Right_5, node_Right_6, node_Right_7, node_Right_8, node_Right_9, node_Right_10]
    first | exact ⟨by simp only [rightR]; rw [if_pos (by omega)], hx2⟩ | (simp only [rightR]; rw [if_pos (by omega)])
  simp (disch := omega) only [go_sem, ↓reduceIte, Nat.reduceEqDiff, Nat.reduceAdd, Nat.reduceSub, Nat.reduceLeDiff, Nat.reduceLT, List.reduceReplicate, Nat.reduceMul, Int.reduceNeg, reduceCtorEq, *,  node_Right_0, node_Right_1, node_Right_2, node_Right_3, node_Right_4, node_Right_5, node_Right_6, node_Right_7, node_Right_8, node_Right_9, node_Right_10]
  refine Ev.imp (whole_ev (hS.ext hx2)) ?_
  rintro _ h3 ⟨rfl, hx3⟩
  have hn3 := hx3.next
  have hl3 := hx3.lim
  simp (disch := omega) only [go_sem, ↓reduceIte, Nat.reduceEqDiff, Nat.reduceAdd, Nat.reduceSub, Nat.reduceLeDiff, Nat.reduceLT, List.reduceReplicate, Nat.reduceMul, Int.reduceNeg, reduceCtorEq, *,  node_Right_0, node_Right_1, node_Right_2, node_Right_3, node_Right_4, node_Right_5, node_Right_6, node_Right_7, node_Right_8, node_Right_9, node_Right_10]
  refine Wb_of (fun hc2 => ?_) (fun hc2 => ?_)
  · simp (disch := omega) only [go_sem, ↓reduceIte, Nat.reduceEqDiff, Nat.reduceAdd, Nat.reduceSub, Nat.reduceLeDiff, Nat.reduceLT, List.reduceReplicate, Nat.reduceMul, Int.reduceNeg, reduceCtorEq, *,  node_Right_0, node_Right_1, node_Right_2, node_Right_3, node_Right_4, node_Right_5, node_Right_6, node_Right_7, node_Right_8, node_Right_9, node_Right_10]
    simp at hc2
    first | exact ⟨by simp only [rightR]; rw [if_neg (by omega), if_pos hc2], hx2.trans hx3⟩ | (simp only [rightR]; rw [if_neg (by omega), if_pos hc2])
  simp at hc2
  simp (disch := omega) only [go_sem, ↓reduceIte, Nat.reduceEqDiff, Nat.reduceAdd, Nat.reduceSub, Nat.reduceLeDiff, Nat.reduceLT, List.reduceReplicate, Nat.reduceMul, Int.reduceNeg, reduceCtorEq, *,  node_Right_0, node_Right_1, node_Right_2, node_Right_3, node_Right_4, node_Right_5, node_Right_6, node_Right_7, node_Right_8, node_Right_9, node_Right_10]
  refine Ev.imp (nodeDepth_ev (by omega) (hS.ext (hx2.trans hx3)) hLb) ?_
  rintro _ h4 ⟨rfl, hx4⟩
  simp (disch := omega) only [go_sem, ↓reduceIte, Nat.reduceEqDiff, Nat.reduceAdd, Nat.reduceSub, Nat.reduceLeDiff, Nat.reduceLT, List.reduceReplicate, Nat.reduceMul, Int.reduceNeg, reduceCtorEq, *,  node_Right_0, node_Right_1, node_Right_2, node_Right_3, node_Right_4, node_Right_5, node_Right_6, node_Right_7, node_Right_8, node_Right_9, node_Right_10]
  refine Wb_dec (fun hc3 => ?_) (fun hc3 => ?_)
  · simp (disch := omega) only [go_sem, ↓reduceIte, Nat.reduceEqDiff, Nat.reduceAdd, Nat.reduceSub, Nat.reduceLeDiff, Nat.reduceLT, List.reduceReplicate, Nat.reduceMul, Int.reduceNeg, reduceCtorEq, *,  node_Right_0, node_Right_1, node_Right_2, node_Right_3, node_Right_4, node_Right_5, node_Right_6, node_Right_7, node_Right_8, node_Right_9, node_Right_10]
    first | exact ⟨by simp only [rightR]; rw [if_neg (by omega), if_neg (by simp [hc2]), if_pos (by omega)], hx2.trans (hx3.trans hx4)⟩ | (simp only [rightR]; rw [if_neg (by omega), if_neg (by simp [hc2]), if_pos (by omega)])
  simp (disch := omega) only [go_sem, ↓reduceIte, Nat.reduceEqDiff, Nat.reduceAdd, Nat.reduceSub, Nat.reduceLeDiff, Nat.reduceLT, List.reduceReplicate, Nat.reduceMul, Int.reduceNeg, reduceCtorEq, *,  node_Right_0, node_Right_1, node_Right_2, node_Right_3, node_Right_4, node_Right_5, node_Right_6, node_Right_7, node_Right_8, node_Right_9, node_Right_10]
  refine Wb_of (fun hc4 => ?_) (fun hc4 => ?_)
  · simp (disch := omega) only [go_sem, ↓reduceIte, Nat.reduceEqDiff, Nat.reduceAdd, Nat.reduceSub, Nat.reduceLeDiff, Nat.reduceLT, List.reduceReplicate, Nat.reduceMul, Int.reduceNeg, reduceCtorEq, *,  node_Right_0, node_Right_1, node_Right_2, node_Right_3, node_Right_4, node_Right_5, node_Right_6, node_Right_7, node_Right_8, node_Right_9, node_Right_10]
    simp at hc4
    first | exact ⟨by simp only [rightR]; rw [if_neg (by omega), if_neg (by simp [hc2]), if_neg (by omega), if_pos hc4], hx2.trans (hx3.trans hx4)⟩ | (simp only [rightR]; rw [if_neg (by omega), if_neg (by simp [hc2]), if_neg (by omega), if_pos hc4])
  · simp (disch := omega) only [go_sem, ↓reduceIte, Nat.reduceEqDiff, Nat.reduceAdd, Nat.reduceSub, Nat.reduceLeDiff, Nat.reduceLT, List.reduceReplicate, Nat.reduceMul, Int.reduceNeg, reduceCtorEq, *,  node_Right_0, node_Right_1, node_Right_2, node_Right_3, node_Right_4, node_Right_5, node_Right_6, node_Right_7, node_Right_8, node_Right_9, node_Right_10]
    simp at hc4
    first | exact ⟨by simp only [rightR]; rw [if_neg (by omega), if_neg (by simp [hc2]), if_neg (by omega), if_neg (by simp [hc4])], hx2.trans (hx3.trans hx4)⟩ | (simp only [rightR]; rw [if_neg (by omega), if_neg (by simp [hc2]), if_neg (by omega), if_neg (by simp [hc4])])
end Go.Ab.T
