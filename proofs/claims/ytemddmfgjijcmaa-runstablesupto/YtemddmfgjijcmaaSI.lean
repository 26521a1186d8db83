/- Part of the proof that RunsTables returns true for every input of the second form's bound (no other condition). -/
import Derived.Test.YtemddmfgjijcmaaSG
import Derived.Test.YtemddmfgjijcmaaSH
set_option linter.all false
namespace Go.Ab.T
open Go Go.Ab
set_option linter.unusedSimpArgs false
set_option linter.unusedVariables false
structure Place where
  at_ : Nat
  left : Int
  deriving DecidableEq, Inhabited
def Place.enc (p : Place) : List V := [.i .i64 p.at_, .i .i64 p.left]
structure Cs where
  S : List Place
  leaf : Nat
  gone : Int
  at_ : Int
def curB (lv sv : V) (c : Cs) : Blk := ⟨5, [[lv, sv, .i .i64 c.leaf, .i .i64 c.gone, .i .i64 c.at_]]⟩
/-- A cursor at a place of the heap. -/
structure Cur (h : AH) (id : Nat) (lv sv : V) (L : List Node) (c : Cs) : Prop where
  blk : h.get id = some (curB lv sv c)
  row : SlT Node.enc h 3 lv L
  stk : SlT Place.enc h 2 sv c.S.reverse
  pos : 0 < L.length
  big : L.length < 1000000000
  sbig : c.S.length ≤ L.length
  lne : idV lv ≠ id
  sne : sv = .ns ∨ (idV sv ≠ id ∧ idV sv ≠ idV lv ∧ h.lim ≤ idV sv)
  lo : h.lim ≤ id
  hi : id < h.next
/-- What a cursor's step leaves as it was. -/
structure CurF (h : AH) (id : Nat) (sv : V) (h' : AH) (sv' : V) : Prop where
  next : h.next ≤ h'.next
  lim : h'.lim = h.lim
  get : ∀ i, i < h.next → i ≠ id → (sv = .ns ∨ i ≠ idV sv) → h'.get i = h.get i
  own : sv' = .ns ∨ (sv ≠ .ns ∧ idV sv' = idV sv) ∨ h.next ≤ idV sv'
theorem CurF.refl {h : AH} {id : Nat} {sv : V} : CurF h id sv h sv := ⟨Nat.le_refl _, rfl, fun _ _ _ _ => rfl, by
  by_cases hs : sv = .ns
  · exact .inl hs
  · exact .inr (.inl ⟨hs, rfl⟩)⟩
theorem CurF.trans {h h1 h2 : AH} {id : Nat} {sv s1 s2 : V} (a : CurF h id sv h1 s1) (b : CurF h1 id s1 h2 s2) : CurF h id sv h2 s2 := by
  have an := a.next; have bn := b.next
  refine ⟨by omega, b.lim.trans a.lim, fun i hi hne hs => ?_, ?_⟩
  · rw [b.get i (by omega) hne ?_, a.get i hi hne hs]
    rcases a.own with h1 | ⟨hn, h1⟩ | h1
    · exact .inl h1
    · rcases hs with hs | hs
      · exact absurd hs hn
      · exact .inr (by rw [h1]; exact hs)
    · exact .inr (by omega)
  · rcases b.own with h2 | ⟨hn, h2⟩ | h2
    · exact .inl h2
    · rcases a.own with h1 | ⟨hn1, h1⟩ | h1
      · exact absurd h1 hn
      · exact .inr (.inl ⟨hn1, h2.trans h1⟩)
      · exact .inr (.inr (by omega))
    · exact .inr (.inr (by omega))
theorem CurF.ext {h h1 h2 : AH} {id : Nat} {sv s1 : V} (a : CurF h id sv h1 s1) (b : Ext h1 h2) : CurF h id sv h2 s1 := by
  have an := a.next; have bn := b.next
  exact ⟨by omega, b.lim.trans a.lim, fun i hi hne hs => by rw [b.get i (by omega), a.get i hi hne hs], a.own⟩
theorem Cur.ext {h h' : AH} {id : Nat} {lv sv : V} {L : List Node} {c : Cs} (k : Cur h id lv sv L c) (x : Ext h h') : Cur h' id lv sv L c := by
  have := x.next
  exact ⟨by rw [x.get id k.hi]; exact k.blk, k.row.ext x, k.stk.ext x, k.pos, k.big, k.sbig, k.lne, by rw [x.lim]; exact k.sne, by rw [x.lim]; exact k.lo, by have := k.hi; omega⟩
/-- The cursor's block written over (its stack and its table as they are). -/
theorem Cur.put {h : AH} {id : Nat} {lv sv : V} {L : List Node} {c c' : Cs} (k : Cur h id lv sv L c) (hS : c'.S = c.S) : Cur (h.put id (curB lv sv c')) id lv sv L c' := by
  refine ⟨by rw [get_put, gsel_eq rfl], ?_, ?_, k.pos, k.big, by rw [hS]; exact k.sbig, k.lne, k.sne, k.lo, k.hi⟩
  · exact Sl.same k.row (Nat.le_refl _) (fun _ _ => by rw [get_put, gsel_ne k.lne])
  · rw [hS]
    refine Sl.same k.stk (Nat.le_refl _) (fun hv _ => ?_)
    rcases k.sne with h1 | h1
    · exact absurd h1 hv
    · rw [get_put, gsel_ne h1.1]
theorem CurF.put {h : AH} {id : Nat} {sv : V} {b : Blk} : CurF h id sv (h.put id b) sv := by
  refine ⟨Nat.le_refl _, rfl, fun i hi hne hs => by rw [get_put, gsel_ne hne], (CurF.refl (h := h) (id := id)).own⟩

/-- A place laid on the stack, and the cursor's block written over. -/
theorem Cur.push {h h4 : AH} {id : Nat} {lv sv w : V} {L : List Node} {c c' : Cs} {p : Place} (k : Cur h id lv sv L c) (s4 : Sl h4 2 w (c.S.reverse.map Place.enc ++ [p.enc])) (a4 : App2 h sv w h4) (hS : c'.S = p :: c.S) (hl : c'.S.length ≤ L.length) : Cur (h4.put id (curB lv w c')) id lv w L c' := by
  have hn := a4.next; have hi := k.hi
  have hw : idV w ≠ id := by
    rcases a4.own with ⟨h1, h2⟩ | h2
    · rw [h2]; rcases k.sne with h3 | h3
      · exact absurd h3 h1
      · exact h3.1
    · omega
  refine ⟨by rw [get_put, gsel_eq rfl], ?_, ?_, k.pos, k.big, hl, k.lne, .inr ⟨hw, ?_, ?_⟩, ?_, ?_⟩
  · refine Sl.same k.row (Nat.le_trans hn (Nat.le_refl _)) (fun _ hlv => ?_)
    rw [get_put, gsel_ne k.lne]
    refine a4.get _ hlv ?_
    rcases k.sne with h3 | h3
    · exact .inl h3
    · exact .inr h3.2.1.symm
  · rw [hS]
    refine Sl.same (h := h4) (by simpa [List.map_append] using s4) (Nat.le_refl _) (fun _ _ => by rw [get_put, gsel_ne hw])
  · have := k.row.facts.lt k.pos
    rcases a4.own with ⟨h1, h2⟩ | h2
    · rw [h2]; rcases k.sne with h3 | h3
      · exact absurd h3 h1
      · exact h3.2.1
    · omega
  · rw [lim_put, a4.lim]
    rcases a4.own with ⟨h1, h2⟩ | h2
    · rw [h2]; rcases k.sne with h3 | h3
      · exact absurd h3 h1
      · exact h3.2.2
    · have := k.lo; omega
  · rw [lim_put, a4.lim]; exact k.lo
  · rw [next_put]; omega
theorem CurF.push {h h4 : AH} {id : Nat} {sv w : V} {b : Blk} (a4 : App2 h sv w h4) : CurF h id sv (h4.put id b) w :=
  ⟨a4.next, a4.lim, fun i hi hne hs => by rw [get_put, gsel_ne hne]; exact a4.get i hi hs, by
    rcases a4.own with h1 | h1
    · exact .inr (.inl h1)
    · exact .inr (.inr h1)⟩

def dn (L : List Node) (a : Nat) (S : List Place) : List Place × Nat :=
  if h : a < L.length then
    if (nth L a).kind = 3 ∨ (nth L a).kind = 4 then dn L (a + 1) (⟨a, (nth L a).n⟩ :: S) else (S, a)
  else (S, a)
termination_by L.length - a
def stp (L : List Node) (next : Nat) : List Place → List Place × Nat
  | [] => ([], L.length)
  | p :: r => if 0 < p.left - 1 then dn L (if (nth L p.at_).kind = 4 then p.at_ + 1 else next) (⟨p.at_, p.left - 1⟩ :: r) else stp L next r
def stpOk (L : List Node) (next : Nat) : List Place → Prop
  | [] => True
  | p :: r => p.at_ < L.length ∧ 1 ≤ p.left ∧ p.left ≤ 9223372036854775807 ∧ (if 0 < p.left - 1 then (dn L (if (nth L p.at_).kind = 4 then p.at_ + 1 else next) (⟨p.at_, p.left - 1⟩ :: r)).2 < L.length ∧ (dn L (if (nth L p.at_).kind = 4 then p.at_ + 1 else next) (⟨p.at_, p.left - 1⟩ :: r)).1.length ≤ L.length else stpOk L next r)
theorem dn_len {L : List Node} {a : Nat} {S : List Place} : S.length ≤ (dn L a S).1.length := by
  rw [dn]
  split
  · split
    · have := dn_len (L := L) (a := a + 1) (S := ⟨a, (nth L a).n⟩ :: S)
      simp at this; omega
    · simp
  · simp
termination_by L.length - a
attribute [go_sem] Place.enc
set_option maxHeartbeats 1000000
theorem down_ev {h : AH} {id : Nat} {lv sv : V} {L : List Node} {c : Cs} {a : Nat} (hw : h.lim ≤ h.next) (k : Cur h id lv sv L c) (hd : (dn L a c.S).2 < L.length) (hl : (dn L a c.S).1.length ≤ L.length) :
    Ev tp i_cursor_Cursor_down [.p id 0 0, .i .i64 a] h (fun r h' => r = .tup [] ∧ ∃ sv', Cur h' id lv sv' L ⟨(dn L a c.S).1, (dn L a c.S).2, c.gone, c.at_⟩ ∧ CurF h id sv h' sv') := by
  refine Ev_of fn_cursor_Cursor_down (by simp [t_cursor_Cursor_down]) ?_; unfold t_cursor_Cursor_down
  simp (disch := omega) only [go_sem, ↓reduceIte, Nat.reduceEqDiff, Nat.reduceAdd, Nat.reduceSub, Nat.reduceLeDiff, Nat.reduceLT, List.reduceReplicate, Nat.reduceMul, Int.reduceNeg, reduceCtorEq, *]
  refine WC_loop_n (fun n e h' => ∃ (b : Nat) (S : List Place) (sv' : V), n = L.length - b ∧ e 0 = .p id 0 0 ∧ e 1 = .i .i64 b ∧ h'.lim ≤ h'.next ∧ Cur h' id lv sv' L ⟨S, c.leaf, c.gone, c.at_⟩ ∧ CurF h id sv h' sv' ∧ dn L b S = dn L a c.S) ?_ _ _ _ ⟨a, c.S, sv, rfl, ?_⟩
  · rintro n e h' ⟨b, S, sv', rfl, e0, e1, hw', k', f', hz⟩ ih
    have k0 := k'
    obtain ⟨kb, kr, ks, kp, kbig, ksb, klne, ksne, klo, khi⟩ := k'
    obtain ⟨hlen, hbig, hlt, hget, hat, hrow⟩ := kr.facts
    simp only [curB] at kb
    have hb : b < L.length := by
      rw [← hz] at hd
      rw [dn] at hd
      split at hd
      · assumption
      · exact hd
    rw [dn, dif_pos hb] at hz
    rw [cursor_Cursor_down_3_go]
    have tail : (nth L b).kind = 3 ∨ (nth L b).kind = 4 → dn L (b + 1) (⟨b, (nth L b).n⟩ :: S) = dn L a c.S := fun hk => by rw [← hz, if_pos hk]
    have stop : ¬ ((nth L b).kind = 3 ∨ (nth L b).kind = 4) → (S, b) = dn L a c.S := fun hk => by rw [← hz, if_neg hk]
    have kl := dn_len (L := L) (a := b + 1) (S := ⟨b, (nth L b).n⟩ :: S)
    simp (disch := omega) only [go_sem, ↓reduceIte, Nat.reduceEqDiff, Nat.reduceAdd, Nat.reduceSub, Nat.reduceLeDiff, Nat.reduceLT, List.reduceReplicate, Nat.reduceMul, Int.reduceNeg, reduceCtorEq, *,  cursor_Cursor_down_0]
    refine Wg_dec (fun hc => ?_) (fun hc => ?_)
    · simp (disch := omega) only [go_sem, ↓reduceIte, Nat.reduceEqDiff, Nat.reduceAdd, Nat.reduceSub, Nat.reduceLeDiff, Nat.reduceLT, List.reduceReplicate, Nat.reduceMul, Int.reduceNeg, reduceCtorEq, *]
      have ht := tail (.inl hc)
      rw [ht] at kl
      simp only [List.length_cons] at kl
      have nsid : sv' = .ns ∨ id ≠ idV sv' := by
        rcases ksne with h3 | h3
        · exact .inl h3
        · exact .inr h3.1.symm
      simp (disch := omega) only [go_sem, ↓reduceIte, Nat.reduceEqDiff, Nat.reduceAdd, Nat.reduceSub, Nat.reduceLeDiff, Nat.reduceLT, List.reduceReplicate, Nat.reduceMul, Int.reduceNeg, reduceCtorEq, *,  cursor_Cursor_down_1, fillP, fillE]
      refine app_two ks ?_ (by simp; omega) ?_
      · rcases ksne with h3 | h3
        · exact .inl h3
        · exact .inr h3.2.2
      intro w h4 s4 a4
      have hn4 := a4.next
      have hl4 := a4.lim
      have hc4 := a4.cells
      have hd4 := a4.cell
      have hb4 := a4.get id khi nsid
      rw [kb] at hb4
      simp (disch := omega) only [go_sem, ↓reduceIte, Nat.reduceEqDiff, Nat.reduceAdd, Nat.reduceSub, Nat.reduceLeDiff, Nat.reduceLT, List.reduceReplicate, Nat.reduceMul, Int.reduceNeg, reduceCtorEq, *,  cursor_Cursor_down_2]
      refine ih _ _ _ ?_ ⟨b + 1, ⟨b, (nth L b).n⟩ :: S, w, rfl, ?_⟩
      · omega
      · simp (disch := omega) only [go_sem, ↓reduceIte, Nat.reduceEqDiff, Nat.reduceAdd, Nat.reduceSub, Nat.reduceLeDiff, Nat.reduceLT, List.reduceReplicate, Nat.reduceMul, Int.reduceNeg, reduceCtorEq, *]
        exact ⟨by omega, Cur.push (p := ⟨b, (nth L b).n⟩) (c' := ⟨⟨b, (nth L b).n⟩ :: S, c.leaf, c.gone, c.at_⟩) k0 s4 a4 rfl (by simp; omega), f'.trans (CurF.push a4)⟩
    · simp (disch := omega) only [go_sem, ↓reduceIte, Nat.reduceEqDiff, Nat.reduceAdd, Nat.reduceSub, Nat.reduceLeDiff, Nat.reduceLT, List.reduceReplicate, Nat.reduceMul, Int.reduceNeg, reduceCtorEq, *]
      refine Wb_dec (fun hc2 => ?_) (fun hc2 => ?_)
      · skip
        have ht := tail (.inr hc2)
        rw [ht] at kl
        simp only [List.length_cons] at kl
        have nsid : sv' = .ns ∨ id ≠ idV sv' := by
          rcases ksne with h3 | h3
          · exact .inl h3
          · exact .inr h3.1.symm
        simp (disch := omega) only [go_sem, ↓reduceIte, Nat.reduceEqDiff, Nat.reduceAdd, Nat.reduceSub, Nat.reduceLeDiff, Nat.reduceLT, List.reduceReplicate, Nat.reduceMul, Int.reduceNeg, reduceCtorEq, *,  cursor_Cursor_down_1, fillP, fillE]
        refine app_two ks ?_ (by simp; omega) ?_
        · rcases ksne with h3 | h3
          · exact .inl h3
          · exact .inr h3.2.2
        intro w h4 s4 a4
        have hn4 := a4.next
        have hl4 := a4.lim
        have hc4 := a4.cells
        have hd4 := a4.cell
        have hb4 := a4.get id khi nsid
        rw [kb] at hb4
        simp (disch := omega) only [go_sem, ↓reduceIte, Nat.reduceEqDiff, Nat.reduceAdd, Nat.reduceSub, Nat.reduceLeDiff, Nat.reduceLT, List.reduceReplicate, Nat.reduceMul, Int.reduceNeg, reduceCtorEq, *,  cursor_Cursor_down_2]
        refine ih _ _ _ ?_ ⟨b + 1, ⟨b, (nth L b).n⟩ :: S, w, rfl, ?_⟩
        · omega
        · simp (disch := omega) only [go_sem, ↓reduceIte, Nat.reduceEqDiff, Nat.reduceAdd, Nat.reduceSub, Nat.reduceLeDiff, Nat.reduceLT, List.reduceReplicate, Nat.reduceMul, Int.reduceNeg, reduceCtorEq, *]
          exact ⟨by omega, Cur.push (p := ⟨b, (nth L b).n⟩) (c' := ⟨⟨b, (nth L b).n⟩ :: S, c.leaf, c.gone, c.at_⟩) k0 s4 a4 rfl (by simp; omega), f'.trans (CurF.push a4)⟩
      · have hst := stop (by omega)
        simp (disch := omega) only [go_sem, ↓reduceIte, Nat.reduceEqDiff, Nat.reduceAdd, Nat.reduceSub, Nat.reduceLeDiff, Nat.reduceLT, List.reduceReplicate, Nat.reduceMul, Int.reduceNeg, reduceCtorEq, *,  cursor_Cursor_down_4]
        rw [← hst]
        exact ⟨sv', Cur.put (c' := ⟨S, b, c.gone, c.at_⟩) k0 rfl, f'.trans CurF.put⟩
  · simp (disch := omega) only [go_sem, ↓reduceIte, Nat.reduceEqDiff, Nat.reduceAdd, Nat.reduceSub, Nat.reduceLeDiff, Nat.reduceLT, List.reduceReplicate, Nat.reduceMul, Int.reduceNeg, reduceCtorEq, *]
    exact CurF.refl
end Go.Ab.T
namespace Go.Ab.T
open Go Go.Ab
set_option linter.unusedSimpArgs false
set_option linter.unusedVariables false
set_option maxHeartbeats 1000000
/-- The top of the stack written over. -/
theorem Cur.top {h : AH} {id : Nat} {lv sv : V} {L : List Node} {S : List Place} {p p' : Place} {lf : Nat} {g a : Int} (k : Cur h id lv sv L ⟨p :: S, lf, g, a⟩) : Cur (h.put (idV sv) ⟨2, (csOf h sv).set (elV sv + S.length) p'.enc⟩) id lv sv L ⟨p' :: S, lf, g, a⟩ ∧ CurF h id sv (h.put (idV sv) ⟨2, (csOf h sv).set (elV sv + S.length) p'.enc⟩) sv := by
  have hs : sv ≠ .ns := by
    rintro rfl
    have := k.stk.facts.len
    simp [lenV] at this; omega
  have hne : idV sv ≠ id ∧ idV sv ≠ idV lv ∧ h.lim ≤ idV sv := by
    rcases k.sne with h1 | h1
    · exact absurd h1 hs
    · exact h1
  refine ⟨⟨?_, ?_, ?_, k.pos, k.big, k.sbig, k.lne, .inr hne, k.lo, k.hi⟩, ⟨Nat.le_refl _, rfl, fun i _ _ hi => ?_, (CurF.refl (h := h) (id := id)).own⟩⟩
  · rw [get_put, gsel_ne hne.1.symm]; exact k.blk
  · exact Sl.same k.row (Nat.le_refl _) (fun _ _ => by rw [get_put, gsel_ne hne.2.1.symm])
  · have := k.stk.of_get (h' := h.put (idV sv) ⟨2, (csOf h sv).set (elV sv + S.length) p'.enc⟩) (j := S.length) (x := p') (by simp) (Nat.le_refl _) (by rw [get_put, gsel_eq rfl])
    simp only [List.reverse_cons] at this ⊢
    rw [List.set_append_right _ _ (by simp)] at this
    simpa using this
  · rw [get_put, gsel_ne]
    rcases hi with hi | hi
    · exact absurd hi hs
    · exact hi
/-- The top taken off. -/
theorem Cur.pop {h : AH} {id : Nat} {lv sv : V} {L : List Node} {S : List Place} {p : Place} {lf : Nat} {g a : Int} (k : Cur h id lv sv L ⟨p :: S, lf, g, a⟩) : Cur (h.put id (curB lv (trunc sv S.length) ⟨S, lf, g, a⟩)) id lv (trunc sv S.length) L ⟨S, lf, g, a⟩ ∧ CurF h id sv (h.put id (curB lv (trunc sv S.length) ⟨S, lf, g, a⟩)) (trunc sv S.length) := by
  have hs : sv ≠ .ns := by
    rintro rfl
    have := k.stk.facts.len
    simp [lenV] at this; omega
  have hne : idV sv ≠ id ∧ idV sv ≠ idV lv ∧ h.lim ≤ idV sv := by
    rcases k.sne with h1 | h1
    · exact absurd h1 hs
    · exact h1
  refine ⟨⟨?_, ?_, ?_, k.pos, k.big, by have := k.sbig; simp at this ⊢; omega, k.lne, .inr (by rw [idV_trunc]; exact hne), k.lo, k.hi⟩, ⟨Nat.le_refl _, rfl, fun i _ hi _ => by rw [get_put, gsel_ne hi], .inr (.inl ⟨hs, idV_trunc⟩)⟩⟩
  · rw [get_put, gsel_eq rfl]
  · exact Sl.same k.row (Nat.le_refl _) (fun _ _ => by rw [get_put, gsel_ne k.lne])
  · have := k.stk.truncd (n := S.length) (by simp)
    simp only [List.reverse_cons] at this
    rw [List.take_left' (by simp)] at this
    exact Sl.same this (Nat.le_refl _) (fun _ _ => by rw [get_put, gsel_ne (by rw [idV_trunc]; exact hne.1)])
theorem top_nth {p : Place} {S : List Place} : nth (p :: S).reverse S.length = p := by simp [nth, List.getD]
theorem Cur.lim_le {h : AH} {id : Nat} {lv sv : V} {L : List Node} {c : Cs} (k : Cur h id lv sv L c) : h.lim ≤ h.next := by
  have := k.lo; have := k.hi; omega
theorem step_ev {h : AH} {id : Nat} {lv sv : V} {L : List Node} {c : Cs} (k : Cur h id lv sv L c) (hlf : c.leaf < L.length) (hok : stpOk L (c.leaf + 1) c.S) :
    Ev tp i_cursor_Cursor_step [.p id 0 0] h (fun r h' => r = .tup [] ∧ ∃ sv', Cur h' id lv sv' L ⟨(stp L (c.leaf + 1) c.S).1, (stp L (c.leaf + 1) c.S).2, 0, c.at_⟩ ∧ CurF h id sv h' sv') := by
  have k0 := k
  obtain ⟨kb, kr, ks, kp, kbig, ksb, klne, ksne, klo, khi⟩ := k
  simp only [curB] at kb
  refine Ev_of fn_cursor_Cursor_step (by simp [t_cursor_Cursor_step]) ?_; unfold t_cursor_Cursor_step
  simp (disch := omega) only [go_sem, ↓reduceIte, Nat.reduceEqDiff, Nat.reduceAdd, Nat.reduceSub, Nat.reduceLeDiff, Nat.reduceLT, List.reduceReplicate, Nat.reduceMul, Int.reduceNeg, reduceCtorEq, *,  cursor_Cursor_step_0, cursor_Cursor_step_1, cursor_Cursor_step_2, cursor_Cursor_step_3, cursor_Cursor_step_4, cursor_Cursor_step_5, cursor_Cursor_step_6, cursor_Cursor_step_7, cursor_Cursor_step_8, cursor_Cursor_step_9, cursor_Cursor_step_11]
  refine WC_loop_n (fun n e h' => ∃ (S : List Place) (sv' : V), n = S.length ∧ e 0 = .p id 0 0 ∧ e 2 = .i .i64 ((c.leaf : Int) + 1) ∧ Cur h' id lv sv' L ⟨S, c.leaf, 0, c.at_⟩ ∧ CurF h id sv h' sv' ∧ stpOk L (c.leaf + 1) S ∧ stp L (c.leaf + 1) S = stp L (c.leaf + 1) c.S) ?_ _ _ _ ⟨c.S, sv, rfl, ?_⟩
  · rintro n e h' ⟨S, sv', rfl, e0, e2, k', f', ok, hz⟩ ih
    have k1 := k'
    obtain ⟨kb, kr, ks, kp, kbig, ksb, klne, ksne, klo, khi⟩ := k'
    obtain ⟨hlen, hbig, hlt, hget, hat, hrow⟩ := kr.facts
    obtain ⟨glen, gbig, glt, gget, gat, grow⟩ := ks.facts
    have grl := fun (hj : 0 < S.length) => ks.rowlt (j := S.length - 1) (by simp; omega)
    have spre := ks.pre
    simp only [List.length_reverse] at glen gbig glt gget gat grow grl spre ksb
    simp only [curB] at kb
    rw [cursor_Cursor_step_10_go]
    simp (disch := omega) only [go_sem, ↓reduceIte, Nat.reduceEqDiff, Nat.reduceAdd, Nat.reduceSub, Nat.reduceLeDiff, Nat.reduceLT, List.reduceReplicate, Nat.reduceMul, Int.reduceNeg, reduceCtorEq, *,  cursor_Cursor_step_2]
    refine Wb_dec (fun hc => ?_) (fun hc => ?_)
    · obtain ⟨p, r, rfl⟩ : ∃ p r, S = p :: r := by
        match S, hc with
        | [], hc => simp at hc
        | p :: r, _ => exact ⟨p, r, rfl⟩
      simp only [stpOk] at ok
      obtain ⟨o1, o2, o3, o4⟩ := ok
      rw [stp] at hz
      have tn := top_nth (p := p) (S := r)
      simp only [List.length_cons, Int.natCast_add, Int.natCast_one] at glen gbig glt gget gat grow grl spre ksb hc
      have z1 : ((r.length : Int) + 1 - 1).toNat = r.length := by omega
      have grl' := grl (by omega)
      simp only [Nat.add_sub_cancel] at grl'
      have sne : idV sv' ≠ id ∧ idV sv' ≠ idV lv ∧ h'.lim ≤ idV sv' := by
        rcases ksne with h1 | h1
        · subst h1; simp [lenV] at glen; omega
        · exact h1
      have kt := Cur.top (p' := ⟨p.at_, p.left - 1⟩) k1
      simp (disch := omega) only [go_sem, ↓reduceIte, Nat.reduceEqDiff, Nat.reduceAdd, Nat.reduceSub, Nat.reduceLeDiff, Nat.reduceLT, List.reduceReplicate, Nat.reduceMul, Int.reduceNeg, reduceCtorEq, *,  cursor_Cursor_step_3, cursor_Cursor_step_4, cursor_Cursor_step_5, get_set_self, List.set_set]
      refine Wb_dec (fun hc2 => ?_) (fun hc2 => ?_)
      · rw [if_pos hc2] at o4 hz
        have kl : h'.lim ≤ h'.next := k1.lim_le
        simp (disch := omega) only [go_sem, ↓reduceIte, Nat.reduceEqDiff, Nat.reduceAdd, Nat.reduceSub, Nat.reduceLeDiff, Nat.reduceLT, List.reduceReplicate, Nat.reduceMul, Int.reduceNeg, reduceCtorEq, *,  cursor_Cursor_step_6, get_set_self]
        refine Wb_dec (fun hc3 => ?_) (fun hc3 => ?_)
        · rw [if_pos hc3] at o4 hz
          simp (disch := omega) only [go_sem, ↓reduceIte, Nat.reduceEqDiff, Nat.reduceAdd, Nat.reduceSub, Nat.reduceLeDiff, Nat.reduceLT, List.reduceReplicate, Nat.reduceMul, Int.reduceNeg, reduceCtorEq, *,  cursor_Cursor_step_7, cursor_Cursor_step_8, get_set_self]
          refine Ev.imp (down_ev (a := p.at_ + 1) (by simp only [lim_put, next_put]; exact kl) kt.1 o4.1 o4.2) ?_
          rintro _ h2 ⟨rfl, sv2, c2, f2⟩
          simp (disch := omega) only [go_sem, ↓reduceIte, Nat.reduceEqDiff, Nat.reduceAdd, Nat.reduceSub, Nat.reduceLeDiff, Nat.reduceLT, List.reduceReplicate, Nat.reduceMul, Int.reduceNeg, reduceCtorEq, *]
          rw [← hz]
          exact ⟨sv2, c2, f'.trans (kt.2.trans f2)⟩
        · rw [if_neg hc3] at o4 hz
          simp (disch := omega) only [go_sem, ↓reduceIte, Nat.reduceEqDiff, Nat.reduceAdd, Nat.reduceSub, Nat.reduceLeDiff, Nat.reduceLT, List.reduceReplicate, Nat.reduceMul, Int.reduceNeg, reduceCtorEq, *,  cursor_Cursor_step_8, get_set_self]
          refine Ev.imp (down_ev (a := c.leaf + 1) (by simp only [lim_put, next_put]; exact kl) kt.1 o4.1 o4.2) ?_
          rintro _ h2 ⟨rfl, sv2, c2, f2⟩
          simp (disch := omega) only [go_sem, ↓reduceIte, Nat.reduceEqDiff, Nat.reduceAdd, Nat.reduceSub, Nat.reduceLeDiff, Nat.reduceLT, List.reduceReplicate, Nat.reduceMul, Int.reduceNeg, reduceCtorEq, *]
          rw [← hz]
          exact ⟨sv2, c2, f'.trans (kt.2.trans f2)⟩
      · rw [if_neg hc2] at o4 hz
        have kq := Cur.pop kt.1
        have hct := cells_trunc (n := r.length) ks.cells
        have hcs := Sl.cell ks
        simp (disch := omega) only [go_sem, ↓reduceIte, Nat.reduceEqDiff, Nat.reduceAdd, Nat.reduceSub, Nat.reduceLeDiff, Nat.reduceLT, List.reduceReplicate, Nat.reduceMul, Int.reduceNeg, reduceCtorEq, *,  cursor_Cursor_step_9, slc_2]
        refine ih _ _ _ ?_ ⟨r, trunc sv' r.length, rfl, ?_⟩
        · simp
        · simp (disch := omega) only [go_sem, ↓reduceIte, Nat.reduceEqDiff, Nat.reduceAdd, Nat.reduceSub, Nat.reduceLeDiff, Nat.reduceLT, List.reduceReplicate, Nat.reduceMul, Int.reduceNeg, reduceCtorEq, *]
          exact ⟨kq.1, f'.trans (kt.2.trans kq.2)⟩
    · have hS : S = [] := by
        match S, hc with
        | [], hc => rfl
        | p :: r, hc => simp at hc
      subst hS
      rw [stp] at hz
      simp (disch := omega) only [go_sem, ↓reduceIte, Nat.reduceEqDiff, Nat.reduceAdd, Nat.reduceSub, Nat.reduceLeDiff, Nat.reduceLT, List.reduceReplicate, Nat.reduceMul, Int.reduceNeg, reduceCtorEq, *,  cursor_Cursor_step_11]
      rw [← hz]
      exact ⟨sv', Cur.put (c' := ⟨[], L.length, 0, c.at_⟩) k1 rfl, f'.trans CurF.put⟩
  · simp (disch := omega) only [go_sem, ↓reduceIte, Nat.reduceEqDiff, Nat.reduceAdd, Nat.reduceSub, Nat.reduceLeDiff, Nat.reduceLT, List.reduceReplicate, Nat.reduceMul, Int.reduceNeg, reduceCtorEq, *]
    exact ⟨Cur.put (c' := ⟨c.S, c.leaf, 0, c.at_⟩) k0 rfl, CurF.put⟩
end Go.Ab.T
namespace Go.Ab.T
open Go Go.Ab
set_option linter.unusedSimpArgs false
set_option linter.unusedVariables false
set_option maxHeartbeats 1000000
theorem curAt_ev {h : AH} {id : Nat} {lv sv : V} {L : List Node} {c : Cs} (k : Cur h id lv sv L c) : Ev tp i_cursor_Cursor_At [.p id 0 0] h (fun r h' => r = .i .i64 c.at_ ∧ h' = h) := by
  have kb := k.blk
  simp only [curB] at kb
  refine Ev_of fn_cursor_Cursor_At (by simp [t_cursor_Cursor_At]) ?_; unfold t_cursor_Cursor_At
  simp (disch := omega) only [go_sem, ↓reduceIte, Nat.reduceEqDiff, Nat.reduceAdd, Nat.reduceSub, Nat.reduceLeDiff, Nat.reduceLT, List.reduceReplicate, Nat.reduceMul, Int.reduceNeg, reduceCtorEq, *,  cursor_Cursor_At_0, cursor_Cursor_At_1]
theorem curAt_evB {h : AH} {id : Nat} {lv sv : V} {c : Cs} (kb : h.get id = some (curB lv sv c)) : Ev tp i_cursor_Cursor_At [.p id 0 0] h (fun r h' => r = .i .i64 c.at_ ∧ h' = h) := by
  simp only [curB] at kb
  refine Ev_of fn_cursor_Cursor_At (by simp [t_cursor_Cursor_At]) ?_; unfold t_cursor_Cursor_At
  simp (disch := omega) only [go_sem, ↓reduceIte, Nat.reduceEqDiff, Nat.reduceAdd, Nat.reduceSub, Nat.reduceLeDiff, Nat.reduceLT, List.reduceReplicate, Nat.reduceMul, Int.reduceNeg, reduceCtorEq, *,  cursor_Cursor_At_0, cursor_Cursor_At_1]
def lf (L : List Node) (c : Cs) : Node := nth L c.leaf
structure CurOk (L : List Node) (c : Cs) : Prop where
  stp : stpOk L (c.leaf + 1) c.S
  gone : 0 ≤ c.gone ∧ c.gone < (lf L c).n ∧ (lf L c).n ≤ 4611686018427387904
  at_ : 0 ≤ c.at_ ∧ c.at_ ≤ 4611686018427387903
def nextC (L : List Node) (c : Cs) : Cs := ⟨(stp L (c.leaf + 1) c.S).1, (stp L (c.leaf + 1) c.S).2, 0, c.at_ + ((lf L c).n - c.gone)⟩
theorem curNext_end {h : AH} {id : Nat} {lv sv : V} {L : List Node} {c : Cs} (k : Cur h id lv sv L c) (hl : L.length ≤ c.leaf) :
    Ev tp i_cursor_Cursor_Next [.p id 0 0] h (fun r h' => r = .tup [.agg (Run.enc ⟨0, 0⟩), .b false] ∧ Ext h h') := by
  have kb := k.blk
  have kl := k.lim_le
  have khi := k.hi
  have hlen := k.row.facts.len
  simp only [curB] at kb
  refine Ev_of fn_cursor_Cursor_Next (by simp [t_cursor_Cursor_Next]) ?_; unfold t_cursor_Cursor_Next
  simp (disch := omega) only [go_sem, ↓reduceIte, Nat.reduceEqDiff, Nat.reduceAdd, Nat.reduceSub, Nat.reduceLeDiff, Nat.reduceLT, List.reduceReplicate, Nat.reduceMul, Int.reduceNeg, reduceCtorEq, *,  cursor_Cursor_Next_0, cursor_Cursor_Next_1, cursor_Cursor_Next_2, cursor_Cursor_Next_3, cursor_Cursor_Next_4, cursor_Cursor_Next_5, cursor_Cursor_Next_6]
  refine Wb_dec (fun hc => ?_) (fun hc => by omega)
  simp (disch := omega) only [go_sem, ↓reduceIte, Nat.reduceEqDiff, Nat.reduceAdd, Nat.reduceSub, Nat.reduceLeDiff, Nat.reduceLT, List.reduceReplicate, Nat.reduceMul, Int.reduceNeg, reduceCtorEq, *,  cursor_Cursor_Next_0, cursor_Cursor_Next_1, cursor_Cursor_Next_2, cursor_Cursor_Next_3, cursor_Cursor_Next_4, cursor_Cursor_Next_5, cursor_Cursor_Next_6, fillP, resOf, rvs, rvOf, Run.enc]
  exact ((Ext.refl h).alloc _).put _ _ (Nat.le_refl _)
theorem Cur.put_other {h : AH} {id : Nat} {lv sv : V} {L : List Node} {c : Cs} (k : Cur h id lv sv L c) {j : Nat} {b : Blk} (h1 : id ≠ j) (h2 : idV lv ≠ j) (h3 : sv = .ns ∨ idV sv ≠ j) : Cur (h.put j b) id lv sv L c := by
  refine ⟨by rw [get_put, gsel_ne h1]; exact k.blk, ?_, ?_, k.pos, k.big, k.sbig, k.lne, k.sne, k.lo, k.hi⟩
  · exact Sl.same k.row (Nat.le_refl _) (fun _ _ => by rw [get_put, gsel_ne h2])
  · refine Sl.same k.stk (Nat.le_refl _) (fun hv _ => ?_)
    rcases h3 with h3 | h3
    · exact absurd h3 hv
    · rw [get_put, gsel_ne h3]
theorem Ext.toF {h h' : AH} {id : Nat} {sv : V} (x : Ext h h') : CurF h id sv h' sv := CurF.refl.ext x
theorem curNext_ev {h : AH} {id : Nat} {lv sv : V} {L : List Node} {c : Cs} (k : Cur h id lv sv L c) (hl : c.leaf < L.length) (hok : CurOk L c) :
    Ev tp i_cursor_Cursor_Next [.p id 0 0] h (fun r h' => r = .tup [.agg (Run.enc ⟨partR (lf L c), (lf L c).n - c.gone⟩), .b true] ∧ ∃ sv', Cur h' id lv sv' L (nextC L c) ∧ CurF h id sv h' sv') := by
  have k0 := k
  obtain ⟨o1, o2, o3⟩ := hok
  obtain ⟨kb, kr, ks, kp, kbig, ksb, klne, ksne, klo, khi⟩ := k
  obtain ⟨hlen, hbig, hlt, hget, hat, hrow⟩ := kr.facts
  simp only [curB] at kb
  unfold lf at o2
  refine Ev_of fn_cursor_Cursor_Next (by simp [t_cursor_Cursor_Next]) ?_; unfold t_cursor_Cursor_Next
  simp (disch := omega) only [go_sem, ↓reduceIte, Nat.reduceEqDiff, Nat.reduceAdd, Nat.reduceSub, Nat.reduceLeDiff, Nat.reduceLT, List.reduceReplicate, Nat.reduceMul, Int.reduceNeg, reduceCtorEq, *,  cursor_Cursor_Next_0, cursor_Cursor_Next_1, cursor_Cursor_Next_2, cursor_Cursor_Next_3, cursor_Cursor_Next_4, cursor_Cursor_Next_5, cursor_Cursor_Next_6]
  refine Wb_dec (fun hc => by omega) (fun hc => ?_)
  simp (disch := omega) only [go_sem, ↓reduceIte, Nat.reduceEqDiff, Nat.reduceAdd, Nat.reduceSub, Nat.reduceLeDiff, Nat.reduceLT, List.reduceReplicate, Nat.reduceMul, Int.reduceNeg, reduceCtorEq, *,  cursor_Cursor_Next_0, cursor_Cursor_Next_1, cursor_Cursor_Next_2, cursor_Cursor_Next_3, cursor_Cursor_Next_4, cursor_Cursor_Next_5, cursor_Cursor_Next_6]
  refine Ev.imp part_ev ?_
  rintro _ h2 ⟨rfl, hx2⟩
  have g2 : ∀ i, i < h.next → h2.get i = h.get i := fun i hi => (hx2.get i (by simp only [next_raise, next_alloc]; omega)).trans (by rw [get_raise, get_alloc, gsel_ne (by omega)])
  have n2 : h.next + 1 ≤ h2.next := by have := hx2.next; simpa only [next_raise, next_alloc] using this
  have b2 : h2.get h.next = some ⟨2, [[.i .i64 0, .i .i64 0]]⟩ := (hx2.get _ (by simp only [next_raise, next_alloc]; omega)).trans (by rw [get_raise, get_alloc, gsel_eq rfl])
  have l1 := hlt kp
  simp (disch := omega) only [go_sem, ↓reduceIte, Nat.reduceEqDiff, Nat.reduceAdd, Nat.reduceSub, Nat.reduceLeDiff, Nat.reduceLT, List.reduceReplicate, Nat.reduceMul, Int.reduceNeg, reduceCtorEq, *,  cursor_Cursor_Next_0, cursor_Cursor_Next_1, cursor_Cursor_Next_2, cursor_Cursor_Next_3, cursor_Cursor_Next_4, cursor_Cursor_Next_5, cursor_Cursor_Next_6, fillP]
  have x3 : Ext h (((h2.back h.lim).alloc ⟨2, [[.i .i64 0, .i .i64 0]]⟩).put h2.next ⟨2, [[.i .i64 (partR (nth L c.leaf)), .i .i64 ((nth L c.leaf).n - c.gone)]]⟩) := by
    refine Ext.put (Ext.alloc ?_ _) _ _ (by omega)
    exact ⟨by rw [next_back]; omega, lim_back, fun i hi => by rw [get_back]; exact g2 i hi⟩
  have k3 := Cur.put (c' := ⟨c.S, c.leaf, c.gone, c.at_ + ((nth L c.leaf).n - c.gone)⟩) (k0.ext x3) rfl
  refine Ev.imp (step_ev k3 hl o1) ?_
  rintro _ h4 ⟨rfl, sv4, c4, f4⟩
  have xb : ∀ i, i < h2.next + 1 → i ≠ id → (sv = .ns ∨ i ≠ idV sv) → h4.get i = gsel i h2.next (some ⟨2, [[.i .i64 (partR (nth L c.leaf)), .i .i64 ((nth L c.leaf).n - c.gone)]]⟩) (h2.get i) := by
    intro i hi hne hs
    rw [f4.get i (by rw [next_put, next_put, next_alloc, next_back]; exact hi) hne hs, get_put, gsel_ne hne, get_put]
    by_cases hq : i = h2.next
    · rw [gsel_eq hq, gsel_eq hq]
    · rw [gsel_ne hq, gsel_ne hq, get_alloc, next_back, gsel_ne hq, get_back]
  have svlt : sv = .ns ∨ idV sv < h.next := by
    by_cases hs : sv = .ns
    · exact .inl hs
    · exact .inr (idV_ns_lt ks hs)
  have y1 := xb h2.next (by omega) (by omega) (svlt.imp (fun x => x) (fun x => by omega))
  rw [gsel_eq rfl] at y1
  have y2 := xb h.next (by omega) (by omega) (svlt.imp (fun x => x) (fun x => by omega))
  rw [gsel_ne (by omega), b2] at y2
  have l4 := f4.lim
  have n4 := f4.next
  simp only [lim_put, lim_alloc, lim_back, next_put, next_alloc, next_back] at l4 n4
  simp (disch := omega) only [go_sem, ↓reduceIte, Nat.reduceEqDiff, Nat.reduceAdd, Nat.reduceSub, Nat.reduceLeDiff, Nat.reduceLT, List.reduceReplicate, Nat.reduceMul, Int.reduceNeg, reduceCtorEq, *,  cursor_Cursor_Next_0, cursor_Cursor_Next_1, cursor_Cursor_Next_2, cursor_Cursor_Next_3, cursor_Cursor_Next_4, cursor_Cursor_Next_5, cursor_Cursor_Next_6, resOf, rvs, rvOf, Run.enc]
  refine ⟨by simp [lf], sv4, ?_, ?_⟩
  · refine Cur.put_other c4 (by omega) (by omega) ?_
    rcases f4.own with h1 | ⟨h0, h1⟩ | h1
    · exact .inl h1
    · rcases svlt with h2 | h2
      · exact absurd h2 h0
      · exact .inr (by omega)
    · simp only [next_put, next_alloc, next_back] at h1
      exact .inr (by omega)
  · refine ⟨by rw [next_put]; omega, by rw [lim_put]; exact l4, fun i hi hne hs => ?_, ?_⟩
    · rw [get_put, gsel_ne (by omega), xb i (by omega) hne hs, gsel_ne (by omega), g2 i hi]
    · rcases f4.own with h1 | h1 | h1
      · exact .inl h1
      · exact .inr (.inl h1)
      · simp only [next_put, next_alloc, next_back] at h1
        exact .inr (.inr (by omega))
theorem curTick_end {h : AH} {id : Nat} {lv sv : V} {L : List Node} {c : Cs} (k : Cur h id lv sv L c) (hl : L.length ≤ c.leaf) :
    Ev tp i_cursor_Cursor_Tick [.p id 0 0] h (fun r h' => r = .tup [.i .i64 (-1), .b false] ∧ h' = h) := by
  have kb := k.blk
  have hlen := k.row.facts.len
  simp only [curB] at kb
  refine Ev_of fn_cursor_Cursor_Tick (by simp [t_cursor_Cursor_Tick]) ?_; unfold t_cursor_Cursor_Tick
  simp (disch := omega) only [go_sem, ↓reduceIte, Nat.reduceEqDiff, Nat.reduceAdd, Nat.reduceSub, Nat.reduceLeDiff, Nat.reduceLT, List.reduceReplicate, Nat.reduceMul, Int.reduceNeg, reduceCtorEq, *,  cursor_Cursor_Tick_0, cursor_Cursor_Tick_1, cursor_Cursor_Tick_2, cursor_Cursor_Tick_3, cursor_Cursor_Tick_4, cursor_Cursor_Tick_5, cursor_Cursor_Tick_6, cursor_Cursor_Tick_7, cursor_Cursor_Tick_8]
  refine Wb_dec (fun hc => ?_) (fun hc => by omega)
  simp (disch := omega) only [go_sem, ↓reduceIte, Nat.reduceEqDiff, Nat.reduceAdd, Nat.reduceSub, Nat.reduceLeDiff, Nat.reduceLT, List.reduceReplicate, Nat.reduceMul, Int.reduceNeg, reduceCtorEq, *,  cursor_Cursor_Tick_0, cursor_Cursor_Tick_1, cursor_Cursor_Tick_2, cursor_Cursor_Tick_3, cursor_Cursor_Tick_4, cursor_Cursor_Tick_5, cursor_Cursor_Tick_6, cursor_Cursor_Tick_7, cursor_Cursor_Tick_8]
def tickC (L : List Node) (c : Cs) : Cs := if c.gone + 1 = (lf L c).n then ⟨(stp L (c.leaf + 1) c.S).1, (stp L (c.leaf + 1) c.S).2, 0, c.at_ + 1⟩ else ⟨c.S, c.leaf, c.gone + 1, c.at_ + 1⟩
theorem curTick_ev {h : AH} {id : Nat} {lv sv : V} {L : List Node} {c : Cs} (k : Cur h id lv sv L c) (hl : c.leaf < L.length) (hok : CurOk L c) :
    Ev tp i_cursor_Cursor_Tick [.p id 0 0] h (fun r h' => r = .tup [.i .i64 (partR (lf L c)), .b true] ∧ ∃ sv', Cur h' id lv sv' L (tickC L c) ∧ CurF h id sv h' sv') := by
  have k0 := k
  obtain ⟨o1, o2, o3⟩ := hok
  obtain ⟨kb, kr, ks, kp, kbig, ksb, klne, ksne, klo, khi⟩ := k
  obtain ⟨hlen, hbig, hlt, hget, hat, hrow⟩ := kr.facts
  have kl := k0.lim_le
  simp only [curB] at kb
  unfold lf at o2
  refine Ev_of fn_cursor_Cursor_Tick (by simp [t_cursor_Cursor_Tick]) ?_; unfold t_cursor_Cursor_Tick
  simp (disch := omega) only [go_sem, ↓reduceIte, Nat.reduceEqDiff, Nat.reduceAdd, Nat.reduceSub, Nat.reduceLeDiff, Nat.reduceLT, List.reduceReplicate, Nat.reduceMul, Int.reduceNeg, reduceCtorEq, *,  cursor_Cursor_Tick_0, cursor_Cursor_Tick_1, cursor_Cursor_Tick_2, cursor_Cursor_Tick_3, cursor_Cursor_Tick_4, cursor_Cursor_Tick_5, cursor_Cursor_Tick_6, cursor_Cursor_Tick_7, cursor_Cursor_Tick_8]
  refine Wb_dec (fun hc => by omega) (fun hc => ?_)
  simp (disch := omega) only [go_sem, ↓reduceIte, Nat.reduceEqDiff, Nat.reduceAdd, Nat.reduceSub, Nat.reduceLeDiff, Nat.reduceLT, List.reduceReplicate, Nat.reduceMul, Int.reduceNeg, reduceCtorEq, *,  cursor_Cursor_Tick_0, cursor_Cursor_Tick_1, cursor_Cursor_Tick_2, cursor_Cursor_Tick_3, cursor_Cursor_Tick_4, cursor_Cursor_Tick_5, cursor_Cursor_Tick_6, cursor_Cursor_Tick_7, cursor_Cursor_Tick_8]
  refine Ev.imp part_ev ?_
  rintro _ h2 ⟨rfl, hx2⟩
  have x3 : Ext h (h2.back h.lim) := hx2.back
  have k3 := k0.ext x3
  generalize h2.back h.lim = h3 at x3 k3
  have l3 := x3.lim
  have k4 := k3
  obtain ⟨kb, kr, ks, kp, kbig, ksb, klne, ksne, klo, khi⟩ := k3
  obtain ⟨hlen, hbig, hlt, hget, hat, hrow⟩ := kr.facts
  simp only [curB] at kb
  simp (disch := omega) only [go_sem, ↓reduceIte, Nat.reduceEqDiff, Nat.reduceAdd, Nat.reduceSub, Nat.reduceLeDiff, Nat.reduceLT, List.reduceReplicate, Nat.reduceMul, Int.reduceNeg, reduceCtorEq, *,  cursor_Cursor_Tick_0, cursor_Cursor_Tick_1, cursor_Cursor_Tick_2, cursor_Cursor_Tick_3, cursor_Cursor_Tick_4, cursor_Cursor_Tick_5, cursor_Cursor_Tick_6, cursor_Cursor_Tick_7, cursor_Cursor_Tick_8]
  refine Wb_dec (fun hc2 => ?_) (fun hc2 => ?_)
  · have k5 := Cur.put (c' := ⟨c.S, c.leaf, (nth L c.leaf).n, c.at_ + 1⟩) k4 rfl
    simp (disch := omega) only [go_sem, ↓reduceIte, Nat.reduceEqDiff, Nat.reduceAdd, Nat.reduceSub, Nat.reduceLeDiff, Nat.reduceLT, List.reduceReplicate, Nat.reduceMul, Int.reduceNeg, reduceCtorEq, *,  cursor_Cursor_Tick_0, cursor_Cursor_Tick_1, cursor_Cursor_Tick_2, cursor_Cursor_Tick_3, cursor_Cursor_Tick_4, cursor_Cursor_Tick_5, cursor_Cursor_Tick_6, cursor_Cursor_Tick_7, cursor_Cursor_Tick_8]
    refine Ev.imp (step_ev k5 hl o1) ?_
    rintro _ h6 ⟨rfl, sv6, c6, f6⟩
    simp (disch := omega) only [go_sem, ↓reduceIte, Nat.reduceEqDiff, Nat.reduceAdd, Nat.reduceSub, Nat.reduceLeDiff, Nat.reduceLT, List.reduceReplicate, Nat.reduceMul, Int.reduceNeg, reduceCtorEq, *,  cursor_Cursor_Tick_0, cursor_Cursor_Tick_1, cursor_Cursor_Tick_2, cursor_Cursor_Tick_3, cursor_Cursor_Tick_4, cursor_Cursor_Tick_5, cursor_Cursor_Tick_6, cursor_Cursor_Tick_7, cursor_Cursor_Tick_8]
    refine ⟨by simp [lf], sv6, ?_, (Ext.toF x3).trans (CurF.put.trans f6)⟩
    unfold tickC
    rw [if_pos (show c.gone + 1 = (lf L c).n from hc2)]; exact c6
  · simp (disch := omega) only [go_sem, ↓reduceIte, Nat.reduceEqDiff, Nat.reduceAdd, Nat.reduceSub, Nat.reduceLeDiff, Nat.reduceLT, List.reduceReplicate, Nat.reduceMul, Int.reduceNeg, reduceCtorEq, *,  cursor_Cursor_Tick_0, cursor_Cursor_Tick_1, cursor_Cursor_Tick_2, cursor_Cursor_Tick_3, cursor_Cursor_Tick_4, cursor_Cursor_Tick_5, cursor_Cursor_Tick_6, cursor_Cursor_Tick_7, cursor_Cursor_Tick_8]
    refine ⟨by simp [lf], sv, ?_, (Ext.toF x3).trans CurF.put⟩
    unfold tickC
    rw [if_neg (show ¬ c.gone + 1 = (lf L c).n from hc2)]; exact Cur.put (c' := ⟨c.S, c.leaf, c.gone + 1, c.at_ + 1⟩) k4 rfl
end Go.Ab.T
namespace Go.Ab.T
open Go Go.Ab
set_option linter.unusedSimpArgs false
set_option linter.unusedVariables false
namespace Fo
def hd : Fo → Fo
  | nil => nil
  | leaf x _ => leaf x nil
  | seq x k _ => seq x k nil
  | rep x k _ => rep x k nil
def tl : Fo → Fo
  | nil => nil
  | leaf _ r => r
  | seq _ _ r => r
  | rep _ _ r => r
theorem flat_hd : ∀ (f : Fo), f.flat = f.hd.flat ++ f.tl.flat
  | nil => rfl
  | leaf _ _ => by simp [flat, hd, tl]
  | seq _ _ _ => by simp [flat, hd, tl]
  | rep _ _ _ => by simp [flat, hd, tl]
theorem runs_hd : ∀ (f : Fo), f.runs = f.hd.runs ++ f.tl.runs
  | nil => rfl
  | leaf _ _ => by simp [runs, hd, tl]
  | seq _ _ _ => by simp [runs, hd, tl]
  | rep _ _ _ => by simp [runs, hd, tl]
theorem count_tl : ∀ (f : Fo), 0 < f.count → f.tl.count + 1 = f.count
  | nil, h => by simp [count] at h
  | leaf _ _, _ => rfl
  | seq _ _ _, _ => rfl
  | rep _ _ _, _ => rfl
theorem ok_tl : ∀ (f : Fo), f.ok → f.tl.ok
  | nil, _ => trivial
  | leaf _ _, h => h.2
  | seq _ _ _, h => h.2.2.2.2
  | rep _ _ _, h => h.2.2.2.2
theorem len_tl : ∀ (f : Fo), f.ok → f.tl.len ≤ f.len
  | nil, _ => by simp [tl]
  | leaf x r, ho => by
    have := kids_n (x := x) (by rw [ho.1]; omega)
    simp only [tl, len]; omega
  | seq x k r, ho => by
    have := (len_pos k ho.2.2.2.1).1
    simp only [tl, len]; omega
  | rep x k r, ho => by
    have := rep_n ho
    simp only [tl, len]; omega
theorem hd_of_one {f : Fo} (h : f.count = 1) : f.hd = f := by
  cases f <;> simp [count] at h <;> simp [hd, nil_of h]
end Fo
def sumN : List Run → Int
  | [] => 0
  | r :: l => r.n + sumN l
theorem sumN_app : ∀ (a b : List Run), sumN (a ++ b) = sumN a + sumN b
  | [], b => by simp [sumN]
  | r :: l, b => by simp only [List.cons_append, sumN, sumN_app l b]; omega
theorem sumN_rep (l : List Run) : ∀ (m : Nat), sumN (List.replicate m l).flatten = m * sumN l
  | 0 => by simp [sumN]
  | m + 1 => by rw [List.replicate_succ, List.flatten_cons, sumN_app, sumN_rep l m, Int.natCast_add, Int.add_mul]; simp; omega
theorem Fo.runs_sum : ∀ (f : Fo), f.ok → sumN f.runs = f.len
  | .nil, _ => rfl
  | .leaf x r, ho => by simp only [Fo.runs, Fo.len, sumN, Fo.runs_sum r ho.2]
  | .seq x k r, ho => by simp only [Fo.runs, Fo.len, sumN_app, Fo.runs_sum k ho.2.2.2.1, Fo.runs_sum r ho.2.2.2.2]
  | .rep x k r, ho => by
    have hn := kids_n (x := x) (by rw [ho.2.1]; omega)
    simp only [Fo.runs, Fo.len, sumN_app, sumN_rep, Fo.runs_sum k ho.2.2.2.1, Fo.runs_sum r ho.2.2.2.2]
    rw [Int.toNat_of_nonneg (by omega)]
/-- What comes behind a tree that ends at a place. -/
inductive Z (L : List Node) : List Place → Nat → List Run → Prop where
  | nil (n : Nat) : Z L [] n []
  | seq (a : Nat) (S : List Place) (n : Nat) (g : Fo) (R : List Node) (l : List Run) : (nth L a).kind = 3 → a < n → a < L.length → S.length ≤ a → g.ok → g.count ≤ 128 → g.len ≤ 4611686018427387904 → L.drop n = g.flat ++ R → Z L S (n + g.flat.length) l → Z L (⟨a, (g.count : Int) + 1⟩ :: S) n (g.runs ++ l)
  | rep (a : Nat) (S : List Place) (k : Fo) (R : List Node) (m : Nat) (l : List Run) : (nth L a).kind = 4 → a < L.length → S.length ≤ a → k.ok → k.count = 1 → m + 1 ≤ 4611686018427387904 → k.len ≤ 4611686018427387904 → L.drop (a + 1) = k.flat ++ R → Z L S (a + 1 + k.flat.length) l → Z L (⟨a, (m : Int) + 1⟩ :: S) (a + 1 + k.flat.length) ((List.replicate m k.runs).flatten ++ l)
def D (L : List Node) (q : List Place × Nat) (l : List Run) : Prop := q.2 < L.length ∧ q.1.length ≤ q.2 ∧ kids (nth L q.2) = 0 ∧ (nth L q.2).n ≤ 4611686018427387904 ∧ ∃ l', Z L q.1 (q.2 + 1) l' ∧ l = ⟨partR (nth L q.2), (nth L q.2).n⟩ :: l'
theorem dn_tree {L : List Node} : ∀ (f : Fo) (a : Nat) (S : List Place) (l : List Run) (R : List Node), f.ok → 0 < f.count → f.len ≤ 4611686018427387904 → S.length ≤ a → L.drop a = f.flat ++ R → Z L S (a + f.hd.flat.length) l → D L (dn L a S) (f.hd.runs ++ l)
  | .nil, a, S, l, R, ho, hc, hln, hs, hd, hz => by simp [Fo.count] at hc
  | .leaf x r, a, S, l, R, ho, hc, hln, hs, hd, hz => by
    have hd' : L.drop a = x :: (r.flat ++ R) := hd
    have hx := drop_nth_eq hd'
    have ha := (drop_next hd').1
    have hk := kids_cases x (by rw [ho.1]; omega)
    rw [ho.1] at hk
    rw [dn, dif_pos ha, hx, if_neg (by omega)]
    have hlr := (Fo.len_pos r ho.2).1
    simp only [Fo.len] at hln
    refine ⟨ha, hs, by rw [hx]; exact ho.1, by rw [hx]; omega, l, hz, by rw [hx]; rfl⟩
  | .seq x k r, a, S, l, R, ho, hc, hln, hs, hd, hz => by
    have hd' : L.drop a = x :: (k.flat ++ (r.flat ++ R)) := by rw [hd]; simp [Fo.flat]
    have hx := drop_nth_eq hd'
    have ha := (drop_next hd').1
    obtain ⟨h3, hk, hp, hok, hor⟩ := ho
    have hlr := (Fo.len_pos r hor).1
    simp only [Fo.len] at hln
    rw [dn, dif_pos ha, hx, if_pos (.inl h3)]
    have hd2 := (drop_next hd').2
    have hct := Fo.count_tl k hp
    have hkb := kids_bd x
    have hxn : x.n = (k.tl.count : Int) + 1 := by
      have := (kids_all x (by omega)).1 h3; omega
    have hfl := congrArg List.length (Fo.flat_hd k)
    simp only [List.length_append] at hfl
    rw [show (Fo.seq x k r).hd.runs ++ l = k.hd.runs ++ (k.tl.runs ++ l) by rw [← List.append_assoc, ← Fo.runs_hd]; simp [Fo.hd, Fo.runs]]
    refine dn_tree k (a + 1) _ _ _ hok hp (by omega) (by simp; omega) hd2 ?_
    rw [hxn]
    refine Z.seq a S _ k.tl (r.flat ++ R) l (by rw [hx]; exact h3) (by omega) ha hs (Fo.ok_tl k hok) (by omega) (by have := Fo.len_tl k hok; omega) ?_ ?_
    · rw [Fo.flat_hd k, List.append_assoc] at hd2
      exact drop_app hd2
    · have : a + 1 + k.hd.flat.length + k.tl.flat.length = a + (Fo.seq x k r).hd.flat.length := by
        show _ = a + (x :: (k.flat ++ [])).length
        simp; omega
      rw [this]; exact hz
  | .rep x k r, a, S, l, R, ho, hc, hln, hs, hd, hz => by
    have hd' : L.drop a = x :: (k.flat ++ (r.flat ++ R)) := by rw [hd]; simp [Fo.flat]
    have hx := drop_nth_eq hd'
    have ha := (drop_next hd').1
    have hrn := rep_n ho
    obtain ⟨h4, hk, hp, hok, hor⟩ := ho
    have hlr := (Fo.len_pos r hor).1
    simp only [Fo.len] at hln
    have hm1 : x.n * 1 ≤ x.n * k.len := Int.mul_le_mul_of_nonneg_left hrn.2.1 (by omega)
    have hm2 : 1 * k.len ≤ x.n * k.len := Int.mul_le_mul_of_nonneg_right hrn.1 (by omega)
    have hm3 : x.n ≤ 4611686018427387904 := by rw [Int.mul_one] at hm1; omega
    rw [dn, dif_pos ha, hx, if_pos (.inr h4)]
    have hd2 := (drop_next hd').2
    obtain ⟨m, hm⟩ : ∃ m : Nat, x.n = (m : Int) + 1 := ⟨(x.n - 1).toNat, by omega⟩
    have h1 := Fo.hd_of_one hp
    rw [show (Fo.rep x k r).hd.runs ++ l = k.hd.runs ++ ((List.replicate m k.runs).flatten ++ l) by
      rw [h1, ← List.append_assoc]; simp only [Fo.hd, Fo.runs, List.append_nil]
      rw [show x.n.toNat = m + 1 by omega, List.replicate_succ, List.flatten_cons]]
    refine dn_tree k (a + 1) _ _ _ hok (by omega) (by omega) (by simp; omega) hd2 ?_
    rw [hm, h1]
    refine Z.rep a S k (r.flat ++ R) m l (by rw [hx]; exact h4) ha hs hok hp (by rw [hm] at hm3; omega) (by omega) hd2 ?_
    have : a + 1 + k.flat.length = a + (Fo.rep x k r).hd.flat.length := by
      show _ = a + (x :: (k.flat ++ [])).length
      simp; omega
    rw [this]; exact hz
theorem stp_ok {L : List Node} {S : List Place} {n : Nat} {l : List Run} (z : Z L S n l) : stpOk L n S ∧ ((l = [] ∧ stp L n S = ([], L.length)) ∨ D L (stp L n S) l) := by
  induction z with
  | nil n => exact ⟨trivial, .inl ⟨rfl, rfl⟩⟩
  | seq a S n g R l hk han hal hs hg hgc hgl hd hz ih =>
    by_cases hc : 0 < g.count
    · have hct := Fo.count_tl g hc
      have hfl := congrArg List.length (Fo.flat_hd g)
      simp only [List.length_append] at hfl
      have hD : D L (dn L n (⟨a, (g.count : Int)⟩ :: S)) (g.runs ++ l) := by
        rw [Fo.runs_hd, List.append_assoc]
        refine dn_tree g n _ _ R hg hc hgl (by simp; omega) hd ?_
        have hd2 := hd
        rw [Fo.flat_hd g, List.append_assoc] at hd2
        have := Z.seq a S (n + g.hd.flat.length) g.tl R l hk (by omega) hal hs (Fo.ok_tl g hg) (by omega) (by have := Fo.len_tl g hg; omega) (drop_app hd2) (by rw [Nat.add_assoc, ← hfl]; exact hz)
        rw [show ((g.tl.count : Int) + 1) = g.count by omega] at this
        exact this
      have e : (g.count : Int) + 1 - 1 = g.count := by omega
      refine ⟨⟨hal, by simp only; omega, by simp only; omega, ?_⟩, .inr ?_⟩
      · simp only [e]
        rw [if_pos (by omega), if_neg (by omega)]
        exact ⟨hD.1, by have := hD.1; have := hD.2.1; omega⟩
      · rw [stp]
        simp only [e]
        rw [if_pos (by omega), if_neg (by omega)]
        exact hD
    · have h0 : g = .nil := Fo.nil_of (by omega)
      subst h0
      simp only [Fo.count, Fo.flat, Fo.runs, List.length_nil, Nat.add_zero, List.nil_append] at hz ih ⊢
      refine ⟨⟨hal, by simp, by simp, ?_⟩, ?_⟩
      · rw [if_neg (by simp)]; exact ih.1
      · rw [stp, if_neg (by simp)]; exact ih.2
  | rep a S k R m l hk hal hs hok hkc hm hkl hd hz ih =>
    cases m with
    | zero =>
      simp only [List.replicate_zero, List.flatten_nil, List.nil_append]
      refine ⟨⟨hal, by simp, by simp, ?_⟩, ?_⟩
      · rw [if_neg (by simp)]; exact ih.1
      · rw [stp, if_neg (by simp)]; exact ih.2
    | succ m =>
      have hD : D L (dn L (a + 1) (⟨a, ((m + 1 : Nat) : Int)⟩ :: S)) ((List.replicate (m + 1) k.runs).flatten ++ l) := by
        rw [List.replicate_succ, List.flatten_cons, List.append_assoc]
        have h1 := Fo.hd_of_one hkc
        conv => arg 3; rw [← h1]
        refine dn_tree k (a + 1) _ _ R hok (by omega) hkl (by simp; omega) hd ?_
        rw [h1]
        have := Z.rep a S k R m l hk hal hs hok hkc (by omega) hkl hd hz
        simpa using this
      have e : ((m + 1 : Nat) : Int) + 1 - 1 = ((m + 1 : Nat) : Int) := by omega
      refine ⟨⟨hal, by simp only; omega, by simp only; omega, ?_⟩, .inr ?_⟩
      · simp only [e]
        rw [if_pos (by omega), if_pos hk]
        exact ⟨hD.1, by have := hD.1; have := hD.2.1; omega⟩
      · rw [stp]
        simp only [e]
        rw [if_pos (by omega), if_pos hk]
        exact hD

/-- What a cursor still has to tell: what is left of the next leaf, and all behind it. -/
structure Rem (L : List Node) (c : Cs) (l : List Run) : Prop where
  sb : c.S.length ≤ L.length
  at_ : 0 ≤ c.at_ ∧ c.at_ + sumN l ≤ 4096
  sum : 0 ≤ sumN l
  go : (l = [] ∧ c.leaf = L.length) ∨ (c.leaf < L.length ∧ kids (lf L c) = 0 ∧ 0 ≤ c.gone ∧ c.gone < (lf L c).n ∧ (lf L c).n ≤ 4611686018427387904 ∧ ∃ l', Z L c.S (c.leaf + 1) l' ∧ l = ⟨partR (lf L c), (lf L c).n - c.gone⟩ :: l')
theorem Rem.nil {L : List Node} {c : Cs} (r : Rem L c []) : c.leaf = L.length := by
  rcases r.go with h | ⟨_, _, _, _, _, l', _, h⟩
  · exact h.2
  · cases h
theorem D.rem {L : List Node} {q : List Place × Nat} {l : List Run} {a : Int} (d : D L q l) (ha : 0 ≤ a ∧ a + sumN l ≤ 4096) (hp : 0 ≤ sumN l) : Rem L ⟨q.1, q.2, 0, a⟩ l := by
  obtain ⟨h1, h2, h3, hb, l', hz, hl⟩ := d
  have hn := kids_n (x := nth L q.2) (by omega)
  exact ⟨by simp only; omega, ha, hp, .inr ⟨h1, h3, by simp, by simp only [lf]; omega, hb, l', hz, by rw [hl]; simp [lf]⟩⟩
theorem Z.sum {L : List Node} {S : List Place} {n : Nat} {l : List Run} (z : Z L S n l) : 0 ≤ sumN l := by
  induction z with
  | nil n => simp [sumN]
  | seq a S n g R l hk han hal hs hg hgc hgl hd hz ih => rw [sumN_app, Fo.runs_sum g hg]; have := (Fo.len_pos g hg).1; omega
  | rep a S k R m l hk hal hs hok hkc hm hkl hd hz ih =>
    rw [sumN_app, sumN_rep, Fo.runs_sum k hok]
    have : 0 ≤ (m : Int) * k.len := Int.mul_nonneg (by omega) (Fo.len_pos k hok).1
    omega
structure RemS (L : List Node) (c : Cs) (r : Run) (l : List Run) : Prop where
  lt : c.leaf < L.length
  ok : CurOk L c
  run : r = ⟨partR (lf L c), (lf L c).n - c.gone⟩
  pos : 1 ≤ r.n
  next : Rem L (nextC L c) l
  tick : Rem L (tickC L c) (if r.n = 1 then l else ⟨r.part, r.n - 1⟩ :: l)
theorem Rem.cons {L : List Node} {c : Cs} {r : Run} {l : List Run} (h : Rem L c (r :: l)) : RemS L c r l := by
  obtain ⟨hsb, hat, hsum, hgo⟩ := h
  rcases hgo with ⟨h, _⟩ | ⟨h1, h2, h3, h4, hb, l', hz, h5⟩
  · cases h
  · obtain ⟨rfl, rfl⟩ := List.cons.inj h5
    have hok := stp_ok hz
    have hl0 := hz.sum
    simp only [sumN] at hat hsum
    have step : ∀ a : Int, 0 ≤ a → a + sumN l ≤ 4096 → Rem L ⟨(stp L (c.leaf + 1) c.S).1, (stp L (c.leaf + 1) c.S).2, 0, a⟩ l := by
      intro a ha ha2
      rcases hok.2 with ⟨rfl, he⟩ | hd
      · rw [he]; exact ⟨by simp, by simp only [sumN]; simp only [sumN] at ha2; omega, by simp [sumN], .inl ⟨rfl, rfl⟩⟩
      · exact hd.rem ⟨ha, ha2⟩ hl0
    refine ⟨h1, ⟨hok.1, ⟨h3, h4, hb⟩, by omega⟩, rfl, by simp only; omega, step _ (by omega) (by omega), ?_⟩
    unfold tickC
    by_cases hg : c.gone + 1 = (lf L c).n
    · rw [if_pos hg, if_pos (by simp only; omega)]
      exact step _ (by omega) (by omega)
    · rw [if_neg hg, if_neg (by simp only; omega)]
      exact ⟨hsb, by simp only [sumN]; omega, by simp only [sumN]; omega, .inr ⟨h1, h2, by simp only; omega, by simp only [lf] at hg h4 ⊢; omega, hb, l, hz, by simp only [lf]; congr 2; omega⟩⟩
def cur0 (L : List Node) : Cs := ⟨(dn L 0 []).1, (dn L 0 []).2, 0, 0⟩
theorem start_D {f : Fo} (ho : f.ok) (hc : f.count = 1) (hl : f.len ≤ 4096) : D f.flat (dn f.flat 0 []) f.runs := by
  have := dn_tree (L := f.flat) f 0 [] [] [] ho (by omega) (by omega) (by simp) (by simp) (Z.nil _)
  rw [Fo.hd_of_one hc, List.append_nil] at this
  exact this
theorem start_rem {f : Fo} (ho : f.ok) (hc : f.count = 1) (hl : f.len ≤ 4096) : Rem f.flat (cur0 f.flat) f.runs := by
  have h := Fo.runs_sum f ho
  have := (Fo.len_pos f ho).1
  exact (start_D ho hc hl).rem (by omega) (by omega)
end Go.Ab.T
namespace Go.Ab.T
open Go Go.Ab
set_option linter.unusedSimpArgs false
set_option linter.unusedVariables false
set_option maxHeartbeats 1000000
theorem reset_ev {h : AH} {id : Nat} {lv sv : V} {f : Fo} {c : Cs} (k : Cur h id lv sv f.flat c) (ho : f.ok) (hc : f.count = 1) (hl : f.len ≤ 4096) :
    Ev tp i_cursor_Cursor_Reset [.p id 0 0] h (fun r h' => r = .tup [] ∧ ∃ sv', Cur h' id lv sv' f.flat (cur0 f.flat) ∧ CurF h id sv h' sv') := by
  have kb := k.blk
  have klo := k.lo
  have hD := start_D ho hc hl
  simp only [curB] at kb
  have k2 : Cur (h.put id (curB lv .ns ⟨[], c.leaf, 0, 0⟩)) id lv .ns f.flat ⟨[], c.leaf, 0, 0⟩ := by
    refine ⟨by rw [get_put, gsel_eq rfl], ?_, Sl.nil _ _, k.pos, k.big, by simp, k.lne, .inl rfl, k.lo, k.hi⟩
    exact Sl.same k.row (Nat.le_refl _) (fun _ _ => by rw [get_put, gsel_ne k.lne])
  have f2 : CurF h id sv (h.put id (curB lv .ns ⟨[], c.leaf, 0, 0⟩)) .ns := ⟨Nat.le_refl _, rfl, fun i hi hne hs => by rw [get_put, gsel_ne hne], .inl rfl⟩
  refine Ev_of fn_cursor_Cursor_Reset (by simp [t_cursor_Cursor_Reset]) ?_; unfold t_cursor_Cursor_Reset
  simp (disch := omega) only [go_sem, ↓reduceIte, Nat.reduceEqDiff, Nat.reduceAdd, Nat.reduceSub, Nat.reduceLeDiff, Nat.reduceLT, List.reduceReplicate, Nat.reduceMul, Int.reduceNeg, reduceCtorEq, *,  cursor_Cursor_Reset_0, cursor_Cursor_Reset_1]
  refine Ev.imp (down_ev (a := 0) k2.lim_le k2 hD.1 (by have := hD.1; have := hD.2.1; simp only; omega)) ?_
  rintro _ h3 ⟨rfl, sv3, c3, f3⟩
  simp (disch := omega) only [go_sem, ↓reduceIte, Nat.reduceEqDiff, Nat.reduceAdd, Nat.reduceSub, Nat.reduceLeDiff, Nat.reduceLT, List.reduceReplicate, Nat.reduceMul, Int.reduceNeg, reduceCtorEq, *,  cursor_Cursor_Reset_0, cursor_Cursor_Reset_1]
  exact ⟨sv3, c3, f2.trans f3⟩
/-- A new cursor. -/
structure NewC (h h' : AH) (L : List Node) (id : Nat) (lv sv : V) (c : Cs) : Prop where
  cur : Cur h' id lv sv L c
  ext : Ext h h'
  id_ : h.next ≤ id
  lv_ : h.next ≤ idV lv
  sv_ : sv = .ns ∨ h.next ≤ idV sv
theorem NewC.step {h h1 h2 : AH} {L : List Node} {id : Nat} {lv sv s2 : V} {c c2 : Cs} (n : NewC h h1 L id lv sv c) (k : Cur h2 id lv s2 L c2) (f : CurF h1 id sv h2 s2) : NewC h h2 L id lv s2 c2 := by
  have x := n.ext
  have := x.next; have := f.next
  have i1 := n.id_
  refine ⟨k, ⟨by omega, f.lim.trans x.lim, fun i hi => ?_⟩, n.id_, n.lv_, ?_⟩
  · rw [f.get i (by omega) (by omega) (n.sv_.imp (fun x => x) (fun x => by omega)), x.get i hi]
  · rcases f.own with h1 | ⟨h0, h1⟩ | h1
    · exact .inl h1
    · rcases n.sv_ with h2 | h2
      · exact absurd h2 h0
      · exact .inr (by omega)
    · exact .inr (by omega)
theorem NewC.grow {h h1 h2 : AH} {L : List Node} {id : Nat} {lv sv : V} {c : Cs} (n : NewC h h1 L id lv sv c) (x : Ext h1 h2) : NewC h h2 L id lv sv c :=
  ⟨n.cur.ext x, n.ext.trans x, n.id_, n.lv_, n.sv_⟩
theorem new_ev {h : AH} {v : V} {L : List Node} (hw : h.lim ≤ h.next) (hS : SlT Node.enc h 3 v L) (hLb : L.length < 4000000000) : Ev tp i_cursor_New [v] h (fun r h' => (rightR L ≠ 0 ∧ r = .np ∧ Ext h h') ∨ (rightR L = 0 ∧ ∃ id lv sv, r = .p id 0 0 ∧ NewC h h' L id lv sv (cur0 L))) := by
  refine Ev_of fn_cursor_New (by simp [t_cursor_New]) ?_; unfold t_cursor_New
  simp (disch := omega) only [go_sem, ↓reduceIte, Nat.reduceEqDiff, Nat.reduceAdd, Nat.reduceSub, Nat.reduceLeDiff, Nat.reduceLT, List.reduceReplicate, Nat.reduceMul, Int.reduceNeg, reduceCtorEq, *,  cursor_New_0, cursor_New_1]
  refine Ev.imp (nodeRight_ev hw hS hLb) ?_
  rintro _ h2 ⟨rfl, hx2⟩
  have hn2 := hx2.next
  have hl2 := hx2.lim
  simp (disch := omega) only [go_sem, ↓reduceIte, Nat.reduceEqDiff, Nat.reduceAdd, Nat.reduceSub, Nat.reduceLeDiff, Nat.reduceLT, List.reduceReplicate, Nat.reduceMul, Int.reduceNeg, reduceCtorEq, *,  cursor_New_1]
  refine Wb_dec (fun hc => ?_) (fun hc => ?_)
  · simp (disch := omega) only [go_sem, ↓reduceIte, Nat.reduceEqDiff, Nat.reduceAdd, Nat.reduceSub, Nat.reduceLeDiff, Nat.reduceLT, List.reduceReplicate, Nat.reduceMul, Int.reduceNeg, reduceCtorEq, *,  cursor_New_2]
    exact .inl hc
  · have hr : rightR L = 0 := by omega
    obtain ⟨hl128, f, ho, hc1, rfl, hdp, hln⟩ := (right_iff L).1 hr
    simp (disch := omega) only [go_sem, ↓reduceIte, Nat.reduceEqDiff, Nat.reduceAdd, Nat.reduceSub, Nat.reduceLeDiff, Nat.reduceLT, List.reduceReplicate, Nat.reduceMul, Int.reduceNeg, reduceCtorEq, *,  cursor_New_3]
    refine Ev.imp (clone_ev (by omega) (hS.ext hx2)) ?_
    rintro lv h3 ⟨s3, o3, hx3⟩
    have hn3 := hx3.next
    have hl3 := hx3.lim
    have c1 := Sl.cell s3
    have c2 := Sl.cells s3
    have hfp := Fo.flat_pos hc1
    have hlv : h2.next ≤ idV lv := by
      rcases o3 with h1 | h1
      · subst h1
        have := s3.facts.len
        simp [lenV] at this; omega
      · exact h1
    have hlv2 := s3.facts.lt hfp
    simp (disch := omega) only [go_sem, ↓reduceIte, Nat.reduceEqDiff, Nat.reduceAdd, Nat.reduceSub, Nat.reduceLeDiff, Nat.reduceLT, List.reduceReplicate, Nat.reduceMul, Int.reduceNeg, reduceCtorEq, *,  cursor_New_3, cursor_New_4, fillP]
    have xa : Ext h3 (h3.alloc (curB lv .ns ⟨[], 0, 0, 0⟩)) := (Ext.refl h3).alloc _
    have k4 : Cur (h3.alloc (curB lv .ns ⟨[], 0, 0, 0⟩)) h3.next lv .ns f.flat ⟨[], 0, 0, 0⟩ := by
      refine ⟨by rw [get_alloc, gsel_eq rfl], s3.ext xa, Sl.nil _ _, hfp, by omega, by simp, by omega, .inl rfl, by rw [lim_alloc]; omega, by rw [next_alloc]; omega⟩
    refine Ev.imp (reset_ev k4 ho hc1 hln) ?_
    rintro _ h5 ⟨rfl, sv5, c5, f5⟩
    simp (disch := omega) only [go_sem, ↓reduceIte, Nat.reduceEqDiff, Nat.reduceAdd, Nat.reduceSub, Nat.reduceLeDiff, Nat.reduceLT, List.reduceReplicate, Nat.reduceMul, Int.reduceNeg, reduceCtorEq, *,  cursor_New_4, cursor_New_5]
    refine .inr ⟨h3.next, lv, sv5, rfl, ?_⟩
    have n4 : NewC h (h3.alloc (curB lv .ns ⟨[], 0, 0, 0⟩)) f.flat h3.next lv .ns ⟨[], 0, 0, 0⟩ := ⟨k4, (hx2.trans hx3).trans xa, by omega, by omega, .inl rfl⟩
    exact n4.step c5 f5
def partGo : List Run → Int → Int
  | [], _ => -1
  | r :: l, t => if t < r.n then r.part else partGo l (t - r.n)
theorem Part_bad {h : AH} {v : V} {L : List Node} {t : Int} (hw : h.lim ≤ h.next) (hS : SlT Node.enc h 3 v L) (hLb : L.length < 4000000000) (hb : rightR L ≠ 0 ∨ t < 0) : Ev tp i_cursor_Part [v, .i .i64 t] h (fun r h' => r = .i .i64 (-1) ∧ Ext h h') := by
  refine Ev_of fn_cursor_Part (by simp [t_cursor_Part]) ?_; unfold t_cursor_Part
  simp (disch := omega) only [go_sem, ↓reduceIte, Nat.reduceEqDiff, Nat.reduceAdd, Nat.reduceSub, Nat.reduceLeDiff, Nat.reduceLT, List.reduceReplicate, Nat.reduceMul, Int.reduceNeg, reduceCtorEq, *,  cursor_Part_0, cursor_Part_1]
  refine Ev.imp (new_ev hw hS hLb) ?_
  rintro r h2 (⟨hr, rfl, hx2⟩ | ⟨hr, id, lv, sv, rfl, hN⟩)
  · simp (disch := omega) only [go_sem, ↓reduceIte, Nat.reduceEqDiff, Nat.reduceAdd, Nat.reduceSub, Nat.reduceLeDiff, Nat.reduceLT, List.reduceReplicate, Nat.reduceMul, Int.reduceNeg, reduceCtorEq, *,  cursor_Part_1, cursor_Part_2, cursor_Part_3, eqV]
  · have := hN.ext
    have ht : t < 0 := by omega
    simp (disch := omega) only [go_sem, ↓reduceIte, Nat.reduceEqDiff, Nat.reduceAdd, Nat.reduceSub, Nat.reduceLeDiff, Nat.reduceLT, List.reduceReplicate, Nat.reduceMul, Int.reduceNeg, reduceCtorEq, *,  cursor_Part_1, cursor_Part_2, cursor_Part_3, eqV, Bool.false_eq_true]
theorem Part_ev {h : AH} {v : V} {f : Fo} {t : Int} (hw : h.lim ≤ h.next) (hS : SlT Node.enc h 3 v f.flat) (hr : rightR f.flat = 0) (ho : f.ok) (hc : f.count = 1) (hl : f.len ≤ 4096) (ht : 0 ≤ t ∧ t ≤ 9223372036854775807) : Ev tp i_cursor_Part [v, .i .i64 t] h (fun r h' => r = .i .i64 (partGo f.runs t) ∧ Ext h h') := by
  have hLb := ((right_iff _).1 hr).1
  refine Ev_of fn_cursor_Part (by simp [t_cursor_Part]) ?_; unfold t_cursor_Part
  simp (disch := omega) only [go_sem, ↓reduceIte, Nat.reduceEqDiff, Nat.reduceAdd, Nat.reduceSub, Nat.reduceLeDiff, Nat.reduceLT, List.reduceReplicate, Nat.reduceMul, Int.reduceNeg, reduceCtorEq, *,  cursor_Part_0, cursor_Part_1]
  refine Ev.imp (new_ev hw hS (by omega)) ?_
  rintro r h2 (⟨hr2, rfl, hx2⟩ | ⟨hr2, id, lv, sv, rfl, hN⟩)
  · exact absurd hr hr2
  · have ht0 : ¬ t < 0 := by omega
    simp (disch := omega) only [go_sem, ↓reduceIte, Nat.reduceEqDiff, Nat.reduceAdd, Nat.reduceSub, Nat.reduceLeDiff, Nat.reduceLT, List.reduceReplicate, Nat.reduceMul, Int.reduceNeg, reduceCtorEq, *,  cursor_Part_1, cursor_Part_2, eqV, Bool.false_eq_true]
    refine WC_loop_n (fun n e h' => ∃ (sv' : V) (c : Cs) (l : List Run) (u : Int), n = l.length ∧ e 1 = .i .i64 u ∧ e 5 = .p id 0 0 ∧ 0 ≤ u ∧ u ≤ 9223372036854775807 ∧ NewC h h' f.flat id lv sv' c ∧ Rem f.flat c l ∧ partGo l u = partGo f.runs t) ?_ _ _ _ ⟨sv, cur0 f.flat, f.runs, t, rfl, ?_⟩
    · rintro n e h' ⟨sv', c, l, u, rfl, e1, e5, hu0, hu, hN', hR, hz⟩ ih
      have hn' := hN'.ext.next
      have hl' := hN'.ext.lim
      rw [cursor_Part_10_go]
      simp (disch := omega) only [go_sem, ↓reduceIte, Nat.reduceEqDiff, Nat.reduceAdd, Nat.reduceSub, Nat.reduceLeDiff, Nat.reduceLT, List.reduceReplicate, Nat.reduceMul, Int.reduceNeg, reduceCtorEq, *,  cursor_Part_4]
      match l, hR, hz, ih with
      | [], hR, hz, ih =>
        refine Ev.imp (curNext_end hN'.cur (by rw [hR.nil]; omega)) ?_
        rintro _ h3 ⟨rfl, hx3⟩
        have hN3 := hN'.grow hx3
        have hx4 := (hN'.ext.trans hx3)
        have hn4 := hx4.next
        have hl4 := hx4.lim
        simp (disch := omega) only [go_sem, ↓reduceIte, Nat.reduceEqDiff, Nat.reduceAdd, Nat.reduceSub, Nat.reduceLeDiff, Nat.reduceLT, List.reduceReplicate, Nat.reduceMul, Int.reduceNeg, reduceCtorEq, *,  cursor_Part_4, cursor_Part_5, cursor_Part_6]
        refine ⟨by rw [← hz]; rfl, (hx4.alloc _).put _ _ hn4⟩
      | r :: l, hR, hz, ih =>
        obtain ⟨q1, q2, q3, q4, q5, q6⟩ := hR.cons
        refine Ev.imp (curNext_ev hN'.cur q1 q2) ?_
        rintro _ h3 ⟨rfl, sv3, c3, f3⟩
        have hN3 := hN'.step c3 f3
        have hx4 := hN3.ext
        have hn4 := hx4.next
        have hl4 := hx4.lim
        rw [← q3]
        clear q3
        rw [partGo] at hz
        have hlm := c3.lim_le
        simp (disch := omega) only [go_sem, ↓reduceIte, Nat.reduceEqDiff, Nat.reduceAdd, Nat.reduceSub, Nat.reduceLeDiff, Nat.reduceLT, List.reduceReplicate, Nat.reduceMul, Int.reduceNeg, reduceCtorEq, *,  cursor_Part_4, cursor_Part_5, cursor_Part_7]
        refine Wb_dec (fun hc2 => ?_) (fun hc2 => ?_)
        · rw [if_pos hc2] at hz
          simp (disch := omega) only [go_sem, ↓reduceIte, Nat.reduceEqDiff, Nat.reduceAdd, Nat.reduceSub, Nat.reduceLeDiff, Nat.reduceLT, List.reduceReplicate, Nat.reduceMul, Int.reduceNeg, reduceCtorEq, *,  cursor_Part_8]
          exact (hx4.alloc _).put _ _ hn4
        · rw [if_neg hc2] at hz
          simp (disch := omega) only [go_sem, ↓reduceIte, Nat.reduceEqDiff, Nat.reduceAdd, Nat.reduceSub, Nat.reduceLeDiff, Nat.reduceLT, List.reduceReplicate, Nat.reduceMul, Int.reduceNeg, reduceCtorEq, *,  cursor_Part_9]
          have hs := hR.at_
          have hs2 := q5.at_
          have hs3 := q5.sum
          refine ih _ _ _ ?_ ⟨sv3, nextC f.flat c, l, u - r.n, rfl, ?_⟩
          · simp
          · simp (disch := omega) only [go_sem, ↓reduceIte, Nat.reduceEqDiff, Nat.reduceAdd, Nat.reduceSub, Nat.reduceLeDiff, Nat.reduceLT, List.reduceReplicate, Nat.reduceMul, Int.reduceNeg, reduceCtorEq, *]
            exact ⟨by omega, by omega, hN3.grow (((Ext.refl h3).alloc _).put _ _ (Nat.le_refl _))⟩
    · simp (disch := omega) only [go_sem, ↓reduceIte, Nat.reduceEqDiff, Nat.reduceAdd, Nat.reduceSub, Nat.reduceLeDiff, Nat.reduceLT, List.reduceReplicate, Nat.reduceMul, Int.reduceNeg, reduceCtorEq, *]
      exact start_rem ho hc hl
end Go.Ab.T
namespace Go.Ab.T
open Go Go.Ab
set_option linter.unusedSimpArgs false
set_option linter.unusedVariables false
set_option maxHeartbeats 1000000
theorem refAt_ev {h : AH} {v : V} {L : List Run} {t : Int} (hw : h.lim ≤ h.next) (hS : SlT Run.enc h 2 v L) (ht : 0 ≤ t ∧ t ≤ 9223372036854775807) (hp : ∀ i, i < L.length → 1 ≤ (nth L i).n) : Ev tp i_horariumref3_At [v, .i .i64 t] h (fun r h' => r = .i .i64 (partGo L t) ∧ Ext h h') := by
  obtain ⟨hlen, hbig, hlt, hget, hat, hrow⟩ := hS.facts
  refine Ev_of fn_horariumref3_At (by simp [t_horariumref3_At]) ?_; unfold t_horariumref3_At
  simp (disch := omega) only [go_sem, ↓reduceIte, Nat.reduceEqDiff, Nat.reduceAdd, Nat.reduceSub, Nat.reduceLeDiff, Nat.reduceLT, List.reduceReplicate, Nat.reduceMul, Int.reduceNeg, reduceCtorEq, *,  horariumref3_At_0, horariumref3_At_1, horariumref3_At_2, horariumref3_At_3, horariumref3_At_4, horariumref3_At_5, horariumref3_At_6, horariumref3_At_7, horariumref3_At_8, horariumref3_At_9, horariumref3_At_10, horariumref3_At_12]
  refine WC_loop_n (fun n e h' => ∃ (i : Nat) (u : Int), n = L.length - i ∧ e 1 = .i .i64 u ∧ e 7 = v ∧ e 8 = .i .i64 L.length ∧ e 9 = .i .i64 i ∧ Ext h h' ∧ i ≤ L.length ∧ 0 ≤ u ∧ u ≤ 9223372036854775807 ∧ partGo (L.drop i) u = partGo L t) ?_ _ _ _ ⟨0, t, rfl, ?_⟩
  · rintro n e h' ⟨i, u, rfl, e1, e7, e8, e9, hx, hi, hu0, hu, hz⟩ ih
    have hg := hx.get
    have hn := hx.next
    have hl := hx.lim
    rw [horariumref3_At_11_go]
    simp (disch := omega) only [go_sem, ↓reduceIte, Nat.reduceEqDiff, Nat.reduceAdd, Nat.reduceSub, Nat.reduceLeDiff, Nat.reduceLT, List.reduceReplicate, Nat.reduceMul, Int.reduceNeg, reduceCtorEq, *,  horariumref3_At_2]
    refine Wb_dec (fun hc => ?_) (fun hc => ?_)
    · rw [drop_nth (by omega), partGo] at hz
      have hb := hp i (by omega)
      have hu1 : ¬ u < 0 := by omega
      have hn1 : ¬ (nth L i).n < 1 := by omega
      simp (disch := omega) only [go_sem, ↓reduceIte, Nat.reduceEqDiff, Nat.reduceAdd, Nat.reduceSub, Nat.reduceLeDiff, Nat.reduceLT, List.reduceReplicate, Nat.reduceMul, Int.reduceNeg, reduceCtorEq, *,  horariumref3_At_3, horariumref3_At_4, horariumref3_At_6, horariumref3_At_7]
      refine Wb_dec (fun hc2 => ?_) (fun hc2 => ?_)
      · rw [if_pos hc2] at hz
        simp (disch := omega) only [go_sem, ↓reduceIte, Nat.reduceEqDiff, Nat.reduceAdd, Nat.reduceSub, Nat.reduceLeDiff, Nat.reduceLT, List.reduceReplicate, Nat.reduceMul, Int.reduceNeg, reduceCtorEq, *,  horariumref3_At_8]
        exact (hx.alloc _).put _ _ hn
      · rw [if_neg hc2] at hz
        simp (disch := omega) only [go_sem, ↓reduceIte, Nat.reduceEqDiff, Nat.reduceAdd, Nat.reduceSub, Nat.reduceLeDiff, Nat.reduceLT, List.reduceReplicate, Nat.reduceMul, Int.reduceNeg, reduceCtorEq, *,  horariumref3_At_9, horariumref3_At_10]
        refine ih _ _ _ ?_ ⟨i + 1, u - (nth L i).n, rfl, ?_⟩
        · omega
        · simp (disch := omega) only [go_sem, ↓reduceIte, Nat.reduceEqDiff, Nat.reduceAdd, Nat.reduceSub, Nat.reduceLeDiff, Nat.reduceLT, List.reduceReplicate, Nat.reduceMul, Int.reduceNeg, reduceCtorEq, *]
          exact ⟨(hx.alloc _).put _ _ hn, by omega, by omega, by omega⟩
    · rw [List.drop_eq_nil_of_le (by omega), partGo] at hz
      simp (disch := omega) only [go_sem, ↓reduceIte, Nat.reduceEqDiff, Nat.reduceAdd, Nat.reduceSub, Nat.reduceLeDiff, Nat.reduceLT, List.reduceReplicate, Nat.reduceMul, Int.reduceNeg, reduceCtorEq, *,  horariumref3_At_12]
  · simp (disch := omega) only [go_sem, ↓reduceIte, Nat.reduceEqDiff, Nat.reduceAdd, Nat.reduceSub, Nat.reduceLeDiff, Nat.reduceLT, List.reduceReplicate, Nat.reduceMul, Int.reduceNeg, reduceCtorEq, *]
    exact ⟨Ext.refl h, Nat.zero_le _⟩
theorem law4leaves_ev {h : AH} {v : V} {f : Fo} (hw : h.lim ≤ h.next) (hS : SlT Node.enc h 3 v f.flat) (hr : rightR f.flat = 0) (ho : f.ok) (hc : f.count = 1) (hl : f.len ≤ 4096) : Ev tp i_horariumlaw4_leaves [v] h (fun r h' => SlT Run.enc h' 2 r f.runs ∧ Own h r ∧ Ext h h') := by
  have hLb := ((right_iff _).1 hr).1
  refine Ev_of fn_horariumlaw4_leaves (by simp [t_horariumlaw4_leaves]) ?_; unfold t_horariumlaw4_leaves
  simp (disch := omega) only [go_sem, ↓reduceIte, Nat.reduceEqDiff, Nat.reduceAdd, Nat.reduceSub, Nat.reduceLeDiff, Nat.reduceLT, List.reduceReplicate, Nat.reduceMul, Int.reduceNeg, reduceCtorEq, *,  horariumlaw4_leaves_0, horariumlaw4_leaves_1]
  refine Ev.imp (refRight_ev hw hS (by omega)) ?_
  rintro _ h2 ⟨rfl, hx2⟩
  have hn2 := hx2.next
  have hl2 := hx2.lim
  simp (disch := omega) only [go_sem, ↓reduceIte, Nat.reduceEqDiff, Nat.reduceAdd, Nat.reduceSub, Nat.reduceLeDiff, Nat.reduceLT, List.reduceReplicate, Nat.reduceMul, Int.reduceNeg, reduceCtorEq, *,  horariumlaw4_leaves_1, horariumlaw4_leaves_3]
  refine Ev.imp (refLeaves_ev (by omega) (hS.ext hx2) (by omega) ho hc hl) ?_
  rintro r h3 ⟨s3, o3, hx3⟩
  simp (disch := omega) only [go_sem, ↓reduceIte, Nat.reduceEqDiff, Nat.reduceAdd, Nat.reduceSub, Nat.reduceLeDiff, Nat.reduceLT, List.reduceReplicate, Nat.reduceMul, Int.reduceNeg, reduceCtorEq, *,  horariumlaw4_leaves_3]
  exact ⟨o3.imp (fun x => x) (fun x => by omega), hx2.trans hx3⟩
/-! ### Tables from a tape -/
mutual
def tabK (L : List Int) (parts : Int) : Nat → Nat → Nat
  | 0, k => if nextR L k 7 = 0 then nextK L (nextK L k 7) 4 else nextK L (nextK L (nextK L k 7) parts) 4
  | d + 1, k => if nextR L k 7 < 2 then (if nextR L k 7 = 0 then nextK L (nextK L k 7) 4 else nextK L (nextK L (nextK L k 7) parts) 4)
    else if nextR L k 7 = 2 then tabK L parts d (nextK L (nextK L k 7) 3)
    else tabsK L parts d (1 + nextR L (nextK L k 7) 4).toNat (nextK L (nextK L k 7) 4)
def tabsK (L : List Int) (parts : Int) : Nat → Nat → Nat → Nat
  | d, 0, k => k
  | d, m + 1, k => tabsK L parts d m (tabK L parts d k)
end
end Go.Ab.T
namespace Go.Ab.T
open Go Go.Ab
set_option linter.unusedSimpArgs false
set_option linter.unusedVariables false
set_option maxHeartbeats 2000000
def tabB : Nat → Nat
  | 0 => 1
  | d + 1 => 1 + 4 * tabB d
/-- What a call of Table leaves. -/
structure TabR (h : AH) (id : Nat) (tv : V) (L : List Int) (d : Nat) (r : V) (h' : AH) (f : Fo) (k : Nat) : Prop where
  ok : f.ok
  one : f.count = 1
  dep : f.depth ≤ d + 1
  big : f.flat.length ≤ tabB d
  row : SlT Node.enc h' 3 r f.flat
  own : Own h r
  upd : Upd h id (tapeB tv k) h'
  le : k ≤ L.length
theorem tab_one {h h1 : AH} {id : Nat} {tv : V} {L : List Int} {d k : Nat} {x : Node} (hx : kids x = 0) (u : Upd h id (tapeB tv k) h1) (hid : id < h.next) (hk : k ≤ L.length) :
    TabR h id tv L d (.sl h1.next 0 1 1) (h1.alloc ⟨3, [x.enc]⟩) (.leaf x .nil) k := by
  have := u.next
  refine ⟨⟨hx, trivial⟩, rfl, by simp [Fo.depth], by cases d <;> simp [Fo.flat, tabB] <;> omega, ?_, .inr (by simp [idV]; omega), u.ext hid ((Ext.refl _).alloc _), hk⟩
  exact .inr ⟨h1.next, 0, 1, ⟨3, [x.enc]⟩, rfl, by rw [get_alloc, gsel_eq rfl], rfl, by simp, by simp [Fo.flat], by simp [Fo.flat], by simp [next_alloc], by simp [Fo.flat, bigLen]⟩
theorem kids_win {p n : Int} (h1 : 0 ≤ p) (h2 : p < 6) (h3 : 1 ≤ n) : kids ⟨1, p, n⟩ = 0 := by
  unfold kids; rw [if_neg (by dsimp only; omega), if_pos (by dsimp only; omega)]
theorem kids_idle {n : Int} (h3 : 1 ≤ n) : kids ⟨2, 0, n⟩ = 0 := by
  unfold kids; rw [if_neg (by dsimp only; omega), if_pos (by dsimp only; omega)]
theorem kids_rep {n : Int} (h3 : 1 ≤ n) : kids ⟨4, 0, n⟩ = 1 := by
  unfold kids; rw [if_neg (by dsimp only; omega), if_neg (by dsimp only; omega), if_neg (by dsimp only; omega), if_pos (by dsimp only)]
theorem kids_seq {n : Int} (h3 : 1 ≤ n) (h4 : n ≤ 128) : kids ⟨3, 0, n⟩ = n := by
  unfold kids; rw [if_neg (by dsimp only; omega), if_neg (by dsimp only; omega), if_pos (by dsimp only; omega)]
theorem fo_seq {f : Fo} {n : Nat} (ho : f.ok) (hc : f.count = n) (h1 : 1 ≤ n) (h2 : n ≤ 128) : (Fo.seq ⟨3, 0, n⟩ f .nil).ok := ⟨rfl, by rw [kids_seq (by omega) (by omega), hc], by omega, ho, trivial⟩
theorem tabB_le {d : Nat} (h : d ≤ 10) : tabB d ≤ 1398101 := by
  have mono : ∀ a b, a ≤ b → tabB a ≤ tabB b := by
    intro a b hab
    induction hab with
    | refl => exact Nat.le_refl _
    | step _ ih => rw [tabB]; omega
  have := mono d 10 h
  have e : tabB 10 = 1398101 := by decide
  omega
theorem Fo.snoc_flat : ∀ (f g : Fo), (f.snoc g).flat = f.flat ++ g.flat
  | .nil, g => rfl
  | .leaf x r, g => by simp [Fo.snoc, Fo.flat, Fo.snoc_flat r]
  | .seq x k r, g => by simp [Fo.snoc, Fo.flat, Fo.snoc_flat r]
  | .rep x k r, g => by simp [Fo.snoc, Fo.flat, Fo.snoc_flat r]
theorem Fo.snoc_count : ∀ (f g : Fo), (f.snoc g).count = f.count + g.count
  | .nil, g => by simp [Fo.snoc, Fo.count]
  | .leaf x r, g => by simp [Fo.snoc, Fo.count, Fo.snoc_count r] <;> omega
  | .seq x k r, g => by simp [Fo.snoc, Fo.count, Fo.snoc_count r] <;> omega
  | .rep x k r, g => by simp [Fo.snoc, Fo.count, Fo.snoc_count r] <;> omega
theorem Fo.snoc_depth : ∀ (f g : Fo), (f.snoc g).depth = max f.depth g.depth
  | .nil, g => by simp [Fo.snoc, Fo.depth]
  | .leaf x r, g => by simp [Fo.snoc, Fo.depth, Fo.snoc_depth r] <;> omega
  | .seq x k r, g => by simp [Fo.snoc, Fo.depth, Fo.snoc_depth r] <;> omega
  | .rep x k r, g => by simp [Fo.snoc, Fo.depth, Fo.snoc_depth r] <;> omega
theorem Fo.snoc_ok : ∀ {f g : Fo}, f.ok → g.ok → (f.snoc g).ok
  | .nil, g, _, h => h
  | .leaf x r, g, h1, h2 => ⟨h1.1, Fo.snoc_ok h1.2 h2⟩
  | .seq x k r, g, h1, h2 => ⟨h1.1, h1.2.1, h1.2.2.1, h1.2.2.2.1, Fo.snoc_ok h1.2.2.2.2 h2⟩
  | .rep x k r, g, h1, h2 => ⟨h1.1, h1.2.1, h1.2.2.1, h1.2.2.2.1, Fo.snoc_ok h1.2.2.2.2 h2⟩
theorem table_ev {L : List Int} {tv : V} {id : Nat} {parts : Int} (hp : 1 ≤ parts ∧ parts ≤ 6) : ∀ (d : Nat) (h : AH) (k : Nat), d ≤ 10 → Tape h id tv L k → Ev tp i_horariumkeep_Tape_Table [.p id 0 0, .i .i64 parts, .i .i64 d] h (fun r h' => ∃ f k', TabR h id tv L d r h' f k') := by
  intro d
  induction d with
  | zero =>
    intro h k hd10 t
    have b7 := nextR_bd (L := L) (k := k) (n := 7) (by omega)
    refine Ev_of fn_horariumkeep_Tape_Table (by simp [t_horariumkeep_Tape_Table]) ?_; unfold t_horariumkeep_Tape_Table
    simp (disch := omega) only [go_sem, ↓reduceIte, Nat.reduceEqDiff, Nat.reduceAdd, Nat.reduceSub, Nat.reduceLeDiff, Nat.reduceLT, List.reduceReplicate, Nat.reduceMul, Int.reduceNeg, reduceCtorEq, *,  horariumkeep_Tape_Table_0, horariumkeep_Tape_Table_1]
    refine Ev.imp (next_ev t) ?_
    rintro _ h1 ⟨rfl, u1⟩
    have t1 := t.upd u1 (nextK_le t.le)
    simp (disch := omega) only [go_sem, ↓reduceIte, Nat.reduceEqDiff, Nat.reduceAdd, Nat.reduceSub, Nat.reduceLeDiff, Nat.reduceLT, List.reduceReplicate, Nat.reduceMul, Int.reduceNeg, reduceCtorEq, *,  horariumkeep_Tape_Table_1, horariumkeep_Tape_Table_2, horariumkeep_Tape_Table_3, Int.reduceLT]
    refine Wb_dec (fun hcl => ?_) (fun hcl => ?_)
    · have b4 := nextR_bd (L := L) (k := nextK L k 7) (n := 4) (by omega)
      simp (disch := omega) only [go_sem, ↓reduceIte, Nat.reduceEqDiff, Nat.reduceAdd, Nat.reduceSub, Nat.reduceLeDiff, Nat.reduceLT, List.reduceReplicate, Nat.reduceMul, Int.reduceNeg, reduceCtorEq, *,  horariumkeep_Tape_Table_4]
      refine Ev.imp (next_ev t1) ?_
      rintro _ h2 ⟨rfl, u2⟩
      simp (disch := omega) only [go_sem, ↓reduceIte, Nat.reduceEqDiff, Nat.reduceAdd, Nat.reduceSub, Nat.reduceLeDiff, Nat.reduceLT, List.reduceReplicate, Nat.reduceMul, Int.reduceNeg, reduceCtorEq, *,  horariumkeep_Tape_Table_4, fillP, fillE]
      exact ⟨_, _, tab_one (x := ⟨2, 0, 1 + nextR L (nextK L k 7) 4⟩) (kids_idle (by omega)) (u1.trans u2) t.hi (nextK_le t1.le)⟩
    · have b4 := nextR_bd (L := L) (k := nextK L (nextK L k 7) parts) (n := 4) (by omega)
      have bp := nextR_bd (L := L) (k := nextK L k 7) (n := parts) (by omega)
      simp (disch := omega) only [go_sem, ↓reduceIte, Nat.reduceEqDiff, Nat.reduceAdd, Nat.reduceSub, Nat.reduceLeDiff, Nat.reduceLT, List.reduceReplicate, Nat.reduceMul, Int.reduceNeg, reduceCtorEq, *,  horariumkeep_Tape_Table_5]
      refine Ev.imp (next_ev t1) ?_
      rintro _ h2 ⟨rfl, u2⟩
      have t2 := t1.upd u2 (nextK_le t1.le)
      simp (disch := omega) only [go_sem, ↓reduceIte, Nat.reduceEqDiff, Nat.reduceAdd, Nat.reduceSub, Nat.reduceLeDiff, Nat.reduceLT, List.reduceReplicate, Nat.reduceMul, Int.reduceNeg, reduceCtorEq, *,  horariumkeep_Tape_Table_5]
      refine Ev.imp (next_ev t2) ?_
      rintro _ h3 ⟨rfl, u3⟩
      simp (disch := omega) only [go_sem, ↓reduceIte, Nat.reduceEqDiff, Nat.reduceAdd, Nat.reduceSub, Nat.reduceLeDiff, Nat.reduceLT, List.reduceReplicate, Nat.reduceMul, Int.reduceNeg, reduceCtorEq, *,  horariumkeep_Tape_Table_5, fillP, fillE]
      exact ⟨_, _, tab_one (x := ⟨1, nextR L (nextK L k 7) parts, 1 + nextR L (nextK L (nextK L k 7) parts) 4⟩) (kids_win bp.1 (by omega) (by omega)) ((u1.trans u2).trans u3) t.hi (nextK_le t2.le)⟩
  | succ d ih =>
    intro h k hd10 t
    have b7 := nextR_bd (L := L) (k := k) (n := 7) (by omega)
    have hdn : ¬ ((d : Int) + 1 < 1) := by omega
    refine Ev_of fn_horariumkeep_Tape_Table (by simp [t_horariumkeep_Tape_Table]) ?_; unfold t_horariumkeep_Tape_Table
    simp (disch := omega) only [go_sem, ↓reduceIte, Nat.reduceEqDiff, Nat.reduceAdd, Nat.reduceSub, Nat.reduceLeDiff, Nat.reduceLT, List.reduceReplicate, Nat.reduceMul, Int.reduceNeg, reduceCtorEq, *,  horariumkeep_Tape_Table_0, horariumkeep_Tape_Table_1]
    refine Ev.imp (next_ev t) ?_
    rintro _ h1 ⟨rfl, u1⟩
    have t1 := t.upd u1 (nextK_le t.le)
    have n1 := u1.next
    have l1 := u1.lim
    have hid := t.hi
    have hlo := t.lo
    simp (disch := omega) only [go_sem, ↓reduceIte, Nat.reduceEqDiff, Nat.reduceAdd, Nat.reduceSub, Nat.reduceLeDiff, Nat.reduceLT, List.reduceReplicate, Nat.reduceMul, Int.reduceNeg, reduceCtorEq, *,  horariumkeep_Tape_Table_1, horariumkeep_Tape_Table_2]
    refine Wb_dec (fun hc => ?_) (fun hc => ?_)
    · simp (disch := omega) only [go_sem, ↓reduceIte, Nat.reduceEqDiff, Nat.reduceAdd, Nat.reduceSub, Nat.reduceLeDiff, Nat.reduceLT, List.reduceReplicate, Nat.reduceMul, Int.reduceNeg, reduceCtorEq, *,  horariumkeep_Tape_Table_3]
      refine Wb_dec (fun hcl => ?_) (fun hcl => ?_)
      · have b4 := nextR_bd (L := L) (k := nextK L k 7) (n := 4) (by omega)
        simp (disch := omega) only [go_sem, ↓reduceIte, Nat.reduceEqDiff, Nat.reduceAdd, Nat.reduceSub, Nat.reduceLeDiff, Nat.reduceLT, List.reduceReplicate, Nat.reduceMul, Int.reduceNeg, reduceCtorEq, *,  horariumkeep_Tape_Table_4]
        refine Ev.imp (next_ev t1) ?_
        rintro _ h2 ⟨rfl, u2⟩
        simp (disch := omega) only [go_sem, ↓reduceIte, Nat.reduceEqDiff, Nat.reduceAdd, Nat.reduceSub, Nat.reduceLeDiff, Nat.reduceLT, List.reduceReplicate, Nat.reduceMul, Int.reduceNeg, reduceCtorEq, *,  horariumkeep_Tape_Table_4, fillP, fillE]
        exact ⟨_, _, tab_one (x := ⟨2, 0, 1 + nextR L (nextK L k 7) 4⟩) (kids_idle (by omega)) (u1.trans u2) t.hi (nextK_le t1.le)⟩
      · have b4 := nextR_bd (L := L) (k := nextK L (nextK L k 7) parts) (n := 4) (by omega)
        have bp := nextR_bd (L := L) (k := nextK L k 7) (n := parts) (by omega)
        simp (disch := omega) only [go_sem, ↓reduceIte, Nat.reduceEqDiff, Nat.reduceAdd, Nat.reduceSub, Nat.reduceLeDiff, Nat.reduceLT, List.reduceReplicate, Nat.reduceMul, Int.reduceNeg, reduceCtorEq, *,  horariumkeep_Tape_Table_5]
        refine Ev.imp (next_ev t1) ?_
        rintro _ h2 ⟨rfl, u2⟩
        have t2 := t1.upd u2 (nextK_le t1.le)
        simp (disch := omega) only [go_sem, ↓reduceIte, Nat.reduceEqDiff, Nat.reduceAdd, Nat.reduceSub, Nat.reduceLeDiff, Nat.reduceLT, List.reduceReplicate, Nat.reduceMul, Int.reduceNeg, reduceCtorEq, *,  horariumkeep_Tape_Table_5]
        refine Ev.imp (next_ev t2) ?_
        rintro _ h3 ⟨rfl, u3⟩
        simp (disch := omega) only [go_sem, ↓reduceIte, Nat.reduceEqDiff, Nat.reduceAdd, Nat.reduceSub, Nat.reduceLeDiff, Nat.reduceLT, List.reduceReplicate, Nat.reduceMul, Int.reduceNeg, reduceCtorEq, *,  horariumkeep_Tape_Table_5, fillP, fillE]
        exact ⟨_, _, tab_one (x := ⟨1, nextR L (nextK L k 7) parts, 1 + nextR L (nextK L (nextK L k 7) parts) 4⟩) (kids_win bp.1 (by omega) (by omega)) ((u1.trans u2).trans u3) t.hi (nextK_le t2.le)⟩
    · have hc0 : ¬ nextR L k 7 = 0 := by omega
      simp (disch := omega) only [go_sem, ↓reduceIte, Nat.reduceEqDiff, Nat.reduceAdd, Nat.reduceSub, Nat.reduceLeDiff, Nat.reduceLT, List.reduceReplicate, Nat.reduceMul, Int.reduceNeg, reduceCtorEq, *,  horariumkeep_Tape_Table_6]
      refine Wb_dec (fun hc2 => ?_) (fun hc2 => ?_)
      · have b3 := nextR_bd (L := L) (k := nextK L k 7) (n := 3) (by omega)
        simp (disch := omega) only [go_sem, ↓reduceIte, Nat.reduceEqDiff, Nat.reduceAdd, Nat.reduceSub, Nat.reduceLeDiff, Nat.reduceLT, List.reduceReplicate, Nat.reduceMul, Int.reduceNeg, reduceCtorEq, *,  horariumkeep_Tape_Table_7]
        refine Ev.imp (next_ev t1) ?_
        rintro _ h2 ⟨rfl, u2⟩
        have t2 := t1.upd u2 (nextK_le t1.le)
        have n2 := u2.next
        have l2 := u2.lim
        simp (disch := omega) only [go_sem, ↓reduceIte, Nat.reduceEqDiff, Nat.reduceAdd, Nat.reduceSub, Nat.reduceLeDiff, Nat.reduceLT, List.reduceReplicate, Nat.reduceMul, Int.reduceNeg, reduceCtorEq, *,  horariumkeep_Tape_Table_7, fillP, fillE]
        have xa : Ext h2 (h2.alloc ⟨3, [Node.enc ⟨4, 0, 1 + nextR L (nextK L k 7) 3⟩]⟩) := (Ext.refl h2).alloc _
        have t3 := t2.ext xa
        refine Ev.imp (ih _ _ (by omega) t3) ?_
        rintro y h4 ⟨f, k4, tr⟩
        have n4 := tr.upd.next
        have l4 := tr.upd.lim
        rw [next_alloc] at n4
        rw [lim_alloc] at l4
        have hb := tr.big
        have sx : Sl h4 3 (.sl h2.next 0 1 1) [Node.enc ⟨4, 0, 1 + nextR L (nextK L k 7) 3⟩] :=
          .inr ⟨h2.next, 0, 1, ⟨3, [Node.enc ⟨4, 0, 1 + nextR L (nextK L k 7) 3⟩]⟩, rfl, by rw [tr.upd.get _ (by rw [next_alloc]; omega) (by omega), get_alloc, gsel_eq rfl]; rfl, rfl, by simp, by simp, by simp, by omega, by simp [bigLen]⟩
        have hB := tabB_le (by omega : d ≤ 10)
        simp (disch := omega) only [go_sem, ↓reduceIte, Nat.reduceEqDiff, Nat.reduceAdd, Nat.reduceSub, Nat.reduceLeDiff, Nat.reduceLT, List.reduceReplicate, Nat.reduceMul, Int.reduceNeg, reduceCtorEq, *,  horariumkeep_Tape_Table_7]
        refine app_many sx tr.row (.inr (by simp only [idV]; omega)) (by simp; omega) ?_
        intro v h5 s5 a5
        have n5 := a5.next
        simp (disch := omega) only [go_sem, ↓reduceIte, Nat.reduceEqDiff, Nat.reduceAdd, Nat.reduceSub, Nat.reduceLeDiff, Nat.reduceLT, List.reduceReplicate, Nat.reduceMul, Int.reduceNeg, reduceCtorEq, *,  horariumkeep_Tape_Table_7]
        refine ⟨.rep ⟨4, 0, 1 + nextR L (nextK L k 7) 3⟩ f .nil, k4, ⟨⟨rfl, kids_rep (by omega), tr.one, tr.ok, trivial⟩, rfl, by have := tr.dep; simp [Fo.depth]; omega, by simp [Fo.flat, tabB]; omega, by simpa [SlT, Fo.flat] using s5, ?_, ?_, tr.le⟩⟩
        · rcases a5.own with h6 | ⟨_, h6⟩ | h6
          · exact .inl h6
          · exact .inr (by rw [idV_sl] at h6; omega)
          · exact .inr (by omega)
        · have uu := (u1.trans u2).ext hid xa
          have u4 := uu.trans tr.upd
          refine ⟨by omega, a5.lim.trans u4.lim, ?_, fun i hi hne => ?_⟩
          · rw [a5.get id (by omega) (.inr (by simp only [idV]; omega)), u4.here]
          · rw [a5.get i (by omega) (.inr (by simp only [idV]; omega)), u4.get i hi hne]
      · have b4 := nextR_bd (L := L) (k := nextK L k 7) (n := 4) (by omega)
        simp (disch := omega) only [go_sem, ↓reduceIte, Nat.reduceEqDiff, Nat.reduceAdd, Nat.reduceSub, Nat.reduceLeDiff, Nat.reduceLT, List.reduceReplicate, Nat.reduceMul, Int.reduceNeg, reduceCtorEq, *,  horariumkeep_Tape_Table_8]
        refine Ev.imp (next_ev t1) ?_
        rintro _ h2 ⟨rfl, u2⟩
        have t2 := t1.upd u2 (nextK_le t1.le)
        have n2 := u2.next
        have l2 := u2.lim
        obtain ⟨m, hm⟩ : ∃ m : Nat, 1 + nextR L (nextK L k 7) 4 = m := ⟨(1 + nextR L (nextK L k 7) 4).toNat, by omega⟩
        have hB := tabB_le (by omega : d ≤ 10)
        simp (disch := omega) only [go_sem, ↓reduceIte, Nat.reduceEqDiff, Nat.reduceAdd, Nat.reduceSub, Nat.reduceLeDiff, Nat.reduceLT, List.reduceReplicate, Nat.reduceMul, Int.reduceNeg, reduceCtorEq, *,  horariumkeep_Tape_Table_8, horariumkeep_Tape_Table_9, horariumkeep_Tape_Table_10, fillP, fillE]
        refine WC_loop_n (fun n e h' => ∃ (i : Nat) (o : V) (f : Fo) (k' : Nat), n = m - i ∧ e 0 = .p id 0 0 ∧ e 1 = .i .i64 parts ∧ e 2 = .i .i64 ((d : Int) + 1) ∧ e 8 = .i .i64 m ∧ e 9 = o ∧ e 10 = .i .i64 i ∧ i ≤ m ∧ f.ok ∧ f.count = i ∧ f.depth ≤ d + 1 ∧ f.flat.length ≤ i * tabB d ∧ Sl h' 3 o (Node.enc ⟨3, 0, m⟩ :: f.flat.map Node.enc) ∧ h.next ≤ idV o ∧ o ≠ .ns ∧ Upd h id (tapeB tv k') h' ∧ k' ≤ L.length ∧ Tape h' id tv L k') ?_ _ _ _ ⟨0, .sl h2.next 0 1 1, .nil, nextK L (nextK L k 7) 4, rfl, ?_⟩
        · rintro n e h' ⟨i, o, f, k', rfl, e0, e1, e2, e8, e9, e10, hi, fo, fc, fd, fl, so, oo, one, uu, kle, t'⟩ ih2
          have n' := uu.next
          have l' := uu.lim
          rw [horariumkeep_Tape_Table_14_go]
          simp (disch := omega) only [go_sem, ↓reduceIte, Nat.reduceEqDiff, Nat.reduceAdd, Nat.reduceSub, Nat.reduceLeDiff, Nat.reduceLT, List.reduceReplicate, Nat.reduceMul, Int.reduceNeg, reduceCtorEq, *,  horariumkeep_Tape_Table_11]
          refine Wb_dec (fun hc3 => ?_) (fun hc3 => ?_)
          · simp (disch := omega) only [go_sem, ↓reduceIte, Nat.reduceEqDiff, Nat.reduceAdd, Nat.reduceSub, Nat.reduceLeDiff, Nat.reduceLT, List.reduceReplicate, Nat.reduceMul, Int.reduceNeg, reduceCtorEq, *,  horariumkeep_Tape_Table_12]
            refine Ev.imp (ih _ _ (by omega) t') ?_
            rintro y h4 ⟨g, k4, tr⟩
            have n4 := tr.upd.next
            have l4 := tr.upd.lim
            have hb := tr.big
            have hmi : i * tabB d ≤ 4 * tabB d := Nat.mul_le_mul_right _ (by omega)
            have olt := idV_ns_lt so one
            have oid : idV o ≠ id := by omega
            have sx := Sl.same so n4 (fun _ hlt => tr.upd.get _ hlt oid)
            simp (disch := omega) only [go_sem, ↓reduceIte, Nat.reduceEqDiff, Nat.reduceAdd, Nat.reduceSub, Nat.reduceLeDiff, Nat.reduceLT, List.reduceReplicate, Nat.reduceMul, Int.reduceNeg, reduceCtorEq, *,  horariumkeep_Tape_Table_12]
            refine app_many sx tr.row (.inr (by omega)) (by simp; omega) ?_
            intro v h5 s5 a5
            have n5 := a5.next
            simp (disch := omega) only [go_sem, ↓reduceIte, Nat.reduceEqDiff, Nat.reduceAdd, Nat.reduceSub, Nat.reduceLeDiff, Nat.reduceLT, List.reduceReplicate, Nat.reduceMul, Int.reduceNeg, reduceCtorEq, *,  horariumkeep_Tape_Table_12, horariumkeep_Tape_Table_13]
            have u4 := uu.trans tr.upd
            have u5 : Upd h id (tapeB tv k4) h5 := by
              refine ⟨by omega, a5.lim.trans u4.lim, ?_, fun i hi hne => ?_⟩
              · rw [a5.get id (by omega) (.inr (by omega)), u4.here]
              · rw [a5.get i (by omega) (.inr (by omega)), u4.get i hi hne]
            refine ih2 _ _ _ ?_ ⟨i + 1, v, f.snoc g, k4, rfl, ?_⟩
            · omega
            · simp (disch := omega) only [go_sem, ↓reduceIte, Nat.reduceEqDiff, Nat.reduceAdd, Nat.reduceSub, Nat.reduceLeDiff, Nat.reduceLT, List.reduceReplicate, Nat.reduceMul, Int.reduceNeg, reduceCtorEq, *]
              have vne : v ≠ .ns := by
                rintro rfl
                rcases s5 with ⟨_, hh⟩ | ⟨_, _, _, _, hh, _⟩
                · simp at hh
                · cases hh
              refine ⟨by omega, Fo.snoc_ok fo tr.ok, by rw [Fo.snoc_count, tr.one, fc], by rw [Fo.snoc_depth]; have := tr.dep; omega, by rw [Fo.snoc_flat, List.length_append, Nat.succ_mul]; omega, by rw [Fo.snoc_flat]; simpa [Node.enc] using s5, ?_, vne, tr.le, t.upd u5 tr.le⟩
              rcases a5.own with h6 | ⟨_, h6⟩ | h6
              · exact absurd h6 vne
              · omega
              · omega
          · simp (disch := omega) only [go_sem, ↓reduceIte, Nat.reduceEqDiff, Nat.reduceAdd, Nat.reduceSub, Nat.reduceLeDiff, Nat.reduceLT, List.reduceReplicate, Nat.reduceMul, Int.reduceNeg, reduceCtorEq, *,  horariumkeep_Tape_Table_15]
            have him : i = m := by omega
            subst him
            refine ⟨.seq ⟨3, 0, f.count⟩ f .nil, k', ⟨fo_seq fo rfl (by omega) (by omega), rfl, by simp [Fo.depth]; omega, ?_, by rw [fc]; simpa [SlT, Fo.flat] using so, .inr oo, uu, kle⟩⟩
            have hmi : i * tabB d ≤ 4 * tabB d := Nat.mul_le_mul_right _ (by omega)
            simp [Fo.flat, tabB]; omega
        · have xa : Ext h2 (h2.alloc ⟨3, [Node.enc ⟨3, 0, m⟩]⟩) := (Ext.refl h2).alloc _
          have u3 := (u1.trans u2).ext hid xa
          simp (disch := omega) only [go_sem, ↓reduceIte, Nat.reduceEqDiff, Nat.reduceAdd, Nat.reduceSub, Nat.reduceLeDiff, Nat.reduceLT, List.reduceReplicate, Nat.reduceMul, Int.reduceNeg, reduceCtorEq, *,  hm]
          refine ⟨Nat.zero_le _, trivial, rfl, by simp [Fo.depth], by simp [Fo.flat], ?_, by omega, by simp, u3, nextK_le (nextK_le t.le), t.upd u3 (nextK_le (nextK_le t.le))⟩
          exact .inr ⟨h2.next, 0, 1, ⟨3, [Node.enc ⟨3, 0, m⟩]⟩, by simp [Fo.flat], by rw [get_alloc, gsel_eq rfl]; rfl, rfl, by simp, by simp [Fo.flat, Node.enc], by simp [Fo.flat], by simp [next_alloc], by simp [Fo.flat, bigLen]⟩
end Go.Ab.T
namespace Go.Ab.T
open Go Go.Ab
set_option linter.unusedSimpArgs false
set_option linter.unusedVariables false
set_option maxHeartbeats 2000000
theorem nextC_at {L : List Node} {c : Cs} {r : Run} (h : r = ⟨partR (lf L c), (lf L c).n - c.gone⟩) : (nextC L c).at_ = c.at_ + r.n := by rw [h]; rfl
theorem tickC_at {L : List Node} {c : Cs} : (tickC L c).at_ = c.at_ + 1 := by unfold tickC; split <;> rfl
/-- Next and Tick of a cursor of which it is known what it still tells. -/
theorem newNext {h0 h : AH} {L : List Node} {id : Nat} {lv sv : V} {c : Cs} {r : Run} {l : List Run} (n : NewC h0 h L id lv sv c) (q : Rem L c (r :: l)) :
    Ev tp i_cursor_Cursor_Next [.p id 0 0] h (fun v h' => v = .tup [.agg r.enc, .b true] ∧ ∃ sv' c', NewC h0 h' L id lv sv' c' ∧ CurF h id sv h' sv' ∧ Rem L c' l ∧ c'.at_ = c.at_ + r.n) := by
  obtain ⟨q1, q2, q3, q4, q5, q6⟩ := q.cons
  refine Ev.imp (curNext_ev n.cur q1 q2) ?_
  rintro _ h3 ⟨rfl, sv3, c3, f3⟩
  exact ⟨by rw [q3], sv3, _, n.step c3 f3, f3, q5, nextC_at q3⟩
theorem newTick {h0 h : AH} {L : List Node} {id : Nat} {lv sv : V} {c : Cs} {r : Run} {l : List Run} (n : NewC h0 h L id lv sv c) (q : Rem L c (r :: l)) :
    Ev tp i_cursor_Cursor_Tick [.p id 0 0] h (fun v h' => v = .tup [.i .i64 r.part, .b true] ∧ ∃ sv' c', NewC h0 h' L id lv sv' c' ∧ CurF h id sv h' sv' ∧ Rem L c' (if r.n = 1 then l else ⟨r.part, r.n - 1⟩ :: l) ∧ c'.at_ = c.at_ + 1) := by
  obtain ⟨q1, q2, q3, q4, q5, q6⟩ := q.cons
  refine Ev.imp (curTick_ev n.cur q1 q2) ?_
  rintro _ h3 ⟨rfl, sv3, c3, f3⟩
  exact ⟨by rw [q3], sv3, _, n.step c3 f3, f3, q6, tickC_at⟩
theorem newNext_end {h0 h : AH} {L : List Node} {id : Nat} {lv sv : V} {c : Cs} (n : NewC h0 h L id lv sv c) (q : Rem L c []) :
    Ev tp i_cursor_Cursor_Next [.p id 0 0] h (fun v h' => v = .tup [.agg (Run.enc ⟨0, 0⟩), .b false] ∧ NewC h0 h' L id lv sv c ∧ Ext h h') := by
  refine Ev.imp (curNext_end n.cur (by rw [q.nil]; omega)) ?_
  rintro _ h3 ⟨rfl, hx3⟩
  exact ⟨rfl, n.grow hx3, hx3⟩
theorem newTick_end {h0 h : AH} {L : List Node} {id : Nat} {lv sv : V} {c : Cs} (n : NewC h0 h L id lv sv c) (q : Rem L c []) :
    Ev tp i_cursor_Cursor_Tick [.p id 0 0] h (fun v h' => v = .tup [.i .i64 (-1), .b false] ∧ h' = h) :=
  curTick_end n.cur (by rw [q.nil]; omega)
theorem right_flat {f : Fo} (ho : f.ok) (hc : f.count = 1) (hd : f.depth ≤ 16) (hl : f.len ≤ 4096) (hn : f.flat.length ≤ 128) : rightR f.flat = 0 := (right_iff _).2 ⟨hn, f, ho, hc, rfl, hd, hl⟩
def fo0 : Fo := .rep ⟨4, 0, 2⟩ (.leaf ⟨1, 2, 5⟩ .nil) .nil
theorem fo0_ok : fo0.ok := ⟨rfl, kids_rep (by omega), rfl, ⟨kids_win (by omega) (by omega) (by omega), trivial⟩, trivial⟩
theorem fo0_right : rightR fo0.flat = 0 := right_flat fo0_ok rfl (by decide) (by decide) (by decide)
theorem fo0_runs : fo0.runs = [⟨2, 5⟩, ⟨2, 5⟩] := by decide
def fo1 : Fo := .leaf ⟨2, 0, 1⟩ .nil
theorem fo1_ok : fo1.ok := ⟨kids_idle (by omega), trivial⟩
theorem fo1_right : rightR fo1.flat = 0 := right_flat fo1_ok rfl (by decide) (by decide) (by decide)
theorem right_nil : rightR [] ≠ 0 := by
  intro h
  obtain ⟨_, f, _, hc, hf, _⟩ := (right_iff _).1 h
  have := Fo.flat_pos hc
  rw [← hf] at this
  simp at this
theorem sl_lit {α : Type} {enc : α → List V} {h : AH} {sz : Nat} {L : List α} (hb : L.length < 4294967296) : SlT enc (h.alloc ⟨sz, L.map enc⟩) sz (.sl h.next 0 L.length L.length) L :=
  .inr ⟨h.next, 0, L.length, ⟨sz, L.map enc⟩, by simp, by rw [get_alloc, gsel_eq rfl], rfl, by simp, by simp [List.take_of_length_le], by simp, by simp [next_alloc], by simp [bigLen]; exact hb⟩
theorem new_bad {h : AH} {v : V} {L : List Node} (hw : h.lim ≤ h.next) (hS : SlT Node.enc h 3 v L) (hLb : L.length < 4000000000) (hr : rightR L ≠ 0) : Ev tp i_cursor_New [v] h (fun r h' => r = .np ∧ Ext h h') := by
  refine Ev.imp (new_ev hw hS hLb) ?_
  rintro _ h2 (⟨hr2, rfl, hx2⟩ | ⟨hr2, _⟩)
  · exact ⟨rfl, hx2⟩
  · exact absurd hr2 hr
theorem new_good {h : AH} {v : V} {L : List Node} (hw : h.lim ≤ h.next) (hS : SlT Node.enc h 3 v L) (hLb : L.length < 4000000000) (hr : rightR L = 0) : Ev tp i_cursor_New [v] h (fun r h' => ∃ id lv sv, r = .p id 0 0 ∧ NewC h h' L id lv sv (cur0 L)) := by
  refine Ev.imp (new_ev hw hS hLb) ?_
  rintro _ h2 (⟨hr2, rfl, hx2⟩ | ⟨hr2, hh⟩)
  · exact absurd hr hr2
  · exact hh
/-- A block beside a cursor's. -/
structure Box (h : AH) (id : Nat) (sv : V) (b : Nat) (k : Blk) : Prop where
  get : h.get b = some k
  lt : b < h.next
  ne : b ≠ id
  nes : sv = .ns ∨ b ≠ idV sv
theorem Box.step {h h' : AH} {id : Nat} {sv sv' : V} {b : Nat} {k : Blk} (x : Box h id sv b k) (f : CurF h id sv h' sv') : Box h' id sv' b k := by
  have := x.lt
  refine ⟨by rw [f.get b x.lt x.ne x.nes]; exact x.get, by have := f.next; omega, x.ne, ?_⟩
  rcases f.own with h1 | ⟨h0, h1⟩ | h1
  · exact .inl h1
  · rcases x.nes with h2 | h2
    · exact absurd h2 h0
    · exact .inr (by omega)
  · exact .inr (by omega)
theorem Box.ext {h h' : AH} {id : Nat} {sv : V} {b : Nat} {k : Blk} (x : Box h id sv b k) (f : Ext h h') : Box h' id sv b k :=
  ⟨by rw [f.get b x.lt]; exact x.get, by have := f.next; have := x.lt; omega, x.ne, x.nes⟩
theorem Cur.svlt {h : AH} {id : Nat} {lv sv : V} {L : List Node} {c : Cs} (k : Cur h id lv sv L c) : sv = .ns ∨ idV sv < h.next := by
  by_cases hs : sv = .ns
  · exact .inl hs
  · exact .inr (idV_ns_lt k.stk hs)
theorem Box.new {h : AH} {id : Nat} {lv sv : V} {L : List Node} {c : Cs} {k0 k : Blk} (x : Cur h id lv sv L c) : Box ((h.alloc k0).put h.next k) id sv h.next k :=
  ⟨by rw [get_put, gsel_eq rfl], by rw [next_put, next_alloc]; omega, by have := x.hi; omega, x.svlt.imp (fun x => x) (fun x => by omega)⟩
theorem Ext.box {h : AH} {k0 k : Blk} : Ext h ((h.alloc k0).put h.next k) := ((Ext.refl h).alloc _).put _ _ (Nat.le_refl _)
theorem known4_ev {h : AH} (hw : h.lim ≤ h.next) : Ev tp i_horariumlaw4_known [] h (fun r h' => r = .b true ∧ Ext h h') := by
  refine Ev_of fn_horariumlaw4_known (by simp [t_horariumlaw4_known]) ?_; unfold t_horariumlaw4_known
  simp (disch := omega) only [go_sem, ↓reduceIte, Nat.reduceEqDiff, Nat.reduceAdd, Nat.reduceSub, Nat.reduceLeDiff, Nat.reduceLT, List.reduceReplicate, Nat.reduceMul, Int.reduceNeg, reduceCtorEq, *,  horariumlaw4_known_0, horariumlaw4_known_1, fillP, fillE]
  have xa : Ext h (h.alloc ⟨3, fo0.flat.map Node.enc⟩) := (Ext.refl h).alloc _
  have s0 : SlT Node.enc (h.alloc ⟨3, fo0.flat.map Node.enc⟩) 3 (.sl h.next 0 2 2) fo0.flat := sl_lit (L := fo0.flat) (by decide)
  refine Ev.imp (new_good (by rw [lim_alloc, next_alloc]; omega) s0 (by decide) fo0_right) ?_
  rintro _ h1 ⟨id, lv, sv, rfl, N1⟩
  have R1 := start_rem fo0_ok rfl (by decide)
  rw [fo0_runs] at R1
  have x1 := N1.ext
  have n1 := x1.next
  have l1 := x1.lim
  simp only [next_alloc, lim_alloc] at n1 l1
  simp (disch := omega) only [go_sem, ↓reduceIte, Nat.reduceEqDiff, Nat.reduceAdd, Nat.reduceSub, Nat.reduceLeDiff, Nat.reduceLT, List.reduceReplicate, Nat.reduceMul, Int.reduceNeg, reduceCtorEq, *,  horariumlaw4_known_1, horariumlaw4_known_2, eqV]
  refine Ev.imp (new_bad (L := []) (by omega) (Sl.nil _ _) (by simp) right_nil) ?_
  rintro _ h2 ⟨rfl, hx2⟩
  have N2 := N1.grow hx2
  simp (disch := omega) only [go_sem, ↓reduceIte, Nat.reduceEqDiff, Nat.reduceAdd, Nat.reduceSub, Nat.reduceLeDiff, Nat.reduceLT, List.reduceReplicate, Nat.reduceMul, Int.reduceNeg, reduceCtorEq, *,  horariumlaw4_known_2, horariumlaw4_known_4, eqV, Bool.false_eq_true]
  refine Ev.imp (newNext N2 R1) ?_
  rintro _ h3 ⟨rfl, s3, c3, N3, f3, R3, a3⟩
  simp (disch := omega) only [go_sem, ↓reduceIte, Nat.reduceEqDiff, Nat.reduceAdd, Nat.reduceSub, Nat.reduceLeDiff, Nat.reduceLT, List.reduceReplicate, Nat.reduceMul, Int.reduceNeg, reduceCtorEq, *,  horariumlaw4_known_4, horariumlaw4_known_5]
  have l3 : h3.lim ≤ h3.next := N3.cur.lim_le
  have B3 := Box.new (k0 := ⟨2, [[.i .i64 0, .i .i64 0]]⟩) (k := ⟨2, [[.i .i64 2, .i .i64 5]]⟩) N3.cur
  have N3' := N3.grow (Ext.box (k0 := ⟨2, [[.i .i64 0, .i .i64 0]]⟩) (k := ⟨2, [[.i .i64 2, .i .i64 5]]⟩))
  simp (disch := omega) only [go_sem, ↓reduceIte, Nat.reduceEqDiff, Nat.reduceAdd, Nat.reduceSub, Nat.reduceLeDiff, Nat.reduceLT, List.reduceReplicate, Nat.reduceMul, Int.reduceNeg, reduceCtorEq, *,  horariumlaw4_known_4, horariumlaw4_known_5]
  refine Ev.imp (newTick N3' R3) ?_
  rintro _ h4 ⟨rfl, s4, c4, N4, f4, R4, a4⟩
  have B4 := B3.step f4
  have hat : c4.at_ = 6 := by rw [a4, a3]; rfl
  clear a3 a4
  rw [if_neg (by decide)] at R4
  simp (disch := omega) only [go_sem, ↓reduceIte, Nat.reduceEqDiff, Nat.reduceAdd, Nat.reduceSub, Nat.reduceLeDiff, Nat.reduceLT, List.reduceReplicate, Nat.reduceMul, Int.reduceNeg, reduceCtorEq, *,  horariumlaw4_known_5, horariumlaw4_known_6]
  refine Ev.imp (curAt_ev N4.cur) ?_
  rintro _ _ ⟨rfl, rfl⟩
  simp (disch := omega) only [go_sem, ↓reduceIte, Nat.reduceEqDiff, Nat.reduceAdd, Nat.reduceSub, Nat.reduceLeDiff, Nat.reduceLT, List.reduceReplicate, Nat.reduceMul, Int.reduceNeg, reduceCtorEq, *,  horariumlaw4_known_6, horariumlaw4_known_7]
  refine Ev.imp (newNext N4 R4) ?_
  rintro _ h5 ⟨rfl, s5, c5, N5, f5, R5, a5⟩
  have B5 := B4.step f5
  clear a5
  have l5 : h5.lim ≤ h5.next := N5.cur.lim_le
  have C5 := Box.new (k0 := ⟨2, [[.i .i64 0, .i .i64 0]]⟩) (k := ⟨2, [[.i .i64 2, .i .i64 4]]⟩) N5.cur
  have N5' := N5.grow (Ext.box (k0 := ⟨2, [[.i .i64 0, .i .i64 0]]⟩) (k := ⟨2, [[.i .i64 2, .i .i64 4]]⟩))
  have B5' := B5.ext (Ext.box (k0 := ⟨2, [[.i .i64 0, .i .i64 0]]⟩) (k := ⟨2, [[.i .i64 2, .i .i64 4]]⟩))
  simp (disch := omega) only [go_sem, ↓reduceIte, Nat.reduceEqDiff, Nat.reduceAdd, Nat.reduceSub, Nat.reduceLeDiff, Nat.reduceLT, List.reduceReplicate, Nat.reduceMul, Int.reduceNeg, reduceCtorEq, *,  horariumlaw4_known_7, horariumlaw4_known_8]
  refine Ev.imp (newNext_end N5' R5) ?_
  rintro _ h6 ⟨rfl, N6, x6⟩
  have B6 := B5'.ext x6
  have C6 := C5.ext x6
  have l6 : h6.lim ≤ h6.next := N6.cur.lim_le
  have N6' := N6.grow (Ext.box (k0 := ⟨2, [[.i .i64 0, .i .i64 0]]⟩) (k := ⟨2, [[.i .i64 0, .i .i64 0]]⟩))
  have B6' := B6.ext (Ext.box (k0 := ⟨2, [[.i .i64 0, .i .i64 0]]⟩) (k := ⟨2, [[.i .i64 0, .i .i64 0]]⟩))
  have C6' := C6.ext (Ext.box (k0 := ⟨2, [[.i .i64 0, .i .i64 0]]⟩) (k := ⟨2, [[.i .i64 0, .i .i64 0]]⟩))
  simp (disch := omega) only [go_sem, ↓reduceIte, Nat.reduceEqDiff, Nat.reduceAdd, Nat.reduceSub, Nat.reduceLeDiff, Nat.reduceLT, List.reduceReplicate, Nat.reduceMul, Int.reduceNeg, reduceCtorEq, *,  horariumlaw4_known_8, horariumlaw4_known_9]
  refine Ev.imp (newTick_end N6' R5) ?_
  rintro _ _ ⟨rfl, rfl⟩
  have g1 := B6'.get
  have g2 := C6'.get
  have x6' := N6'.ext
  generalize (h6.alloc ⟨2, [[.i .i64 0, .i .i64 0]]⟩).put h6.next ⟨2, [[.i .i64 0, .i .i64 0]]⟩ = h7 at *
  have l7 : h7.lim ≤ h7.next := N6'.cur.lim_le
  have s7 : SlT Node.enc (h7.alloc ⟨3, fo1.flat.map Node.enc⟩) 3 (.sl h7.next 0 1 1) fo1.flat := sl_lit (L := fo1.flat) (by decide)
  simp (disch := omega) only [go_sem, ↓reduceIte, Nat.reduceEqDiff, Nat.reduceAdd, Nat.reduceSub, Nat.reduceLeDiff, Nat.reduceLT, List.reduceReplicate, Nat.reduceMul, Int.reduceNeg, reduceCtorEq, *,  horariumlaw4_known_9, horariumlaw4_known_10, eqV, eqL, eqC, fillP, fillE, Int.reduceEq]
  refine Ev.imp (Part_ev (f := fo1) (t := 0) (by rw [lim_alloc, next_alloc]; omega) s7 fo1_right fo1_ok rfl (by decide) (by omega)) ?_
  rintro _ h8 ⟨rfl, hx8⟩
  have e8 : partGo fo1.runs 0 = -1 := by decide
  simp (disch := omega) only [go_sem, ↓reduceIte, Nat.reduceEqDiff, Nat.reduceAdd, Nat.reduceSub, Nat.reduceLeDiff, Nat.reduceLT, List.reduceReplicate, Nat.reduceMul, Int.reduceNeg, reduceCtorEq, *,  horariumlaw4_known_10]
  have y1 : Ext h h7 := xa.trans x6'
  exact (y1.alloc _).trans hx8
end Go.Ab.T
