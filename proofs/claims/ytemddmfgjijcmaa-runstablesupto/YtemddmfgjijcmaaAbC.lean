/- Part of the proof that RunsTables returns true for every input of the second form's bound (no other condition). -/
import Derived.Test.YtemddmfgjijcmaaAbB
import Derived.Test.YtemddmfgjijcmaaAbA
set_option linter.all false
/- Regions that draw their order. -/
namespace Go.Ab
open Go Go.RowKit
set_option linter.unusedVariables false
set_option linter.unusedSimpArgs false
set_option linter.constructorNameAsVariable false

/-! ### What an operation looks at -/
def Agree (e1 e2 : Env) (l : List Nat) : Prop := ∀ s ∈ l, e1 s = e2 s
theorem Agree.left {e1 e2 : Env} {a b : List Nat} (h : Agree e1 e2 (a ++ b)) : Agree e1 e2 a := fun s hs => h s (List.mem_append.2 (.inl hs))
theorem Agree.right {e1 e2 : Env} {a b : List Nat} (h : Agree e1 e2 (a ++ b)) : Agree e1 e2 b := fun s hs => h s (List.mem_append.2 (.inr hs))
theorem Agree.x {e1 e2 : Env} {x : X} (h : Agree e1 e2 (xT x)) : X.ev e1 x = X.ev e2 x := by
  cases x with
  | t n => exact h n (by simp [xT])
  | c v => rfl
  | fn f => rfl
theorem Agree.xs {e1 e2 : Env} {l : List X} (h : Agree e1 e2 (xsT l)) : l.map (X.ev e1) = l.map (X.ev e2) :=
  List.map_congr_left fun x hx => Agree.x fun s hs => h s (List.mem_flatMap.2 ⟨x, hx, hs⟩)
theorem Agree.xo {e1 e2 : Env} {o : Option X} (h : Agree e1 e2 (xoT o)) : o.map (X.ev e1) = o.map (X.ev e2) := by
  cases o with
  | none => rfl
  | some x => exact congrArg some (Agree.x h)
theorem Agree.ps {e1 e2 : Env} {l : List (Nat × Nat × X)} (h : Agree e1 e2 (xsT (l.map fun q => q.2.2))) : (l.map fun q => (q.1, q.2.1, X.ev e1 q.2.2)) = l.map fun q => (q.1, q.2.1, X.ev e2 q.2.2) :=
  List.map_congr_left fun q hq => by rw [Agree.x fun s hs => h s (List.mem_flatMap.2 ⟨q.2.2, List.mem_map.2 ⟨q, hq, rfl⟩, hs⟩)]
theorem Agree.es {e1 e2 : Env} {l : List (Nat × X)} (h : Agree e1 e2 (xsT (l.map fun q => q.2))) : (l.map fun q => (q.1, X.ev e1 q.2)) = l.map fun q => (q.1, X.ev e2 q.2) :=
  List.map_congr_left fun q hq => by rw [Agree.x fun s hs => h s (List.mem_flatMap.2 ⟨q.2, List.mem_map.2 ⟨q, hq, rfl⟩, hs⟩)]

theorem run1_congr {tp : TP} {C : Oracle} (o : O) {e1 e2 : Env} (h : Agree e1 e2 o.slots) (H : AH) : run1 tp C o (X.ev e1) H = run1 tp C o (X.ev e2) H := by
  cases o <;> simp only [O.slots] at h
  case mv x => simp only [run1, doOp, h.x]
  case pick c a b => simp only [run1, doOp, h.left.left.x, h.left.right.x, h.right.x]
  case alloc z => rfl
  case box x => simp only [run1, doOp, h.x]
  case build z ps => simp only [run1, doOp, h.ps]
  case bsl s z n ps => simp only [run1, doOp, h.es]
  case load n g x => simp only [run1, doOp, h.x]
  case store n a x => simp only [run1, doOp, h.left.x, h.right.x]
  case nck x => simp only [run1, doOp, h.x]
  case bin op x y => simp only [run1, doOp, h.left.x, h.right.x]
  case eq neg k x y => simp only [run1, doOp, h.left.x, h.right.x]
  case un op x => simp only [run1, doOp, h.x]
  case conv k x => simp only [run1, doOp, h.x]
  case strs x => simp only [run1, doOp, h.x]
  case s2b x => simp only [run1, doOp, h.x]
  case b2s x => simp only [run1, doOp, h.x]
  case i2s x => simp only [run1, doOp, h.x]
  case mkif t x => simp only [run1, doOp, h.x]
  case mkfn fn l m => simp only [run1, doOp, h.left.xs, h.right.xs]
  case mksl z n c => simp only [run1, doOp, h.left.x, h.right.x]
  case slice s x lo hi top => simp only [run1, doOp, h.left.left.left.x, h.left.left.right.xo, h.left.right.xo, h.right.xo]
  case sslice x lo hi => simp only [run1, doOp, h.left.left.x, h.left.right.xo, h.right.xo]
  case fad f x => simp only [run1, doOp, h.x]
  case fld f n g x => simp only [run1, doOp, h.x]
  case iad s x i => simp only [run1, doOp, h.left.x, h.right.x]
  case iada s n x i => simp only [run1, doOp, h.left.x, h.right.x]
  case idx s n g x i => simp only [run1, doOp, h.left.x, h.right.x]
  case sidx x i => simp only [run1, doOp, h.left.x, h.right.x]
  case ext x i => simp only [run1, doOp, h.x]
  case app s x y => simp only [run1, doOp, h.left.x, h.right.x]
  case len x => simp only [run1, doOp, h.x]
  case slen x => simp only [run1, doOp, h.x]
  case lenc n => rfl
  case cap x => simp only [run1, doOp, h.x]
  case mn l =>
    have := h.xs
    cases l with
    | nil => rfl
    | cons x r =>
      simp only [List.map_cons, List.cons.injEq] at this
      simp only [run1, doOp, this.1, this.2]
  case mx l =>
    have := h.xs
    cases l with
    | nil => rfl
    | cons x r =>
      simp only [List.map_cons, List.cons.injEq] at this
      simp only [run1, doOp, this.1, this.2]
  case call f l => simp only [run1, callee, h.left.x, h.right.xs]
  case inv x m l => simp only [run1, callee, h.left.x, h.right.xs]
  case tas t ok z x => simp only [run1, doOp, h.x]

section
variable {P : Program}

/-- A run of the abstract machine comes of a run of the model's: so there is one. -/
theorem wp_exists {o : Oper} {a : Act} {w : World} {K : Act → World → Prop} (h : o.wp P a w K (fun _ _ _ => False)) : ∃ a' w', K a' w' := by
  unfold Oper.wp at h
  generalize (execOp a.eval o).run P w = r at h
  cases r with
  | ok n w' =>
    cases n <;> simp only [Oper.upon] at h <;> try (exact ⟨_, _, h⟩)
    case enter f args =>
      obtain ⟨e, w'', fr, hR, _⟩ := h []
      cases e with
      | returned v => exact ⟨_, _, hR⟩
      | panicked c => exact hR.elim
      | outgrown => obtain ⟨_, _, hh⟩ := hR; exact hh.elim
    case row row args =>
      obtain ⟨v, w'', hR, _⟩ := h default []
      exact ⟨_, _, hR⟩
  | halt x w' => cases x <;> simp only [Oper.upon] at h

/-- One operation of the abstract machine, by itself, above all that was there: what stays. -/
theorem run1_low {C : Oracle} {tp : TP} (hC : OracleOk P C) (hm : MethsOk P tp) {M : Mp} {B : Nat} {w : World} {h h' : AH} {e : Env} {a : Act} {v : V} {o : Oper} {r : O}
    (hE : EnvR M h e a) (hs : Sim M B w h) (hc : compOp P o = some r) (hd : run1 tp C r (X.ev e) h = some (v, h')) : ∃ x w' M', Done M B w h v h' x w' M' := by
  obtain ⟨a', w', h1⟩ := wp_exists (run1_sound (K := fun a' w' => ∃ x M', Done M B w h v h' x w' M') hC hm hE hs hc hd (fun x w' M' hd => ⟨x, M', hd⟩))
  obtain ⟨x, M', h2⟩ := h1
  exact ⟨x, w', M', h2⟩

theorem Keeps.raise (M : Mp) (h : AH) : Keeps M M h h.raise := ⟨Nat.le_refl _, fun _ _ r => r, fun _ _ _ => rfl⟩
theorem Keeps.back (M : Mp) (h : AH) (l : Nat) : Keeps M M h (h.back l) := ⟨Nat.le_refl _, fun _ _ r => r, fun _ _ _ => rfl⟩
theorem Sim.raise {M : Mp} {B : Nat} {w : World} {h : AH} (hs : Sim M B w h) : Sim M w.heap.size w h.raise := by
  refine ⟨fun id k m hg hm => ?_, hs.own, fun id m hl hm hlim => ?_, hs.apart, hs.fresh, Nat.le_refl _, Nat.le_refl _⟩
  · obtain ⟨h1, h2⟩ := hs.cells id k m hg hm
    exact ⟨h1, h2.keep (Keeps.raise M h) rfl⟩
  · have := hs.fresh id hl
    simp only [AH.raise] at hlim
    omega
theorem EnvR.raise {M : Mp} {h : AH} {e : Env} {a : Act} (hE : EnvR M h e a) : EnvR M h.raise e a := fun t => (hE t).keep (Keeps.raise M h)

/-- What was done above all that was there is done. -/
theorem Done.back {M M' : Mp} {B : Nat} {w w' : World} {h q : AH} {v : V} {x : Value} (hs : Sim M B w h) (hd : Done M w.heap.size w h.raise v q x w' M') : Done M B w h v (q.back h.lim) x w' M' := by
  have kb := Keeps.back M' q h.lim
  have hbw : Below B w w' := hd.below.mono hs.size
  refine ⟨hd.val.keep kb, ⟨fun id k m hg hm => ?_, hd.sim.own, fun id m hl hm hlim => ?_, hd.sim.apart, hd.sim.fresh, ?_, ?_⟩, trivial, ⟨⟨hd.goes.keeps.next, hd.goes.keeps.live, hd.goes.keeps.map⟩, rfl, fun id hi => ?_⟩, hbw⟩
  · obtain ⟨h1, h2⟩ := hd.sim.cells id k m hg hm
    exact ⟨h1, h2.keep kb rfl⟩
  · by_cases hi : id < h.next
    · have hl' : q.live id := hl
      have hm' := hd.goes.keeps.map id hi hl'
      rw [hm'] at hm
      exact hs.from_ id m (hd.goes.keeps.live id hi hl') hm hlim
    · have hql : q.lim = h.next := hd.goes.lim
      have := hd.sim.from_ id m hl hm (by rw [hql]; omega)
      exact ⟨this.1, Nat.le_trans hs.size this.2⟩
  · have h1 := hd.goes.keeps.next
    have h2 := hs.lim
    simp only [AH.back, AH.raise] at *
    omega
  · exact Nat.le_trans hs.size hbw.size
  · have := hs.lim
    exact hd.goes.low id (show id < h.next by omega)
theorem Done.low {M M' : Mp} {w w' : World} {h q : AH} {v : V} {x : Value} {B : Nat} (hd : Done M B w h.raise v q x w' M') : h.next ≤ q.next ∧ ∀ id, id < h.next → q.get id = h.get id :=
  ⟨hd.goes.keeps.next, fun id hi => hd.goes.low id hi⟩

/-! ### Values whose places lie below a number -/
mutual
inductive VB (N : Nat) : V → Prop where
  | u : VB N .u
  | b (x : Bool) : VB N (.b x)
  | i (k : IntKind) (n : Int) : VB N (.i k n)
  | s (x : ByteArray) : VB N (.s x)
  | np : VB N .np
  | p (id el off : Nat) : id < N → VB N (.p id el off)
  | ns : VB N .ns
  | sl (id el len cap : Nat) : id < N → VB N (.sl id el len cap)
  | nf : VB N .nf
  | f (fn : Fn) (a c : List V) : VBs N a → VBs N c → VB N (.f fn a c)
  | ni : VB N .ni
  | ifc (t : Nat) (v : V) : VB N v → VB N (.ifc t v)
  | agg (l : List V) : VBs N l → VB N (.agg l)
  | tup (l : List V) : VBs N l → VB N (.tup l)
inductive VBs (N : Nat) : List V → Prop where
  | nil : VBs N []
  | cons (v : V) (l : List V) : VB N v → VBs N l → VBs N (v :: l)
end
mutual
theorem VB.mono {N N' : Nat} (hN : N ≤ N') : ∀ {v : V}, VB N v → VB N' v
  | _, .u => .u
  | _, .b x => .b x
  | _, .i k n => .i k n
  | _, .s x => .s x
  | _, .np => .np
  | _, .p id el off h => .p id el off (Nat.lt_of_lt_of_le h hN)
  | _, .ns => .ns
  | _, .sl id el len cap h => .sl id el len cap (Nat.lt_of_lt_of_le h hN)
  | _, .nf => .nf
  | _, .f fn a c p q => .f fn a c (VBs.mono hN p) (VBs.mono hN q)
  | _, .ni => .ni
  | _, .ifc t v p => .ifc t v (VB.mono hN p)
  | _, .agg l p => .agg l (VBs.mono hN p)
  | _, .tup l p => .tup l (VBs.mono hN p)
theorem VBs.mono {N N' : Nat} (hN : N ≤ N') : ∀ {l : List V}, VBs N l → VBs N' l
  | _, .nil => .nil
  | _, .cons v l p q => .cons v l (VB.mono hN p) (VBs.mono hN q)
end
mutual
theorem VR.vb {M : Mp} {h : AH} : ∀ {v : V} {x : Value}, VR M h v x → VB h.next v
  | _, _, .u x => .u
  | _, _, .b x => .b x
  | _, _, .i k n => .i k n
  | _, _, .s x => .s x
  | _, _, .np => .np
  | _, _, .p id el off a hi _ => .p id el off hi
  | _, _, .ns => .ns
  | _, _, .sl id el len cap a rc hi _ _ => .sl id el len cap hi
  | _, _, .nf => .nf
  | _, _, .f fn a c _ _ p q => .f fn a c (VRs.vb p) (VRs.vb q)
  | _, _, .ni => .ni
  | _, _, .ifc t v _ p => .ifc t v (VR.vb p)
  | _, _, .agg l _ p => .agg l (VRs.vb p)
  | _, _, .tup l _ p => .tup l (VRs.vb p)
theorem VRs.vb {M : Mp} {h : AH} : ∀ {l : List V} {l' : List Value}, VRs M h l l' → VBs h.next l
  | _, _, .nil => .nil
  | _, _, .cons v _ l _ p q => .cons v l (VR.vb p) (VRs.vb q)
end
mutual
/-- The same value over another heap: where what lives there below N lives here, at the same place. -/
theorem VR.move {M M' : Mp} {h h2 : AH} {N : Nat} (hN : N ≤ h2.next) (hc : ∀ id, id < N → h2.live id → h.live id ∧ M' id = M id) : ∀ {v : V} {x : Value}, VR M h v x → VB N v → VR M' h2 v x
  | _, _, .u x, _ => .u x
  | _, _, .b x, _ => .b x
  | _, _, .i k n, _ => .i k n
  | _, _, .s x, _ => .s x
  | _, _, .np, _ => .np
  | _, _, .p id el off a hi hm, .p _ _ _ hb => .p id el off a (Nat.lt_of_lt_of_le hb hN) (fun hl => by rw [(hc id hb hl).2]; exact hm (hc id hb hl).1)
  | _, _, .ns, _ => .ns
  | _, _, .sl id el len cap a rc hi hlr hm, .sl _ _ _ _ hb => .sl id el len cap a rc (Nat.lt_of_lt_of_le hb hN) hlr (fun hl => by rw [(hc id hb hl).2]; exact hm (hc id hb hl).1)
  | _, _, .nf, _ => .nf
  | _, _, .f fn a c a' c' p q, .f _ _ _ p2 q2 => .f fn a c a' c' (VRs.move hN hc p p2) (VRs.move hN hc q q2)
  | _, _, .ni, _ => .ni
  | _, _, .ifc t v x p, .ifc _ _ p2 => .ifc t v x (VR.move hN hc p p2)
  | _, _, .agg l l' p, .agg _ p2 => .agg l l' (VRs.move hN hc p p2)
  | _, _, .tup l l' p, .tup _ p2 => .tup l l' (VRs.move hN hc p p2)
theorem VRs.move {M M' : Mp} {h h2 : AH} {N : Nat} (hN : N ≤ h2.next) (hc : ∀ id, id < N → h2.live id → h.live id ∧ M' id = M id) : ∀ {l : List V} {l' : List Value}, VRs M h l l' → VBs N l → VRs M' h2 l l'
  | _, _, .nil, _ => .nil
  | _, _, .cons v x l l' p q, .cons _ _ p2 q2 => .cons v x l l' (VR.move hN hc p p2) (VRs.move hN hc q q2)
end
mutual
/-- The same heap, a map that tells more. -/
theorem VR.remap {M M' : Mp} {h : AH} (hc : ∀ id m, h.live id → M id = some m → M' id = some m) : ∀ {v : V} {x : Value}, VR M h v x → VR M' h v x
  | _, _, .u x => .u x
  | _, _, .b x => .b x
  | _, _, .i k n => .i k n
  | _, _, .s x => .s x
  | _, _, .np => .np
  | _, _, .p id el off a hi hm => .p id el off a hi (fun hl => by
      obtain ⟨m, h1, h2⟩ := hm hl
      exact ⟨m, hc id m hl h1, h2⟩)
  | _, _, .ns => .ns
  | _, _, .sl id el len cap a rc hi hlr hm => .sl id el len cap a rc hi hlr (fun hl => by
      obtain ⟨m, h1, h2⟩ := hm hl
      exact ⟨m, hc id m hl h1, h2⟩)
  | _, _, .nf => .nf
  | _, _, .f fn a c a' c' p q => .f fn a c a' c' (VRs.remap hc p) (VRs.remap hc q)
  | _, _, .ni => .ni
  | _, _, .ifc t v x p => .ifc t v x (VR.remap hc p)
  | _, _, .agg l l' p => .agg l l' (VRs.remap hc p)
  | _, _, .tup l l' p => .tup l l' (VRs.remap hc p)
theorem VRs.remap {M M' : Mp} {h : AH} (hc : ∀ id m, h.live id → M id = some m → M' id = some m) : ∀ {l : List V} {l' : List Value}, VRs M h l l' → VRs M' h l l'
  | _, _, .nil => .nil
  | _, _, .cons v x l l' p q => .cons v x l l' (VR.remap hc p) (VRs.remap hc q)
end

/-! ### The closure of the edges -/
theorem maskOf_bit (o : Oper) (acc : List Nat) (j : Nat) (h : (maskOf o acc).testBit j = true) : ∃ e ∈ o.after.toList, Region.binds .any e = true ∧ (e.on = j ∨ (acc.getD e.on 0).testBit j = true) := by
  unfold maskOf at h
  have key : ∀ (l : List Edge) (s : Nat), (l.foldl (fun s e => if Region.binds .any e then s ||| 2 ^ e.on ||| acc.getD e.on 0 else s) s).testBit j = true → s.testBit j = true ∨ ∃ e ∈ l, Region.binds .any e = true ∧ (e.on = j ∨ (acc.getD e.on 0).testBit j = true) := by
    intro l
    induction l with
    | nil => intro s h; exact .inl h
    | cons e l ih =>
      intro s h
      simp only [List.foldl_cons] at h
      rcases ih _ h with h1 | ⟨e', he', h2⟩
      · split at h1
        · rename_i hb
          simp only [Nat.testBit_or, Bool.or_eq_true] at h1
          rcases h1 with (h1 | h1) | h1
          · exact .inl h1
          · rw [Nat.testBit_two_pow] at h1
            exact .inr ⟨e, by simp, hb, .inl (by simpa using h1)⟩
          · exact .inr ⟨e, by simp, hb, .inr h1⟩
        · exact .inl h1
      · exact .inr ⟨e', by simp [he'], h2⟩
  rcases key _ _ h with h1 | h1
  · simp at h1
  · exact h1
theorem cloGo_get : ∀ (l : List Oper) (acc : List Nat) (i : Nat), (i < acc.length → (cloGo l acc)[i]? = acc[i]?) ∧ (cloGo l acc).length = acc.length + l.length ∧
    (∀ o, acc.length ≤ i → l[i - acc.length]? = some o → ∃ pre, pre.length = i ∧ (∀ k, k < i → pre[k]? = (cloGo l acc)[k]?) ∧ (cloGo l acc)[i]? = some (maskOf o pre))
  | [], acc, i => ⟨fun _ => rfl, by simp [cloGo], fun o _ h => by simp at h⟩
  | o :: l, acc, i => by
    obtain ⟨h1, h2, h3⟩ := cloGo_get l (acc ++ [maskOf o acc]) i
    simp only [cloGo, List.length_append, List.length_cons, List.length_nil] at *
    refine ⟨fun hi => ?_, by omega, fun o' hi ho => ?_⟩
    · rw [h1 (by omega), List.getElem?_append, if_pos hi]
    · by_cases he : i = acc.length
      · subst he
        simp at ho
        subst ho
        refine ⟨acc, rfl, fun k hk => ?_, ?_⟩
        · rw [(cloGo_get l (acc ++ [maskOf o acc]) k).1 (by simp; omega), List.getElem?_append, if_pos hk]
        · rw [h1 (by omega)]; simp
      · obtain ⟨d, hd⟩ : ∃ d, i - acc.length = d + 1 := ⟨i - acc.length - 1, by omega⟩
        rw [hd] at ho
        simp only [List.getElem?_cons_succ] at ho
        exact h3 o' (by omega) (by rw [show i - (acc.length + 1) = d by omega]; exact ho)

/-- What has been listed bears with it all from which it hangs. -/
def Closed (ops : Array Oper) (S : Nat → Prop) : Prop := ∀ i o, ops[i]? = some o → S i → ∀ e ∈ o.after.toList, Region.binds .any e = true → S e.on

theorem clo_reach {ops : Array Oper} {S : Nat → Prop} (hS : Closed ops S) : ∀ (i j : Nat) (o : Oper), ops[i]? = some o → (∀ e ∈ o.after.toList, Region.binds .any e = true → S e.on) → ((clo ops.toList).getD i 0).testBit j = true → S j := by
  intro i
  induction i using Nat.strongRecOn with
  | _ i ih =>
    intro j o ho hdir hbit
    obtain ⟨_, hlen, h3⟩ := cloGo_get ops.toList [] i
    obtain ⟨pre, hpl, hpre, hmask⟩ := h3 o (Nat.zero_le _) (by simpa using ho)
    have hcl : clo ops.toList = cloGo ops.toList [] := rfl
    rw [List.getD_eq_getElem?_getD, hcl, hmask] at hbit
    simp only [Option.getD_some] at hbit
    obtain ⟨e, he, hb, h4⟩ := maskOf_bit o pre j hbit
    have hSe := hdir e he hb
    rcases h4 with h4 | h4
    · rw [← h4]; exact hSe
    · by_cases hlt : e.on < i
      · have hlen2 : e.on < ops.size := by
          have := (Array.getElem?_eq_some_iff.1 ho).1
          omega
        have hoe : ops[e.on]? = some ops[e.on] := by simp [hlen2]
        refine ih e.on hlt j _ hoe (fun e' he' hb' => hS e.on _ hoe hSe e' he' hb') ?_
        rw [List.getD_eq_getElem?_getD, hcl, ← hpre e.on hlt, ← List.getD_eq_getElem?_getD]
        exact h4
      · rw [List.getD_eq_getElem?_getD, List.getElem?_eq_none (by omega)] at h4
        simp at h4
end
end Go.Ab
/- A region that draws its order: the run in the order of the text, and what is known of it. -/
namespace Go.Ab
open Go Go.RowKit
set_option linter.unusedVariables false
set_option linter.unusedSimpArgs false
set_option linter.constructorNameAsVariable false

section
variable {P : Program}

/-- Does the operation at a place stand alone? -/
def barAt : List (Bool × List TO) → Nat → Bool
  | [], _ => false
  | (q, l) :: r, i => if i < l.length then !q else barAt r (i - l.length)

/-- A step of the run in the order of the text. -/
def StepU (E : Nat → Env) (H : Nat → AH) (V' : Nat → V) (j : Nat) (t : TO) : Prop := wantedT (E j) t.g = some false ∧ V' j = .tup [] ∧ H (j + 1) = H j
def StepP (E : Nat → Env) (H : Nat → AH) (V' : Nat → V) (j : Nat) (t : TO) : Prop := wantedT (E j) t.g = some true ∧ isPure t.o = true ∧ alive t.o (X.ev (E j)) (H j) = true ∧ doOp t.o (X.ev (E j)) (H j) = some (V' j, H j) ∧ H (j + 1) = H j
def StepQ (tp : TP) (C : Oracle) (lim : Nat) (E : Nat → Env) (H : Nat → AH) (V' : Nat → V) (j : Nat) (t : TO) : Prop := wantedT (E j) t.g = some true ∧ isPure t.o = false ∧ ∃ q, run1 tp C t.o (X.ev (E j)) (H j).raise = some (V' j, q) ∧ H (j + 1) = q.back lim
def StepB (tp : TP) (C : Oracle) (E : Nat → Env) (H : Nat → AH) (V' : Nat → V) (j : Nat) (t : TO) : Prop := wantedT (E j) t.g = some true ∧ run1 tp C t.o (X.ev (E j)) (H j) = some (V' j, H (j + 1))

structure Trace (tp : TP) (C : Oracle) (ts : List TO) (bar : Nat → Bool) (lim : Nat) (E : Nat → Env) (H : Nat → AH) (V' : Nat → V) : Prop where
  step : ∀ (j : Nat) (t : TO), ts[j]? = some t → (StepU E H V' j t ∨ if bar j then StepB tp C E H V' j t else StepP E H V' j t ∨ StepQ tp C lim E H V' j t)
  env : ∀ (j : Nat) (t : TO), ts[j]? = some t → E (j + 1) = (E j).set t.d (V' j)

theorem Trace.cons {tp : TP} {C : Oracle} {ts : List TO} {bar : Nat → Bool} {lim : Nat} {E : Nat → Env} {H : Nat → AH} {V' : Nat → V} {e : Env} {h : AH} {v : V} {t : TO} {b : Bool} (tr : Trace tp C ts bar lim E H V') (he : E 0 = e.set t.d v)
    (hs : StepU (fun | 0 => e | j + 1 => E j) (fun | 0 => h | j + 1 => H j) (fun | 0 => v | j + 1 => V' j) 0 t ∨ if b then StepB tp C (fun | 0 => e | j + 1 => E j) (fun | 0 => h | j + 1 => H j) (fun | 0 => v | j + 1 => V' j) 0 t else
      StepP (fun | 0 => e | j + 1 => E j) (fun | 0 => h | j + 1 => H j) (fun | 0 => v | j + 1 => V' j) 0 t ∨ StepQ tp C lim (fun | 0 => e | j + 1 => E j) (fun | 0 => h | j + 1 => H j) (fun | 0 => v | j + 1 => V' j) 0 t) :
    Trace tp C (t :: ts) (fun | 0 => b | j + 1 => bar j) lim (fun | 0 => e | j + 1 => E j) (fun | 0 => h | j + 1 => H j) (fun | 0 => v | j + 1 => V' j) := by
  refine ⟨fun j t' ht => ?_, fun j t' ht => ?_⟩
  · cases j with
    | zero =>
      simp only [List.getElem?_cons_zero, Option.some.injEq] at ht
      subst ht
      exact hs
    | succ j => exact tr.step j t' (by simpa using ht)
  · cases j with
    | zero =>
      simp only [List.getElem?_cons_zero, Option.some.injEq] at ht
      subst ht
      exact he
    | succ j => exact tr.env j t' (by simpa using ht)

theorem back_raise (h : AH) : h.raise.back h.lim = h := rfl

/-- What has been known of the rest of a run is known of one that begins with a quiet piece. -/
theorem quiet_trace {tp : TP} {C : Oracle} (hS : OSteady C) (lim : Nat) (rest : List TO) (bar : Nat → Bool) (e' : Env) (h' : AH) : ∀ (l : List TO) (e e1 : Env) (h h1 : AH), h.lim = lim → evQuiet tp C l e h = some (e1, h1) →
    (∃ E H V', Trace tp C rest bar lim E H V' ∧ E 0 = e1 ∧ H 0 = h1 ∧ E rest.length = e' ∧ H rest.length = h') →
    ∃ E H V', Trace tp C (l ++ rest) (fun i => if i < l.length then false else bar (i - l.length)) lim E H V' ∧ E 0 = e ∧ H 0 = h ∧ E (l ++ rest).length = e' ∧ H (l ++ rest).length = h'
  | [], e, e1, h, h1, _, he, hr => by
    simp [evQuiet] at he
    obtain ⟨rfl, rfl⟩ := he
    obtain ⟨E, H, V', tr, a, b, c, d⟩ := hr
    exact ⟨E, H, V', by simpa using tr, a, b, c, d⟩
  | t :: l, e, e1, h, h1, hl, he, hr => by
    have fin : ∀ (e2 : Env) (h2 : AH) (v : V), h2.lim = lim → evQuiet tp C l e2 h2 = some (e1, h1) → e2 = e.set t.d v →
        ((wantedT e t.g = some false ∧ v = .tup [] ∧ h2 = h) ∨ (wantedT e t.g = some true ∧ isPure t.o = true ∧ alive t.o (X.ev e) h = true ∧ doOp t.o (X.ev e) h = some (v, h) ∧ h2 = h) ∨ (wantedT e t.g = some true ∧ isPure t.o = false ∧ ∃ q, run1 tp C t.o (X.ev e) h.raise = some (v, q) ∧ h2 = q.back lim)) →
        ∃ E H V', Trace tp C (t :: l ++ rest) (fun i => if i < (t :: l).length then false else bar (i - (t :: l).length)) lim E H V' ∧ E 0 = e ∧ H 0 = h ∧ E (t :: l ++ rest).length = e' ∧ H (t :: l ++ rest).length = h' := by
      intro e2 h2 v hl2 hq he2 hc
      obtain ⟨E, H, V', tr, a, b, c, d⟩ := quiet_trace hS lim rest bar e' h' l e2 e1 h2 h1 hl2 hq hr
      have hb : (fun i => if i < (t :: l).length then false else bar (i - (t :: l).length)) = (fun | 0 => false | j + 1 => if j < l.length then false else bar (j - l.length) : Nat → Bool) := by
        funext i
        cases i with
        | zero => simp
        | succ i => simp [Nat.add_sub_add_right]
      rw [hb]
      refine ⟨_, _, _, Trace.cons (e := e) (h := h) (v := v) (b := false) tr (a.trans he2) ?_, rfl, rfl, c, d⟩
      rcases hc with ⟨c1, c2, c3⟩ | ⟨c1, c2, c3, c4, c5⟩ | ⟨c1, c2, q, c3, c4⟩
      · exact .inl ⟨c1, c2, b.trans c3⟩
      · right; simp only [Bool.false_eq_true, if_false]; exact .inl ⟨c1, c2, c3, c4, b.trans c5⟩
      · right; simp only [Bool.false_eq_true, if_false]; exact .inr ⟨c1, c2, q, c3, b.trans c4⟩
    simp only [evQuiet] at he
    cases hw : wantedT e t.g with
    | none => simp [hw] at he
    | some b =>
      simp only [hw] at he
      cases b with
      | true =>
        simp only at he
        by_cases hp : isPure t.o = true
        · simp only [hp, if_true] at he
          split at he
          case isFalse => simp at he
          rename_i hal
          obtain ⟨q, hq, he2⟩ := bind_some he
          clear he
          obtain ⟨v, hh⟩ := q
          have := pure_same hp hq
          subst this
          exact fin _ _ v hl he2 rfl (.inr (.inl ⟨hw, hp, hal, hq, rfl⟩))
        · have hp' : isPure t.o = false := by simpa using hp
          simp only [hp', Bool.false_eq_true, if_false] at he
          obtain ⟨q, hq, he⟩ := bind_some he
          exact fin _ _ q.1 (by simp [AH.back, hl]) he rfl (.inr (.inr ⟨hw, hp', q.2, hq, by rw [hl]⟩))
      | false => exact fin _ _ (.tup []) hl he rfl (.inl ⟨hw, rfl, rfl⟩)

theorem segs_trace {tp : TP} {C : Oracle} (hS : OSteady C) (lim : Nat) : ∀ (segs : List (Bool × List TO)) (e e' : Env) (h h' : AH), h.lim = lim → (∀ s ∈ segs, s.1 = true ∨ s.2.length = 1) → evSegs tp C segs e h = some (e', h') →
    ∃ E H V', Trace tp C (segs.map (·.2)).flatten (barAt segs) lim E H V' ∧ E 0 = e ∧ H 0 = h ∧ E (segs.map (·.2)).flatten.length = e' ∧ H (segs.map (·.2)).flatten.length = h'
  | [], e, e', h, h', _, _, he => by
    simp [evSegs] at he
    obtain ⟨rfl, rfl⟩ := he
    exact ⟨fun _ => e, fun _ => h, fun _ => .u, ⟨fun j t ht => by simp at ht, fun j t ht => by simp at ht⟩, rfl, rfl, rfl, rfl⟩
  | (q, l) :: r, e, e', h, h', hl, hk, he => by
    simp only [evSegs] at he
    obtain ⟨z, hz, he2⟩ := bind_some he
    clear he
    have hk' : ∀ s ∈ r, s.1 = true ∨ s.2.length = 1 := fun s hs => hk s (by simp [hs])
    cases q with
    | true =>
      simp only [if_true] at hz
      have hlz : z.2.lim = lim := (quiet_steady hS l e h z hz).1.trans hl
      have := quiet_trace hS lim _ _ e' h' l e z.1 h z.2 hl hz (segs_trace hS lim r z.1 e' z.2 h' hlz hk' he2)
      simpa [barAt] using this
    | false =>
      simp only [Bool.false_eq_true, if_false] at hz
      have h1 : l.length = 1 := by simpa using hk (false, l) (by simp)
      obtain ⟨t, rfl⟩ := List.length_eq_one_iff.1 h1
      have hlz : z.2.lim = lim := (ops_steady hS [t] e h z hz).1.trans hl
      obtain ⟨E, H, V', tr, a, b, c, d⟩ := segs_trace hS lim r z.1 e' z.2 h' hlz hk' he2
      have hb : barAt ((false, [t]) :: r) = (fun | 0 => true | j + 1 => barAt r j : Nat → Bool) := by
        funext i
        cases i with
        | zero => simp [barAt]
        | succ i => simp [barAt]
      simp only [List.map_cons, List.flatten_cons, List.singleton_append]
      rw [hb]
      simp only [evOps] at hz
      cases hw : wantedT e t.g with
      | none => simp [hw] at hz
      | some w =>
        simp only [hw] at hz
        cases w with
        | true =>
          obtain ⟨q, hq, hz⟩ := bind_some hz
          simp only [Option.some.injEq] at hz
          subst hz
          refine ⟨_, _, _, Trace.cons (e := e) (h := h) (v := q.1) (b := true) tr a ?_, rfl, rfl, c, d⟩
          right
          simp only [if_true]
          exact ⟨hw, by show run1 tp C t.o (X.ev e) h = some (q.1, H 0); rw [b]; exact hq⟩
        | false =>
          simp only [Option.some.injEq] at hz
          subst hz
          refine ⟨_, _, _, Trace.cons (e := e) (h := h) (v := .tup []) (b := true) tr a ?_, rfl, rfl, c, d⟩
          left
          exact ⟨hw, rfl, b⟩

/-- In the order of the text there is a run of the model's: what is known of the abstract one by that. -/
structure Known (P : Program) (n : Nat) (ts : List TO) (bar : Nat → Bool) (lim : Nat) (E : Nat → Env) (H : Nat → AH) (V' : Nat → V) : Prop where
  rel : ∀ j, j ≤ ts.length → ∃ M B w a, Rel M B w (H j) (E j) a n
  qget : ∀ j, j < ts.length → bar j = false → ∀ id, id < (H j).next → (H (j + 1)).get id = (H j).get id
  low : ∀ j, j < ts.length → ∀ id, id < lim → (H (j + 1)).get id = (H j).get id
  steady : ∀ j, j < ts.length → Steady (H j) (H (j + 1))
  val : ∀ j, j < ts.length → VB (H (j + 1)).next (V' j)
  lim : ∀ j, j ≤ ts.length → (H j).lim = lim

theorem known_of {C : Oracle} {tp : TP} (hC : OracleOk P C) (hS : OSteady C) (hm : MethsOk P tp) {n : Nat} {ops : Array Oper} {ts : List TO} {bar : Nat → Bool} {lim : Nat} {E : Nat → Env} {H : Nat → AH} {V' : Nat → V}
    (htr : Trace tp C ts bar lim E H V') {M : Mp} {B : Nat} {w : World} {a : Act} (hr : Rel M B w (H 0) (E 0) a n) (hl : (H 0).lim = lim)
    (hget : ∀ (j : Nat) (t : TO), ts[j]? = some t → ∃ o, compO P n ops o = some t) : Known P n ts bar lim E H V' := by
  have main : ∀ j, j ≤ ts.length → (∃ M B w a, Rel M B w (H j) (E j) a n) ∧ (H j).lim = lim ∧ ∀ i, i < j → (bar i = false → ∀ id, id < (H i).next → (H (i + 1)).get id = (H i).get id) ∧ (∀ id, id < lim → (H (i + 1)).get id = (H i).get id) ∧ Steady (H i) (H (i + 1)) ∧ VB (H (i + 1)).next (V' i) := by
    intro j
    induction j with
    | zero => intro _; exact ⟨⟨M, B, w, a, hr⟩, hl, fun i hi => by omega⟩
    | succ j ih =>
      intro hj
      obtain ⟨⟨M, B, w, a, hr⟩, hlim, hlow⟩ := ih (by omega)
      have ht : ts[j]? = some ts[j] := List.getElem?_eq_getElem (by omega)
      obtain ⟨o, ho⟩ := hget j _ ht
      obtain ⟨hco, hg, hd, hdk, _⟩ := compO_some ho
      have hE := htr.env j _ ht
      have ext : ∀ {p : Nat → Prop}, (∀ i, i < j → p i) → p j → ∀ i, i < j + 1 → p i := fun h1 h2 i hi => by
        rcases Nat.lt_succ_iff_lt_or_eq.1 hi with h3 | h3
        · exact h1 i h3
        · subst h3; exact h2
      rcases htr.step j _ ht with ⟨hw, hv, hH⟩ | hst
      · have hput := hr.put hdk (Done.same (v := .tup []) (x := undef) hr.sim trivial (.tup _ _ .nil))
        rw [← hd, ← hv, ← hE] at hput
        refine ⟨⟨M, B, w, _, by rw [hH]; exact hput⟩, by rw [hH]; exact hlim, ext hlow ?_⟩
        rw [hH, hv]
        exact ⟨fun _ _ _ => rfl, fun _ _ => rfl, Steady.refl _, .tup _ .nil⟩
      · by_cases hbar : bar j = true
        · rw [if_pos hbar] at hst
          obtain ⟨hw, hq⟩ := hst
          obtain ⟨x, w', M', hdone⟩ := run1_low hC hm hr.env hr.sim hco hq
          have hput := hr.put hdk hdone
          rw [← hd, ← hE] at hput
          have hst' := run1_steady hS hq
          refine ⟨⟨M', B, w', _, hput⟩, hst'.1.trans hlim, ext hlow ⟨fun hb => (by rw [hbar] at hb; cases hb), fun id hid => hdone.goes.low id (by rw [hlim]; exact hid), hst', hdone.val.vb⟩⟩
        · rw [if_neg hbar] at hst
          rcases hst with ⟨hw, hp, hal, hq, hH⟩ | ⟨hw, hp, q, hq, hH⟩
          · obtain ⟨x, w', M', hrr, hdone⟩ := op_sound hr.env hr.sim trivial hco hq
            have hput := hr.put hdk hdone
            rw [← hd, ← hE] at hput
            refine ⟨⟨M', B, w', _, by rw [hH]; exact hput⟩, by rw [hH]; exact hlim, ext hlow ?_⟩
            rw [hH]
            exact ⟨fun _ _ _ => rfl, fun _ _ => rfl, Steady.refl _, hdone.val.vb⟩
          · obtain ⟨x, w', M', hdone⟩ := run1_low hC hm hr.env.raise hr.sim.raise hco hq
            have hb := Done.back hr.sim hdone
            have hlw := hdone.low
            rw [hlim] at hb
            have hput := hr.put hdk hb
            rw [← hd, ← hH, ← hE] at hput
            have hst' := run1_steady hS hq
            have hll := hr.sim.lim
            refine ⟨⟨M', B, w', _, hput⟩, by rw [hH]; rfl, ext hlow ?_⟩
            rw [hH]
            exact ⟨fun _ => hlw.2, fun id hid => hlw.2 id (by rw [hlim] at hll; omega), ⟨by show lim = (H j).lim; exact hlim.symm, hst'.2.1, hst'.2.2⟩, hdone.val.vb⟩
  exact ⟨fun j hj => (main j hj).1, fun j hj => ((main (j + 1) (by omega)).2.2 j (by omega)).1, fun j hj => ((main (j + 1) (by omega)).2.2 j (by omega)).2.1, fun j hj => ((main (j + 1) (by omega)).2.2 j (by omega)).2.2.1,
    fun j hj => ((main (j + 1) (by omega)).2.2 j (by omega)).2.2.2, fun j hj => (main j hj).2.1⟩

theorem Known.steadies {n : Nat} {ts : List TO} {bar : Nat → Bool} {lim : Nat} {E : Nat → Env} {H : Nat → AH} {V' : Nat → V} (k : Known P n ts bar lim E H V') : ∀ (i j : Nat), i ≤ j → j ≤ ts.length → Steady (H i) (H j) := by
  intro i j hij
  induction j with
  | zero =>
    intro _
    obtain rfl : i = 0 := by omega
    exact Steady.refl _
  | succ j ih =>
    intro hj
    rcases Nat.lt_or_ge i (j + 1) with h1 | h1
    · exact (ih (by omega) (by omega)).trans (k.steady j (by omega))
    · obtain rfl : i = j + 1 := by omega
      exact Steady.refl _
theorem Known.next {n : Nat} {ts : List TO} {bar : Nat → Bool} {lim : Nat} {E : Nat → Env} {H : Nat → AH} {V' : Nat → V} (k : Known P n ts bar lim E H V') (i j : Nat) (hij : i ≤ j) (hj : j ≤ ts.length) : (H i).next ≤ (H j).next := (k.steadies i j hij hj).2.1
/-- Within a quiet piece what was there stays. -/
theorem Known.gets {n : Nat} {ts : List TO} {bar : Nat → Bool} {lim : Nat} {E : Nat → Env} {H : Nat → AH} {V' : Nat → V} (k : Known P n ts bar lim E H V') {lo hi : Nat} (hb : ∀ i, lo ≤ i → i < hi → bar i = false) (hhi : hi ≤ ts.length) :
    ∀ (i j : Nat), lo ≤ i → i ≤ j → j ≤ hi → ∀ id, id < (H i).next → (H j).get id = (H i).get id := by
  intro i j hlo hij
  induction j with
  | zero =>
    intro _
    obtain rfl : i = 0 := by omega
    exact fun _ _ => rfl
  | succ j ih =>
    intro hj id hid
    rcases Nat.lt_or_ge i (j + 1) with h1 | h1
    · have hn := k.next i j (by omega) (by omega)
      exact (k.qget j (by omega) (hb j (by omega) (by omega)) id (by omega)).trans (ih (by omega) (by omega) id hid)
    · obtain rfl : i = j + 1 := by omega
      rfl
theorem Known.lows {n : Nat} {ts : List TO} {bar : Nat → Bool} {lim : Nat} {E : Nat → Env} {H : Nat → AH} {V' : Nat → V} (k : Known P n ts bar lim E H V') : ∀ (j : Nat), j ≤ ts.length → ∀ id, id < lim → (H j).get id = (H 0).get id := by
  intro j
  induction j with
  | zero => intro _ id _; rfl
  | succ j ih => intro hj id hid; exact (k.low j (by omega) id hid).trans (ih (by omega) id hid)

/-- What a slot holds in the order of the text. -/
theorem Trace.slot {tp : TP} {C : Oracle} {ts : List TO} {bar : Nat → Bool} {lim : Nat} {E : Nat → Env} {H : Nat → AH} {V' : Nat → V} (htr : Trace tp C ts bar lim E H V') (t : Nat) : ∀ j, j ≤ ts.length →
    (∃ i o, i < j ∧ ts[i]? = some o ∧ o.d = some t ∧ E j t = V' i) ∨ ((∀ i o, i < j → ts[i]? = some o → o.d ≠ some t) ∧ E j t = E 0 t) := by
  intro j
  induction j with
  | zero => intro _; exact .inr ⟨fun i o hi => by omega, rfl⟩
  | succ j ih =>
    intro hj
    have ht : ts[j]? = some ts[j] := List.getElem?_eq_getElem (by omega)
    have hE := htr.env j _ ht
    by_cases hd : ts[j].d = some t
    · refine .inl ⟨j, ts[j], by omega, ht, hd, ?_⟩
      rw [hE, hd]; simp [Env.set]
    · have he : E (j + 1) t = E j t := by
        rw [hE]
        cases hdd : ts[j].d with
        | none => rfl
        | some d => simp only [Env.set]; rw [if_neg]; intro hh; subst hh; exact hd hdd
      rcases ih (by omega) with ⟨i, o, hi, ho, hod, hv⟩ | ⟨hno, hv⟩
      · exact .inl ⟨i, o, by omega, ho, hod, he.trans hv⟩
      · refine .inr ⟨fun i o hi ho => ?_, he.trans hv⟩
        rcases Nat.lt_succ_iff_lt_or_eq.1 hi with h1 | h1
        · exact hno i o h1 ho
        · subst h1
          rw [ht] at ho
          simp only [Option.some.injEq] at ho
          subst ho
          exact hd
end
end Go.Ab
/- A region that draws its order: somewhere on the way. -/
namespace Go.Ab
open Go Go.RowKit
set_option linter.unusedVariables false
set_option linter.unusedSimpArgs false
set_option linter.constructorNameAsVariable false

section
variable {P : Program}

/-- Somewhere on the way: S: which operations have been done; K: the heap that all of it is held against. -/
structure GInv (M0 : Mp) (B : Nat) (w0 : World) (n : Nat) (ts : List TO) (E : Nat → Env) (V' : Nat → V) (H0 K : AH) (S : Nat → Prop) (M : Mp) (w : World) (a : Act) : Prop where
  sim : Sim M B w K
  env1 : ∀ t, (∀ i o, ts[i]? = some o → o.d = some t → ¬ S i) → VR M K (E 0 t) (a.tmps.getD t undef)
  env2 : ∀ i o, ts[i]? = some o → S i → ∀ t, o.d = some t → VR M K (V' i) (a.tmps.getD t undef)
  gmap : ∀ id, id < H0.next → K.live id → M id = M0 id
  below : Below B w0 w
  size : a.tmps.size = n
  defers : a.defers = []

/-- Within a quiet piece lo .. hi. -/
structure QInv (ts : List TO) (H : Nat → AH) (lo hi : Nat) (S : Nat → Prop) (M : Mp) : Prop where
  none_ : ∀ i t, lo ≤ i → i < hi → ts[i]? = some t → isPure t.o = false → ¬ S i → ∀ id, (H i).next ≤ id → id < (H (i + 1)).next → M id = none
  wf : ∀ id k m, (H hi).get id = some k → M id = some m → ∀ j, lo ≤ j → j ≤ hi → id < (H j).next → ∀ (el : Nat) (r : List V), k.cs[el]? = some r → ∀ (c : Nat) (v : V), r[c]? = some v → VB (H j).next v

variable {M M0 : Mp} {B : Nat} {w w0 : World} {n : Nat} {tp : TP} {C : Oracle} {ts : List TO} {bar : Nat → Bool} {lim : Nat} {E : Nat → Env} {H : Nat → AH} {V' : Nat → V} {a : Act} {S : Nat → Prop} {K : AH}

theorem put_other {d : Option Nat} {x : Value} {t : Nat} (h : d ≠ some t) : (a.put d x).tmps.getD t undef = a.tmps.getD t undef := by
  cases d with
  | none => rfl
  | some d =>
    have hne : d ≠ t := fun hh => h (by rw [hh])
    simp only [Act.put]
    rw [Array.getD_eq_getD_getElem?, Array.getElem?_setIfInBounds_ne hne, ← Array.getD_eq_getD_getElem?]
theorem put_self {t : Nat} {x : Value} (h : t < a.tmps.size) : (a.put (some t) x).tmps.getD t undef = x := by
  simp [Act.put, Array.getD_eq_getD_getElem?, h]

/-- The same values, the same but one, over what has turned. -/
theorem GInv.step {H0 K' : AH} {M' : Mp} {w' : World} (g : GInv M0 B w0 n ts E V' H0 K S M w a) {j : Nat} {t : TO} (hj : ts[j]? = some t) (hS : ¬ S j) (hdk : dOk n t.d = true)
    (d3 : ∀ (i : Nat) (o : TO) (d : Nat), i ≠ j → ts[i]? = some o → o.d = some d → t.d ≠ some d) {x : Value}
    (hsim : Sim M' B w' K') (hT : ∀ {v : V} {y : Value}, VR M K v y → VR M' K' v y) (hx : VR M' K' (V' j) x) (hg : ∀ id, id < H0.next → K'.live id → M' id = M0 id) (hb : Below B w w') :
    GInv M0 B w0 n ts E V' H0 K' (fun i => S i ∨ i = j) M' w' (a.put t.d x) := by
  refine ⟨hsim, ?_, ?_, hg, g.below.trans hb, ?_, ?_⟩
  · intro tt hno
    rw [put_other (fun hh => hno j t hj hh (.inr rfl))]
    exact hT (g.env1 tt (fun i o ho hod hSi => hno i o ho hod (.inl hSi)))
  · intro i o ho hSi tt hod
    rcases Decidable.em (i = j) with h1 | h1
    · subst h1
      rw [hj] at ho
      simp only [Option.some.injEq] at ho
      subst ho
      have hlt : tt < a.tmps.size := by rw [g.size]; rw [hod] at hdk; simpa [dOk] using hdk
      rw [hod, put_self hlt]
      exact hx
    · rw [put_other (d3 i o tt h1 ho hod)]
      exact hT (g.env2 i o ho (hSi.resolve_right h1) tt hod)
  · cases t.d <;> simp [Act.put, g.size]
  · cases t.d <;> simp [Act.put, g.defers]

/-- What an operation looks at is as it is in the order of the text. -/
theorem GInv.look {H0 : AH} (htr : Trace tp C ts bar lim E H V') (g : GInv M0 B w0 n ts E V' H0 K S M w a) {j : Nat} {t : TO} (hj : ts[j]? = some t) (hS : ¬ S j)
    (d1 : ∀ (i : Nat) (o : TO) (sl : Nat), i < j → ts[i]? = some o → o.d = some sl → sl ∈ t.slots → S i) (d2 : ∀ (i : Nat) (o : TO) (sl : Nat), j < i → ts[i]? = some o → o.d = some sl → sl ∈ t.slots → ¬ S i) :
    ∀ sl ∈ t.slots, VR M K (E j sl) (a.tmps.getD sl undef) := by
  intro sl hsl
  have hjl : j < ts.length := (List.getElem?_eq_some_iff.1 hj).1
  rcases htr.slot sl j (by omega) with ⟨i, o, hi, ho, hod, hv⟩ | ⟨hno, hv⟩
  · rw [hv]; exact g.env2 i o ho (d1 i o sl hi ho hod hsl) sl hod
  · rw [hv]
    refine g.env1 sl (fun i o ho hod hSi => ?_)
    rcases Nat.lt_trichotomy i j with h1 | h1 | h1
    · exact hno i o h1 ho hod
    · subst h1; exact hS hSi
    · exact d2 i o sl h1 ho hod hsl hSi

/-- .. and lies below what there is at its place. -/
theorem look_vb (htr : Trace tp C ts bar lim E H V') (k : Known P n ts bar lim E H V') {j : Nat} (hj : j ≤ ts.length) (sl : Nat) : VB (H j).next (E j sl) := by
  obtain ⟨M', B', w', a', hr'⟩ := k.rel j hj
  exact (hr'.env sl).vb

/-- What is pure is so over every heap. -/
theorem pure_any {o : O} {ev : X → V} {h h2 : AH} {v : V} (hp : isPure o = true) (hal : alive o ev h = true) (hd : doOp o ev h = some (v, h)) (hsz : ∀ id k k2, h.get id = some k → h2.get id = some k2 → k2.sz = k.sz) : doOp o ev h2 = some (v, h2) := by
  have mp : ∀ {α : Type} {x : Option α} {f : α → V}, (x.map fun a => (f a, h)) = some (v, h) → (x.map fun a => (f a, h2)) = some (v, h2) := fun e => by
    simp only [Option.map_eq_some_iff, Prod.mk.injEq] at e ⊢
    obtain ⟨a, h1, h3, _⟩ := e
    exact ⟨a, h1, h3, trivial⟩
  have mb : ∀ {α β : Type} {x : Option α} {y : α → Option β} {f : α → β → V}, (x.bind fun a => (y a).map fun b => (f a b, h)) = some (v, h) → (x.bind fun a => (y a).map fun b => (f a b, h2)) = some (v, h2) := fun e => by
    simp only [Option.bind_eq_some_iff, Option.map_eq_some_iff, Prod.mk.injEq] at e ⊢
    obtain ⟨a, h1, b, h3, h4, _⟩ := e
    exact ⟨a, h1, b, h3, h4, trivial⟩
  have sm : ∀ {u : V}, some (u, h) = some (v, h) → some (u, h2) = some (v, h2) := fun e => by
    simp only [Option.some.injEq, Prod.mk.injEq] at e ⊢
    exact ⟨e.1, trivial⟩
  cases o <;> simp only [isPure, Bool.false_eq_true] at hp <;> simp only [doOp] at hd ⊢
  case iad s x i =>
    simp only [alive] at hal
    split at hd
    · rename_i id el len cap hx
      rw [hx] at hal
      simp only at hal
      obtain ⟨kk, hkk⟩ := Option.isSome_iff_exists.1 hal
      split at hd
      case isFalse => simp at hd
      rename_i hs
      have hs' : szB h2 id s = true := by
        unfold szB at hs ⊢
        rw [hkk] at hs
        cases hg : h2.get id with
        | none => rfl
        | some k2 =>
          have := hsz id kk k2 hkk hg
          simp only [beq_iff_eq] at hs ⊢
          omega
      rw [if_pos hs']
      exact mp hd
    · simp at hd
  all_goals (try exact mp hd)
  all_goals (try exact sm hd)
  all_goals (repeat' split at hd)
  all_goals (try exact mp hd)
  all_goals (try exact sm hd)
  all_goals (try exact mb hd)
  all_goals (try (simp at hd; done))
  all_goals simp_all

/-- Sizes stay, whichever of two heaps of one run came first. -/
theorem sizes (k : Known P n ts bar lim E H V') {i j : Nat} (hi : i ≤ ts.length) (hj : j ≤ ts.length) : ∀ id k1 k2, (H i).get id = some k1 → (H j).get id = some k2 → k2.sz = k1.sz := by
  intro id k1 k2 h1 h2
  have fresh : ∀ l, l ≤ ts.length → ∀ q, (H l).get id = some q → id < (H l).next := fun l hl q hq => by
    obtain ⟨M', B', w', a', hr'⟩ := k.rel l hl
    exact hr'.sim.fresh id (by simp [AH.live, hq])
  rcases Nat.le_total i j with h | h
  · obtain ⟨q, hq, hs⟩ := (k.steadies i j h hj).2.2 id k2 (fresh i hi k1 h1) h2
    rw [h1] at hq
    simp only [Option.some.injEq] at hq
    rw [hq]; exact hs.symm
  · obtain ⟨q, hq, hs⟩ := (k.steadies j i h hi).2.2 id k1 (fresh j hj k2 h2) h1
    rw [h2] at hq
    simp only [Option.some.injEq] at hq
    rw [hq]; exact hs

/-- Within a quiet piece: over the heap of the place itself. -/
theorem QInv.down {lo hi : Nat} (k : Known P n ts bar lim E H V') (hb : ∀ i, lo ≤ i → i < hi → bar i = false) (hhi : hi ≤ ts.length) (q : QInv ts H lo hi S M) (hs : Sim M B w (H hi)) {j : Nat} (h1 : lo ≤ j) (h2 : j ≤ hi) : Sim M B w (H j) := by
  have m2 := k.gets hb hhi j hi h1 h2 (Nat.le_refl _)
  obtain ⟨M', B', w', a', hr'⟩ := k.rel j (by omega)
  have hlt : ∀ id, (H j).live id → id < (H j).next := hr'.sim.fresh
  have hup : ∀ id, (H j).live id → (H hi).live id := fun id hl => by rw [AH.live, m2 id (hlt id hl)]; exact hl
  refine ⟨fun id kk m hg hm => ?_, fun id m hl hm ho => hs.own id m (hup id hl) hm ho, fun id m hl hm hlim => hs.from_ id m (hup id hl) hm ?_, fun id id' m m' hl hl' hm hm' => hs.apart id id' m m' (hup id hl) (hup id' hl') hm hm', hlt, hr'.sim.lim, hs.size⟩
  · have hl : (H j).live id := by rw [AH.live, hg]; simp
    have hid := hlt id hl
    have hg' : (H hi).get id = some kk := by rw [m2 id hid]; exact hg
    obtain ⟨c1, c2, c3⟩ := hs.cells id kk m hg' hm
    refine ⟨c1, c2, fun el r hr => ⟨(c3 el r hr).1, fun c v hv => ?_⟩⟩
    obtain ⟨e1, x, e2, e3⟩ := (c3 el r hr).2 c v hv
    exact ⟨e1, x, e2, e3.move (N := (H j).next) (Nat.le_refl _) (fun id hid hl => ⟨by rw [AH.live, m2 id hid]; exact hl, rfl⟩) (q.wf id kk m hg' hm j h1 h2 hid el r hr c v hv)⟩
  · rw [k.lim _ hhi]
    rw [k.lim j (by omega)] at hlim
    exact hlim

/-- The begin of a quiet piece. -/
theorem GInv.enter {lo hi : Nat} (k : Known P n ts bar lim E H V') (hb : ∀ i, lo ≤ i → i < hi → bar i = false) (hlo : lo ≤ hi) (hhi : hi ≤ ts.length) (g : GInv M0 B w0 n ts E V' (H 0) (H lo) S M w a) :
    ∃ M1, GInv M0 B w0 n ts E V' (H 0) (H hi) S M1 w a ∧ QInv ts H lo hi S M1 := by
  have m2 := k.gets hb hhi lo hi (Nat.le_refl _) hlo (Nat.le_refl _)
  have m1 := k.next lo hi hlo hhi
  have hmv : ∀ {v : V} {x : Value}, VR M (H lo) v x → VR (fun id => if id < (H lo).next then M id else none) (H hi) v x := fun hv =>
    hv.move (N := (H lo).next) m1 (fun id hid hl => ⟨by rw [AH.live, ← m2 id hid]; exact hl, by simp [hid]⟩) hv.vb
  have hin : ∀ id m, (if id < (H lo).next then M id else none) = some m → id < (H lo).next ∧ M id = some m := fun id m hm => by
    split at hm
    · exact ⟨‹_›, hm⟩
    · simp at hm
  obtain ⟨M', B', w', a', hr'⟩ := k.rel hi hhi
  refine ⟨fun id => if id < (H lo).next then M id else none, ⟨⟨?_, ?_, ?_, ?_, hr'.sim.fresh, hr'.sim.lim, g.sim.size⟩, fun t ht => hmv (g.env1 t ht), fun i o ho hS t hod => hmv (g.env2 i o ho hS t hod), ?_, g.below, g.size, g.defers⟩, ⟨?_, ?_⟩⟩
  · intro id kk m hg hm
    obtain ⟨hid, hM⟩ := hin id m hm
    rw [m2 id hid] at hg
    obtain ⟨c1, c2, c3⟩ := g.sim.cells id kk m hg hM
    refine ⟨c1, c2, fun el r hr' => ⟨(c3 el r hr').1, fun j v hv => ?_⟩⟩
    obtain ⟨d1, x, d2, d3⟩ := (c3 el r hr').2 j v hv
    exact ⟨d1, x, d2, hmv d3⟩
  · intro id m hl hm ho
    obtain ⟨hid, hM⟩ := hin id m hm
    exact g.sim.own id m (by rw [AH.live, ← m2 id hid]; exact hl) hM ho
  · intro id m hl hm hlim
    obtain ⟨hid, hM⟩ := hin id m hm
    refine g.sim.from_ id m (by rw [AH.live, ← m2 id hid]; exact hl) hM ?_
    rw [k.lim lo (by omega)]
    rw [k.lim hi hhi] at hlim
    exact hlim
  · intro id id' m m' hl hl' hm hm'
    obtain ⟨hid, hM⟩ := hin id m hm
    obtain ⟨hid', hM'⟩ := hin id' m' hm'
    exact g.sim.apart id id' m m' (by rw [AH.live, ← m2 id hid]; exact hl) (by rw [AH.live, ← m2 id' hid']; exact hl') hM hM'
  · intro id hid hl
    have : id < (H lo).next := Nat.lt_of_lt_of_le hid (k.next 0 lo (Nat.zero_le _) (by omega))
    simp only [this, if_true]
    exact g.gmap id hid (by rw [AH.live, ← m2 id this]; exact hl)
  · intro i t h1 h2 _ _ _ id h3 h4
    have := k.next lo i h1 (by omega)
    have : ¬ id < (H lo).next := by omega
    simp [this]
  · intro id kk m hg hm j hj1 hj2 hid el r hr' c v hv
    obtain ⟨hid0, hM⟩ := hin id m hm
    rw [m2 id hid0] at hg
    obtain ⟨c1, c2, c3⟩ := g.sim.cells id kk m hg hM
    obtain ⟨d1, x, d2, d3⟩ := (c3 el r hr').2 c v hv
    exact d3.vb.mono (k.next lo j hj1 (by omega))

/-- A pure operation, at whatever place. -/
theorem GInv.pure_step {ops : Array Oper} {o : Oper} {w' : World} {M' : Mp} {x : Value} (g : GInv M0 B w0 n ts E V' (H 0) K S M w a) {j : Nat} {t : TO} (hj : ts[j]? = some t) (hS : ¬ S j) (hdk : dOk n t.d = true)
    (d3 : ∀ (i : Nat) (o : TO) (d : Nat), i ≠ j → ts[i]? = some o → o.d = some d → t.d ≠ some d) (hdone : Done M B w K (V' j) K x w' M') : GInv M0 B w0 n ts E V' (H 0) K (fun i => S i ∨ i = j) M w' (a.put t.d x) := by
  have hM : ∀ id, K.live id → M' id = M id := fun id hl => hdone.goes.keeps.map id (g.sim.fresh id hl) hl
  have hmv : ∀ {v : V} {y : Value}, VR M' K v y → VR M K v y := fun hv => hv.move (N := K.next) (Nat.le_refl _) (fun id _ hl => ⟨hl, (hM id hl).symm⟩) hv.vb
  refine g.step hj hS hdk d3 ⟨?_, ?_, ?_, ?_, g.sim.fresh, g.sim.lim, hdone.sim.size⟩ (fun hv => hv) (hmv hdone.val) g.gmap hdone.below
  · intro id kk m hg hm
    have hl : K.live id := by simp [AH.live, hg]
    obtain ⟨c1, c2, c3⟩ := hdone.sim.cells id kk m hg (by rw [hM id hl]; exact hm)
    refine ⟨c1, c2, fun el r hr => ⟨(c3 el r hr).1, fun c v hv => ?_⟩⟩
    obtain ⟨e1, x, e2, e3⟩ := (c3 el r hr).2 c v hv
    exact ⟨e1, x, e2, hmv e3⟩
  · exact fun id m hl hm ho => hdone.sim.own id m hl (by rw [hM id hl]; exact hm) ho
  · exact fun id m hl hm hlim => hdone.sim.from_ id m hl (by rw [hM id hl]; exact hm) hlim
  · exact fun id id' m m' hl hl' hm hm' => hdone.sim.apart id id' m m' hl hl' (by rw [hM id hl]; exact hm) (by rw [hM id' hl']; exact hm')
theorem QInv.more {lo hi j : Nat} (q : QInv ts H lo hi S M) : QInv ts H lo hi (fun i => S i ∨ i = j) M :=
  ⟨fun i t h1 h2 ht hp hS => q.none_ i t h1 h2 ht hp (fun hh => hS (.inl hh)), q.wf⟩

/-- An operation of the quiet piece that looks at the heap. -/
theorem QInv.put {lo hi : Nat} (k : Known P n ts bar lim E H V') (hb : ∀ i, lo ≤ i → i < hi → bar i = false) (hhi : hi ≤ ts.length) (g : GInv M0 B w0 n ts E V' (H 0) (H hi) S M w a) (q : QInv ts H lo hi S M) {j : Nat} {t : TO} (h1j : lo ≤ j) (h2j : j < hi) (hj : ts[j]? = some t)
    (hnp : isPure t.o = false) (hS : ¬ S j) (hdk : dOk n t.d = true) (d3 : ∀ (i : Nat) (o : TO) (d : Nat), i ≠ j → ts[i]? = some o → o.d = some d → t.d ≠ some d) {qq : AH} {x : Value} {w' : World} {M' : Mp}
    (hH : H (j + 1) = qq.back lim) (hdone : Done M w.heap.size w (H j).raise (V' j) qq x w' M') :
    ∃ M2, GInv M0 B w0 n ts E V' (H 0) (H hi) (fun i => S i ∨ i = j) M2 w' (a.put t.d x) ∧ QInv ts H lo hi (fun i => S i ∨ i = j) M2 := by
  have m1 := k.next (j + 1) hi (by omega) hhi
  have m2 := k.gets hb hhi (j + 1) hi (by omega) (by omega) (Nat.le_refl _)
  have l1 := k.next j (j + 1) (by omega) (by omega)
  have hqn : (H (j + 1)).next = qq.next := by rw [hH]; rfl
  have hqg : ∀ id, (H (j + 1)).get id = qq.get id := fun id => by rw [hH]; rfl
  let M2 : Mp := fun id => if (H j).next ≤ id ∧ id < (H (j + 1)).next then M' id else M id
  have hM2in : ∀ id, (H j).next ≤ id → id < (H (j + 1)).next → M2 id = M' id := fun id h1 h2 => by simp [M2, h1, h2]
  have hM2out : ∀ id, ¬ ((H j).next ≤ id ∧ id < (H (j + 1)).next) → M2 id = M id := fun id h1 => by simp [M2, h1]
  have hlive : ∀ id, id < qq.next → ((H hi).live id ↔ qq.live id) := fun id hid => by
    rw [AH.live, AH.live, m2 id (by omega), hqg]
  have hM' : ∀ id, id < (H j).next → qq.live id → M' id = M id := fun id hid hl => hdone.goes.keeps.map id hid hl
  have T1 : ∀ {v : V} {y : Value}, VR M' qq v y → VR M2 (H hi) v y := fun hv =>
    hv.move (N := qq.next) (by omega) (fun id hid hl => ⟨(hlive id hid).1 hl, by
      by_cases h1 : (H j).next ≤ id
      · exact hM2in id h1 (by omega)
      · rw [hM2out id (by omega), hM' id (by omega) ((hlive id hid).1 hl)]⟩) hv.vb
  have hext : ∀ id m, M id = some m → M2 id = some m := fun id m hm => by
    rw [hM2out id (fun hh => ?_)]; exact hm
    have := q.none_ j t h1j h2j hj hnp hS id hh.1 hh.2
    rw [hm] at this; cases this
  have T2 : ∀ {v : V} {y : Value}, VR M (H hi) v y → VR M2 (H hi) v y := fun hv => hv.remap (fun id m _ hm => hext id m hm)
  have hblk : ∀ b, b < w.heap.size → w'.heap[b]? = w.heap[b]? := hdone.below.block
  have hcase : ∀ id m, M2 id = some m → ((H j).next ≤ id ∧ id < (H (j + 1)).next ∧ M' id = some m) ∨ (¬ ((H j).next ≤ id ∧ id < (H (j + 1)).next) ∧ M id = some m) := fun id m hm => by
    by_cases h1 : (H j).next ≤ id ∧ id < (H (j + 1)).next
    · exact .inl ⟨h1.1, h1.2, by rw [← hM2in id h1.1 h1.2]; exact hm⟩
    · exact .inr ⟨h1, by rw [← hM2out id h1]; exact hm⟩
  have hqlim : qq.lim = (H j).next := hdone.goes.lim
  have hBw : B ≤ w.heap.size := g.sim.size
  have hbold : ∀ id m, (H hi).live id → M id = some m → m.b < w.heap.size := fun id m hl hm => by
    obtain ⟨kk, hkk⟩ := Option.ne_none_iff_exists'.1 hl
    exact (g.sim.cells id kk m hkk hm).1
  refine ⟨M2, g.step hj hS hdk d3 ⟨?_, ?_, ?_, ?_, g.sim.fresh, g.sim.lim, Nat.le_trans hBw hdone.below.size⟩ T2 (T1 hdone.val) ?_ (hdone.below.mono hBw), ⟨?_, ?_⟩⟩
  · intro id kk m hg hm
    rcases hcase id m hm with ⟨h1, h2, h3⟩ | ⟨h1, h3⟩
    · have hg' : qq.get id = some kk := by rw [← hqg, ← m2 id (by omega)]; exact hg
      obtain ⟨c1, c2, c3⟩ := hdone.sim.cells id kk m hg' h3
      refine ⟨c1, c2, fun el r hr => ⟨(c3 el r hr).1, fun c v hv => ?_⟩⟩
      obtain ⟨e1, x, e2, e3⟩ := (c3 el r hr).2 c v hv
      exact ⟨e1, x, e2, T1 e3⟩
    · obtain ⟨c1, c2, c3⟩ := g.sim.cells id kk m hg h3
      refine ⟨Nat.lt_of_lt_of_le c1 hdone.below.size, c2, fun el r hr => ⟨(c3 el r hr).1, fun c v hv => ?_⟩⟩
      obtain ⟨e1, x, e2, e3⟩ := (c3 el r hr).2 c v hv
      exact ⟨e1, x, (cell_of_heap (a := ⟨m.b, _, none⟩) (hblk m.b c1)).trans e2, T2 e3⟩
  · intro id m hl hm ho
    rcases hcase id m hm with ⟨h1, h2, h3⟩ | ⟨h1, h3⟩
    · exact hdone.sim.own id m ((hlive id (by omega)).1 hl) h3 ho
    · obtain ⟨arr, e, fr, c1, c2⟩ := g.sim.own id m hl h3 ho
      exact ⟨arr, e, fr, (hblk m.b (hbold id m hl h3)).trans c1, c2⟩
  · intro id m hl hm hlim
    rcases hcase id m hm with ⟨h1, h2, h3⟩ | ⟨h1, h3⟩
    · have := hdone.sim.from_ id m ((hlive id (by omega)).1 hl) h3 (by rw [hqlim]; exact h1)
      exact ⟨this.1, Nat.le_trans hBw this.2⟩
    · exact g.sim.from_ id m hl h3 hlim
  · intro id id' m m' hl hl' hm hm' hne ho
    rcases hcase id m hm with ⟨h1, h2, h3⟩ | ⟨h1, h3⟩ <;> rcases hcase id' m' hm' with ⟨h1', h2', h3'⟩ | ⟨h1', h3'⟩
    · exact hdone.sim.apart id id' m m' ((hlive id (by omega)).1 hl) ((hlive id' (by omega)).1 hl') h3 h3' hne ho
    · have := (hdone.sim.from_ id m ((hlive id (by omega)).1 hl) h3 (by rw [hqlim]; exact h1)).2
      have := hbold id' m' hl' h3'
      omega
    · have := (hdone.sim.from_ id' m' ((hlive id' (by omega)).1 hl') h3' (by rw [hqlim]; exact h1')).2
      have := hbold id m hl h3
      omega
    · exact g.sim.apart id id' m m' hl hl' h3 h3' hne ho
  · intro id hid hl
    have := k.next 0 j (Nat.zero_le _) (by omega)
    rw [hM2out id (by omega)]
    exact g.gmap id hid hl
  · intro i t' h1 h2 ht hp hnS id h3 h4
    have hnSi : ¬ S i := fun hh => hnS (.inl hh)
    have hij : i ≠ j := fun hh => hnS (.inr hh)
    have hn := q.none_ i t' h1 h2 ht hp hnSi id h3 h4
    rw [hM2out id (fun hh => ?_)]; exact hn
    rcases Nat.lt_or_ge i j with h5 | h5
    · have := k.next (i + 1) j (by omega) (by omega)
      omega
    · have := k.next (j + 1) i (by omega) (by omega)
      omega
  · intro id kk m hg hm j' hj1 hj2 hid el r hr c v hv
    rcases hcase id m hm with ⟨h1, h2, h3⟩ | ⟨h1, h3⟩
    · have hg' : qq.get id = some kk := by rw [← hqg, ← m2 id (by omega)]; exact hg
      obtain ⟨c1, c2, c3⟩ := hdone.sim.cells id kk m hg' h3
      obtain ⟨e1, y, e2, e3⟩ := (c3 el r hr).2 c v hv
      have hjj : j + 1 ≤ j' := by
        rcases Nat.lt_or_ge j j' with h4 | h4
        · omega
        · have := k.next j' j h4 (by omega)
          omega
      exact e3.vb.mono (by rw [← hqn]; exact k.next (j + 1) j' hjj (by omega))
    · exact q.wf id kk m hg h3 j' hj1 hj2 hid el r hr c v hv
end
end Go.Ab
/- A region that draws its order: every order, piece by piece. -/
namespace Go.Ab
open Go Go.RowKit
set_option linter.unusedVariables false
set_option linter.unusedSimpArgs false
set_option linter.constructorNameAsVariable false

section
variable {P : Program}

theorem compOs_get {n : Nat} {ops : Array Oper} : ∀ {l : List Oper} {ts : List TO}, compOs P n ops l = some ts → l.length = ts.length ∧ ∀ (i : Nat) (o : Oper) (t : TO), l[i]? = some o → ts[i]? = some t → compO P n ops o = some t
  | [], ts, hc => by simp [compOs] at hc; subst hc; exact ⟨rfl, fun i o t h => by simp at h⟩
  | o :: l, ts, hc => by
    simp only [compOs, Option.bind_eq_some_iff, Option.map_eq_some_iff] at hc
    obtain ⟨t, ht, ts', hts, rfl⟩ := hc
    obtain ⟨h1, h2⟩ := compOs_get hts
    refine ⟨by simp [h1], fun i o' t' ho ht' => ?_⟩
    cases i with
    | zero =>
      simp at ho ht'
      subst ho; subst ht'
      exact ht
    | succ i => exact h2 i o' t' (by simpa using ho) (by simpa using ht')

theorem segsOf_flat (wr : Wr) : ∀ (l : List (Oper × TO)), ((segsOf wr l).map (·.2)).flatten = l.map (·.2)
  | [] => rfl
  | (o, t) :: r => by
    have ih := segsOf_flat wr r
    simp only [segsOf]
    split
    · simp [ih]
    · split
      · rename_i ll s hs
        rw [hs] at ih
        simp at ih
        simp [ih]
      · simp [ih]

/-- How many are still to come. -/
def unl (n : Nat) (L : Array Bool) : Nat := ((List.range n).filter fun i => !L.getD i true).length
theorem unl_set {n i : Nat} {L : Array Bool} (hi : i < n) (hs : L.size = n) (hf : L.getD i true = false) : unl n (L.setIfInBounds i true) + 1 = unl n L := by
  unfold unl
  have key : ∀ (l : List Nat), l.Nodup → i ∈ l → (l.filter fun j => !(L.setIfInBounds i true).getD j true).length + 1 = (l.filter fun j => !L.getD j true).length := by
    intro l
    induction l with
    | nil => intro _ h; simp at h
    | cons j l ih =>
      intro hnd hmem
      have hnd' := List.nodup_cons.1 hnd
      by_cases hji : j = i
      · subst hji
        have h1 : (L.setIfInBounds j true).getD j true = true := by
          rw [Array.getD_eq_getD_getElem?]
          simp [Array.getElem?_setIfInBounds_self_of_lt (by omega : j < L.size)]
        have h2 : (l.filter fun k => !(L.setIfInBounds j true).getD k true) = l.filter fun k => !L.getD k true := by
          apply List.filter_congr
          intro k hk
          have : j ≠ k := fun hh => hnd'.1 (hh ▸ hk)
          rw [getD_set_ne true this]
        rw [List.filter_cons, List.filter_cons]
        simp only [h1, hf, Bool.not_true, Bool.not_false, if_true, if_false, Bool.false_eq_true, h2, List.length_cons]
      · have hmem' : i ∈ l := by simpa [Ne.symm hji] using hmem
        have := ih hnd'.2 hmem'
        have he : (L.setIfInBounds i true).getD j true = L.getD j true := getD_set_ne true (Ne.symm hji)
        rw [List.filter_cons, List.filter_cons, he]
        split
        · simp only [List.length_cons]; omega
        · exact this
  exact key _ List.nodup_range (by simpa using hi)
theorem unl_zero {n : Nat} {L : Array Bool} (h : unl n L = 0) : ∀ i, i < n → L.getD i true = true := by
  intro i hi
  unfold unl at h
  have := List.length_eq_zero_iff.1 h
  rw [List.filter_eq_nil_iff] at this
  have := this i (by simpa using hi)
  simpa using this
theorem unl_of_all {n : Nat} {L : Array Bool} (h : ∀ i, i < n → L.getD i true = true) : unl n L = 0 := by
  unfold unl
  rw [List.filter_eq_nil_iff.2 (fun i hi => by have := h i (by simpa using hi); simp [this])]
  rfl

theorem getD_false_of {L : Array Bool} {i : Nat} (h : L.getD i true = false) : L.getD i false = false := by
  rw [Array.getD_eq_getD_getElem?] at *
  cases hh : L[i]? with
  | none => rfl
  | some b => rw [hh] at h; simpa using h
theorem getD_true_iff {L : Array Bool} {i : Nat} (hi : i < L.size) : L.getD i false = L.getD i true := by
  rw [Array.getD_eq_getD_getElem?, Array.getD_eq_getD_getElem?, Array.getElem?_eq_getElem hi]; rfl

variable {C : Oracle} {tp : TP} {n : Nat} {ops : Array Oper} {ts : List TO} {Q : Exit → Act → World → Prop}

/-- What has been listed bears with it all from which it hangs. -/
def LClosed (ops : Array Oper) (L : Array Bool) : Prop := Closed ops (fun i => L.getD i false = true)
theorem LClosed.set {L : Array Bool} (h : LClosed ops L) {i : Nat} {o : Oper} (ho : ops[i]? = some o) (hd : ∀ e ∈ o.after, Region.binds .any e = true → L.getD e.on false = true) : LClosed ops (L.setIfInBounds i true) := by
  intro j oj hoj hj e he hb
  by_cases hji : i = j
  · subst hji
    rw [ho] at hoj
    simp only [Option.some.injEq] at hoj
    subst hoj
    exact getD_set_true (hd e (by simpa using he) hb)
  · rw [getD_set_ne false hji] at hj
    exact getD_set_true (h j oj hoj hj e he hb)

theorem ready_least {L : Array Bool} (hE : edgesOk ops = true) (hs : L.size = ops.size) {i : Nat} (hi : i < ops.size) (hf : L.getD i true = false) (hlow : ∀ j, j < i → L.getD j true = true) : i ∈ Region.ready .any ops L := by
  refine mem_ready.2 ⟨hf, ops[i], by simp [hi], fun e he hb => ?_⟩
  simp only [edgesOk, List.all_eq_true] at hE
  have := hE i (by simpa using hi)
  simp only [Array.getElem?_eq_getElem hi, List.all_eq_true] at this
  have := this e (by simpa using he)
  simp only [hb, Bool.not_true, Bool.false_or, decide_eq_true_eq] at this
  rw [getD_true_iff (by omega)]
  exact hlow e.on this

theorem GInv.congr {M0 M : Mp} {B : Nat} {w0 w : World} {E : Nat → Env} {V' : Nat → V} {H0 K : AH} {S S' : Nat → Prop} {a : Act} (g : GInv M0 B w0 n ts E V' H0 K S M w a) (h : ∀ i, S i ↔ S' i) : GInv M0 B w0 n ts E V' H0 K S' M w a :=
  ⟨g.sim, fun t ht => g.env1 t (fun i o ho hod hS => ht i o ho hod ((h i).1 hS)), fun i o ho hS t hod => g.env2 i o ho ((h i).2 hS) t hod, g.gmap, g.below, g.size, g.defers⟩
theorem QInv.congr {H : Nat → AH} {lo hi : Nat} {S S' : Nat → Prop} {M : Mp} (q : QInv ts H lo hi S M) (h : ∀ i, S i ↔ S' i) : QInv ts H lo hi S' M :=
  ⟨fun i t h1 h2 ht hp hS => q.none_ i t h1 h2 ht hp (fun hh => hS ((h i).1 hh)), q.wf⟩

/-- What is known of an operation that is ready. -/
structure Facts (P : Program) (n : Nat) (ops : Array Oper) (ts : List TO) (L : Array Bool) (j : Nat) (o : Oper) (t : TO) : Prop where
  ho : ops[j]? = some o
  ht : ts[j]? = some t
  hc : compO P n ops o = some t
  hS : ¬ (L.getD j true = true)
  dir : ∀ e ∈ o.after, Region.binds .any e = true → L.getD e.on false = true
  d1 : ∀ (i : Nat) (x : TO) (sl : Nat), i < j → ts[i]? = some x → x.d = some sl → sl ∈ t.slots → L.getD i true = true
  d2 : ∀ (i : Nat) (x : TO) (sl : Nat), j < i → ts[i]? = some x → x.d = some sl → sl ∈ t.slots → ¬ (L.getD i true = true)
  d3 : ∀ (i : Nat) (x : TO) (d : Nat), i ≠ j → ts[i]? = some x → x.d = some d → t.d ≠ some d
  anc : ∀ i, ((clo ops.toList).getD j 0).testBit i = true → i < ops.size → L.getD i true = true

theorem facts_of (hc : compOs P n ops ops.toList = some ts) (hp : pairOk (clo ops.toList) ts = true) {L : Array Bool} (hLs : L.size = ops.size) (hLc : LClosed ops L) {j : Nat} (hj : j ∈ Region.ready .any ops L) : ∃ o t, Facts P n ops ts L j o t := by
  have hlen : ops.size = ts.length := by have := (compOs_get hc).1; simpa using this
  obtain ⟨hif, o, ho, hdir⟩ := mem_ready.1 hj
  have hlt := (Array.getElem?_eq_some_iff.1 ho).1
  have ht : ts[j]? = some ts[j] := List.getElem?_eq_getElem (by omega)
  have pair : ∀ (i j : Nat) (x y : TO) (d : Nat), i ≠ j → ts[i]? = some x → ts[j]? = some y → x.d = some d → y.d ≠ some d ∧ (d ∈ y.slots → if i < j then ((clo ops.toList).getD j 0).testBit i = true else ((clo ops.toList).getD i 0).testBit j = true) := by
    intro i j x y d hij hx hy hd
    simp only [pairOk, List.all_eq_true] at hp
    have hi := (List.getElem?_eq_some_iff.1 hx).1
    have hj := (List.getElem?_eq_some_iff.1 hy).1
    have := hp i (by simpa using hi) j (by simpa using hj)
    simp only [hx, hy, hd, Bool.or_eq_true, beq_iff_eq, Bool.and_eq_true, bne_iff_ne, ne_eq] at this
    rcases this with h1 | ⟨h1, h2⟩
    · exact absurd h1 hij
    · refine ⟨h1, fun hsl => ?_⟩
      rcases h2 with h2 | h2
      · simp [hsl] at h2
      · split
        · rename_i hlt; rw [if_pos hlt] at h2; exact h2
        · rename_i hlt; rw [if_neg hlt] at h2; exact h2
  have dirL : ∀ e ∈ o.after.toList, Region.binds .any e = true → L.getD e.on false = true := fun e he hb => hdir e (by simpa using he) hb
  have anc : ∀ i, ((clo ops.toList).getD j 0).testBit i = true → i < ops.size → L.getD i true = true := fun i hb hi => by
    have := clo_reach hLc j i o ho dirL hb
    rw [getD_true_iff (by omega)] at this
    exact this
  refine ⟨o, ts[j], ho, ht, (compOs_get hc).2 j o _ (by simpa using ho) ht, by rw [hif]; simp, hdir, fun i x sl hij hx hd hsl => ?_, fun i x sl hij hx hd hsl hSi => ?_, fun i x d hij hx hd => (pair i j x ts[j] d hij hx ht hd).1, anc⟩
  · have := (pair i j x ts[j] sl (by omega) hx ht hd).2 hsl
    rw [if_pos hij] at this
    exact anc i this (by omega)
  · have hil := (List.getElem?_eq_some_iff.1 hx).1
    have hb := (pair i j x ts[j] sl (by omega) hx ht hd).2 hsl
    rw [if_neg (by omega)] at hb
    have hio : ops[i]? = some ops[i] := by simp
    have hLi : L.getD i false = true := by rw [getD_true_iff (by omega)]; exact hSi
    have := clo_reach hLc i j ops[i] hio (fun e he hb => hLc i _ hio hLi e he hb) hb
    rw [getD_true_iff (by omega), hif] at this; cases this

theorem listed_iff {L : Array Bool} {j : Nat} (hj : j < L.size) (i : Nat) : (L.getD i true = true ∨ i = j) ↔ (L.setIfInBounds j true).getD i true = true := by
  by_cases hij : i = j
  · subst hij
    rw [Array.getD_eq_getD_getElem?, Array.getD_eq_getD_getElem?]
    simp [Array.getElem?_setIfInBounds_self_of_lt hj]
  · rw [getD_set_ne true (Ne.symm hij)]
    simp [hij]

/-- Its values, made fit for a theorem on whole frames. -/
def seen (E : Env) (t : TO) : Env := fun s => if s ∈ t.o.slots then E s else .u
theorem seen_env {M : Mp} {K : AH} {e : Env} {a : Act} {t : TO} (h : ∀ sl ∈ t.slots, VR M K (e sl) (a.tmps.getD sl undef)) : EnvR M K (seen e t) a := fun s => by
  by_cases hs : s ∈ t.o.slots
  · simp only [seen, hs, if_true]
    exact h s (by simp [TO.slots, hs])
  · simp only [seen, hs, if_false]; exact .u _
theorem seen_agree (e : Env) (t : TO) : Agree (seen e t) e t.o.slots := fun s hs => by simp [seen, hs]

section
variable {M0 : Mp} {B : Nat} {w0 : World} {bar : Nat → Bool} {lim : Nat} {E : Nat → Env} {H : Nat → AH} {V' : Nat → V}

/-- A pure operation that is ready, at whatever place. -/
theorem pure_go (tr : Trace tp C ts bar lim E H V') (k : Known P n ts bar lim E H V') (hbp : ∀ j t, ts[j]? = some t → bar j = true → isPure t.o = false) {L : Array Bool} {j : Nat} {o : Oper} {t : TO} (f : Facts P n ops ts L j o t) (hpure : isPure t.o = true) {c : Nat} (hc : c ≤ ts.length) {M : Mp} {w : World} {a : Act}
    (g : GInv M0 B w0 n ts E V' (H 0) (H c) (fun i => L.getD i true = true) M w a) {K : Act → World → Prop} (hK : ∀ a' w', GInv M0 B w0 n ts E V' (H 0) (H c) (fun i => L.getD i true = true ∨ i = j) M w' a' → K a' w') : wpOp P ops Q j K a w := by
  have hlook := g.look tr f.ht f.hS f.d1 f.d2
  obtain ⟨hcc, hg, hd, hdk, hlt⟩ := compO_some f.hc
  have hjl : j < ts.length := (List.getElem?_eq_some_iff.1 f.ht).1
  have hwant : ∀ {b : Bool}, wantedT (E j) t.g = some b → Region.wanted o (yielded ops a.tmps) = b := fun hw => wanted_sound (P := P) (M := M) (h := H c) f.hc (fun s x hs => hlook s (by simp [TO.slots, hs])) g.size hw
  unfold wpOp
  simp only [f.ho]
  rcases tr.step j t f.ht with ⟨hw, hv, hH⟩ | hst
  · rw [hwant hw]
    simp only [Bool.false_eq_true, if_false]
    refine hK _ _ ?_
    rw [← hd]
    exact g.step f.ht f.hS (by rw [hd]; exact hdk) f.d3 g.sim (fun hv => hv) (by rw [hv]; exact .tup _ _ .nil) g.gmap (Below.refl B w)
  · by_cases hb : bar j = true
    · have := hbp j t f.ht hb
      rw [hpure] at this; cases this
    · rw [if_neg hb] at hst
      rcases hst with ⟨hw, hp, hal, hq, hH⟩ | ⟨hw, hp, q, hq, hH⟩
      · rw [hwant hw]
        simp only [if_true]
        left
        have hq2 := pure_any (h2 := H c) hp hal hq (sizes k (by omega) hc)
        have hcall : run1 tp C t.o (X.ev (seen (E j) t)) (H c) = some (V' j, H c) := by
          rw [run1_congr t.o (seen_agree (E j) t)]
          have : run1 tp C t.o (X.ev (E j)) (H c) = doOp t.o (X.ev (E j)) (H c) := by
            cases ht : t.o <;> rw [ht] at hp <;> simp [isPure] at hp <;> rfl
          rw [this]; exact hq2
        have hdo : doOp t.o (X.ev (seen (E j) t)) (H c) = some (V' j, H c) := by
          have : run1 tp C t.o (X.ev (seen (E j) t)) (H c) = doOp t.o (X.ev (seen (E j) t)) (H c) := by
            cases ht : t.o <;> rw [ht] at hp <;> simp [isPure] at hp <;> rfl
          rw [← this]; exact hcall
        obtain ⟨x, w', M', hrun, hdone⟩ := op_sound (seen_env hlook) g.sim trivial hcc hdo
        have key := g.pure_step (ops := ops) (o := o) f.ht f.hS (by rw [hd]; exact hdk) f.d3 hdone
        unfold Oper.wp
        rcases hrun with hrun | ⟨hrun, rfl⟩
        · rw [hrun]; simp only [Oper.upon_value]; rw [← hd]; exact hK _ _ key
        · rw [hrun]; simp only [Oper.upon_skip]; rw [← hd]; exact hK _ _ key
      · rw [hpure] at hp; cases hp

set_option maxHeartbeats 4000000 in
theorem region_any (hC : OracleOk P C) (hS : OSteady C) (hm : MethsOk P tp) (hc : compOs P n ops ops.toList = some ts) (hE : edgesOk ops = true) (hp : pairOk (clo ops.toList) ts = true) (tr : Trace tp C ts bar lim E H V') (k : Known P n ts bar lim E H V')
    (hbp : ∀ j t, ts[j]? = some t → bar j = true → isPure t.o = false)
    (hQ : ∀ M' a' w', Rel M' B w' (H ts.length) (E ts.length) a' n → Goes M0 M' (H 0) (H ts.length) → Below B w0 w' → Q .normal a' w') : ∀ (segs : List (Bool × List TO)) (s : Nat), (segs.map (·.2)).flatten = ts.drop s → segsOk (clo ops.toList) ts s segs = true → s ≤ ts.length → (∀ i, bar (s + i) = barAt segs i) →
    ∀ (fuel : Nat) (L : Array Bool) (M : Mp) (w : World) (a : Act), L.size = ops.size → (∀ i t, ts[i]? = some t → isPure t.o = false → i < s → L.getD i true = true) → (∀ i t, ts[i]? = some t → isPure t.o = false → s ≤ i → L.getD i true = false) → LClosed ops L → unl ops.size L = fuel →
    GInv M0 B w0 n ts E V' (H 0) (H s) (fun i => L.getD i true = true) M w a → wpAny P .any ops Q fuel L a w := by
  have hlen : ops.size = ts.length := by have := (compOs_get hc).1; simpa using this
  -- if nothing is ready all is done
  have noReady : ∀ (L : Array Bool), L.size = ops.size → Region.ready .any ops L = [] → ∀ i, i < ops.size → L.getD i true = true := by
    intro L hLs h0
    have aux : ∀ c, c ≤ ops.size → ∀ j, j < c → L.getD j true = true := by
      intro c
      induction c with
      | zero => intro _ j hj; omega
      | succ c ih =>
        intro hcs j hj
        rcases Nat.lt_succ_iff_lt_or_eq.1 hj with h1 | h1
        · exact ih (by omega) j h1
        · subst h1
          cases hb : L.getD j true with
          | true => rfl
          | false =>
            have := ready_least hE hLs (by omega) hb (ih (by omega))
            rw [h0] at this; simp at this
    exact fun i hi => aux ops.size (Nat.le_refl _) i hi
  -- the end
  have fin : ∀ (L : Array Bool) (M : Mp) (w : World) (a : Act), (∀ i, i < ops.size → L.getD i true = true) → GInv M0 B w0 n ts E V' (H 0) (H ts.length) (fun i => L.getD i true = true) M w a → Q .normal a w := by
    intro L M w a hall g
    refine hQ M a w ⟨g.sim, fun t => ?_, g.size, g.defers⟩ ⟨⟨k.next 0 _ (Nat.zero_le _) (Nat.le_refl _), fun id hid hl => ?_, g.gmap⟩, ?_, fun id hid => ?_⟩ g.below
    · rcases tr.slot t ts.length (Nat.le_refl _) with ⟨i, o, hi, ho, hod, hv⟩ | ⟨hno, hv⟩
      · rw [hv]; exact g.env2 i o ho (hall i (by omega)) t hod
      · rw [hv]
        exact g.env1 t (fun i o ho hod _ => hno i o (List.getElem?_eq_some_iff.1 ho).1 ho hod)
    · obtain ⟨q, hq⟩ := Option.ne_none_iff_exists'.1 hl
      obtain ⟨q2, hq2, _⟩ := (k.steadies 0 ts.length (Nat.zero_le _) (Nat.le_refl _)).2.2 id q hid hq
      simp [AH.live, hq2]
    · rw [k.lim _ (Nat.le_refl _), k.lim 0 (Nat.zero_le _)]
    · exact k.lows _ (Nat.le_refl _) id (by rw [← k.lim 0 (Nat.zero_le _)]; exact hid)
  -- what a step does to the list
  have after : ∀ {L : Array Bool} {j : Nat} {o : Oper} {t : TO}, Facts P n ops ts L j o t → L.size = ops.size → LClosed ops L → (L.setIfInBounds j true).size = ops.size ∧ LClosed ops (L.setIfInBounds j true) ∧ (∀ m, unl ops.size L = m + 1 → unl ops.size (L.setIfInBounds j true) = m) ∧ (∃ m, unl ops.size L = m + 1) ∧ j < L.size := by
    intro L j o t f hLs hLc
    have hjl := (Array.getElem?_eq_some_iff.1 f.ho).1
    have hif : L.getD j true = false := by cases hb : L.getD j true with
      | true => exact absurd hb f.hS
      | false => rfl
    have hu := unl_set hjl hLs hif
    exact ⟨by simpa using hLs, hLc.set f.ho f.dir, fun m hm => by omega, ⟨_, hu.symm⟩, by omega⟩
  intro segs
  induction segs with
  | nil =>
    intro s hfl hok hso hbar fuel
    have hs : s = ts.length := by
      have := congrArg List.length hfl
      simp at this
      omega
    subst hs
    induction fuel with
    | zero =>
      intro L M w a hLs hLt hLf hLc hfuel g
      have hall := unl_zero hfuel
      refine ⟨?_, fin L M w a hall g⟩
      apply List.eq_nil_iff_forall_not_mem.2
      intro i hi
      obtain ⟨h1, o, ho, _⟩ := mem_ready.1 hi
      rw [hall i (Array.getElem?_eq_some_iff.1 ho).1] at h1; cases h1
    | succ fuel ihf =>
      intro L M w a hLs hLt hLf hLc hfuel g
      refine ⟨fun h0 => fin L M w a (noReady L hLs h0) g, fun i hi => ?_⟩
      obtain ⟨o, t, f⟩ := facts_of hc hp hLs hLc hi
      obtain ⟨b1, b2, b3, _, b5⟩ := after f hLs hLc
      have hpure : isPure t.o = true := by
        cases hb : isPure t.o with
        | true => rfl
        | false => exact absurd (hLt i t f.ht hb (List.getElem?_eq_some_iff.1 f.ht).1) f.hS
      refine pure_go tr k hbp f hpure (Nat.le_refl _) g (fun a' w' g' => ?_)
      refine ihf _ M w' a' b1 (fun i' t' ht' hnp hi' => ?_) (fun i' t' ht' hnp hi' => ?_) b2 (b3 fuel hfuel) (g'.congr (listed_iff b5))
      · exact (listed_iff b5 i').1 (.inl (hLt i' t' ht' hnp hi'))
      · have := (List.getElem?_eq_some_iff.1 ht').1
        omega
  | cons sg segs ih =>
    intro s hfl hok hso hbar
    obtain ⟨qt, l⟩ := sg
    simp only [segsOk, Bool.and_eq_true] at hok
    obtain ⟨⟨hahead, hone⟩, hok⟩ := hok
    simp only [List.map_cons, List.flatten_cons] at hfl
    have hfl' : (segs.map (·.2)).flatten = ts.drop (s + l.length) := by
      rw [← List.drop_drop, ← hfl]; simp
    have hlget : ∀ (j : Nat) (t : TO), l[j]? = some t → ts[s + j]? = some t := fun j t hj => by
      rw [← List.getElem?_drop, ← hfl, List.getElem?_append, if_pos (List.getElem?_eq_some_iff.1 hj).1]; exact hj
    have hsl : s + l.length ≤ ts.length := by
      have := congrArg List.length hfl
      simp at this
      omega
    have hbar' : ∀ i, bar (s + l.length + i) = barAt segs i := fun i => by
      have := hbar (l.length + i)
      simp only [barAt] at this
      rw [if_neg (by omega), show l.length + i - l.length = i by omega] at this
      rw [Nat.add_assoc]; exact this
    -- whoever looks at the heap and comes behind a place hangs from all that do ahead of it
    have behind : ∀ (sg2 : List (Bool × List TO)) (s2 : Nat), segsOk (clo ops.toList) ts s2 sg2 = true → (sg2.map (·.2)).flatten = ts.drop s2 → ∀ i ti, ts[i]? = some ti → isPure ti.o = false → s2 ≤ i → ∀ j tj, ts[j]? = some tj → isPure tj.o = false → j < s2 → ((clo ops.toList).getD i 0).testBit j = true := by
      intro sg2
      induction sg2 with
      | nil =>
        intro s2 _ hf i ti hti _ hi1 j tj htj _ hj
        have := congrArg List.length hf
        simp at this
        have := (List.getElem?_eq_some_iff.1 hti).1
        omega
      | cons sg2 sgs ih2 =>
        intro s2 hk hf i ti hti hpi hi1 j tj htj hpj hj
        obtain ⟨q2, l2⟩ := sg2
        simp only [segsOk, Bool.and_eq_true] at hk
        obtain ⟨⟨hk1, _⟩, hk3⟩ := hk
        by_cases hin : i < s2 + l2.length
        · simp only [aheadOk, List.all_eq_true, Bool.or_eq_true] at hk1
          have := hk1 (i - s2) (by simp; omega)
          rw [show s2 + (i - s2) = i by omega] at this
          simp only [pureAt, hti, hpi, Bool.false_eq_true, false_or] at this
          have := this j (by simpa using hj)
          simp only [htj, hpj, Bool.false_eq_true, false_or] at this
          exact this
        · simp only [List.map_cons, List.flatten_cons] at hf
          have hf' : (sgs.map (·.2)).flatten = ts.drop (s2 + l2.length) := by
            rw [← List.drop_drop, ← hf]; simp
          exact ih2 (s2 + l2.length) hk3 hf' i ti hti hpi (by omega) j tj htj hpj (by omega)
    cases qt with
    | false =>
      simp only [Bool.false_or, Bool.and_eq_true, beq_iff_eq] at hone
      obtain ⟨t0, rfl⟩ := List.length_eq_one_iff.1 hone.1
      have hnp0 : isPure t0.o = false := by simpa using hone.2
      have ht0 : ts[s]? = some t0 := hlget 0 t0 rfl
      have hslt := (List.getElem?_eq_some_iff.1 ht0).1
      have hbs : bar s = true := by have := hbar 0; simpa [barAt] using this
      intro fuel
      induction fuel with
      | zero =>
        intro L M w a hLs hLt hLf hLc hfuel g
        have := unl_zero hfuel s (by omega)
        rw [hLf s t0 ht0 hnp0 (Nat.le_refl _)] at this; cases this
      | succ fuel ihf =>
        intro L M w a hLs hLt hLf hLc hfuel g
        refine ⟨fun h0 => (by
          have := noReady L hLs h0 s (by omega)
          rw [hLf s t0 ht0 hnp0 (Nat.le_refl _)] at this; cases this), fun i hi => ?_⟩
        obtain ⟨o, t, f⟩ := facts_of hc hp hLs hLc hi
        obtain ⟨b1, b2, b3, _, b5⟩ := after f hLs hLc
        cases hpure : isPure t.o with
        | true =>
          refine pure_go tr k hbp f hpure hso g (fun a' w' g' => ?_)
          refine ihf _ M w' a' b1 (fun i' t' ht' hnp hi' => (listed_iff b5 i').1 (.inl (hLt i' t' ht' hnp hi'))) (fun i' t' ht' hnp hi' => ?_) b2 (b3 fuel hfuel) (g'.congr (listed_iff b5))
          have hne : i ≠ i' := fun hh => by
            subst hh
            rw [f.ht] at ht'
            simp only [Option.some.injEq] at ht'
            rw [← ht', hpure] at hnp; cases hnp
          rw [getD_set_ne true hne]
          exact hLf i' t' ht' hnp hi'
        | false =>
          have his : i = s := by
            rcases Nat.lt_trichotomy i s with h1 | h1 | h1
            · exact absurd (hLt i t f.ht hpure h1) f.hS
            · exact h1
            · have hb := behind segs (s + 1) (by simpa using hok) (by simpa using hfl') i t f.ht hpure (by omega) s t0 ht0 hnp0 (by omega)
              have := f.anc s hb (by omega)
              rw [hLf s t0 ht0 hnp0 (Nat.le_refl _)] at this; cases this
          subst his
          have htt : t = t0 := by have := f.ht; rw [ht0] at this; simpa using this.symm
          subst htt
          have hlook := g.look tr f.ht f.hS f.d1 f.d2
          obtain ⟨hcc, hgg, hd, hdk, hlt⟩ := compO_some f.hc
          have hwant : ∀ {b : Bool}, wantedT (E i) t.g = some b → Region.wanted o (yielded ops a.tmps) = b := fun hw => wanted_sound (P := P) (M := M) (h := H i) f.hc (fun s x hs => hlook s (by simp [TO.slots, hs])) g.size hw
          have goOn : ∀ (M2 : Mp) (w2 : World) (a2 : Act), GInv M0 B w0 n ts E V' (H 0) (H (i + 1)) (fun k => L.getD k true = true ∨ k = i) M2 w2 a2 → wpAny P .any ops Q fuel (L.setIfInBounds i true) a2 w2 := fun M2 w2 a2 g2 => by
            refine ih (i + 1) (by simpa using hfl') (by simpa using hok) (by omega) (by simpa using hbar') fuel _ M2 w2 a2 b1 (fun i' t' ht' hnp hi' => ?_) (fun i' t' ht' hnp hi' => ?_) b2 (b3 fuel hfuel) (g2.congr (listed_iff b5))
            · rcases Nat.lt_succ_iff_lt_or_eq.1 hi' with h1 | h1
              · exact (listed_iff b5 i').1 (.inl (hLt i' t' ht' hnp h1))
              · exact (listed_iff b5 i').1 (.inr h1)
            · rw [getD_set_ne true (by omega)]
              exact hLf i' t' ht' hnp (by omega)
          unfold wpOp
          simp only [f.ho]
          rcases tr.step i t f.ht with ⟨hw, hv, hH⟩ | hst
          · rw [hwant hw]
            simp only [Bool.false_eq_true, if_false]
            refine goOn M w _ ?_
            rw [← hd, hH]
            exact g.step f.ht f.hS (by rw [hd]; exact hdk) f.d3 g.sim (fun hv => hv) (by rw [hv]; exact .tup _ _ .nil) g.gmap (Below.refl B w)
          · rw [if_pos hbs] at hst
            obtain ⟨hw, hq⟩ := hst
            rw [hwant hw]
            simp only [if_true]
            left
            refine run1_sound hC hm (seen_env hlook) g.sim hcc (by rw [run1_congr t.o (seen_agree (E i) t)]; exact hq) (fun x w' M' hdone => ?_)
            refine goOn M' w' _ ?_
            rw [← hd]
            refine g.step f.ht f.hS (by rw [hd]; exact hdk) f.d3 hdone.sim (fun hv => hv.keep hdone.goes.keeps) hdone.val (fun id hid hl => ?_) hdone.below
            have hid' : id < (H i).next := Nat.lt_of_lt_of_le hid (k.next 0 i (Nat.zero_le _) (by omega))
            exact (hdone.goes.keeps.map id hid' hl).trans (g.gmap id hid (hdone.goes.keeps.live id hid' hl))
    | true =>
      have hbf : ∀ i, s ≤ i → i < s + l.length → bar i = false := fun i h1 h2 => by
        have := hbar (i - s)
        simp only [barAt] at this
        rw [if_pos (by omega), show s + (i - s) = i by omega] at this
        simpa using this
      have inner : ∀ (fuel : Nat) (L : Array Bool) (M : Mp) (w : World) (a : Act), L.size = ops.size → (∀ i t, ts[i]? = some t → isPure t.o = false → i < s → L.getD i true = true) → (∀ i t, ts[i]? = some t → isPure t.o = false → s + l.length ≤ i → L.getD i true = false) → LClosed ops L → unl ops.size L = fuel →
          GInv M0 B w0 n ts E V' (H 0) (H (s + l.length)) (fun i => L.getD i true = true) M w a → QInv ts H s (s + l.length) (fun i => L.getD i true = true) M → wpAny P .any ops Q fuel L a w := by
        intro fuel
        induction fuel with
        | zero =>
          intro L M w a hLs hLt hLf hLc hfuel g q
          have hall := unl_zero hfuel
          exact ih (s + l.length) hfl' hok hsl hbar' 0 L M w a hLs (fun i t ht _ _ => hall i (by have := (List.getElem?_eq_some_iff.1 ht).1; omega)) hLf hLc hfuel g
        | succ fuel ihf =>
          intro L M w a hLs hLt hLf hLc hfuel g q
          by_cases hall : ∀ i t, ts[i]? = some t → isPure t.o = false → i < s + l.length → L.getD i true = true
          · exact ih (s + l.length) hfl' hok hsl hbar' (fuel + 1) L M w a hLs hall hLf hLc hfuel g
          · refine ⟨fun h0 => absurd (fun i t ht _ _ => noReady L hLs h0 i (by have := (List.getElem?_eq_some_iff.1 ht).1; omega)) hall, fun i hi => ?_⟩
            obtain ⟨o, t, f⟩ := facts_of hc hp hLs hLc hi
            obtain ⟨b1, b2, b3, _, b5⟩ := after f hLs hLc
            cases hpure : isPure t.o with
            | true =>
              refine pure_go tr k hbp f hpure hsl g (fun a' w' g' => ?_)
              refine ihf _ M w' a' b1 (fun i' t' ht' hnp hi' => (listed_iff b5 i').1 (.inl (hLt i' t' ht' hnp hi'))) (fun i' t' ht' hnp hi' => ?_) b2 (b3 fuel hfuel) (g'.congr (listed_iff b5)) ((q.more (j := i)).congr (listed_iff b5))
              have hne : i ≠ i' := fun hh => by
                subst hh
                rw [f.ht] at ht'
                simp only [Option.some.injEq] at ht'
                rw [← ht', hpure] at hnp; cases hnp
              rw [getD_set_ne true hne]
              exact hLf i' t' ht' hnp hi'
            | false =>
              have his : s ≤ i := by
                rcases Nat.lt_or_ge i s with h1 | h1
                · exact absurd (hLt i t f.ht hpure h1) f.hS
                · exact h1
              have hil : i < s + l.length := by
                rcases Nat.lt_or_ge i (s + l.length) with h1 | h1
                · exact h1
                · exfalso
                  apply hall
                  intro j tj htj hpj hj
                  have hb := behind segs (s + l.length) hok hfl' i t f.ht hpure h1 j tj htj hpj hj
                  exact f.anc j hb (by have := (List.getElem?_eq_some_iff.1 htj).1; omega)
              have hlook := g.look tr f.ht f.hS f.d1 f.d2
              obtain ⟨hcc, hgg, hd, hdk, hlt⟩ := compO_some f.hc
              have hwant : ∀ {b : Bool}, wantedT (E i) t.g = some b → Region.wanted o (yielded ops a.tmps) = b := fun hw => wanted_sound (P := P) (M := M) (h := H (s + l.length)) f.hc (fun s x hs => hlook s (by simp [TO.slots, hs])) g.size hw
              have goOn : ∀ (M2 : Mp) (w2 : World) (a2 : Act), GInv M0 B w0 n ts E V' (H 0) (H (s + l.length)) (fun k => L.getD k true = true ∨ k = i) M2 w2 a2 → QInv ts H s (s + l.length) (fun k => L.getD k true = true ∨ k = i) M2 → wpAny P .any ops Q fuel (L.setIfInBounds i true) a2 w2 := fun M2 w2 a2 g2 q2 => by
                refine ihf _ M2 w2 a2 b1 (fun i' t' ht' hnp hi' => (listed_iff b5 i').1 (.inl (hLt i' t' ht' hnp hi'))) (fun i' t' ht' hnp hi' => ?_) b2 (b3 fuel hfuel) (g2.congr (listed_iff b5)) (q2.congr (listed_iff b5))
                rw [getD_set_ne true (by omega)]
                exact hLf i' t' ht' hnp hi'
              unfold wpOp
              simp only [f.ho]
              rcases tr.step i t f.ht with ⟨hw, hv, hH⟩ | hst
              · rw [hwant hw]
                simp only [Bool.false_eq_true, if_false]
                refine goOn M w _ ?_ q.more
                rw [← hd]
                exact g.step f.ht f.hS (by rw [hd]; exact hdk) f.d3 g.sim (fun hv => hv) (by rw [hv]; exact .tup _ _ .nil) g.gmap (Below.refl B w)
              · rw [if_neg (by rw [hbf i his hil]; simp)] at hst
                rcases hst with ⟨hw, hpp, _⟩ | ⟨hw, hpp, qq, hq, hH⟩
                · rw [hpure] at hpp; cases hpp
                · rw [hwant hw]
                  simp only [if_true]
                  left
                  have hsj := q.down k hbf hsl g.sim (j := i) his (by omega)
                  have m2 := k.gets hbf hsl i (s + l.length) his (by omega) (Nat.le_refl _)
                  have hlook' : ∀ sl ∈ t.slots, VR M (H i) (E i sl) (a.tmps.getD sl undef) := fun sl hsl' =>
                    (hlook sl hsl').move (N := (H i).next) (Nat.le_refl _) (fun id hid hl => ⟨by rw [AH.live, m2 id hid]; exact hl, rfl⟩) (look_vb tr k (by omega) sl)
                  refine run1_sound hC hm (seen_env hlook').raise hsj.raise hcc (by rw [run1_congr t.o (seen_agree (E i) t)]; exact hq) (fun x w' M' hdone => ?_)
                  obtain ⟨M2, g2, q2⟩ := q.put k hbf hsl g his hil f.ht hpure f.hS (by rw [hd]; exact hdk) f.d3 hH hdone
                  rw [← hd]
                  exact goOn M2 w' _ g2 q2
      intro fuel L M w a hLs hLt hLf hLc hfuel g
      obtain ⟨M1, g1, q1⟩ := g.enter k hbf (Nat.le_add_right _ _) hsl
      exact inner fuel L M1 w a hLs hLt (fun i t ht hnp hi => hLf i t ht hnp (by omega)) hLc hfuel g1 q1
end
end
end Go.Ab
/- Code, functions, the whole: what the abstract machine answers the model's machine answers. -/
namespace Go.Ab
open Go Go.RowKit
set_option linter.unusedVariables false
set_option linter.unusedSimpArgs false
set_option linter.constructorNameAsVariable false

section
variable {P : Program}

theorem wp_loop_n {c : Code} {Q : Exit → Act → World → Prop} {a : Act} {w : World} (J : Nat → Act → World → Prop) (n : Nat) (h0 : J n a w)
    (round : ∀ n a w, J n a w → c.wp P (Exit.then (fun a' w' => ∃ m, m < n ∧ J m a' w') Q) a w) : (Code.loop c).wp P Q a w := by
  intro b k cs
  have key : ∀ n a w, J n a w → ∃ e a' w', Q e a' w' ∧ Arrives P (lone (b.at a (.code c :: .inLoop c :: k)) cs w) b k cs e a' w' := by
    intro n
    induction n using Nat.strongRecOn with
    | _ n ih =>
      intro a w hI
      obtain ⟨e, a₁, w₁, hq, harr⟩ := round n a w hI b (.inLoop c :: k) cs
      cases e with
      | normal =>
        obtain ⟨m, hlt, hI₁⟩ := hq
        obtain ⟨e₂, a₂, w₂, hq₂, harr₂⟩ := ih m hlt a₁ w₁ hI₁
        exact ⟨e₂, a₂, w₂, hq₂, .of_steps (Steps.trans harr (.one step_inLoop)) harr₂⟩
      | exit id => exact ⟨_, a₁, w₁, hq, .pass (x := .inLoop c) rfl (fun _ _ => .inl (by simp)) harr⟩
      | goto l => exact ⟨_, a₁, w₁, hq, .pass (x := .inLoop c) rfl (fun _ _ => .inl (by simp)) harr⟩
      | ret => exact ⟨_, a₁, w₁, hq, .pass (x := .inLoop c) rfl (fun _ _ => .inl (by simp)) harr⟩
      | panic ch => exact ⟨_, a₁, w₁, hq, .pass (x := .inLoop c) rfl (fun _ _ => .inl (by simp)) harr⟩
      | outgrown => exact ⟨_, a₁, w₁, hq, .pass (x := .inLoop c) rfl (fun _ _ => .inl (by simp)) harr⟩
  obtain ⟨e, a', w', hq, harr⟩ := key n a w h0
  exact ⟨e, a', w', hq, .of_steps (.one step_loop) harr⟩

def Ex.real : Ex → Exit
  | .nm => .normal
  | .ex id => .exit id
  | .rt => .ret

/-- Where code ends. -/
def Ends (M : Mp) (B : Nat) (w : World) (h : AH) (n : Nat) (z : Ex × Env × AH) (Q : Exit → Act → World → Prop) : Prop :=
  ∀ M' a' w', Rel M' B w' z.2.2 z.2.1 a' n → Goes M M' h z.2.2 → Below B w w' → Q z.1.real a' w'

theorem segs_kind {cl : List Nat} {ts : List TO} : ∀ (segs : List (Bool × List TO)) (s : Nat), segsOk cl ts s segs = true → ∀ p ∈ segs, p.1 = true ∨ p.2.length = 1
  | [], _, _, p, hp => by simp at hp
  | (q, l) :: r, s, h, p, hp => by
    simp only [segsOk, Bool.and_eq_true, Bool.or_eq_true, beq_iff_eq] at h
    rcases List.mem_cons.1 hp with rfl | hp
    · rcases h.1.2 with h | h
      · exact .inl h
      · exact .inr h.1
    · exact segs_kind r _ h.2 p hp
theorem segs_bar {cl : List Nat} {ts : List TO} : ∀ (segs : List (Bool × List TO)) (s : Nat), segsOk cl ts s segs = true → ∀ (j : Nat) (t : TO), (segs.map (·.2)).flatten[j]? = some t → barAt segs j = true → isPure t.o = false
  | [], _, _, j, t, ht, _ => by simp at ht
  | (q, l) :: r, s, h, j, t, ht, hb => by
    simp only [segsOk, Bool.and_eq_true, Bool.or_eq_true, beq_iff_eq] at h
    simp only [barAt] at hb
    simp only [List.map_cons, List.flatten_cons] at ht
    split at hb
    · rename_i hj
      rw [List.getElem?_append_left hj] at ht
      rcases h.1.2 with hq | hq
      · simp [hq] at hb
      · have := List.all_eq_true.1 hq.2 t (List.mem_of_getElem? ht)
        simpa using this
    · rename_i hj
      rw [List.getElem?_append_right (by omega)] at ht
      exact segs_bar r _ h.2 (j - l.length) t ht hb

theorem code_sound {C : Oracle} {tp : TP} {wr : Wr} (hC : OracleOk P C) (hS : OSteady C) (hm : MethsOk P tp) (hx : P.follows .mixedOrders = true) {n k : Nat} : ∀ (c : Code) (tc : TC) (M : Mp) (B : Nat) (w : World) (h : AH) (e : Env) (a : Act) (z : Ex × Env × AH) (Q : Exit → Act → World → Prop),
    compC P wr n c = some tc → evC tp C k tc e h = some z → Rel M B w h e a n → Ends M B w h n z Q → c.wp P Q a w := by
  intro c
  induction c with
  | skip =>
    intro tc M B w h e a z Q hc he hr hQ
    simp [compC] at hc; subst hc
    simp [evC] at he; subst he
    exact wp_skip (hQ M a w hr (Goes.refl M h) (Below.refl B w))
  | region id ops draw =>
    intro tc M B w h e a z Q hc he hr hQ
    simp only [compC, compReg] at hc
    obtain ⟨ts, hts, hc⟩ := bind_some hc
    cases draw with
    | true =>
      simp only [if_true] at hc
      split at hc
      case isFalse => simp at hc
      rename_i hok
      simp only [Option.some.injEq] at hc
      subst hc
      simp only [Bool.and_eq_true, beq_iff_eq] at hok
      obtain ⟨⟨⟨h1, h2⟩, h2'⟩, h3⟩ := hok
      simp only [evC, Option.map_eq_some_iff] at he
      obtain ⟨y, hy, rfl⟩ := he
      refine wp_region_any hx ?_
      have hfl : ((segsOf wr (ops.toList.zip ts)).map (·.2)).flatten = ts := by
        rw [segsOf_flat, List.map_snd_zip (by simp [h3])]
      obtain ⟨E, H, V', tr, hE0, hH0, hE1, hH1⟩ := segs_trace hS h.lim (segsOf wr (ops.toList.zip ts)) e y.1 h y.2 rfl (segs_kind _ _ h1) hy
      rw [hfl] at tr hE1 hH1
      have hr' : Rel M B { w with drawn := w.drawn + 1 } h e a n := ⟨hr.sim.heap rfl, hr.env, hr.size, hr.defers⟩
      have hr0 : Rel M B { w with drawn := w.drawn + 1 } (H 0) (E 0) a n := by rw [hE0, hH0]; exact hr'
      have kn := known_of hC hS hm tr hr0 (by rw [hH0]) (fun j t ht => (by
        have hj := (List.getElem?_eq_some_iff.1 ht).1
        exact ⟨_, (compOs_get hts).2 j ops.toList[j] t (List.getElem?_eq_getElem (by simp; omega)) ht⟩))
      have hlen : ops.size = ts.length := h3.symm
      have getF : ∀ i, (Array.replicate ops.size false).getD i false = false := fun i => by
        rw [Array.getD_eq_getD_getElem?]
        by_cases hi : i < ops.size
        · simp [hi]
        · simp [hi]
      refine region_any (M0 := M) (B := B) (w0 := { w with drawn := w.drawn + 1 }) hC hS hm hts h2' h2 tr kn (fun j t ht hb => segs_bar _ _ h1 j t (by rw [hfl]; exact ht) hb) (fun M' a' w' r' g' b' => ?_) (segsOf wr (ops.toList.zip ts)) 0 (by simpa using hfl) h1 (Nat.zero_le _) (fun i => by simp) ops.size (Array.replicate ops.size false) M _ a (by simp) (fun i _ _ _ hi => by omega) (fun i t ht _ _ => ?_) (fun i o ho hi => ?_) ?_ ?_
      · rw [hE1, hH1] at r'
        rw [hH0, hH1] at g'
        exact hQ M' a' w' r' g' ⟨b'.os, b'.tape, b'.output, b'.size, b'.block⟩
      · have hlt := (List.getElem?_eq_some_iff.1 ht).1
        rw [Array.getD_eq_getD_getElem?]; simp [hlen, hlt]
      · have hlt := (Array.getElem?_eq_some_iff.1 ho).1
        simp only at hi
        rw [Array.getD_eq_getD_getElem?] at hi
        simp [hlt] at hi
      · unfold unl
        rw [List.filter_eq_self.2 (fun i hi => by
          have : i < ops.size := by simpa using hi
          rw [Array.getD_eq_getD_getElem?]; simp [this])]
        simp
      · refine ⟨hr0.sim, fun t _ => hr0.env t, fun i o ht hi => ?_, fun _ _ _ => rfl, Below.refl _ _, hr0.size, hr0.defers⟩
        have hlt := (List.getElem?_eq_some_iff.1 ht).1
        rw [Array.getD_eq_getD_getElem?] at hi
        simp [hlen, hlt] at hi
    | false =>
      simp only [Bool.false_eq_true, if_false, Option.some.injEq] at hc
      subst hc
      simp only [evC, Option.map_eq_some_iff] at he
      obtain ⟨y, hy, rfl⟩ := he
      refine wp_region ?_
      have := ops_sound hC hm ops.toList ts 0 M w h y.2 e y.1 a (fun j => by simp) hts hy hr (Q := Q) (fun M' a' w' r' g' b' => hQ M' a' w' r' g' b')
      rw [List.range_eq_range']
      simpa using this
  | seq x y ihx ihy =>
    intro tc M B w h e a z Q hc he hr hQ
    simp only [compC] at hc
    obtain ⟨tx, htx, hc⟩ := bind_some hc
    simp only [Option.map_eq_some_iff] at hc
    obtain ⟨ty, hty, rfl⟩ := hc
    simp only [evC] at he
    obtain ⟨y1, hy1, he⟩ := bind_some he
    refine wp_seq (ihx tx M B w h e a y1 _ htx hy1 hr (fun M' a' w' r' g' b' => ?_))
    obtain ⟨ex, e1, h1⟩ := y1
    cases ex with
    | nm =>
      simp only at he
      exact ihy ty M' B w' h1 e1 a' z Q hty he r' (fun M'' a'' w'' r'' g'' b'' => hQ M'' a'' w'' r'' (g'.trans g'') (b'.trans b''))
    | ex id => simp at he; subst he; exact hQ M' a' w' r' g' b'
    | rt => simp at he; subst he; exact hQ M' a' w' r' g' b'
  | cond c x y ihx ihy =>
    intro tc M B w h e a z Q hc he hr hQ
    simp only [compC] at hc
    obtain ⟨tq, htq, hc⟩ := bind_some hc
    obtain ⟨tx, htx, hc⟩ := bind_some hc
    simp only [Option.map_eq_some_iff] at hc
    obtain ⟨ty, hty, rfl⟩ := hc
    have hv := compX_VR hr.env htq
    simp only [evC] at he
    split at he
    · rename_i hq
      rw [hq] at hv
      cases hav : a.eval c <;> rw [hav] at hv <;> cases hv
      exact wp_cond hav (ihx tx M B w h e a z Q htx he hr hQ)
    · rename_i hq
      rw [hq] at hv
      cases hav : a.eval c <;> rw [hav] at hv <;> cases hv
      exact wp_cond hav (ihy ty M B w h e a z Q hty he hr hQ)
    · simp at he
  | block id c ih =>
    intro tc M B w h e a z Q hc he hr hQ
    simp only [compC, Option.map_eq_some_iff] at hc
    obtain ⟨tx, htx, rfl⟩ := hc
    simp only [evC, Option.map_eq_some_iff] at he
    obtain ⟨y, hy, rfl⟩ := he
    refine wp_block (ih tx M B w h e a y _ htx hy hr (fun M' a' w' r' g' b' => ?_))
    obtain ⟨ex, e1, h1⟩ := y
    have := hQ M' a' w' r' g' b'
    cases ex with
    | nm => exact this
    | rt => exact this
    | ex j =>
      simp only [Ex.real, Exit.inBlock] at this ⊢
      split
      · rename_i hji; simpa [hji] using this
      · rename_i hji; simpa [hji] using this
  | loop c ih =>
    intro tc M B w h e a z Q hc he hr hQ
    simp only [compC, Option.map_eq_some_iff] at hc
    obtain ⟨tx, htx, rfl⟩ := hc
    simp only [evC] at he
    refine wp_loop_n (fun m a1 w1 => ∃ M1 e1 h1, iter (evC tp C k tx) m e1 h1 = some z ∧ Rel M1 B w1 h1 e1 a1 n ∧ Goes M M1 h h1 ∧ Below B w w1) k ⟨M, e, h, he, hr, Goes.refl M h, Below.refl B w⟩ ?_
    intro m a1 w1 ⟨M1, e1, h1, hit, hr1, hg1, hb1⟩
    cases m with
    | zero => simp [iter] at hit
    | succ m =>
      simp only [iter] at hit
      obtain ⟨y, hy, hit⟩ := bind_some hit
      refine ih tx M1 B w1 h1 e1 a1 y _ htx hy hr1 (fun M' a' w' r' g' b' => ?_)
      obtain ⟨ex, e2, h2⟩ := y
      cases ex with
      | nm => exact ⟨m, Nat.lt_succ_self _, M', e2, h2, hit, r', hg1.trans g', hb1.trans b'⟩
      | ex id => simp at hit; subst hit; exact hQ M' a' w' r' (hg1.trans g') (hb1.trans b')
      | rt => simp at hit; subst hit; exact hQ M' a' w' r' (hg1.trans g') (hb1.trans b')
  | exit id =>
    intro tc M B w h e a z Q hc he hr hQ
    simp [compC] at hc; subst hc
    simp [evC] at he; subst he
    exact wp_exit (hQ M a w hr (Goes.refl M h) (Below.refl B w))
  | ret =>
    intro tc M B w h e a z Q hc he hr hQ
    simp [compC] at hc; subst hc
    simp [evC] at he; subst he
    exact wp_ret (hQ M a w hr (Goes.refl M h) (Below.refl B w))
  | _ => intro tc M B w h e a z Q hc; simp [compC] at hc

def rvRun (tmps : Array Value) : ResultVar → Sem Value
  | .tmp t => pure (tmps.getD t undef)
  | .cell b t => do loadVar t (← asAddr (tmps.getD b undef))
/-- Results. -/
theorem rvs_sound {M : Mp} {B : Nat} {w : World} {h : AH} {e : Env} {a : Act} (hs : Sim M B w h) (hE : EnvR M h e a) : ∀ (l : List ResultVar) (rs : List RV) (vs : List V), compRVs P l = some rs → rvs e h rs = some vs →
    ∃ xs : List Value, VRs M h vs xs ∧ (l.mapM (rvRun a.tmps)).run P w = .ok xs w
  | [], rs, vs, hc, he => by
    simp [compRVs] at hc; subst hc
    simp [rvs] at he; subst he
    exact ⟨[], .nil, by simp⟩
  | r :: l, rs, vs, hc, he => by
    simp only [compRVs] at hc
    obtain ⟨x, hx, hc⟩ := bind_some hc
    simp only [Option.map_eq_some_iff] at hc
    obtain ⟨rs', hrs, rfl⟩ := hc
    simp only [rvs] at he
    obtain ⟨v, hv, he⟩ := bind_some he
    simp only [Option.map_eq_some_iff] at he
    obtain ⟨vs', hvs, rfl⟩ := he
    obtain ⟨xs, hxs, hrun⟩ := rvs_sound hs hE l rs' vs' hrs hvs
    cases r with
    | tmp t =>
      simp [compRV] at hx; subst hx
      simp [rvOf] at hv; subst hv
      exact ⟨_ :: xs, .cons _ _ _ _ (hE t) hxs, by simp only [List.mapM_cons, rvRun, Sem.run_bind, Sem.run_pure, Result.andThen_ok, hrun]⟩
    | cell b t =>
      simp only [compRV] at hx
      obtain ⟨s, hsz, hx⟩ := bind_some hx
      obtain ⟨g, hg, hx⟩ := bind_some hx
      split at hx
      case isFalse => simp at hx
      simp only [Option.some.injEq] at hx
      subst hx
      simp only [rvOf] at hv
      have hb := hE b
      split at hv
      case h_2 => simp at hv
      rename_i id el off hp
      rw [hp] at hb
      obtain ⟨kk, hkk, hv⟩ := bind_some hv
      obtain ⟨row, hrow, hv⟩ := bind_some hv
      cases hav : a.tmps.getD b undef <;> rw [hav] at hb <;> try (cases hb; done)
      rename_i ad0
      cases ad0 with
      | none => cases hb
      | some ad =>
        obtain ⟨y, hy, hvy⟩ := load_VR (P := P) hs trivial hb hkk hrow hv hsz hg
        refine ⟨y :: xs, .cons _ _ _ _ hvy hxs, ?_⟩
        have h1 : (rvRun a.tmps (.cell b t)).run P w = .ok y w := by
          simp only [rvRun, Sem.run_bind]
          rw [hav]
          simp only [asAddr, Sem.run_pure, Result.andThen_ok, hy]
        simp only [List.mapM_cons, Sem.run_bind, Sem.run_pure, h1, Result.andThen_ok, hrun]

/-- The functions of the abstract machine are those of the program. -/
def TpOk (P : Program) (wr : Wr) (tp : TP) : Prop := ∀ f tf, tp.fn f = some tf → ∃ fn, P.funcs[f]? = some fn ∧ compF P wr fn = some tf

theorem ev_sound {tp : TP} {wr : Wr} (hT : TpOk P wr tp) (hm : MethsOk P tp) (hx : P.follows .mixedOrders = true) : ∀ k, OracleOk P (ev tp k) := by
  intro k
  induction k with
  | zero => intro f args h v h' he; simp [ev] at he
  | succ k ih =>
    intro f args h v h' he
    simp only [ev] at he
    obtain ⟨tf, htf, he⟩ := bind_some he
    split at he
    case isFalse => simp at he
    rename_i hargs
    obtain ⟨z, hz, he⟩ := bind_some he
    obtain ⟨fn, hfn, hcf⟩ := hT f tf htf
    unfold compF at hcf
    cases hb : fn.body with
    | none => simp [hb] at hcf
    | some c =>
      simp only [hb] at hcf
      split at hcf
      case isTrue => simp at hcf
      rename_i hname
      obtain ⟨rs, hrs, hcf⟩ := bind_some hcf
      simp only [Option.map_eq_some_iff] at hcf
      obtain ⟨tc, htc, rfl⟩ := hcf
      refine ⟨⟨fn, hfn, by simp [hb], by simpa using hname⟩, fun M B w xs hs hxs => ?_⟩
      have hl := hxs.length
      have hl' : args.length = xs.size := by simpa using hl
      simp only at hargs
      refine calls_of_wp hfn hb ?_
      have hr0 : Rel M B w h (env0 args) { tmps := xs ++ Array.replicate (fn.ntmps - xs.size) undef, defers := [] } fn.ntmps := by
        refine ⟨hs, fun t => ?_, by simp; omega, rfl⟩
        simp only [env0]
        by_cases ht : t < args.length
        · obtain ⟨x, hx1, hx2⟩ := hxs.get t args[t] (by simp [ht])
          have hget : (xs ++ Array.replicate (fn.ntmps - xs.size) undef).getD t undef = x := by
            rw [Array.getD_eq_getD_getElem?, Array.getElem?_append]
            rw [if_pos (by omega)]
            have : xs[t]? = some x := by simpa using hx1
            rw [this]; rfl
          rw [hget]
          have : args.getD t .u = args[t] := by simp [List.getD, ht]
          rw [this]; exact hx2
        · have : args.getD t .u = .u := by simp [List.getD, List.getElem?_eq_none (Nat.le_of_not_lt ht)]
          rw [this]; exact .u _
      refine code_sound (k := k) ih (ev_steady tp k) hm hx c tc M B w h (env0 args) _ z _ htc hz hr0 (fun M' a' w' r' g' b' => ?_)
      obtain ⟨ex, z1, z2⟩ := z
      have fin : (resOf z1 z2 rs).map (fun v => (v, z2)) = some (v, h') → a'.defers = [] ∧ ∃ x, (results fn a'.tmps).run P w' = .ok x w' ∧ ∃ y M', Ending.returned x = .returned y ∧ Done M B w h v h' y w' M' := by
        intro hres
        simp only [Option.map_eq_some_iff, Prod.mk.injEq] at hres
        obtain ⟨v', hv', rfl, rfl⟩ := hres
        simp only [resOf, Option.map_eq_some_iff] at hv'
        obtain ⟨vs, hvs, rfl⟩ := hv'
        obtain ⟨ys, hys, hrun⟩ := rvs_sound r'.sim r'.env _ rs vs hrs hvs
        have hrun' : (results fn a'.tmps).run P w' = .ok (if hh : ys.toArray.size = 1 then ys.toArray[0] else .tuple ys.toArray) w' := by
          have e : results fn a'.tmps = (do let vs ← Array.mapM (rvRun a'.tmps) fn.results; pure (if h : vs.size = 1 then vs[0] else .tuple vs)) := rfl
          rw [e, Array.mapM_eq_mapM_toList]
          simp only [Sem.run_bind, Sem.run_map, hrun, Result.andThen_ok, Sem.run_pure]
        refine ⟨r'.defers, _, hrun', _, M', rfl, ⟨?_, r'.sim, trivial, g', b'⟩⟩
        cases hys with
        | nil => exact .tup _ _ .nil
        | cons v1 y1 l1 l1' p1 q1 =>
          cases q1 with
          | nil => simpa using p1
          | cons v2 y2 l2 l2' p2 q2 =>
            have : ¬ (y1 :: y2 :: l2').toArray.size = 1 := by simp
            rw [dif_neg this]
            exact .tup _ _ (.cons _ _ _ _ p1 (.cons _ _ _ _ p2 q2))
      cases ex with
      | ex id => simp at he
      | nm =>
        obtain ⟨h1, x, h2, h3⟩ := fin he
        exact ⟨h1, x, h2, h3⟩
      | rt =>
        obtain ⟨h1, x, h2, h3⟩ := fin he
        exact ⟨h1, x, h2, h3⟩
end
end Go.Ab
