/- Part of the proof that RunsTables returns true for every input of the second form's bound (no other condition). -/
import Derived.WalkKit
import Derived.ProofKit
import Derived.OpenShut
import Derived.ShutString
import Derived.ChangeOld
import Derived.SizedLaws
import Derived.JoinedCond
import Derived.Test.YtemddmfgjijcmaaAbD
set_option linter.all false
/- A law's row out of the abstract machine. -/
namespace Go.Ab
open Go Go.RowKit
set_option linter.unusedVariables false
theorem calls_bool {P : Program} {tp : TP} {wr : Wr} (hT : TpOk P wr tp) (hm : MethsOk P tp) (hx : P.follows .mixedOrders = true) {f : Nat} {args : List V} {h : AH} {M : Mp} {w : World} {xs : Array Value}
    (hi : In M w h) (ha : VRs M h args xs.toList) (he : Ev tp f args h (fun r _ => r = .b true)) : Calls P f xs w fun e w' => e = .returned (.bool true) ∧ Below w.heap.size w w' := by
  obtain ⟨k, v, h', hev, rfl⟩ := he
  refine ((ev_sound hT hm hx k f args h _ h' hev).2 M w.heap.size w xs hi.sim ha).mono fun e w' ⟨x, M', e1, hd⟩ => ?_
  subst e1
  have hv := hd.val
  cases hv
  exact ⟨rfl, hd.below⟩
theorem In.empty (w : World) : In (fun _ => none) w ⟨fun _ => none, 0, 0⟩ := ⟨fun _ _ _ hk => (by cases hk), fun _ _ hm => (by cases hm), fun _ hl => absurd rfl hl, rfl⟩
/-- Is there a block ahead of all calls? -/
def posB (P : Program) : Bool :=
  if P.globals.size = 0 then decide (0 < (begin P (fun _ _ => 0) default).world.heap.size)
  else (((begin P (fun _ _ => 0) default).world.heap[0]?).bind Obj.row?).isSome
theorem shaped_pos {P : Program} {w : World} (hp : posB P = true) (hs : w.ShapedOpen P) : 0 < w.heap.size := by
  unfold posB at hp
  split at hp
  · rename_i h0
    simp only [decide_eq_true_eq] at hp
    obtain ⟨o, _, ho, _⟩ := hs.2 0 (by omega) hp
    by_cases hz : 0 < w.heap.size
    · exact hz
    · rw [Array.getElem?_eq_none (by omega)] at ho; cases ho
  · rename_i h0
    cases hb : ((begin P (fun _ _ => 0) default).world.heap[0]?).bind Obj.row? with
    | none => rw [hb] at hp; cases hp
    | some q =>
      obtain ⟨cs, hc, _⟩ := hs.1 0 q.1 q.2 (by omega) hb
      by_cases hz : 0 < w.heap.size
      · exact hz
      · rw [Array.getElem?_eq_none (by omega)] at hc; cases hc
theorem wf_i64 {n : Int} (h : (Lit.int .i64 n).wf = true) : -9223372036854775808 ≤ n ∧ n ≤ 9223372036854775807 := by
  simpa [Lit.wf, IntKind.min, IntKind.max, IntKind.signed, IntKind.bits] using h
theorem wf_u8 {n : Int} (h : (Lit.int .u8 n).wf = true) : 0 ≤ n ∧ n ≤ 255 := by
  simpa [Lit.wf, IntKind.min, IntKind.max, IntKind.signed, IntKind.bits] using h
theorem wf_u32 {n : Int} (h : (Lit.int .u32 n).wf = true) : 0 ≤ n ∧ n ≤ 4294967295 := by
  simpa [Lit.wf, IntKind.min, IntKind.max, IntKind.signed, IntKind.bits] using h
/-- A type's shape, reckoned. -/
def shFs (K : TypeId → Option Sh) (P : Program) : List Field → Nat → Option ShL
  | [], _ => some .nil
  | f :: fs, o => (K f.type).bind fun x => if f.offset = o ∧ P.cellsOf f.type = x.size then (shFs K P fs (o + x.size)).map fun l => .cons x l else none
def shB (P : Program) : Nat → TypeId → Option Sh
  | 0, _ => none
  | n + 1, t =>
    match P.underlying t with
    | some .bool => some .b
    | some (.int k) => some (.i k)
    | some .string => some .s
    | some (.slice e) => (shB P n e).bind fun x => if P.cellsOf e = x.size ∧ 0 < x.size then some (.sl x) else none
    | some (.struct fs) => (shFs (shB P n) P fs.toList 0).bind fun l => if P.cellsOf t = l.size then some (.agg l) else none
    | some (.array m e) => (shB P n e).bind fun x => if P.cellsOf e = x.size ∧ P.cellsOf t = m * x.size then some (.agg (ShL.rep x m)) else none
    | _ => none
theorem shFs_ok {K : TypeId → Option Sh} {P : Program} (hK : ∀ t x, K t = some x → ShT P t x) : ∀ (fs : List Field) (o : Nat) (l : ShL), shFs K P fs o = some l → ShF P fs o l
  | [], o, l, h => by cases h; exact .nil o
  | f :: fs, o, l, h => by
    simp only [shFs, Option.bind_eq_some_iff] at h
    obtain ⟨x, hx, h⟩ := h
    split at h
    · rename_i hh
      simp only [Option.map_eq_some_iff] at h
      obtain ⟨l', hl, rfl⟩ := h
      exact .cons f fs o x l' hh.1 (hK _ _ hx) hh.2 (shFs_ok hK fs _ l' hl)
    · cases h
theorem shB_ok {P : Program} : ∀ (n : Nat) (t : TypeId) (x : Sh), shB P n t = some x → ShT P t x
  | 0, t, x, h => by cases h
  | n + 1, t, x, h => by
    unfold shB at h
    split at h
    · rename_i hu; cases h; exact .b t hu
    · rename_i k hu; cases h; exact .i t k hu
    · rename_i hu; cases h; exact .s t hu
    · rename_i e hu
      simp only [Option.bind_eq_some_iff] at h
      obtain ⟨y, hy, h⟩ := h
      split at h
      · rename_i hh; cases h; exact .sl t e y hu (shB_ok n e y hy) hh.1 hh.2
      · cases h
    · rename_i fs hu
      simp only [Option.bind_eq_some_iff] at h
      obtain ⟨l, hl, h⟩ := h
      split at h
      · rename_i hh; cases h; exact .agg t fs l hu (shFs_ok (shB_ok n) _ _ _ hl) hh
      · cases h
    · rename_i m e hu
      simp only [Option.bind_eq_some_iff] at h
      obtain ⟨y, hy, h⟩ := h
      split at h
      · rename_i hh; cases h; exact .arr t e m y hu (shB_ok n e y hy) hh.1 hh.2
      · cases h
    · cases h
section
variable {H : Type} {enc : TypeId × Value → H}
/-- A condition's row, with a block ahead of the call. -/
theorem handed_cond {a : Assume} {C : Checked} {os : Os} {f : FuncId} {fn : Func} {s : OpenSpec} {k : (H : Type) → List (DataW H) → Bool} (hk : s.cond = some k) {F : Stop.Interp} {conds : List PathCond} {apart fresh handsOn again : Bool}
    (own : ownKnob C.prog.godebug = none) (started : os.Started) (noInit : C.prog.inits.idxOf? f = none) (hfn : C.prog.funcs[f]? = some fn) (hpos : posB C.prog = true)
    (witness : ∃ (w : World) (tape : Tape) (i : Input), w.os = os ∧ (w.forCall tape i).Shaped C.prog ∧ i.vars = [] ∧ Input.okWide C.prog (w.forCall tape i) .any w.heap.size f i ∧
      s.pre6 enc C.prog fn conds apart (w.forCall tape i).memory i.args ∧ a.holds C.prog (lone (Frame.enter C.prog f i.args .normal) [] (w.forCall tape i)))
    (contract : ∀ (W : World) (base : Nat) (args : Array Value) (ds gs : List (DataW H)) (before : List MemPlace), 0 < W.heap.size →
      (∀ (j : Nat) t v, fn.params[j]? = some t → args[j]? = some v → Value.okWide C.prog W .any base t v) →
      DataW.Whole enc C.prog fn.params.toList s.vars apart W args.toList ds gs before → k H (ds ++ gs) = true →
      Calls C.prog f args W fun e W' => ∃ v, e = .returned v ∧ (s.at F).post enc C.prog fn apart fresh handsOn again W args v W') :
    ReturnsInHanded a C os f .any (s.pre6 enc C.prog fn conds apart) ((s.at F).post enc C.prog fn apart fresh handsOn again) := by
  refine returnsInHanded_of_calls own started noInit witness ?_
  intro w tape i _ hshaped _ hok hpre _
  obtain ⟨_, _, _, fn', hfn', _, _, _, _, hval⟩ := hok
  obtain rfl : fn' = fn := Option.some.inj (hfn'.symm.trans hfn)
  obtain ⟨ds, gs, before, hw, _, hkk⟩ := (OpenSpec.pre_some hk conds apart _ _).1 hpre.1
  have hw' := DataW.Whole.of_heap (w' := w.forCall tape i) (by rfl) hw
  refine (contract (w.forCall tape i) w.heap.size i.args ds gs before (shaped_pos hpos hshaped) hval hw' hkk).mono fun e W' ⟨v, he, hp⟩ => ?_
  subst he
  exact ChangeSpec.post_blind hp
end
end Go.Ab
