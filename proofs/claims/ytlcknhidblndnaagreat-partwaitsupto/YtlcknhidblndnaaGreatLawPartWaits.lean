/- 'PartWaits' returns true for every input whose bulk is at most 1,048,576, and leaves its arguments as they were. Conditions: the bound of the second form. -/
import Derived.Test.YtlcknhidblndnaaGreatPJ
import Derived.Test.YtlcknhidblndnaaGreatPI
import Derived.Test.YtlcknhidblndnaaGreatPH
set_option linter.all false
namespace Go.Proofs.YtlcknhidblndnaaGreat.partWaits
open Go Go.Ab Go.Ab.T
open Go.ChangeShapes Go.WideShapes Go.ChangeAt Go.RowKit
open Go.ChangeMaps (open_string shut_string)
set_option linter.unusedVariables false
set_option linter.unusedSimpArgs false
theorem own : ownKnob Tryz.prog.godebug = none := by kernel_rfl
theorem pos : WN Tryz.prog = true := by kernel_rfl
set_option maxRecDepth 100000 in
theorem lifted (os : Os) (started : os.Started) (H : Type) (enc : TypeId × Value → H) (F : Stop.Interp) :
    ReturnsInHanded {} Tryz.checked os 4 .any ((Rows.OpenSpec.upto Rows.partWaitsSpec).pre6 enc Tryz.prog Tryz.f4 Rows.partWaitsUptoRow.domain false) (((Rows.OpenSpec.upto Rows.partWaitsSpec).at F).post enc Tryz.prog Tryz.f4 false true false false) := by
  refine JK (C := Tryz.checked) (s := Rows.OpenSpec.upto Rows.partWaitsSpec) (k := Rows.uptoSmall) rfl own started (by kernel_rfl) Tryz.func4 pos
    (OpenSpec.witness (enc := enc) (C := Tryz.checked) (s := Rows.OpenSpec.upto Rows.partWaitsSpec) (k := Rows.uptoSmall) rfl false ⟨#[], #[.int .i64 0, .bool false], []⟩ 8 (by kernel_rfl) (by kernel_rfl) (by kernel_rfl)
      (x := ([.lit (.int .i64 0), .lit (.bool false)], [], [])) (by kernel_rfl) rfl (by kernel_rfl)) ?_
  intro W base args ds gs before hpos hval0 hW hk
  have hval : ∀ (j : Nat) t v, Tryz.f4.params[j]? = some t → args[j]? = some v → Value.okWide Tryz.prog W .any base t v := hval0
  have hW' := hW
  obtain ⟨p, q, hA0, hV, rfl, hfz, hnd⟩ := hW
  have hA : DataW.TrodAll enc Tryz.prog W 0 (fun _ => true) true Tryz.f4.params.toList args.toList ds p := hA0
  rw [Tryz.params4] at hA hval
  obtain ⟨v0, vs0, d0, ds0, p0, q0, hargs, rfl, rfl, h0, r0⟩ := trodAll_cons hA
  obtain ⟨v1, vs1, d1, ds1, p1, q1, rfl, rfl, rfl, h1, r1⟩ := trodAll_cons r0
  obtain ⟨rfl, rfl, rfl⟩ := trodAll_nil r1
  obtain rfl : args = #[v0, v1] := by cases args; simp_all
  obtain ⟨rfl, rfl⟩ := trodVars_none hV
  have hB := bulks.bound hk
  simp only [List.append_nil, List.nil_append, List.cons_append, Rows.uptoBulkAll] at hB
  obtain ⟨a0, rfl, rfl, rfl, w0⟩ := open_int Tryz.underlying3 (hval 0 3 v0 rfl rfl) h0
  have b0 := nJ w0
  obtain ⟨a1, rfl, rfl, rfl⟩ := open_bool Tryz.underlying4 (hval 1 4 v1 rfl rfl) h1
  clear hA0 hval0
  have hev : Ev tp 4 [.i .i64 a0, .b a1] ⟨fun _ => none, 0, 0⟩ (fun r _ => r = .b true) := Pf.ev (T6) (Nat.le_refl _) (.cons _ _ _ _ _ (.i _ _ _) (.cons _ _ _ _ _ (.b _ _) (.nil _)))
  refine (LN aFU Wq (Checked.mixed Tryz.checked) (In.empty W) (args := [.i .i64 a0, .b a1]) (xs := #[.int .i64 a0, .bool a1]) (.cons _ _ _ _ (.i _ _) (.cons _ _ _ _ (.b _) .nil)) hev).mono fun e W' ⟨he, bel⟩ => ?_
  subst he
  exact ⟨_, rfl, _, _, _, [], _, [], hW', trodAll_mk1 (shut_bool Tryz.underlying4 _), (trodAll_cons_mk (shut_int Tryz.underlying3 w0) (trodAll_cons_mk (shut_bool Tryz.underlying4 _) trodAll_mk0)), rfl, bel.frame _, fun h => by cases h⟩
theorem over : Rows.partWaitsUptoRow.holds Tryz.pinned (Rows.OpenSpec.upto Rows.partWaitsSpec) :=
  OpenClaim.holds_of_cond 4 Tryz.f4 rfl rfl rfl rfl rfl rfl rfl ⟨rfl, rfl, rfl, rfl, rfl⟩ rfl rfl rfl rfl rfl (by kernel_rfl) Tryz.func4 (by kernel_rfl)
    (of_decide_eq_true (by kernel_rfl)) (by unfold Func.isWrapper; first | (rw [if_pos (by decide +kernel)]; kernel_rfl) | (rw [if_neg (by decide +kernel)]; exact ⟨rfl, rfl⟩))
    (fun os started H enc _ F => lifted os started H enc F)
theorem proved : Rows.PartWaitsUptoSaid := over
#print axioms proved
end Go.Proofs.YtlcknhidblndnaaGreat.partWaits
namespace Go.Proofs.YtlcknhidblndnaaGreat
/-- The row, under a short name, for the claim. -/
theorem partWaits_holds : Rows.PartWaitsUptoSaid := partWaits.proved
end Go.Proofs.YtlcknhidblndnaaGreat

