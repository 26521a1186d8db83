/- 'PartNumbers' returns true for every input whose bulk is at most 1,048,576, and leaves its arguments as they were. Conditions: the bound of the second form. -/
import Derived.Test.YtlcknhidblndnaaGreatPM
import Derived.Test.YtlcknhidblndnaaGreatPL
import Derived.Test.YtlcknhidblndnaaGreatPK
set_option linter.all false
namespace Go.Proofs.YtlcknhidblndnaaGreat.partNumbers
open Go Go.Ab Go.Ab.T
open Go.ChangeShapes Go.WideShapes Go.ChangeAt Go.RowKit
open Go.ChangeMaps (open_string shut_string)
set_option linter.unusedVariables false
set_option linter.unusedSimpArgs false
theorem own : ownKnob Tryz.prog.godebug = none := by kernel_rfl
theorem pos : uQ Tryz.prog = true := by kernel_rfl
set_option maxRecDepth 100000 in
theorem lifted (os : Os) (started : os.Started) (H : Type) (enc : TypeId × Value → H) (F : Stop.Interp) :
    ReturnsInHanded {} Tryz.checked os 6 .any ((Rows.OpenSpec.upto Rows.partNumbersSpec).pre6 enc Tryz.prog Tryz.f6 Rows.partNumbersUptoRow.domain false) (((Rows.OpenSpec.upto Rows.partNumbersSpec).at F).post enc Tryz.prog Tryz.f6 false true false false) := by
  refine O0 (C := Tryz.checked) (s := Rows.OpenSpec.upto Rows.partNumbersSpec) (k := Rows.uptoSmall) rfl own started (by kernel_rfl) Tryz.func6 pos
    (OpenSpec.witness (enc := enc) (C := Tryz.checked) (s := Rows.OpenSpec.upto Rows.partNumbersSpec) (k := Rows.uptoSmall) rfl false ⟨#[], #[], []⟩ 8 (by kernel_rfl) (by kernel_rfl) (by kernel_rfl)
      (x := ([], [], [])) (by kernel_rfl) rfl (by kernel_rfl)) ?_
  intro W base args ds gs before hpos hval0 hW hk
  have hval : ∀ (j : Nat) t v, Tryz.f6.params[j]? = some t → args[j]? = some v → Value.okWide Tryz.prog W .any base t v := hval0
  have hW' := hW
  obtain ⟨p, q, hA0, hV, rfl, hfz, hnd⟩ := hW
  have hA : DataW.TrodAll enc Tryz.prog W 0 (fun _ => true) true Tryz.f6.params.toList args.toList ds p := hA0
  rw [Tryz.params6] at hA hval
  obtain ⟨rfl, rfl, rfl⟩ := trodAll_none hA
  obtain ⟨rfl, rfl⟩ := trodVars_none hV
  have hB := bulks.bound hk
  simp only [List.append_nil, List.nil_append, List.cons_append, Rows.uptoBulkAll] at hB
  clear hA0 hval0
  have hev : Ev tp 6 [] ⟨fun _ => none, 0, 0⟩ (fun r _ => r = .b true) := Pf.ev (aLe) (Nat.le_refl _) (.nil _)
  refine (RF bA1 tT (Checked.mixed Tryz.checked) (In.empty W) (args := []) (xs := #[]) .nil hev).mono fun e W' ⟨he, bel⟩ => ?_
  subst he
  exact ⟨_, rfl, _, _, _, [], _, [], hW', trodAll_mk1 (shut_bool Tryz.underlying4 _), trodAll_mk0, rfl, bel.frame _, fun h => by cases h⟩
theorem over : Rows.partNumbersUptoRow.holds Tryz.pinned (Rows.OpenSpec.upto Rows.partNumbersSpec) :=
  OpenClaim.holds_of_cond 6 Tryz.f6 rfl rfl rfl rfl rfl rfl rfl ⟨rfl, rfl, rfl, rfl, rfl⟩ rfl rfl rfl rfl rfl (by kernel_rfl) Tryz.func6 (by kernel_rfl)
    (of_decide_eq_true (by kernel_rfl)) (by unfold Func.isWrapper; first | (rw [if_pos (by decide +kernel)]; kernel_rfl) | (rw [if_neg (by decide +kernel)]; exact ⟨rfl, rfl⟩))
    (fun os started H enc _ F => lifted os started H enc F)
theorem proved : Rows.PartNumbersUptoSaid := over
#print axioms proved
end Go.Proofs.YtlcknhidblndnaaGreat.partNumbers
namespace Go.Proofs.YtlcknhidblndnaaGreat
/-- The row, under a short name, for the claim. -/
theorem partNumbers_holds : Rows.PartNumbersUptoSaid := partNumbers.proved
end Go.Proofs.YtlcknhidblndnaaGreat

