/- 'ConfigNumbers' returns true for every input whose bulk is at most 1,048,576, and leaves its arguments as they were. Conditions: the bound of the second form. -/
import Derived.Test.YtjjebbijkcknbaaRows
import Derived.Test.YtjjebbijkcknbaaPL
import Derived.Test.YtjjebbijkcknbaaPM
import Derived.Test.YtjjebbijkcknbaaPJ
set_option linter.all false
namespace Go.Proofs.Ytjjebbijkcknbaa.configNumbers
open Go Go.Ab Go.Ab.T
open Go.ChangeShapes Go.WideShapes Go.ChangeAt Go.RowKit
open Go.ChangeMaps (open_string shut_string)
set_option linter.unusedVariables false
set_option linter.unusedSimpArgs false
theorem own : ownKnob Try.prog.godebug = none := by kernel_rfl
theorem pos : posB Try.prog = true := by kernel_rfl
set_option maxRecDepth 100000 in
theorem lifted (os : Os) (started : os.Started) (H : Type) (enc : TypeId × Value → H) (F : Stop.Interp) :
    ReturnsInHanded {} Try.checked os 3 .any ((Rows.OpenSpec.upto Rows.configNumbersSpec).pre6 enc Try.prog Try.f3 Rows.configNumbersUptoRow.domain false) (((Rows.OpenSpec.upto Rows.configNumbersSpec).at F).post enc Try.prog Try.f3 false true false false) := by
  refine handed_cond (C := Try.checked) (s := Rows.OpenSpec.upto Rows.configNumbersSpec) (k := Rows.uptoSmall) rfl own started (by kernel_rfl) Try.func3 pos
    (OpenSpec.witness (enc := enc) (C := Try.checked) (s := Rows.OpenSpec.upto Rows.configNumbersSpec) (k := Rows.uptoSmall) rfl false ⟨#[], #[], []⟩ 8 (by kernel_rfl) (by kernel_rfl) (by kernel_rfl)
      (x := ([], [], [])) (by kernel_rfl) rfl (by kernel_rfl)) ?_
  intro W base args ds gs before hpos hval0 hW hk
  have hval : ∀ (j : Nat) t v, Try.f3.params[j]? = some t → args[j]? = some v → Value.okWide Try.prog W .any base t v := hval0
  have hW' := hW
  obtain ⟨p, q, hA0, hV, rfl, hfz, hnd⟩ := hW
  have hA : DataW.TrodAll enc Try.prog W 0 (fun _ => true) true Try.f3.params.toList args.toList ds p := hA0
  rw [Try.params3] at hA hval
  obtain ⟨rfl, rfl, rfl⟩ := trodAll_none hA
  obtain ⟨rfl, rfl⟩ := trodVars_none hV
  have hB := bulks.bound hk
  simp only [List.append_nil, List.nil_append, List.cons_append, Rows.uptoBulkAll] at hB
  clear hA0 hval0
  have hev : Ev tp 3 [] ⟨fun _ => none, 0, 0⟩ (fun r _ => r = .b true) := Pf.ev (configNumbers_ev) (Nat.le_refl _) (.nil _)
  refine (calls_bool tpOk methsOk (Checked.mixed Try.checked) (In.empty W) (args := []) (xs := #[]) .nil hev).mono fun e W' ⟨he, bel⟩ => ?_
  subst he
  exact ⟨_, rfl, _, _, _, [], _, [], hW', trodAll_mk1 (shut_bool Try.underlying4 _), trodAll_mk0, rfl, bel.frame _, fun h => by cases h⟩
theorem over : Rows.configNumbersUptoRow.holds Try.pinned (Rows.OpenSpec.upto Rows.configNumbersSpec) :=
  OpenClaim.holds_of_cond 3 Try.f3 rfl rfl rfl rfl rfl rfl rfl ⟨rfl, rfl, rfl, rfl, rfl⟩ rfl rfl rfl rfl rfl (by kernel_rfl) Try.func3 (by kernel_rfl)
    (of_decide_eq_true (by kernel_rfl)) (by unfold Func.isWrapper; first | (rw [if_pos (by decide +kernel)]; kernel_rfl) | (rw [if_neg (by decide +kernel)]; exact ⟨rfl, rfl⟩))
    (fun os started H enc _ F => lifted os started H enc F)
theorem proved : Rows.ConfigNumbersUptoSaid := over
#print axioms proved
end Go.Proofs.Ytjjebbijkcknbaa.configNumbers
namespace Go.Proofs.Ytjjebbijkcknbaa
/-- The row, under a short name, for the claim. -/
theorem configNumbers_holds : Rows.ConfigNumbersUptoSaid := configNumbers.proved
end Go.Proofs.Ytjjebbijkcknbaa

