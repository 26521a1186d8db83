/- 'PartReckons' returns true for every input whose bulk is at most 1,048,576, and leaves its arguments as they were. Conditions: the bound of the second form. -/
import Derived.Test.YtlcknhidblndnaaGreatPJ
import Derived.Test.YtlcknhidblndnaaGreatPI
import Derived.Test.YtlcknhidblndnaaGreatPH
set_option linter.all false
namespace Go.Proofs.YtlcknhidblndnaaGreat.partReckons
open Go Go.Ab Go.Ab.T
open Go.ChangeShapes Go.WideShapes Go.ChangeAt Go.RowKit
open Go.ChangeMaps (open_string shut_string)
set_option linter.unusedVariables false
set_option linter.unusedSimpArgs false
theorem own : ownKnob Tryz.prog.godebug = none := by kernel_rfl
theorem pos : W3 Tryz.prog = true := by kernel_rfl
set_option maxRecDepth 100000 in
theorem lifted (os : Os) (started : os.Started) (H : Type) (enc : TypeId × Value → H) (F : Stop.Interp) :
    ReturnsInHanded {} Tryz.checked os 9 .any ((Rows.OpenSpec.upto Rows.partReckonsSpec).pre6 enc Tryz.prog Tryz.f9 Rows.partReckonsUptoRow.domain false) (((Rows.OpenSpec.upto Rows.partReckonsSpec).at F).post enc Tryz.prog Tryz.f9 false true false false) := by
  refine JY (C := Tryz.checked) (s := Rows.OpenSpec.upto Rows.partReckonsSpec) (k := Rows.uptoSmall) rfl own started (by kernel_rfl) Tryz.func9 pos
    (OpenSpec.witness (enc := enc) (C := Tryz.checked) (s := Rows.OpenSpec.upto Rows.partReckonsSpec) (k := Rows.uptoSmall) rfl false ⟨#[], #[.int .u32 0, .int .u32 0, .int .i64 0], []⟩ 8 (by kernel_rfl) (by kernel_rfl) (by kernel_rfl)
      (x := ([.lit (.int .u32 0), .lit (.int .u32 0), .lit (.int .i64 0)], [], [])) (by kernel_rfl) rfl (by kernel_rfl)) ?_
  intro W base args ds gs before hpos hval0 hW hk
  have hval : ∀ (j : Nat) t v, Tryz.f9.params[j]? = some t → args[j]? = some v → Value.okWide Tryz.prog W .any base t v := hval0
  have hW' := hW
  obtain ⟨p, q, hA0, hV, rfl, hfz, hnd⟩ := hW
  have hA : DataW.TrodAll enc Tryz.prog W 0 (fun _ => true) true Tryz.f9.params.toList args.toList ds p := hA0
  rw [Tryz.params9] at hA hval
  obtain ⟨v0, vs0, d0, ds0, p0, q0, hargs, rfl, rfl, h0, r0⟩ := trodAll_cons hA
  obtain ⟨v1, vs1, d1, ds1, p1, q1, rfl, rfl, rfl, h1, r1⟩ := trodAll_cons r0
  obtain ⟨v2, vs2, d2, ds2, p2, q2, rfl, rfl, rfl, h2, r2⟩ := trodAll_cons r1
  obtain ⟨rfl, rfl, rfl⟩ := trodAll_nil r2
  obtain rfl : args = #[v0, v1, v2] := by cases args; simp_all
  obtain ⟨rfl, rfl⟩ := trodVars_none hV
  have hB := bulks.bound hk
  simp only [List.append_nil, List.nil_append, List.cons_append, Rows.uptoBulkAll] at hB
  obtain ⟨a0, rfl, rfl, rfl, w0⟩ := open_int Tryz.underlying40 (hval 0 40 v0 rfl rfl) h0
  have b0 := Uj w0
  obtain ⟨a1, rfl, rfl, rfl, w1⟩ := open_int Tryz.underlying40 (hval 1 40 v1 rfl rfl) h1
  have b1 := Uj w1
  obtain ⟨a2, rfl, rfl, rfl, w2⟩ := open_int Tryz.underlying3 (hval 2 3 v2 rfl rfl) h2
  have b2 := oF w2
  clear hA0 hval0
  have hev : Ev tp 9 [.i .u32 a0, .i .u32 a1, .i .i64 a2] ⟨fun _ => none, 0, 0⟩ (fun r _ => r = .b true) := Pf.ev (MF (by have := b0; omega) (by have := b1; omega)) (Nat.le_refl _) (.cons _ _ _ _ _ (.i _ _ _) (.cons _ _ _ _ _ (.i _ _ _) (.cons _ _ _ _ _ (.i _ _ _) (.nil _))))
  refine (L0 aGd WG (Checked.mixed Tryz.checked) (In.empty W) (args := [.i .u32 a0, .i .u32 a1, .i .i64 a2]) (xs := #[.int .u32 a0, .int .u32 a1, .int .i64 a2]) (.cons _ _ _ _ (.i _ _) (.cons _ _ _ _ (.i _ _) (.cons _ _ _ _ (.i _ _) .nil))) hev).mono fun e W' ⟨he, bel⟩ => ?_
  subst he
  exact ⟨_, rfl, _, _, _, [], _, [], hW', trodAll_mk1 (shut_bool Tryz.underlying4 _), (trodAll_cons_mk (shut_int Tryz.underlying40 w0) (trodAll_cons_mk (shut_int Tryz.underlying40 w1) (trodAll_cons_mk (shut_int Tryz.underlying3 w2) trodAll_mk0))), rfl, bel.frame _, fun h => by cases h⟩
theorem over : Rows.partReckonsUptoRow.holds Tryz.pinned (Rows.OpenSpec.upto Rows.partReckonsSpec) :=
  OpenClaim.holds_of_cond 9 Tryz.f9 rfl rfl rfl rfl rfl rfl rfl ⟨rfl, rfl, rfl, rfl, rfl⟩ rfl rfl rfl rfl rfl (by kernel_rfl) Tryz.func9 (by kernel_rfl)
    (of_decide_eq_true (by kernel_rfl)) (by unfold Func.isWrapper; first | (rw [if_pos (by decide +kernel)]; kernel_rfl) | (rw [if_neg (by decide +kernel)]; exact ⟨rfl, rfl⟩))
    (fun os started H enc _ F => lifted os started H enc F)
theorem proved : Rows.PartReckonsUptoSaid := over
#print axioms proved
end Go.Proofs.YtlcknhidblndnaaGreat.partReckons
namespace Go.Proofs.YtlcknhidblndnaaGreat
/-- The row, under a short name, for the claim. -/
theorem partReckons_holds : Rows.PartReckonsUptoSaid := partReckons.proved
end Go.Proofs.YtlcknhidblndnaaGreat

