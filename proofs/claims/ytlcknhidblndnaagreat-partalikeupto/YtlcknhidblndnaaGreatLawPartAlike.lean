/- 'PartAlike' returns true for every input whose bulk is at most 1,048,576, and leaves its arguments as they were. Conditions: the bound of the second form. -/
import Derived.Test.YtlcknhidblndnaaGreatPL
import Derived.Test.YtlcknhidblndnaaGreatPK
import Derived.Test.YtlcknhidblndnaaGreatPJ
set_option linter.all false
namespace Go.Proofs.YtlcknhidblndnaaGreat.partAlike
open Go Go.Ab Go.Ab.T
open Go.ChangeShapes Go.WideShapes Go.ChangeAt Go.RowKit
open Go.ChangeMaps (open_string shut_string)
set_option linter.unusedVariables false
set_option linter.unusedSimpArgs false
theorem own : ownKnob Tryz.prog.godebug = none := by kernel_rfl
theorem laidOut : laidOutB Tryz.prog = true := by kernel_rfl
theorem pos : iP Tryz.prog = true := by kernel_rfl
set_option maxRecDepth 100000 in
theorem lifted (os : Os) (started : os.Started) (H : Type) (enc : TypeId × Value → H) (F : Stop.Interp) :
    ReturnsInHanded {} Tryz.checked os 5 .any ((Rows.OpenSpec.upto Rows.partAlikeSpec).pre6 enc Tryz.prog Tryz.f5 Rows.partAlikeUptoRow.domain false) (((Rows.OpenSpec.upto Rows.partAlikeSpec).at F).post enc Tryz.prog Tryz.f5 false true false false) := by
  refine MM (C := Tryz.checked) (s := Rows.OpenSpec.upto Rows.partAlikeSpec) (k := Rows.uptoSmall) rfl own started (by kernel_rfl) Tryz.func5 pos
    (OpenSpec.witness (enc := enc) (C := Tryz.checked) (s := Rows.OpenSpec.upto Rows.partAlikeSpec) (k := Rows.uptoSmall) rfl false ⟨#[], #[.slice none 0 0, .int .i64 0, .int .i64 0, .int .i64 0], []⟩ 8 (by kernel_rfl) (by kernel_rfl) (by kernel_rfl)
      (x := ([.nil, .lit (.int .i64 0), .lit (.int .i64 0), .lit (.int .i64 0)], [], [])) (by kernel_rfl) rfl (by kernel_rfl)) ?_
  intro W base args ds gs before hpos hval0 hW hk
  have hval : ∀ (j : Nat) t v, Tryz.f5.params[j]? = some t → args[j]? = some v → Value.okWide Tryz.prog W .any base t v := hval0
  have hW' := hW
  obtain ⟨p, q, hA0, hV, rfl, hfz, hnd⟩ := hW
  have hA : DataW.TrodAll enc Tryz.prog W 0 (fun _ => true) true Tryz.f5.params.toList args.toList ds p := hA0
  rw [Tryz.params5] at hA hval
  obtain ⟨v0, vs0, d0, ds0, p0, q0, hargs, rfl, rfl, h0, r0⟩ := trodAll_cons hA
  obtain ⟨v1, vs1, d1, ds1, p1, q1, rfl, rfl, rfl, h1, r1⟩ := trodAll_cons r0
  obtain ⟨v2, vs2, d2, ds2, p2, q2, rfl, rfl, rfl, h2, r2⟩ := trodAll_cons r1
  obtain ⟨v3, vs3, d3, ds3, p3, q3, rfl, rfl, rfl, h3, r3⟩ := trodAll_cons r2
  obtain ⟨rfl, rfl, rfl⟩ := trodAll_nil r3
  obtain rfl : args = #[v0, v1, v2, v3] := by cases args; simp_all
  obtain ⟨rfl, rfl⟩ := trodVars_none hV
  have hB := bulks.bound hk
  simp only [List.append_nil, List.nil_append, List.cons_append, Rows.uptoBulkAll] at hB
  obtain ⟨a0, len0, cap0, rfl⟩ := okWide_slice Tryz.underlying22 (hval 0 22 v0 rfl rfl)
  have k0 := h0
  have lt0 : ∀ x ∈ p0, x.block < W.heap.size := by obtain ⟨m, hm⟩ := k0; exact DataW.trod_lt m _ _ _ hm
  have bd0 : Rows.uptoBulk d0 ≤ 1048576 := by omega
  have sm0 : O8 (.sl (.i .i64)) d0 := bulks.sml _ _ bd0
  obtain ⟨fu0, hf0⟩ := h0
  obtain ⟨M0, H0, vs0, I0, G0, R0, D0, _⟩ := take hpos (.sl (.i .i64)) _ _ _ _ ⟨fu0, 22, p0, L9 8 _ _ (by kernel_rfl), hf0⟩ (In.empty W) sm0
  obtain ⟨L0, x0, rfl, hb0, P0⟩ := VJ bulks.bk D0 bd0
  obtain ⟨a1, rfl, rfl, rfl, w1⟩ := open_int Tryz.underlying3 (hval 1 3 v1 rfl rfl) h1
  have b1 := QO w1
  obtain ⟨a2, rfl, rfl, rfl, w2⟩ := open_int Tryz.underlying3 (hval 2 3 v2 rfl rfl) h2
  have b2 := QO w2
  obtain ⟨a3, rfl, rfl, rfl, w3⟩ := open_int Tryz.underlying3 (hval 3 3 v3 rfl rfl) h3
  have b3 := QO w3
  clear hA0 hval0
  have g0 : Gr M0 M0 H0 H0 := Gr.refl M0 H0
  have hev : Ev tp 5 [x0, .i .i64 a1, .i .i64 a2, .i .i64 a3] H0 (fun r _ => r = .b true) := Pf.ev (Vg (by omega)) (Nat.le_of_eq I0.lim) (.cons _ _ _ _ _ (PW.gr g0 P0) (.cons _ _ _ _ _ (.i _ _ _) (.cons _ _ _ _ _ (.i _ _ _) (.cons _ _ _ _ _ (.i _ _ _) (.nil _)))))
  refine (Pk aSx gX (Checked.mixed Tryz.checked) I0 (args := [x0, .i .i64 a1, .i .i64 a2, .i .i64 a3]) (xs := #[.slice a0 len0 cap0, .int .i64 a1, .int .i64 a2, .int .i64 a3]) (Bg.append (R0.keep g0.keeps) (.cons _ _ _ _ (.i _ _) (.cons _ _ _ _ (.i _ _) (.cons _ _ _ _ (.i _ _) .nil)))) hev).mono fun e W' ⟨he, bel⟩ => ?_
  subst he
  exact ⟨_, rfl, _, _, _, [], _, [], hW', trodAll_mk1 (shut_bool Tryz.underlying4 _), (trodAll_cons_mk (Below.trod laidOut (by kernel_rfl) (of_decide_eq_true (by kernel_rfl)) k0 bel lt0) (trodAll_cons_mk (shut_int Tryz.underlying3 w1) (trodAll_cons_mk (shut_int Tryz.underlying3 w2) (trodAll_cons_mk (shut_int Tryz.underlying3 w3) trodAll_mk0)))), rfl, bel.frame _, fun h => by cases h⟩
theorem over : Rows.partAlikeUptoRow.holds Tryz.pinned (Rows.OpenSpec.upto Rows.partAlikeSpec) :=
  OpenClaim.holds_of_cond 5 Tryz.f5 rfl rfl rfl rfl rfl rfl rfl ⟨rfl, rfl, rfl, rfl, rfl⟩ rfl rfl rfl rfl rfl (by kernel_rfl) Tryz.func5 (by kernel_rfl)
    (of_decide_eq_true (by kernel_rfl)) (by unfold Func.isWrapper; first | (rw [if_pos (by decide +kernel)]; kernel_rfl) | (rw [if_neg (by decide +kernel)]; exact ⟨rfl, rfl⟩))
    (fun os started H enc _ F => lifted os started H enc F)
theorem proved : Rows.PartAlikeUptoSaid := over
#print axioms proved
end Go.Proofs.YtlcknhidblndnaaGreat.partAlike
namespace Go.Proofs.YtlcknhidblndnaaGreat
/-- The row, under a short name, for the claim. -/
theorem partAlike_holds : Rows.PartAlikeUptoSaid := partAlike.proved
end Go.Proofs.YtlcknhidblndnaaGreat

