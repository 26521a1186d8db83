/- 'ConfigTells' returns true for every input whose bulk is at most 1,048,576, and leaves its arguments as they were. Conditions: the bound of the second form. -/
import Derived.Test.YtjjebbijkcknbaaRows
import Derived.Test.YtjjebbijkcknbaaPL
import Derived.Test.YtjjebbijkcknbaaPM
import Derived.Test.YtjjebbijkcknbaaPJ
set_option linter.all false
namespace Go.Proofs.Ytjjebbijkcknbaa.configTells
open Go Go.Ab Go.Ab.T
open Go.ChangeShapes Go.WideShapes Go.ChangeAt Go.RowKit
open Go.ChangeMaps (open_string shut_string)
set_option linter.unusedVariables false
set_option linter.unusedSimpArgs false
theorem own : ownKnob Try.prog.godebug = none := by kernel_rfl
theorem laidOut : laidOutB Try.prog = true := by kernel_rfl
theorem pos : posB Try.prog = true := by kernel_rfl
set_option maxRecDepth 100000 in
theorem lifted (os : Os) (started : os.Started) (H : Type) (enc : TypeId × Value → H) (F : Stop.Interp) :
    ReturnsInHanded {} Try.checked os 4 .any ((Rows.OpenSpec.upto Rows.configTellsSpec).pre6 enc Try.prog Try.f4 Rows.configTellsUptoRow.domain false) (((Rows.OpenSpec.upto Rows.configTellsSpec).at F).post enc Try.prog Try.f4 false true false false) := by
  refine handed_cond (C := Try.checked) (s := Rows.OpenSpec.upto Rows.configTellsSpec) (k := Rows.uptoSmall) rfl own started (by kernel_rfl) Try.func4 pos
    (OpenSpec.witness (enc := enc) (C := Try.checked) (s := Rows.OpenSpec.upto Rows.configTellsSpec) (k := Rows.uptoSmall) rfl false ⟨#[], #[.slice none 0 0, .int .i64 0, .int .i64 0, .int .i64 0, .int .i64 0, .agg #[.slice none 0 0, .slice none 0 0, .slice none 0 0], .string ByteArray.empty], []⟩ 8 (by kernel_rfl) (by kernel_rfl) (by kernel_rfl)
      (x := ([.nil, .lit (.int .i64 0), .lit (.int .i64 0), .lit (.int .i64 0), .lit (.int .i64 0), .agg [.nil, .nil, .nil], .lit (.string [])], [], [])) (by kernel_rfl) rfl (by kernel_rfl)) ?_
  intro W base args ds gs before hpos hval0 hW hk
  have hval : ∀ (j : Nat) t v, Try.f4.params[j]? = some t → args[j]? = some v → Value.okWide Try.prog W .any base t v := hval0
  have hW' := hW
  obtain ⟨p, q, hA0, hV, rfl, hfz, hnd⟩ := hW
  have hA : DataW.TrodAll enc Try.prog W 0 (fun _ => true) true Try.f4.params.toList args.toList ds p := hA0
  rw [Try.params4] at hA hval
  obtain ⟨v0, vs0, d0, ds0, p0, q0, hargs, rfl, rfl, h0, r0⟩ := trodAll_cons hA
  obtain ⟨v1, vs1, d1, ds1, p1, q1, rfl, rfl, rfl, h1, r1⟩ := trodAll_cons r0
  obtain ⟨v2, vs2, d2, ds2, p2, q2, rfl, rfl, rfl, h2, r2⟩ := trodAll_cons r1
  obtain ⟨v3, vs3, d3, ds3, p3, q3, rfl, rfl, rfl, h3, r3⟩ := trodAll_cons r2
  obtain ⟨v4, vs4, d4, ds4, p4, q4, rfl, rfl, rfl, h4, r4⟩ := trodAll_cons r3
  obtain ⟨v5, vs5, d5, ds5, p5, q5, rfl, rfl, rfl, h5, r5⟩ := trodAll_cons r4
  obtain ⟨v6, vs6, d6, ds6, p6, q6, rfl, rfl, rfl, h6, r6⟩ := trodAll_cons r5
  obtain ⟨rfl, rfl, rfl⟩ := trodAll_nil r6
  obtain rfl : args = #[v0, v1, v2, v3, v4, v5, v6] := by cases args; simp_all
  obtain ⟨rfl, rfl⟩ := trodVars_none hV
  have hB := bulks.bound hk
  simp only [List.append_nil, List.nil_append, List.cons_append, Rows.uptoBulkAll] at hB
  obtain ⟨a0, len0, cap0, rfl⟩ := okWide_slice Try.underlying28 (hval 0 28 v0 rfl rfl)
  have k0 := h0
  have lt0 : ∀ x ∈ p0, x.block < W.heap.size := by obtain ⟨m, hm⟩ := k0; exact DataW.trod_lt m _ _ _ hm
  have bd0 : Rows.uptoBulk d0 ≤ 1048576 := by omega
  have sm0 : Sml (.sl (.i .i64)) d0 := bulks.sml _ _ bd0
  obtain ⟨fu0, hf0⟩ := h0
  obtain ⟨M0, H0, vs0, I0, G0, R0, D0, _⟩ := take hpos (.sl (.i .i64)) _ _ _ _ ⟨fu0, 28, p0, shB_ok 8 _ _ (by kernel_rfl), hf0⟩ (In.empty W) sm0
  obtain ⟨L0, x0, rfl, hb0, P0⟩ := dec_ints bulks.bk D0 bd0
  obtain ⟨a1, rfl, rfl, rfl, w1⟩ := open_int Try.underlying3 (hval 1 3 v1 rfl rfl) h1
  have b1 := wf_i64 w1
  obtain ⟨a2, rfl, rfl, rfl, w2⟩ := open_int Try.underlying3 (hval 2 3 v2 rfl rfl) h2
  have b2 := wf_i64 w2
  obtain ⟨a3, rfl, rfl, rfl, w3⟩ := open_int Try.underlying2 (hval 3 2 v3 rfl rfl) h3
  have b3 := wf_i64 w3
  obtain ⟨a4, rfl, rfl, rfl, w4⟩ := open_int Try.underlying2 (hval 4 2 v4 rfl rfl) h4
  have b4 := wf_i64 w4
  obtain ⟨cs5, rfl, _⟩ := okWide_struct Try.underlying26 (hval 5 26 v5 rfl rfl)
  have k5 := h5
  have lt5 : ∀ x ∈ p5, x.block < W.heap.size := by obtain ⟨m, hm⟩ := k5; exact DataW.trod_lt m _ _ _ hm
  have bd5 : Rows.uptoBulk d5 ≤ 1048576 := by omega
  have sm5 : Sml shConf d5 := bulks.sml _ _ bd5
  obtain ⟨fu5, hf5⟩ := h5
  obtain ⟨M5, H5, vs5, I5, G5, R5, D5, _⟩ := take hpos shConf _ _ _ _ ⟨fu5, 26, p5, shB_ok 8 _ _ (by kernel_rfl), hf5⟩ I0 sm5
  obtain ⟨C5, nm5, P5⟩ := dec_conf bulks.bk D5 bd5
  obtain ⟨s6, rfl, rfl, rfl, ml6⟩ := open_string Try.underlying9 (hval 6 9 v6 rfl rfl) h6
  have hs6 : s6.size ≤ 1048576 := by have h1 : (s6.data.toList).length = s6.size := by rw [Array.length_toList]; rfl
                                     have h2 := (bulks.bk (H := H)).st s6.data.toList
                                     omega
  clear hA0 hval0
  have g0 : Gr M0 M5 H0 H5 := (Gr.refl M0 H0).trans G5
  have g5 : Gr M5 M5 H5 H5 := Gr.refl M5 H5
  have hev : Ev tp 4 [x0, .i .i64 a1, .i .i64 a2, .i .i64 a3, .i .i64 a4, .agg vs5, .s s6] H5 (fun r _ => r = .b true) := Pf.ev (configTells_ev (by omega) nm5 (by omega)) (Nat.le_of_eq I5.lim) (.cons _ _ _ _ _ (PW.gr g0 P0) (.cons _ _ _ _ _ (.i _ _ _) (.cons _ _ _ _ _ (.i _ _ _) (.cons _ _ _ _ _ (.i _ _ _) (.cons _ _ _ _ _ (.i _ _ _) (.cons _ _ _ _ _ (.agg _ _ _ (PWs.gr g5 P5)) (.cons _ _ _ _ _ (.s _ _) (.nil _))))))))
  refine (calls_bool tpOk methsOk (Checked.mixed Try.checked) I5 (args := [x0, .i .i64 a1, .i .i64 a2, .i .i64 a3, .i .i64 a4, .agg vs5, .s s6]) (xs := #[.slice a0 len0 cap0, .int .i64 a1, .int .i64 a2, .int .i64 a3, .int .i64 a4, .agg cs5, .string s6]) (VRs.append (R0.keep g0.keeps) (.cons _ _ _ _ (.i _ _) (.cons _ _ _ _ (.i _ _) (.cons _ _ _ _ (.i _ _) (.cons _ _ _ _ (.i _ _) (.cons _ _ _ _ (.agg _ _ (R5.keep g5.keeps)) (.cons _ _ _ _ (.s _) .nil))))))) hev).mono fun e W' ⟨he, bel⟩ => ?_
  subst he
  exact ⟨_, rfl, _, _, _, [], _, [], hW', trodAll_mk1 (shut_bool Try.underlying4 _), (trodAll_cons_mk (Below.trod laidOut (by kernel_rfl) (of_decide_eq_true (by kernel_rfl)) k0 bel lt0) (trodAll_cons_mk (shut_int Try.underlying3 w1) (trodAll_cons_mk (shut_int Try.underlying3 w2) (trodAll_cons_mk (shut_int Try.underlying2 w3) (trodAll_cons_mk (shut_int Try.underlying2 w4) (trodAll_cons_mk (Below.trod laidOut (by kernel_rfl) (of_decide_eq_true (by kernel_rfl)) k5 bel lt5) (trodAll_cons_mk (shut_string Try.underlying9 ml6) trodAll_mk0))))))), rfl, bel.frame _, fun h => by cases h⟩
theorem over : Rows.configTellsUptoRow.holds Try.pinned (Rows.OpenSpec.upto Rows.configTellsSpec) :=
  OpenClaim.holds_of_cond 4 Try.f4 rfl rfl rfl rfl rfl rfl rfl ⟨rfl, rfl, rfl, rfl, rfl⟩ rfl rfl rfl rfl rfl (by kernel_rfl) Try.func4 (by kernel_rfl)
    (of_decide_eq_true (by kernel_rfl)) (by unfold Func.isWrapper; first | (rw [if_pos (by decide +kernel)]; kernel_rfl) | (rw [if_neg (by decide +kernel)]; exact ⟨rfl, rfl⟩))
    (fun os started H enc _ F => lifted os started H enc F)
theorem proved : Rows.ConfigTellsUptoSaid := over
#print axioms proved
end Go.Proofs.Ytjjebbijkcknbaa.configTells
namespace Go.Proofs.Ytjjebbijkcknbaa
/-- The row, under a short name, for the claim. -/
theorem configTells_holds : Rows.ConfigTellsUptoSaid := configTells.proved
end Go.Proofs.Ytjjebbijkcknbaa

