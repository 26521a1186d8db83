/- 'PartBlind' returns true for every input whose bulk is at most 1,048,576, and leaves its arguments as they were. Conditions: the bound of the second form. -/
import Derived.Test.YtlcknhidblndnaaGreatPL
import Derived.Test.YtlcknhidblndnaaGreatPK
import Derived.Test.YtlcknhidblndnaaGreatPJ
set_option linter.all false
namespace Go.Proofs.YtlcknhidblndnaaGreat.partBlind
open Go Go.Ab Go.Ab.T
open Go.ChangeShapes Go.WideShapes Go.ChangeAt Go.RowKit
open Go.ChangeMaps (open_string shut_string)
set_option linter.unusedVariables false
set_option linter.unusedSimpArgs false
theorem own : ownKnob Tryz.prog.godebug = none := by kernel_rfl
theorem laidOut : laidOutB Tryz.prog = true := by kernel_rfl
theorem pos : iS Tryz.prog = true := by kernel_rfl
set_option maxRecDepth 100000 in
theorem lifted (os : Os) (started : os.Started) (H : Type) (enc : TypeId × Value → H) (F : Stop.Interp) :
    ReturnsInHanded {} Tryz.checked os 3 .any ((Rows.OpenSpec.upto Rows.partBlindSpec).pre6 enc Tryz.prog Tryz.f3 Rows.partBlindUptoRow.domain false) (((Rows.OpenSpec.upto Rows.partBlindSpec).at F).post enc Tryz.prog Tryz.f3 false true false false) := by
  refine MM (C := Tryz.checked) (s := Rows.OpenSpec.upto Rows.partBlindSpec) (k := Rows.uptoSmall) rfl own started (by kernel_rfl) Tryz.func3 pos
    (OpenSpec.witness (enc := enc) (C := Tryz.checked) (s := Rows.OpenSpec.upto Rows.partBlindSpec) (k := Rows.uptoSmall) rfl false ⟨#[], #[.slice none 0 0, .int .i64 0, .slice none 0 0], []⟩ 8 (by kernel_rfl) (by kernel_rfl) (by kernel_rfl)
      (x := ([.nil, .lit (.int .i64 0), .nil], [], [])) (by kernel_rfl) rfl (by kernel_rfl)) ?_
  intro W base args ds gs before hpos hval0 hW hk
  have hval : ∀ (j : Nat) t v, Tryz.f3.params[j]? = some t → args[j]? = some v → Value.okWide Tryz.prog W .any base t v := hval0
  have hW' := hW
  obtain ⟨p, q, hA0, hV, rfl, hfz, hnd⟩ := hW
  have hA : DataW.TrodAll enc Tryz.prog W 0 (fun _ => true) true Tryz.f3.params.toList args.toList ds p := hA0
  rw [Tryz.params3] at hA hval
  obtain ⟨v0, vs0, d0, ds0, p0, q0, hargs, rfl, rfl, h0, r0⟩ := trodAll_cons hA
  obtain ⟨v1, vs1, d1, ds1, p1, q1, rfl, rfl, rfl, h1, r1⟩ := trodAll_cons r0
  obtain ⟨v2, vs2, d2, ds2, p2, q2, rfl, rfl, rfl, h2, r2⟩ := trodAll_cons r1
  obtain ⟨rfl, rfl, rfl⟩ := trodAll_nil r2
  obtain rfl : args = #[v0, v1, v2] := by cases args; simp_all
  obtain ⟨rfl, rfl⟩ := trodVars_none hV
  have hB := bulks.bound hk
  simp only [List.append_nil, List.nil_append, List.cons_append, Rows.uptoBulkAll] at hB
  obtain ⟨a0, len0, cap0, rfl⟩ := okWide_slice Tryz.underlying22 (hval 0 22 v0 rfl rfl)
  have k0 := h0
  have lt0 : ∀ x ∈ p0, x.block < W.heap.size := by obtain ⟨m, hm⟩ := k0; exact DataW.trod_lt m _ _ _ hm
  have bd0 : Rows.uptoBulk d0 ≤ 1048576 := by omega
  have sm0 : OY (.sl (.i .i64)) d0 := bulks.sml _ _ bd0
  obtain ⟨fu0, hf0⟩ := h0
  obtain ⟨M0, H0, vs0, I0, G0, R0, D0, _⟩ := take hpos (.sl (.i .i64)) _ _ _ _ ⟨fu0, 22, p0, JB 8 _ _ (by kernel_rfl), hf0⟩ (In.empty W) sm0
  obtain ⟨L0, x0, rfl, hb0, P0⟩ := VJ bulks.bk D0 bd0
  obtain ⟨a1, rfl, rfl, rfl, w1⟩ := open_int Tryz.underlying3 (hval 1 3 v1 rfl rfl) h1
  have b1 := aFP w1
  obtain ⟨a2, len2, cap2, rfl⟩ := okWide_slice Tryz.underlying23 (hval 2 23 v2 rfl rfl)
  have k2 := h2
  have lt2 : ∀ x ∈ p2, x.block < W.heap.size := by obtain ⟨m, hm⟩ := k2; exact DataW.trod_lt m _ _ _ hm
  have bd2 : Rows.uptoBulk d2 ≤ 1048576 := by omega
  have sm2 : OY (.sl (.i .u8)) d2 := bulks.sml _ _ bd2
  obtain ⟨fu2, hf2⟩ := h2
  obtain ⟨M2, H2, vs2, I2, G2, R2, D2, _⟩ := take hpos (.sl (.i .u8)) _ _ _ _ ⟨fu2, 23, p2, JB 8 _ _ (by kernel_rfl), hf2⟩ I0 sm2
  obtain ⟨L2, x2, rfl, hb2, P2⟩ := SK bulks.bk D2 bd2
  clear hA0 hval0
  have g0 : Gr M0 M2 H0 H2 := (Gr.refl M0 H0).trans G2
  have g2 : Gr M2 M2 H2 H2 := Gr.refl M2 H2
  have hev : Ev tp 3 [x0, .i .i64 a1, x2] H2 (fun r _ => r = .b true) := Pf.ev (Vm (by omega) hb2.1 (by have := hb2.2; omega)) (Nat.le_of_eq I2.lim) (.cons _ _ _ _ _ (PW.gr g0 P0) (.cons _ _ _ _ _ (.i _ _ _) (.cons _ _ _ _ _ (PW.gr g2 P2) (.nil _))))
  refine (Pk aSz gZ (Checked.mixed Tryz.checked) I2 (args := [x0, .i .i64 a1, x2]) (xs := #[.slice a0 len0 cap0, .int .i64 a1, .slice a2 len2 cap2]) (Bg.append (R0.keep g0.keeps) (.cons _ _ _ _ (.i _ _) (Bg.append (R2.keep g2.keeps) .nil))) hev).mono fun e W' ⟨he, bel⟩ => ?_
  subst he
  exact ⟨_, rfl, _, _, _, [], _, [], hW', trodAll_mk1 (shut_bool Tryz.underlying4 _), (trodAll_cons_mk (Below.trod laidOut (by kernel_rfl) (of_decide_eq_true (by kernel_rfl)) k0 bel lt0) (trodAll_cons_mk (shut_int Tryz.underlying3 w1) (trodAll_cons_mk (Below.trod laidOut (by kernel_rfl) (of_decide_eq_true (by kernel_rfl)) k2 bel lt2) trodAll_mk0))), rfl, bel.frame _, fun h => by cases h⟩
theorem over : Rows.partBlindUptoRow.holds Tryz.pinned (Rows.OpenSpec.upto Rows.partBlindSpec) :=
  OpenClaim.holds_of_cond 3 Tryz.f3 rfl rfl rfl rfl rfl rfl rfl ⟨rfl, rfl, rfl, rfl, rfl⟩ rfl rfl rfl rfl rfl (by kernel_rfl) Tryz.func3 (by kernel_rfl)
    (of_decide_eq_true (by kernel_rfl)) (by unfold Func.isWrapper; first | (rw [if_pos (by decide +kernel)]; kernel_rfl) | (rw [if_neg (by decide +kernel)]; exact ⟨rfl, rfl⟩))
    (fun os started H enc _ F => lifted os started H enc F)
theorem proved : Rows.PartBlindUptoSaid := over
#print axioms proved
end Go.Proofs.YtlcknhidblndnaaGreat.partBlind
namespace Go.Proofs.YtlcknhidblndnaaGreat
/-- The row, under a short name, for the claim. -/
theorem partBlind_holds : Rows.PartBlindUptoSaid := partBlind.proved
end Go.Proofs.YtlcknhidblndnaaGreat

