/- 'PartRestarts' returns true for every input whose bulk is at most 1,048,576, and leaves its arguments as they were. Conditions: the bound of the second form. -/
import Derived.Test.YtlcknhidblndnaaGreatPL
import Derived.Test.YtlcknhidblndnaaGreatPK
import Derived.Test.YtlcknhidblndnaaGreatPJ
import Derived.Test.YtlcknhidblndnaaGreatPI
set_option linter.all false
namespace Go.Proofs.YtlcknhidblndnaaGreat.partRestarts
open Go Go.Ab Go.Ab.T
open Go.ChangeShapes Go.WideShapes Go.ChangeAt Go.RowKit
open Go.ChangeMaps (open_string shut_string)
set_option linter.unusedVariables false
set_option linter.unusedSimpArgs false
theorem own : ownKnob Tryz.prog.godebug = none := by kernel_rfl
theorem laidOut : laidOutB Tryz.prog = true := by kernel_rfl
theorem pos : iC Tryz.prog = true := by kernel_rfl
set_option maxRecDepth 100000 in
theorem lifted (os : Os) (started : os.Started) (H : Type) (enc : TypeId × Value → H) (F : Stop.Interp) :
    ReturnsInHanded {} Tryz.checked os 8 .any ((Rows.OpenSpec.upto Rows.partRestartsSpec).pre6 enc Tryz.prog Tryz.f8 Rows.partRestartsUptoRow.domain false) (((Rows.OpenSpec.upto Rows.partRestartsSpec).at F).post enc Tryz.prog Tryz.f8 false true false false) := by
  refine My (C := Tryz.checked) (s := Rows.OpenSpec.upto Rows.partRestartsSpec) (k := Rows.uptoSmall) rfl own started (by kernel_rfl) Tryz.func8 pos
    (OpenSpec.witness (enc := enc) (C := Tryz.checked) (s := Rows.OpenSpec.upto Rows.partRestartsSpec) (k := Rows.uptoSmall) rfl false ⟨#[], #[.slice none 0 0, .slice none 0 0], []⟩ 8 (by kernel_rfl) (by kernel_rfl) (by kernel_rfl)
      (x := ([.nil, .nil], [], [])) (by kernel_rfl) rfl (by kernel_rfl)) ?_
  intro W base args ds gs before hpos hval0 hW hk
  have hval : ∀ (j : Nat) t v, Tryz.f8.params[j]? = some t → args[j]? = some v → Value.okWide Tryz.prog W .any base t v := hval0
  have hW' := hW
  obtain ⟨p, q, hA0, hV, rfl, hfz, hnd⟩ := hW
  have hA : DataW.TrodAll enc Tryz.prog W 0 (fun _ => true) true Tryz.f8.params.toList args.toList ds p := hA0
  rw [Tryz.params8] at hA hval
  obtain ⟨v0, vs0, d0, ds0, p0, q0, hargs, rfl, rfl, h0, r0⟩ := trodAll_cons hA
  obtain ⟨v1, vs1, d1, ds1, p1, q1, rfl, rfl, rfl, h1, r1⟩ := trodAll_cons r0
  obtain ⟨rfl, rfl, rfl⟩ := trodAll_nil r1
  obtain rfl : args = #[v0, v1] := by cases args; simp_all
  obtain ⟨rfl, rfl⟩ := trodVars_none hV
  have hB := bulks.bound hk
  simp only [List.append_nil, List.nil_append, List.cons_append, Rows.uptoBulkAll] at hB
  obtain ⟨a0, len0, cap0, rfl⟩ := okWide_slice Tryz.underlying22 (hval 0 22 v0 rfl rfl)
  have k0 := h0
  have lt0 : ∀ x ∈ p0, x.block < W.heap.size := by obtain ⟨m, hm⟩ := k0; exact DataW.trod_lt m _ _ _ hm
  have bd0 : Rows.uptoBulk d0 ≤ 1048576 := by omega
  have sm0 : OO (.sl (.i .i64)) d0 := bulks.sml _ _ bd0
  obtain ⟨fu0, hf0⟩ := h0
  obtain ⟨M0, H0, vs0, I0, G0, R0, D0, _⟩ := take hpos (.sl (.i .i64)) _ _ _ _ ⟨fu0, 22, p0, Jz 8 _ _ (by kernel_rfl), hf0⟩ (In.empty W) sm0
  obtain ⟨L0, x0, rfl, hb0, P0⟩ := Vx bulks.bk D0 bd0
  obtain ⟨a1, len1, cap1, rfl⟩ := okWide_slice Tryz.underlying23 (hval 1 23 v1 rfl rfl)
  have k1 := h1
  have lt1 : ∀ x ∈ p1, x.block < W.heap.size := by obtain ⟨m, hm⟩ := k1; exact DataW.trod_lt m _ _ _ hm
  have bd1 : Rows.uptoBulk d1 ≤ 1048576 := by omega
  have sm1 : OO (.sl (.i .u8)) d1 := bulks.sml _ _ bd1
  obtain ⟨fu1, hf1⟩ := h1
  obtain ⟨M1, H1, vs1, I1, G1, R1, D1, _⟩ := take hpos (.sl (.i .u8)) _ _ _ _ ⟨fu1, 23, p1, Jz 8 _ _ (by kernel_rfl), hf1⟩ I0 sm1
  obtain ⟨L1, x1, rfl, hb1, P1⟩ := Sw bulks.bk D1 bd1
  clear hA0 hval0
  have g0 : Gr M0 M1 H0 H1 := (Gr.refl M0 H0).trans G1
  have g1 : Gr M1 M1 H1 H1 := Gr.refl M1 H1
  have hev : Ev tp 8 [x0, x1] H1 (fun r _ => r = .b true) := Pf.ev (Nf (by omega) hb1.1 (by have := hb1.2; omega)) (Nat.le_of_eq I1.lim) (.cons _ _ _ _ _ (PW.gr g0 P0) (.cons _ _ _ _ _ (PW.gr g1 P1) (.nil _)))
  refine (O9 aRN gK (Checked.mixed Tryz.checked) I1 (args := [x0, x1]) (xs := #[.slice a0 len0 cap0, .slice a1 len1 cap1]) (Bg.append (R0.keep g0.keeps) (Bg.append (R1.keep g1.keeps) .nil)) hev).mono fun e W' ⟨he, bel⟩ => ?_
  subst he
  exact ⟨_, rfl, _, _, _, [], _, [], hW', trodAll_mk1 (shut_bool Tryz.underlying4 _), (trodAll_cons_mk (Below.trod laidOut (by kernel_rfl) (of_decide_eq_true (by kernel_rfl)) k0 bel lt0) (trodAll_cons_mk (Below.trod laidOut (by kernel_rfl) (of_decide_eq_true (by kernel_rfl)) k1 bel lt1) trodAll_mk0)), rfl, bel.frame _, fun h => by cases h⟩
theorem over : Rows.partRestartsUptoRow.holds Tryz.pinned (Rows.OpenSpec.upto Rows.partRestartsSpec) :=
  OpenClaim.holds_of_cond 8 Tryz.f8 rfl rfl rfl rfl rfl rfl rfl ⟨rfl, rfl, rfl, rfl, rfl⟩ rfl rfl rfl rfl rfl (by kernel_rfl) Tryz.func8 (by kernel_rfl)
    (of_decide_eq_true (by kernel_rfl)) (by unfold Func.isWrapper; first | (rw [if_pos (by decide +kernel)]; kernel_rfl) | (rw [if_neg (by decide +kernel)]; exact ⟨rfl, rfl⟩))
    (fun os started H enc _ F => lifted os started H enc F)
theorem proved : Rows.PartRestartsUptoSaid := over
#print axioms proved
end Go.Proofs.YtlcknhidblndnaaGreat.partRestarts
namespace Go.Proofs.YtlcknhidblndnaaGreat
/-- The row, under a short name, for the claim. -/
theorem partRestarts_holds : Rows.PartRestartsUptoSaid := partRestarts.proved
end Go.Proofs.YtlcknhidblndnaaGreat

