/- 'PartPlays' returns true for every input whose bulk is at most 1,048,576, and leaves its arguments as they were. Conditions: the bound of the second form. -/
import Derived.Test.YtlcknhidblndnaaGreatPM
import Derived.Test.YtlcknhidblndnaaGreatPL
import Derived.Test.YtlcknhidblndnaaGreatPK
set_option linter.all false
namespace Go.Proofs.YtlcknhidblndnaaGreat.partPlays
open Go Go.Ab Go.Ab.T
open Go.ChangeShapes Go.WideShapes Go.ChangeAt Go.RowKit
open Go.ChangeMaps (open_string shut_string)
set_option linter.unusedVariables false
set_option linter.unusedSimpArgs false
theorem own : ownKnob Tryz.prog.godebug = none := by kernel_rfl
theorem laidOut : laidOutB Tryz.prog = true := by kernel_rfl
theorem pos : uQ Tryz.prog = true := by kernel_rfl
set_option maxRecDepth 100000 in
theorem lifted (os : Os) (started : os.Started) (H : Type) (enc : TypeId × Value → H) (F : Stop.Interp) :
    ReturnsInHanded {} Tryz.checked os 7 .any ((Rows.OpenSpec.upto Rows.partPlaysSpec).pre6 enc Tryz.prog Tryz.f7 Rows.partPlaysUptoRow.domain false) (((Rows.OpenSpec.upto Rows.partPlaysSpec).at F).post enc Tryz.prog Tryz.f7 false true false false) := by
  refine O0 (C := Tryz.checked) (s := Rows.OpenSpec.upto Rows.partPlaysSpec) (k := Rows.uptoSmall) rfl own started (by kernel_rfl) Tryz.func7 pos
    (OpenSpec.witness (enc := enc) (C := Tryz.checked) (s := Rows.OpenSpec.upto Rows.partPlaysSpec) (k := Rows.uptoSmall) rfl false ⟨#[], #[.slice none 0 0, .int .i64 0, .slice none 0 0, .slice none 0 0, .slice none 0 0], []⟩ 8 (by kernel_rfl) (by kernel_rfl) (by kernel_rfl)
      (x := ([.nil, .lit (.int .i64 0), .nil, .nil, .nil], [], [])) (by kernel_rfl) rfl (by kernel_rfl)) ?_
  intro W base args ds gs before hpos hval0 hW hk
  have hval : ∀ (j : Nat) t v, Tryz.f7.params[j]? = some t → args[j]? = some v → Value.okWide Tryz.prog W .any base t v := hval0
  have hW' := hW
  obtain ⟨p, q, hA0, hV, rfl, hfz, hnd⟩ := hW
  have hA : DataW.TrodAll enc Tryz.prog W 0 (fun _ => true) true Tryz.f7.params.toList args.toList ds p := hA0
  rw [Tryz.params7] at hA hval
  obtain ⟨v0, vs0, d0, ds0, p0, q0, hargs, rfl, rfl, h0, r0⟩ := trodAll_cons hA
  obtain ⟨v1, vs1, d1, ds1, p1, q1, rfl, rfl, rfl, h1, r1⟩ := trodAll_cons r0
  obtain ⟨v2, vs2, d2, ds2, p2, q2, rfl, rfl, rfl, h2, r2⟩ := trodAll_cons r1
  obtain ⟨v3, vs3, d3, ds3, p3, q3, rfl, rfl, rfl, h3, r3⟩ := trodAll_cons r2
  obtain ⟨v4, vs4, d4, ds4, p4, q4, rfl, rfl, rfl, h4, r4⟩ := trodAll_cons r3
  obtain ⟨rfl, rfl, rfl⟩ := trodAll_nil r4
  obtain rfl : args = #[v0, v1, v2, v3, v4] := by cases args; simp_all
  obtain ⟨rfl, rfl⟩ := trodVars_none hV
  have hB := bulks.bound hk
  simp only [List.append_nil, List.nil_append, List.cons_append, Rows.uptoBulkAll] at hB
  obtain ⟨a0, len0, cap0, rfl⟩ := okWide_slice Tryz.underlying22 (hval 0 22 v0 rfl rfl)
  have k0 := h0
  have lt0 : ∀ x ∈ p0, x.block < W.heap.size := by obtain ⟨m, hm⟩ := k0; exact DataW.trod_lt m _ _ _ hm
  have bd0 : Rows.uptoBulk d0 ≤ 1048576 := by omega
  have sm0 : Ot (.sl (.i .i64)) d0 := bulks.sml _ _ bd0
  obtain ⟨fu0, hf0⟩ := h0
  obtain ⟨M0, H0, vs0, I0, G0, R0, D0, _⟩ := take hpos (.sl (.i .i64)) _ _ _ _ ⟨fu0, 22, p0, Ht 8 _ _ (by kernel_rfl), hf0⟩ (In.empty W) sm0
  obtain ⟨L0, x0, rfl, hb0, P0⟩ := OS bulks.bk D0 bd0
  obtain ⟨a1, rfl, rfl, rfl, w1⟩ := open_int Tryz.underlying3 (hval 1 3 v1 rfl rfl) h1
  have b1 := aOm w1
  obtain ⟨a2, len2, cap2, rfl⟩ := okWide_slice Tryz.underlying23 (hval 2 23 v2 rfl rfl)
  have k2 := h2
  have lt2 : ∀ x ∈ p2, x.block < W.heap.size := by obtain ⟨m, hm⟩ := k2; exact DataW.trod_lt m _ _ _ hm
  have bd2 : Rows.uptoBulk d2 ≤ 1048576 := by omega
  have sm2 : Ot (.sl (.i .u8)) d2 := bulks.sml _ _ bd2
  obtain ⟨fu2, hf2⟩ := h2
  obtain ⟨M2, H2, vs2, I2, G2, R2, D2, _⟩ := take hpos (.sl (.i .u8)) _ _ _ _ ⟨fu2, 23, p2, Ht 8 _ _ (by kernel_rfl), hf2⟩ I0 sm2
  obtain ⟨L2, x2, rfl, hb2, P2⟩ := VJ bulks.bk D2 bd2
  obtain ⟨a3, len3, cap3, rfl⟩ := okWide_slice Tryz.underlying39 (hval 3 39 v3 rfl rfl)
  have k3 := h3
  have lt3 : ∀ x ∈ p3, x.block < W.heap.size := by obtain ⟨m, hm⟩ := k3; exact DataW.trod_lt m _ _ _ hm
  have bd3 : Rows.uptoBulk d3 ≤ 1048576 := by omega
  have sm3 : Ot (.sl (.i .u32)) d3 := bulks.sml _ _ bd3
  obtain ⟨fu3, hf3⟩ := h3
  obtain ⟨M3, H3, vs3, I3, G3, R3, D3, _⟩ := take hpos (.sl (.i .u32)) _ _ _ _ ⟨fu3, 39, p3, Ht 8 _ _ (by kernel_rfl), hf3⟩ I2 sm3
  obtain ⟨L3, x3, rfl, hb3, P3⟩ := YX bulks.bk D3 bd3
  obtain ⟨a4, len4, cap4, rfl⟩ := okWide_slice Tryz.underlying22 (hval 4 22 v4 rfl rfl)
  have k4 := h4
  have lt4 : ∀ x ∈ p4, x.block < W.heap.size := by obtain ⟨m, hm⟩ := k4; exact DataW.trod_lt m _ _ _ hm
  have bd4 : Rows.uptoBulk d4 ≤ 1048576 := by omega
  have sm4 : Ot (.sl (.i .i64)) d4 := bulks.sml _ _ bd4
  obtain ⟨fu4, hf4⟩ := h4
  obtain ⟨M4, H4, vs4, I4, G4, R4, D4, _⟩ := take hpos (.sl (.i .i64)) _ _ _ _ ⟨fu4, 22, p4, Ht 8 _ _ (by kernel_rfl), hf4⟩ I3 sm4
  obtain ⟨L4, x4, rfl, hb4, P4⟩ := OS bulks.bk D4 bd4
  clear hA0 hval0
  have g0 : Gr M0 M4 H0 H4 := (((Gr.refl M0 H0).trans G2).trans G3).trans G4
  have g2 : Gr M2 M4 H2 H4 := ((Gr.refl M2 H2).trans G3).trans G4
  have g3 : Gr M3 M4 H3 H4 := (Gr.refl M3 H3).trans G4
  have g4 : Gr M4 M4 H4 H4 := Gr.refl M4 H4
  have hev : Ev tp 7 [x0, .i .i64 a1, x2, x3, x4] H4 (fun r _ => r = .b true) := Pf.ev (cN (by omega) hb2.1 (by have := hb2.2; omega) hb3.1 (by have := hb3.2; omega) (by omega)) (Nat.le_of_eq I4.lim) (.cons _ _ _ _ _ (PW.gr g0 P0) (.cons _ _ _ _ _ (.i _ _ _) (.cons _ _ _ _ _ (PW.gr g2 P2) (.cons _ _ _ _ _ (PW.gr g3 P3) (.cons _ _ _ _ _ (PW.gr g4 P4) (.nil _))))))
  refine (RF bA1 tT (Checked.mixed Tryz.checked) I4 (args := [x0, .i .i64 a1, x2, x3, x4]) (xs := #[.slice a0 len0 cap0, .int .i64 a1, .slice a2 len2 cap2, .slice a3 len3 cap3, .slice a4 len4 cap4]) (Br.append (R0.keep g0.keeps) (.cons _ _ _ _ (.i _ _) (Br.append (R2.keep g2.keeps) (Br.append (R3.keep g3.keeps) (Br.append (R4.keep g4.keeps) .nil))))) hev).mono fun e W' ⟨he, bel⟩ => ?_
  subst he
  exact ⟨_, rfl, _, _, _, [], _, [], hW', trodAll_mk1 (shut_bool Tryz.underlying4 _), (trodAll_cons_mk (Below.trod laidOut (by kernel_rfl) (of_decide_eq_true (by kernel_rfl)) k0 bel lt0) (trodAll_cons_mk (shut_int Tryz.underlying3 w1) (trodAll_cons_mk (Below.trod laidOut (by kernel_rfl) (of_decide_eq_true (by kernel_rfl)) k2 bel lt2) (trodAll_cons_mk (Below.trod laidOut (by kernel_rfl) (of_decide_eq_true (by kernel_rfl)) k3 bel lt3) (trodAll_cons_mk (Below.trod laidOut (by kernel_rfl) (of_decide_eq_true (by kernel_rfl)) k4 bel lt4) trodAll_mk0))))), rfl, bel.frame _, fun h => by cases h⟩
theorem over : Rows.partPlaysUptoRow.holds Tryz.pinned (Rows.OpenSpec.upto Rows.partPlaysSpec) :=
  OpenClaim.holds_of_cond 7 Tryz.f7 rfl rfl rfl rfl rfl rfl rfl ⟨rfl, rfl, rfl, rfl, rfl⟩ rfl rfl rfl rfl rfl (by kernel_rfl) Tryz.func7 (by kernel_rfl)
    (of_decide_eq_true (by kernel_rfl)) (by unfold Func.isWrapper; first | (rw [if_pos (by decide +kernel)]; kernel_rfl) | (rw [if_neg (by decide +kernel)]; exact ⟨rfl, rfl⟩))
    (fun os started H enc _ F => lifted os started H enc F)
theorem proved : Rows.PartPlaysUptoSaid := over
#print axioms proved
end Go.Proofs.YtlcknhidblndnaaGreat.partPlays
namespace Go.Proofs.YtlcknhidblndnaaGreat
/-- The row, under a short name, for the claim. -/
theorem partPlays_holds : Rows.PartPlaysUptoSaid := partPlays.proved
end Go.Proofs.YtlcknhidblndnaaGreat

