/- 'ImageTells' returns true for every input whose bulk is at most 1,048,576, and leaves its arguments as they were. Conditions: the bound of the second form. -/
import Derived.Test.YtcjjajphbamjlaaGreatPM
import Derived.Test.YtcjjajphbamjlaaGreatPL
import Derived.Test.YtcjjajphbamjlaaGreatPK
import Derived.Test.YtcjjajphbamjlaaGreatPJ
set_option linter.all false
namespace Go.Proofs.YtcjjajphbamjlaaGreat.imageTells
open Go Go.Ab Go.Ab.T
open Go.ChangeShapes Go.WideShapes Go.ChangeAt Go.RowKit
open Go.ChangeMaps (open_string shut_string)
set_option linter.unusedVariables false
set_option linter.unusedSimpArgs false
theorem own : ownKnob Tryz.prog.godebug = none := by kernel_rfl
theorem laidOut : laidOutB Tryz.prog = true := by kernel_rfl
theorem pos : mI Tryz.prog = true := by kernel_rfl
set_option maxRecDepth 100000 in
theorem lifted (os : Os) (started : os.Started) (H : Type) (enc : TypeId × Value → H) (F : Stop.Interp) :
    ReturnsInHanded {} Tryz.checked os 9 .any ((Rows.OpenSpec.upto Rows.imageTellsSpec).pre6 enc Tryz.prog Tryz.f9 Rows.imageTellsUptoRow.domain false) (((Rows.OpenSpec.upto Rows.imageTellsSpec).at F).post enc Tryz.prog Tryz.f9 false true false false) := by
  refine NH (C := Tryz.checked) (s := Rows.OpenSpec.upto Rows.imageTellsSpec) (k := Rows.uptoSmall) rfl own started (by kernel_rfl) Tryz.func9 pos
    (OpenSpec.witness (enc := enc) (C := Tryz.checked) (s := Rows.OpenSpec.upto Rows.imageTellsSpec) (k := Rows.uptoSmall) rfl false ⟨#[], #[.slice none 0 0, .int .i64 0, .int .i64 0, .agg #[.slice none 0 0, .slice none 0 0, .slice none 0 0], .slice none 0 0, .int .i64 0, .int .u8 0], []⟩ 8 (by kernel_rfl) (by kernel_rfl) (by kernel_rfl)
      (x := ([.nil, .lit (.int .i64 0), .lit (.int .i64 0), .agg [.nil, .nil, .nil], .nil, .lit (.int .i64 0), .lit (.int .u8 0)], [], [])) (by kernel_rfl) rfl (by kernel_rfl)) ?_
  intro W base args ds gs before hpos hval0 hW hk
  have hval : ∀ (j : Nat) t v, Tryz.f9.params[j]? = some t → args[j]? = some v → Value.okWide Tryz.prog W .any base t v := hval0
  have hW' := hW
  obtain ⟨p, q, hA0, hV, rfl, hfz, hnd⟩ := hW
  have hA : DataW.TrodAll enc Tryz.prog W 0 (fun _ => true) true Tryz.f9.params.toList args.toList ds p := hA0
  rw [Tryz.params9] at hA hval
  obtain ⟨v0, vs0, d0, ds0, p0, q0, hargs, rfl, rfl, h0, r0⟩ := trodAll_cons hA
  obtain ⟨v1, vs1, d1, ds1, p1, q1, rfl, rfl, rfl, h1, r1⟩ := trodAll_cons r0
  obtain ⟨v2, vs2, d2, ds2, p2, q2, rfl, rfl, rfl, h2, r2⟩ := trodAll_cons r1
  obtain ⟨v3, vs3, d3, ds3, p3, q3, rfl, rfl, rfl, h3, r3⟩ := trodAll_cons r2
  obtain ⟨v4, vs4, d4, ds4, p4, q4, rfl, rfl, rfl, h4, r4⟩ := trodAll_cons r3
  obtain ⟨v5, vs5, d5, ds5, p5, q5, rfl, rfl, rfl, h5, r5⟩ := trodAll_cons r4
  obtain ⟨v6, vs6, d6, ds6, p6, q6, rfl, rfl, rfl, h6, r6⟩ := trodAll_cons r5
  obtain ⟨rfl, rfl, rfl⟩ := trodAll_nil r6
  obtain rfl : args = #[v0, v1, v2, v3, v4, v5, v6] := by cases args; simp_all
  obtain ⟨rfl, rfl⟩ := trodVars_none hV
  have hB := bulks.bound hk
  simp only [List.append_nil, List.nil_append, List.cons_append, Rows.uptoBulkAll] at hB
  obtain ⟨a0, len0, cap0, rfl⟩ := okWide_slice Tryz.underlying22 (hval 0 22 v0 rfl rfl)
  have k0 := h0
  have lt0 : ∀ x ∈ p0, x.block < W.heap.size := by obtain ⟨m, hm⟩ := k0; exact DataW.trod_lt m _ _ _ hm
  have bd0 : Rows.uptoBulk d0 ≤ 1048576 := by omega
  have sm0 : Nj (.sl (.i .i64)) d0 := bulks.sml _ _ bd0
  obtain ⟨fu0, hf0⟩ := h0
  obtain ⟨M0, H0, vs0, I0, G0, R0, D0, _⟩ := take hpos (.sl (.i .i64)) _ _ _ _ ⟨fu0, 22, p0, I1 8 _ _ (by kernel_rfl), hf0⟩ (In.empty W) sm0
  obtain ⟨L0, x0, rfl, hb0, P0⟩ := XI bulks.bk D0 bd0
  obtain ⟨a1, rfl, rfl, rfl, w1⟩ := open_int Tryz.underlying3 (hval 1 3 v1 rfl rfl) h1
  have b1 := Sy w1
  obtain ⟨a2, rfl, rfl, rfl, w2⟩ := open_int Tryz.underlying2 (hval 2 2 v2 rfl rfl) h2
  have b2 := Sy w2
  obtain ⟨cs3, rfl, _⟩ := okWide_struct Tryz.underlying27 (hval 3 27 v3 rfl rfl)
  have k3 := h3
  have lt3 : ∀ x ∈ p3, x.block < W.heap.size := by obtain ⟨m, hm⟩ := k3; exact DataW.trod_lt m _ _ _ hm
  have bd3 : Rows.uptoBulk d3 ≤ 1048576 := by omega
  have sm3 : Nj Sm d3 := bulks.sml _ _ bd3
  obtain ⟨fu3, hf3⟩ := h3
  obtain ⟨M3, H3, vs3, I3, G3, R3, D3, _⟩ := take hpos Sm _ _ _ _ ⟨fu3, 27, p3, I1 8 _ _ (by kernel_rfl), hf3⟩ I0 sm3
  obtain ⟨C3, nm3, P3⟩ := XH bulks.bk D3 bd3
  obtain ⟨a4, len4, cap4, rfl⟩ := okWide_slice Tryz.underlying66 (hval 4 66 v4 rfl rfl)
  have k4 := h4
  have lt4 : ∀ x ∈ p4, x.block < W.heap.size := by obtain ⟨m, hm⟩ := k4; exact DataW.trod_lt m _ _ _ hm
  have bd4 : Rows.uptoBulk d4 ≤ 1048576 := by omega
  have sm4 : Nj (.sl (.i .u8)) d4 := bulks.sml _ _ bd4
  obtain ⟨fu4, hf4⟩ := h4
  obtain ⟨M4, H4, vs4, I4, G4, R4, D4, _⟩ := take hpos (.sl (.i .u8)) _ _ _ _ ⟨fu4, 66, p4, I1 8 _ _ (by kernel_rfl), hf4⟩ I3 sm4
  obtain ⟨L4, x4, rfl, hb4, P4⟩ := Uj bulks.bk D4 bd4
  obtain ⟨a5, rfl, rfl, rfl, w5⟩ := open_int Tryz.underlying3 (hval 5 3 v5 rfl rfl) h5
  have b5 := Sy w5
  obtain ⟨a6, rfl, rfl, rfl, w6⟩ := open_int Tryz.underlying5 (hval 6 5 v6 rfl rfl) h6
  have b6 := tQ w6
  clear hA0 hval0
  have g0 : Gr M0 M4 H0 H4 := ((Gr.refl M0 H0).trans G3).trans G4
  have g3 : Gr M3 M4 H3 H4 := (Gr.refl M3 H3).trans G4
  have g4 : Gr M4 M4 H4 H4 := Gr.refl M4 H4
  have hev : Ev tp 9 [x0, .i .i64 a1, .i .i64 a2, .agg vs3, x4, .i .i64 a5, .i .u8 a6] H4 (fun r _ => r = .b true) := Pf.ev (Ls (by omega) nm3 hb4.1 (by have := hb4.2; omega) b6.1 (by have := b6.2; omega)) (Nat.le_of_eq I4.lim) (.cons _ _ _ _ _ (PW.gr g0 P0) (.cons _ _ _ _ _ (.i _ _ _) (.cons _ _ _ _ _ (.i _ _ _) (.cons _ _ _ _ _ (.agg _ _ _ (Qx.gr g3 P3)) (.cons _ _ _ _ _ (PW.gr g4 P4) (.cons _ _ _ _ _ (.i _ _ _) (.cons _ _ _ _ _ (.i _ _ _) (.nil _))))))))
  refine (Q6 aXa lP (Checked.mixed Tryz.checked) I4 (args := [x0, .i .i64 a1, .i .i64 a2, .agg vs3, x4, .i .i64 a5, .i .u8 a6]) (xs := #[.slice a0 len0 cap0, .int .i64 a1, .int .i64 a2, .agg cs3, .slice a4 len4 cap4, .int .i64 a5, .int .u8 a6]) (BC.append (R0.keep g0.keeps) (.cons _ _ _ _ (.i _ _) (.cons _ _ _ _ (.i _ _) (.cons _ _ _ _ (.agg _ _ (R3.keep g3.keeps)) (BC.append (R4.keep g4.keeps) (.cons _ _ _ _ (.i _ _) (.cons _ _ _ _ (.i _ _) .nil))))))) hev).mono fun e W' ⟨he, bel⟩ => ?_
  subst he
  exact ⟨_, rfl, _, _, _, [], _, [], hW', trodAll_mk1 (shut_bool Tryz.underlying4 _), (trodAll_cons_mk (Below.trod laidOut (by kernel_rfl) (of_decide_eq_true (by kernel_rfl)) k0 bel lt0) (trodAll_cons_mk (shut_int Tryz.underlying3 w1) (trodAll_cons_mk (shut_int Tryz.underlying2 w2) (trodAll_cons_mk (Below.trod laidOut (by kernel_rfl) (of_decide_eq_true (by kernel_rfl)) k3 bel lt3) (trodAll_cons_mk (Below.trod laidOut (by kernel_rfl) (of_decide_eq_true (by kernel_rfl)) k4 bel lt4) (trodAll_cons_mk (shut_int Tryz.underlying3 w5) (trodAll_cons_mk (shut_int Tryz.underlying5 w6) trodAll_mk0))))))), rfl, bel.frame _, fun h => by cases h⟩
theorem over : Rows.imageTellsUptoRow.holds Tryz.pinned (Rows.OpenSpec.upto Rows.imageTellsSpec) :=
  OpenClaim.holds_of_cond 9 Tryz.f9 rfl rfl rfl rfl rfl rfl rfl ⟨rfl, rfl, rfl, rfl, rfl⟩ rfl rfl rfl rfl rfl (by kernel_rfl) Tryz.func9 (by kernel_rfl)
    (of_decide_eq_true (by kernel_rfl)) (by unfold Func.isWrapper; first | (rw [if_pos (by decide +kernel)]; kernel_rfl) | (rw [if_neg (by decide +kernel)]; exact ⟨rfl, rfl⟩))
    (fun os started H enc _ F => lifted os started H enc F)
theorem proved : Rows.ImageTellsUptoSaid := over
#print axioms proved
end Go.Proofs.YtcjjajphbamjlaaGreat.imageTells
namespace Go.Proofs.YtcjjajphbamjlaaGreat
/-- The row, under a short name, for the claim. -/
theorem imageTells_holds : Rows.ImageTellsUptoSaid := imageTells.proved
end Go.Proofs.YtcjjajphbamjlaaGreat

