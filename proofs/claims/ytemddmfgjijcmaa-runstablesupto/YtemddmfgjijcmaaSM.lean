/- Part of the proof that RunsTables returns true for every input of the second form's bound (no other condition). -/
import Derived.Test.YtemddmfgjijcmaaChecked
import Derived.Test.YtemddmfgjijcmaaRows
import Derived.Test.YtemddmfgjijcmaaAbF
import Derived.Test.YtemddmfgjijcmaaAbC
import Derived.Test.YtemddmfgjijcmaaAbD
set_option linter.all false
/- The abstract machine's text is the program's. Written by a tool. -/
namespace Go.Ab.T
open Go Go.Ab Go.Proofs
def wr0 : Wr := fun _ => false
theorem tie_horariumlaw4_CursorNumbers : compF Try.prog wr0 Try.f3 = some t_horariumlaw4_CursorNumbers := by kernel_rfl
theorem tie_horariumlaw4_CursorPlays : compF Try.prog wr0 Try.f4 = some t_horariumlaw4_CursorPlays := by kernel_rfl
theorem tie_horariumlaw4_CursorAgain : compF Try.prog wr0 Try.f5 = some t_horariumlaw4_CursorAgain := by kernel_rfl
theorem tie_horariumlaw4_CursorTicks : compF Try.prog wr0 Try.f6 = some t_horariumlaw4_CursorTicks := by kernel_rfl
theorem tie_horariumlaw5_RunsTidy : compF Try.prog wr0 Try.f7 = some t_horariumlaw5_RunsTidy := by kernel_rfl
theorem tie_horariumlaw5_RunsTables : compF Try.prog wr0 Try.f8 = some t_horariumlaw5_RunsTables := by kernel_rfl
theorem tie_horariumlaw4_tape : compF Try.prog wr0 Try.f9 = some t_horariumlaw4_tape := by kernel_rfl
theorem tie_horariumkeep_Tape_Table : compF Try.prog wr0 Try.f10 = some t_horariumkeep_Tape_Table := by kernel_rfl
theorem tie_horariumlaw4_play : compF Try.prog wr0 Try.f11 = some t_horariumlaw4_play := by kernel_rfl
theorem tie_cursor_Part : compF Try.prog wr0 Try.f12 = some t_cursor_Part := by kernel_rfl
theorem tie_horariumlaw4_known : compF Try.prog wr0 Try.f13 = some t_horariumlaw4_known := by kernel_rfl
theorem tie_horariumbook_Within : compF Try.prog wr0 Try.f14 = some t_horariumbook_Within := by kernel_rfl
theorem tie_horariumref3_Length : compF Try.prog wr0 Try.f15 = some t_horariumref3_Length := by kernel_rfl
theorem tie_horariumref3_Right : compF Try.prog wr0 Try.f16 = some t_horariumref3_Right := by kernel_rfl
theorem tie_horariumref3_At : compF Try.prog wr0 Try.f17 = some t_horariumref3_At := by kernel_rfl
theorem tie_horariumlaw4_leaves : compF Try.prog wr0 Try.f18 = some t_horariumlaw4_leaves := by kernel_rfl
theorem tie_cursor_New : compF Try.prog wr0 Try.f19 = some t_cursor_New := by kernel_rfl
theorem tie_cursor_Cursor_Tick : compF Try.prog wr0 Try.f20 = some t_cursor_Cursor_Tick := by kernel_rfl
theorem tie_cursor_Cursor_Reset : compF Try.prog wr0 Try.f21 = some t_cursor_Cursor_Reset := by kernel_rfl
theorem tie_cursor_Cursor_Next : compF Try.prog wr0 Try.f22 = some t_cursor_Cursor_Next := by kernel_rfl
theorem tie_cursor_Cursor_At : compF Try.prog wr0 Try.f23 = some t_cursor_Cursor_At := by kernel_rfl
theorem tie_horariumkeep_Tape_Runs : compF Try.prog wr0 Try.f24 = some t_horariumkeep_Tape_Runs := by kernel_rfl
theorem tie_runs_Tidy : compF Try.prog wr0 Try.f25 = some t_runs_Tidy := by kernel_rfl
theorem tie_runs_Ticks : compF Try.prog wr0 Try.f26 = some t_runs_Ticks := by kernel_rfl
theorem tie_runs_Same : compF Try.prog wr0 Try.f27 = some t_runs_Same := by kernel_rfl
theorem tie_runs_Length : compF Try.prog wr0 Try.f28 = some t_runs_Length := by kernel_rfl
theorem tie_runs_At : compF Try.prog wr0 Try.f29 = some t_runs_At := by kernel_rfl
theorem tie_runs_Switches : compF Try.prog wr0 Try.f30 = some t_runs_Switches := by kernel_rfl
theorem tie_horariumlaw5_known : compF Try.prog wr0 Try.f31 = some t_horariumlaw5_known := by kernel_rfl
theorem tie_runs_Of : compF Try.prog wr0 Try.f32 = some t_runs_Of := by kernel_rfl
theorem tie_horariumref3_Of : compF Try.prog wr0 Try.f33 = some t_horariumref3_Of := by kernel_rfl
theorem tie_runs_Right : compF Try.prog wr0 Try.f34 = some t_runs_Right := by kernel_rfl
theorem tie_horariumkeep_Tape_Next : compF Try.prog wr0 Try.f35 = some t_horariumkeep_Tape_Next := by kernel_rfl
theorem tie_horariumref3_Depth : compF Try.prog wr0 Try.f36 = some t_horariumref3_Depth := by kernel_rfl
theorem tie_horariumref3_length : compF Try.prog wr0 Try.f37 = some t_horariumref3_length := by kernel_rfl
theorem tie_horariumref3_Leaves : compF Try.prog wr0 Try.f38 = some t_horariumref3_Leaves := by kernel_rfl
theorem tie_node_Right : compF Try.prog wr0 Try.f39 = some t_node_Right := by kernel_rfl
theorem tie_slices_Clone_api_Node_api_Node : compF Try.prog wr0 Try.f40 = some t_slices_Clone_api_Node_api_Node := by kernel_rfl
theorem tie_cursor_part : compF Try.prog wr0 Try.f41 = some t_cursor_part := by kernel_rfl
theorem tie_cursor_Cursor_step : compF Try.prog wr0 Try.f42 = some t_cursor_Cursor_step := by kernel_rfl
theorem tie_cursor_Cursor_down : compF Try.prog wr0 Try.f43 = some t_cursor_Cursor_down := by kernel_rfl
theorem tie_runs_Add : compF Try.prog wr0 Try.f44 = some t_runs_Add := by kernel_rfl
theorem tie_slices_Clip_api_Run_api_Run : compF Try.prog wr0 Try.f45 = some t_slices_Clip_api_Run_api_Run := by kernel_rfl
theorem tie_slices_Equal_api_Run_api_Run : compF Try.prog wr0 Try.f46 = some t_slices_Equal_api_Run_api_Run := by kernel_rfl
theorem tie_horariumref3_Tidy : compF Try.prog wr0 Try.f47 = some t_horariumref3_Tidy := by kernel_rfl
theorem tie_runs_part : compF Try.prog wr0 Try.f48 = some t_runs_part := by kernel_rfl
theorem tie_horariumref3_Size : compF Try.prog wr0 Try.f49 = some t_horariumref3_Size := by kernel_rfl
theorem tie_horariumref3_depth : compF Try.prog wr0 Try.f50 = some t_horariumref3_depth := by kernel_rfl
theorem tie_horariumref3_Kids : compF Try.prog wr0 Try.f51 = some t_horariumref3_Kids := by kernel_rfl
theorem tie_horariumref3_leaves : compF Try.prog wr0 Try.f52 = some t_horariumref3_leaves := by kernel_rfl
theorem tie_node_Length : compF Try.prog wr0 Try.f53 = some t_node_Length := by kernel_rfl
theorem tie_node_whole : compF Try.prog wr0 Try.f54 = some t_node_whole := by kernel_rfl
theorem tie_node_Depth : compF Try.prog wr0 Try.f55 = some t_node_Depth := by kernel_rfl
theorem tie_horariumref3_Sum : compF Try.prog wr0 Try.f56 = some t_horariumref3_Sum := by kernel_rfl
theorem tie_horariumref3_fine : compF Try.prog wr0 Try.f57 = some t_horariumref3_fine := by kernel_rfl
theorem tie_node_measure : compF Try.prog wr0 Try.f58 = some t_node_measure := by kernel_rfl
theorem tie_node_Size : compF Try.prog wr0 Try.f59 = some t_node_Size := by kernel_rfl
theorem tie_node_kids : compF Try.prog wr0 Try.f60 = some t_node_kids := by kernel_rfl
theorem tie_node_times : compF Try.prog wr0 Try.f61 = some t_node_times := by kernel_rfl
theorem tie_node_add : compF Try.prog wr0 Try.f62 = some t_node_add := by kernel_rfl
theorem tpOk : TpOk Try.prog wr0 tp := by
  intro f tf h
  have h' : tpFn f = some tf := h
  clear h
  unfold tpFn at h'
  split at h'
  · cases h'; exact ⟨Try.f3, Try.func3, tie_horariumlaw4_CursorNumbers⟩
  · cases h'; exact ⟨Try.f4, Try.func4, tie_horariumlaw4_CursorPlays⟩
  · cases h'; exact ⟨Try.f5, Try.func5, tie_horariumlaw4_CursorAgain⟩
  · cases h'; exact ⟨Try.f6, Try.func6, tie_horariumlaw4_CursorTicks⟩
  · cases h'; exact ⟨Try.f7, Try.func7, tie_horariumlaw5_RunsTidy⟩
  · cases h'; exact ⟨Try.f8, Try.func8, tie_horariumlaw5_RunsTables⟩
  · cases h'; exact ⟨Try.f9, Try.func9, tie_horariumlaw4_tape⟩
  · cases h'; exact ⟨Try.f10, Try.func10, tie_horariumkeep_Tape_Table⟩
  · cases h'; exact ⟨Try.f11, Try.func11, tie_horariumlaw4_play⟩
  · cases h'; exact ⟨Try.f12, Try.func12, tie_cursor_Part⟩
  · cases h'; exact ⟨Try.f13, Try.func13, tie_horariumlaw4_known⟩
  · cases h'; exact ⟨Try.f14, Try.func14, tie_horariumbook_Within⟩
  · cases h'; exact ⟨Try.f15, Try.func15, tie_horariumref3_Length⟩
  · cases h'; exact ⟨Try.f16, Try.func16, tie_horariumref3_Right⟩
  · cases h'; exact ⟨Try.f17, Try.func17, tie_horariumref3_At⟩
  · cases h'; exact ⟨Try.f18, Try.func18, tie_horariumlaw4_leaves⟩
  · cases h'; exact ⟨Try.f19, Try.func19, tie_cursor_New⟩
  · cases h'; exact ⟨Try.f20, Try.func20, tie_cursor_Cursor_Tick⟩
  · cases h'; exact ⟨Try.f21, Try.func21, tie_cursor_Cursor_Reset⟩
  · cases h'; exact ⟨Try.f22, Try.func22, tie_cursor_Cursor_Next⟩
  · cases h'; exact ⟨Try.f23, Try.func23, tie_cursor_Cursor_At⟩
  · cases h'; exact ⟨Try.f24, Try.func24, tie_horariumkeep_Tape_Runs⟩
  · cases h'; exact ⟨Try.f25, Try.func25, tie_runs_Tidy⟩
  · cases h'; exact ⟨Try.f26, Try.func26, tie_runs_Ticks⟩
  · cases h'; exact ⟨Try.f27, Try.func27, tie_runs_Same⟩
  · cases h'; exact ⟨Try.f28, Try.func28, tie_runs_Length⟩
  · cases h'; exact ⟨Try.f29, Try.func29, tie_runs_At⟩
  · cases h'; exact ⟨Try.f30, Try.func30, tie_runs_Switches⟩
  · cases h'; exact ⟨Try.f31, Try.func31, tie_horariumlaw5_known⟩
  · cases h'; exact ⟨Try.f32, Try.func32, tie_runs_Of⟩
  · cases h'; exact ⟨Try.f33, Try.func33, tie_horariumref3_Of⟩
  · cases h'; exact ⟨Try.f34, Try.func34, tie_runs_Right⟩
  · cases h'; exact ⟨Try.f35, Try.func35, tie_horariumkeep_Tape_Next⟩
  · cases h'; exact ⟨Try.f36, Try.func36, tie_horariumref3_Depth⟩
  · cases h'; exact ⟨Try.f37, Try.func37, tie_horariumref3_length⟩
  · cases h'; exact ⟨Try.f38, Try.func38, tie_horariumref3_Leaves⟩
  · cases h'; exact ⟨Try.f39, Try.func39, tie_node_Right⟩
  · cases h'; exact ⟨Try.f40, Try.func40, tie_slices_Clone_api_Node_api_Node⟩
  · cases h'; exact ⟨Try.f41, Try.func41, tie_cursor_part⟩
  · cases h'; exact ⟨Try.f42, Try.func42, tie_cursor_Cursor_step⟩
  · cases h'; exact ⟨Try.f43, Try.func43, tie_cursor_Cursor_down⟩
  · cases h'; exact ⟨Try.f44, Try.func44, tie_runs_Add⟩
  · cases h'; exact ⟨Try.f45, Try.func45, tie_slices_Clip_api_Run_api_Run⟩
  · cases h'; exact ⟨Try.f46, Try.func46, tie_slices_Equal_api_Run_api_Run⟩
  · cases h'; exact ⟨Try.f47, Try.func47, tie_horariumref3_Tidy⟩
  · cases h'; exact ⟨Try.f48, Try.func48, tie_runs_part⟩
  · cases h'; exact ⟨Try.f49, Try.func49, tie_horariumref3_Size⟩
  · cases h'; exact ⟨Try.f50, Try.func50, tie_horariumref3_depth⟩
  · cases h'; exact ⟨Try.f51, Try.func51, tie_horariumref3_Kids⟩
  · cases h'; exact ⟨Try.f52, Try.func52, tie_horariumref3_leaves⟩
  · cases h'; exact ⟨Try.f53, Try.func53, tie_node_Length⟩
  · cases h'; exact ⟨Try.f54, Try.func54, tie_node_whole⟩
  · cases h'; exact ⟨Try.f55, Try.func55, tie_node_Depth⟩
  · cases h'; exact ⟨Try.f56, Try.func56, tie_horariumref3_Sum⟩
  · cases h'; exact ⟨Try.f57, Try.func57, tie_horariumref3_fine⟩
  · cases h'; exact ⟨Try.f58, Try.func58, tie_node_measure⟩
  · cases h'; exact ⟨Try.f59, Try.func59, tie_node_Size⟩
  · cases h'; exact ⟨Try.f60, Try.func60, tie_node_kids⟩
  · cases h'; exact ⟨Try.f61, Try.func61, tie_node_times⟩
  · cases h'; exact ⟨Try.f62, Try.func62, tie_node_add⟩
  · cases h'
theorem methsOk : MethsOk Try.prog tp := by
  intro t m q h
  cases h
end Go.Ab.T
/- What the bound of the second form gives. -/
namespace Go.Proofs.Ytemddmfgjijcmaa.bulks
open Go Go.Ab
theorem one_le {H : Type} (d : DataW H) : 1 ≤ Rows.uptoBulk d := by
  cases d with
  | lit l => cases l <;> simp [Rows.uptoBulk]
  | nil => simp [Rows.uptoBulk]
  | ptr d => simp [Rows.uptoBulk]
  | slice elems spare => simp [Rows.uptoBulk]
  | agg parts => simp [Rows.uptoBulk]
  | iface t d => simp [Rows.uptoBulk]
  | map entries => simp [Rows.uptoBulk]
  | held h => simp [Rows.uptoBulk]
theorem part_le {H : Type} {d : DataW H} {l : List (DataW H)} (h : d ∈ l) : Rows.uptoBulk d ≤ Rows.uptoBulkAll l := by
  induction l with
  | nil => cases h
  | cons x r ih =>
    simp only [Rows.uptoBulkAll]
    cases List.mem_cons.1 h with
    | inl e => subst e; omega
    | inr e => have := ih e; omega
theorem length_le {H : Type} (l : List (DataW H)) : l.length ≤ Rows.uptoBulkAll l := by
  induction l with
  | nil => simp [Rows.uptoBulkAll]
  | cons x r ih => have := one_le x; simp only [Rows.uptoBulkAll, List.length_cons]; omega
theorem slice_le {H : Type} (elems spare : List (DataW H)) : elems.length + spare.length + 1 ≤ Rows.uptoBulk (.slice elems spare) := by
  have h1 := length_le elems
  have h2 := length_le spare
  simp only [Rows.uptoBulk]
  omega
theorem slice_elems {H : Type} (elems spare : List (DataW H)) : Rows.uptoBulkAll elems + 1 ≤ Rows.uptoBulk (.slice elems spare) := by
  simp only [Rows.uptoBulk]
  omega
theorem bound {H : Type} {l : List (DataW H)} (hk : Rows.uptoSmall H l = true) : Rows.uptoBulkAll l ≤ 1048576 := of_decide_eq_true hk
mutual
theorem sml {H : Type} : ∀ (sh : Sh) (d : DataW H), Rows.uptoBulk d ≤ 1048576 → Sml sh d
  | .b, d, h => by simp [Sml]
  | .i _, d, h => by simp [Sml]
  | .s, d, h => by simp [Sml]
  | .sl e, d, h => by
    simp only [Sml]
    rintro elems spare rfl
    have h1 := slice_le elems spare
    have h2 := slice_elems elems spare
    refine ⟨by simp only [bigLen]; omega, fun x hx => sml e x ?_⟩
    have := part_le hx
    omega
  | .agg l, d, h => by
    simp only [Sml]
    rintro ds rfl
    exact smls l ds (by simp only [Rows.uptoBulk] at h; omega)
theorem smls {H : Type} : ∀ (l : ShL) (ds : List (DataW H)), Rows.uptoBulkAll ds ≤ 1048576 → Smls l ds
  | .nil, ds, h => by simp [Smls]
  | .cons x l, ds, h => by
    simp only [Smls]
    rintro d ds' rfl
    simp only [Rows.uptoBulkAll] at h
    exact ⟨sml x d (by omega), smls l ds' (by omega)⟩
end
end Go.Proofs.Ytemddmfgjijcmaa.bulks
