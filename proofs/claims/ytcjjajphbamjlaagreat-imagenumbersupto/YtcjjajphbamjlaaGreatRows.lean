/-
  No cell of these rows narrows 'for every input' (looked for: loops, veiled, ifaces, maps, wideKeys, modest, calm, conditions, laid).
  DERIVED. THE GIVEN ROWS OF THIS SEAT. 9 by the template 'for every input the law returns true; each argument reads behind the call as it read before'; 0 by the template 'total and deterministic' (their statements: YtcjjajphbamjlaaGreatTotals.lean).
  GIVEN WITH THE SEED: the statements are not yours to turn. If you find one false, say at which input.
  Laid BY PROGRAM, IN A SANDBOX (cutbox-rows.mjs): the forced cells as the released guide's own fill.sh prints them over the translation 2e1082d9db1d438a… (all of the seat's roots in one cut). By AI agents, Wed Nov 11 2026. No macro, syntax, notation, axiom, sorry.
-/
import Derived.Test.YtcjjajphbamjlaaGreatChecked
import GoSem.Claim
import GoSem.ClaimJoined
import GoSem.ClaimMapViews
import Derived.JoinedTies
import Derived.KernelRfl
namespace Go.Proofs.YtcjjajphbamjlaaGreat
/- THE CELL 'sum', in the pinned program and in every row, IS THE sha256 OF THE DUMP (.gsa) THAT YtcjjajphbamjlaaGreatProg.lean LOADS. Nothing in Lean hashes anything: it is a label: what it is worth is what the hold of that sum in a sandbox is worth. -/
noncomputable def Tryz.pinned : Pinned := { name := "ytcjjajphbamjlaagreat", sum := "2e1082d9db1d438a4bc9dfe759df1209a221661b6c470aa2d31beb654b8497a3", checked := Tryz.checked }
namespace Rows
def none {H : Type} : Left H := { results := [], args := [] }

/-- 'horariumlaw11.ReduceWorse': WHATEVER THE INPUT: true; the input reads as it did. -/
def reduceWorseSpec : ChangeSpec := { name := "reduceWorse", fn := fun _ => fun
  | [d] => { results := [.lit (.bool true)], args := [d] }
  | _ => none }
def reduceWorseRow : OpenClaim := { program := "ytcjjajphbamjlaagreat", sum := "2e1082d9db1d438a4bc9dfe759df1209a221661b6c470aa2d31beb654b8497a3", func := "horarium/horariumlaw11.ReduceWorse", spec := "reduceWorse", unfollowed := true, recurses := true, apart := false }
def ReduceWorseSaid : Prop := reduceWorseRow.holds Tryz.pinned (OpenSpec.ofChange reduceWorseSpec)

/-- ITS FALSE NEIGHBOUR: 'it returns false'. Refute it at one input. -/
def reduceWorseWrong : ChangeSpec := { name := "reduceWorse", fn := fun _ => fun
  | [d] => { results := [.lit (.bool false)], args := [d] }
  | _ => none }
def ReduceWorseWrongFalsely : Prop := reduceWorseRow.holds Tryz.pinned (OpenSpec.ofChange reduceWorseWrong)

/-- 'horariumlaw11.ReduceAgain': WHATEVER THE INPUT: true; the input reads as it did. -/
def reduceAgainSpec : ChangeSpec := { name := "reduceAgain", fn := fun _ => fun
  | [d] => { results := [.lit (.bool true)], args := [d] }
  | _ => none }
def reduceAgainRow : OpenClaim := { program := "ytcjjajphbamjlaagreat", sum := "2e1082d9db1d438a4bc9dfe759df1209a221661b6c470aa2d31beb654b8497a3", func := "horarium/horariumlaw11.ReduceAgain", spec := "reduceAgain", unfollowed := true, recurses := true, apart := false }
def ReduceAgainSaid : Prop := reduceAgainRow.holds Tryz.pinned (OpenSpec.ofChange reduceAgainSpec)

/-- ITS FALSE NEIGHBOUR: 'it returns false'. Refute it at one input. -/
def reduceAgainWrong : ChangeSpec := { name := "reduceAgain", fn := fun _ => fun
  | [d] => { results := [.lit (.bool false)], args := [d] }
  | _ => none }
def ReduceAgainWrongFalsely : Prop := reduceAgainRow.holds Tryz.pinned (OpenSpec.ofChange reduceAgainWrong)

/-- 'horariumlaw11.ReduceNumbers': WHATEVER THE INPUT: true; the input reads as it did. -/
def reduceNumbersSpec : ChangeSpec := { name := "reduceNumbers", fn := fun _ => fun
  | [] => { results := [.lit (.bool true)], args := [] }
  | _ => none }
def reduceNumbersRow : OpenClaim := { program := "ytcjjajphbamjlaagreat", sum := "2e1082d9db1d438a4bc9dfe759df1209a221661b6c470aa2d31beb654b8497a3", func := "horarium/horariumlaw11.ReduceNumbers", spec := "reduceNumbers", unfollowed := true, recurses := true, apart := false }
def ReduceNumbersSaid : Prop := reduceNumbersRow.holds Tryz.pinned (OpenSpec.ofChange reduceNumbersSpec)

/-- ITS FALSE NEIGHBOUR: 'it returns false'. Refute it at one input. -/
def reduceNumbersWrong : ChangeSpec := { name := "reduceNumbers", fn := fun _ => fun
  | [] => { results := [.lit (.bool false)], args := [] }
  | _ => none }
def ReduceNumbersWrongFalsely : Prop := reduceNumbersRow.holds Tryz.pinned (OpenSpec.ofChange reduceNumbersWrong)

/-- 'horariumlaw11.ReduceTells': WHATEVER THE INPUT: true; the input reads as it did. -/
def reduceTellsSpec : ChangeSpec := { name := "reduceTells", fn := fun _ => fun
  | [d1, d2, d3] => { results := [.lit (.bool true)], args := [d1, d2, d3] }
  | _ => none }
def reduceTellsRow : OpenClaim := { program := "ytcjjajphbamjlaagreat", sum := "2e1082d9db1d438a4bc9dfe759df1209a221661b6c470aa2d31beb654b8497a3", func := "horarium/horariumlaw11.ReduceTells", spec := "reduceTells", unfollowed := true, recurses := true, apart := false }
def ReduceTellsSaid : Prop := reduceTellsRow.holds Tryz.pinned (OpenSpec.ofChange reduceTellsSpec)

/-- ITS FALSE NEIGHBOUR: 'it returns false'. Refute it at one input. -/
def reduceTellsWrong : ChangeSpec := { name := "reduceTells", fn := fun _ => fun
  | [d1, d2, d3] => { results := [.lit (.bool false)], args := [d1, d2, d3] }
  | _ => none }
def ReduceTellsWrongFalsely : Prop := reduceTellsRow.holds Tryz.pinned (OpenSpec.ofChange reduceTellsWrong)

/-- 'horariumlaw11.ReduceSteps': WHATEVER THE INPUT: true; the input reads as it did. -/
def reduceStepsSpec : ChangeSpec := { name := "reduceSteps", fn := fun _ => fun
  | [d] => { results := [.lit (.bool true)], args := [d] }
  | _ => none }
def reduceStepsRow : OpenClaim := { program := "ytcjjajphbamjlaagreat", sum := "2e1082d9db1d438a4bc9dfe759df1209a221661b6c470aa2d31beb654b8497a3", func := "horarium/horariumlaw11.ReduceSteps", spec := "reduceSteps", unfollowed := true, recurses := true, apart := false }
def ReduceStepsSaid : Prop := reduceStepsRow.holds Tryz.pinned (OpenSpec.ofChange reduceStepsSpec)

/-- ITS FALSE NEIGHBOUR: 'it returns false'. Refute it at one input. -/
def reduceStepsWrong : ChangeSpec := { name := "reduceSteps", fn := fun _ => fun
  | [d] => { results := [.lit (.bool false)], args := [d] }
  | _ => none }
def ReduceStepsWrongFalsely : Prop := reduceStepsRow.holds Tryz.pinned (OpenSpec.ofChange reduceStepsWrong)

/-- 'horariumlaw14.ImageNumbers': WHATEVER THE INPUT: true; the input reads as it did. -/
def imageNumbersSpec : ChangeSpec := { name := "imageNumbers", fn := fun _ => fun
  | [] => { results := [.lit (.bool true)], args := [] }
  | _ => none }
def imageNumbersRow : OpenClaim := { program := "ytcjjajphbamjlaagreat", sum := "2e1082d9db1d438a4bc9dfe759df1209a221661b6c470aa2d31beb654b8497a3", func := "horarium/horariumlaw14.ImageNumbers", spec := "imageNumbers", unfollowed := true, recurses := true, apart := false }
def ImageNumbersSaid : Prop := imageNumbersRow.holds Tryz.pinned (OpenSpec.ofChange imageNumbersSpec)

/-- ITS FALSE NEIGHBOUR: 'it returns false'. Refute it at one input. -/
def imageNumbersWrong : ChangeSpec := { name := "imageNumbers", fn := fun _ => fun
  | [] => { results := [.lit (.bool false)], args := [] }
  | _ => none }
def ImageNumbersWrongFalsely : Prop := imageNumbersRow.holds Tryz.pinned (OpenSpec.ofChange imageNumbersWrong)

/-- 'horariumlaw14.ImageTells': WHATEVER THE INPUT: true; the input reads as it did. -/
def imageTellsSpec : ChangeSpec := { name := "imageTells", fn := fun _ => fun
  | [d1, d2, d3, d4, d5, d6, d7] => { results := [.lit (.bool true)], args := [d1, d2, d3, d4, d5, d6, d7] }
  | _ => none }
def imageTellsRow : OpenClaim := { program := "ytcjjajphbamjlaagreat", sum := "2e1082d9db1d438a4bc9dfe759df1209a221661b6c470aa2d31beb654b8497a3", func := "horarium/horariumlaw14.ImageTells", spec := "imageTells", unfollowed := true, recurses := true, apart := false }
def ImageTellsSaid : Prop := imageTellsRow.holds Tryz.pinned (OpenSpec.ofChange imageTellsSpec)

/-- ITS FALSE NEIGHBOUR: 'it returns false'. Refute it at one input. -/
def imageTellsWrong : ChangeSpec := { name := "imageTells", fn := fun _ => fun
  | [d1, d2, d3, d4, d5, d6, d7] => { results := [.lit (.bool false)], args := [d1, d2, d3, d4, d5, d6, d7] }
  | _ => none }
def ImageTellsWrongFalsely : Prop := imageTellsRow.holds Tryz.pinned (OpenSpec.ofChange imageTellsWrong)

/-- 'horariumlaw14.ImageRefuses': WHATEVER THE INPUT: true; the input reads as it did. -/
def imageRefusesSpec : ChangeSpec := { name := "imageRefuses", fn := fun _ => fun
  | [d1, d2, d3] => { results := [.lit (.bool true)], args := [d1, d2, d3] }
  | _ => none }
def imageRefusesRow : OpenClaim := { program := "ytcjjajphbamjlaagreat", sum := "2e1082d9db1d438a4bc9dfe759df1209a221661b6c470aa2d31beb654b8497a3", func := "horarium/horariumlaw14.ImageRefuses", spec := "imageRefuses", unfollowed := true, recurses := true, apart := false }
def ImageRefusesSaid : Prop := imageRefusesRow.holds Tryz.pinned (OpenSpec.ofChange imageRefusesSpec)

/-- ITS FALSE NEIGHBOUR: 'it returns false'. Refute it at one input. -/
def imageRefusesWrong : ChangeSpec := { name := "imageRefuses", fn := fun _ => fun
  | [d1, d2, d3] => { results := [.lit (.bool false)], args := [d1, d2, d3] }
  | _ => none }
def ImageRefusesWrongFalsely : Prop := imageRefusesRow.holds Tryz.pinned (OpenSpec.ofChange imageRefusesWrong)

/-- 'horariumlaw14.ImageSizes': WHATEVER THE INPUT: true; the input reads as it did. -/
def imageSizesSpec : ChangeSpec := { name := "imageSizes", fn := fun _ => fun
  | [d1, d2] => { results := [.lit (.bool true)], args := [d1, d2] }
  | _ => none }
def imageSizesRow : OpenClaim := { program := "ytcjjajphbamjlaagreat", sum := "2e1082d9db1d438a4bc9dfe759df1209a221661b6c470aa2d31beb654b8497a3", func := "horarium/horariumlaw14.ImageSizes", spec := "imageSizes", unfollowed := true, recurses := true, apart := false }
def ImageSizesSaid : Prop := imageSizesRow.holds Tryz.pinned (OpenSpec.ofChange imageSizesSpec)

/-- ITS FALSE NEIGHBOUR: 'it returns false'. Refute it at one input. -/
def imageSizesWrong : ChangeSpec := { name := "imageSizes", fn := fun _ => fun
  | [d1, d2] => { results := [.lit (.bool false)], args := [d1, d2] }
  | _ => none }
def ImageSizesWrongFalsely : Prop := imageSizesRow.holds Tryz.pinned (OpenSpec.ofChange imageSizesWrong)

/- THE SECOND FORM. 'bulk': how many values and letters a reading holds, each counted each time it is reached (what is shared counts as often as it is met; a slice's spare places count too). A statement '..UptoSaid' is the law's where the arguments, and the package variables that the reading takes, are together of bulk at most 1048576: NARROWER than '..Said'. Prove '..Said' where nothing that the law and all that it calls make is longer than what came in: it says more and counts as full. Else prove '..UptoSaid'. A law counts once. -/
mutual
def uptoBulk {H : Type} : DataW H → Nat
  | .lit (.string bytes) => bytes.length + 1
  | .lit _ => 1
  | .nil => 1
  | .ptr d => uptoBulk d + 1
  | .slice elems spare => uptoBulkAll elems + uptoBulkAll spare + 1
  | .agg parts => uptoBulkAll parts + 1
  | .iface _ d => uptoBulk d + 1
  | .map entries => uptoBulkEntries entries + 1
  | .held _ => 1
def uptoBulkAll {H : Type} : List (DataW H) → Nat
  | [] => 0
  | d :: r => uptoBulk d + uptoBulkAll r
def uptoBulkEntries {H : Type} : List (Lit × DataW H) → Nat
  | [] => 0
  | x :: r => uptoBulkEntry x + uptoBulkEntries r
def uptoBulkEntry {H : Type} : Lit × DataW H → Nat
  | (.string bytes, d) => bytes.length + uptoBulk d + 1
  | (_, d) => uptoBulk d + 1
 end
def uptoSmall : (H : Type) → List (DataW H) → Bool := fun _ ds => decide (uptoBulkAll ds ≤ 1048576)
def OpenSpec.upto (s : _root_.Go.ChangeSpec) : _root_.Go.OpenSpec := { _root_.Go.OpenSpec.ofChange s with cond := some uptoSmall }

/-- 'horariumlaw11.ReduceWorse', WHERE WHAT IT READS IS OF BULK AT MOST 1048576: true; the input reads as it did. -/
def reduceWorseUptoRow : OpenClaim := { program := "ytcjjajphbamjlaagreat", sum := "2e1082d9db1d438a4bc9dfe759df1209a221661b6c470aa2d31beb654b8497a3", func := "horarium/horariumlaw11.ReduceWorse", spec := "reduceWorse", unfollowed := true, recurses := true, apart := false, narrowed := true }
def ReduceWorseUptoSaid : Prop := reduceWorseUptoRow.holds Tryz.pinned (OpenSpec.upto reduceWorseSpec)

/-- 'horariumlaw11.ReduceAgain', WHERE WHAT IT READS IS OF BULK AT MOST 1048576: true; the input reads as it did. -/
def reduceAgainUptoRow : OpenClaim := { program := "ytcjjajphbamjlaagreat", sum := "2e1082d9db1d438a4bc9dfe759df1209a221661b6c470aa2d31beb654b8497a3", func := "horarium/horariumlaw11.ReduceAgain", spec := "reduceAgain", unfollowed := true, recurses := true, apart := false, narrowed := true }
def ReduceAgainUptoSaid : Prop := reduceAgainUptoRow.holds Tryz.pinned (OpenSpec.upto reduceAgainSpec)

/-- 'horariumlaw11.ReduceNumbers', WHERE WHAT IT READS IS OF BULK AT MOST 1048576: true; the input reads as it did. -/
def reduceNumbersUptoRow : OpenClaim := { program := "ytcjjajphbamjlaagreat", sum := "2e1082d9db1d438a4bc9dfe759df1209a221661b6c470aa2d31beb654b8497a3", func := "horarium/horariumlaw11.ReduceNumbers", spec := "reduceNumbers", unfollowed := true, recurses := true, apart := false, narrowed := true }
def ReduceNumbersUptoSaid : Prop := reduceNumbersUptoRow.holds Tryz.pinned (OpenSpec.upto reduceNumbersSpec)

/-- 'horariumlaw11.ReduceTells', WHERE WHAT IT READS IS OF BULK AT MOST 1048576: true; the input reads as it did. -/
def reduceTellsUptoRow : OpenClaim := { program := "ytcjjajphbamjlaagreat", sum := "2e1082d9db1d438a4bc9dfe759df1209a221661b6c470aa2d31beb654b8497a3", func := "horarium/horariumlaw11.ReduceTells", spec := "reduceTells", unfollowed := true, recurses := true, apart := false, narrowed := true }
def ReduceTellsUptoSaid : Prop := reduceTellsUptoRow.holds Tryz.pinned (OpenSpec.upto reduceTellsSpec)

/-- 'horariumlaw11.ReduceSteps', WHERE WHAT IT READS IS OF BULK AT MOST 1048576: true; the input reads as it did. -/
def reduceStepsUptoRow : OpenClaim := { program := "ytcjjajphbamjlaagreat", sum := "2e1082d9db1d438a4bc9dfe759df1209a221661b6c470aa2d31beb654b8497a3", func := "horarium/horariumlaw11.ReduceSteps", spec := "reduceSteps", unfollowed := true, recurses := true, apart := false, narrowed := true }
def ReduceStepsUptoSaid : Prop := reduceStepsUptoRow.holds Tryz.pinned (OpenSpec.upto reduceStepsSpec)

/-- 'horariumlaw14.ImageNumbers', WHERE WHAT IT READS IS OF BULK AT MOST 1048576: true; the input reads as it did. -/
def imageNumbersUptoRow : OpenClaim := { program := "ytcjjajphbamjlaagreat", sum := "2e1082d9db1d438a4bc9dfe759df1209a221661b6c470aa2d31beb654b8497a3", func := "horarium/horariumlaw14.ImageNumbers", spec := "imageNumbers", unfollowed := true, recurses := true, apart := false, narrowed := true }
def ImageNumbersUptoSaid : Prop := imageNumbersUptoRow.holds Tryz.pinned (OpenSpec.upto imageNumbersSpec)

/-- 'horariumlaw14.ImageTells', WHERE WHAT IT READS IS OF BULK AT MOST 1048576: true; the input reads as it did. -/
def imageTellsUptoRow : OpenClaim := { program := "ytcjjajphbamjlaagreat", sum := "2e1082d9db1d438a4bc9dfe759df1209a221661b6c470aa2d31beb654b8497a3", func := "horarium/horariumlaw14.ImageTells", spec := "imageTells", unfollowed := true, recurses := true, apart := false, narrowed := true }
def ImageTellsUptoSaid : Prop := imageTellsUptoRow.holds Tryz.pinned (OpenSpec.upto imageTellsSpec)

/-- 'horariumlaw14.ImageRefuses', WHERE WHAT IT READS IS OF BULK AT MOST 1048576: true; the input reads as it did. -/
def imageRefusesUptoRow : OpenClaim := { program := "ytcjjajphbamjlaagreat", sum := "2e1082d9db1d438a4bc9dfe759df1209a221661b6c470aa2d31beb654b8497a3", func := "horarium/horariumlaw14.ImageRefuses", spec := "imageRefuses", unfollowed := true, recurses := true, apart := false, narrowed := true }
def ImageRefusesUptoSaid : Prop := imageRefusesUptoRow.holds Tryz.pinned (OpenSpec.upto imageRefusesSpec)

/-- 'horariumlaw14.ImageSizes', WHERE WHAT IT READS IS OF BULK AT MOST 1048576: true; the input reads as it did. -/
def imageSizesUptoRow : OpenClaim := { program := "ytcjjajphbamjlaagreat", sum := "2e1082d9db1d438a4bc9dfe759df1209a221661b6c470aa2d31beb654b8497a3", func := "horarium/horariumlaw14.ImageSizes", spec := "imageSizes", unfollowed := true, recurses := true, apart := false, narrowed := true }
def ImageSizesUptoSaid : Prop := imageSizesUptoRow.holds Tryz.pinned (OpenSpec.upto imageSizesSpec)

end Rows
end Go.Proofs.YtcjjajphbamjlaaGreat
