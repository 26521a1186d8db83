/-
  No cell of these rows narrows 'for every input' (looked for: loops, veiled, ifaces, maps, wideKeys, modest, calm, conditions, laid).
  DERIVED. THE GIVEN ROWS OF THIS SEAT. 6 by the template 'for every input the law returns true; each argument reads behind the call as it read before'; 0 by the template 'total and deterministic' (their statements: YtemddmfgjijcmaaTotals.lean).
  GIVEN WITH THE SEED: the statements are not yours to turn. If you find one false, say at which input.
  Laid BY PROGRAM, IN A SANDBOX (cutbox-rows.mjs): the forced cells as the released guide's own fill.sh prints them over the translation 5e0d063a70f2fb6b… (all of the seat's roots in one cut). By AI agents, Wed Nov 11 2026. No macro, syntax, notation, axiom, sorry.
-/
import Derived.Test.YtemddmfgjijcmaaChecked
import GoSem.Claim
import GoSem.ClaimJoined
import GoSem.ClaimMapViews
import Derived.JoinedTies
import Derived.KernelRfl
namespace Go.Proofs.Ytemddmfgjijcmaa
/- THE CELL 'sum', in the pinned program and in every row, IS THE sha256 OF THE DUMP (.gsa) THAT YtemddmfgjijcmaaProg.lean LOADS. Nothing in Lean hashes anything: it is a label: what it is worth is what the hold of that sum in a sandbox is worth. -/
noncomputable def Try.pinned : Pinned := { name := "ytemddmfgjijcmaa", sum := "5e0d063a70f2fb6b14f0e369740efe715632bbbf24b04cdc62da7a58aac5005e", checked := Try.checked }
namespace Rows
def none {H : Type} : Left H := { results := [], args := [] }

/-- 'horariumlaw4.CursorNumbers': WHATEVER THE INPUT: true; the input reads as it did. -/
def cursorNumbersSpec : ChangeSpec := { name := "cursorNumbers", fn := fun _ => fun
  | [] => { results := [.lit (.bool true)], args := [] }
  | _ => none }
def cursorNumbersRow : OpenClaim := { program := "ytemddmfgjijcmaa", sum := "5e0d063a70f2fb6b14f0e369740efe715632bbbf24b04cdc62da7a58aac5005e", func := "horarium/horariumlaw4.CursorNumbers", spec := "cursorNumbers", recurses := true, apart := false }
def CursorNumbersSaid : Prop := cursorNumbersRow.holds Try.pinned (OpenSpec.ofChange cursorNumbersSpec)

/-- ITS FALSE NEIGHBOUR: 'it returns false'. Refute it at one input. -/
def cursorNumbersWrong : ChangeSpec := { name := "cursorNumbers", fn := fun _ => fun
  | [] => { results := [.lit (.bool false)], args := [] }
  | _ => none }
def CursorNumbersWrongFalsely : Prop := cursorNumbersRow.holds Try.pinned (OpenSpec.ofChange cursorNumbersWrong)

/-- 'horariumlaw4.CursorPlays': WHATEVER THE INPUT: true; the input reads as it did. -/
def cursorPlaysSpec : ChangeSpec := { name := "cursorPlays", fn := fun _ => fun
  | [d1, d2, d3, d4, d5] => { results := [.lit (.bool true)], args := [d1, d2, d3, d4, d5] }
  | _ => none }
def cursorPlaysRow : OpenClaim := { program := "ytemddmfgjijcmaa", sum := "5e0d063a70f2fb6b14f0e369740efe715632bbbf24b04cdc62da7a58aac5005e", func := "horarium/horariumlaw4.CursorPlays", spec := "cursorPlays", recurses := true, apart := false }
def CursorPlaysSaid : Prop := cursorPlaysRow.holds Try.pinned (OpenSpec.ofChange cursorPlaysSpec)

/-- ITS FALSE NEIGHBOUR: 'it returns false'. Refute it at one input. -/
def cursorPlaysWrong : ChangeSpec := { name := "cursorPlays", fn := fun _ => fun
  | [d1, d2, d3, d4, d5] => { results := [.lit (.bool false)], args := [d1, d2, d3, d4, d5] }
  | _ => none }
def CursorPlaysWrongFalsely : Prop := cursorPlaysRow.holds Try.pinned (OpenSpec.ofChange cursorPlaysWrong)

/-- 'horariumlaw4.CursorAgain': WHATEVER THE INPUT: true; the input reads as it did. -/
def cursorAgainSpec : ChangeSpec := { name := "cursorAgain", fn := fun _ => fun
  | [d1, d2, d3] => { results := [.lit (.bool true)], args := [d1, d2, d3] }
  | _ => none }
def cursorAgainRow : OpenClaim := { program := "ytemddmfgjijcmaa", sum := "5e0d063a70f2fb6b14f0e369740efe715632bbbf24b04cdc62da7a58aac5005e", func := "horarium/horariumlaw4.CursorAgain", spec := "cursorAgain", recurses := true, apart := false }
def CursorAgainSaid : Prop := cursorAgainRow.holds Try.pinned (OpenSpec.ofChange cursorAgainSpec)

/-- ITS FALSE NEIGHBOUR: 'it returns false'. Refute it at one input. -/
def cursorAgainWrong : ChangeSpec := { name := "cursorAgain", fn := fun _ => fun
  | [d1, d2, d3] => { results := [.lit (.bool false)], args := [d1, d2, d3] }
  | _ => none }
def CursorAgainWrongFalsely : Prop := cursorAgainRow.holds Try.pinned (OpenSpec.ofChange cursorAgainWrong)

/-- 'horariumlaw4.CursorTicks': WHATEVER THE INPUT: true; the input reads as it did. -/
def cursorTicksSpec : ChangeSpec := { name := "cursorTicks", fn := fun _ => fun
  | [d1, d2] => { results := [.lit (.bool true)], args := [d1, d2] }
  | _ => none }
def cursorTicksRow : OpenClaim := { program := "ytemddmfgjijcmaa", sum := "5e0d063a70f2fb6b14f0e369740efe715632bbbf24b04cdc62da7a58aac5005e", func := "horarium/horariumlaw4.CursorTicks", spec := "cursorTicks", recurses := true, apart := false }
def CursorTicksSaid : Prop := cursorTicksRow.holds Try.pinned (OpenSpec.ofChange cursorTicksSpec)

/-- ITS FALSE NEIGHBOUR: 'it returns false'. Refute it at one input. -/
def cursorTicksWrong : ChangeSpec := { name := "cursorTicks", fn := fun _ => fun
  | [d1, d2] => { results := [.lit (.bool false)], args := [d1, d2] }
  | _ => none }
def CursorTicksWrongFalsely : Prop := cursorTicksRow.holds Try.pinned (OpenSpec.ofChange cursorTicksWrong)

/-- 'horariumlaw5.RunsTidy': WHATEVER THE INPUT: true; the input reads as it did. -/
def runsTidySpec : ChangeSpec := { name := "runsTidy", fn := fun _ => fun
  | [d1, d2] => { results := [.lit (.bool true)], args := [d1, d2] }
  | _ => none }
def runsTidyRow : OpenClaim := { program := "ytemddmfgjijcmaa", sum := "5e0d063a70f2fb6b14f0e369740efe715632bbbf24b04cdc62da7a58aac5005e", func := "horarium/horariumlaw5.RunsTidy", spec := "runsTidy", apart := false }
def RunsTidySaid : Prop := runsTidyRow.holds Try.pinned (OpenSpec.ofChange runsTidySpec)

/-- ITS FALSE NEIGHBOUR: 'it returns false'. Refute it at one input. -/
def runsTidyWrong : ChangeSpec := { name := "runsTidy", fn := fun _ => fun
  | [d1, d2] => { results := [.lit (.bool false)], args := [d1, d2] }
  | _ => none }
def RunsTidyWrongFalsely : Prop := runsTidyRow.holds Try.pinned (OpenSpec.ofChange runsTidyWrong)

/-- 'horariumlaw5.RunsTables': WHATEVER THE INPUT: true; the input reads as it did. -/
def runsTablesSpec : ChangeSpec := { name := "runsTables", fn := fun _ => fun
  | [d1, d2] => { results := [.lit (.bool true)], args := [d1, d2] }
  | _ => none }
def runsTablesRow : OpenClaim := { program := "ytemddmfgjijcmaa", sum := "5e0d063a70f2fb6b14f0e369740efe715632bbbf24b04cdc62da7a58aac5005e", func := "horarium/horariumlaw5.RunsTables", spec := "runsTables", recurses := true, apart := false }
def RunsTablesSaid : Prop := runsTablesRow.holds Try.pinned (OpenSpec.ofChange runsTablesSpec)

/-- ITS FALSE NEIGHBOUR: 'it returns false'. Refute it at one input. -/
def runsTablesWrong : ChangeSpec := { name := "runsTables", fn := fun _ => fun
  | [d1, d2] => { results := [.lit (.bool false)], args := [d1, d2] }
  | _ => none }
def RunsTablesWrongFalsely : Prop := runsTablesRow.holds Try.pinned (OpenSpec.ofChange runsTablesWrong)

/- THE SECOND FORM. 'bulk': how many values and letters a reading holds, each counted each time it is reached (what is shared counts as often as it is met; a slice's spare places count too). A statement '..UptoSaid' is the law's where the arguments, and the package variables that the reading takes, are together of bulk at most 1048576: NARROWER than '..Said'. Prove '..Said' where nothing that the law and all that it calls make is longer than what came in: it says more and counts as full. Else prove '..UptoSaid'. A law counts once. -/
mutual
def uptoBulk {H : Type} : DataW H → Nat
  | .lit (.string bytes) => bytes.length + 1
  | .lit _ => 1
  | .nil => 1
  | .ptr d => uptoBulk d + 1
  | .slice elems spare => uptoBulkAll elems + uptoBulkAll spare + 1
  | .agg parts => uptoBulkAll parts + 1
  | .iface _ d => uptoBulk d + 1
  | .map entries => uptoBulkEntries entries + 1
  | .held _ => 1
def uptoBulkAll {H : Type} : List (DataW H) → Nat
  | [] => 0
  | d :: r => uptoBulk d + uptoBulkAll r
def uptoBulkEntries {H : Type} : List (Lit × DataW H) → Nat
  | [] => 0
  | x :: r => uptoBulkEntry x + uptoBulkEntries r
def uptoBulkEntry {H : Type} : Lit × DataW H → Nat
  | (.string bytes, d) => bytes.length + uptoBulk d + 1
  | (_, d) => uptoBulk d + 1
 end
def uptoSmall : (H : Type) → List (DataW H) → Bool := fun _ ds => decide (uptoBulkAll ds ≤ 1048576)
def OpenSpec.upto (s : _root_.Go.ChangeSpec) : _root_.Go.OpenSpec := { _root_.Go.OpenSpec.ofChange s with cond := some uptoSmall }

/-- 'horariumlaw4.CursorNumbers', WHERE WHAT IT READS IS OF BULK AT MOST 1048576: true; the input reads as it did. -/
def cursorNumbersUptoRow : OpenClaim := { program := "ytemddmfgjijcmaa", sum := "5e0d063a70f2fb6b14f0e369740efe715632bbbf24b04cdc62da7a58aac5005e", func := "horarium/horariumlaw4.CursorNumbers", spec := "cursorNumbers", recurses := true, apart := false, narrowed := true }
def CursorNumbersUptoSaid : Prop := cursorNumbersUptoRow.holds Try.pinned (OpenSpec.upto cursorNumbersSpec)

/-- 'horariumlaw4.CursorPlays', WHERE WHAT IT READS IS OF BULK AT MOST 1048576: true; the input reads as it did. -/
def cursorPlaysUptoRow : OpenClaim := { program := "ytemddmfgjijcmaa", sum := "5e0d063a70f2fb6b14f0e369740efe715632bbbf24b04cdc62da7a58aac5005e", func := "horarium/horariumlaw4.CursorPlays", spec := "cursorPlays", recurses := true, apart := false, narrowed := true }
def CursorPlaysUptoSaid : Prop := cursorPlaysUptoRow.holds Try.pinned (OpenSpec.upto cursorPlaysSpec)

/-- 'horariumlaw4.CursorAgain', WHERE WHAT IT READS IS OF BULK AT MOST 1048576: true; the input reads as it did. -/
def cursorAgainUptoRow : OpenClaim := { program := "ytemddmfgjijcmaa", sum := "5e0d063a70f2fb6b14f0e369740efe715632bbbf24b04cdc62da7a58aac5005e", func := "horarium/horariumlaw4.CursorAgain", spec := "cursorAgain", recurses := true, apart := false, narrowed := true }
def CursorAgainUptoSaid : Prop := cursorAgainUptoRow.holds Try.pinned (OpenSpec.upto cursorAgainSpec)

/-- 'horariumlaw4.CursorTicks', WHERE WHAT IT READS IS OF BULK AT MOST 1048576: true; the input reads as it did. -/
def cursorTicksUptoRow : OpenClaim := { program := "ytemddmfgjijcmaa", sum := "5e0d063a70f2fb6b14f0e369740efe715632bbbf24b04cdc62da7a58aac5005e", func := "horarium/horariumlaw4.CursorTicks", spec := "cursorTicks", recurses := true, apart := false, narrowed := true }
def CursorTicksUptoSaid : Prop := cursorTicksUptoRow.holds Try.pinned (OpenSpec.upto cursorTicksSpec)

/-- 'horariumlaw5.RunsTidy', WHERE WHAT IT READS IS OF BULK AT MOST 1048576: true; the input reads as it did. -/
def runsTidyUptoRow : OpenClaim := { program := "ytemddmfgjijcmaa", sum := "5e0d063a70f2fb6b14f0e369740efe715632bbbf24b04cdc62da7a58aac5005e", func := "horarium/horariumlaw5.RunsTidy", spec := "runsTidy", apart := false, narrowed := true }
def RunsTidyUptoSaid : Prop := runsTidyUptoRow.holds Try.pinned (OpenSpec.upto runsTidySpec)

/-- 'horariumlaw5.RunsTables', WHERE WHAT IT READS IS OF BULK AT MOST 1048576: true; the input reads as it did. -/
def runsTablesUptoRow : OpenClaim := { program := "ytemddmfgjijcmaa", sum := "5e0d063a70f2fb6b14f0e369740efe715632bbbf24b04cdc62da7a58aac5005e", func := "horarium/horariumlaw5.RunsTables", spec := "runsTables", recurses := true, apart := false, narrowed := true }
def RunsTablesUptoSaid : Prop := runsTablesUptoRow.holds Try.pinned (OpenSpec.upto runsTablesSpec)

end Rows
end Go.Proofs.Ytemddmfgjijcmaa
