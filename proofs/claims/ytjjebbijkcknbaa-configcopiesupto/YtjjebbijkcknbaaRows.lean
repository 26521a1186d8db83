/-
  No cell of these rows narrows 'for every input' (looked for: loops, veiled, ifaces, maps, wideKeys, modest, calm, conditions, laid).
  DERIVED. THE GIVEN ROWS OF THIS SEAT. 5 by the template 'for every input the law returns true; each argument reads behind the call as it read before'; 0 by the template 'total and deterministic' (their statements: YtjjebbijkcknbaaTotals.lean).
  GIVEN WITH THE SEED: the statements are not yours to turn. If you find one false, say at which input.
  Laid BY PROGRAM, IN A SANDBOX (cutbox-rows.mjs): the forced cells as the released guide's own fill.sh prints them over the translation bce03baa11189c85… (all of the seat's roots in one cut). By AI agents, Wed Nov 11 2026. No macro, syntax, notation, axiom, sorry.
-/
import Derived.Test.YtjjebbijkcknbaaChecked
import GoSem.Claim
import GoSem.ClaimJoined
import GoSem.ClaimMapViews
import Derived.JoinedTies
import Derived.KernelRfl
namespace Go.Proofs.Ytjjebbijkcknbaa
/- THE CELL 'sum', in the pinned program and in every row, IS THE sha256 OF THE DUMP (.gsa) THAT YtjjebbijkcknbaaProg.lean LOADS. Nothing in Lean hashes anything: it is a label: what it is worth is what the hold of that sum in a sandbox is worth. -/
noncomputable def Try.pinned : Pinned := { name := "ytjjebbijkcknbaa", sum := "bce03baa11189c855e30b9eca74500945246fb331fe1dbda56c6858bcb252794", checked := Try.checked }
namespace Rows
def none {H : Type} : Left H := { results := [], args := [] }

/-- 'horariumlaw12.ConfigNumbers': WHATEVER THE INPUT: true; the input reads as it did. -/
def configNumbersSpec : ChangeSpec := { name := "configNumbers", fn := fun _ => fun
  | [] => { results := [.lit (.bool true)], args := [] }
  | _ => none }
def configNumbersRow : OpenClaim := { program := "ytjjebbijkcknbaa", sum := "bce03baa11189c855e30b9eca74500945246fb331fe1dbda56c6858bcb252794", func := "horarium/horariumlaw12.ConfigNumbers", spec := "configNumbers", unfollowed := true, recurses := true, apart := false }
def ConfigNumbersSaid : Prop := configNumbersRow.holds Try.pinned (OpenSpec.ofChange configNumbersSpec)

/-- ITS FALSE NEIGHBOUR: 'it returns false'. Refute it at one input. -/
def configNumbersWrong : ChangeSpec := { name := "configNumbers", fn := fun _ => fun
  | [] => { results := [.lit (.bool false)], args := [] }
  | _ => none }
def ConfigNumbersWrongFalsely : Prop := configNumbersRow.holds Try.pinned (OpenSpec.ofChange configNumbersWrong)

/-- 'horariumlaw12.ConfigTells': WHATEVER THE INPUT: true; the input reads as it did. -/
def configTellsSpec : ChangeSpec := { name := "configTells", fn := fun _ => fun
  | [d1, d2, d3, d4, d5, d6, d7] => { results := [.lit (.bool true)], args := [d1, d2, d3, d4, d5, d6, d7] }
  | _ => none }
def configTellsRow : OpenClaim := { program := "ytjjebbijkcknbaa", sum := "bce03baa11189c855e30b9eca74500945246fb331fe1dbda56c6858bcb252794", func := "horarium/horariumlaw12.ConfigTells", spec := "configTells", unfollowed := true, recurses := true, apart := false }
def ConfigTellsSaid : Prop := configTellsRow.holds Try.pinned (OpenSpec.ofChange configTellsSpec)

/-- ITS FALSE NEIGHBOUR: 'it returns false'. Refute it at one input. -/
def configTellsWrong : ChangeSpec := { name := "configTells", fn := fun _ => fun
  | [d1, d2, d3, d4, d5, d6, d7] => { results := [.lit (.bool false)], args := [d1, d2, d3, d4, d5, d6, d7] }
  | _ => none }
def ConfigTellsWrongFalsely : Prop := configTellsRow.holds Try.pinned (OpenSpec.ofChange configTellsWrong)

/-- 'horariumlaw12.ConfigCopies': WHATEVER THE INPUT: true; the input reads as it did. -/
def configCopiesSpec : ChangeSpec := { name := "configCopies", fn := fun _ => fun
  | [d1, d2] => { results := [.lit (.bool true)], args := [d1, d2] }
  | _ => none }
def configCopiesRow : OpenClaim := { program := "ytjjebbijkcknbaa", sum := "bce03baa11189c855e30b9eca74500945246fb331fe1dbda56c6858bcb252794", func := "horarium/horariumlaw12.ConfigCopies", spec := "configCopies", unfollowed := true, recurses := true, apart := false }
def ConfigCopiesSaid : Prop := configCopiesRow.holds Try.pinned (OpenSpec.ofChange configCopiesSpec)

/-- ITS FALSE NEIGHBOUR: 'it returns false'. Refute it at one input. -/
def configCopiesWrong : ChangeSpec := { name := "configCopies", fn := fun _ => fun
  | [d1, d2] => { results := [.lit (.bool false)], args := [d1, d2] }
  | _ => none }
def ConfigCopiesWrongFalsely : Prop := configCopiesRow.holds Try.pinned (OpenSpec.ofChange configCopiesWrong)

/-- 'horariumlaw12.ConfigFirst': WHATEVER THE INPUT: true; the input reads as it did. -/
def configFirstSpec : ChangeSpec := { name := "configFirst", fn := fun _ => fun
  | [d1, d2] => { results := [.lit (.bool true)], args := [d1, d2] }
  | _ => none }
def configFirstRow : OpenClaim := { program := "ytjjebbijkcknbaa", sum := "bce03baa11189c855e30b9eca74500945246fb331fe1dbda56c6858bcb252794", func := "horarium/horariumlaw12.ConfigFirst", spec := "configFirst", unfollowed := true, recurses := true, apart := false }
def ConfigFirstSaid : Prop := configFirstRow.holds Try.pinned (OpenSpec.ofChange configFirstSpec)

/-- ITS FALSE NEIGHBOUR: 'it returns false'. Refute it at one input. -/
def configFirstWrong : ChangeSpec := { name := "configFirst", fn := fun _ => fun
  | [d1, d2] => { results := [.lit (.bool false)], args := [d1, d2] }
  | _ => none }
def ConfigFirstWrongFalsely : Prop := configFirstRow.holds Try.pinned (OpenSpec.ofChange configFirstWrong)

/-- 'horariumlaw12.ConfigTurned': WHATEVER THE INPUT: true; the input reads as it did. -/
def configTurnedSpec : ChangeSpec := { name := "configTurned", fn := fun _ => fun
  | [d] => { results := [.lit (.bool true)], args := [d] }
  | _ => none }
def configTurnedRow : OpenClaim := { program := "ytjjebbijkcknbaa", sum := "bce03baa11189c855e30b9eca74500945246fb331fe1dbda56c6858bcb252794", func := "horarium/horariumlaw12.ConfigTurned", spec := "configTurned", unfollowed := true, recurses := true, apart := false }
def ConfigTurnedSaid : Prop := configTurnedRow.holds Try.pinned (OpenSpec.ofChange configTurnedSpec)

/-- ITS FALSE NEIGHBOUR: 'it returns false'. Refute it at one input. -/
def configTurnedWrong : ChangeSpec := { name := "configTurned", fn := fun _ => fun
  | [d] => { results := [.lit (.bool false)], args := [d] }
  | _ => none }
def ConfigTurnedWrongFalsely : Prop := configTurnedRow.holds Try.pinned (OpenSpec.ofChange configTurnedWrong)

/- THE SECOND FORM. 'bulk': how many values and letters a reading holds, each counted each time it is reached (what is shared counts as often as it is met; a slice's spare places count too). A statement '..UptoSaid' is the law's where the arguments, and the package variables that the reading takes, are together of bulk at most 1048576: NARROWER than '..Said'. Prove '..Said' where nothing that the law and all that it calls make is longer than what came in: it says more and counts as full. Else prove '..UptoSaid'. A law counts once. -/
mutual
def uptoBulk {H : Type} : DataW H → Nat
  | .lit (.string bytes) => bytes.length + 1
  | .lit _ => 1
  | .nil => 1
  | .ptr d => uptoBulk d + 1
  | .slice elems spare => uptoBulkAll elems + uptoBulkAll spare + 1
  | .agg parts => uptoBulkAll parts + 1
  | .iface _ d => uptoBulk d + 1
  | .map entries => uptoBulkEntries entries + 1
  | .held _ => 1
def uptoBulkAll {H : Type} : List (DataW H) → Nat
  | [] => 0
  | d :: r => uptoBulk d + uptoBulkAll r
def uptoBulkEntries {H : Type} : List (Lit × DataW H) → Nat
  | [] => 0
  | x :: r => uptoBulkEntry x + uptoBulkEntries r
def uptoBulkEntry {H : Type} : Lit × DataW H → Nat
  | (.string bytes, d) => bytes.length + uptoBulk d + 1
  | (_, d) => uptoBulk d + 1
 end
def uptoSmall : (H : Type) → List (DataW H) → Bool := fun _ ds => decide (uptoBulkAll ds ≤ 1048576)
def OpenSpec.upto (s : _root_.Go.ChangeSpec) : _root_.Go.OpenSpec := { _root_.Go.OpenSpec.ofChange s with cond := some uptoSmall }

/-- 'horariumlaw12.ConfigNumbers', WHERE WHAT IT READS IS OF BULK AT MOST 1048576: true; the input reads as it did. -/
def configNumbersUptoRow : OpenClaim := { program := "ytjjebbijkcknbaa", sum := "bce03baa11189c855e30b9eca74500945246fb331fe1dbda56c6858bcb252794", func := "horarium/horariumlaw12.ConfigNumbers", spec := "configNumbers", unfollowed := true, recurses := true, apart := false, narrowed := true }
def ConfigNumbersUptoSaid : Prop := configNumbersUptoRow.holds Try.pinned (OpenSpec.upto configNumbersSpec)

/-- 'horariumlaw12.ConfigTells', WHERE WHAT IT READS IS OF BULK AT MOST 1048576: true; the input reads as it did. -/
def configTellsUptoRow : OpenClaim := { program := "ytjjebbijkcknbaa", sum := "bce03baa11189c855e30b9eca74500945246fb331fe1dbda56c6858bcb252794", func := "horarium/horariumlaw12.ConfigTells", spec := "configTells", unfollowed := true, recurses := true, apart := false, narrowed := true }
def ConfigTellsUptoSaid : Prop := configTellsUptoRow.holds Try.pinned (OpenSpec.upto configTellsSpec)

/-- 'horariumlaw12.ConfigCopies', WHERE WHAT IT READS IS OF BULK AT MOST 1048576: true; the input reads as it did. -/
def configCopiesUptoRow : OpenClaim := { program := "ytjjebbijkcknbaa", sum := "bce03baa11189c855e30b9eca74500945246fb331fe1dbda56c6858bcb252794", func := "horarium/horariumlaw12.ConfigCopies", spec := "configCopies", unfollowed := true, recurses := true, apart := false, narrowed := true }
def ConfigCopiesUptoSaid : Prop := configCopiesUptoRow.holds Try.pinned (OpenSpec.upto configCopiesSpec)

/-- 'horariumlaw12.ConfigFirst', WHERE WHAT IT READS IS OF BULK AT MOST 1048576: true; the input reads as it did. -/
def configFirstUptoRow : OpenClaim := { program := "ytjjebbijkcknbaa", sum := "bce03baa11189c855e30b9eca74500945246fb331fe1dbda56c6858bcb252794", func := "horarium/horariumlaw12.ConfigFirst", spec := "configFirst", unfollowed := true, recurses := true, apart := false, narrowed := true }
def ConfigFirstUptoSaid : Prop := configFirstUptoRow.holds Try.pinned (OpenSpec.upto configFirstSpec)

/-- 'horariumlaw12.ConfigTurned', WHERE WHAT IT READS IS OF BULK AT MOST 1048576: true; the input reads as it did. -/
def configTurnedUptoRow : OpenClaim := { program := "ytjjebbijkcknbaa", sum := "bce03baa11189c855e30b9eca74500945246fb331fe1dbda56c6858bcb252794", func := "horarium/horariumlaw12.ConfigTurned", spec := "configTurned", unfollowed := true, recurses := true, apart := false, narrowed := true }
def ConfigTurnedUptoSaid : Prop := configTurnedUptoRow.holds Try.pinned (OpenSpec.upto configTurnedSpec)

end Rows
end Go.Proofs.Ytjjebbijkcknbaa
