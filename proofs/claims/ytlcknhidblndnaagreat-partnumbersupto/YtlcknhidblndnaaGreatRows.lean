/-
  No cell of these rows narrows 'for every input' (looked for: loops, veiled, ifaces, maps, wideKeys, modest, calm, conditions, laid).
  DERIVED. THE GIVEN ROWS OF THIS SEAT. 7 by the template 'for every input the law returns true; each argument reads behind the call as it read before'; 0 by the template 'total and deterministic' (their statements: YtlcknhidblndnaaGreatTotals.lean).
  GIVEN WITH THE SEED: the statements are not yours to turn. If you find one false, say at which input.
  Laid BY PROGRAM, IN A SANDBOX (cutbox-rows.mjs): the forced cells as the released guide's own fill.sh prints them over the translation 556fe83297cee450… (all of the seat's roots in one cut). By AI agents, Wed Nov 11 2026. No macro, syntax, notation, axiom, sorry.
-/
import Derived.Test.YtlcknhidblndnaaGreatChecked
import GoSem.Claim
import GoSem.ClaimJoined
import GoSem.ClaimMapViews
import Derived.JoinedTies
import Derived.KernelRfl
namespace Go.Proofs.YtlcknhidblndnaaGreat
/- THE CELL 'sum', in the pinned program and in every row, IS THE sha256 OF THE DUMP (.gsa) THAT YtlcknhidblndnaaGreatProg.lean LOADS. Nothing in Lean hashes anything: it is a label: what it is worth is what the hold of that sum in a sandbox is worth. -/
noncomputable def Tryz.pinned : Pinned := { name := "ytlcknhidblndnaagreat", sum := "556fe83297cee45047cb5c2ffb1a67365fe9681d2540220b91453b3faa9c492b", checked := Tryz.checked }
namespace Rows
def none {H : Type} : Left H := { results := [], args := [] }

/-- 'horariumlaw19.PartBlind': WHATEVER THE INPUT: true; the input reads as it did. -/
def partBlindSpec : ChangeSpec := { name := "partBlind", fn := fun _ => fun
  | [d1, d2, d3] => { results := [.lit (.bool true)], args := [d1, d2, d3] }
  | _ => none }
def partBlindRow : OpenClaim := { program := "ytlcknhidblndnaagreat", sum := "556fe83297cee45047cb5c2ffb1a67365fe9681d2540220b91453b3faa9c492b", func := "horarium/horariumlaw19.PartBlind", spec := "partBlind", unfollowed := true, recurses := true, apart := false }
def PartBlindSaid : Prop := partBlindRow.holds Tryz.pinned (OpenSpec.ofChange partBlindSpec)

/-- ITS FALSE NEIGHBOUR: 'it returns false'. Refute it at one input. -/
def partBlindWrong : ChangeSpec := { name := "partBlind", fn := fun _ => fun
  | [d1, d2, d3] => { results := [.lit (.bool false)], args := [d1, d2, d3] }
  | _ => none }
def PartBlindWrongFalsely : Prop := partBlindRow.holds Tryz.pinned (OpenSpec.ofChange partBlindWrong)

/-- 'horariumlaw19.PartWaits': WHATEVER THE INPUT: true; the input reads as it did. -/
def partWaitsSpec : ChangeSpec := { name := "partWaits", fn := fun _ => fun
  | [d1, d2] => { results := [.lit (.bool true)], args := [d1, d2] }
  | _ => none }
def partWaitsRow : OpenClaim := { program := "ytlcknhidblndnaagreat", sum := "556fe83297cee45047cb5c2ffb1a67365fe9681d2540220b91453b3faa9c492b", func := "horarium/horariumlaw19.PartWaits", spec := "partWaits", unfollowed := true, recurses := true, apart := false }
def PartWaitsSaid : Prop := partWaitsRow.holds Tryz.pinned (OpenSpec.ofChange partWaitsSpec)

/-- ITS FALSE NEIGHBOUR: 'it returns false'. Refute it at one input. -/
def partWaitsWrong : ChangeSpec := { name := "partWaits", fn := fun _ => fun
  | [d1, d2] => { results := [.lit (.bool false)], args := [d1, d2] }
  | _ => none }
def PartWaitsWrongFalsely : Prop := partWaitsRow.holds Tryz.pinned (OpenSpec.ofChange partWaitsWrong)

/-- 'horariumlaw19.PartAlike': WHATEVER THE INPUT: true; the input reads as it did. -/
def partAlikeSpec : ChangeSpec := { name := "partAlike", fn := fun _ => fun
  | [d1, d2, d3, d4] => { results := [.lit (.bool true)], args := [d1, d2, d3, d4] }
  | _ => none }
def partAlikeRow : OpenClaim := { program := "ytlcknhidblndnaagreat", sum := "556fe83297cee45047cb5c2ffb1a67365fe9681d2540220b91453b3faa9c492b", func := "horarium/horariumlaw19.PartAlike", spec := "partAlike", unfollowed := true, recurses := true, apart := false }
def PartAlikeSaid : Prop := partAlikeRow.holds Tryz.pinned (OpenSpec.ofChange partAlikeSpec)

/-- ITS FALSE NEIGHBOUR: 'it returns false'. Refute it at one input. -/
def partAlikeWrong : ChangeSpec := { name := "partAlike", fn := fun _ => fun
  | [d1, d2, d3, d4] => { results := [.lit (.bool false)], args := [d1, d2, d3, d4] }
  | _ => none }
def PartAlikeWrongFalsely : Prop := partAlikeRow.holds Tryz.pinned (OpenSpec.ofChange partAlikeWrong)

/-- 'horariumlaw19.PartNumbers': WHATEVER THE INPUT: true; the input reads as it did. -/
def partNumbersSpec : ChangeSpec := { name := "partNumbers", fn := fun _ => fun
  | [] => { results := [.lit (.bool true)], args := [] }
  | _ => none }
def partNumbersRow : OpenClaim := { program := "ytlcknhidblndnaagreat", sum := "556fe83297cee45047cb5c2ffb1a67365fe9681d2540220b91453b3faa9c492b", func := "horarium/horariumlaw19.PartNumbers", spec := "partNumbers", unfollowed := true, recurses := true, apart := false }
def PartNumbersSaid : Prop := partNumbersRow.holds Tryz.pinned (OpenSpec.ofChange partNumbersSpec)

/-- ITS FALSE NEIGHBOUR: 'it returns false'. Refute it at one input. -/
def partNumbersWrong : ChangeSpec := { name := "partNumbers", fn := fun _ => fun
  | [] => { results := [.lit (.bool false)], args := [] }
  | _ => none }
def PartNumbersWrongFalsely : Prop := partNumbersRow.holds Tryz.pinned (OpenSpec.ofChange partNumbersWrong)

/-- 'horariumlaw19.PartPlays': WHATEVER THE INPUT: true; the input reads as it did. -/
def partPlaysSpec : ChangeSpec := { name := "partPlays", fn := fun _ => fun
  | [d1, d2, d3, d4, d5] => { results := [.lit (.bool true)], args := [d1, d2, d3, d4, d5] }
  | _ => none }
def partPlaysRow : OpenClaim := { program := "ytlcknhidblndnaagreat", sum := "556fe83297cee45047cb5c2ffb1a67365fe9681d2540220b91453b3faa9c492b", func := "horarium/horariumlaw19.PartPlays", spec := "partPlays", unfollowed := true, recurses := true, apart := false }
def PartPlaysSaid : Prop := partPlaysRow.holds Tryz.pinned (OpenSpec.ofChange partPlaysSpec)

/-- ITS FALSE NEIGHBOUR: 'it returns false'. Refute it at one input. -/
def partPlaysWrong : ChangeSpec := { name := "partPlays", fn := fun _ => fun
  | [d1, d2, d3, d4, d5] => { results := [.lit (.bool false)], args := [d1, d2, d3, d4, d5] }
  | _ => none }
def PartPlaysWrongFalsely : Prop := partPlaysRow.holds Tryz.pinned (OpenSpec.ofChange partPlaysWrong)

/-- 'horariumlaw19.PartRestarts': WHATEVER THE INPUT: true; the input reads as it did. -/
def partRestartsSpec : ChangeSpec := { name := "partRestarts", fn := fun _ => fun
  | [d1, d2] => { results := [.lit (.bool true)], args := [d1, d2] }
  | _ => none }
def partRestartsRow : OpenClaim := { program := "ytlcknhidblndnaagreat", sum := "556fe83297cee45047cb5c2ffb1a67365fe9681d2540220b91453b3faa9c492b", func := "horarium/horariumlaw19.PartRestarts", spec := "partRestarts", unfollowed := true, recurses := true, apart := false }
def PartRestartsSaid : Prop := partRestartsRow.holds Tryz.pinned (OpenSpec.ofChange partRestartsSpec)

/-- ITS FALSE NEIGHBOUR: 'it returns false'. Refute it at one input. -/
def partRestartsWrong : ChangeSpec := { name := "partRestarts", fn := fun _ => fun
  | [d1, d2] => { results := [.lit (.bool false)], args := [d1, d2] }
  | _ => none }
def PartRestartsWrongFalsely : Prop := partRestartsRow.holds Tryz.pinned (OpenSpec.ofChange partRestartsWrong)

/-- 'horariumlaw19.PartReckons': WHATEVER THE INPUT: true; the input reads as it did. -/
def partReckonsSpec : ChangeSpec := { name := "partReckons", fn := fun _ => fun
  | [d1, d2, d3] => { results := [.lit (.bool true)], args := [d1, d2, d3] }
  | _ => none }
def partReckonsRow : OpenClaim := { program := "ytlcknhidblndnaagreat", sum := "556fe83297cee45047cb5c2ffb1a67365fe9681d2540220b91453b3faa9c492b", func := "horarium/horariumlaw19.PartReckons", spec := "partReckons", unfollowed := true, recurses := true, apart := false }
def PartReckonsSaid : Prop := partReckonsRow.holds Tryz.pinned (OpenSpec.ofChange partReckonsSpec)

/-- ITS FALSE NEIGHBOUR: 'it returns false'. Refute it at one input. -/
def partReckonsWrong : ChangeSpec := { name := "partReckons", fn := fun _ => fun
  | [d1, d2, d3] => { results := [.lit (.bool false)], args := [d1, d2, d3] }
  | _ => none }
def PartReckonsWrongFalsely : Prop := partReckonsRow.holds Tryz.pinned (OpenSpec.ofChange partReckonsWrong)

/- THE SECOND FORM. 'bulk': how many values and letters a reading holds, each counted each time it is reached (what is shared counts as often as it is met; a slice's spare places count too). A statement '..UptoSaid' is the law's where the arguments, and the package variables that the reading takes, are together of bulk at most 1048576: NARROWER than '..Said'. Prove '..Said' where nothing that the law and all that it calls make is longer than what came in: it says more and counts as full. Else prove '..UptoSaid'. A law counts once. -/
mutual
def uptoBulk {H : Type} : DataW H → Nat
  | .lit (.string bytes) => bytes.length + 1
  | .lit _ => 1
  | .nil => 1
  | .ptr d => uptoBulk d + 1
  | .slice elems spare => uptoBulkAll elems + uptoBulkAll spare + 1
  | .agg parts => uptoBulkAll parts + 1
  | .iface _ d => uptoBulk d + 1
  | .map entries => uptoBulkEntries entries + 1
  | .held _ => 1
def uptoBulkAll {H : Type} : List (DataW H) → Nat
  | [] => 0
  | d :: r => uptoBulk d + uptoBulkAll r
def uptoBulkEntries {H : Type} : List (Lit × DataW H) → Nat
  | [] => 0
  | x :: r => uptoBulkEntry x + uptoBulkEntries r
def uptoBulkEntry {H : Type} : Lit × DataW H → Nat
  | (.string bytes, d) => bytes.length + uptoBulk d + 1
  | (_, d) => uptoBulk d + 1
 end
def uptoSmall : (H : Type) → List (DataW H) → Bool := fun _ ds => decide (uptoBulkAll ds ≤ 1048576)
def OpenSpec.upto (s : _root_.Go.ChangeSpec) : _root_.Go.OpenSpec := { _root_.Go.OpenSpec.ofChange s with cond := some uptoSmall }

/-- 'horariumlaw19.PartBlind', WHERE WHAT IT READS IS OF BULK AT MOST 1048576: true; the input reads as it did. -/
def partBlindUptoRow : OpenClaim := { program := "ytlcknhidblndnaagreat", sum := "556fe83297cee45047cb5c2ffb1a67365fe9681d2540220b91453b3faa9c492b", func := "horarium/horariumlaw19.PartBlind", spec := "partBlind", unfollowed := true, recurses := true, apart := false, narrowed := true }
def PartBlindUptoSaid : Prop := partBlindUptoRow.holds Tryz.pinned (OpenSpec.upto partBlindSpec)

/-- 'horariumlaw19.PartWaits', WHERE WHAT IT READS IS OF BULK AT MOST 1048576: true; the input reads as it did. -/
def partWaitsUptoRow : OpenClaim := { program := "ytlcknhidblndnaagreat", sum := "556fe83297cee45047cb5c2ffb1a67365fe9681d2540220b91453b3faa9c492b", func := "horarium/horariumlaw19.PartWaits", spec := "partWaits", unfollowed := true, recurses := true, apart := false, narrowed := true }
def PartWaitsUptoSaid : Prop := partWaitsUptoRow.holds Tryz.pinned (OpenSpec.upto partWaitsSpec)

/-- 'horariumlaw19.PartAlike', WHERE WHAT IT READS IS OF BULK AT MOST 1048576: true; the input reads as it did. -/
def partAlikeUptoRow : OpenClaim := { program := "ytlcknhidblndnaagreat", sum := "556fe83297cee45047cb5c2ffb1a67365fe9681d2540220b91453b3faa9c492b", func := "horarium/horariumlaw19.PartAlike", spec := "partAlike", unfollowed := true, recurses := true, apart := false, narrowed := true }
def PartAlikeUptoSaid : Prop := partAlikeUptoRow.holds Tryz.pinned (OpenSpec.upto partAlikeSpec)

/-- 'horariumlaw19.PartNumbers', WHERE WHAT IT READS IS OF BULK AT MOST 1048576: true; the input reads as it did. -/
def partNumbersUptoRow : OpenClaim := { program := "ytlcknhidblndnaagreat", sum := "556fe83297cee45047cb5c2ffb1a67365fe9681d2540220b91453b3faa9c492b", func := "horarium/horariumlaw19.PartNumbers", spec := "partNumbers", unfollowed := true, recurses := true, apart := false, narrowed := true }
def PartNumbersUptoSaid : Prop := partNumbersUptoRow.holds Tryz.pinned (OpenSpec.upto partNumbersSpec)

/-- 'horariumlaw19.PartPlays', WHERE WHAT IT READS IS OF BULK AT MOST 1048576: true; the input reads as it did. -/
def partPlaysUptoRow : OpenClaim := { program := "ytlcknhidblndnaagreat", sum := "556fe83297cee45047cb5c2ffb1a67365fe9681d2540220b91453b3faa9c492b", func := "horarium/horariumlaw19.PartPlays", spec := "partPlays", unfollowed := true, recurses := true, apart := false, narrowed := true }
def PartPlaysUptoSaid : Prop := partPlaysUptoRow.holds Tryz.pinned (OpenSpec.upto partPlaysSpec)

/-- 'horariumlaw19.PartRestarts', WHERE WHAT IT READS IS OF BULK AT MOST 1048576: true; the input reads as it did. -/
def partRestartsUptoRow : OpenClaim := { program := "ytlcknhidblndnaagreat", sum := "556fe83297cee45047cb5c2ffb1a67365fe9681d2540220b91453b3faa9c492b", func := "horarium/horariumlaw19.PartRestarts", spec := "partRestarts", unfollowed := true, recurses := true, apart := false, narrowed := true }
def PartRestartsUptoSaid : Prop := partRestartsUptoRow.holds Tryz.pinned (OpenSpec.upto partRestartsSpec)

/-- 'horariumlaw19.PartReckons', WHERE WHAT IT READS IS OF BULK AT MOST 1048576: true; the input reads as it did. -/
def partReckonsUptoRow : OpenClaim := { program := "ytlcknhidblndnaagreat", sum := "556fe83297cee45047cb5c2ffb1a67365fe9681d2540220b91453b3faa9c492b", func := "horarium/horariumlaw19.PartReckons", spec := "partReckons", unfollowed := true, recurses := true, apart := false, narrowed := true }
def PartReckonsUptoSaid : Prop := partReckonsUptoRow.holds Tryz.pinned (OpenSpec.upto partReckonsSpec)

end Rows
end Go.Proofs.YtlcknhidblndnaaGreat
