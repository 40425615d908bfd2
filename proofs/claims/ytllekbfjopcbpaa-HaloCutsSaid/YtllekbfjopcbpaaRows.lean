/-
  No cell of these rows narrows 'for every input' (looked for: loops, veiled, ifaces, maps, wideKeys, modest, calm, conditions, laid).
  DERIVED. THE GIVEN ROWS OF THIS SEAT. 8 by the template 'for every input the law returns true; each argument reads behind the call as it read before'; 0 by the template 'total and deterministic' (their statements: YtllekbfjopcbpaaTotals.lean).
  GIVEN WITH THE SEED: the statements are not yours to turn. If you find one false, say at which input.
  Laid BY PROGRAM, IN A SANDBOX (cutbox-rows.mjs): the forced cells as the released guide's own fill.sh prints them over the translation 3b15755ef4c635d9… (all of the seat's roots in one cut). By AI agents, Wed Nov 11 2026. No macro, syntax, notation, axiom, sorry.
-/
import Derived.Test.YtllekbfjopcbpaaChecked
import GoSem.Claim
import GoSem.ClaimJoined
import GoSem.ClaimMapViews
import Derived.JoinedTies
import Derived.KernelRfl
namespace Go.Proofs.Ytllekbfjopcbpaa
/- THE CELL 'sum', in the pinned program and in every row, IS THE sha256 OF THE DUMP (.gsa) THAT YtllekbfjopcbpaaProg.lean LOADS. Nothing in Lean hashes anything: it is a label: what it is worth is what the hold of that sum in a sandbox is worth. -/
noncomputable def Try.pinned : Pinned := { name := "ytllekbfjopcbpaa", sum := "3b15755ef4c635d981b8acbb9eadeeaf794802b1ac409bb7d454b1b8d2ec9a0e", checked := Try.checked }
namespace Rows
def none {H : Type} : Left H := { results := [], args := [] }

/-- 'quiltlaw01.FixedRounds': WHATEVER THE INPUT: true; the input reads as it did. -/
def fixedRoundsSpec : ChangeSpec := { name := "fixedRounds", fn := fun _ => fun
  | [d1, d2] => { results := [.lit (.bool true)], args := [d1, d2] }
  | _ => none }
def fixedRoundsRow : OpenClaim := { program := "ytllekbfjopcbpaa", sum := "3b15755ef4c635d981b8acbb9eadeeaf794802b1ac409bb7d454b1b8d2ec9a0e", func := "quilt/quiltlaw01.FixedRounds", spec := "fixedRounds", unfollowed := true, recurses := true, apart := false }
def FixedRoundsSaid : Prop := fixedRoundsRow.holds Try.pinned (OpenSpec.ofChange fixedRoundsSpec)

/-- ITS FALSE NEIGHBOUR: 'it returns false'. Refute it at one input. -/
def fixedRoundsWrong : ChangeSpec := { name := "fixedRounds", fn := fun _ => fun
  | [d1, d2] => { results := [.lit (.bool false)], args := [d1, d2] }
  | _ => none }
def FixedRoundsWrongFalsely : Prop := fixedRoundsRow.holds Try.pinned (OpenSpec.ofChange fixedRoundsWrong)

/-- 'quiltlaw01.FixedRises': WHATEVER THE INPUT: true; the input reads as it did. -/
def fixedRisesSpec : ChangeSpec := { name := "fixedRises", fn := fun _ => fun
  | [d1, d2, d3] => { results := [.lit (.bool true)], args := [d1, d2, d3] }
  | _ => none }
def fixedRisesRow : OpenClaim := { program := "ytllekbfjopcbpaa", sum := "3b15755ef4c635d981b8acbb9eadeeaf794802b1ac409bb7d454b1b8d2ec9a0e", func := "quilt/quiltlaw01.FixedRises", spec := "fixedRises", unfollowed := true, recurses := true, apart := false }
def FixedRisesSaid : Prop := fixedRisesRow.holds Try.pinned (OpenSpec.ofChange fixedRisesSpec)

/-- ITS FALSE NEIGHBOUR: 'it returns false'. Refute it at one input. -/
def fixedRisesWrong : ChangeSpec := { name := "fixedRises", fn := fun _ => fun
  | [d1, d2, d3] => { results := [.lit (.bool false)], args := [d1, d2, d3] }
  | _ => none }
def FixedRisesWrongFalsely : Prop := fixedRisesRow.holds Try.pinned (OpenSpec.ofChange fixedRisesWrong)

/-- 'quiltlaw01.FixedHolds': WHATEVER THE INPUT: true; the input reads as it did. -/
def fixedHoldsSpec : ChangeSpec := { name := "fixedHolds", fn := fun _ => fun
  | [d] => { results := [.lit (.bool true)], args := [d] }
  | _ => none }
def fixedHoldsRow : OpenClaim := { program := "ytllekbfjopcbpaa", sum := "3b15755ef4c635d981b8acbb9eadeeaf794802b1ac409bb7d454b1b8d2ec9a0e", func := "quilt/quiltlaw01.FixedHolds", spec := "fixedHolds", unfollowed := true, recurses := true, apart := false }
def FixedHoldsSaid : Prop := fixedHoldsRow.holds Try.pinned (OpenSpec.ofChange fixedHoldsSpec)

/-- ITS FALSE NEIGHBOUR: 'it returns false'. Refute it at one input. -/
def fixedHoldsWrong : ChangeSpec := { name := "fixedHolds", fn := fun _ => fun
  | [d] => { results := [.lit (.bool false)], args := [d] }
  | _ => none }
def FixedHoldsWrongFalsely : Prop := fixedHoldsRow.holds Try.pinned (OpenSpec.ofChange fixedHoldsWrong)

/-- 'quiltlaw01.FixedShifts': WHATEVER THE INPUT: true; the input reads as it did. -/
def fixedShiftsSpec : ChangeSpec := { name := "fixedShifts", fn := fun _ => fun
  | [d1, d2] => { results := [.lit (.bool true)], args := [d1, d2] }
  | _ => none }
def fixedShiftsRow : OpenClaim := { program := "ytllekbfjopcbpaa", sum := "3b15755ef4c635d981b8acbb9eadeeaf794802b1ac409bb7d454b1b8d2ec9a0e", func := "quilt/quiltlaw01.FixedShifts", spec := "fixedShifts", unfollowed := true, recurses := true, apart := false }
def FixedShiftsSaid : Prop := fixedShiftsRow.holds Try.pinned (OpenSpec.ofChange fixedShiftsSpec)

/-- ITS FALSE NEIGHBOUR: 'it returns false'. Refute it at one input. -/
def fixedShiftsWrong : ChangeSpec := { name := "fixedShifts", fn := fun _ => fun
  | [d1, d2] => { results := [.lit (.bool false)], args := [d1, d2] }
  | _ => none }
def FixedShiftsWrongFalsely : Prop := fixedShiftsRow.holds Try.pinned (OpenSpec.ofChange fixedShiftsWrong)

/-- 'quiltlaw01.FixedWhole': WHATEVER THE INPUT: true; the input reads as it did. -/
def fixedWholeSpec : ChangeSpec := { name := "fixedWhole", fn := fun _ => fun
  | [d1, d2, d3] => { results := [.lit (.bool true)], args := [d1, d2, d3] }
  | _ => none }
def fixedWholeRow : OpenClaim := { program := "ytllekbfjopcbpaa", sum := "3b15755ef4c635d981b8acbb9eadeeaf794802b1ac409bb7d454b1b8d2ec9a0e", func := "quilt/quiltlaw01.FixedWhole", spec := "fixedWhole", unfollowed := true, recurses := true, apart := false }
def FixedWholeSaid : Prop := fixedWholeRow.holds Try.pinned (OpenSpec.ofChange fixedWholeSpec)

/-- ITS FALSE NEIGHBOUR: 'it returns false'. Refute it at one input. -/
def fixedWholeWrong : ChangeSpec := { name := "fixedWhole", fn := fun _ => fun
  | [d1, d2, d3] => { results := [.lit (.bool false)], args := [d1, d2, d3] }
  | _ => none }
def FixedWholeWrongFalsely : Prop := fixedWholeRow.holds Try.pinned (OpenSpec.ofChange fixedWholeWrong)

/-- 'quiltlaw01.FixedTurns': WHATEVER THE INPUT: true; the input reads as it did. -/
def fixedTurnsSpec : ChangeSpec := { name := "fixedTurns", fn := fun _ => fun
  | [d1, d2, d3] => { results := [.lit (.bool true)], args := [d1, d2, d3] }
  | _ => none }
def fixedTurnsRow : OpenClaim := { program := "ytllekbfjopcbpaa", sum := "3b15755ef4c635d981b8acbb9eadeeaf794802b1ac409bb7d454b1b8d2ec9a0e", func := "quilt/quiltlaw01.FixedTurns", spec := "fixedTurns", unfollowed := true, recurses := true, apart := false }
def FixedTurnsSaid : Prop := fixedTurnsRow.holds Try.pinned (OpenSpec.ofChange fixedTurnsSpec)

/-- ITS FALSE NEIGHBOUR: 'it returns false'. Refute it at one input. -/
def fixedTurnsWrong : ChangeSpec := { name := "fixedTurns", fn := fun _ => fun
  | [d1, d2, d3] => { results := [.lit (.bool false)], args := [d1, d2, d3] }
  | _ => none }
def FixedTurnsWrongFalsely : Prop := fixedTurnsRow.holds Try.pinned (OpenSpec.ofChange fixedTurnsWrong)

/-- 'quiltlaw15.HaloTiles': WHATEVER THE INPUT: true; the input reads as it did. -/
def haloTilesSpec : ChangeSpec := { name := "haloTiles", fn := fun _ => fun
  | [d1, d2, d3] => { results := [.lit (.bool true)], args := [d1, d2, d3] }
  | _ => none }
def haloTilesRow : OpenClaim := { program := "ytllekbfjopcbpaa", sum := "3b15755ef4c635d981b8acbb9eadeeaf794802b1ac409bb7d454b1b8d2ec9a0e", func := "quilt/quiltlaw15.HaloTiles", spec := "haloTiles", apart := false }
def HaloTilesSaid : Prop := haloTilesRow.holds Try.pinned (OpenSpec.ofChange haloTilesSpec)

/-- ITS FALSE NEIGHBOUR: 'it returns false'. Refute it at one input. -/
def haloTilesWrong : ChangeSpec := { name := "haloTiles", fn := fun _ => fun
  | [d1, d2, d3] => { results := [.lit (.bool false)], args := [d1, d2, d3] }
  | _ => none }
def HaloTilesWrongFalsely : Prop := haloTilesRow.holds Try.pinned (OpenSpec.ofChange haloTilesWrong)

/-- 'quiltlaw15.HaloCuts': WHATEVER THE INPUT: true; the input reads as it did. -/
def haloCutsSpec : ChangeSpec := { name := "haloCuts", fn := fun _ => fun
  | [d1, d2] => { results := [.lit (.bool true)], args := [d1, d2] }
  | _ => none }
def haloCutsRow : OpenClaim := { program := "ytllekbfjopcbpaa", sum := "3b15755ef4c635d981b8acbb9eadeeaf794802b1ac409bb7d454b1b8d2ec9a0e", func := "quilt/quiltlaw15.HaloCuts", spec := "haloCuts", apart := false }
def HaloCutsSaid : Prop := haloCutsRow.holds Try.pinned (OpenSpec.ofChange haloCutsSpec)

/-- ITS FALSE NEIGHBOUR: 'it returns false'. Refute it at one input. -/
def haloCutsWrong : ChangeSpec := { name := "haloCuts", fn := fun _ => fun
  | [d1, d2] => { results := [.lit (.bool false)], args := [d1, d2] }
  | _ => none }
def HaloCutsWrongFalsely : Prop := haloCutsRow.holds Try.pinned (OpenSpec.ofChange haloCutsWrong)

/- THE SECOND FORM. 'bulk': how many values and letters a reading holds, each counted each time it is reached (what is shared counts as often as it is met; a slice's spare places count too). A statement '..UptoSaid' is the law's where the arguments, and the package variables that the reading takes, are together of bulk at most 1048576: NARROWER than '..Said'. Prove '..Said' where nothing that the law and all that it calls make is longer than what came in: it says more and counts as full. Else prove '..UptoSaid'. A law counts once. -/
mutual
def uptoBulk {H : Type} : DataW H → Nat
  | .lit (.string bytes) => bytes.length + 1
  | .lit _ => 1
  | .nil => 1
  | .ptr d => uptoBulk d + 1
  | .slice elems spare => uptoBulkAll elems + uptoBulkAll spare + 1
  | .agg parts => uptoBulkAll parts + 1
  | .iface _ d => uptoBulk d + 1
  | .map entries => uptoBulkEntries entries + 1
  | .held _ => 1
def uptoBulkAll {H : Type} : List (DataW H) → Nat
  | [] => 0
  | d :: r => uptoBulk d + uptoBulkAll r
def uptoBulkEntries {H : Type} : List (Lit × DataW H) → Nat
  | [] => 0
  | x :: r => uptoBulkEntry x + uptoBulkEntries r
def uptoBulkEntry {H : Type} : Lit × DataW H → Nat
  | (.string bytes, d) => bytes.length + uptoBulk d + 1
  | (_, d) => uptoBulk d + 1
 end
def uptoSmall : (H : Type) → List (DataW H) → Bool := fun _ ds => decide (uptoBulkAll ds ≤ 1048576)
def OpenSpec.upto (s : _root_.Go.ChangeSpec) : _root_.Go.OpenSpec := { _root_.Go.OpenSpec.ofChange s with cond := some uptoSmall }

/-- 'quiltlaw01.FixedRounds', WHERE WHAT IT READS IS OF BULK AT MOST 1048576: true; the input reads as it did. -/
def fixedRoundsUptoRow : OpenClaim := { program := "ytllekbfjopcbpaa", sum := "3b15755ef4c635d981b8acbb9eadeeaf794802b1ac409bb7d454b1b8d2ec9a0e", func := "quilt/quiltlaw01.FixedRounds", spec := "fixedRounds", unfollowed := true, recurses := true, apart := false, narrowed := true }
def FixedRoundsUptoSaid : Prop := fixedRoundsUptoRow.holds Try.pinned (OpenSpec.upto fixedRoundsSpec)

/-- 'quiltlaw01.FixedRises', WHERE WHAT IT READS IS OF BULK AT MOST 1048576: true; the input reads as it did. -/
def fixedRisesUptoRow : OpenClaim := { program := "ytllekbfjopcbpaa", sum := "3b15755ef4c635d981b8acbb9eadeeaf794802b1ac409bb7d454b1b8d2ec9a0e", func := "quilt/quiltlaw01.FixedRises", spec := "fixedRises", unfollowed := true, recurses := true, apart := false, narrowed := true }
def FixedRisesUptoSaid : Prop := fixedRisesUptoRow.holds Try.pinned (OpenSpec.upto fixedRisesSpec)

/-- 'quiltlaw01.FixedHolds', WHERE WHAT IT READS IS OF BULK AT MOST 1048576: true; the input reads as it did. -/
def fixedHoldsUptoRow : OpenClaim := { program := "ytllekbfjopcbpaa", sum := "3b15755ef4c635d981b8acbb9eadeeaf794802b1ac409bb7d454b1b8d2ec9a0e", func := "quilt/quiltlaw01.FixedHolds", spec := "fixedHolds", unfollowed := true, recurses := true, apart := false, narrowed := true }
def FixedHoldsUptoSaid : Prop := fixedHoldsUptoRow.holds Try.pinned (OpenSpec.upto fixedHoldsSpec)

/-- 'quiltlaw01.FixedShifts', WHERE WHAT IT READS IS OF BULK AT MOST 1048576: true; the input reads as it did. -/
def fixedShiftsUptoRow : OpenClaim := { program := "ytllekbfjopcbpaa", sum := "3b15755ef4c635d981b8acbb9eadeeaf794802b1ac409bb7d454b1b8d2ec9a0e", func := "quilt/quiltlaw01.FixedShifts", spec := "fixedShifts", unfollowed := true, recurses := true, apart := false, narrowed := true }
def FixedShiftsUptoSaid : Prop := fixedShiftsUptoRow.holds Try.pinned (OpenSpec.upto fixedShiftsSpec)

/-- 'quiltlaw01.FixedWhole', WHERE WHAT IT READS IS OF BULK AT MOST 1048576: true; the input reads as it did. -/
def fixedWholeUptoRow : OpenClaim := { program := "ytllekbfjopcbpaa", sum := "3b15755ef4c635d981b8acbb9eadeeaf794802b1ac409bb7d454b1b8d2ec9a0e", func := "quilt/quiltlaw01.FixedWhole", spec := "fixedWhole", unfollowed := true, recurses := true, apart := false, narrowed := true }
def FixedWholeUptoSaid : Prop := fixedWholeUptoRow.holds Try.pinned (OpenSpec.upto fixedWholeSpec)

/-- 'quiltlaw01.FixedTurns', WHERE WHAT IT READS IS OF BULK AT MOST 1048576: true; the input reads as it did. -/
def fixedTurnsUptoRow : OpenClaim := { program := "ytllekbfjopcbpaa", sum := "3b15755ef4c635d981b8acbb9eadeeaf794802b1ac409bb7d454b1b8d2ec9a0e", func := "quilt/quiltlaw01.FixedTurns", spec := "fixedTurns", unfollowed := true, recurses := true, apart := false, narrowed := true }
def FixedTurnsUptoSaid : Prop := fixedTurnsUptoRow.holds Try.pinned (OpenSpec.upto fixedTurnsSpec)

/-- 'quiltlaw15.HaloTiles', WHERE WHAT IT READS IS OF BULK AT MOST 1048576: true; the input reads as it did. -/
def haloTilesUptoRow : OpenClaim := { program := "ytllekbfjopcbpaa", sum := "3b15755ef4c635d981b8acbb9eadeeaf794802b1ac409bb7d454b1b8d2ec9a0e", func := "quilt/quiltlaw15.HaloTiles", spec := "haloTiles", apart := false, narrowed := true }
def HaloTilesUptoSaid : Prop := haloTilesUptoRow.holds Try.pinned (OpenSpec.upto haloTilesSpec)

/-- 'quiltlaw15.HaloCuts', WHERE WHAT IT READS IS OF BULK AT MOST 1048576: true; the input reads as it did. -/
def haloCutsUptoRow : OpenClaim := { program := "ytllekbfjopcbpaa", sum := "3b15755ef4c635d981b8acbb9eadeeaf794802b1ac409bb7d454b1b8d2ec9a0e", func := "quilt/quiltlaw15.HaloCuts", spec := "haloCuts", apart := false, narrowed := true }
def HaloCutsUptoSaid : Prop := haloCutsUptoRow.holds Try.pinned (OpenSpec.upto haloCutsSpec)

end Rows
end Go.Proofs.Ytllekbfjopcbpaa
