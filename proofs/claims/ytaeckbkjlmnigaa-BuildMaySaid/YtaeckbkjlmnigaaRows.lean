/-
  No cell of these rows narrows 'for every input' (looked for: loops, veiled, ifaces, maps, wideKeys, modest, calm, conditions, laid).
  DERIVED. THE GIVEN ROWS OF THIS SEAT. 5 by the template 'for every input the law returns true; each argument reads behind the call as it read before'; 0 by the template 'total and deterministic' (their statements: YtaeckbkjlmnigaaTotals.lean).
  GIVEN WITH THE SEED: the statements are not yours to turn. If you find one false, say at which input.
  Laid BY PROGRAM, IN A SANDBOX (cutbox-rows.mjs): the forced cells as the released guide's own fill.sh prints them over the translation bcd11f644354ea9f… (all of the seat's roots in one cut). By AI agents, Wed Nov 11 2026. No macro, syntax, notation, axiom, sorry.
-/
import Derived.Test.YtaeckbkjlmnigaaChecked
import GoSem.Claim
import GoSem.ClaimJoined
import GoSem.ClaimMapViews
import Derived.JoinedTies
import Derived.KernelRfl
namespace Go.Proofs.Ytaeckbkjlmnigaa
/- THE CELL 'sum', in the pinned program and in every row, IS THE sha256 OF THE DUMP (.gsa) THAT YtaeckbkjlmnigaaProg.lean LOADS. Nothing in Lean hashes anything: it is a label: what it is worth is what the hold of that sum in a sandbox is worth. -/
noncomputable def Try.pinned : Pinned := { name := "ytaeckbkjlmnigaa", sum := "bcd11f644354ea9fa712ae8e3767b14d5bbc96f65345dffc9121c46a8c9ab080", checked := Try.checked }
namespace Rows
def none {H : Type} : Left H := { results := [], args := [] }

/-- 'quiltlaw19.BuildMay': WHATEVER THE INPUT: true; the input reads as it did. -/
def buildMaySpec : ChangeSpec := { name := "buildMay", fn := fun _ => fun
  | [d] => { results := [.lit (.bool true)], args := [d] }
  | _ => none }
def buildMayRow : OpenClaim := { program := "ytaeckbkjlmnigaa", sum := "bcd11f644354ea9fa712ae8e3767b14d5bbc96f65345dffc9121c46a8c9ab080", func := "quilt/quiltlaw19.BuildMay", spec := "buildMay", unfollowed := true, recurses := true, apart := false }
def BuildMaySaid : Prop := buildMayRow.holds Try.pinned (OpenSpec.ofChange buildMaySpec)

/-- ITS FALSE NEIGHBOUR: 'it returns false'. Refute it at one input. -/
def buildMayWrong : ChangeSpec := { name := "buildMay", fn := fun _ => fun
  | [d] => { results := [.lit (.bool false)], args := [d] }
  | _ => none }
def BuildMayWrongFalsely : Prop := buildMayRow.holds Try.pinned (OpenSpec.ofChange buildMayWrong)

/-- 'quiltlaw19.BuildAhead': WHATEVER THE INPUT: true; the input reads as it did. -/
def buildAheadSpec : ChangeSpec := { name := "buildAhead", fn := fun _ => fun
  | [d] => { results := [.lit (.bool true)], args := [d] }
  | _ => none }
def buildAheadRow : OpenClaim := { program := "ytaeckbkjlmnigaa", sum := "bcd11f644354ea9fa712ae8e3767b14d5bbc96f65345dffc9121c46a8c9ab080", func := "quilt/quiltlaw19.BuildAhead", spec := "buildAhead", unfollowed := true, recurses := true, apart := false }
def BuildAheadSaid : Prop := buildAheadRow.holds Try.pinned (OpenSpec.ofChange buildAheadSpec)

/-- ITS FALSE NEIGHBOUR: 'it returns false'. Refute it at one input. -/
def buildAheadWrong : ChangeSpec := { name := "buildAhead", fn := fun _ => fun
  | [d] => { results := [.lit (.bool false)], args := [d] }
  | _ => none }
def BuildAheadWrongFalsely : Prop := buildAheadRow.holds Try.pinned (OpenSpec.ofChange buildAheadWrong)

/-- 'quiltlaw19.BuildTwice': WHATEVER THE INPUT: true; the input reads as it did. -/
def buildTwiceSpec : ChangeSpec := { name := "buildTwice", fn := fun _ => fun
  | [d] => { results := [.lit (.bool true)], args := [d] }
  | _ => none }
def buildTwiceRow : OpenClaim := { program := "ytaeckbkjlmnigaa", sum := "bcd11f644354ea9fa712ae8e3767b14d5bbc96f65345dffc9121c46a8c9ab080", func := "quilt/quiltlaw19.BuildTwice", spec := "buildTwice", unfollowed := true, recurses := true, apart := false }
def BuildTwiceSaid : Prop := buildTwiceRow.holds Try.pinned (OpenSpec.ofChange buildTwiceSpec)

/-- ITS FALSE NEIGHBOUR: 'it returns false'. Refute it at one input. -/
def buildTwiceWrong : ChangeSpec := { name := "buildTwice", fn := fun _ => fun
  | [d] => { results := [.lit (.bool false)], args := [d] }
  | _ => none }
def BuildTwiceWrongFalsely : Prop := buildTwiceRow.holds Try.pinned (OpenSpec.ofChange buildTwiceWrong)

/-- 'quiltlaw19.BuildTiles': WHATEVER THE INPUT: true; the input reads as it did. -/
def buildTilesSpec : ChangeSpec := { name := "buildTiles", fn := fun _ => fun
  | [d] => { results := [.lit (.bool true)], args := [d] }
  | _ => none }
def buildTilesRow : OpenClaim := { program := "ytaeckbkjlmnigaa", sum := "bcd11f644354ea9fa712ae8e3767b14d5bbc96f65345dffc9121c46a8c9ab080", func := "quilt/quiltlaw19.BuildTiles", spec := "buildTiles", unfollowed := true, recurses := true, apart := false }
def BuildTilesSaid : Prop := buildTilesRow.holds Try.pinned (OpenSpec.ofChange buildTilesSpec)

/-- ITS FALSE NEIGHBOUR: 'it returns false'. Refute it at one input. -/
def buildTilesWrong : ChangeSpec := { name := "buildTiles", fn := fun _ => fun
  | [d] => { results := [.lit (.bool false)], args := [d] }
  | _ => none }
def BuildTilesWrongFalsely : Prop := buildTilesRow.holds Try.pinned (OpenSpec.ofChange buildTilesWrong)

/-- 'quiltlaw19.BuildRows': WHATEVER THE INPUT: true; the input reads as it did. -/
def buildRowsSpec : ChangeSpec := { name := "buildRows", fn := fun _ => fun
  | [d] => { results := [.lit (.bool true)], args := [d] }
  | _ => none }
def buildRowsRow : OpenClaim := { program := "ytaeckbkjlmnigaa", sum := "bcd11f644354ea9fa712ae8e3767b14d5bbc96f65345dffc9121c46a8c9ab080", func := "quilt/quiltlaw19.BuildRows", spec := "buildRows", unfollowed := true, recurses := true, apart := false }
def BuildRowsSaid : Prop := buildRowsRow.holds Try.pinned (OpenSpec.ofChange buildRowsSpec)

/-- ITS FALSE NEIGHBOUR: 'it returns false'. Refute it at one input. -/
def buildRowsWrong : ChangeSpec := { name := "buildRows", fn := fun _ => fun
  | [d] => { results := [.lit (.bool false)], args := [d] }
  | _ => none }
def BuildRowsWrongFalsely : Prop := buildRowsRow.holds Try.pinned (OpenSpec.ofChange buildRowsWrong)

/- THE SECOND FORM. 'bulk': how many values and letters a reading holds, each counted each time it is reached (what is shared counts as often as it is met; a slice's spare places count too). A statement '..UptoSaid' is the law's where the arguments, and the package variables that the reading takes, are together of bulk at most 1048576: NARROWER than '..Said'. Prove '..Said' where nothing that the law and all that it calls make is longer than what came in: it says more and counts as full. Else prove '..UptoSaid'. A law counts once. -/
mutual
def uptoBulk {H : Type} : DataW H → Nat
  | .lit (.string bytes) => bytes.length + 1
  | .lit _ => 1
  | .nil => 1
  | .ptr d => uptoBulk d + 1
  | .slice elems spare => uptoBulkAll elems + uptoBulkAll spare + 1
  | .agg parts => uptoBulkAll parts + 1
  | .iface _ d => uptoBulk d + 1
  | .map entries => uptoBulkEntries entries + 1
  | .held _ => 1
def uptoBulkAll {H : Type} : List (DataW H) → Nat
  | [] => 0
  | d :: r => uptoBulk d + uptoBulkAll r
def uptoBulkEntries {H : Type} : List (Lit × DataW H) → Nat
  | [] => 0
  | x :: r => uptoBulkEntry x + uptoBulkEntries r
def uptoBulkEntry {H : Type} : Lit × DataW H → Nat
  | (.string bytes, d) => bytes.length + uptoBulk d + 1
  | (_, d) => uptoBulk d + 1
 end
def uptoSmall : (H : Type) → List (DataW H) → Bool := fun _ ds => decide (uptoBulkAll ds ≤ 1048576)
def OpenSpec.upto (s : _root_.Go.ChangeSpec) : _root_.Go.OpenSpec := { _root_.Go.OpenSpec.ofChange s with cond := some uptoSmall }

/-- 'quiltlaw19.BuildMay', WHERE WHAT IT READS IS OF BULK AT MOST 1048576: true; the input reads as it did. -/
def buildMayUptoRow : OpenClaim := { program := "ytaeckbkjlmnigaa", sum := "bcd11f644354ea9fa712ae8e3767b14d5bbc96f65345dffc9121c46a8c9ab080", func := "quilt/quiltlaw19.BuildMay", spec := "buildMay", unfollowed := true, recurses := true, apart := false, narrowed := true }
def BuildMayUptoSaid : Prop := buildMayUptoRow.holds Try.pinned (OpenSpec.upto buildMaySpec)

/-- 'quiltlaw19.BuildAhead', WHERE WHAT IT READS IS OF BULK AT MOST 1048576: true; the input reads as it did. -/
def buildAheadUptoRow : OpenClaim := { program := "ytaeckbkjlmnigaa", sum := "bcd11f644354ea9fa712ae8e3767b14d5bbc96f65345dffc9121c46a8c9ab080", func := "quilt/quiltlaw19.BuildAhead", spec := "buildAhead", unfollowed := true, recurses := true, apart := false, narrowed := true }
def BuildAheadUptoSaid : Prop := buildAheadUptoRow.holds Try.pinned (OpenSpec.upto buildAheadSpec)

/-- 'quiltlaw19.BuildTwice', WHERE WHAT IT READS IS OF BULK AT MOST 1048576: true; the input reads as it did. -/
def buildTwiceUptoRow : OpenClaim := { program := "ytaeckbkjlmnigaa", sum := "bcd11f644354ea9fa712ae8e3767b14d5bbc96f65345dffc9121c46a8c9ab080", func := "quilt/quiltlaw19.BuildTwice", spec := "buildTwice", unfollowed := true, recurses := true, apart := false, narrowed := true }
def BuildTwiceUptoSaid : Prop := buildTwiceUptoRow.holds Try.pinned (OpenSpec.upto buildTwiceSpec)

/-- 'quiltlaw19.BuildTiles', WHERE WHAT IT READS IS OF BULK AT MOST 1048576: true; the input reads as it did. -/
def buildTilesUptoRow : OpenClaim := { program := "ytaeckbkjlmnigaa", sum := "bcd11f644354ea9fa712ae8e3767b14d5bbc96f65345dffc9121c46a8c9ab080", func := "quilt/quiltlaw19.BuildTiles", spec := "buildTiles", unfollowed := true, recurses := true, apart := false, narrowed := true }
def BuildTilesUptoSaid : Prop := buildTilesUptoRow.holds Try.pinned (OpenSpec.upto buildTilesSpec)

/-- 'quiltlaw19.BuildRows', WHERE WHAT IT READS IS OF BULK AT MOST 1048576: true; the input reads as it did. -/
def buildRowsUptoRow : OpenClaim := { program := "ytaeckbkjlmnigaa", sum := "bcd11f644354ea9fa712ae8e3767b14d5bbc96f65345dffc9121c46a8c9ab080", func := "quilt/quiltlaw19.BuildRows", spec := "buildRows", unfollowed := true, recurses := true, apart := false, narrowed := true }
def BuildRowsUptoSaid : Prop := buildRowsUptoRow.holds Try.pinned (OpenSpec.upto buildRowsSpec)

end Rows
end Go.Proofs.Ytaeckbkjlmnigaa
