/-
  No cell of these rows narrows 'for every input' (looked for: loops, veiled, ifaces, maps, wideKeys, modest, calm, conditions, laid).
  DERIVED. THE GIVEN ROWS OF THIS SEAT. 7 by the template 'for every input the law returns true; each argument reads behind the call as it read before'; 0 by the template 'total and deterministic' (their statements: YtcmckbcpeocokaaTotals.lean).
  GIVEN WITH THE SEED: the statements are not yours to turn. If you find one false, say at which input.
  Laid BY PROGRAM, IN A SANDBOX (cutbox-rows.mjs): the forced cells as the released guide's own fill.sh prints them over the translation 38e13574335022fa… (all of the seat's roots in one cut). By AI agents, Wed Nov 11 2026. No macro, syntax, notation, axiom, sorry.
-/
import Derived.Test.YtcmckbcpeocokaaChecked
import GoSem.Claim
import GoSem.ClaimJoined
import GoSem.ClaimMapViews
import Derived.JoinedTies
import Derived.KernelRfl
namespace Go.Proofs.Ytcmckbcpeocokaa
/- THE CELL 'sum', in the pinned program and in every row, IS THE sha256 OF THE DUMP (.gsa) THAT YtcmckbcpeocokaaProg.lean LOADS. Nothing in Lean hashes anything: it is a label: what it is worth is what the hold of that sum in a sandbox is worth. -/
noncomputable def Try.pinned : Pinned := { name := "ytcmckbcpeocokaa", sum := "38e13574335022fa49ec8e12eedd0714604ca0309c0eb40784d2545aaf4fb0cf", checked := Try.checked }
namespace Rows
def none {H : Type} : Left H := { results := [], args := [] }

/-- 'quiltlaw03.GraphValues': WHATEVER THE INPUT: true; the input reads as it did. -/
def graphValuesSpec : ChangeSpec := { name := "graphValues", fn := fun _ => fun
  | [d1, d2] => { results := [.lit (.bool true)], args := [d1, d2] }
  | _ => none }
def graphValuesRow : OpenClaim := { program := "ytcmckbcpeocokaa", sum := "38e13574335022fa49ec8e12eedd0714604ca0309c0eb40784d2545aaf4fb0cf", func := "quilt/quiltlaw03.GraphValues", spec := "graphValues", unfollowed := true, recurses := true, apart := false }
def GraphValuesSaid : Prop := graphValuesRow.holds Try.pinned (OpenSpec.ofChange graphValuesSpec)

/-- ITS FALSE NEIGHBOUR: 'it returns false'. Refute it at one input. -/
def graphValuesWrong : ChangeSpec := { name := "graphValues", fn := fun _ => fun
  | [d1, d2] => { results := [.lit (.bool false)], args := [d1, d2] }
  | _ => none }
def GraphValuesWrongFalsely : Prop := graphValuesRow.holds Try.pinned (OpenSpec.ofChange graphValuesWrong)

/-- 'quiltlaw03.GraphPairs': WHATEVER THE INPUT: true; the input reads as it did. -/
def graphPairsSpec : ChangeSpec := { name := "graphPairs", fn := fun _ => fun
  | [d1, d2, d3] => { results := [.lit (.bool true)], args := [d1, d2, d3] }
  | _ => none }
def graphPairsRow : OpenClaim := { program := "ytcmckbcpeocokaa", sum := "38e13574335022fa49ec8e12eedd0714604ca0309c0eb40784d2545aaf4fb0cf", func := "quilt/quiltlaw03.GraphPairs", spec := "graphPairs", unfollowed := true, recurses := true, apart := false }
def GraphPairsSaid : Prop := graphPairsRow.holds Try.pinned (OpenSpec.ofChange graphPairsSpec)

/-- ITS FALSE NEIGHBOUR: 'it returns false'. Refute it at one input. -/
def graphPairsWrong : ChangeSpec := { name := "graphPairs", fn := fun _ => fun
  | [d1, d2, d3] => { results := [.lit (.bool false)], args := [d1, d2, d3] }
  | _ => none }
def GraphPairsWrongFalsely : Prop := graphPairsRow.holds Try.pinned (OpenSpec.ofChange graphPairsWrong)

/-- 'quiltlaw03.GraphKeeps': WHATEVER THE INPUT: true; the input reads as it did. -/
def graphKeepsSpec : ChangeSpec := { name := "graphKeeps", fn := fun _ => fun
  | [d1, d2, d3] => { results := [.lit (.bool true)], args := [d1, d2, d3] }
  | _ => none }
def graphKeepsRow : OpenClaim := { program := "ytcmckbcpeocokaa", sum := "38e13574335022fa49ec8e12eedd0714604ca0309c0eb40784d2545aaf4fb0cf", func := "quilt/quiltlaw03.GraphKeeps", spec := "graphKeeps", unfollowed := true, recurses := true, apart := false }
def GraphKeepsSaid : Prop := graphKeepsRow.holds Try.pinned (OpenSpec.ofChange graphKeepsSpec)

/-- ITS FALSE NEIGHBOUR: 'it returns false'. Refute it at one input. -/
def graphKeepsWrong : ChangeSpec := { name := "graphKeeps", fn := fun _ => fun
  | [d1, d2, d3] => { results := [.lit (.bool false)], args := [d1, d2, d3] }
  | _ => none }
def GraphKeepsWrongFalsely : Prop := graphKeepsRow.holds Try.pinned (OpenSpec.ofChange graphKeepsWrong)

/-- 'quiltlaw03.GraphSame': WHATEVER THE INPUT: true; the input reads as it did. -/
def graphSameSpec : ChangeSpec := { name := "graphSame", fn := fun _ => fun
  | [d1, d2] => { results := [.lit (.bool true)], args := [d1, d2] }
  | _ => none }
def graphSameRow : OpenClaim := { program := "ytcmckbcpeocokaa", sum := "38e13574335022fa49ec8e12eedd0714604ca0309c0eb40784d2545aaf4fb0cf", func := "quilt/quiltlaw03.GraphSame", spec := "graphSame", unfollowed := true, recurses := true, apart := false }
def GraphSameSaid : Prop := graphSameRow.holds Try.pinned (OpenSpec.ofChange graphSameSpec)

/-- ITS FALSE NEIGHBOUR: 'it returns false'. Refute it at one input. -/
def graphSameWrong : ChangeSpec := { name := "graphSame", fn := fun _ => fun
  | [d1, d2] => { results := [.lit (.bool false)], args := [d1, d2] }
  | _ => none }
def GraphSameWrongFalsely : Prop := graphSameRow.holds Try.pinned (OpenSpec.ofChange graphSameWrong)

/-- 'quiltlaw03.GraphBounds': WHATEVER THE INPUT: true; the input reads as it did. -/
def graphBoundsSpec : ChangeSpec := { name := "graphBounds", fn := fun _ => fun
  | [d1, d2, d3] => { results := [.lit (.bool true)], args := [d1, d2, d3] }
  | _ => none }
def graphBoundsRow : OpenClaim := { program := "ytcmckbcpeocokaa", sum := "38e13574335022fa49ec8e12eedd0714604ca0309c0eb40784d2545aaf4fb0cf", func := "quilt/quiltlaw03.GraphBounds", spec := "graphBounds", unfollowed := true, recurses := true, apart := false }
def GraphBoundsSaid : Prop := graphBoundsRow.holds Try.pinned (OpenSpec.ofChange graphBoundsSpec)

/-- ITS FALSE NEIGHBOUR: 'it returns false'. Refute it at one input. -/
def graphBoundsWrong : ChangeSpec := { name := "graphBounds", fn := fun _ => fun
  | [d1, d2, d3] => { results := [.lit (.bool false)], args := [d1, d2, d3] }
  | _ => none }
def GraphBoundsWrongFalsely : Prop := graphBoundsRow.holds Try.pinned (OpenSpec.ofChange graphBoundsWrong)

/-- 'quiltlaw03.GraphMakes': WHATEVER THE INPUT: true; the input reads as it did. -/
def graphMakesSpec : ChangeSpec := { name := "graphMakes", fn := fun _ => fun
  | [d] => { results := [.lit (.bool true)], args := [d] }
  | _ => none }
def graphMakesRow : OpenClaim := { program := "ytcmckbcpeocokaa", sum := "38e13574335022fa49ec8e12eedd0714604ca0309c0eb40784d2545aaf4fb0cf", func := "quilt/quiltlaw03.GraphMakes", spec := "graphMakes", unfollowed := true, recurses := true, apart := false }
def GraphMakesSaid : Prop := graphMakesRow.holds Try.pinned (OpenSpec.ofChange graphMakesSpec)

/-- ITS FALSE NEIGHBOUR: 'it returns false'. Refute it at one input. -/
def graphMakesWrong : ChangeSpec := { name := "graphMakes", fn := fun _ => fun
  | [d] => { results := [.lit (.bool false)], args := [d] }
  | _ => none }
def GraphMakesWrongFalsely : Prop := graphMakesRow.holds Try.pinned (OpenSpec.ofChange graphMakesWrong)

/-- 'quiltlaw03.GraphUses': WHATEVER THE INPUT: true; the input reads as it did. -/
def graphUsesSpec : ChangeSpec := { name := "graphUses", fn := fun _ => fun
  | [d] => { results := [.lit (.bool true)], args := [d] }
  | _ => none }
def graphUsesRow : OpenClaim := { program := "ytcmckbcpeocokaa", sum := "38e13574335022fa49ec8e12eedd0714604ca0309c0eb40784d2545aaf4fb0cf", func := "quilt/quiltlaw03.GraphUses", spec := "graphUses", unfollowed := true, recurses := true, apart := false }
def GraphUsesSaid : Prop := graphUsesRow.holds Try.pinned (OpenSpec.ofChange graphUsesSpec)

/-- ITS FALSE NEIGHBOUR: 'it returns false'. Refute it at one input. -/
def graphUsesWrong : ChangeSpec := { name := "graphUses", fn := fun _ => fun
  | [d] => { results := [.lit (.bool false)], args := [d] }
  | _ => none }
def GraphUsesWrongFalsely : Prop := graphUsesRow.holds Try.pinned (OpenSpec.ofChange graphUsesWrong)

/- THE SECOND FORM. 'bulk': how many values and letters a reading holds, each counted each time it is reached (what is shared counts as often as it is met; a slice's spare places count too). A statement '..UptoSaid' is the law's where the arguments, and the package variables that the reading takes, are together of bulk at most 1048576: NARROWER than '..Said'. Prove '..Said' where nothing that the law and all that it calls make is longer than what came in: it says more and counts as full. Else prove '..UptoSaid'. A law counts once. -/
mutual
def uptoBulk {H : Type} : DataW H → Nat
  | .lit (.string bytes) => bytes.length + 1
  | .lit _ => 1
  | .nil => 1
  | .ptr d => uptoBulk d + 1
  | .slice elems spare => uptoBulkAll elems + uptoBulkAll spare + 1
  | .agg parts => uptoBulkAll parts + 1
  | .iface _ d => uptoBulk d + 1
  | .map entries => uptoBulkEntries entries + 1
  | .held _ => 1
def uptoBulkAll {H : Type} : List (DataW H) → Nat
  | [] => 0
  | d :: r => uptoBulk d + uptoBulkAll r
def uptoBulkEntries {H : Type} : List (Lit × DataW H) → Nat
  | [] => 0
  | x :: r => uptoBulkEntry x + uptoBulkEntries r
def uptoBulkEntry {H : Type} : Lit × DataW H → Nat
  | (.string bytes, d) => bytes.length + uptoBulk d + 1
  | (_, d) => uptoBulk d + 1
 end
def uptoSmall : (H : Type) → List (DataW H) → Bool := fun _ ds => decide (uptoBulkAll ds ≤ 1048576)
def OpenSpec.upto (s : _root_.Go.ChangeSpec) : _root_.Go.OpenSpec := { _root_.Go.OpenSpec.ofChange s with cond := some uptoSmall }

/-- 'quiltlaw03.GraphValues', WHERE WHAT IT READS IS OF BULK AT MOST 1048576: true; the input reads as it did. -/
def graphValuesUptoRow : OpenClaim := { program := "ytcmckbcpeocokaa", sum := "38e13574335022fa49ec8e12eedd0714604ca0309c0eb40784d2545aaf4fb0cf", func := "quilt/quiltlaw03.GraphValues", spec := "graphValues", unfollowed := true, recurses := true, apart := false, narrowed := true }
def GraphValuesUptoSaid : Prop := graphValuesUptoRow.holds Try.pinned (OpenSpec.upto graphValuesSpec)

/-- 'quiltlaw03.GraphPairs', WHERE WHAT IT READS IS OF BULK AT MOST 1048576: true; the input reads as it did. -/
def graphPairsUptoRow : OpenClaim := { program := "ytcmckbcpeocokaa", sum := "38e13574335022fa49ec8e12eedd0714604ca0309c0eb40784d2545aaf4fb0cf", func := "quilt/quiltlaw03.GraphPairs", spec := "graphPairs", unfollowed := true, recurses := true, apart := false, narrowed := true }
def GraphPairsUptoSaid : Prop := graphPairsUptoRow.holds Try.pinned (OpenSpec.upto graphPairsSpec)

/-- 'quiltlaw03.GraphKeeps', WHERE WHAT IT READS IS OF BULK AT MOST 1048576: true; the input reads as it did. -/
def graphKeepsUptoRow : OpenClaim := { program := "ytcmckbcpeocokaa", sum := "38e13574335022fa49ec8e12eedd0714604ca0309c0eb40784d2545aaf4fb0cf", func := "quilt/quiltlaw03.GraphKeeps", spec := "graphKeeps", unfollowed := true, recurses := true, apart := false, narrowed := true }
def GraphKeepsUptoSaid : Prop := graphKeepsUptoRow.holds Try.pinned (OpenSpec.upto graphKeepsSpec)

/-- 'quiltlaw03.GraphSame', WHERE WHAT IT READS IS OF BULK AT MOST 1048576: true; the input reads as it did. -/
def graphSameUptoRow : OpenClaim := { program := "ytcmckbcpeocokaa", sum := "38e13574335022fa49ec8e12eedd0714604ca0309c0eb40784d2545aaf4fb0cf", func := "quilt/quiltlaw03.GraphSame", spec := "graphSame", unfollowed := true, recurses := true, apart := false, narrowed := true }
def GraphSameUptoSaid : Prop := graphSameUptoRow.holds Try.pinned (OpenSpec.upto graphSameSpec)

/-- 'quiltlaw03.GraphBounds', WHERE WHAT IT READS IS OF BULK AT MOST 1048576: true; the input reads as it did. -/
def graphBoundsUptoRow : OpenClaim := { program := "ytcmckbcpeocokaa", sum := "38e13574335022fa49ec8e12eedd0714604ca0309c0eb40784d2545aaf4fb0cf", func := "quilt/quiltlaw03.GraphBounds", spec := "graphBounds", unfollowed := true, recurses := true, apart := false, narrowed := true }
def GraphBoundsUptoSaid : Prop := graphBoundsUptoRow.holds Try.pinned (OpenSpec.upto graphBoundsSpec)

/-- 'quiltlaw03.GraphMakes', WHERE WHAT IT READS IS OF BULK AT MOST 1048576: true; the input reads as it did. -/
def graphMakesUptoRow : OpenClaim := { program := "ytcmckbcpeocokaa", sum := "38e13574335022fa49ec8e12eedd0714604ca0309c0eb40784d2545aaf4fb0cf", func := "quilt/quiltlaw03.GraphMakes", spec := "graphMakes", unfollowed := true, recurses := true, apart := false, narrowed := true }
def GraphMakesUptoSaid : Prop := graphMakesUptoRow.holds Try.pinned (OpenSpec.upto graphMakesSpec)

/-- 'quiltlaw03.GraphUses', WHERE WHAT IT READS IS OF BULK AT MOST 1048576: true; the input reads as it did. -/
def graphUsesUptoRow : OpenClaim := { program := "ytcmckbcpeocokaa", sum := "38e13574335022fa49ec8e12eedd0714604ca0309c0eb40784d2545aaf4fb0cf", func := "quilt/quiltlaw03.GraphUses", spec := "graphUses", unfollowed := true, recurses := true, apart := false, narrowed := true }
def GraphUsesUptoSaid : Prop := graphUsesUptoRow.holds Try.pinned (OpenSpec.upto graphUsesSpec)

end Rows
end Go.Proofs.Ytcmckbcpeocokaa
