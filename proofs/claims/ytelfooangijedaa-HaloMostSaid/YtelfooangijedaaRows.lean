/-
  No cell of these rows narrows 'for every input' (looked for: loops, veiled, ifaces, maps, wideKeys, modest, calm, conditions, laid).
  DERIVED. THE GIVEN ROWS OF THIS SEAT. 4 by the template 'for every input the law returns true; each argument reads behind the call as it read before'; 0 by the template 'total and deterministic' (their statements: YtelfooangijedaaTotals.lean).
  GIVEN WITH THE SEED: the statements are not yours to turn. If you find one false, say at which input.
  Laid BY PROGRAM, IN A SANDBOX (cutbox-rows.mjs): the forced cells as the released guide's own fill.sh prints them over the translation fe5d771fdd3b8091… (all of the seat's roots in one cut). By AI agents, Wed Nov 11 2026. No macro, syntax, notation, axiom, sorry.
-/
import Derived.Test.YtelfooangijedaaChecked
import GoSem.Claim
import GoSem.ClaimJoined
import GoSem.ClaimMapViews
import Derived.JoinedTies
import Derived.KernelRfl
namespace Go.Proofs.Ytelfooangijedaa
/- THE CELL 'sum', in the pinned program and in every row, IS THE sha256 OF THE DUMP (.gsa) THAT YtelfooangijedaaProg.lean LOADS. Nothing in Lean hashes anything: it is a label: what it is worth is what the hold of that sum in a sandbox is worth. -/
noncomputable def Try.pinned : Pinned := { name := "ytelfooangijedaa", sum := "fe5d771fdd3b80911dc18150e212b908a3948d4dfbb353b4c289c0094012d8f0", checked := Try.checked }
namespace Rows
def none {H : Type} : Left H := { results := [], args := [] }

/-- 'quiltlaw15.HaloSizes': WHATEVER THE INPUT: true; the input reads as it did. -/
def haloSizesSpec : ChangeSpec := { name := "haloSizes", fn := fun _ => fun
  | [d1, d2, d3] => { results := [.lit (.bool true)], args := [d1, d2, d3] }
  | _ => none }
def haloSizesRow : OpenClaim := { program := "ytelfooangijedaa", sum := "fe5d771fdd3b80911dc18150e212b908a3948d4dfbb353b4c289c0094012d8f0", func := "quilt/quiltlaw15.HaloSizes", spec := "haloSizes", unfollowed := true, recurses := true, apart := false }
def HaloSizesSaid : Prop := haloSizesRow.holds Try.pinned (OpenSpec.ofChange haloSizesSpec)

/-- ITS FALSE NEIGHBOUR: 'it returns false'. Refute it at one input. -/
def haloSizesWrong : ChangeSpec := { name := "haloSizes", fn := fun _ => fun
  | [d1, d2, d3] => { results := [.lit (.bool false)], args := [d1, d2, d3] }
  | _ => none }
def HaloSizesWrongFalsely : Prop := haloSizesRow.holds Try.pinned (OpenSpec.ofChange haloSizesWrong)

/-- 'quiltlaw15.HaloMost': WHATEVER THE INPUT: true; the input reads as it did. -/
def haloMostSpec : ChangeSpec := { name := "haloMost", fn := fun _ => fun
  | [d1, d2, d3] => { results := [.lit (.bool true)], args := [d1, d2, d3] }
  | _ => none }
def haloMostRow : OpenClaim := { program := "ytelfooangijedaa", sum := "fe5d771fdd3b80911dc18150e212b908a3948d4dfbb353b4c289c0094012d8f0", func := "quilt/quiltlaw15.HaloMost", spec := "haloMost", unfollowed := true, recurses := true, apart := false }
def HaloMostSaid : Prop := haloMostRow.holds Try.pinned (OpenSpec.ofChange haloMostSpec)

/-- ITS FALSE NEIGHBOUR: 'it returns false'. Refute it at one input. -/
def haloMostWrong : ChangeSpec := { name := "haloMost", fn := fun _ => fun
  | [d1, d2, d3] => { results := [.lit (.bool false)], args := [d1, d2, d3] }
  | _ => none }
def HaloMostWrongFalsely : Prop := haloMostRow.holds Try.pinned (OpenSpec.ofChange haloMostWrong)

/-- 'quiltlaw15.HaloOps': WHATEVER THE INPUT: true; the input reads as it did. -/
def haloOpsSpec : ChangeSpec := { name := "haloOps", fn := fun _ => fun
  | [d1, d2, d3] => { results := [.lit (.bool true)], args := [d1, d2, d3] }
  | _ => none }
def haloOpsRow : OpenClaim := { program := "ytelfooangijedaa", sum := "fe5d771fdd3b80911dc18150e212b908a3948d4dfbb353b4c289c0094012d8f0", func := "quilt/quiltlaw15.HaloOps", spec := "haloOps", unfollowed := true, recurses := true, apart := false }
def HaloOpsSaid : Prop := haloOpsRow.holds Try.pinned (OpenSpec.ofChange haloOpsSpec)

/-- ITS FALSE NEIGHBOUR: 'it returns false'. Refute it at one input. -/
def haloOpsWrong : ChangeSpec := { name := "haloOps", fn := fun _ => fun
  | [d1, d2, d3] => { results := [.lit (.bool false)], args := [d1, d2, d3] }
  | _ => none }
def HaloOpsWrongFalsely : Prop := haloOpsRow.holds Try.pinned (OpenSpec.ofChange haloOpsWrong)

/-- 'quiltlaw15.HaloWhole': WHATEVER THE INPUT: true; the input reads as it did. -/
def haloWholeSpec : ChangeSpec := { name := "haloWhole", fn := fun _ => fun
  | [d1, d2, d3] => { results := [.lit (.bool true)], args := [d1, d2, d3] }
  | _ => none }
def haloWholeRow : OpenClaim := { program := "ytelfooangijedaa", sum := "fe5d771fdd3b80911dc18150e212b908a3948d4dfbb353b4c289c0094012d8f0", func := "quilt/quiltlaw15.HaloWhole", spec := "haloWhole", unfollowed := true, recurses := true, apart := false }
def HaloWholeSaid : Prop := haloWholeRow.holds Try.pinned (OpenSpec.ofChange haloWholeSpec)

/-- ITS FALSE NEIGHBOUR: 'it returns false'. Refute it at one input. -/
def haloWholeWrong : ChangeSpec := { name := "haloWhole", fn := fun _ => fun
  | [d1, d2, d3] => { results := [.lit (.bool false)], args := [d1, d2, d3] }
  | _ => none }
def HaloWholeWrongFalsely : Prop := haloWholeRow.holds Try.pinned (OpenSpec.ofChange haloWholeWrong)

/- THE SECOND FORM. 'bulk': how many values and letters a reading holds, each counted each time it is reached (what is shared counts as often as it is met; a slice's spare places count too). A statement '..UptoSaid' is the law's where the arguments, and the package variables that the reading takes, are together of bulk at most 1048576: NARROWER than '..Said'. Prove '..Said' where nothing that the law and all that it calls make is longer than what came in: it says more and counts as full. Else prove '..UptoSaid'. A law counts once. -/
mutual
def uptoBulk {H : Type} : DataW H → Nat
  | .lit (.string bytes) => bytes.length + 1
  | .lit _ => 1
  | .nil => 1
  | .ptr d => uptoBulk d + 1
  | .slice elems spare => uptoBulkAll elems + uptoBulkAll spare + 1
  | .agg parts => uptoBulkAll parts + 1
  | .iface _ d => uptoBulk d + 1
  | .map entries => uptoBulkEntries entries + 1
  | .held _ => 1
def uptoBulkAll {H : Type} : List (DataW H) → Nat
  | [] => 0
  | d :: r => uptoBulk d + uptoBulkAll r
def uptoBulkEntries {H : Type} : List (Lit × DataW H) → Nat
  | [] => 0
  | x :: r => uptoBulkEntry x + uptoBulkEntries r
def uptoBulkEntry {H : Type} : Lit × DataW H → Nat
  | (.string bytes, d) => bytes.length + uptoBulk d + 1
  | (_, d) => uptoBulk d + 1
 end
def uptoSmall : (H : Type) → List (DataW H) → Bool := fun _ ds => decide (uptoBulkAll ds ≤ 1048576)
def OpenSpec.upto (s : _root_.Go.ChangeSpec) : _root_.Go.OpenSpec := { _root_.Go.OpenSpec.ofChange s with cond := some uptoSmall }

/-- 'quiltlaw15.HaloSizes', WHERE WHAT IT READS IS OF BULK AT MOST 1048576: true; the input reads as it did. -/
def haloSizesUptoRow : OpenClaim := { program := "ytelfooangijedaa", sum := "fe5d771fdd3b80911dc18150e212b908a3948d4dfbb353b4c289c0094012d8f0", func := "quilt/quiltlaw15.HaloSizes", spec := "haloSizes", unfollowed := true, recurses := true, apart := false, narrowed := true }
def HaloSizesUptoSaid : Prop := haloSizesUptoRow.holds Try.pinned (OpenSpec.upto haloSizesSpec)

/-- 'quiltlaw15.HaloMost', WHERE WHAT IT READS IS OF BULK AT MOST 1048576: true; the input reads as it did. -/
def haloMostUptoRow : OpenClaim := { program := "ytelfooangijedaa", sum := "fe5d771fdd3b80911dc18150e212b908a3948d4dfbb353b4c289c0094012d8f0", func := "quilt/quiltlaw15.HaloMost", spec := "haloMost", unfollowed := true, recurses := true, apart := false, narrowed := true }
def HaloMostUptoSaid : Prop := haloMostUptoRow.holds Try.pinned (OpenSpec.upto haloMostSpec)

/-- 'quiltlaw15.HaloOps', WHERE WHAT IT READS IS OF BULK AT MOST 1048576: true; the input reads as it did. -/
def haloOpsUptoRow : OpenClaim := { program := "ytelfooangijedaa", sum := "fe5d771fdd3b80911dc18150e212b908a3948d4dfbb353b4c289c0094012d8f0", func := "quilt/quiltlaw15.HaloOps", spec := "haloOps", unfollowed := true, recurses := true, apart := false, narrowed := true }
def HaloOpsUptoSaid : Prop := haloOpsUptoRow.holds Try.pinned (OpenSpec.upto haloOpsSpec)

/-- 'quiltlaw15.HaloWhole', WHERE WHAT IT READS IS OF BULK AT MOST 1048576: true; the input reads as it did. -/
def haloWholeUptoRow : OpenClaim := { program := "ytelfooangijedaa", sum := "fe5d771fdd3b80911dc18150e212b908a3948d4dfbb353b4c289c0094012d8f0", func := "quilt/quiltlaw15.HaloWhole", spec := "haloWhole", unfollowed := true, recurses := true, apart := false, narrowed := true }
def HaloWholeUptoSaid : Prop := haloWholeUptoRow.holds Try.pinned (OpenSpec.upto haloWholeSpec)

end Rows
end Go.Proofs.Ytelfooangijedaa
