/-
  No cell of these rows narrows 'for every input' (looked for: loops, veiled, ifaces, maps, wideKeys, modest, calm, conditions, laid).
  DERIVED. THE GIVEN ROWS OF THIS SEAT. 12 by the template 'for every input the law returns true; each argument reads behind the call as it read before'; 0 by the template 'total and deterministic' (their statements: YtlkfbfdleifmiaaTotals.lean).
  GIVEN WITH THE SEED: the statements are not yours to turn. If you find one false, say at which input.
  Laid BY PROGRAM, IN A SANDBOX (cutbox-rows.mjs): the forced cells as the released guide's own fill.sh prints them over the translation 63c6fc2cc4108353… (all of the seat's roots in one cut). By AI agents, Wed Nov 11 2026. No macro, syntax, notation, axiom, sorry.
-/
import Derived.Test.YtlkfbfdleifmiaaChecked
import GoSem.Claim
import GoSem.ClaimJoined
import GoSem.ClaimMapViews
import Derived.JoinedTies
import Derived.KernelRfl
namespace Go.Proofs.Ytlkfbfdleifmiaa
/- THE CELL 'sum', in the pinned program and in every row, IS THE sha256 OF THE DUMP (.gsa) THAT YtlkfbfdleifmiaaProg.lean LOADS. Nothing in Lean hashes anything: it is a label: what it is worth is what the hold of that sum in a sandbox is worth. -/
noncomputable def Try.pinned : Pinned := { name := "ytlkfbfdleifmiaa", sum := "63c6fc2cc410835361f76f4039f7cb02b4280d6f19910bfead4dd78bef063e74", checked := Try.checked }
namespace Rows
def none {H : Type} : Left H := { results := [], args := [] }

/-- 'quiltlaw10.SemaFull': WHATEVER THE INPUT: true; the input reads as it did. -/
def semaFullSpec : ChangeSpec := { name := "semaFull", fn := fun _ => fun
  | [d1, d2] => { results := [.lit (.bool true)], args := [d1, d2] }
  | _ => none }
def semaFullRow : OpenClaim := { program := "ytlkfbfdleifmiaa", sum := "63c6fc2cc410835361f76f4039f7cb02b4280d6f19910bfead4dd78bef063e74", func := "quilt/quiltlaw10.SemaFull", spec := "semaFull", apart := false }
def SemaFullSaid : Prop := semaFullRow.holds Try.pinned (OpenSpec.ofChange semaFullSpec)

/-- ITS FALSE NEIGHBOUR: 'it returns false'. Refute it at one input. -/
def semaFullWrong : ChangeSpec := { name := "semaFull", fn := fun _ => fun
  | [d1, d2] => { results := [.lit (.bool false)], args := [d1, d2] }
  | _ => none }
def SemaFullWrongFalsely : Prop := semaFullRow.holds Try.pinned (OpenSpec.ofChange semaFullWrong)

/-- 'quiltlaw10.SemaApart': WHATEVER THE INPUT: true; the input reads as it did. -/
def semaApartSpec : ChangeSpec := { name := "semaApart", fn := fun _ => fun
  | [d] => { results := [.lit (.bool true)], args := [d] }
  | _ => none }
def semaApartRow : OpenClaim := { program := "ytlkfbfdleifmiaa", sum := "63c6fc2cc410835361f76f4039f7cb02b4280d6f19910bfead4dd78bef063e74", func := "quilt/quiltlaw10.SemaApart", spec := "semaApart", apart := false }
def SemaApartSaid : Prop := semaApartRow.holds Try.pinned (OpenSpec.ofChange semaApartSpec)

/-- ITS FALSE NEIGHBOUR: 'it returns false'. Refute it at one input. -/
def semaApartWrong : ChangeSpec := { name := "semaApart", fn := fun _ => fun
  | [d] => { results := [.lit (.bool false)], args := [d] }
  | _ => none }
def SemaApartWrongFalsely : Prop := semaApartRow.holds Try.pinned (OpenSpec.ofChange semaApartWrong)

/-- 'quiltlaw10.SemaCounts': WHATEVER THE INPUT: true; the input reads as it did. -/
def semaCountsSpec : ChangeSpec := { name := "semaCounts", fn := fun _ => fun
  | [d] => { results := [.lit (.bool true)], args := [d] }
  | _ => none }
def semaCountsRow : OpenClaim := { program := "ytlkfbfdleifmiaa", sum := "63c6fc2cc410835361f76f4039f7cb02b4280d6f19910bfead4dd78bef063e74", func := "quilt/quiltlaw10.SemaCounts", spec := "semaCounts", apart := false }
def SemaCountsSaid : Prop := semaCountsRow.holds Try.pinned (OpenSpec.ofChange semaCountsSpec)

/-- ITS FALSE NEIGHBOUR: 'it returns false'. Refute it at one input. -/
def semaCountsWrong : ChangeSpec := { name := "semaCounts", fn := fun _ => fun
  | [d] => { results := [.lit (.bool false)], args := [d] }
  | _ => none }
def SemaCountsWrongFalsely : Prop := semaCountsRow.holds Try.pinned (OpenSpec.ofChange semaCountsWrong)

/-- 'quiltlaw02.ShapeWindows': WHATEVER THE INPUT: true; the input reads as it did. -/
def shapeWindowsSpec : ChangeSpec := { name := "shapeWindows", fn := fun _ => fun
  | [d1, d2, d3] => { results := [.lit (.bool true)], args := [d1, d2, d3] }
  | _ => none }
def shapeWindowsRow : OpenClaim := { program := "ytlkfbfdleifmiaa", sum := "63c6fc2cc410835361f76f4039f7cb02b4280d6f19910bfead4dd78bef063e74", func := "quilt/quiltlaw02.ShapeWindows", spec := "shapeWindows", unfollowed := true, recurses := true, apart := false }
def ShapeWindowsSaid : Prop := shapeWindowsRow.holds Try.pinned (OpenSpec.ofChange shapeWindowsSpec)

/-- ITS FALSE NEIGHBOUR: 'it returns false'. Refute it at one input. -/
def shapeWindowsWrong : ChangeSpec := { name := "shapeWindows", fn := fun _ => fun
  | [d1, d2, d3] => { results := [.lit (.bool false)], args := [d1, d2, d3] }
  | _ => none }
def ShapeWindowsWrongFalsely : Prop := shapeWindowsRow.holds Try.pinned (OpenSpec.ofChange shapeWindowsWrong)

/-- 'quiltlaw02.ShapeReaches': WHATEVER THE INPUT: true; the input reads as it did. -/
def shapeReachesSpec : ChangeSpec := { name := "shapeReaches", fn := fun _ => fun
  | [d1, d2, d3] => { results := [.lit (.bool true)], args := [d1, d2, d3] }
  | _ => none }
def shapeReachesRow : OpenClaim := { program := "ytlkfbfdleifmiaa", sum := "63c6fc2cc410835361f76f4039f7cb02b4280d6f19910bfead4dd78bef063e74", func := "quilt/quiltlaw02.ShapeReaches", spec := "shapeReaches", unfollowed := true, recurses := true, apart := false }
def ShapeReachesSaid : Prop := shapeReachesRow.holds Try.pinned (OpenSpec.ofChange shapeReachesSpec)

/-- ITS FALSE NEIGHBOUR: 'it returns false'. Refute it at one input. -/
def shapeReachesWrong : ChangeSpec := { name := "shapeReaches", fn := fun _ => fun
  | [d1, d2, d3] => { results := [.lit (.bool false)], args := [d1, d2, d3] }
  | _ => none }
def ShapeReachesWrongFalsely : Prop := shapeReachesRow.holds Try.pinned (OpenSpec.ofChange shapeReachesWrong)

/-- 'quiltlaw02.ShapeSlides': WHATEVER THE INPUT: true; the input reads as it did. -/
def shapeSlidesSpec : ChangeSpec := { name := "shapeSlides", fn := fun _ => fun
  | [d1, d2, d3] => { results := [.lit (.bool true)], args := [d1, d2, d3] }
  | _ => none }
def shapeSlidesRow : OpenClaim := { program := "ytlkfbfdleifmiaa", sum := "63c6fc2cc410835361f76f4039f7cb02b4280d6f19910bfead4dd78bef063e74", func := "quilt/quiltlaw02.ShapeSlides", spec := "shapeSlides", unfollowed := true, recurses := true, apart := false }
def ShapeSlidesSaid : Prop := shapeSlidesRow.holds Try.pinned (OpenSpec.ofChange shapeSlidesSpec)

/-- ITS FALSE NEIGHBOUR: 'it returns false'. Refute it at one input. -/
def shapeSlidesWrong : ChangeSpec := { name := "shapeSlides", fn := fun _ => fun
  | [d1, d2, d3] => { results := [.lit (.bool false)], args := [d1, d2, d3] }
  | _ => none }
def ShapeSlidesWrongFalsely : Prop := shapeSlidesRow.holds Try.pinned (OpenSpec.ofChange shapeSlidesWrong)

/-- 'quiltlaw02.ShapeWhole': WHATEVER THE INPUT: true; the input reads as it did. -/
def shapeWholeSpec : ChangeSpec := { name := "shapeWhole", fn := fun _ => fun
  | [d1, d2, d3] => { results := [.lit (.bool true)], args := [d1, d2, d3] }
  | _ => none }
def shapeWholeRow : OpenClaim := { program := "ytlkfbfdleifmiaa", sum := "63c6fc2cc410835361f76f4039f7cb02b4280d6f19910bfead4dd78bef063e74", func := "quilt/quiltlaw02.ShapeWhole", spec := "shapeWhole", unfollowed := true, recurses := true, apart := false }
def ShapeWholeSaid : Prop := shapeWholeRow.holds Try.pinned (OpenSpec.ofChange shapeWholeSpec)

/-- ITS FALSE NEIGHBOUR: 'it returns false'. Refute it at one input. -/
def shapeWholeWrong : ChangeSpec := { name := "shapeWhole", fn := fun _ => fun
  | [d1, d2, d3] => { results := [.lit (.bool false)], args := [d1, d2, d3] }
  | _ => none }
def ShapeWholeWrongFalsely : Prop := shapeWholeRow.holds Try.pinned (OpenSpec.ofChange shapeWholeWrong)

/-- 'quiltlaw10.SemaPairs': WHATEVER THE INPUT: true; the input reads as it did. -/
def semaPairsSpec : ChangeSpec := { name := "semaPairs", fn := fun _ => fun
  | [d] => { results := [.lit (.bool true)], args := [d] }
  | _ => none }
def semaPairsRow : OpenClaim := { program := "ytlkfbfdleifmiaa", sum := "63c6fc2cc410835361f76f4039f7cb02b4280d6f19910bfead4dd78bef063e74", func := "quilt/quiltlaw10.SemaPairs", spec := "semaPairs", apart := false }
def SemaPairsSaid : Prop := semaPairsRow.holds Try.pinned (OpenSpec.ofChange semaPairsSpec)

/-- ITS FALSE NEIGHBOUR: 'it returns false'. Refute it at one input. -/
def semaPairsWrong : ChangeSpec := { name := "semaPairs", fn := fun _ => fun
  | [d] => { results := [.lit (.bool false)], args := [d] }
  | _ => none }
def SemaPairsWrongFalsely : Prop := semaPairsRow.holds Try.pinned (OpenSpec.ofChange semaPairsWrong)

/-- 'quiltlaw02.ShapeSteps': WHATEVER THE INPUT: true; the input reads as it did. -/
def shapeStepsSpec : ChangeSpec := { name := "shapeSteps", fn := fun _ => fun
  | [d1, d2] => { results := [.lit (.bool true)], args := [d1, d2] }
  | _ => none }
def shapeStepsRow : OpenClaim := { program := "ytlkfbfdleifmiaa", sum := "63c6fc2cc410835361f76f4039f7cb02b4280d6f19910bfead4dd78bef063e74", func := "quilt/quiltlaw02.ShapeSteps", spec := "shapeSteps", unfollowed := true, recurses := true, apart := false }
def ShapeStepsSaid : Prop := shapeStepsRow.holds Try.pinned (OpenSpec.ofChange shapeStepsSpec)

/-- ITS FALSE NEIGHBOUR: 'it returns false'. Refute it at one input. -/
def shapeStepsWrong : ChangeSpec := { name := "shapeSteps", fn := fun _ => fun
  | [d1, d2] => { results := [.lit (.bool false)], args := [d1, d2] }
  | _ => none }
def ShapeStepsWrongFalsely : Prop := shapeStepsRow.holds Try.pinned (OpenSpec.ofChange shapeStepsWrong)

/-- 'quiltlaw10.SemaPlays': WHATEVER THE INPUT: true; the input reads as it did. -/
def semaPlaysSpec : ChangeSpec := { name := "semaPlays", fn := fun _ => fun
  | [d] => { results := [.lit (.bool true)], args := [d] }
  | _ => none }
def semaPlaysRow : OpenClaim := { program := "ytlkfbfdleifmiaa", sum := "63c6fc2cc410835361f76f4039f7cb02b4280d6f19910bfead4dd78bef063e74", func := "quilt/quiltlaw10.SemaPlays", spec := "semaPlays", apart := false }
def SemaPlaysSaid : Prop := semaPlaysRow.holds Try.pinned (OpenSpec.ofChange semaPlaysSpec)

/-- ITS FALSE NEIGHBOUR: 'it returns false'. Refute it at one input. -/
def semaPlaysWrong : ChangeSpec := { name := "semaPlays", fn := fun _ => fun
  | [d] => { results := [.lit (.bool false)], args := [d] }
  | _ => none }
def SemaPlaysWrongFalsely : Prop := semaPlaysRow.holds Try.pinned (OpenSpec.ofChange semaPlaysWrong)

/-- 'quiltlaw02.ShapeAll': WHATEVER THE INPUT: true; the input reads as it did. -/
def shapeAllSpec : ChangeSpec := { name := "shapeAll", fn := fun _ => fun
  | [d1, d2] => { results := [.lit (.bool true)], args := [d1, d2] }
  | _ => none }
def shapeAllRow : OpenClaim := { program := "ytlkfbfdleifmiaa", sum := "63c6fc2cc410835361f76f4039f7cb02b4280d6f19910bfead4dd78bef063e74", func := "quilt/quiltlaw02.ShapeAll", spec := "shapeAll", unfollowed := true, recurses := true, apart := false }
def ShapeAllSaid : Prop := shapeAllRow.holds Try.pinned (OpenSpec.ofChange shapeAllSpec)

/-- ITS FALSE NEIGHBOUR: 'it returns false'. Refute it at one input. -/
def shapeAllWrong : ChangeSpec := { name := "shapeAll", fn := fun _ => fun
  | [d1, d2] => { results := [.lit (.bool false)], args := [d1, d2] }
  | _ => none }
def ShapeAllWrongFalsely : Prop := shapeAllRow.holds Try.pinned (OpenSpec.ofChange shapeAllWrong)

/-- 'quiltlaw02.ShapeIndexes': WHATEVER THE INPUT: true; the input reads as it did. -/
def shapeIndexesSpec : ChangeSpec := { name := "shapeIndexes", fn := fun _ => fun
  | [d] => { results := [.lit (.bool true)], args := [d] }
  | _ => none }
def shapeIndexesRow : OpenClaim := { program := "ytlkfbfdleifmiaa", sum := "63c6fc2cc410835361f76f4039f7cb02b4280d6f19910bfead4dd78bef063e74", func := "quilt/quiltlaw02.ShapeIndexes", spec := "shapeIndexes", unfollowed := true, recurses := true, apart := false }
def ShapeIndexesSaid : Prop := shapeIndexesRow.holds Try.pinned (OpenSpec.ofChange shapeIndexesSpec)

/-- ITS FALSE NEIGHBOUR: 'it returns false'. Refute it at one input. -/
def shapeIndexesWrong : ChangeSpec := { name := "shapeIndexes", fn := fun _ => fun
  | [d] => { results := [.lit (.bool false)], args := [d] }
  | _ => none }
def ShapeIndexesWrongFalsely : Prop := shapeIndexesRow.holds Try.pinned (OpenSpec.ofChange shapeIndexesWrong)

/- THE SECOND FORM. 'bulk': how many values and letters a reading holds, each counted each time it is reached (what is shared counts as often as it is met; a slice's spare places count too). A statement '..UptoSaid' is the law's where the arguments, and the package variables that the reading takes, are together of bulk at most 1048576: NARROWER than '..Said'. Prove '..Said' where nothing that the law and all that it calls make is longer than what came in: it says more and counts as full. Else prove '..UptoSaid'. A law counts once. -/
mutual
def uptoBulk {H : Type} : DataW H → Nat
  | .lit (.string bytes) => bytes.length + 1
  | .lit _ => 1
  | .nil => 1
  | .ptr d => uptoBulk d + 1
  | .slice elems spare => uptoBulkAll elems + uptoBulkAll spare + 1
  | .agg parts => uptoBulkAll parts + 1
  | .iface _ d => uptoBulk d + 1
  | .map entries => uptoBulkEntries entries + 1
  | .held _ => 1
def uptoBulkAll {H : Type} : List (DataW H) → Nat
  | [] => 0
  | d :: r => uptoBulk d + uptoBulkAll r
def uptoBulkEntries {H : Type} : List (Lit × DataW H) → Nat
  | [] => 0
  | x :: r => uptoBulkEntry x + uptoBulkEntries r
def uptoBulkEntry {H : Type} : Lit × DataW H → Nat
  | (.string bytes, d) => bytes.length + uptoBulk d + 1
  | (_, d) => uptoBulk d + 1
 end
def uptoSmall : (H : Type) → List (DataW H) → Bool := fun _ ds => decide (uptoBulkAll ds ≤ 1048576)
def OpenSpec.upto (s : _root_.Go.ChangeSpec) : _root_.Go.OpenSpec := { _root_.Go.OpenSpec.ofChange s with cond := some uptoSmall }

/-- 'quiltlaw10.SemaFull', WHERE WHAT IT READS IS OF BULK AT MOST 1048576: true; the input reads as it did. -/
def semaFullUptoRow : OpenClaim := { program := "ytlkfbfdleifmiaa", sum := "63c6fc2cc410835361f76f4039f7cb02b4280d6f19910bfead4dd78bef063e74", func := "quilt/quiltlaw10.SemaFull", spec := "semaFull", apart := false, narrowed := true }
def SemaFullUptoSaid : Prop := semaFullUptoRow.holds Try.pinned (OpenSpec.upto semaFullSpec)

/-- 'quiltlaw10.SemaApart', WHERE WHAT IT READS IS OF BULK AT MOST 1048576: true; the input reads as it did. -/
def semaApartUptoRow : OpenClaim := { program := "ytlkfbfdleifmiaa", sum := "63c6fc2cc410835361f76f4039f7cb02b4280d6f19910bfead4dd78bef063e74", func := "quilt/quiltlaw10.SemaApart", spec := "semaApart", apart := false, narrowed := true }
def SemaApartUptoSaid : Prop := semaApartUptoRow.holds Try.pinned (OpenSpec.upto semaApartSpec)

/-- 'quiltlaw10.SemaCounts', WHERE WHAT IT READS IS OF BULK AT MOST 1048576: true; the input reads as it did. -/
def semaCountsUptoRow : OpenClaim := { program := "ytlkfbfdleifmiaa", sum := "63c6fc2cc410835361f76f4039f7cb02b4280d6f19910bfead4dd78bef063e74", func := "quilt/quiltlaw10.SemaCounts", spec := "semaCounts", apart := false, narrowed := true }
def SemaCountsUptoSaid : Prop := semaCountsUptoRow.holds Try.pinned (OpenSpec.upto semaCountsSpec)

/-- 'quiltlaw02.ShapeWindows', WHERE WHAT IT READS IS OF BULK AT MOST 1048576: true; the input reads as it did. -/
def shapeWindowsUptoRow : OpenClaim := { program := "ytlkfbfdleifmiaa", sum := "63c6fc2cc410835361f76f4039f7cb02b4280d6f19910bfead4dd78bef063e74", func := "quilt/quiltlaw02.ShapeWindows", spec := "shapeWindows", unfollowed := true, recurses := true, apart := false, narrowed := true }
def ShapeWindowsUptoSaid : Prop := shapeWindowsUptoRow.holds Try.pinned (OpenSpec.upto shapeWindowsSpec)

/-- 'quiltlaw02.ShapeReaches', WHERE WHAT IT READS IS OF BULK AT MOST 1048576: true; the input reads as it did. -/
def shapeReachesUptoRow : OpenClaim := { program := "ytlkfbfdleifmiaa", sum := "63c6fc2cc410835361f76f4039f7cb02b4280d6f19910bfead4dd78bef063e74", func := "quilt/quiltlaw02.ShapeReaches", spec := "shapeReaches", unfollowed := true, recurses := true, apart := false, narrowed := true }
def ShapeReachesUptoSaid : Prop := shapeReachesUptoRow.holds Try.pinned (OpenSpec.upto shapeReachesSpec)

/-- 'quiltlaw02.ShapeSlides', WHERE WHAT IT READS IS OF BULK AT MOST 1048576: true; the input reads as it did. -/
def shapeSlidesUptoRow : OpenClaim := { program := "ytlkfbfdleifmiaa", sum := "63c6fc2cc410835361f76f4039f7cb02b4280d6f19910bfead4dd78bef063e74", func := "quilt/quiltlaw02.ShapeSlides", spec := "shapeSlides", unfollowed := true, recurses := true, apart := false, narrowed := true }
def ShapeSlidesUptoSaid : Prop := shapeSlidesUptoRow.holds Try.pinned (OpenSpec.upto shapeSlidesSpec)

/-- 'quiltlaw02.ShapeWhole', WHERE WHAT IT READS IS OF BULK AT MOST 1048576: true; the input reads as it did. -/
def shapeWholeUptoRow : OpenClaim := { program := "ytlkfbfdleifmiaa", sum := "63c6fc2cc410835361f76f4039f7cb02b4280d6f19910bfead4dd78bef063e74", func := "quilt/quiltlaw02.ShapeWhole", spec := "shapeWhole", unfollowed := true, recurses := true, apart := false, narrowed := true }
def ShapeWholeUptoSaid : Prop := shapeWholeUptoRow.holds Try.pinned (OpenSpec.upto shapeWholeSpec)

/-- 'quiltlaw10.SemaPairs', WHERE WHAT IT READS IS OF BULK AT MOST 1048576: true; the input reads as it did. -/
def semaPairsUptoRow : OpenClaim := { program := "ytlkfbfdleifmiaa", sum := "63c6fc2cc410835361f76f4039f7cb02b4280d6f19910bfead4dd78bef063e74", func := "quilt/quiltlaw10.SemaPairs", spec := "semaPairs", apart := false, narrowed := true }
def SemaPairsUptoSaid : Prop := semaPairsUptoRow.holds Try.pinned (OpenSpec.upto semaPairsSpec)

/-- 'quiltlaw02.ShapeSteps', WHERE WHAT IT READS IS OF BULK AT MOST 1048576: true; the input reads as it did. -/
def shapeStepsUptoRow : OpenClaim := { program := "ytlkfbfdleifmiaa", sum := "63c6fc2cc410835361f76f4039f7cb02b4280d6f19910bfead4dd78bef063e74", func := "quilt/quiltlaw02.ShapeSteps", spec := "shapeSteps", unfollowed := true, recurses := true, apart := false, narrowed := true }
def ShapeStepsUptoSaid : Prop := shapeStepsUptoRow.holds Try.pinned (OpenSpec.upto shapeStepsSpec)

/-- 'quiltlaw10.SemaPlays', WHERE WHAT IT READS IS OF BULK AT MOST 1048576: true; the input reads as it did. -/
def semaPlaysUptoRow : OpenClaim := { program := "ytlkfbfdleifmiaa", sum := "63c6fc2cc410835361f76f4039f7cb02b4280d6f19910bfead4dd78bef063e74", func := "quilt/quiltlaw10.SemaPlays", spec := "semaPlays", apart := false, narrowed := true }
def SemaPlaysUptoSaid : Prop := semaPlaysUptoRow.holds Try.pinned (OpenSpec.upto semaPlaysSpec)

/-- 'quiltlaw02.ShapeAll', WHERE WHAT IT READS IS OF BULK AT MOST 1048576: true; the input reads as it did. -/
def shapeAllUptoRow : OpenClaim := { program := "ytlkfbfdleifmiaa", sum := "63c6fc2cc410835361f76f4039f7cb02b4280d6f19910bfead4dd78bef063e74", func := "quilt/quiltlaw02.ShapeAll", spec := "shapeAll", unfollowed := true, recurses := true, apart := false, narrowed := true }
def ShapeAllUptoSaid : Prop := shapeAllUptoRow.holds Try.pinned (OpenSpec.upto shapeAllSpec)

/-- 'quiltlaw02.ShapeIndexes', WHERE WHAT IT READS IS OF BULK AT MOST 1048576: true; the input reads as it did. -/
def shapeIndexesUptoRow : OpenClaim := { program := "ytlkfbfdleifmiaa", sum := "63c6fc2cc410835361f76f4039f7cb02b4280d6f19910bfead4dd78bef063e74", func := "quilt/quiltlaw02.ShapeIndexes", spec := "shapeIndexes", unfollowed := true, recurses := true, apart := false, narrowed := true }
def ShapeIndexesUptoSaid : Prop := shapeIndexesUptoRow.holds Try.pinned (OpenSpec.upto shapeIndexesSpec)

end Rows
end Go.Proofs.Ytlkfbfdleifmiaa
