/-
  No cell of these rows narrows 'for every input' (looked for: loops, veiled, ifaces, maps, wideKeys, modest, calm, conditions, laid).
  DERIVED. THE GIVEN ROWS OF THIS SEAT. 5 by the template 'for every input the law returns true; each argument reads behind the call as it read before'; 0 by the template 'total and deterministic' (their statements: YtaehdmelnmajnaaTotals.lean).
  GIVEN WITH THE SEED: the statements are not yours to turn. If you find one false, say at which input.
  Laid BY PROGRAM, IN A SANDBOX (cutbox-rows.mjs): the forced cells as the released guide's own fill.sh prints them over the translation c4d71422452b0066… (all of the seat's roots in one cut). By AI agents, Wed Nov 11 2026. No macro, syntax, notation, axiom, sorry.
-/
import Derived.Test.YtaehdmelnmajnaaChecked
import GoSem.Claim
import GoSem.ClaimJoined
import GoSem.ClaimMapViews
import Derived.JoinedTies
import Derived.KernelRfl
namespace Go.Proofs.Ytaehdmelnmajnaa
/- THE CELL 'sum', in the pinned program and in every row, IS THE sha256 OF THE DUMP (.gsa) THAT YtaehdmelnmajnaaProg.lean LOADS. Nothing in Lean hashes anything: it is a label: what it is worth is what the hold of that sum in a sandbox is worth. -/
noncomputable def Try.pinned : Pinned := { name := "ytaehdmelnmajnaa", sum := "c4d71422452b0066e304307b16893d6a809d2d3e00404a6a7950a56dab12a06a", checked := Try.checked }
namespace Rows
def none {H : Type} : Left H := { results := [], args := [] }

/-- 'quiltlaw10.SemaFull': WHATEVER THE INPUT: true; the input reads as it did. -/
def semaFullSpec : ChangeSpec := { name := "semaFull", fn := fun _ => fun
  | [d1, d2] => { results := [.lit (.bool true)], args := [d1, d2] }
  | _ => none }
def semaFullRow : OpenClaim := { program := "ytaehdmelnmajnaa", sum := "c4d71422452b0066e304307b16893d6a809d2d3e00404a6a7950a56dab12a06a", func := "quilt/quiltlaw10.SemaFull", spec := "semaFull", apart := false }
def SemaFullSaid : Prop := semaFullRow.holds Try.pinned (OpenSpec.ofChange semaFullSpec)

/-- ITS FALSE NEIGHBOUR: 'it returns false'. Refute it at one input. -/
def semaFullWrong : ChangeSpec := { name := "semaFull", fn := fun _ => fun
  | [d1, d2] => { results := [.lit (.bool false)], args := [d1, d2] }
  | _ => none }
def SemaFullWrongFalsely : Prop := semaFullRow.holds Try.pinned (OpenSpec.ofChange semaFullWrong)

/-- 'quiltlaw10.SemaApart': WHATEVER THE INPUT: true; the input reads as it did. -/
def semaApartSpec : ChangeSpec := { name := "semaApart", fn := fun _ => fun
  | [d] => { results := [.lit (.bool true)], args := [d] }
  | _ => none }
def semaApartRow : OpenClaim := { program := "ytaehdmelnmajnaa", sum := "c4d71422452b0066e304307b16893d6a809d2d3e00404a6a7950a56dab12a06a", func := "quilt/quiltlaw10.SemaApart", spec := "semaApart", apart := false }
def SemaApartSaid : Prop := semaApartRow.holds Try.pinned (OpenSpec.ofChange semaApartSpec)

/-- ITS FALSE NEIGHBOUR: 'it returns false'. Refute it at one input. -/
def semaApartWrong : ChangeSpec := { name := "semaApart", fn := fun _ => fun
  | [d] => { results := [.lit (.bool false)], args := [d] }
  | _ => none }
def SemaApartWrongFalsely : Prop := semaApartRow.holds Try.pinned (OpenSpec.ofChange semaApartWrong)

/-- 'quiltlaw10.SemaCounts': WHATEVER THE INPUT: true; the input reads as it did. -/
def semaCountsSpec : ChangeSpec := { name := "semaCounts", fn := fun _ => fun
  | [d] => { results := [.lit (.bool true)], args := [d] }
  | _ => none }
def semaCountsRow : OpenClaim := { program := "ytaehdmelnmajnaa", sum := "c4d71422452b0066e304307b16893d6a809d2d3e00404a6a7950a56dab12a06a", func := "quilt/quiltlaw10.SemaCounts", spec := "semaCounts", apart := false }
def SemaCountsSaid : Prop := semaCountsRow.holds Try.pinned (OpenSpec.ofChange semaCountsSpec)

/-- ITS FALSE NEIGHBOUR: 'it returns false'. Refute it at one input. -/
def semaCountsWrong : ChangeSpec := { name := "semaCounts", fn := fun _ => fun
  | [d] => { results := [.lit (.bool false)], args := [d] }
  | _ => none }
def SemaCountsWrongFalsely : Prop := semaCountsRow.holds Try.pinned (OpenSpec.ofChange semaCountsWrong)

/-- 'quiltlaw10.SemaPairs': WHATEVER THE INPUT: true; the input reads as it did. -/
def semaPairsSpec : ChangeSpec := { name := "semaPairs", fn := fun _ => fun
  | [d] => { results := [.lit (.bool true)], args := [d] }
  | _ => none }
def semaPairsRow : OpenClaim := { program := "ytaehdmelnmajnaa", sum := "c4d71422452b0066e304307b16893d6a809d2d3e00404a6a7950a56dab12a06a", func := "quilt/quiltlaw10.SemaPairs", spec := "semaPairs", apart := false }
def SemaPairsSaid : Prop := semaPairsRow.holds Try.pinned (OpenSpec.ofChange semaPairsSpec)

/-- ITS FALSE NEIGHBOUR: 'it returns false'. Refute it at one input. -/
def semaPairsWrong : ChangeSpec := { name := "semaPairs", fn := fun _ => fun
  | [d] => { results := [.lit (.bool false)], args := [d] }
  | _ => none }
def SemaPairsWrongFalsely : Prop := semaPairsRow.holds Try.pinned (OpenSpec.ofChange semaPairsWrong)

/-- 'quiltlaw10.SemaPlays': WHATEVER THE INPUT: true; the input reads as it did. -/
def semaPlaysSpec : ChangeSpec := { name := "semaPlays", fn := fun _ => fun
  | [d] => { results := [.lit (.bool true)], args := [d] }
  | _ => none }
def semaPlaysRow : OpenClaim := { program := "ytaehdmelnmajnaa", sum := "c4d71422452b0066e304307b16893d6a809d2d3e00404a6a7950a56dab12a06a", func := "quilt/quiltlaw10.SemaPlays", spec := "semaPlays", apart := false }
def SemaPlaysSaid : Prop := semaPlaysRow.holds Try.pinned (OpenSpec.ofChange semaPlaysSpec)

/-- ITS FALSE NEIGHBOUR: 'it returns false'. Refute it at one input. -/
def semaPlaysWrong : ChangeSpec := { name := "semaPlays", fn := fun _ => fun
  | [d] => { results := [.lit (.bool false)], args := [d] }
  | _ => none }
def SemaPlaysWrongFalsely : Prop := semaPlaysRow.holds Try.pinned (OpenSpec.ofChange semaPlaysWrong)

/- THE SECOND FORM. 'bulk': how many values and letters a reading holds, each counted each time it is reached (what is shared counts as often as it is met; a slice's spare places count too). A statement '..UptoSaid' is the law's where the arguments, and the package variables that the reading takes, are together of bulk at most 1048576: NARROWER than '..Said'. Prove '..Said' where nothing that the law and all that it calls make is longer than what came in: it says more and counts as full. Else prove '..UptoSaid'. A law counts once. -/
mutual
def uptoBulk {H : Type} : DataW H → Nat
  | .lit (.string bytes) => bytes.length + 1
  | .lit _ => 1
  | .nil => 1
  | .ptr d => uptoBulk d + 1
  | .slice elems spare => uptoBulkAll elems + uptoBulkAll spare + 1
  | .agg parts => uptoBulkAll parts + 1
  | .iface _ d => uptoBulk d + 1
  | .map entries => uptoBulkEntries entries + 1
  | .held _ => 1
def uptoBulkAll {H : Type} : List (DataW H) → Nat
  | [] => 0
  | d :: r => uptoBulk d + uptoBulkAll r
def uptoBulkEntries {H : Type} : List (Lit × DataW H) → Nat
  | [] => 0
  | x :: r => uptoBulkEntry x + uptoBulkEntries r
def uptoBulkEntry {H : Type} : Lit × DataW H → Nat
  | (.string bytes, d) => bytes.length + uptoBulk d + 1
  | (_, d) => uptoBulk d + 1
 end
def uptoSmall : (H : Type) → List (DataW H) → Bool := fun _ ds => decide (uptoBulkAll ds ≤ 1048576)
def OpenSpec.upto (s : _root_.Go.ChangeSpec) : _root_.Go.OpenSpec := { _root_.Go.OpenSpec.ofChange s with cond := some uptoSmall }

/-- 'quiltlaw10.SemaFull', WHERE WHAT IT READS IS OF BULK AT MOST 1048576: true; the input reads as it did. -/
def semaFullUptoRow : OpenClaim := { program := "ytaehdmelnmajnaa", sum := "c4d71422452b0066e304307b16893d6a809d2d3e00404a6a7950a56dab12a06a", func := "quilt/quiltlaw10.SemaFull", spec := "semaFull", apart := false, narrowed := true }
def SemaFullUptoSaid : Prop := semaFullUptoRow.holds Try.pinned (OpenSpec.upto semaFullSpec)

/-- 'quiltlaw10.SemaApart', WHERE WHAT IT READS IS OF BULK AT MOST 1048576: true; the input reads as it did. -/
def semaApartUptoRow : OpenClaim := { program := "ytaehdmelnmajnaa", sum := "c4d71422452b0066e304307b16893d6a809d2d3e00404a6a7950a56dab12a06a", func := "quilt/quiltlaw10.SemaApart", spec := "semaApart", apart := false, narrowed := true }
def SemaApartUptoSaid : Prop := semaApartUptoRow.holds Try.pinned (OpenSpec.upto semaApartSpec)

/-- 'quiltlaw10.SemaCounts', WHERE WHAT IT READS IS OF BULK AT MOST 1048576: true; the input reads as it did. -/
def semaCountsUptoRow : OpenClaim := { program := "ytaehdmelnmajnaa", sum := "c4d71422452b0066e304307b16893d6a809d2d3e00404a6a7950a56dab12a06a", func := "quilt/quiltlaw10.SemaCounts", spec := "semaCounts", apart := false, narrowed := true }
def SemaCountsUptoSaid : Prop := semaCountsUptoRow.holds Try.pinned (OpenSpec.upto semaCountsSpec)

/-- 'quiltlaw10.SemaPairs', WHERE WHAT IT READS IS OF BULK AT MOST 1048576: true; the input reads as it did. -/
def semaPairsUptoRow : OpenClaim := { program := "ytaehdmelnmajnaa", sum := "c4d71422452b0066e304307b16893d6a809d2d3e00404a6a7950a56dab12a06a", func := "quilt/quiltlaw10.SemaPairs", spec := "semaPairs", apart := false, narrowed := true }
def SemaPairsUptoSaid : Prop := semaPairsUptoRow.holds Try.pinned (OpenSpec.upto semaPairsSpec)

/-- 'quiltlaw10.SemaPlays', WHERE WHAT IT READS IS OF BULK AT MOST 1048576: true; the input reads as it did. -/
def semaPlaysUptoRow : OpenClaim := { program := "ytaehdmelnmajnaa", sum := "c4d71422452b0066e304307b16893d6a809d2d3e00404a6a7950a56dab12a06a", func := "quilt/quiltlaw10.SemaPlays", spec := "semaPlays", apart := false, narrowed := true }
def SemaPlaysUptoSaid : Prop := semaPlaysUptoRow.holds Try.pinned (OpenSpec.upto semaPlaysSpec)

end Rows
end Go.Proofs.Ytaehdmelnmajnaa
