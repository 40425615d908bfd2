/-
  No cell of these rows narrows 'for every input' (looked for: loops, veiled, ifaces, maps, wideKeys, modest, calm, conditions, laid).
  DERIVED. THE GIVEN ROWS OF THIS SEAT. 9 by the template 'for every input the law returns true; each argument reads behind the call as it read before'; 0 by the template 'total and deterministic' (their statements: YtokpndlkheofjaaTotals.lean).
  GIVEN WITH THE SEED: the statements are not yours to turn. If you find one false, say at which input.
  Laid BY PROGRAM, IN A SANDBOX (cutbox-rows.mjs): the forced cells as the released guide's own fill.sh prints them over the translation 63764efa47929ba5… (all of the seat's roots in one cut). By AI agents, Wed Nov 11 2026. No macro, syntax, notation, axiom, sorry.
-/
import Derived.Test.YtokpndlkheofjaaChecked
import GoSem.Claim
import GoSem.ClaimJoined
import GoSem.ClaimMapViews
import Derived.JoinedTies
import Derived.KernelRfl
namespace Go.Proofs.Ytokpndlkheofjaa
/- THE CELL 'sum', in the pinned program and in every row, IS THE sha256 OF THE DUMP (.gsa) THAT YtokpndlkheofjaaProg.lean LOADS. Nothing in Lean hashes anything: it is a label: what it is worth is what the hold of that sum in a sandbox is worth. -/
noncomputable def Try.pinned : Pinned := { name := "ytokpndlkheofjaa", sum := "63764efa47929ba5aa8a42cdeb7f78f1ea2a5424748ad5b70523d17c8fadca51", checked := Try.checked }
namespace Rows
def none {H : Type} : Left H := { results := [], args := [] }

/-- 'quiltlaw05.KernNeeds': WHATEVER THE INPUT: true; the input reads as it did. -/
def kernNeedsSpec : ChangeSpec := { name := "kernNeeds", fn := fun _ => fun
  | [d1, d2, d3] => { results := [.lit (.bool true)], args := [d1, d2, d3] }
  | _ => none }
def kernNeedsRow : OpenClaim := { program := "ytokpndlkheofjaa", sum := "63764efa47929ba5aa8a42cdeb7f78f1ea2a5424748ad5b70523d17c8fadca51", func := "quilt/quiltlaw05.KernNeeds", spec := "kernNeeds", unfollowed := true, recurses := true, apart := false }
def KernNeedsSaid : Prop := kernNeedsRow.holds Try.pinned (OpenSpec.ofChange kernNeedsSpec)

/-- ITS FALSE NEIGHBOUR: 'it returns false'. Refute it at one input. -/
def kernNeedsWrong : ChangeSpec := { name := "kernNeeds", fn := fun _ => fun
  | [d1, d2, d3] => { results := [.lit (.bool false)], args := [d1, d2, d3] }
  | _ => none }
def KernNeedsWrongFalsely : Prop := kernNeedsRow.holds Try.pinned (OpenSpec.ofChange kernNeedsWrong)

/-- 'quiltlaw05.KernMore': WHATEVER THE INPUT: true; the input reads as it did. -/
def kernMoreSpec : ChangeSpec := { name := "kernMore", fn := fun _ => fun
  | [d1, d2, d3] => { results := [.lit (.bool true)], args := [d1, d2, d3] }
  | _ => none }
def kernMoreRow : OpenClaim := { program := "ytokpndlkheofjaa", sum := "63764efa47929ba5aa8a42cdeb7f78f1ea2a5424748ad5b70523d17c8fadca51", func := "quilt/quiltlaw05.KernMore", spec := "kernMore", unfollowed := true, recurses := true, apart := false }
def KernMoreSaid : Prop := kernMoreRow.holds Try.pinned (OpenSpec.ofChange kernMoreSpec)

/-- ITS FALSE NEIGHBOUR: 'it returns false'. Refute it at one input. -/
def kernMoreWrong : ChangeSpec := { name := "kernMore", fn := fun _ => fun
  | [d1, d2, d3] => { results := [.lit (.bool false)], args := [d1, d2, d3] }
  | _ => none }
def KernMoreWrongFalsely : Prop := kernMoreRow.holds Try.pinned (OpenSpec.ofChange kernMoreWrong)

/-- 'quiltlaw05.KernSums': WHATEVER THE INPUT: true; the input reads as it did. -/
def kernSumsSpec : ChangeSpec := { name := "kernSums", fn := fun _ => fun
  | [d1, d2, d3] => { results := [.lit (.bool true)], args := [d1, d2, d3] }
  | _ => none }
def kernSumsRow : OpenClaim := { program := "ytokpndlkheofjaa", sum := "63764efa47929ba5aa8a42cdeb7f78f1ea2a5424748ad5b70523d17c8fadca51", func := "quilt/quiltlaw05.KernSums", spec := "kernSums", unfollowed := true, recurses := true, apart := false }
def KernSumsSaid : Prop := kernSumsRow.holds Try.pinned (OpenSpec.ofChange kernSumsSpec)

/-- ITS FALSE NEIGHBOUR: 'it returns false'. Refute it at one input. -/
def kernSumsWrong : ChangeSpec := { name := "kernSums", fn := fun _ => fun
  | [d1, d2, d3] => { results := [.lit (.bool false)], args := [d1, d2, d3] }
  | _ => none }
def KernSumsWrongFalsely : Prop := kernSumsRow.holds Try.pinned (OpenSpec.ofChange kernSumsWrong)

/-- 'quiltlaw05.KernKeeps': WHATEVER THE INPUT: true; the input reads as it did. -/
def kernKeepsSpec : ChangeSpec := { name := "kernKeeps", fn := fun _ => fun
  | [d] => { results := [.lit (.bool true)], args := [d] }
  | _ => none }
def kernKeepsRow : OpenClaim := { program := "ytokpndlkheofjaa", sum := "63764efa47929ba5aa8a42cdeb7f78f1ea2a5424748ad5b70523d17c8fadca51", func := "quilt/quiltlaw05.KernKeeps", spec := "kernKeeps", unfollowed := true, recurses := true, apart := false }
def KernKeepsSaid : Prop := kernKeepsRow.holds Try.pinned (OpenSpec.ofChange kernKeepsSpec)

/-- ITS FALSE NEIGHBOUR: 'it returns false'. Refute it at one input. -/
def kernKeepsWrong : ChangeSpec := { name := "kernKeeps", fn := fun _ => fun
  | [d] => { results := [.lit (.bool false)], args := [d] }
  | _ => none }
def KernKeepsWrongFalsely : Prop := kernKeepsRow.holds Try.pinned (OpenSpec.ofChange kernKeepsWrong)

/-- 'quiltlaw05.KernBetween': WHATEVER THE INPUT: true; the input reads as it did. -/
def kernBetweenSpec : ChangeSpec := { name := "kernBetween", fn := fun _ => fun
  | [d1, d2] => { results := [.lit (.bool true)], args := [d1, d2] }
  | _ => none }
def kernBetweenRow : OpenClaim := { program := "ytokpndlkheofjaa", sum := "63764efa47929ba5aa8a42cdeb7f78f1ea2a5424748ad5b70523d17c8fadca51", func := "quilt/quiltlaw05.KernBetween", spec := "kernBetween", unfollowed := true, recurses := true, apart := false }
def KernBetweenSaid : Prop := kernBetweenRow.holds Try.pinned (OpenSpec.ofChange kernBetweenSpec)

/-- ITS FALSE NEIGHBOUR: 'it returns false'. Refute it at one input. -/
def kernBetweenWrong : ChangeSpec := { name := "kernBetween", fn := fun _ => fun
  | [d1, d2] => { results := [.lit (.bool false)], args := [d1, d2] }
  | _ => none }
def KernBetweenWrongFalsely : Prop := kernBetweenRow.holds Try.pinned (OpenSpec.ofChange kernBetweenWrong)

/-- 'quiltlaw05.KernWeights': WHATEVER THE INPUT: true; the input reads as it did. -/
def kernWeightsSpec : ChangeSpec := { name := "kernWeights", fn := fun _ => fun
  | [d1, d2] => { results := [.lit (.bool true)], args := [d1, d2] }
  | _ => none }
def kernWeightsRow : OpenClaim := { program := "ytokpndlkheofjaa", sum := "63764efa47929ba5aa8a42cdeb7f78f1ea2a5424748ad5b70523d17c8fadca51", func := "quilt/quiltlaw05.KernWeights", spec := "kernWeights", unfollowed := true, recurses := true, apart := false }
def KernWeightsSaid : Prop := kernWeightsRow.holds Try.pinned (OpenSpec.ofChange kernWeightsSpec)

/-- ITS FALSE NEIGHBOUR: 'it returns false'. Refute it at one input. -/
def kernWeightsWrong : ChangeSpec := { name := "kernWeights", fn := fun _ => fun
  | [d1, d2] => { results := [.lit (.bool false)], args := [d1, d2] }
  | _ => none }
def KernWeightsWrongFalsely : Prop := kernWeightsRow.holds Try.pinned (OpenSpec.ofChange kernWeightsWrong)

/-- 'quiltlaw05.KernBeside': WHATEVER THE INPUT: true; the input reads as it did. -/
def kernBesideSpec : ChangeSpec := { name := "kernBeside", fn := fun _ => fun
  | [d1, d2] => { results := [.lit (.bool true)], args := [d1, d2] }
  | _ => none }
def kernBesideRow : OpenClaim := { program := "ytokpndlkheofjaa", sum := "63764efa47929ba5aa8a42cdeb7f78f1ea2a5424748ad5b70523d17c8fadca51", func := "quilt/quiltlaw05.KernBeside", spec := "kernBeside", unfollowed := true, recurses := true, apart := false }
def KernBesideSaid : Prop := kernBesideRow.holds Try.pinned (OpenSpec.ofChange kernBesideSpec)

/-- ITS FALSE NEIGHBOUR: 'it returns false'. Refute it at one input. -/
def kernBesideWrong : ChangeSpec := { name := "kernBeside", fn := fun _ => fun
  | [d1, d2] => { results := [.lit (.bool false)], args := [d1, d2] }
  | _ => none }
def KernBesideWrongFalsely : Prop := kernBesideRow.holds Try.pinned (OpenSpec.ofChange kernBesideWrong)

/-- 'quiltlaw05.KernStrides': WHATEVER THE INPUT: true; the input reads as it did. -/
def kernStridesSpec : ChangeSpec := { name := "kernStrides", fn := fun _ => fun
  | [d1, d2, d3] => { results := [.lit (.bool true)], args := [d1, d2, d3] }
  | _ => none }
def kernStridesRow : OpenClaim := { program := "ytokpndlkheofjaa", sum := "63764efa47929ba5aa8a42cdeb7f78f1ea2a5424748ad5b70523d17c8fadca51", func := "quilt/quiltlaw05.KernStrides", spec := "kernStrides", unfollowed := true, recurses := true, apart := false }
def KernStridesSaid : Prop := kernStridesRow.holds Try.pinned (OpenSpec.ofChange kernStridesSpec)

/-- ITS FALSE NEIGHBOUR: 'it returns false'. Refute it at one input. -/
def kernStridesWrong : ChangeSpec := { name := "kernStrides", fn := fun _ => fun
  | [d1, d2, d3] => { results := [.lit (.bool false)], args := [d1, d2, d3] }
  | _ => none }
def KernStridesWrongFalsely : Prop := kernStridesRow.holds Try.pinned (OpenSpec.ofChange kernStridesWrong)

/-- 'quiltlaw05.KernPads': WHATEVER THE INPUT: true; the input reads as it did. -/
def kernPadsSpec : ChangeSpec := { name := "kernPads", fn := fun _ => fun
  | [d1, d2] => { results := [.lit (.bool true)], args := [d1, d2] }
  | _ => none }
def kernPadsRow : OpenClaim := { program := "ytokpndlkheofjaa", sum := "63764efa47929ba5aa8a42cdeb7f78f1ea2a5424748ad5b70523d17c8fadca51", func := "quilt/quiltlaw05.KernPads", spec := "kernPads", unfollowed := true, recurses := true, apart := false }
def KernPadsSaid : Prop := kernPadsRow.holds Try.pinned (OpenSpec.ofChange kernPadsSpec)

/-- ITS FALSE NEIGHBOUR: 'it returns false'. Refute it at one input. -/
def kernPadsWrong : ChangeSpec := { name := "kernPads", fn := fun _ => fun
  | [d1, d2] => { results := [.lit (.bool false)], args := [d1, d2] }
  | _ => none }
def KernPadsWrongFalsely : Prop := kernPadsRow.holds Try.pinned (OpenSpec.ofChange kernPadsWrong)

/- THE SECOND FORM. 'bulk': how many values and letters a reading holds, each counted each time it is reached (what is shared counts as often as it is met; a slice's spare places count too). A statement '..UptoSaid' is the law's where the arguments, and the package variables that the reading takes, are together of bulk at most 1048576: NARROWER than '..Said'. Prove '..Said' where nothing that the law and all that it calls make is longer than what came in: it says more and counts as full. Else prove '..UptoSaid'. A law counts once. -/
mutual
def uptoBulk {H : Type} : DataW H → Nat
  | .lit (.string bytes) => bytes.length + 1
  | .lit _ => 1
  | .nil => 1
  | .ptr d => uptoBulk d + 1
  | .slice elems spare => uptoBulkAll elems + uptoBulkAll spare + 1
  | .agg parts => uptoBulkAll parts + 1
  | .iface _ d => uptoBulk d + 1
  | .map entries => uptoBulkEntries entries + 1
  | .held _ => 1
def uptoBulkAll {H : Type} : List (DataW H) → Nat
  | [] => 0
  | d :: r => uptoBulk d + uptoBulkAll r
def uptoBulkEntries {H : Type} : List (Lit × DataW H) → Nat
  | [] => 0
  | x :: r => uptoBulkEntry x + uptoBulkEntries r
def uptoBulkEntry {H : Type} : Lit × DataW H → Nat
  | (.string bytes, d) => bytes.length + uptoBulk d + 1
  | (_, d) => uptoBulk d + 1
 end
def uptoSmall : (H : Type) → List (DataW H) → Bool := fun _ ds => decide (uptoBulkAll ds ≤ 1048576)
def OpenSpec.upto (s : _root_.Go.ChangeSpec) : _root_.Go.OpenSpec := { _root_.Go.OpenSpec.ofChange s with cond := some uptoSmall }

/-- 'quiltlaw05.KernNeeds', WHERE WHAT IT READS IS OF BULK AT MOST 1048576: true; the input reads as it did. -/
def kernNeedsUptoRow : OpenClaim := { program := "ytokpndlkheofjaa", sum := "63764efa47929ba5aa8a42cdeb7f78f1ea2a5424748ad5b70523d17c8fadca51", func := "quilt/quiltlaw05.KernNeeds", spec := "kernNeeds", unfollowed := true, recurses := true, apart := false, narrowed := true }
def KernNeedsUptoSaid : Prop := kernNeedsUptoRow.holds Try.pinned (OpenSpec.upto kernNeedsSpec)

/-- 'quiltlaw05.KernMore', WHERE WHAT IT READS IS OF BULK AT MOST 1048576: true; the input reads as it did. -/
def kernMoreUptoRow : OpenClaim := { program := "ytokpndlkheofjaa", sum := "63764efa47929ba5aa8a42cdeb7f78f1ea2a5424748ad5b70523d17c8fadca51", func := "quilt/quiltlaw05.KernMore", spec := "kernMore", unfollowed := true, recurses := true, apart := false, narrowed := true }
def KernMoreUptoSaid : Prop := kernMoreUptoRow.holds Try.pinned (OpenSpec.upto kernMoreSpec)

/-- 'quiltlaw05.KernSums', WHERE WHAT IT READS IS OF BULK AT MOST 1048576: true; the input reads as it did. -/
def kernSumsUptoRow : OpenClaim := { program := "ytokpndlkheofjaa", sum := "63764efa47929ba5aa8a42cdeb7f78f1ea2a5424748ad5b70523d17c8fadca51", func := "quilt/quiltlaw05.KernSums", spec := "kernSums", unfollowed := true, recurses := true, apart := false, narrowed := true }
def KernSumsUptoSaid : Prop := kernSumsUptoRow.holds Try.pinned (OpenSpec.upto kernSumsSpec)

/-- 'quiltlaw05.KernKeeps', WHERE WHAT IT READS IS OF BULK AT MOST 1048576: true; the input reads as it did. -/
def kernKeepsUptoRow : OpenClaim := { program := "ytokpndlkheofjaa", sum := "63764efa47929ba5aa8a42cdeb7f78f1ea2a5424748ad5b70523d17c8fadca51", func := "quilt/quiltlaw05.KernKeeps", spec := "kernKeeps", unfollowed := true, recurses := true, apart := false, narrowed := true }
def KernKeepsUptoSaid : Prop := kernKeepsUptoRow.holds Try.pinned (OpenSpec.upto kernKeepsSpec)

/-- 'quiltlaw05.KernBetween', WHERE WHAT IT READS IS OF BULK AT MOST 1048576: true; the input reads as it did. -/
def kernBetweenUptoRow : OpenClaim := { program := "ytokpndlkheofjaa", sum := "63764efa47929ba5aa8a42cdeb7f78f1ea2a5424748ad5b70523d17c8fadca51", func := "quilt/quiltlaw05.KernBetween", spec := "kernBetween", unfollowed := true, recurses := true, apart := false, narrowed := true }
def KernBetweenUptoSaid : Prop := kernBetweenUptoRow.holds Try.pinned (OpenSpec.upto kernBetweenSpec)

/-- 'quiltlaw05.KernWeights', WHERE WHAT IT READS IS OF BULK AT MOST 1048576: true; the input reads as it did. -/
def kernWeightsUptoRow : OpenClaim := { program := "ytokpndlkheofjaa", sum := "63764efa47929ba5aa8a42cdeb7f78f1ea2a5424748ad5b70523d17c8fadca51", func := "quilt/quiltlaw05.KernWeights", spec := "kernWeights", unfollowed := true, recurses := true, apart := false, narrowed := true }
def KernWeightsUptoSaid : Prop := kernWeightsUptoRow.holds Try.pinned (OpenSpec.upto kernWeightsSpec)

/-- 'quiltlaw05.KernBeside', WHERE WHAT IT READS IS OF BULK AT MOST 1048576: true; the input reads as it did. -/
def kernBesideUptoRow : OpenClaim := { program := "ytokpndlkheofjaa", sum := "63764efa47929ba5aa8a42cdeb7f78f1ea2a5424748ad5b70523d17c8fadca51", func := "quilt/quiltlaw05.KernBeside", spec := "kernBeside", unfollowed := true, recurses := true, apart := false, narrowed := true }
def KernBesideUptoSaid : Prop := kernBesideUptoRow.holds Try.pinned (OpenSpec.upto kernBesideSpec)

/-- 'quiltlaw05.KernStrides', WHERE WHAT IT READS IS OF BULK AT MOST 1048576: true; the input reads as it did. -/
def kernStridesUptoRow : OpenClaim := { program := "ytokpndlkheofjaa", sum := "63764efa47929ba5aa8a42cdeb7f78f1ea2a5424748ad5b70523d17c8fadca51", func := "quilt/quiltlaw05.KernStrides", spec := "kernStrides", unfollowed := true, recurses := true, apart := false, narrowed := true }
def KernStridesUptoSaid : Prop := kernStridesUptoRow.holds Try.pinned (OpenSpec.upto kernStridesSpec)

/-- 'quiltlaw05.KernPads', WHERE WHAT IT READS IS OF BULK AT MOST 1048576: true; the input reads as it did. -/
def kernPadsUptoRow : OpenClaim := { program := "ytokpndlkheofjaa", sum := "63764efa47929ba5aa8a42cdeb7f78f1ea2a5424748ad5b70523d17c8fadca51", func := "quilt/quiltlaw05.KernPads", spec := "kernPads", unfollowed := true, recurses := true, apart := false, narrowed := true }
def KernPadsUptoSaid : Prop := kernPadsUptoRow.holds Try.pinned (OpenSpec.upto kernPadsSpec)

end Rows
end Go.Proofs.Ytokpndlkheofjaa
