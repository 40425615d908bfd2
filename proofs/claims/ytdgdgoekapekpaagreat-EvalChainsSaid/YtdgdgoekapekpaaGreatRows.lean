/-
  No cell of these rows narrows 'for every input' (looked for: loops, veiled, ifaces, maps, wideKeys, modest, calm, conditions, laid).
  DERIVED. THE GIVEN ROWS OF THIS SEAT. 2 by the template 'for every input the law returns true; each argument reads behind the call as it read before'; 0 by the template 'total and deterministic' (their statements: YtdgdgoekapekpaaGreatTotals.lean).
  GIVEN WITH THE SEED: the statements are not yours to turn. If you find one false, say at which input.
  Laid BY PROGRAM, IN A SANDBOX (cutbox-rows.mjs): the forced cells as the released guide's own fill.sh prints them over the translation 4fdc24db6db15822… (all of the seat's roots in one cut). By AI agents, Wed Nov 11 2026. No macro, syntax, notation, axiom, sorry.
-/
import Derived.Test.YtdgdgoekapekpaaGreatChecked
import GoSem.Claim
import GoSem.ClaimJoined
import GoSem.ClaimMapViews
import Derived.JoinedTies
import Derived.KernelRfl
namespace Go.Proofs.YtdgdgoekapekpaaGreat
/- THE CELL 'sum', in the pinned program and in every row, IS THE sha256 OF THE DUMP (.gsa) THAT YtdgdgoekapekpaaGreatProg.lean LOADS. Nothing in Lean hashes anything: it is a label: what it is worth is what the hold of that sum in a sandbox is worth. -/
noncomputable def Tryz.pinned : Pinned := { name := "ytdgdgoekapekpaagreat", sum := "4fdc24db6db1582248d347067224c67a19acce7558c3e72814ff95993d4adb87", checked := Tryz.checked }
namespace Rows
def none {H : Type} : Left H := { results := [], args := [] }

/-- 'quiltlaw06.EvalOwn': WHATEVER THE INPUT: true; the input reads as it did. -/
def evalOwnSpec : ChangeSpec := { name := "evalOwn", fn := fun _ => fun
  | [d1, d2] => { results := [.lit (.bool true)], args := [d1, d2] }
  | _ => none }
def evalOwnRow : OpenClaim := { program := "ytdgdgoekapekpaagreat", sum := "4fdc24db6db1582248d347067224c67a19acce7558c3e72814ff95993d4adb87", func := "quilt/quiltlaw06.EvalOwn", spec := "evalOwn", unfollowed := true, recurses := true, apart := false }
def EvalOwnSaid : Prop := evalOwnRow.holds Tryz.pinned (OpenSpec.ofChange evalOwnSpec)

/-- ITS FALSE NEIGHBOUR: 'it returns false'. Refute it at one input. -/
def evalOwnWrong : ChangeSpec := { name := "evalOwn", fn := fun _ => fun
  | [d1, d2] => { results := [.lit (.bool false)], args := [d1, d2] }
  | _ => none }
def EvalOwnWrongFalsely : Prop := evalOwnRow.holds Tryz.pinned (OpenSpec.ofChange evalOwnWrong)

/-- 'quiltlaw06.EvalChains': WHATEVER THE INPUT: true; the input reads as it did. -/
def evalChainsSpec : ChangeSpec := { name := "evalChains", fn := fun _ => fun
  | [d1, d2] => { results := [.lit (.bool true)], args := [d1, d2] }
  | _ => none }
def evalChainsRow : OpenClaim := { program := "ytdgdgoekapekpaagreat", sum := "4fdc24db6db1582248d347067224c67a19acce7558c3e72814ff95993d4adb87", func := "quilt/quiltlaw06.EvalChains", spec := "evalChains", unfollowed := true, recurses := true, apart := false }
def EvalChainsSaid : Prop := evalChainsRow.holds Tryz.pinned (OpenSpec.ofChange evalChainsSpec)

/-- ITS FALSE NEIGHBOUR: 'it returns false'. Refute it at one input. -/
def evalChainsWrong : ChangeSpec := { name := "evalChains", fn := fun _ => fun
  | [d1, d2] => { results := [.lit (.bool false)], args := [d1, d2] }
  | _ => none }
def EvalChainsWrongFalsely : Prop := evalChainsRow.holds Tryz.pinned (OpenSpec.ofChange evalChainsWrong)

/- THE SECOND FORM. 'bulk': how many values and letters a reading holds, each counted each time it is reached (what is shared counts as often as it is met; a slice's spare places count too). A statement '..UptoSaid' is the law's where the arguments, and the package variables that the reading takes, are together of bulk at most 1048576: NARROWER than '..Said'. Prove '..Said' where nothing that the law and all that it calls make is longer than what came in: it says more and counts as full. Else prove '..UptoSaid'. A law counts once. -/
mutual
def uptoBulk {H : Type} : DataW H → Nat
  | .lit (.string bytes) => bytes.length + 1
  | .lit _ => 1
  | .nil => 1
  | .ptr d => uptoBulk d + 1
  | .slice elems spare => uptoBulkAll elems + uptoBulkAll spare + 1
  | .agg parts => uptoBulkAll parts + 1
  | .iface _ d => uptoBulk d + 1
  | .map entries => uptoBulkEntries entries + 1
  | .held _ => 1
def uptoBulkAll {H : Type} : List (DataW H) → Nat
  | [] => 0
  | d :: r => uptoBulk d + uptoBulkAll r
def uptoBulkEntries {H : Type} : List (Lit × DataW H) → Nat
  | [] => 0
  | x :: r => uptoBulkEntry x + uptoBulkEntries r
def uptoBulkEntry {H : Type} : Lit × DataW H → Nat
  | (.string bytes, d) => bytes.length + uptoBulk d + 1
  | (_, d) => uptoBulk d + 1
 end
def uptoSmall : (H : Type) → List (DataW H) → Bool := fun _ ds => decide (uptoBulkAll ds ≤ 1048576)
def OpenSpec.upto (s : _root_.Go.ChangeSpec) : _root_.Go.OpenSpec := { _root_.Go.OpenSpec.ofChange s with cond := some uptoSmall }

/-- 'quiltlaw06.EvalOwn', WHERE WHAT IT READS IS OF BULK AT MOST 1048576: true; the input reads as it did. -/
def evalOwnUptoRow : OpenClaim := { program := "ytdgdgoekapekpaagreat", sum := "4fdc24db6db1582248d347067224c67a19acce7558c3e72814ff95993d4adb87", func := "quilt/quiltlaw06.EvalOwn", spec := "evalOwn", unfollowed := true, recurses := true, apart := false, narrowed := true }
def EvalOwnUptoSaid : Prop := evalOwnUptoRow.holds Tryz.pinned (OpenSpec.upto evalOwnSpec)

/-- 'quiltlaw06.EvalChains', WHERE WHAT IT READS IS OF BULK AT MOST 1048576: true; the input reads as it did. -/
def evalChainsUptoRow : OpenClaim := { program := "ytdgdgoekapekpaagreat", sum := "4fdc24db6db1582248d347067224c67a19acce7558c3e72814ff95993d4adb87", func := "quilt/quiltlaw06.EvalChains", spec := "evalChains", unfollowed := true, recurses := true, apart := false, narrowed := true }
def EvalChainsUptoSaid : Prop := evalChainsUptoRow.holds Tryz.pinned (OpenSpec.upto evalChainsSpec)

end Rows
end Go.Proofs.YtdgdgoekapekpaaGreat
