/-
  No cell of these rows narrows 'for every input' (looked for: loops, veiled, ifaces, maps, wideKeys, modest, calm, conditions, laid).
  DERIVED. THE GIVEN ROWS OF THIS SEAT. 5 by the template 'for every input the law returns true; each argument reads behind the call as it read before'; 0 by the template 'total and deterministic' (their statements: YtadljnfiehmmgaaTotals.lean).
  GIVEN WITH THE SEED: the statements are not yours to turn. If you find one false, say at which input.
  Laid BY PROGRAM, IN A SANDBOX (cutbox-rows.mjs): the forced cells as the released guide's own fill.sh prints them over the translation db71c5965d5baa63… (all of the seat's roots in one cut). By AI agents, Wed Nov 11 2026. No macro, syntax, notation, axiom, sorry.
-/
import Derived.Test.YtadljnfiehmmgaaChecked
import GoSem.Claim
import GoSem.ClaimJoined
import GoSem.ClaimMapViews
import Derived.JoinedTies
import Derived.KernelRfl
namespace Go.Proofs.Ytadljnfiehmmgaa
/- THE CELL 'sum', in the pinned program and in every row, IS THE sha256 OF THE DUMP (.gsa) THAT YtadljnfiehmmgaaProg.lean LOADS. Nothing in Lean hashes anything: it is a label: what it is worth is what the hold of that sum in a sandbox is worth. -/
noncomputable def Try.pinned : Pinned := { name := "ytadljnfiehmmgaa", sum := "db71c5965d5baa63a511b7efdcae32d5cbac46b92be1c09802f3ef1bc114cad5", checked := Try.checked }
namespace Rows
def none {H : Type} : Left H := { results := [], args := [] }

/-- 'quiltlaw16.TileRooms': WHATEVER THE INPUT: true; the input reads as it did. -/
def tileRoomsSpec : ChangeSpec := { name := "tileRooms", fn := fun _ => fun
  | [d1, d2, d3] => { results := [.lit (.bool true)], args := [d1, d2, d3] }
  | _ => none }
def tileRoomsRow : OpenClaim := { program := "ytadljnfiehmmgaa", sum := "db71c5965d5baa63a511b7efdcae32d5cbac46b92be1c09802f3ef1bc114cad5", func := "quilt/quiltlaw16.TileRooms", spec := "tileRooms", unfollowed := true, recurses := true, apart := false }
def TileRoomsSaid : Prop := tileRoomsRow.holds Try.pinned (OpenSpec.ofChange tileRoomsSpec)

/-- ITS FALSE NEIGHBOUR: 'it returns false'. Refute it at one input. -/
def tileRoomsWrong : ChangeSpec := { name := "tileRooms", fn := fun _ => fun
  | [d1, d2, d3] => { results := [.lit (.bool false)], args := [d1, d2, d3] }
  | _ => none }
def TileRoomsWrongFalsely : Prop := tileRoomsRow.holds Try.pinned (OpenSpec.ofChange tileRoomsWrong)

/-- 'quiltlaw16.TileAll': WHATEVER THE INPUT: true; the input reads as it did. -/
def tileAllSpec : ChangeSpec := { name := "tileAll", fn := fun _ => fun
  | [d1, d2, d3] => { results := [.lit (.bool true)], args := [d1, d2, d3] }
  | _ => none }
def tileAllRow : OpenClaim := { program := "ytadljnfiehmmgaa", sum := "db71c5965d5baa63a511b7efdcae32d5cbac46b92be1c09802f3ef1bc114cad5", func := "quilt/quiltlaw16.TileAll", spec := "tileAll", unfollowed := true, recurses := true, apart := false }
def TileAllSaid : Prop := tileAllRow.holds Try.pinned (OpenSpec.ofChange tileAllSpec)

/-- ITS FALSE NEIGHBOUR: 'it returns false'. Refute it at one input. -/
def tileAllWrong : ChangeSpec := { name := "tileAll", fn := fun _ => fun
  | [d1, d2, d3] => { results := [.lit (.bool false)], args := [d1, d2, d3] }
  | _ => none }
def TileAllWrongFalsely : Prop := tileAllRow.holds Try.pinned (OpenSpec.ofChange tileAllWrong)

/-- 'quiltlaw16.TileFits': WHATEVER THE INPUT: true; the input reads as it did. -/
def tileFitsSpec : ChangeSpec := { name := "tileFits", fn := fun _ => fun
  | [d1, d2] => { results := [.lit (.bool true)], args := [d1, d2] }
  | _ => none }
def tileFitsRow : OpenClaim := { program := "ytadljnfiehmmgaa", sum := "db71c5965d5baa63a511b7efdcae32d5cbac46b92be1c09802f3ef1bc114cad5", func := "quilt/quiltlaw16.TileFits", spec := "tileFits", unfollowed := true, recurses := true, apart := false }
def TileFitsSaid : Prop := tileFitsRow.holds Try.pinned (OpenSpec.ofChange tileFitsSpec)

/-- ITS FALSE NEIGHBOUR: 'it returns false'. Refute it at one input. -/
def tileFitsWrong : ChangeSpec := { name := "tileFits", fn := fun _ => fun
  | [d1, d2] => { results := [.lit (.bool false)], args := [d1, d2] }
  | _ => none }
def TileFitsWrongFalsely : Prop := tileFitsRow.holds Try.pinned (OpenSpec.ofChange tileFitsWrong)

/-- 'quiltlaw16.TileApart': WHATEVER THE INPUT: true; the input reads as it did. -/
def tileApartSpec : ChangeSpec := { name := "tileApart", fn := fun _ => fun
  | [d1, d2, d3] => { results := [.lit (.bool true)], args := [d1, d2, d3] }
  | _ => none }
def tileApartRow : OpenClaim := { program := "ytadljnfiehmmgaa", sum := "db71c5965d5baa63a511b7efdcae32d5cbac46b92be1c09802f3ef1bc114cad5", func := "quilt/quiltlaw16.TileApart", spec := "tileApart", unfollowed := true, recurses := true, apart := false }
def TileApartSaid : Prop := tileApartRow.holds Try.pinned (OpenSpec.ofChange tileApartSpec)

/-- ITS FALSE NEIGHBOUR: 'it returns false'. Refute it at one input. -/
def tileApartWrong : ChangeSpec := { name := "tileApart", fn := fun _ => fun
  | [d1, d2, d3] => { results := [.lit (.bool false)], args := [d1, d2, d3] }
  | _ => none }
def TileApartWrongFalsely : Prop := tileApartRow.holds Try.pinned (OpenSpec.ofChange tileApartWrong)

/-- 'quiltlaw16.TileSizes': WHATEVER THE INPUT: true; the input reads as it did. -/
def tileSizesSpec : ChangeSpec := { name := "tileSizes", fn := fun _ => fun
  | [d1, d2, d3] => { results := [.lit (.bool true)], args := [d1, d2, d3] }
  | _ => none }
def tileSizesRow : OpenClaim := { program := "ytadljnfiehmmgaa", sum := "db71c5965d5baa63a511b7efdcae32d5cbac46b92be1c09802f3ef1bc114cad5", func := "quilt/quiltlaw16.TileSizes", spec := "tileSizes", unfollowed := true, recurses := true, apart := false }
def TileSizesSaid : Prop := tileSizesRow.holds Try.pinned (OpenSpec.ofChange tileSizesSpec)

/-- ITS FALSE NEIGHBOUR: 'it returns false'. Refute it at one input. -/
def tileSizesWrong : ChangeSpec := { name := "tileSizes", fn := fun _ => fun
  | [d1, d2, d3] => { results := [.lit (.bool false)], args := [d1, d2, d3] }
  | _ => none }
def TileSizesWrongFalsely : Prop := tileSizesRow.holds Try.pinned (OpenSpec.ofChange tileSizesWrong)

/- THE SECOND FORM. 'bulk': how many values and letters a reading holds, each counted each time it is reached (what is shared counts as often as it is met; a slice's spare places count too). A statement '..UptoSaid' is the law's where the arguments, and the package variables that the reading takes, are together of bulk at most 1048576: NARROWER than '..Said'. Prove '..Said' where nothing that the law and all that it calls make is longer than what came in: it says more and counts as full. Else prove '..UptoSaid'. A law counts once. -/
mutual
def uptoBulk {H : Type} : DataW H → Nat
  | .lit (.string bytes) => bytes.length + 1
  | .lit _ => 1
  | .nil => 1
  | .ptr d => uptoBulk d + 1
  | .slice elems spare => uptoBulkAll elems + uptoBulkAll spare + 1
  | .agg parts => uptoBulkAll parts + 1
  | .iface _ d => uptoBulk d + 1
  | .map entries => uptoBulkEntries entries + 1
  | .held _ => 1
def uptoBulkAll {H : Type} : List (DataW H) → Nat
  | [] => 0
  | d :: r => uptoBulk d + uptoBulkAll r
def uptoBulkEntries {H : Type} : List (Lit × DataW H) → Nat
  | [] => 0
  | x :: r => uptoBulkEntry x + uptoBulkEntries r
def uptoBulkEntry {H : Type} : Lit × DataW H → Nat
  | (.string bytes, d) => bytes.length + uptoBulk d + 1
  | (_, d) => uptoBulk d + 1
 end
def uptoSmall : (H : Type) → List (DataW H) → Bool := fun _ ds => decide (uptoBulkAll ds ≤ 1048576)
def OpenSpec.upto (s : _root_.Go.ChangeSpec) : _root_.Go.OpenSpec := { _root_.Go.OpenSpec.ofChange s with cond := some uptoSmall }

/-- 'quiltlaw16.TileRooms', WHERE WHAT IT READS IS OF BULK AT MOST 1048576: true; the input reads as it did. -/
def tileRoomsUptoRow : OpenClaim := { program := "ytadljnfiehmmgaa", sum := "db71c5965d5baa63a511b7efdcae32d5cbac46b92be1c09802f3ef1bc114cad5", func := "quilt/quiltlaw16.TileRooms", spec := "tileRooms", unfollowed := true, recurses := true, apart := false, narrowed := true }
def TileRoomsUptoSaid : Prop := tileRoomsUptoRow.holds Try.pinned (OpenSpec.upto tileRoomsSpec)

/-- 'quiltlaw16.TileAll', WHERE WHAT IT READS IS OF BULK AT MOST 1048576: true; the input reads as it did. -/
def tileAllUptoRow : OpenClaim := { program := "ytadljnfiehmmgaa", sum := "db71c5965d5baa63a511b7efdcae32d5cbac46b92be1c09802f3ef1bc114cad5", func := "quilt/quiltlaw16.TileAll", spec := "tileAll", unfollowed := true, recurses := true, apart := false, narrowed := true }
def TileAllUptoSaid : Prop := tileAllUptoRow.holds Try.pinned (OpenSpec.upto tileAllSpec)

/-- 'quiltlaw16.TileFits', WHERE WHAT IT READS IS OF BULK AT MOST 1048576: true; the input reads as it did. -/
def tileFitsUptoRow : OpenClaim := { program := "ytadljnfiehmmgaa", sum := "db71c5965d5baa63a511b7efdcae32d5cbac46b92be1c09802f3ef1bc114cad5", func := "quilt/quiltlaw16.TileFits", spec := "tileFits", unfollowed := true, recurses := true, apart := false, narrowed := true }
def TileFitsUptoSaid : Prop := tileFitsUptoRow.holds Try.pinned (OpenSpec.upto tileFitsSpec)

/-- 'quiltlaw16.TileApart', WHERE WHAT IT READS IS OF BULK AT MOST 1048576: true; the input reads as it did. -/
def tileApartUptoRow : OpenClaim := { program := "ytadljnfiehmmgaa", sum := "db71c5965d5baa63a511b7efdcae32d5cbac46b92be1c09802f3ef1bc114cad5", func := "quilt/quiltlaw16.TileApart", spec := "tileApart", unfollowed := true, recurses := true, apart := false, narrowed := true }
def TileApartUptoSaid : Prop := tileApartUptoRow.holds Try.pinned (OpenSpec.upto tileApartSpec)

/-- 'quiltlaw16.TileSizes', WHERE WHAT IT READS IS OF BULK AT MOST 1048576: true; the input reads as it did. -/
def tileSizesUptoRow : OpenClaim := { program := "ytadljnfiehmmgaa", sum := "db71c5965d5baa63a511b7efdcae32d5cbac46b92be1c09802f3ef1bc114cad5", func := "quilt/quiltlaw16.TileSizes", spec := "tileSizes", unfollowed := true, recurses := true, apart := false, narrowed := true }
def TileSizesUptoSaid : Prop := tileSizesUptoRow.holds Try.pinned (OpenSpec.upto tileSizesSpec)

end Rows
end Go.Proofs.Ytadljnfiehmmgaa
