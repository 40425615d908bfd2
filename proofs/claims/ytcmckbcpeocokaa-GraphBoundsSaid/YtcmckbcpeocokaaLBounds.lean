/- Plain laws of layer 3: GraphBounds: all graphs that the law speaks of are looked at. -/
import Derived.Test.YtcmckbcpeocokaaV5
import Derived.Test.YtcmckbcpeocokaaGb3
namespace Go.V.P
open Go Go.V Go.IntWalk
set_option linter.unusedVariables false
set_option linter.unusedSimpArgs false
set_option maxRecDepth 20000
theorem bounds_all : ∀ i : Nat, i < 8 → ∀ j : Nat, j < 16 → ∀ k : Nat, k < 8 → law03_GraphBounds (i : Int) (j : Int) (k : Int) = some true := by decide +kernel
theorem r2_small : ∀ i : Nat, i < 8 → law03_GraphBounds_r2_p (i : Int) = (i : Int) := by decide +kernel
theorem r3_small : ∀ i : Nat, i < 16 → law03_GraphBounds_r3_p (i : Int) = (i : Int) := by decide +kernel
theorem r4_small : ∀ i : Nat, i < 8 → law03_GraphBounds_r4_p (i : Int) = (i : Int) := by decide +kernel
theorem GraphBounds_true (ins nodes outs : Int) (_ : Ts.ok (.one (.int .u8)) ins) (_ : Ts.ok (.one (.int .u8)) nodes) (_ : Ts.ok (.one (.int .u8)) outs) : law03_GraphBounds ins nodes outs = some true := by
  obtain ⟨a, a1, a2, a3⟩ := and8_le ins 7 (by decide)
  obtain ⟨b, b1, b2, b3⟩ := and8_le nodes 15 (by decide)
  obtain ⟨c, c1, c2, c3⟩ := and8_le outs 7 (by decide)
  have ea : law03_GraphBounds_r2_p ins = law03_GraphBounds_r2_p ((a.toNat : Nat) : Int) := by
    rw [r2_small a.toNat (by omega)]
    show IntKind.wrap .i64 (IntKind.wrap .u8 ((BitVec.ofInt (IntKind.bits .u8) ins &&& BitVec.ofInt (IntKind.bits .u8) ((7 : Nat) : Int)).toNat : Int)) = _
    rw [a1, i64_in a (by omega)]
    omega
  have eb : law03_GraphBounds_r3_p nodes = law03_GraphBounds_r3_p ((b.toNat : Nat) : Int) := by
    rw [r3_small b.toNat (by omega)]
    show IntKind.wrap .i64 (IntKind.wrap .u8 ((BitVec.ofInt (IntKind.bits .u8) nodes &&& BitVec.ofInt (IntKind.bits .u8) ((15 : Nat) : Int)).toNat : Int)) = _
    rw [b1, i64_in b (by omega)]
    omega
  have ec : law03_GraphBounds_r4_p outs = law03_GraphBounds_r4_p ((c.toNat : Nat) : Int) := by
    rw [r4_small c.toNat (by omega)]
    show IntKind.wrap .i64 (IntKind.wrap .u8 ((BitVec.ofInt (IntKind.bits .u8) outs &&& BitVec.ofInt (IntKind.bits .u8) ((7 : Nat) : Int)).toNat : Int)) = _
    rw [c1, i64_in c (by omega)]
    omega
  have key := bounds_all a.toNat (by omega) b.toNat (by omega) c.toNat (by omega)
  have l7 : law03_GraphBounds_l7_p ins = law03_GraphBounds_l7_p ((a.toNat : Nat) : Int) := by funext s; simp only [law03_GraphBounds_l7_p, ea]
  have l11 : law03_GraphBounds_l11_p nodes = law03_GraphBounds_l11_p ((b.toNat : Nat) : Int) := by funext s; simp only [law03_GraphBounds_l11_p, eb]
  have l15 : law03_GraphBounds_l15_p outs = law03_GraphBounds_l15_p ((c.toNat : Nat) : Int) := by funext s; simp only [law03_GraphBounds_l15_p, ec]
  have r24 : ∀ x y, law03_GraphBounds_r24_p ins nodes outs x y = law03_GraphBounds_r24_p ((a.toNat : Nat) : Int) ((b.toNat : Nat) : Int) ((c.toNat : Nat) : Int) x y := fun x y => by
    simp only [law03_GraphBounds_r24_p, law03_GraphBounds_r24_q, law03_GraphBounds_j21_p, law03_GraphBounds_j21_q, law03_GraphBounds_r21_p, law03_GraphBounds_r21_q, law03_GraphBounds_j19_p, law03_GraphBounds_j19_q, law03_GraphBounds_r19_p, law03_GraphBounds_r19_q, ea, eb, ec]
  rw [← key]
  unfold law03_GraphBounds
  rw [l7, l11, l15]
  simp only [r24]
end Go.V.P
