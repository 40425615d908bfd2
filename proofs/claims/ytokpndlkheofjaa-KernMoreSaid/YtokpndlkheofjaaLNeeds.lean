/- Plain laws of layer 5: which rows are needed. -/
import Derived.Test.YtokpndlkheofjaaLSh4
import Derived.Test.YtokpndlkheofjaaKe9
namespace Go.V.P
open Go Go.V Go.IntWalk
set_option linter.unusedVariables false
set_option linter.unusedSimpArgs false
set_option maxRecDepth 20000
theorem rng1 {P : Int → Prop} {a : Int} {n : Nat} (h : ∀ i : Nat, i < n → P (a + (i : Int))) (x : Int) (h1 : a ≤ x) (h2 : x < a + n) : P x := by
  have := h (x - a).toNat (by omega)
  rwa [show a + ((x - a).toNat : Int) = x by omega] at this
/-- the rows of a padded value that are looked at -/
def padV (first rows h : Int) : Int × Int := if max (first - 1) 0 ≥ min (first + rows - 1) h then (0, 0) else (max (first - 1) 0, min (first + rows - 1) h)
theorem pad_reach (first rows h : Int) (h1 : 1 ≤ h ∧ h ≤ 16) (h2 : 0 ≤ first) (h3 : 1 ≤ rows) (h6 : first < 0 + (18 : Nat)) (h7 : rows < 1 + (18 : Nat)) : first + rows ≤ h + 2 → reachV first rows 1 1 1 h = padV first rows h := by
  obtain ⟨h1, h8⟩ := h1
  have h5 : h < 1 + (16 : Nat) := by omega
  clear h8
  revert rows; refine rng1 fun l hl => ?_
  revert first; refine rng1 fun j hj => ?_
  revert h; refine rng1 fun i hi => ?_
  revert l j i
  decide +kernel
end Go.V.P
