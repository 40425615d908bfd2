/- Plain laws of layer 5: a row is the same as itself. -/
import Derived.Test.YtdgdgoekapekpaaGreatLPairA
import Derived.Test.YtdgdgoekapekpaaGreatEc2
namespace Go.V.P
open Go Go.V Go.IntWalk
set_option linter.unusedVariables false
set_option linter.unusedSimpArgs false
set_option maxRecDepth 20000
theorem same_refl (d : List Int) (h : d.length < 1000000) : ref05_Same d d = some true := by
  unfold ref05_Same
  rw [show ((d.length : Int) != (d.length : Int)) = false by simp]
  have := iterN_for (p := ref05_Same_l4_p d d) (z := .inl (d.length : Int)) d.length (fun i => (i : Int)) LL (LL_lt h) (fun i hi => by
    obtain ⟨t1, t2, t3⟩ := step_t hi h
    simp only [ref05_Same_l4_p, ref05_Same_r6_p, t1, t2, t3, cond_true, Option.bind_some, bne_self_eq_false, cond_false]
    rfl) (by
    simp only [ref05_Same_l4_p]
    rw [decide_eq_false (Int.lt_irrefl _)]
    rfl)
  rw [show (0 : Int) = ((0 : Nat) : Int) from rfl, this]
  rfl
end Go.V.P
