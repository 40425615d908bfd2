/- Plain laws of layer 10: rows of numbers that are the same. -/
import Derived.Test.YtaehdmelnmajnaaLSem
import Derived.Test.YtaehdmelnmajnaaSp0
namespace Go.V.P
open Go Go.V Go.IntWalk
set_option linter.unusedVariables false
set_option linter.unusedSimpArgs false
set_option maxRecDepth 20000
theorem ints_self (a : List Int) (ha : a.length < 1000000) : ref03_Ints a a = some true := by
  have := iterN_for (p := ref03_ints_l4_p a a) (z := .inl (a.length : Int)) a.length (fun i => (i : Int)) LL (LL_lt ha) (fun i hi => by
    simp only [ref03_ints_l4_p, ref03_ints_r6_p]
    rw [decide_eq_true (by omega : (i : Int) < (a.length : Int)), decide_eq_true (by omega : (0 : Int) ≤ (i : Int)), i64_in ((i : Int) + 1) (by omega), bne_self_eq_false]
    rfl) (by
    simp only [ref03_ints_l4_p]
    rw [decide_eq_false (Int.lt_irrefl _)]
    rfl)
  rw [show ((0 : Nat) : Int) = 0 from rfl] at this
  unfold ref03_Ints ref03_ints
  rw [bne_self_eq_false, this]
  rfl
end Go.V.P
