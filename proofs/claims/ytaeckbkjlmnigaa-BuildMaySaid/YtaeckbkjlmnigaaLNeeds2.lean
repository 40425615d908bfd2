/- Plain laws of layer 5: both ways to tell which rows are needed agree, step by step. -/
import Derived.Test.YtaeckbkjlmnigaaLVin
import Derived.Test.YtaeckbkjlmnigaaLSh4
import Derived.Test.YtaeckbkjlmnigaaBm4
namespace Go.V.P
open Go Go.V Go.IntWalk
set_option linter.unusedVariables false
set_option linter.unusedSimpArgs false
set_option maxRecDepth 20000
theorem needs_step (n : Node) (l : List I4) (first rows : Int) (s : Int × Int × Int × Int × Int)
    (h9 : n.1 = 9 → ∀ i : Nat, i < l.length → shape_Reach first rows 1 1 1 (gt l (i : Int) dI4).1 = some (if max (IntKind.wrap .i64 (first - 1)) 0 ≥ min (IntKind.wrap .i64 (IntKind.wrap .i64 (first + rows) - 1)) (gt l (i : Int) dI4).1 then (0, 0) else (max (IntKind.wrap .i64 (first - 1)) 0, min (IntKind.wrap .i64 (IntKind.wrap .i64 (first + rows) - 1)) (gt l (i : Int) dI4).1))) :
    kern_Needs_l7_p n l first rows s = ref05_Needs_l8_p n l first rows s := by
  have hj : ref05_Needs_j14_p n = kern_Needs_j12_p n := rfl
  have hj2 : ref05_Needs_j25_p n = kern_Needs_j19_p n := rfl
  simp only [kern_Needs_l7_p, kern_Needs_j8_p, kern_Needs_r9_p, kern_Needs_r16_p, kern_Needs_r18_p, kern_Needs_r21_p, kern_Needs_r11_p,
    ref05_Needs_l8_p, ref05_Needs_r10_p, ref05_Needs_j13_p, ref05_Needs_r29_p, hj, hj2]
  by_cases h1 : s.1 < l.length
  · by_cases h0 : 0 ≤ s.1
    · rw [decide_eq_true h1, decide_eq_true h0]
      simp only [cond_true, Option.bind_some]
      cases kern_Needs_j12_p n with
      | true =>
        simp only [cond_true, shape_Reach_eq, ref02_Reach_eq, Option.bind_some]
        cases (s.1 == 0) <;> cases (s.1 == 1) <;> rfl
      | false =>
        simp only [cond_false]
        by_cases h : n.1 = 9
        · have hs := h9 h s.1.toNat (by omega)
          rw [show ((s.1.toNat : Nat) : Int) = s.1 by omega] at hs
          rw [show (n.1 == 9) = true by simpa using h]
          simp only [cond_true, hs, Option.bind_some]
          by_cases hg : max (IntKind.wrap .i64 (first - 1)) 0 ≥ min (IntKind.wrap .i64 (IntKind.wrap .i64 (first + rows) - 1)) (gt l s.1 dI4).1
          · rw [show ref05_Needs_r22_p l first rows s = true from decide_eq_true hg, if_pos hg]
            cases (s.1 == 0) <;> cases (s.1 == 1) <;> rfl
          · rw [show ref05_Needs_r22_p l first rows s = false from decide_eq_false hg, if_neg hg]
            cases (s.1 == 0) <;> cases (s.1 == 1) <;> rfl
        · rw [show (n.1 == 9) = false by simpa using h]
          simp only [cond_false]
          cases kern_Needs_j19_p n with
          | true => cases (s.1 == 0) <;> cases (s.1 == 1) <;> rfl
          | false => cases (s.1 == 0) <;> cases (s.1 == 1) <;> rfl
    · rw [decide_eq_false h0]
      rfl
  · rw [decide_eq_false h1]
    rfl
end Go.V.P
