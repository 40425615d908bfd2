/- Plain laws of layer 15: HaloSizes. -/
import Derived.Test.YtelfooangijedaaLMost
namespace Go.V.P
open Go Go.V Go.IntWalk
set_option linter.unusedVariables false
set_option linter.unusedSimpArgs false
set_option maxRecDepth 20000
theorem few15_ok (n : Node) : ∃ m, law15_few n = some m ∧ okNode m := by
  obtain ⟨a, e1, h1⟩ := cut_ok n.2.1 20 (by omega)
  obtain ⟨b, e2, h2⟩ := cut_ok (nW n) 5000 (by omega)
  obtain ⟨c, e3, h3⟩ := cut_ok (nB n) 20 (by omega)
  have f1 : law15_few_j1_p n = some a := by
    rw [← e1]
    simp only [law15_few_j1_p, law15_few_r2_p]
    show (bif decide ((n.2.1.length : Int) > (20 : Nat)) then _ else _) = _
    cases decide ((n.2.1.length : Int) > (20 : Nat)) with
    | false => rfl
    | true => show Option.bind (bif decide (((20 : Nat) : Int) ≤ (n.2.1.length : Int)) then some () else none) _ = _; cases decide (((20 : Nat) : Int) ≤ (n.2.1.length : Int)) <;> rfl
  have f2 : law15_few_j3_p n = some b := by
    rw [← e2]
    simp only [law15_few_j3_p, law15_few_r4_p, Option.bind_fun_some]
    rfl
  have f3 : law15_few_j5_p n = some c := by
    rw [← e3]
    simp only [law15_few_j5_p, law15_few_r6_p, Option.bind_fun_some]
    rfl
  unfold law15_few
  rw [f1, f2, f3]
  exact ⟨_, rfl, h1, h2, h3⟩
theorem some15_ok (l : List I4) : ∃ m, law15_some l = some m ∧ m.length < 1000000 := by
  obtain ⟨a, e1, h1⟩ := cut_ok l 3 (by omega)
  refine ⟨a, ?_, h1⟩
  rw [← e1]
  simp only [law15_some, law15_some_r2_p]
  show (bif decide ((l.length : Int) > (3 : Nat)) then _ else _) = _
  cases decide ((l.length : Int) > (3 : Nat)) with
  | false => rfl
  | true => show Option.bind (bif decide (((3 : Nat) : Int) ≤ (l.length : Int)) then some () else none) _ = _; cases decide (((3 : Nat) : Int) ≤ (l.length : Int)) <;> rfl
theorem shown15 : law15_shown = some true := by decide +kernel
theorem HaloSizes_true (n : Node) (l : List I4) (at_ : I2) (_ : Ts.ok tsNode n) (_ : Ts.ok (.one (.sl tsI4)) l) (_ : Ts.ok tsI2 at_) : law15_HaloSizes n l at_ = some true := by
  obtain ⟨m, em, hm⟩ := few15_ok n
  obtain ⟨k, ek, hk⟩ := some15_ok l
  obtain ⟨x, a1, a2⟩ := Sizes_eq m k at_.1 at_.2 hk hm.2.2
  obtain ⟨y, b1, b2⟩ := Most_eq m k at_.2 hk hm.2.2
  unfold law15_HaloSizes law15_HaloSizes_r2_p law15_HaloSizes_r3_p law15_HaloSizes_r4_p law15_HaloSizes_r5_p law15_HaloSizes_r6_p law15_HaloSizes_r6_q
  simp only [shown15, em, ek, a1, a2, b1, b2, Option.bind_some, cond_true, beq_self_eq_true, Bool.and_self]
end Go.V.P
