/- Plain laws of layer 3: what is left of a graph is within its bounds. -/
import Derived.Test.YtcmckbcpeocokaaLMakesG
import Derived.Test.YtcmckbcpeocokaaGb1
namespace Go.V.P
open Go Go.V Go.IntWalk
set_option linter.unusedVariables false
set_option linter.unusedSimpArgs false
set_option maxRecDepth 20000
theorem few_ok (n : Node) : ∃ m, law03_few n = some m ∧ okNode m := by
  obtain ⟨a, e1, h1⟩ := cut_ok n.2.1 20 (by omega)
  obtain ⟨b, e2, h2⟩ := cut_ok (nW n) 5000 (by omega)
  obtain ⟨c, e3, h3⟩ := cut_ok (nB n) 20 (by omega)
  have f1 : law03_few_j1_p n = some a := by
    rw [← e1]
    simp only [law03_few_j1_p, law03_few_r2_p]
    show (bif decide ((n.2.1.length : Int) > (20 : Nat)) then _ else _) = _
    cases decide ((n.2.1.length : Int) > (20 : Nat)) with
    | false => rfl
    | true => show Option.bind (bif decide (((20 : Nat) : Int) ≤ (n.2.1.length : Int)) then some () else none) _ = _; cases decide (((20 : Nat) : Int) ≤ (n.2.1.length : Int)) <;> rfl
  have f2 : law03_few_j3_p n = some b := by
    rw [← e2]
    simp only [law03_few_j3_p, law03_few_r4_p, Option.bind_fun_some]
    rfl
  have f3 : law03_few_j5_p n = some c := by
    rw [← e3]
    simp only [law03_few_j5_p, law03_few_r6_p, Option.bind_fun_some]
    rfl
  unfold law03_few
  rw [f1, f2, f3]
  exact ⟨_, rfl, h1, h2, h3⟩
theorem cut_to {α : Type} (l : List α) (n : Nat) : ∃ m : List α, (bif decide ((l.length : Int) > (n : Int)) then (bif decide ((n : Int) ≤ (l.length : Int)) then some ((l.take (Int.toNat (n : Int))).drop (Int.toNat (0 : Int))) else none) else some l) = some m ∧ m.length ≤ n := by
  by_cases h : l.length > n
  · rw [decide_eq_true (by omega), decide_eq_true (by omega)]
    refine ⟨_, rfl, ?_⟩
    simp only [List.length_drop, List.length_take]
    omega
  · rw [decide_eq_false (by omega)]
    exact ⟨_, rfl, by omega⟩
theorem less_ok (g : Graph) : ∃ m, law03_less g = some m ∧ okGraph m := by
  obtain ⟨a, e1, h1⟩ := cut_to g.1 6
  obtain ⟨c, e3, h3⟩ := cut_to g.2.2 6
  have f1 : law03_less_j1_p g = some a := by
    rw [← e1]
    simp only [law03_less_j1_p, law03_less_r2_p]
    show (bif decide ((g.1.length : Int) > (6 : Nat)) then _ else _) = _
    cases decide ((g.1.length : Int) > (6 : Nat)) with
    | false => rfl
    | true => show Option.bind (bif decide (((6 : Nat) : Int) ≤ (g.1.length : Int)) then some () else none) _ = _; cases decide (((6 : Nat) : Int) ≤ (g.1.length : Int)) <;> rfl
  have f3 : law03_less_j3_p g = some c := by
    rw [← e3]
    simp only [law03_less_j3_p, law03_less_r4_p]
    show (bif decide ((g.2.2.length : Int) > (6 : Nat)) then _ else _) = _
    cases decide ((g.2.2.length : Int) > (6 : Nat)) with
    | false => rfl
    | true => show Option.bind (bif decide (((6 : Nat) : Int) ≤ (g.2.2.length : Int)) then some () else none) _ = _; cases decide (((6 : Nat) : Int) ≤ (g.2.2.length : Int)) <;> rfl
  obtain ⟨z, hz, h2⟩ := iterN_inv (p := law03_less_l7_p g) (fun s => ∃ i : Nat, s.2 = (i : Int) ∧ i ≤ 14 ∧ s.1.length = i ∧ ∀ n ∈ s.1, okNode n) (fun s => 14 - s.2.toNat)
    (Q := fun z => z.1.length ≤ 14 ∧ ∀ n ∈ z.1, okNode n) (fun s hs => by
    obtain ⟨l, t⟩ := s
    obtain ⟨i, rfl, hi, hl, hn⟩ := hs
    simp only [law03_less_l7_p, law03_less_r7_p, law03_less_r7_q, law03_less_r9_p]
    simp only at hl hn
    by_cases ha : i < g.2.1.length ∧ i < 14
    · obtain ⟨m, em, hm⟩ := few_ok (gt g.2.1 (i : Int) dNode)
      have t1 : decide ((i : Int) < (g.2.1.length : Int)) = true := decide_eq_true (by omega)
      have t2 : decide ((i : Int) < 14) = true := decide_eq_true (by omega)
      have t3 : decide ((0 : Int) ≤ (i : Int)) = true := decide_eq_true (by omega)
      have t4 : decide (l.length + ([m] : List Node).length ≤ maxL) = true := decide_eq_true (by simp only [List.length_singleton, maxL]; omega)
      have t5 := i64_in ((i : Int) + 1) (by omega)
      simp only [t1, t2, t3, em, t5, cond_true, Option.bind_some, t4]
      refine .inl ⟨_, rfl, ⟨i + 1, by omega, by omega, by simp [hl], fun n hn2 => ?_⟩, by simp only; omega⟩
      rcases List.mem_append.1 hn2 with h | h
      · exact hn n h
      · rw [List.mem_singleton.1 h]; exact hm
    · refine .inr ⟨(l, (i : Int)), ?_, by simp only; omega, hn⟩
      by_cases h1 : i < g.2.1.length
      · rw [decide_eq_true (by omega), decide_eq_false (by omega)]; rfl
      · rw [decide_eq_false (by omega)]; rfl) LL ([], 0) ⟨0, rfl, by omega, rfl, fun n hn => absurd hn (by simp)⟩ (LL_lt (by simp only [Int.toNat_zero]; omega))
  unfold law03_less
  rw [f1, f3, hz]
  exact ⟨_, rfl, h1, h2, h3⟩
end Go.V.P
