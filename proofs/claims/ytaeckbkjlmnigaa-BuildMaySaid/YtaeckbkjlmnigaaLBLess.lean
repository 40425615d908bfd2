/- Plain laws of layer 19: what is left of a graph is within its bounds. -/
import Derived.Test.YtaeckbkjlmnigaaLMakesG
import Derived.Test.YtaeckbkjlmnigaaBm1
namespace Go.V.P
open Go Go.V Go.IntWalk
set_option linter.unusedVariables false
set_option linter.unusedSimpArgs false
set_option maxRecDepth 20000
theorem cut_sub {α : Type} (l : List α) (n : Nat) : ∃ m : List α, (bif decide ((l.length : Int) > (n : Int)) then (bif decide ((n : Int) ≤ (l.length : Int)) then some ((l.take (Int.toNat (n : Int))).drop (Int.toNat (0 : Int))) else none) else some l) = some m ∧ m.length ≤ n ∧ ∀ x ∈ m, x ∈ l := by
  by_cases h : l.length > n
  · rw [decide_eq_true (by omega), decide_eq_true (by omega)]
    refine ⟨_, rfl, ?_, fun x hx => List.mem_of_mem_take (List.mem_of_mem_drop hx)⟩
    simp only [List.length_drop, List.length_take]
    omega
  · rw [decide_eq_false (by omega)]
    exact ⟨_, rfl, by omega, fun x hx => hx⟩
theorem less19 (g : Graph) : ∃ m, law19_less g = some m ∧ okGraph m := by
  obtain ⟨a, e1, h1, _⟩ := cut_sub g.1 6
  obtain ⟨c, e3, h3, _⟩ := cut_sub g.2.2 6
  have f1 : law19_less_j1_p g = some a := by
    rw [← e1]
    simp only [law19_less_j1_p, law19_less_r2_p]
    show (bif decide ((g.1.length : Int) > (6 : Nat)) then _ else _) = _
    cases decide ((g.1.length : Int) > (6 : Nat)) with
    | false => rfl
    | true => show Option.bind (bif decide (((6 : Nat) : Int) ≤ (g.1.length : Int)) then some () else none) _ = _; cases decide (((6 : Nat) : Int) ≤ (g.1.length : Int)) <;> rfl
  have f3 : law19_less_j3_p g = some c := by
    rw [← e3]
    simp only [law19_less_j3_p, law19_less_r4_p]
    show (bif decide ((g.2.2.length : Int) > (6 : Nat)) then _ else _) = _
    cases decide ((g.2.2.length : Int) > (6 : Nat)) with
    | false => rfl
    | true => show Option.bind (bif decide (((6 : Nat) : Int) ≤ (g.2.2.length : Int)) then some () else none) _ = _; cases decide (((6 : Nat) : Int) ≤ (g.2.2.length : Int)) <;> rfl
  obtain ⟨z, hz, h2⟩ := iterN_inv (p := law19_less_l7_p g) (fun s => ∃ i : Nat, s.2 = (i : Int) ∧ i ≤ 14 ∧ s.1.length = i ∧ ∀ n ∈ s.1, okNode n) (fun s => 14 - s.2.toNat)
    (Q := fun z => z.1.length ≤ 14 ∧ ∀ n ∈ z.1, okNode n) (fun s hs => by
    obtain ⟨l, t⟩ := s
    obtain ⟨i, hi0, hi, hl, hn⟩ := hs
    simp only at hi0 hl hn
    subst hi0
    simp only [law19_less_l7_p, law19_less_r7_p, law19_less_r7_q, law19_less_r9_p]
    by_cases ha : i < g.2.1.length ∧ i < 14
    · have hgt := gt_at dNode ha.1
      obtain ⟨w, ew, w1, w2⟩ := cut_sub (nW g.2.1[i]) 5000
      obtain ⟨b, eb, b1, b2⟩ := cut_sub (nB g.2.1[i]) 20
      obtain ⟨x, ex, x1, x2⟩ := cut_sub (g.2.1[i]).2.1 20
      have g1 : law19_less_j10_p g (l, (i : Int)) = some x := by
        rw [← ex]
        simp only [law19_less_j10_p, law19_less_r11_p, hgt, Option.bind_fun_some]
        rfl
      have g2 : law19_less_j12_p g (l, (i : Int)) = some w := by
        rw [← ew]
        simp only [law19_less_j12_p, law19_less_r12_p, law19_less_r12_q, law19_less_r13_p, hgt, Option.bind_fun_some]
        rfl
      have g3 : law19_less_j14_p g (l, (i : Int)) = some b := by
        rw [← eb]
        simp only [law19_less_j14_p, law19_less_r14_p, law19_less_r14_q, law19_less_r15_p, hgt, Option.bind_fun_some]
        rfl
      have t1 : decide ((i : Int) < (g.2.1.length : Int)) = true := decide_eq_true (by omega)
      have t2 : decide ((i : Int) < 14) = true := decide_eq_true (by omega)
      have t3 : decide ((0 : Int) ≤ (i : Int)) = true := decide_eq_true (by omega)
      have t5 := i64_in ((i : Int) + 1) (by omega)
      simp only [t1, t2, t3, g1, g2, g3, t5, cond_true, Option.bind_some, law19_less_r16_p]
      rw [decide_eq_true (by simp only [List.length_singleton, maxL]; omega)]
      refine .inl ⟨_, rfl, ⟨i + 1, by simp only; omega, by omega, by simp [hl], fun n hn2 => ?_⟩, by simp only; omega⟩
      rcases List.mem_append.1 hn2 with h | h
      · exact hn n h
      · rw [List.mem_singleton.1 h]
        exact ⟨show x.length < 1000000 by omega, show w.length < 1000000 by omega, show b.length < 1000000 by omega⟩
    · refine .inr ⟨(l, (i : Int)), ?_, by simp only; omega, hn⟩
      by_cases h1 : i < g.2.1.length
      · rw [decide_eq_true (by omega), decide_eq_false (by omega)]; rfl
      · rw [decide_eq_false (by omega)]; rfl) LL ([], 0) ⟨0, rfl, by omega, rfl, fun n hn => absurd hn (by simp)⟩ (LL_lt (by simp only [Int.toNat_zero]; omega))
  unfold law19_less
  rw [f1, f3, hz]
  exact ⟨_, rfl, h1, ⟨h2.1, h2.2⟩, h3⟩
end Go.V.P
