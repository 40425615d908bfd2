/- Plain laws of layer 3: a graph is the same as itself. -/
import Derived.Test.YtaeckbkjlmnigaaLBuild3
import Derived.Test.YtaeckbkjlmnigaaBm2
namespace Go.V.P
open Go Go.V Go.IntWalk
set_option linter.unusedVariables false
set_option linter.unusedSimpArgs false
set_option maxRecDepth 20000
theorem self_loop {p : Int → Option (Int ⊕ (Int ⊕ Unit))} (n : Nat) (hn : n < 1000000) (hp : ∀ k : Nat, k < n → p (k : Int) = some (.inl ((k + 1 : Nat) : Int))) (he : p (n : Int) = some (.inr (.inl (n : Int)))) : iterN p LL 0 = some (.inl (n : Int)) :=
  iterN_for (p := p) (z := .inl (n : Int)) n (fun k => (k : Int)) LL (LL_lt (by omega)) hp he
theorem at_k {k n : Nat} (hk : k < n) (hn : n < 1000000) : (k : Int) < (n : Int) ∧ (0 : Int) ≤ (k : Int) ∧ IntKind.wrap .i64 ((k : Int) + 1) = ((k + 1 : Nat) : Int) :=
  ⟨by omega, by omega, by rw [i64_in _ (by omega)]; omega⟩
theorem ints_self (a : List Int) (ha : a.length < 1000000) : ref03_ints a a = some true := by
  unfold ref03_ints
  simp only [bne_self_eq_false, cond_false]
  rw [self_loop a.length ha (fun k hk => by
    obtain ⟨d1, d2, w1⟩ := at_k hk ha
    simp only [ref03_ints_l4_p, ref03_ints_r6_p, d1, d2, w1, decide_true, cond_true, Option.bind_some, bne_self_eq_false, cond_false]) (by
    simp only [ref03_ints_l4_p, Int.lt_irrefl, decide_false, cond_false])]
  rfl
theorem values_self (a : List I4) (ha : a.length < 1000000) : ref03_SameValues a a = some true := by
  unfold ref03_SameValues
  simp only [bne_self_eq_false, cond_false]
  rw [self_loop a.length ha (fun k hk => by
    obtain ⟨d1, d2, w1⟩ := at_k hk ha
    simp only [ref03_SameValues_l4_p, ref03_SameValues_r6_p, d1, d2, w1, decide_true, cond_true, Option.bind_some, beq_self_eq_true, Bool.and_self, Bool.not_true, cond_false]) (by
    simp only [ref03_SameValues_l4_p, Int.lt_irrefl, decide_false, cond_false])]
  rfl
theorem node_self (n : Node) (h : okNode n) : ref03_SameNode n n = some true := by
  have hW : (nW n).length < 1000000 := h.2.1
  have hB : (nB n).length < 1000000 := h.2.2
  unfold ref03_SameNode
  rw [ints_self _ h.1]
  have h2 : ref03_SameNode_r2_p n n true = false := by
    simp only [ref03_SameNode_r2_p, ref03_SameNode_r2_q, bne_self_eq_false, beq_self_eq_true, Bool.and_self, Bool.not_true, cond_false]
  simp only [Option.bind_some, h2, cond_false]
  rw [self_loop (nW n).length hW (fun k hk => by
    obtain ⟨d1, d2, w1⟩ := at_k hk hW
    simp only [ref03_SameNode_l5_p, ref03_SameNode_r7_p, d1, d2, w1, decide_true, cond_true, Option.bind_some, bne_self_eq_false, cond_false]) (by
    simp only [ref03_SameNode_l5_p, Int.lt_irrefl, decide_false, cond_false])]
  simp only [Option.bind_some, either]
  rw [self_loop (nB n).length hB (fun k hk => by
    obtain ⟨d1, d2, w1⟩ := at_k hk hB
    simp only [ref03_SameNode_l10_p, ref03_SameNode_r12_p, d1, d2, w1, decide_true, cond_true, Option.bind_some, bne_self_eq_false, cond_false]) (by
    simp only [ref03_SameNode_l10_p, Int.lt_irrefl, decide_false, cond_false])]
  rfl
theorem graph_self (g : Graph) (hg : okGraph g) : ref03_Same g g = some true := by
  unfold ref03_Same
  have b1 : g.1.length < 1000000 := by have := hg.1; omega
  have b2 : g.2.1.length < 1000000 := by have := hg.2.1.1; omega
  have b3 : g.2.2.length < 1000000 := by have := hg.2.2; omega
  rw [values_self _ b1, ints_self _ b3]
  have h3 : ref03_Same_r3_p g g true true = false := by
    simp only [ref03_Same_r3_p, ref03_Same_r3_q, bne_self_eq_false, Bool.not_true, cond_false]
  simp only [Option.bind_some, h3, cond_false]
  rw [self_loop g.2.1.length b2 (fun k hk => by
    obtain ⟨d1, d2, w1⟩ := at_k hk b2
    have hn := node_self _ (hg.2.1.2 _ (gt_memR hk dNode))
    simp only [ref03_Same_l6_p, ref03_Same_r8_p, d1, d2, w1, hn, decide_true, cond_true, Option.bind_some, Bool.not_true, cond_false]) (by
    simp only [ref03_Same_l6_p, Int.lt_irrefl, decide_false, cond_false])]
  rfl
end Go.V.P
