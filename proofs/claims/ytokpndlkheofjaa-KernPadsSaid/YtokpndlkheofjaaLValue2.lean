/- Plain laws of layer 3: what a node makes, op by op. -/
import Derived.Test.YtokpndlkheofjaaLValue
namespace Go.V.P
open Go Go.V Go.IntWalk
set_option linter.unusedVariables false
set_option linter.unusedSimpArgs false
set_option maxRecDepth 20000
theorem Q2t (x a b : Int) : a1i x a b = true ↔ a ≤ x ∧ x ≤ b := by
  simp only [a1i, b7v, a99, b81, Bool.cond_false_right, Bool.and_eq_true, decide_eq_true_iff]
theorem in_not (x a b : Int) : a1i x a b = false ↔ ¬(a ≤ x ∧ x ≤ b) := by
  rw [← Q2t, Bool.not_eq_true]
theorem len2 {α : Type} : ∀ {l : List α}, l.length = 2 → ∃ a b, l = [a, b]
  | [a, b], _ => ⟨a, b, rfl⟩
theorem beq_sw (x y : Int) : (x == y) = (y == x) := by
  rw [Bool.eq_iff_iff]; simp only [beq_iff_eq]; exact eq_comm
theorem bne_sw (x y : Int) : (x != y) = (y != x) := congrArg Bool.not (beq_sw x y)
theorem op1 (n : Node) (l : List I4) (ho : n.1 = 1) : ∃ Y, b0a n = some Y ∧ a2x n l Y = !(a4k n (l.length : Int)) ∧ Y.2.2.2.2.2.2.1 = a8o n.1 ∧ (a4k n (l.length : Int) = true → b0d n l Y = b05 n l ∧ a9b n l Y = a9m n l ∧ (b05 n l).isSome = true ∧ (a9m n l).isSome = true) := by
  obtain ⟨op, i, K, S, P, O, M, Sh, Z, t1, t2, t3, W, B⟩ := n
  replace ho : op = 1 := ho
  subst ho
  refine ⟨_, rfl, ?_, rfl, fun hn => ?_⟩
  · rw [Bool.eq_iff_iff]
    simp [a2x, b0b, a4b, a5t, a2z, a6j, a30, a6k, a0z, a3k, a3p, a7x, a2y, a6i, a3o, a7w, a0u, a3j, a3m, a7u, a3n, a7v, a1h, a7t, a3l, a7s, a4k, b1d, a64, b1h, a63, b1g, a20, b1f, a17, a62, a39, b1e, a0i, a61, a43, a7h, a7j, b2q, a45, b2p, a0a, a7g, a7i, b2o, a44, b2n, a08, a7f, a6c, b3t, a8j, b5j, a2n, a8k, a4y, a9p, Q2r, Q2t, in_not]
    by_cases hK : 1 ≤ K ∧ K ≤ 3
    · try rw [i64_in (K - 1) (by omega)]
      constructor <;> intro h <;> omega
    · constructor <;> intro h <;> omega
  · have hl : l.length = 1 := by
      simp [a4k, b1d, a64, b1h, a63, b1g, a20, b1f, a17, a62, a39, b1e, a0i, a61, a43, a7h, a7j, b2q, a45, b2p, a0a, a7g, a7i, b2o, a44, b2n, a08, a7f, a6c, b3t, a8j, b5j, a2n, a8k, a4y, a9p, Q2t] at hn
      omega
    obtain ⟨a, rfl⟩ := List.length_eq_one_iff.1 hl
    refine ⟨?_, ?_, ?_, ?_⟩
    · simp [b0d, a8n, a93, b5r, b0k, a4e, b27, a9u, b0h, a9x, b0l, a9v, b0i, a6h, a86, a2k, a9d, b5n, b25, Q2m, Q2c, b05, b2l, b2k, a41, a7c, b17, a42, a7d, a37, a60, b18, b19, b1a, a38, b1b, Q2e, Q2a, Q1z, gt, dI4, i64_in]
    · simp [a9b, a9r, b0e, a9s, b0f, a6l, b26, a9t, b0g, b5s, a9w, b0j, a9m, b06, b1c, a7e, b2m, Q2c, Q2a, Q1z, gt, dI4]
    · simp [b05, b2l, b2k, a41, a7c, b17, a42, a7d, a37, a60, b18, b19, b1a, a38, b1b, Q2e, Q2a, Q1z, gt, dI4]
    · simp [a9b, a9r, b0e, a9s, b0f, a6l, b26, a9t, b0g, b5s, a9w, b0j, a9m, b06, b1c, a7e, b2m, Q2c, Q2a, Q1z, gt, dI4]
theorem op2 (n : Node) (l : List I4) (ho : n.1 = 2) : ∃ Y, b0a n = some Y ∧ a2x n l Y = !(a4k n (l.length : Int)) ∧ Y.2.2.2.2.2.2.1 = a8o n.1 ∧ (a4k n (l.length : Int) = true → b0d n l Y = b05 n l ∧ a9b n l Y = a9m n l ∧ (b05 n l).isSome = true ∧ (a9m n l).isSome = true) := by
  obtain ⟨op, i, K, S, P, O, M, Sh, Z, t1, t2, t3, W, B⟩ := n
  replace ho : op = 2 := ho
  subst ho
  refine ⟨_, rfl, ?_, rfl, fun hn => ?_⟩
  · rw [Bool.eq_iff_iff]
    simp [a2x, b0b, a4b, a5t, a2z, a6j, a30, a6k, a0z, a3k, a3p, a7x, a2y, a6i, a3o, a7w, a0u, a3j, a3m, a7u, a3n, a7v, a1h, a7t, a3l, a7s, a4k, b1d, a64, b1h, a63, b1g, a20, b1f, a17, a62, a39, b1e, a0i, a61, a43, a7h, a7j, b2q, a45, b2p, a0a, a7g, a7i, b2o, a44, b2n, a08, a7f, a6c, b3t, a8j, b5j, a2n, a8k, a4y, a9p, Q2r, Q2t, in_not]
    by_cases hK : 1 ≤ K ∧ K ≤ 3
    · try rw [i64_in (K - 1) (by omega)]
      constructor <;> intro h <;> omega
    · constructor <;> intro h <;> omega
  · have hl : l.length = 1 := by
      simp [a4k, b1d, a64, b1h, a63, b1g, a20, b1f, a17, a62, a39, b1e, a0i, a61, a43, a7h, a7j, b2q, a45, b2p, a0a, a7g, a7i, b2o, a44, b2n, a08, a7f, a6c, b3t, a8j, b5j, a2n, a8k, a4y, a9p, Q2t] at hn
      omega
    obtain ⟨a, rfl⟩ := List.length_eq_one_iff.1 hl
    refine ⟨?_, ?_, ?_, ?_⟩
    · simp [b0d, a8n, a93, b5r, b0k, a4e, b27, a9u, b0h, a9x, b0l, a9v, b0i, a6h, a86, a2k, a9d, b5n, b25, Q2m, Q2c, b05, b2l, b2k, a41, a7c, b17, a42, a7d, a37, a60, b18, b19, b1a, a38, b1b, Q2e, Q2a, Q1z, gt, dI4, i64_in]
    · simp [a9b, a9r, b0e, a9s, b0f, a6l, b26, a9t, b0g, b5s, a9w, b0j, a9m, b06, b1c, a7e, b2m, Q2c, Q2a, Q1z, gt, dI4]
    · simp [b05, b2l, b2k, a41, a7c, b17, a42, a7d, a37, a60, b18, b19, b1a, a38, b1b, Q2e, Q2a, Q1z, gt, dI4]
    · simp [a9b, a9r, b0e, a9s, b0f, a6l, b26, a9t, b0g, b5s, a9w, b0j, a9m, b06, b1c, a7e, b2m, Q2c, Q2a, Q1z, gt, dI4]
theorem op3 (n : Node) (l : List I4) (ho : n.1 = 3) : ∃ Y, b0a n = some Y ∧ a2x n l Y = !(a4k n (l.length : Int)) ∧ Y.2.2.2.2.2.2.1 = a8o n.1 ∧ (a4k n (l.length : Int) = true → b0d n l Y = b05 n l ∧ a9b n l Y = a9m n l ∧ (b05 n l).isSome = true ∧ (a9m n l).isSome = true) := by
  obtain ⟨op, i, K, S, P, O, M, Sh, Z, t1, t2, t3, W, B⟩ := n
  replace ho : op = 3 := ho
  subst ho
  refine ⟨_, rfl, ?_, rfl, fun hn => ?_⟩
  · rw [Bool.eq_iff_iff]
    simp [a2x, b0b, a4b, a5t, a2z, a6j, a30, a6k, a0z, a3k, a3p, a7x, a2y, a6i, a3o, a7w, a0u, a3j, a3m, a7u, a3n, a7v, a1h, a7t, a3l, a7s, a4k, b1d, a64, b1h, a63, b1g, a20, b1f, a17, a62, a39, b1e, a0i, a61, a43, a7h, a7j, b2q, a45, b2p, a0a, a7g, a7i, b2o, a44, b2n, a08, a7f, a6c, b3t, a8j, b5j, a2n, a8k, a4y, a9p, Q2r, Q2t, in_not]
    by_cases hK : 1 ≤ K ∧ K ≤ 3
    · try rw [i64_in (K - 1) (by omega)]
      constructor <;> intro h <;> omega
    · constructor <;> intro h <;> omega
  · have hl : l.length = 1 := by
      simp [a4k, b1d, a64, b1h, a63, b1g, a20, b1f, a17, a62, a39, b1e, a0i, a61, a43, a7h, a7j, b2q, a45, b2p, a0a, a7g, a7i, b2o, a44, b2n, a08, a7f, a6c, b3t, a8j, b5j, a2n, a8k, a4y, a9p, Q2t] at hn
      omega
    obtain ⟨a, rfl⟩ := List.length_eq_one_iff.1 hl
    refine ⟨?_, ?_, ?_, ?_⟩
    · simp [b0d, a8n, a93, b5r, b0k, a4e, b27, a9u, b0h, a9x, b0l, a9v, b0i, a6h, a86, a2k, a9d, b5n, b25, Q2m, Q2c, b05, b2l, b2k, a41, a7c, b17, a42, a7d, a37, a60, b18, b19, b1a, a38, b1b, Q2e, Q2a, Q1z, gt, dI4, i64_in]
    · simp [a9b, a9r, b0e, a9s, b0f, a6l, b26, a9t, b0g, b5s, a9w, b0j, a9m, b06, b1c, a7e, b2m, Q2c, Q2a, Q1z, gt, dI4]
    · simp [b05, b2l, b2k, a41, a7c, b17, a42, a7d, a37, a60, b18, b19, b1a, a38, b1b, Q2e, Q2a, Q1z, gt, dI4]
    · simp [a9b, a9r, b0e, a9s, b0f, a6l, b26, a9t, b0g, b5s, a9w, b0j, a9m, b06, b1c, a7e, b2m, Q2c, Q2a, Q1z, gt, dI4]
theorem op4 (n : Node) (l : List I4) (ho : n.1 = 4) : ∃ Y, b0a n = some Y ∧ a2x n l Y = !(a4k n (l.length : Int)) ∧ Y.2.2.2.2.2.2.1 = a8o n.1 ∧ (a4k n (l.length : Int) = true → b0d n l Y = b05 n l ∧ a9b n l Y = a9m n l ∧ (b05 n l).isSome = true ∧ (a9m n l).isSome = true) := by
  obtain ⟨op, i, K, S, P, O, M, Sh, Z, t1, t2, t3, W, B⟩ := n
  replace ho : op = 4 := ho
  subst ho
  refine ⟨_, rfl, ?_, rfl, fun hn => ?_⟩
  · rw [Bool.eq_iff_iff]
    simp [a2x, b0b, a4b, a5t, a2z, a6j, a30, a6k, a0z, a3k, a3p, a7x, a2y, a6i, a3o, a7w, a0u, a3j, a3m, a7u, a3n, a7v, a1h, a7t, a3l, a7s, a4k, b1d, a64, b1h, a63, b1g, a20, b1f, a17, a62, a39, b1e, a0i, a61, a43, a7h, a7j, b2q, a45, b2p, a0a, a7g, a7i, b2o, a44, b2n, a08, a7f, a6c, b3t, a8j, b5j, a2n, a8k, a4y, a9p, Q2r, Q2t, in_not]
    by_cases hK : 1 ≤ K ∧ K ≤ 3
    · try rw [i64_in (K - 1) (by omega)]
      constructor <;> intro h <;> omega
    · constructor <;> intro h <;> omega
  · have hl : l.length = 1 := by
      simp [a4k, b1d, a64, b1h, a63, b1g, a20, b1f, a17, a62, a39, b1e, a0i, a61, a43, a7h, a7j, b2q, a45, b2p, a0a, a7g, a7i, b2o, a44, b2n, a08, a7f, a6c, b3t, a8j, b5j, a2n, a8k, a4y, a9p, Q2t] at hn
      omega
    obtain ⟨a, rfl⟩ := List.length_eq_one_iff.1 hl
    refine ⟨?_, ?_, ?_, ?_⟩
    · simp [b0d, a8n, a93, b5r, b0k, a4e, b27, a9u, b0h, a9x, b0l, a9v, b0i, a6h, a86, a2k, a9d, b5n, b25, Q2m, Q2c, b05, b2l, b2k, a41, a7c, b17, a42, a7d, a37, a60, b18, b19, b1a, a38, b1b, Q2e, Q2a, Q1z, gt, dI4, i64_in]
    · simp [a9b, a9r, b0e, a9s, b0f, a6l, b26, a9t, b0g, b5s, a9w, b0j, a9m, b06, b1c, a7e, b2m, Q2c, Q2a, Q1z, gt, dI4]
    · simp [b05, b2l, b2k, a41, a7c, b17, a42, a7d, a37, a60, b18, b19, b1a, a38, b1b, Q2e, Q2a, Q1z, gt, dI4]
    · simp [a9b, a9r, b0e, a9s, b0f, a6l, b26, a9t, b0g, b5s, a9w, b0j, a9m, b06, b1c, a7e, b2m, Q2c, Q2a, Q1z, gt, dI4]
theorem op5 (n : Node) (l : List I4) (ho : n.1 = 5) : ∃ Y, b0a n = some Y ∧ a2x n l Y = !(a4k n (l.length : Int)) ∧ Y.2.2.2.2.2.2.1 = a8o n.1 ∧ (a4k n (l.length : Int) = true → b0d n l Y = b05 n l ∧ a9b n l Y = a9m n l ∧ (b05 n l).isSome = true ∧ (a9m n l).isSome = true) := by
  obtain ⟨op, i, K, S, P, O, M, Sh, Z, t1, t2, t3, W, B⟩ := n
  replace ho : op = 5 := ho
  subst ho
  refine ⟨_, rfl, ?_, rfl, fun hn => ?_⟩
  · rw [Bool.eq_iff_iff]
    simp [a2x, b0b, a4b, a5t, a2z, a6j, a30, a6k, a0z, a3k, a3p, a7x, a2y, a6i, a3o, a7w, a0u, a3j, a3m, a7u, a3n, a7v, a1h, a7t, a3l, a7s, a4k, b1d, a64, b1h, a63, b1g, a20, b1f, a17, a62, a39, b1e, a0i, a61, a43, a7h, a7j, b2q, a45, b2p, a0a, a7g, a7i, b2o, a44, b2n, a08, a7f, a6c, b3t, a8j, b5j, a2n, a8k, a4y, a9p, Q2r, Q2t, in_not]
    by_cases hK : 1 ≤ K ∧ K ≤ 3
    · try rw [i64_in (K - 1) (by omega)]
      constructor <;> intro h <;> omega
    · constructor <;> intro h <;> omega
  · have hl : l.length = 1 := by
      simp [a4k, b1d, a64, b1h, a63, b1g, a20, b1f, a17, a62, a39, b1e, a0i, a61, a43, a7h, a7j, b2q, a45, b2p, a0a, a7g, a7i, b2o, a44, b2n, a08, a7f, a6c, b3t, a8j, b5j, a2n, a8k, a4y, a9p, Q2t] at hn
      omega
    obtain ⟨a, rfl⟩ := List.length_eq_one_iff.1 hl
    refine ⟨?_, ?_, ?_, ?_⟩
    · simp [b0d, a8n, a93, b5r, b0k, a4e, b27, a9u, b0h, a9x, b0l, a9v, b0i, a6h, a86, a2k, a9d, b5n, b25, Q2m, Q2c, b05, b2l, b2k, a41, a7c, b17, a42, a7d, a37, a60, b18, b19, b1a, a38, b1b, Q2e, Q2a, Q1z, gt, dI4, i64_in]
    · simp [a9b, a9r, b0e, a9s, b0f, a6l, b26, a9t, b0g, b5s, a9w, b0j, a9m, b06, b1c, a7e, b2m, Q2c, Q2a, Q1z, gt, dI4]
    · simp [b05, b2l, b2k, a41, a7c, b17, a42, a7d, a37, a60, b18, b19, b1a, a38, b1b, Q2e, Q2a, Q1z, gt, dI4]
    · simp [a9b, a9r, b0e, a9s, b0f, a6l, b26, a9t, b0g, b5s, a9w, b0j, a9m, b06, b1c, a7e, b2m, Q2c, Q2a, Q1z, gt, dI4]
theorem op6 (n : Node) (l : List I4) (ho : n.1 = 6) : ∃ Y, b0a n = some Y ∧ a2x n l Y = !(a4k n (l.length : Int)) ∧ Y.2.2.2.2.2.2.1 = a8o n.1 ∧ (a4k n (l.length : Int) = true → b0d n l Y = b05 n l ∧ a9b n l Y = a9m n l ∧ (b05 n l).isSome = true ∧ (a9m n l).isSome = true) := by
  obtain ⟨op, i, K, S, P, O, M, Sh, Z, t1, t2, t3, W, B⟩ := n
  replace ho : op = 6 := ho
  subst ho
  refine ⟨_, rfl, ?_, rfl, fun hn => ?_⟩
  · rw [Bool.eq_iff_iff]
    simp [a2x, b0b, a4b, a5t, a2z, a6j, a30, a6k, a0z, a3k, a3p, a7x, a2y, a6i, a3o, a7w, a0u, a3j, a3m, a7u, a3n, a7v, a1h, a7t, a3l, a7s, a4k, b1d, a64, b1h, a63, b1g, a20, b1f, a17, a62, a39, b1e, a0i, a61, a43, a7h, a7j, b2q, a45, b2p, a0a, a7g, a7i, b2o, a44, b2n, a08, a7f, a6c, b3t, a8j, b5j, a2n, a8k, a4y, a9p, Q2r, Q2t, in_not]
    by_cases hK : 1 ≤ K ∧ K ≤ 3
    · try rw [i64_in (K - 1) (by omega)]
      constructor <;> intro h <;> omega
    · constructor <;> intro h <;> omega
  · have hl : l.length = 2 := by
      simp [a4k, b1d, a64, b1h, a63, b1g, a20, b1f, a17, a62, a39, b1e, a0i, a61, a43, a7h, a7j, b2q, a45, b2p, a0a, a7g, a7i, b2o, a44, b2n, a08, a7f, a6c, b3t, a8j, b5j, a2n, a8k, a4y, a9p, Q2t] at hn
      omega
    obtain ⟨a, b, rfl⟩ := len2 hl
    refine ⟨?_, ?_, ?_, ?_⟩
    · simp [b0d, a8n, a93, b5r, b0k, a4e, b27, a9u, b0h, a9x, b0l, a9v, b0i, a6h, a86, a2k, a9d, b5n, b25, Q2m, Q2c, b05, b2l, b2k, a41, a7c, b17, a42, a7d, a37, a60, b18, b19, b1a, a38, b1b, Q2e, Q2a, Q1z, gt, dI4, i64_in]
      rw [beq_sw b.1, beq_sw b.2.1, beq_sw b.2.2.1]
      cases (a.1 == b.1) <;> cases (a.2.1 == b.2.1) <;> cases (a.2.2.1 == b.2.2.1) <;> rfl
    · simp [a9b, a9r, b0e, a9s, b0f, a6l, b26, a9t, b0g, b5s, a9w, b0j, a9m, b06, b1c, a7e, b2m, Q2c, Q2a, Q1z, gt, dI4]
    · simp [b05, b2l, b2k, a41, a7c, b17, a42, a7d, a37, a60, b18, b19, b1a, a38, b1b, Q2e, Q2a, Q1z, gt, dI4]
      cases (b.1 == a.1) <;> cases (b.2.1 == a.2.1) <;> cases (b.2.2.1 == a.2.2.1) <;> rfl
    · simp [a9b, a9r, b0e, a9s, b0f, a6l, b26, a9t, b0g, b5s, a9w, b0j, a9m, b06, b1c, a7e, b2m, Q2c, Q2a, Q1z, gt, dI4]
theorem op7 (n : Node) (l : List I4) (ho : n.1 = 7) : ∃ Y, b0a n = some Y ∧ a2x n l Y = !(a4k n (l.length : Int)) ∧ Y.2.2.2.2.2.2.1 = a8o n.1 ∧ (a4k n (l.length : Int) = true → b0d n l Y = b05 n l ∧ a9b n l Y = a9m n l ∧ (b05 n l).isSome = true ∧ (a9m n l).isSome = true) := by
  obtain ⟨op, i, K, S, P, O, M, Sh, Z, t1, t2, t3, W, B⟩ := n
  replace ho : op = 7 := ho
  subst ho
  refine ⟨_, rfl, ?_, rfl, fun hn => ?_⟩
  · rw [Bool.eq_iff_iff]
    simp [a2x, b0b, a4b, a5t, a2z, a6j, a30, a6k, a0z, a3k, a3p, a7x, a2y, a6i, a3o, a7w, a0u, a3j, a3m, a7u, a3n, a7v, a1h, a7t, a3l, a7s, a4k, b1d, a64, b1h, a63, b1g, a20, b1f, a17, a62, a39, b1e, a0i, a61, a43, a7h, a7j, b2q, a45, b2p, a0a, a7g, a7i, b2o, a44, b2n, a08, a7f, a6c, b3t, a8j, b5j, a2n, a8k, a4y, a9p, Q2r, Q2t, in_not]
    by_cases hK : 1 ≤ K ∧ K ≤ 3
    · try rw [i64_in (K - 1) (by omega)]
      constructor <;> intro h <;> omega
    · constructor <;> intro h <;> omega
  · have hl : l.length = 2 := by
      simp [a4k, b1d, a64, b1h, a63, b1g, a20, b1f, a17, a62, a39, b1e, a0i, a61, a43, a7h, a7j, b2q, a45, b2p, a0a, a7g, a7i, b2o, a44, b2n, a08, a7f, a6c, b3t, a8j, b5j, a2n, a8k, a4y, a9p, Q2t] at hn
      omega
    obtain ⟨a, b, rfl⟩ := len2 hl
    refine ⟨?_, ?_, ?_, ?_⟩
    · simp [b0d, a8n, a93, b5r, b0k, a4e, b27, a9u, b0h, a9x, b0l, a9v, b0i, a6h, a86, a2k, a9d, b5n, b25, Q2m, Q2c, b05, b2l, b2k, a41, a7c, b17, a42, a7d, a37, a60, b18, b19, b1a, a38, b1b, Q2e, Q2a, Q1z, gt, dI4, i64_in]
      rw [beq_sw b.1, beq_sw b.2.1, beq_sw b.2.2.1]
      cases (a.1 == b.1) <;> cases (a.2.1 == b.2.1) <;> cases (a.2.2.1 == b.2.2.1) <;> rfl
    · simp [a9b, a9r, b0e, a9s, b0f, a6l, b26, a9t, b0g, b5s, a9w, b0j, a9m, b06, b1c, a7e, b2m, Q2c, Q2a, Q1z, gt, dI4]
    · simp [b05, b2l, b2k, a41, a7c, b17, a42, a7d, a37, a60, b18, b19, b1a, a38, b1b, Q2e, Q2a, Q1z, gt, dI4]
      cases (b.1 == a.1) <;> cases (b.2.1 == a.2.1) <;> cases (b.2.2.1 == a.2.2.1) <;> rfl
    · simp [a9b, a9r, b0e, a9s, b0f, a6l, b26, a9t, b0g, b5s, a9w, b0j, a9m, b06, b1c, a7e, b2m, Q2c, Q2a, Q1z, gt, dI4]
theorem op8 (n : Node) (l : List I4) (ho : n.1 = 8) : ∃ Y, b0a n = some Y ∧ a2x n l Y = !(a4k n (l.length : Int)) ∧ Y.2.2.2.2.2.2.1 = a8o n.1 ∧ (a4k n (l.length : Int) = true → b0d n l Y = b05 n l ∧ a9b n l Y = a9m n l ∧ (b05 n l).isSome = true ∧ (a9m n l).isSome = true) := by
  obtain ⟨op, i, K, S, P, O, M, Sh, Z, t1, t2, t3, W, B⟩ := n
  replace ho : op = 8 := ho
  subst ho
  refine ⟨_, rfl, ?_, rfl, fun hn => ?_⟩
  · rw [Bool.eq_iff_iff]
    simp [a2x, b0b, a4b, a5t, a2z, a6j, a30, a6k, a0z, a3k, a3p, a7x, a2y, a6i, a3o, a7w, a0u, a3j, a3m, a7u, a3n, a7v, a1h, a7t, a3l, a7s, a4k, b1d, a64, b1h, a63, b1g, a20, b1f, a17, a62, a39, b1e, a0i, a61, a43, a7h, a7j, b2q, a45, b2p, a0a, a7g, a7i, b2o, a44, b2n, a08, a7f, a6c, b3t, a8j, b5j, a2n, a8k, a4y, a9p, Q2r, Q2t, in_not]
    by_cases hK : 1 ≤ K ∧ K ≤ 3
    · try rw [i64_in (K - 1) (by omega)]
      constructor <;> intro h <;> omega
    · constructor <;> intro h <;> omega
  · have hl : l.length = 1 := by
      simp [a4k, b1d, a64, b1h, a63, b1g, a20, b1f, a17, a62, a39, b1e, a0i, a61, a43, a7h, a7j, b2q, a45, b2p, a0a, a7g, a7i, b2o, a44, b2n, a08, a7f, a6c, b3t, a8j, b5j, a2n, a8k, a4y, a9p, Q2t] at hn
      omega
    obtain ⟨a, rfl⟩ := List.length_eq_one_iff.1 hl
    refine ⟨?_, ?_, ?_, ?_⟩
    · simp [b0d, a8n, a93, b5r, b0k, a4e, b27, a9u, b0h, a9x, b0l, a9v, b0i, a6h, a86, a2k, a9d, b5n, b25, Q2m, Q2c, b05, b2l, b2k, a41, a7c, b17, a42, a7d, a37, a60, b18, b19, b1a, a38, b1b, Q2e, Q2a, Q1z, gt, dI4, i64_in]
    · simp [a9b, a9r, b0e, a9s, b0f, a6l, b26, a9t, b0g, b5s, a9w, b0j, a9m, b06, b1c, a7e, b2m, Q2c, Q2a, Q1z, gt, dI4]
    · simp [b05, b2l, b2k, a41, a7c, b17, a42, a7d, a37, a60, b18, b19, b1a, a38, b1b, Q2e, Q2a, Q1z, gt, dI4]
    · simp [a9b, a9r, b0e, a9s, b0f, a6l, b26, a9t, b0g, b5s, a9w, b0j, a9m, b06, b1c, a7e, b2m, Q2c, Q2a, Q1z, gt, dI4]
theorem op9 (n : Node) (l : List I4) (ho : n.1 = 9) : ∃ Y, b0a n = some Y ∧ a2x n l Y = !(a4k n (l.length : Int)) ∧ Y.2.2.2.2.2.2.1 = a8o n.1 ∧ (a4k n (l.length : Int) = true → b0d n l Y = b05 n l ∧ a9b n l Y = a9m n l ∧ (b05 n l).isSome = true ∧ (a9m n l).isSome = true) := by
  obtain ⟨op, i, K, S, P, O, M, Sh, Z, t1, t2, t3, W, B⟩ := n
  replace ho : op = 9 := ho
  subst ho
  refine ⟨_, rfl, ?_, rfl, fun hn => ?_⟩
  · rw [Bool.eq_iff_iff]
    simp [a2x, b0b, a4b, a5t, a2z, a6j, a30, a6k, a0z, a3k, a3p, a7x, a2y, a6i, a3o, a7w, a0u, a3j, a3m, a7u, a3n, a7v, a1h, a7t, a3l, a7s, a4k, b1d, a64, b1h, a63, b1g, a20, b1f, a17, a62, a39, b1e, a0i, a61, a43, a7h, a7j, b2q, a45, b2p, a0a, a7g, a7i, b2o, a44, b2n, a08, a7f, a6c, b3t, a8j, b5j, a2n, a8k, a4y, a9p, Q2r, Q2t, in_not]
    by_cases hK : 1 ≤ K ∧ K ≤ 3
    · try rw [i64_in (K - 1) (by omega)]
      constructor <;> intro h <;> omega
    · constructor <;> intro h <;> omega
  · have hl : l.length = 1 := by
      simp [a4k, b1d, a64, b1h, a63, b1g, a20, b1f, a17, a62, a39, b1e, a0i, a61, a43, a7h, a7j, b2q, a45, b2p, a0a, a7g, a7i, b2o, a44, b2n, a08, a7f, a6c, b3t, a8j, b5j, a2n, a8k, a4y, a9p, Q2t] at hn
      omega
    obtain ⟨a, rfl⟩ := List.length_eq_one_iff.1 hl
    refine ⟨?_, ?_, ?_, ?_⟩
    · simp [b0d, a8n, a93, b5r, b0k, a4e, b27, a9u, b0h, a9x, b0l, a9v, b0i, a6h, a86, a2k, a9d, b5n, b25, Q2m, Q2c, b05, b2l, b2k, a41, a7c, b17, a42, a7d, a37, a60, b18, b19, b1a, a38, b1b, Q2e, Q2a, Q1z, gt, dI4, i64_in]
    · simp [a9b, a9r, b0e, a9s, b0f, a6l, b26, a9t, b0g, b5s, a9w, b0j, a9m, b06, b1c, a7e, b2m, Q2c, Q2a, Q1z, gt, dI4]
    · simp [b05, b2l, b2k, a41, a7c, b17, a42, a7d, a37, a60, b18, b19, b1a, a38, b1b, Q2e, Q2a, Q1z, gt, dI4]
    · simp [a9b, a9r, b0e, a9s, b0f, a6l, b26, a9t, b0g, b5s, a9w, b0j, a9m, b06, b1c, a7e, b2m, Q2c, Q2a, Q1z, gt, dI4]
theorem op10 (n : Node) (l : List I4) (ho : n.1 = 10) : ∃ Y, b0a n = some Y ∧ a2x n l Y = !(a4k n (l.length : Int)) ∧ Y.2.2.2.2.2.2.1 = a8o n.1 ∧ (a4k n (l.length : Int) = true → b0d n l Y = b05 n l ∧ a9b n l Y = a9m n l ∧ (b05 n l).isSome = true ∧ (a9m n l).isSome = true) := by
  obtain ⟨op, i, K, S, P, O, M, Sh, Z, t1, t2, t3, W, B⟩ := n
  replace ho : op = 10 := ho
  subst ho
  refine ⟨_, rfl, ?_, rfl, fun hn => ?_⟩
  · rw [Bool.eq_iff_iff]
    simp [a2x, b0b, a4b, a5t, a2z, a6j, a30, a6k, a0z, a3k, a3p, a7x, a2y, a6i, a3o, a7w, a0u, a3j, a3m, a7u, a3n, a7v, a1h, a7t, a3l, a7s, a4k, b1d, a64, b1h, a63, b1g, a20, b1f, a17, a62, a39, b1e, a0i, a61, a43, a7h, a7j, b2q, a45, b2p, a0a, a7g, a7i, b2o, a44, b2n, a08, a7f, a6c, b3t, a8j, b5j, a2n, a8k, a4y, a9p, Q2r, Q2t, in_not]
    by_cases hK : 1 ≤ K ∧ K ≤ 3
    · try rw [i64_in (K - 1) (by omega)]
      constructor <;> intro h <;> omega
    · constructor <;> intro h <;> omega
  · have hl : l.length = 2 := by
      simp [a4k, b1d, a64, b1h, a63, b1g, a20, b1f, a17, a62, a39, b1e, a0i, a61, a43, a7h, a7j, b2q, a45, b2p, a0a, a7g, a7i, b2o, a44, b2n, a08, a7f, a6c, b3t, a8j, b5j, a2n, a8k, a4y, a9p, Q2t] at hn
      omega
    obtain ⟨a, b, rfl⟩ := len2 hl
    refine ⟨?_, ?_, ?_, ?_⟩
    · simp [b0d, a8n, a93, b5r, b0k, a4e, b27, a9u, b0h, a9x, b0l, a9v, b0i, a6h, a86, a2k, a9d, b5n, b25, Q2m, Q2c, b05, b2l, b2k, a41, a7c, b17, a42, a7d, a37, a60, b18, b19, b1a, a38, b1b, Q2e, Q2a, Q1z, gt, dI4, i64_in]
      rw [bne_sw b.1, bne_sw b.2.1]
      cases (a.1 != b.1) <;> cases (a.2.1 != b.2.1) <;> rfl
    · simp [a9b, a9r, b0e, a9s, b0f, a6l, b26, a9t, b0g, b5s, a9w, b0j, a9m, b06, b1c, a7e, b2m, Q2c, Q2a, Q1z, gt, dI4]
    · simp [b05, b2l, b2k, a41, a7c, b17, a42, a7d, a37, a60, b18, b19, b1a, a38, b1b, Q2e, Q2a, Q1z, gt, dI4]
      cases (b.1 != a.1) <;> cases (b.2.1 != a.2.1) <;> rfl
    · simp [a9b, a9r, b0e, a9s, b0f, a6l, b26, a9t, b0g, b5s, a9w, b0j, a9m, b06, b1c, a7e, b2m, Q2c, Q2a, Q1z, gt, dI4]
theorem op11 (n : Node) (l : List I4) (ho : n.1 = 11) : ∃ Y, b0a n = some Y ∧ a2x n l Y = !(a4k n (l.length : Int)) ∧ Y.2.2.2.2.2.2.1 = a8o n.1 ∧ (a4k n (l.length : Int) = true → b0d n l Y = b05 n l ∧ a9b n l Y = a9m n l ∧ (b05 n l).isSome = true ∧ (a9m n l).isSome = true) := by
  obtain ⟨op, i, K, S, P, O, M, Sh, Z, t1, t2, t3, W, B⟩ := n
  replace ho : op = 11 := ho
  subst ho
  refine ⟨_, rfl, ?_, rfl, fun hn => ?_⟩
  · rw [Bool.eq_iff_iff]
    simp [a2x, b0b, a4b, a5t, a2z, a6j, a30, a6k, a0z, a3k, a3p, a7x, a2y, a6i, a3o, a7w, a0u, a3j, a3m, a7u, a3n, a7v, a1h, a7t, a3l, a7s, a4k, b1d, a64, b1h, a63, b1g, a20, b1f, a17, a62, a39, b1e, a0i, a61, a43, a7h, a7j, b2q, a45, b2p, a0a, a7g, a7i, b2o, a44, b2n, a08, a7f, a6c, b3t, a8j, b5j, a2n, a8k, a4y, a9p, Q2r, Q2t, in_not]
    by_cases hK : 1 ≤ K ∧ K ≤ 3
    · try rw [i64_in (K - 1) (by omega)]
      constructor <;> intro h <;> omega
    · constructor <;> intro h <;> omega
  · have hl : l.length = 1 := by
      simp [a4k, b1d, a64, b1h, a63, b1g, a20, b1f, a17, a62, a39, b1e, a0i, a61, a43, a7h, a7j, b2q, a45, b2p, a0a, a7g, a7i, b2o, a44, b2n, a08, a7f, a6c, b3t, a8j, b5j, a2n, a8k, a4y, a9p, Q2t] at hn
      omega
    obtain ⟨a, rfl⟩ := List.length_eq_one_iff.1 hl
    refine ⟨?_, ?_, ?_, ?_⟩
    · simp [b0d, a8n, a93, b5r, b0k, a4e, b27, a9u, b0h, a9x, b0l, a9v, b0i, a6h, a86, a2k, a9d, b5n, b25, Q2m, Q2c, b05, b2l, b2k, a41, a7c, b17, a42, a7d, a37, a60, b18, b19, b1a, a38, b1b, Q2e, Q2a, Q1z, gt, dI4, i64_in]
      cases Q2q (t1, t2, t3) != Q2q (a.1, a.2.1, a.2.2.1) <;> rfl
    · simp [a9b, a9r, b0e, a9s, b0f, a6l, b26, a9t, b0g, b5s, a9w, b0j, a9m, b06, b1c, a7e, b2m, Q2c, Q2a, Q1z, gt, dI4]
    · simp [b05, b2l, b2k, a41, a7c, b17, a42, a7d, a37, a60, b18, b19, b1a, a38, b1b, Q2e, Q2a, Q1z, gt, dI4]
      cases Q2q (t1, t2, t3) != Q2q (a.1, a.2.1, a.2.2.1) <;> rfl
    · simp [a9b, a9r, b0e, a9s, b0f, a6l, b26, a9t, b0g, b5s, a9w, b0j, a9m, b06, b1c, a7e, b2m, Q2c, Q2a, Q1z, gt, dI4]
theorem op12 (n : Node) (l : List I4) (ho : n.1 = 12) : ∃ Y, b0a n = some Y ∧ a2x n l Y = !(a4k n (l.length : Int)) ∧ Y.2.2.2.2.2.2.1 = a8o n.1 ∧ (a4k n (l.length : Int) = true → b0d n l Y = b05 n l ∧ a9b n l Y = a9m n l ∧ (b05 n l).isSome = true ∧ (a9m n l).isSome = true) := by
  obtain ⟨op, i, K, S, P, O, M, Sh, Z, t1, t2, t3, W, B⟩ := n
  replace ho : op = 12 := ho
  subst ho
  refine ⟨_, rfl, ?_, rfl, fun hn => ?_⟩
  · rw [Bool.eq_iff_iff]
    simp [a2x, b0b, a4b, a5t, a2z, a6j, a30, a6k, a0z, a3k, a3p, a7x, a2y, a6i, a3o, a7w, a0u, a3j, a3m, a7u, a3n, a7v, a1h, a7t, a3l, a7s, a4k, b1d, a64, b1h, a63, b1g, a20, b1f, a17, a62, a39, b1e, a0i, a61, a43, a7h, a7j, b2q, a45, b2p, a0a, a7g, a7i, b2o, a44, b2n, a08, a7f, a6c, b3t, a8j, b5j, a2n, a8k, a4y, a9p, Q2r, Q2t, in_not]
    by_cases hK : 1 ≤ K ∧ K ≤ 3
    · try rw [i64_in (K - 1) (by omega)]
      constructor <;> intro h <;> omega
    · constructor <;> intro h <;> omega
  · have hl : l.length = 1 := by
      simp [a4k, b1d, a64, b1h, a63, b1g, a20, b1f, a17, a62, a39, b1e, a0i, a61, a43, a7h, a7j, b2q, a45, b2p, a0a, a7g, a7i, b2o, a44, b2n, a08, a7f, a6c, b3t, a8j, b5j, a2n, a8k, a4y, a9p, Q2t] at hn
      omega
    obtain ⟨a, rfl⟩ := List.length_eq_one_iff.1 hl
    refine ⟨?_, ?_, ?_, ?_⟩
    · simp [b0d, a8n, a93, b5r, b0k, a4e, b27, a9u, b0h, a9x, b0l, a9v, b0i, a6h, a86, a2k, a9d, b5n, b25, Q2m, Q2c, b05, b2l, b2k, a41, a7c, b17, a42, a7d, a37, a60, b18, b19, b1a, a38, b1b, Q2e, Q2a, Q1z, gt, dI4, i64_in]
    · simp [a9b, a9r, b0e, a9s, b0f, a6l, b26, a9t, b0g, b5s, a9w, b0j, a9m, b06, b1c, a7e, b2m, Q2c, Q2a, Q1z, gt, dI4]
    · simp [b05, b2l, b2k, a41, a7c, b17, a42, a7d, a37, a60, b18, b19, b1a, a38, b1b, Q2e, Q2a, Q1z, gt, dI4]
    · simp [a9b, a9r, b0e, a9s, b0f, a6l, b26, a9t, b0g, b5s, a9w, b0j, a9m, b06, b1c, a7e, b2m, Q2c, Q2a, Q1z, gt, dI4]
end Go.V.P
