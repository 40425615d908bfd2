/- Plain laws of layer 3: what a node makes, op by op. -/
import Derived.Test.YtdgdgoekapekpaaLValue
namespace Go.V.P
open Go Go.V Go.IntWalk
set_option linter.unusedVariables false
set_option linter.unusedSimpArgs false
set_option maxRecDepth 20000
theorem in_iff (x a b : Int) : a0v x a b = true ↔ a ≤ x ∧ x ≤ b := by
  simp only [a0v, b6p, a9n, b6x, Bool.cond_false_right, Bool.and_eq_true, decide_eq_true_iff]
theorem in_not (x a b : Int) : a0v x a b = false ↔ ¬(a ≤ x ∧ x ≤ b) := by
  rw [← in_iff, Bool.not_eq_true]
theorem len2 {α : Type} : ∀ {l : List α}, l.length = 2 → ∃ a b, l = [a, b]
  | [a, b], _ => ⟨a, b, rfl⟩
theorem beq_sw (x y : Int) : (x == y) = (y == x) := by
  rw [Bool.eq_iff_iff]; simp only [beq_iff_eq]; exact eq_comm
theorem bne_sw (x y : Int) : (x != y) = (y != x) := congrArg Bool.not (beq_sw x y)

theorem op1 (n : Node) (l : List I4) (ho : n.1 = 1) : ∃ Y, b0u n = some Y ∧ a39 n l Y = !(a55 n (l.length : Int)) ∧ Y.2.2.2.2.2.2.1 = a8r n.1 ∧ (a55 n (l.length : Int) = true → b0x n l Y = b0l n l ∧ a9p n l Y = b03 n l ∧ (b0l n l).isSome = true ∧ (b03 n l).isSome = true) := by
  obtain ⟨op, i, K, S, P, O, M, Sh, Z, t1, t2, t3, W, B⟩ := n
  replace ho : op = 1 := ho
  subst ho
  refine ⟨_, rfl, ?_, rfl, fun hn => ?_⟩
  · rw [Bool.eq_iff_iff]
    simp [a39, b0v, a4x, a5x, a3b, a72, a3c, a73, a16, a3t, a3y, a81, a3a, a71, a3x, a80, a0u, a3s, a3v, a7y, a3w, a7z, a1k, a7x, a3u, a7w, a55, b2f, a68, b2j, a67, b2i, a1z, b2h, a19, a66, a3j, b2g, a0g, a65, a4c, a7k, a7m, b3n, a4e, b3m, a09, a7j, a7l, b3l, a4d, b3k, a08, a7i, a6u, b4k, a8k, b5v, a2x, a8l, a5f, b09, within_in, in_iff, in_not]
    by_cases hK : 1 ≤ K ∧ K ≤ 3
    · try rw [i64_in (K - 1) (by omega)]
      constructor <;> intro h <;> omega
    · constructor <;> intro h <;> omega
  · have hl : l.length = 1 := by
      simp [a55, b2f, a68, b2j, a67, b2i, a1z, b2h, a19, a66, a3j, b2g, a0g, a65, a4c, a7k, a7m, b3n, a4e, b3m, a09, a7j, a7l, b3l, a4d, b3k, a08, a7i, a6u, b4k, a8k, b5v, a2x, a8l, a5f, b09, in_iff] at hn
      omega
    obtain ⟨a, rfl⟩ := List.length_eq_one_iff.1 hl
    refine ⟨?_, ?_, ?_, ?_⟩
    · simp [b0x, a8p, a9k, b66, b19, a50, b34, b0f, b16, b0i, b1a, b0g, b17, a6z, a88, a2m, a9s, b62, b31, shape_Out_eq, shape_Size_eq, b0l, b3i, b3h, a4a, a7f, b29, a4b, a7g, a3h, a64, b2a, b2b, b2c, a3i, b2d, ref02_Out_eq, ref02_Size_eq, either, gt, dI4, i64_in]
    · simp [a9p, b0c, b0y, b0d, b0z, a74, b33, b0e, b15, b67, b0h, b18, b03, b0m, b2e, a7h, b3j, shape_Size_eq, ref02_Size_eq, either, gt, dI4]
    · simp [b0l, b3i, b3h, a4a, a7f, b29, a4b, a7g, a3h, a64, b2a, b2b, b2c, a3i, b2d, ref02_Out_eq, ref02_Size_eq, either, gt, dI4]
    · simp [a9p, b0c, b0y, b0d, b0z, a74, b33, b0e, b15, b67, b0h, b18, b03, b0m, b2e, a7h, b3j, shape_Size_eq, ref02_Size_eq, either, gt, dI4]

theorem op2 (n : Node) (l : List I4) (ho : n.1 = 2) : ∃ Y, b0u n = some Y ∧ a39 n l Y = !(a55 n (l.length : Int)) ∧ Y.2.2.2.2.2.2.1 = a8r n.1 ∧ (a55 n (l.length : Int) = true → b0x n l Y = b0l n l ∧ a9p n l Y = b03 n l ∧ (b0l n l).isSome = true ∧ (b03 n l).isSome = true) := by
  obtain ⟨op, i, K, S, P, O, M, Sh, Z, t1, t2, t3, W, B⟩ := n
  replace ho : op = 2 := ho
  subst ho
  refine ⟨_, rfl, ?_, rfl, fun hn => ?_⟩
  · rw [Bool.eq_iff_iff]
    simp [a39, b0v, a4x, a5x, a3b, a72, a3c, a73, a16, a3t, a3y, a81, a3a, a71, a3x, a80, a0u, a3s, a3v, a7y, a3w, a7z, a1k, a7x, a3u, a7w, a55, b2f, a68, b2j, a67, b2i, a1z, b2h, a19, a66, a3j, b2g, a0g, a65, a4c, a7k, a7m, b3n, a4e, b3m, a09, a7j, a7l, b3l, a4d, b3k, a08, a7i, a6u, b4k, a8k, b5v, a2x, a8l, a5f, b09, within_in, in_iff, in_not]
    by_cases hK : 1 ≤ K ∧ K ≤ 3
    · try rw [i64_in (K - 1) (by omega)]
      constructor <;> intro h <;> omega
    · constructor <;> intro h <;> omega
  · have hl : l.length = 1 := by
      simp [a55, b2f, a68, b2j, a67, b2i, a1z, b2h, a19, a66, a3j, b2g, a0g, a65, a4c, a7k, a7m, b3n, a4e, b3m, a09, a7j, a7l, b3l, a4d, b3k, a08, a7i, a6u, b4k, a8k, b5v, a2x, a8l, a5f, b09, in_iff] at hn
      omega
    obtain ⟨a, rfl⟩ := List.length_eq_one_iff.1 hl
    refine ⟨?_, ?_, ?_, ?_⟩
    · simp [b0x, a8p, a9k, b66, b19, a50, b34, b0f, b16, b0i, b1a, b0g, b17, a6z, a88, a2m, a9s, b62, b31, shape_Out_eq, shape_Size_eq, b0l, b3i, b3h, a4a, a7f, b29, a4b, a7g, a3h, a64, b2a, b2b, b2c, a3i, b2d, ref02_Out_eq, ref02_Size_eq, either, gt, dI4, i64_in]
    · simp [a9p, b0c, b0y, b0d, b0z, a74, b33, b0e, b15, b67, b0h, b18, b03, b0m, b2e, a7h, b3j, shape_Size_eq, ref02_Size_eq, either, gt, dI4]
    · simp [b0l, b3i, b3h, a4a, a7f, b29, a4b, a7g, a3h, a64, b2a, b2b, b2c, a3i, b2d, ref02_Out_eq, ref02_Size_eq, either, gt, dI4]
    · simp [a9p, b0c, b0y, b0d, b0z, a74, b33, b0e, b15, b67, b0h, b18, b03, b0m, b2e, a7h, b3j, shape_Size_eq, ref02_Size_eq, either, gt, dI4]

theorem op3 (n : Node) (l : List I4) (ho : n.1 = 3) : ∃ Y, b0u n = some Y ∧ a39 n l Y = !(a55 n (l.length : Int)) ∧ Y.2.2.2.2.2.2.1 = a8r n.1 ∧ (a55 n (l.length : Int) = true → b0x n l Y = b0l n l ∧ a9p n l Y = b03 n l ∧ (b0l n l).isSome = true ∧ (b03 n l).isSome = true) := by
  obtain ⟨op, i, K, S, P, O, M, Sh, Z, t1, t2, t3, W, B⟩ := n
  replace ho : op = 3 := ho
  subst ho
  refine ⟨_, rfl, ?_, rfl, fun hn => ?_⟩
  · rw [Bool.eq_iff_iff]
    simp [a39, b0v, a4x, a5x, a3b, a72, a3c, a73, a16, a3t, a3y, a81, a3a, a71, a3x, a80, a0u, a3s, a3v, a7y, a3w, a7z, a1k, a7x, a3u, a7w, a55, b2f, a68, b2j, a67, b2i, a1z, b2h, a19, a66, a3j, b2g, a0g, a65, a4c, a7k, a7m, b3n, a4e, b3m, a09, a7j, a7l, b3l, a4d, b3k, a08, a7i, a6u, b4k, a8k, b5v, a2x, a8l, a5f, b09, within_in, in_iff, in_not]
    by_cases hK : 1 ≤ K ∧ K ≤ 3
    · try rw [i64_in (K - 1) (by omega)]
      constructor <;> intro h <;> omega
    · constructor <;> intro h <;> omega
  · have hl : l.length = 1 := by
      simp [a55, b2f, a68, b2j, a67, b2i, a1z, b2h, a19, a66, a3j, b2g, a0g, a65, a4c, a7k, a7m, b3n, a4e, b3m, a09, a7j, a7l, b3l, a4d, b3k, a08, a7i, a6u, b4k, a8k, b5v, a2x, a8l, a5f, b09, in_iff] at hn
      omega
    obtain ⟨a, rfl⟩ := List.length_eq_one_iff.1 hl
    refine ⟨?_, ?_, ?_, ?_⟩
    · simp [b0x, a8p, a9k, b66, b19, a50, b34, b0f, b16, b0i, b1a, b0g, b17, a6z, a88, a2m, a9s, b62, b31, shape_Out_eq, shape_Size_eq, b0l, b3i, b3h, a4a, a7f, b29, a4b, a7g, a3h, a64, b2a, b2b, b2c, a3i, b2d, ref02_Out_eq, ref02_Size_eq, either, gt, dI4, i64_in]
    · simp [a9p, b0c, b0y, b0d, b0z, a74, b33, b0e, b15, b67, b0h, b18, b03, b0m, b2e, a7h, b3j, shape_Size_eq, ref02_Size_eq, either, gt, dI4]
    · simp [b0l, b3i, b3h, a4a, a7f, b29, a4b, a7g, a3h, a64, b2a, b2b, b2c, a3i, b2d, ref02_Out_eq, ref02_Size_eq, either, gt, dI4]
    · simp [a9p, b0c, b0y, b0d, b0z, a74, b33, b0e, b15, b67, b0h, b18, b03, b0m, b2e, a7h, b3j, shape_Size_eq, ref02_Size_eq, either, gt, dI4]

theorem op4 (n : Node) (l : List I4) (ho : n.1 = 4) : ∃ Y, b0u n = some Y ∧ a39 n l Y = !(a55 n (l.length : Int)) ∧ Y.2.2.2.2.2.2.1 = a8r n.1 ∧ (a55 n (l.length : Int) = true → b0x n l Y = b0l n l ∧ a9p n l Y = b03 n l ∧ (b0l n l).isSome = true ∧ (b03 n l).isSome = true) := by
  obtain ⟨op, i, K, S, P, O, M, Sh, Z, t1, t2, t3, W, B⟩ := n
  replace ho : op = 4 := ho
  subst ho
  refine ⟨_, rfl, ?_, rfl, fun hn => ?_⟩
  · rw [Bool.eq_iff_iff]
    simp [a39, b0v, a4x, a5x, a3b, a72, a3c, a73, a16, a3t, a3y, a81, a3a, a71, a3x, a80, a0u, a3s, a3v, a7y, a3w, a7z, a1k, a7x, a3u, a7w, a55, b2f, a68, b2j, a67, b2i, a1z, b2h, a19, a66, a3j, b2g, a0g, a65, a4c, a7k, a7m, b3n, a4e, b3m, a09, a7j, a7l, b3l, a4d, b3k, a08, a7i, a6u, b4k, a8k, b5v, a2x, a8l, a5f, b09, within_in, in_iff, in_not]
    by_cases hK : 1 ≤ K ∧ K ≤ 3
    · try rw [i64_in (K - 1) (by omega)]
      constructor <;> intro h <;> omega
    · constructor <;> intro h <;> omega
  · have hl : l.length = 1 := by
      simp [a55, b2f, a68, b2j, a67, b2i, a1z, b2h, a19, a66, a3j, b2g, a0g, a65, a4c, a7k, a7m, b3n, a4e, b3m, a09, a7j, a7l, b3l, a4d, b3k, a08, a7i, a6u, b4k, a8k, b5v, a2x, a8l, a5f, b09, in_iff] at hn
      omega
    obtain ⟨a, rfl⟩ := List.length_eq_one_iff.1 hl
    refine ⟨?_, ?_, ?_, ?_⟩
    · simp [b0x, a8p, a9k, b66, b19, a50, b34, b0f, b16, b0i, b1a, b0g, b17, a6z, a88, a2m, a9s, b62, b31, shape_Out_eq, shape_Size_eq, b0l, b3i, b3h, a4a, a7f, b29, a4b, a7g, a3h, a64, b2a, b2b, b2c, a3i, b2d, ref02_Out_eq, ref02_Size_eq, either, gt, dI4, i64_in]
    · simp [a9p, b0c, b0y, b0d, b0z, a74, b33, b0e, b15, b67, b0h, b18, b03, b0m, b2e, a7h, b3j, shape_Size_eq, ref02_Size_eq, either, gt, dI4]
    · simp [b0l, b3i, b3h, a4a, a7f, b29, a4b, a7g, a3h, a64, b2a, b2b, b2c, a3i, b2d, ref02_Out_eq, ref02_Size_eq, either, gt, dI4]
    · simp [a9p, b0c, b0y, b0d, b0z, a74, b33, b0e, b15, b67, b0h, b18, b03, b0m, b2e, a7h, b3j, shape_Size_eq, ref02_Size_eq, either, gt, dI4]

theorem op5 (n : Node) (l : List I4) (ho : n.1 = 5) : ∃ Y, b0u n = some Y ∧ a39 n l Y = !(a55 n (l.length : Int)) ∧ Y.2.2.2.2.2.2.1 = a8r n.1 ∧ (a55 n (l.length : Int) = true → b0x n l Y = b0l n l ∧ a9p n l Y = b03 n l ∧ (b0l n l).isSome = true ∧ (b03 n l).isSome = true) := by
  obtain ⟨op, i, K, S, P, O, M, Sh, Z, t1, t2, t3, W, B⟩ := n
  replace ho : op = 5 := ho
  subst ho
  refine ⟨_, rfl, ?_, rfl, fun hn => ?_⟩
  · rw [Bool.eq_iff_iff]
    simp [a39, b0v, a4x, a5x, a3b, a72, a3c, a73, a16, a3t, a3y, a81, a3a, a71, a3x, a80, a0u, a3s, a3v, a7y, a3w, a7z, a1k, a7x, a3u, a7w, a55, b2f, a68, b2j, a67, b2i, a1z, b2h, a19, a66, a3j, b2g, a0g, a65, a4c, a7k, a7m, b3n, a4e, b3m, a09, a7j, a7l, b3l, a4d, b3k, a08, a7i, a6u, b4k, a8k, b5v, a2x, a8l, a5f, b09, within_in, in_iff, in_not]
    by_cases hK : 1 ≤ K ∧ K ≤ 3
    · try rw [i64_in (K - 1) (by omega)]
      constructor <;> intro h <;> omega
    · constructor <;> intro h <;> omega
  · have hl : l.length = 1 := by
      simp [a55, b2f, a68, b2j, a67, b2i, a1z, b2h, a19, a66, a3j, b2g, a0g, a65, a4c, a7k, a7m, b3n, a4e, b3m, a09, a7j, a7l, b3l, a4d, b3k, a08, a7i, a6u, b4k, a8k, b5v, a2x, a8l, a5f, b09, in_iff] at hn
      omega
    obtain ⟨a, rfl⟩ := List.length_eq_one_iff.1 hl
    refine ⟨?_, ?_, ?_, ?_⟩
    · simp [b0x, a8p, a9k, b66, b19, a50, b34, b0f, b16, b0i, b1a, b0g, b17, a6z, a88, a2m, a9s, b62, b31, shape_Out_eq, shape_Size_eq, b0l, b3i, b3h, a4a, a7f, b29, a4b, a7g, a3h, a64, b2a, b2b, b2c, a3i, b2d, ref02_Out_eq, ref02_Size_eq, either, gt, dI4, i64_in]
    · simp [a9p, b0c, b0y, b0d, b0z, a74, b33, b0e, b15, b67, b0h, b18, b03, b0m, b2e, a7h, b3j, shape_Size_eq, ref02_Size_eq, either, gt, dI4]
    · simp [b0l, b3i, b3h, a4a, a7f, b29, a4b, a7g, a3h, a64, b2a, b2b, b2c, a3i, b2d, ref02_Out_eq, ref02_Size_eq, either, gt, dI4]
    · simp [a9p, b0c, b0y, b0d, b0z, a74, b33, b0e, b15, b67, b0h, b18, b03, b0m, b2e, a7h, b3j, shape_Size_eq, ref02_Size_eq, either, gt, dI4]

theorem op6 (n : Node) (l : List I4) (ho : n.1 = 6) : ∃ Y, b0u n = some Y ∧ a39 n l Y = !(a55 n (l.length : Int)) ∧ Y.2.2.2.2.2.2.1 = a8r n.1 ∧ (a55 n (l.length : Int) = true → b0x n l Y = b0l n l ∧ a9p n l Y = b03 n l ∧ (b0l n l).isSome = true ∧ (b03 n l).isSome = true) := by
  obtain ⟨op, i, K, S, P, O, M, Sh, Z, t1, t2, t3, W, B⟩ := n
  replace ho : op = 6 := ho
  subst ho
  refine ⟨_, rfl, ?_, rfl, fun hn => ?_⟩
  · rw [Bool.eq_iff_iff]
    simp [a39, b0v, a4x, a5x, a3b, a72, a3c, a73, a16, a3t, a3y, a81, a3a, a71, a3x, a80, a0u, a3s, a3v, a7y, a3w, a7z, a1k, a7x, a3u, a7w, a55, b2f, a68, b2j, a67, b2i, a1z, b2h, a19, a66, a3j, b2g, a0g, a65, a4c, a7k, a7m, b3n, a4e, b3m, a09, a7j, a7l, b3l, a4d, b3k, a08, a7i, a6u, b4k, a8k, b5v, a2x, a8l, a5f, b09, within_in, in_iff, in_not]
    by_cases hK : 1 ≤ K ∧ K ≤ 3
    · try rw [i64_in (K - 1) (by omega)]
      constructor <;> intro h <;> omega
    · constructor <;> intro h <;> omega
  · have hl : l.length = 2 := by
      simp [a55, b2f, a68, b2j, a67, b2i, a1z, b2h, a19, a66, a3j, b2g, a0g, a65, a4c, a7k, a7m, b3n, a4e, b3m, a09, a7j, a7l, b3l, a4d, b3k, a08, a7i, a6u, b4k, a8k, b5v, a2x, a8l, a5f, b09, in_iff] at hn
      omega
    obtain ⟨a, b, rfl⟩ := len2 hl
    refine ⟨?_, ?_, ?_, ?_⟩
    · simp [b0x, a8p, a9k, b66, b19, a50, b34, b0f, b16, b0i, b1a, b0g, b17, a6z, a88, a2m, a9s, b62, b31, shape_Out_eq, shape_Size_eq, b0l, b3i, b3h, a4a, a7f, b29, a4b, a7g, a3h, a64, b2a, b2b, b2c, a3i, b2d, ref02_Out_eq, ref02_Size_eq, either, gt, dI4, i64_in]
      rw [beq_sw b.1, beq_sw b.2.1, beq_sw b.2.2.1]
      cases (a.1 == b.1) <;> cases (a.2.1 == b.2.1) <;> cases (a.2.2.1 == b.2.2.1) <;> rfl
    · simp [a9p, b0c, b0y, b0d, b0z, a74, b33, b0e, b15, b67, b0h, b18, b03, b0m, b2e, a7h, b3j, shape_Size_eq, ref02_Size_eq, either, gt, dI4]
    · simp [b0l, b3i, b3h, a4a, a7f, b29, a4b, a7g, a3h, a64, b2a, b2b, b2c, a3i, b2d, ref02_Out_eq, ref02_Size_eq, either, gt, dI4]
      cases (b.1 == a.1) <;> cases (b.2.1 == a.2.1) <;> cases (b.2.2.1 == a.2.2.1) <;> rfl
    · simp [a9p, b0c, b0y, b0d, b0z, a74, b33, b0e, b15, b67, b0h, b18, b03, b0m, b2e, a7h, b3j, shape_Size_eq, ref02_Size_eq, either, gt, dI4]

theorem op7 (n : Node) (l : List I4) (ho : n.1 = 7) : ∃ Y, b0u n = some Y ∧ a39 n l Y = !(a55 n (l.length : Int)) ∧ Y.2.2.2.2.2.2.1 = a8r n.1 ∧ (a55 n (l.length : Int) = true → b0x n l Y = b0l n l ∧ a9p n l Y = b03 n l ∧ (b0l n l).isSome = true ∧ (b03 n l).isSome = true) := by
  obtain ⟨op, i, K, S, P, O, M, Sh, Z, t1, t2, t3, W, B⟩ := n
  replace ho : op = 7 := ho
  subst ho
  refine ⟨_, rfl, ?_, rfl, fun hn => ?_⟩
  · rw [Bool.eq_iff_iff]
    simp [a39, b0v, a4x, a5x, a3b, a72, a3c, a73, a16, a3t, a3y, a81, a3a, a71, a3x, a80, a0u, a3s, a3v, a7y, a3w, a7z, a1k, a7x, a3u, a7w, a55, b2f, a68, b2j, a67, b2i, a1z, b2h, a19, a66, a3j, b2g, a0g, a65, a4c, a7k, a7m, b3n, a4e, b3m, a09, a7j, a7l, b3l, a4d, b3k, a08, a7i, a6u, b4k, a8k, b5v, a2x, a8l, a5f, b09, within_in, in_iff, in_not]
    by_cases hK : 1 ≤ K ∧ K ≤ 3
    · try rw [i64_in (K - 1) (by omega)]
      constructor <;> intro h <;> omega
    · constructor <;> intro h <;> omega
  · have hl : l.length = 2 := by
      simp [a55, b2f, a68, b2j, a67, b2i, a1z, b2h, a19, a66, a3j, b2g, a0g, a65, a4c, a7k, a7m, b3n, a4e, b3m, a09, a7j, a7l, b3l, a4d, b3k, a08, a7i, a6u, b4k, a8k, b5v, a2x, a8l, a5f, b09, in_iff] at hn
      omega
    obtain ⟨a, b, rfl⟩ := len2 hl
    refine ⟨?_, ?_, ?_, ?_⟩
    · simp [b0x, a8p, a9k, b66, b19, a50, b34, b0f, b16, b0i, b1a, b0g, b17, a6z, a88, a2m, a9s, b62, b31, shape_Out_eq, shape_Size_eq, b0l, b3i, b3h, a4a, a7f, b29, a4b, a7g, a3h, a64, b2a, b2b, b2c, a3i, b2d, ref02_Out_eq, ref02_Size_eq, either, gt, dI4, i64_in]
      rw [beq_sw b.1, beq_sw b.2.1, beq_sw b.2.2.1]
      cases (a.1 == b.1) <;> cases (a.2.1 == b.2.1) <;> cases (a.2.2.1 == b.2.2.1) <;> rfl
    · simp [a9p, b0c, b0y, b0d, b0z, a74, b33, b0e, b15, b67, b0h, b18, b03, b0m, b2e, a7h, b3j, shape_Size_eq, ref02_Size_eq, either, gt, dI4]
    · simp [b0l, b3i, b3h, a4a, a7f, b29, a4b, a7g, a3h, a64, b2a, b2b, b2c, a3i, b2d, ref02_Out_eq, ref02_Size_eq, either, gt, dI4]
      cases (b.1 == a.1) <;> cases (b.2.1 == a.2.1) <;> cases (b.2.2.1 == a.2.2.1) <;> rfl
    · simp [a9p, b0c, b0y, b0d, b0z, a74, b33, b0e, b15, b67, b0h, b18, b03, b0m, b2e, a7h, b3j, shape_Size_eq, ref02_Size_eq, either, gt, dI4]

theorem op8 (n : Node) (l : List I4) (ho : n.1 = 8) : ∃ Y, b0u n = some Y ∧ a39 n l Y = !(a55 n (l.length : Int)) ∧ Y.2.2.2.2.2.2.1 = a8r n.1 ∧ (a55 n (l.length : Int) = true → b0x n l Y = b0l n l ∧ a9p n l Y = b03 n l ∧ (b0l n l).isSome = true ∧ (b03 n l).isSome = true) := by
  obtain ⟨op, i, K, S, P, O, M, Sh, Z, t1, t2, t3, W, B⟩ := n
  replace ho : op = 8 := ho
  subst ho
  refine ⟨_, rfl, ?_, rfl, fun hn => ?_⟩
  · rw [Bool.eq_iff_iff]
    simp [a39, b0v, a4x, a5x, a3b, a72, a3c, a73, a16, a3t, a3y, a81, a3a, a71, a3x, a80, a0u, a3s, a3v, a7y, a3w, a7z, a1k, a7x, a3u, a7w, a55, b2f, a68, b2j, a67, b2i, a1z, b2h, a19, a66, a3j, b2g, a0g, a65, a4c, a7k, a7m, b3n, a4e, b3m, a09, a7j, a7l, b3l, a4d, b3k, a08, a7i, a6u, b4k, a8k, b5v, a2x, a8l, a5f, b09, within_in, in_iff, in_not]
    by_cases hK : 1 ≤ K ∧ K ≤ 3
    · try rw [i64_in (K - 1) (by omega)]
      constructor <;> intro h <;> omega
    · constructor <;> intro h <;> omega
  · have hl : l.length = 1 := by
      simp [a55, b2f, a68, b2j, a67, b2i, a1z, b2h, a19, a66, a3j, b2g, a0g, a65, a4c, a7k, a7m, b3n, a4e, b3m, a09, a7j, a7l, b3l, a4d, b3k, a08, a7i, a6u, b4k, a8k, b5v, a2x, a8l, a5f, b09, in_iff] at hn
      omega
    obtain ⟨a, rfl⟩ := List.length_eq_one_iff.1 hl
    refine ⟨?_, ?_, ?_, ?_⟩
    · simp [b0x, a8p, a9k, b66, b19, a50, b34, b0f, b16, b0i, b1a, b0g, b17, a6z, a88, a2m, a9s, b62, b31, shape_Out_eq, shape_Size_eq, b0l, b3i, b3h, a4a, a7f, b29, a4b, a7g, a3h, a64, b2a, b2b, b2c, a3i, b2d, ref02_Out_eq, ref02_Size_eq, either, gt, dI4, i64_in]
    · simp [a9p, b0c, b0y, b0d, b0z, a74, b33, b0e, b15, b67, b0h, b18, b03, b0m, b2e, a7h, b3j, shape_Size_eq, ref02_Size_eq, either, gt, dI4]
    · simp [b0l, b3i, b3h, a4a, a7f, b29, a4b, a7g, a3h, a64, b2a, b2b, b2c, a3i, b2d, ref02_Out_eq, ref02_Size_eq, either, gt, dI4]
    · simp [a9p, b0c, b0y, b0d, b0z, a74, b33, b0e, b15, b67, b0h, b18, b03, b0m, b2e, a7h, b3j, shape_Size_eq, ref02_Size_eq, either, gt, dI4]

theorem op9 (n : Node) (l : List I4) (ho : n.1 = 9) : ∃ Y, b0u n = some Y ∧ a39 n l Y = !(a55 n (l.length : Int)) ∧ Y.2.2.2.2.2.2.1 = a8r n.1 ∧ (a55 n (l.length : Int) = true → b0x n l Y = b0l n l ∧ a9p n l Y = b03 n l ∧ (b0l n l).isSome = true ∧ (b03 n l).isSome = true) := by
  obtain ⟨op, i, K, S, P, O, M, Sh, Z, t1, t2, t3, W, B⟩ := n
  replace ho : op = 9 := ho
  subst ho
  refine ⟨_, rfl, ?_, rfl, fun hn => ?_⟩
  · rw [Bool.eq_iff_iff]
    simp [a39, b0v, a4x, a5x, a3b, a72, a3c, a73, a16, a3t, a3y, a81, a3a, a71, a3x, a80, a0u, a3s, a3v, a7y, a3w, a7z, a1k, a7x, a3u, a7w, a55, b2f, a68, b2j, a67, b2i, a1z, b2h, a19, a66, a3j, b2g, a0g, a65, a4c, a7k, a7m, b3n, a4e, b3m, a09, a7j, a7l, b3l, a4d, b3k, a08, a7i, a6u, b4k, a8k, b5v, a2x, a8l, a5f, b09, within_in, in_iff, in_not]
    by_cases hK : 1 ≤ K ∧ K ≤ 3
    · try rw [i64_in (K - 1) (by omega)]
      constructor <;> intro h <;> omega
    · constructor <;> intro h <;> omega
  · have hl : l.length = 1 := by
      simp [a55, b2f, a68, b2j, a67, b2i, a1z, b2h, a19, a66, a3j, b2g, a0g, a65, a4c, a7k, a7m, b3n, a4e, b3m, a09, a7j, a7l, b3l, a4d, b3k, a08, a7i, a6u, b4k, a8k, b5v, a2x, a8l, a5f, b09, in_iff] at hn
      omega
    obtain ⟨a, rfl⟩ := List.length_eq_one_iff.1 hl
    refine ⟨?_, ?_, ?_, ?_⟩
    · simp [b0x, a8p, a9k, b66, b19, a50, b34, b0f, b16, b0i, b1a, b0g, b17, a6z, a88, a2m, a9s, b62, b31, shape_Out_eq, shape_Size_eq, b0l, b3i, b3h, a4a, a7f, b29, a4b, a7g, a3h, a64, b2a, b2b, b2c, a3i, b2d, ref02_Out_eq, ref02_Size_eq, either, gt, dI4, i64_in]
    · simp [a9p, b0c, b0y, b0d, b0z, a74, b33, b0e, b15, b67, b0h, b18, b03, b0m, b2e, a7h, b3j, shape_Size_eq, ref02_Size_eq, either, gt, dI4]
    · simp [b0l, b3i, b3h, a4a, a7f, b29, a4b, a7g, a3h, a64, b2a, b2b, b2c, a3i, b2d, ref02_Out_eq, ref02_Size_eq, either, gt, dI4]
    · simp [a9p, b0c, b0y, b0d, b0z, a74, b33, b0e, b15, b67, b0h, b18, b03, b0m, b2e, a7h, b3j, shape_Size_eq, ref02_Size_eq, either, gt, dI4]

theorem op10 (n : Node) (l : List I4) (ho : n.1 = 10) : ∃ Y, b0u n = some Y ∧ a39 n l Y = !(a55 n (l.length : Int)) ∧ Y.2.2.2.2.2.2.1 = a8r n.1 ∧ (a55 n (l.length : Int) = true → b0x n l Y = b0l n l ∧ a9p n l Y = b03 n l ∧ (b0l n l).isSome = true ∧ (b03 n l).isSome = true) := by
  obtain ⟨op, i, K, S, P, O, M, Sh, Z, t1, t2, t3, W, B⟩ := n
  replace ho : op = 10 := ho
  subst ho
  refine ⟨_, rfl, ?_, rfl, fun hn => ?_⟩
  · rw [Bool.eq_iff_iff]
    simp [a39, b0v, a4x, a5x, a3b, a72, a3c, a73, a16, a3t, a3y, a81, a3a, a71, a3x, a80, a0u, a3s, a3v, a7y, a3w, a7z, a1k, a7x, a3u, a7w, a55, b2f, a68, b2j, a67, b2i, a1z, b2h, a19, a66, a3j, b2g, a0g, a65, a4c, a7k, a7m, b3n, a4e, b3m, a09, a7j, a7l, b3l, a4d, b3k, a08, a7i, a6u, b4k, a8k, b5v, a2x, a8l, a5f, b09, within_in, in_iff, in_not]
    by_cases hK : 1 ≤ K ∧ K ≤ 3
    · try rw [i64_in (K - 1) (by omega)]
      constructor <;> intro h <;> omega
    · constructor <;> intro h <;> omega
  · have hl : l.length = 2 := by
      simp [a55, b2f, a68, b2j, a67, b2i, a1z, b2h, a19, a66, a3j, b2g, a0g, a65, a4c, a7k, a7m, b3n, a4e, b3m, a09, a7j, a7l, b3l, a4d, b3k, a08, a7i, a6u, b4k, a8k, b5v, a2x, a8l, a5f, b09, in_iff] at hn
      omega
    obtain ⟨a, b, rfl⟩ := len2 hl
    refine ⟨?_, ?_, ?_, ?_⟩
    · simp [b0x, a8p, a9k, b66, b19, a50, b34, b0f, b16, b0i, b1a, b0g, b17, a6z, a88, a2m, a9s, b62, b31, shape_Out_eq, shape_Size_eq, b0l, b3i, b3h, a4a, a7f, b29, a4b, a7g, a3h, a64, b2a, b2b, b2c, a3i, b2d, ref02_Out_eq, ref02_Size_eq, either, gt, dI4, i64_in]
      rw [bne_sw b.1, bne_sw b.2.1]
      cases (a.1 != b.1) <;> cases (a.2.1 != b.2.1) <;> rfl
    · simp [a9p, b0c, b0y, b0d, b0z, a74, b33, b0e, b15, b67, b0h, b18, b03, b0m, b2e, a7h, b3j, shape_Size_eq, ref02_Size_eq, either, gt, dI4]
    · simp [b0l, b3i, b3h, a4a, a7f, b29, a4b, a7g, a3h, a64, b2a, b2b, b2c, a3i, b2d, ref02_Out_eq, ref02_Size_eq, either, gt, dI4]
      cases (b.1 != a.1) <;> cases (b.2.1 != a.2.1) <;> rfl
    · simp [a9p, b0c, b0y, b0d, b0z, a74, b33, b0e, b15, b67, b0h, b18, b03, b0m, b2e, a7h, b3j, shape_Size_eq, ref02_Size_eq, either, gt, dI4]

theorem op11 (n : Node) (l : List I4) (ho : n.1 = 11) : ∃ Y, b0u n = some Y ∧ a39 n l Y = !(a55 n (l.length : Int)) ∧ Y.2.2.2.2.2.2.1 = a8r n.1 ∧ (a55 n (l.length : Int) = true → b0x n l Y = b0l n l ∧ a9p n l Y = b03 n l ∧ (b0l n l).isSome = true ∧ (b03 n l).isSome = true) := by
  obtain ⟨op, i, K, S, P, O, M, Sh, Z, t1, t2, t3, W, B⟩ := n
  replace ho : op = 11 := ho
  subst ho
  refine ⟨_, rfl, ?_, rfl, fun hn => ?_⟩
  · rw [Bool.eq_iff_iff]
    simp [a39, b0v, a4x, a5x, a3b, a72, a3c, a73, a16, a3t, a3y, a81, a3a, a71, a3x, a80, a0u, a3s, a3v, a7y, a3w, a7z, a1k, a7x, a3u, a7w, a55, b2f, a68, b2j, a67, b2i, a1z, b2h, a19, a66, a3j, b2g, a0g, a65, a4c, a7k, a7m, b3n, a4e, b3m, a09, a7j, a7l, b3l, a4d, b3k, a08, a7i, a6u, b4k, a8k, b5v, a2x, a8l, a5f, b09, within_in, in_iff, in_not]
    by_cases hK : 1 ≤ K ∧ K ≤ 3
    · try rw [i64_in (K - 1) (by omega)]
      constructor <;> intro h <;> omega
    · constructor <;> intro h <;> omega
  · have hl : l.length = 1 := by
      simp [a55, b2f, a68, b2j, a67, b2i, a1z, b2h, a19, a66, a3j, b2g, a0g, a65, a4c, a7k, a7m, b3n, a4e, b3m, a09, a7j, a7l, b3l, a4d, b3k, a08, a7i, a6u, b4k, a8k, b5v, a2x, a8l, a5f, b09, in_iff] at hn
      omega
    obtain ⟨a, rfl⟩ := List.length_eq_one_iff.1 hl
    refine ⟨?_, ?_, ?_, ?_⟩
    · simp [b0x, a8p, a9k, b66, b19, a50, b34, b0f, b16, b0i, b1a, b0g, b17, a6z, a88, a2m, a9s, b62, b31, shape_Out_eq, shape_Size_eq, b0l, b3i, b3h, a4a, a7f, b29, a4b, a7g, a3h, a64, b2a, b2b, b2c, a3i, b2d, ref02_Out_eq, ref02_Size_eq, either, gt, dI4, i64_in]
      cases sizeV (t1, t2, t3) != sizeV (a.1, a.2.1, a.2.2.1) <;> rfl
    · simp [a9p, b0c, b0y, b0d, b0z, a74, b33, b0e, b15, b67, b0h, b18, b03, b0m, b2e, a7h, b3j, shape_Size_eq, ref02_Size_eq, either, gt, dI4]
    · simp [b0l, b3i, b3h, a4a, a7f, b29, a4b, a7g, a3h, a64, b2a, b2b, b2c, a3i, b2d, ref02_Out_eq, ref02_Size_eq, either, gt, dI4]
      cases sizeV (t1, t2, t3) != sizeV (a.1, a.2.1, a.2.2.1) <;> rfl
    · simp [a9p, b0c, b0y, b0d, b0z, a74, b33, b0e, b15, b67, b0h, b18, b03, b0m, b2e, a7h, b3j, shape_Size_eq, ref02_Size_eq, either, gt, dI4]

theorem op12 (n : Node) (l : List I4) (ho : n.1 = 12) : ∃ Y, b0u n = some Y ∧ a39 n l Y = !(a55 n (l.length : Int)) ∧ Y.2.2.2.2.2.2.1 = a8r n.1 ∧ (a55 n (l.length : Int) = true → b0x n l Y = b0l n l ∧ a9p n l Y = b03 n l ∧ (b0l n l).isSome = true ∧ (b03 n l).isSome = true) := by
  obtain ⟨op, i, K, S, P, O, M, Sh, Z, t1, t2, t3, W, B⟩ := n
  replace ho : op = 12 := ho
  subst ho
  refine ⟨_, rfl, ?_, rfl, fun hn => ?_⟩
  · rw [Bool.eq_iff_iff]
    simp [a39, b0v, a4x, a5x, a3b, a72, a3c, a73, a16, a3t, a3y, a81, a3a, a71, a3x, a80, a0u, a3s, a3v, a7y, a3w, a7z, a1k, a7x, a3u, a7w, a55, b2f, a68, b2j, a67, b2i, a1z, b2h, a19, a66, a3j, b2g, a0g, a65, a4c, a7k, a7m, b3n, a4e, b3m, a09, a7j, a7l, b3l, a4d, b3k, a08, a7i, a6u, b4k, a8k, b5v, a2x, a8l, a5f, b09, within_in, in_iff, in_not]
    by_cases hK : 1 ≤ K ∧ K ≤ 3
    · try rw [i64_in (K - 1) (by omega)]
      constructor <;> intro h <;> omega
    · constructor <;> intro h <;> omega
  · have hl : l.length = 1 := by
      simp [a55, b2f, a68, b2j, a67, b2i, a1z, b2h, a19, a66, a3j, b2g, a0g, a65, a4c, a7k, a7m, b3n, a4e, b3m, a09, a7j, a7l, b3l, a4d, b3k, a08, a7i, a6u, b4k, a8k, b5v, a2x, a8l, a5f, b09, in_iff] at hn
      omega
    obtain ⟨a, rfl⟩ := List.length_eq_one_iff.1 hl
    refine ⟨?_, ?_, ?_, ?_⟩
    · simp [b0x, a8p, a9k, b66, b19, a50, b34, b0f, b16, b0i, b1a, b0g, b17, a6z, a88, a2m, a9s, b62, b31, shape_Out_eq, shape_Size_eq, b0l, b3i, b3h, a4a, a7f, b29, a4b, a7g, a3h, a64, b2a, b2b, b2c, a3i, b2d, ref02_Out_eq, ref02_Size_eq, either, gt, dI4, i64_in]
    · simp [a9p, b0c, b0y, b0d, b0z, a74, b33, b0e, b15, b67, b0h, b18, b03, b0m, b2e, a7h, b3j, shape_Size_eq, ref02_Size_eq, either, gt, dI4]
    · simp [b0l, b3i, b3h, a4a, a7f, b29, a4b, a7g, a3h, a64, b2a, b2b, b2c, a3i, b2d, ref02_Out_eq, ref02_Size_eq, either, gt, dI4]
    · simp [a9p, b0c, b0y, b0d, b0z, a74, b33, b0e, b15, b67, b0h, b18, b03, b0m, b2e, a7h, b3j, shape_Size_eq, ref02_Size_eq, either, gt, dI4]

end Go.V.P
