/- Plain laws of layer 3: what a node makes, op by op. -/
import Derived.Test.YtaeckbkjlmnigaaLValue
namespace Go.V.P
open Go Go.V Go.IntWalk
set_option linter.unusedVariables false
set_option linter.unusedSimpArgs false
set_option maxRecDepth 20000
theorem in_iff (x a b : Int) : ref03_in x a b = true ↔ a ≤ x ∧ x ≤ b := by
  simp only [ref03_in, ref03_in_q, ref03_in_r1_p, ref03_in_r1_q, Bool.cond_false_right, Bool.and_eq_true, decide_eq_true_iff]
theorem in_not (x a b : Int) : ref03_in x a b = false ↔ ¬(a ≤ x ∧ x ≤ b) := by
  rw [← in_iff, Bool.not_eq_true]
theorem len2 {α : Type} : ∀ {l : List α}, l.length = 2 → ∃ a b, l = [a, b]
  | [a, b], _ => ⟨a, b, rfl⟩
theorem beq_sw (x y : Int) : (x == y) = (y == x) := by
  rw [Bool.eq_iff_iff]; simp only [beq_iff_eq]; exact eq_comm
theorem bne_sw (x y : Int) : (x != y) = (y != x) := congrArg Bool.not (beq_sw x y)
theorem op1 (n : Node) (l : List I4) (ho : n.1 = 1) : ∃ Y, graph_of n.1 = some Y ∧ graph_Value_r2_p n l Y = !(ref03_node n (l.length : Int)) ∧ Y.1.2.2.2.2.2.1 = ref03_keeps n.1 ∧ (ref03_node n (l.length : Int) = true → graph_Value_r8_p n l Y = ref03_made n l ∧ graph_Value_r11_p n l Y = ref03_Value_r16_p n l ∧ (ref03_made n l).isSome = true ∧ (ref03_Value_r16_p n l).isSome = true) := by
  obtain ⟨op, i, K, S, P, O, M, Sh, Z, t1, t2, t3, W, B⟩ := n
  replace ho : op = 1 := ho
  subst ho
  refine ⟨_, rfl, ?_, rfl, fun hn => ?_⟩
  · rw [Bool.eq_iff_iff]
    simp [graph_Value_r2_p, graph_Value_r2_q, graph_kind_may, graph_kind_may_q, graph_kind_may_r12_p, graph_kind_may_r12_q, graph_kind_may_r13_p, graph_kind_may_r13_q, graph_kind_may_j7_p, graph_kind_may_j7_q, graph_kind_may_r8_p, graph_kind_may_r8_q, graph_kind_may_r10_p, graph_kind_may_r10_q, graph_kind_may_r6_p, graph_kind_may_r6_q, graph_kind_may_j3_p, graph_kind_may_j3_q, graph_kind_may_r4_p, graph_kind_may_r4_q, graph_kind_may_r5_p, graph_kind_may_r5_q, graph_kind_may_r2_p, graph_kind_may_r2_q, graph_kind_may_r1_p, graph_kind_may_r1_q, ref03_node, ref03_node_q, ref03_node_r17_p, ref03_node_r17_q, ref03_node_r16_p, ref03_node_r16_q, ref03_node_r15_p, ref03_node_r15_q, ref03_node_j13_p, ref03_node_j13_q, ref03_node_r13_p, ref03_node_r13_q, ref03_node_j10_p, ref03_node_j10_q, ref03_node_j8_p, ref03_node_j8_q, ref03_node_r9_p, ref03_node_r9_q, ref03_node_r8_p, ref03_node_r8_q, ref03_node_j5_p, ref03_node_j5_q, ref03_node_r6_p, ref03_node_r6_q, ref03_node_r4_p, ref03_node_r4_q, ref03_node_j2_p, ref03_node_j2_q, ref03_Two, ref03_Two_q, ref03_Two_r1_p, ref03_Two_r1_q, ref03_Window, ref03_Window_q, ref03_Window_r1_p, ref03_Window_r1_q, within_in, in_iff, in_not]
    by_cases hK : 1 ≤ K ∧ K ≤ 3
    · try rw [i64_in (K - 1) (by omega)]
      constructor <;> intro h <;> omega
    · constructor <;> intro h <;> omega
  · have hl : l.length = 1 := by
      simp [ref03_node, ref03_node_q, ref03_node_r17_p, ref03_node_r17_q, ref03_node_r16_p, ref03_node_r16_q, ref03_node_r15_p, ref03_node_r15_q, ref03_node_j13_p, ref03_node_j13_q, ref03_node_r13_p, ref03_node_r13_q, ref03_node_j10_p, ref03_node_j10_q, ref03_node_j8_p, ref03_node_j8_q, ref03_node_r9_p, ref03_node_r9_q, ref03_node_r8_p, ref03_node_r8_q, ref03_node_j5_p, ref03_node_j5_q, ref03_node_r6_p, ref03_node_r6_q, ref03_node_r4_p, ref03_node_r4_q, ref03_node_j2_p, ref03_node_j2_q, ref03_Two, ref03_Two_q, ref03_Two_r1_p, ref03_Two_r1_q, ref03_Window, ref03_Window_q, ref03_Window_r1_p, ref03_Window_r1_q, in_iff] at hn
      omega
    obtain ⟨a, rfl⟩ := List.length_eq_one_iff.1 hl
    refine ⟨?_, ?_, ?_, ?_⟩
    · simp [graph_Value_r8_p, graph_first, graph_first_q, graph_of_1, graph_pooled, graph_slid, graph_slid_r1_p, graph_of_4, graph_of_4_q, graph_same, graph_same_q, graph_of_6, graph_of_6_q, graph_beside, graph_beside_q, graph_beside_r1_p, graph_beside_r1_q, graph_anew, graph_anew_r1_p, shape_Out_eq, shape_Size_eq, ref03_made, ref03_made_r1_p, ref03_made_j2_p, ref03_made_j3_p, ref03_made_j3_q, ref03_made_r10_p, ref03_made_j8_p, ref03_made_j8_q, ref03_made_j13_p, ref03_made_j13_q, ref03_made_r15_p, ref03_made_r20_p, ref03_made_r22_p, ref03_made_r24_p, ref03_made_r24_q, ref02_Out_eq, ref02_Size_eq, either, gt, dI4, i64_in]
    · simp [graph_Value_r11_p, graph_bare, graph_bare_q, graph_of_2, graph_of_2_q, graph_of_2_r1_p, graph_of_2_r1_q, graph_of_3, graph_of_3_q, graph_of_5, graph_of_7, graph_of_7_q, ref03_Value_r16_p, ref03_many, ref03_many_q, ref03_many_r3_p, ref03_many_r3_q, shape_Size_eq, ref02_Size_eq, either, gt, dI4]
    · simp [ref03_made, ref03_made_r1_p, ref03_made_j2_p, ref03_made_j3_p, ref03_made_j3_q, ref03_made_r10_p, ref03_made_j8_p, ref03_made_j8_q, ref03_made_j13_p, ref03_made_j13_q, ref03_made_r15_p, ref03_made_r20_p, ref03_made_r22_p, ref03_made_r24_p, ref03_made_r24_q, ref02_Out_eq, ref02_Size_eq, either, gt, dI4]
    · simp [graph_Value_r11_p, graph_bare, graph_bare_q, graph_of_2, graph_of_2_q, graph_of_2_r1_p, graph_of_2_r1_q, graph_of_3, graph_of_3_q, graph_of_5, graph_of_7, graph_of_7_q, ref03_Value_r16_p, ref03_many, ref03_many_q, ref03_many_r3_p, ref03_many_r3_q, shape_Size_eq, ref02_Size_eq, either, gt, dI4]
theorem op2 (n : Node) (l : List I4) (ho : n.1 = 2) : ∃ Y, graph_of n.1 = some Y ∧ graph_Value_r2_p n l Y = !(ref03_node n (l.length : Int)) ∧ Y.1.2.2.2.2.2.1 = ref03_keeps n.1 ∧ (ref03_node n (l.length : Int) = true → graph_Value_r8_p n l Y = ref03_made n l ∧ graph_Value_r11_p n l Y = ref03_Value_r16_p n l ∧ (ref03_made n l).isSome = true ∧ (ref03_Value_r16_p n l).isSome = true) := by
  obtain ⟨op, i, K, S, P, O, M, Sh, Z, t1, t2, t3, W, B⟩ := n
  replace ho : op = 2 := ho
  subst ho
  refine ⟨_, rfl, ?_, rfl, fun hn => ?_⟩
  · rw [Bool.eq_iff_iff]
    simp [graph_Value_r2_p, graph_Value_r2_q, graph_kind_may, graph_kind_may_q, graph_kind_may_r12_p, graph_kind_may_r12_q, graph_kind_may_r13_p, graph_kind_may_r13_q, graph_kind_may_j7_p, graph_kind_may_j7_q, graph_kind_may_r8_p, graph_kind_may_r8_q, graph_kind_may_r10_p, graph_kind_may_r10_q, graph_kind_may_r6_p, graph_kind_may_r6_q, graph_kind_may_j3_p, graph_kind_may_j3_q, graph_kind_may_r4_p, graph_kind_may_r4_q, graph_kind_may_r5_p, graph_kind_may_r5_q, graph_kind_may_r2_p, graph_kind_may_r2_q, graph_kind_may_r1_p, graph_kind_may_r1_q, ref03_node, ref03_node_q, ref03_node_r17_p, ref03_node_r17_q, ref03_node_r16_p, ref03_node_r16_q, ref03_node_r15_p, ref03_node_r15_q, ref03_node_j13_p, ref03_node_j13_q, ref03_node_r13_p, ref03_node_r13_q, ref03_node_j10_p, ref03_node_j10_q, ref03_node_j8_p, ref03_node_j8_q, ref03_node_r9_p, ref03_node_r9_q, ref03_node_r8_p, ref03_node_r8_q, ref03_node_j5_p, ref03_node_j5_q, ref03_node_r6_p, ref03_node_r6_q, ref03_node_r4_p, ref03_node_r4_q, ref03_node_j2_p, ref03_node_j2_q, ref03_Two, ref03_Two_q, ref03_Two_r1_p, ref03_Two_r1_q, ref03_Window, ref03_Window_q, ref03_Window_r1_p, ref03_Window_r1_q, within_in, in_iff, in_not]
    by_cases hK : 1 ≤ K ∧ K ≤ 3
    · try rw [i64_in (K - 1) (by omega)]
      constructor <;> intro h <;> omega
    · constructor <;> intro h <;> omega
  · have hl : l.length = 1 := by
      simp [ref03_node, ref03_node_q, ref03_node_r17_p, ref03_node_r17_q, ref03_node_r16_p, ref03_node_r16_q, ref03_node_r15_p, ref03_node_r15_q, ref03_node_j13_p, ref03_node_j13_q, ref03_node_r13_p, ref03_node_r13_q, ref03_node_j10_p, ref03_node_j10_q, ref03_node_j8_p, ref03_node_j8_q, ref03_node_r9_p, ref03_node_r9_q, ref03_node_r8_p, ref03_node_r8_q, ref03_node_j5_p, ref03_node_j5_q, ref03_node_r6_p, ref03_node_r6_q, ref03_node_r4_p, ref03_node_r4_q, ref03_node_j2_p, ref03_node_j2_q, ref03_Two, ref03_Two_q, ref03_Two_r1_p, ref03_Two_r1_q, ref03_Window, ref03_Window_q, ref03_Window_r1_p, ref03_Window_r1_q, in_iff] at hn
      omega
    obtain ⟨a, rfl⟩ := List.length_eq_one_iff.1 hl
    refine ⟨?_, ?_, ?_, ?_⟩
    · simp [graph_Value_r8_p, graph_first, graph_first_q, graph_of_1, graph_pooled, graph_slid, graph_slid_r1_p, graph_of_4, graph_of_4_q, graph_same, graph_same_q, graph_of_6, graph_of_6_q, graph_beside, graph_beside_q, graph_beside_r1_p, graph_beside_r1_q, graph_anew, graph_anew_r1_p, shape_Out_eq, shape_Size_eq, ref03_made, ref03_made_r1_p, ref03_made_j2_p, ref03_made_j3_p, ref03_made_j3_q, ref03_made_r10_p, ref03_made_j8_p, ref03_made_j8_q, ref03_made_j13_p, ref03_made_j13_q, ref03_made_r15_p, ref03_made_r20_p, ref03_made_r22_p, ref03_made_r24_p, ref03_made_r24_q, ref02_Out_eq, ref02_Size_eq, either, gt, dI4, i64_in]
    · simp [graph_Value_r11_p, graph_bare, graph_bare_q, graph_of_2, graph_of_2_q, graph_of_2_r1_p, graph_of_2_r1_q, graph_of_3, graph_of_3_q, graph_of_5, graph_of_7, graph_of_7_q, ref03_Value_r16_p, ref03_many, ref03_many_q, ref03_many_r3_p, ref03_many_r3_q, shape_Size_eq, ref02_Size_eq, either, gt, dI4]
    · simp [ref03_made, ref03_made_r1_p, ref03_made_j2_p, ref03_made_j3_p, ref03_made_j3_q, ref03_made_r10_p, ref03_made_j8_p, ref03_made_j8_q, ref03_made_j13_p, ref03_made_j13_q, ref03_made_r15_p, ref03_made_r20_p, ref03_made_r22_p, ref03_made_r24_p, ref03_made_r24_q, ref02_Out_eq, ref02_Size_eq, either, gt, dI4]
    · simp [graph_Value_r11_p, graph_bare, graph_bare_q, graph_of_2, graph_of_2_q, graph_of_2_r1_p, graph_of_2_r1_q, graph_of_3, graph_of_3_q, graph_of_5, graph_of_7, graph_of_7_q, ref03_Value_r16_p, ref03_many, ref03_many_q, ref03_many_r3_p, ref03_many_r3_q, shape_Size_eq, ref02_Size_eq, either, gt, dI4]
theorem op3 (n : Node) (l : List I4) (ho : n.1 = 3) : ∃ Y, graph_of n.1 = some Y ∧ graph_Value_r2_p n l Y = !(ref03_node n (l.length : Int)) ∧ Y.1.2.2.2.2.2.1 = ref03_keeps n.1 ∧ (ref03_node n (l.length : Int) = true → graph_Value_r8_p n l Y = ref03_made n l ∧ graph_Value_r11_p n l Y = ref03_Value_r16_p n l ∧ (ref03_made n l).isSome = true ∧ (ref03_Value_r16_p n l).isSome = true) := by
  obtain ⟨op, i, K, S, P, O, M, Sh, Z, t1, t2, t3, W, B⟩ := n
  replace ho : op = 3 := ho
  subst ho
  refine ⟨_, rfl, ?_, rfl, fun hn => ?_⟩
  · rw [Bool.eq_iff_iff]
    simp [graph_Value_r2_p, graph_Value_r2_q, graph_kind_may, graph_kind_may_q, graph_kind_may_r12_p, graph_kind_may_r12_q, graph_kind_may_r13_p, graph_kind_may_r13_q, graph_kind_may_j7_p, graph_kind_may_j7_q, graph_kind_may_r8_p, graph_kind_may_r8_q, graph_kind_may_r10_p, graph_kind_may_r10_q, graph_kind_may_r6_p, graph_kind_may_r6_q, graph_kind_may_j3_p, graph_kind_may_j3_q, graph_kind_may_r4_p, graph_kind_may_r4_q, graph_kind_may_r5_p, graph_kind_may_r5_q, graph_kind_may_r2_p, graph_kind_may_r2_q, graph_kind_may_r1_p, graph_kind_may_r1_q, ref03_node, ref03_node_q, ref03_node_r17_p, ref03_node_r17_q, ref03_node_r16_p, ref03_node_r16_q, ref03_node_r15_p, ref03_node_r15_q, ref03_node_j13_p, ref03_node_j13_q, ref03_node_r13_p, ref03_node_r13_q, ref03_node_j10_p, ref03_node_j10_q, ref03_node_j8_p, ref03_node_j8_q, ref03_node_r9_p, ref03_node_r9_q, ref03_node_r8_p, ref03_node_r8_q, ref03_node_j5_p, ref03_node_j5_q, ref03_node_r6_p, ref03_node_r6_q, ref03_node_r4_p, ref03_node_r4_q, ref03_node_j2_p, ref03_node_j2_q, ref03_Two, ref03_Two_q, ref03_Two_r1_p, ref03_Two_r1_q, ref03_Window, ref03_Window_q, ref03_Window_r1_p, ref03_Window_r1_q, within_in, in_iff, in_not]
    by_cases hK : 1 ≤ K ∧ K ≤ 3
    · try rw [i64_in (K - 1) (by omega)]
      constructor <;> intro h <;> omega
    · constructor <;> intro h <;> omega
  · have hl : l.length = 1 := by
      simp [ref03_node, ref03_node_q, ref03_node_r17_p, ref03_node_r17_q, ref03_node_r16_p, ref03_node_r16_q, ref03_node_r15_p, ref03_node_r15_q, ref03_node_j13_p, ref03_node_j13_q, ref03_node_r13_p, ref03_node_r13_q, ref03_node_j10_p, ref03_node_j10_q, ref03_node_j8_p, ref03_node_j8_q, ref03_node_r9_p, ref03_node_r9_q, ref03_node_r8_p, ref03_node_r8_q, ref03_node_j5_p, ref03_node_j5_q, ref03_node_r6_p, ref03_node_r6_q, ref03_node_r4_p, ref03_node_r4_q, ref03_node_j2_p, ref03_node_j2_q, ref03_Two, ref03_Two_q, ref03_Two_r1_p, ref03_Two_r1_q, ref03_Window, ref03_Window_q, ref03_Window_r1_p, ref03_Window_r1_q, in_iff] at hn
      omega
    obtain ⟨a, rfl⟩ := List.length_eq_one_iff.1 hl
    refine ⟨?_, ?_, ?_, ?_⟩
    · simp [graph_Value_r8_p, graph_first, graph_first_q, graph_of_1, graph_pooled, graph_slid, graph_slid_r1_p, graph_of_4, graph_of_4_q, graph_same, graph_same_q, graph_of_6, graph_of_6_q, graph_beside, graph_beside_q, graph_beside_r1_p, graph_beside_r1_q, graph_anew, graph_anew_r1_p, shape_Out_eq, shape_Size_eq, ref03_made, ref03_made_r1_p, ref03_made_j2_p, ref03_made_j3_p, ref03_made_j3_q, ref03_made_r10_p, ref03_made_j8_p, ref03_made_j8_q, ref03_made_j13_p, ref03_made_j13_q, ref03_made_r15_p, ref03_made_r20_p, ref03_made_r22_p, ref03_made_r24_p, ref03_made_r24_q, ref02_Out_eq, ref02_Size_eq, either, gt, dI4, i64_in]
    · simp [graph_Value_r11_p, graph_bare, graph_bare_q, graph_of_2, graph_of_2_q, graph_of_2_r1_p, graph_of_2_r1_q, graph_of_3, graph_of_3_q, graph_of_5, graph_of_7, graph_of_7_q, ref03_Value_r16_p, ref03_many, ref03_many_q, ref03_many_r3_p, ref03_many_r3_q, shape_Size_eq, ref02_Size_eq, either, gt, dI4]
    · simp [ref03_made, ref03_made_r1_p, ref03_made_j2_p, ref03_made_j3_p, ref03_made_j3_q, ref03_made_r10_p, ref03_made_j8_p, ref03_made_j8_q, ref03_made_j13_p, ref03_made_j13_q, ref03_made_r15_p, ref03_made_r20_p, ref03_made_r22_p, ref03_made_r24_p, ref03_made_r24_q, ref02_Out_eq, ref02_Size_eq, either, gt, dI4]
    · simp [graph_Value_r11_p, graph_bare, graph_bare_q, graph_of_2, graph_of_2_q, graph_of_2_r1_p, graph_of_2_r1_q, graph_of_3, graph_of_3_q, graph_of_5, graph_of_7, graph_of_7_q, ref03_Value_r16_p, ref03_many, ref03_many_q, ref03_many_r3_p, ref03_many_r3_q, shape_Size_eq, ref02_Size_eq, either, gt, dI4]
theorem op4 (n : Node) (l : List I4) (ho : n.1 = 4) : ∃ Y, graph_of n.1 = some Y ∧ graph_Value_r2_p n l Y = !(ref03_node n (l.length : Int)) ∧ Y.1.2.2.2.2.2.1 = ref03_keeps n.1 ∧ (ref03_node n (l.length : Int) = true → graph_Value_r8_p n l Y = ref03_made n l ∧ graph_Value_r11_p n l Y = ref03_Value_r16_p n l ∧ (ref03_made n l).isSome = true ∧ (ref03_Value_r16_p n l).isSome = true) := by
  obtain ⟨op, i, K, S, P, O, M, Sh, Z, t1, t2, t3, W, B⟩ := n
  replace ho : op = 4 := ho
  subst ho
  refine ⟨_, rfl, ?_, rfl, fun hn => ?_⟩
  · rw [Bool.eq_iff_iff]
    simp [graph_Value_r2_p, graph_Value_r2_q, graph_kind_may, graph_kind_may_q, graph_kind_may_r12_p, graph_kind_may_r12_q, graph_kind_may_r13_p, graph_kind_may_r13_q, graph_kind_may_j7_p, graph_kind_may_j7_q, graph_kind_may_r8_p, graph_kind_may_r8_q, graph_kind_may_r10_p, graph_kind_may_r10_q, graph_kind_may_r6_p, graph_kind_may_r6_q, graph_kind_may_j3_p, graph_kind_may_j3_q, graph_kind_may_r4_p, graph_kind_may_r4_q, graph_kind_may_r5_p, graph_kind_may_r5_q, graph_kind_may_r2_p, graph_kind_may_r2_q, graph_kind_may_r1_p, graph_kind_may_r1_q, ref03_node, ref03_node_q, ref03_node_r17_p, ref03_node_r17_q, ref03_node_r16_p, ref03_node_r16_q, ref03_node_r15_p, ref03_node_r15_q, ref03_node_j13_p, ref03_node_j13_q, ref03_node_r13_p, ref03_node_r13_q, ref03_node_j10_p, ref03_node_j10_q, ref03_node_j8_p, ref03_node_j8_q, ref03_node_r9_p, ref03_node_r9_q, ref03_node_r8_p, ref03_node_r8_q, ref03_node_j5_p, ref03_node_j5_q, ref03_node_r6_p, ref03_node_r6_q, ref03_node_r4_p, ref03_node_r4_q, ref03_node_j2_p, ref03_node_j2_q, ref03_Two, ref03_Two_q, ref03_Two_r1_p, ref03_Two_r1_q, ref03_Window, ref03_Window_q, ref03_Window_r1_p, ref03_Window_r1_q, within_in, in_iff, in_not]
    by_cases hK : 1 ≤ K ∧ K ≤ 3
    · try rw [i64_in (K - 1) (by omega)]
      constructor <;> intro h <;> omega
    · constructor <;> intro h <;> omega
  · have hl : l.length = 1 := by
      simp [ref03_node, ref03_node_q, ref03_node_r17_p, ref03_node_r17_q, ref03_node_r16_p, ref03_node_r16_q, ref03_node_r15_p, ref03_node_r15_q, ref03_node_j13_p, ref03_node_j13_q, ref03_node_r13_p, ref03_node_r13_q, ref03_node_j10_p, ref03_node_j10_q, ref03_node_j8_p, ref03_node_j8_q, ref03_node_r9_p, ref03_node_r9_q, ref03_node_r8_p, ref03_node_r8_q, ref03_node_j5_p, ref03_node_j5_q, ref03_node_r6_p, ref03_node_r6_q, ref03_node_r4_p, ref03_node_r4_q, ref03_node_j2_p, ref03_node_j2_q, ref03_Two, ref03_Two_q, ref03_Two_r1_p, ref03_Two_r1_q, ref03_Window, ref03_Window_q, ref03_Window_r1_p, ref03_Window_r1_q, in_iff] at hn
      omega
    obtain ⟨a, rfl⟩ := List.length_eq_one_iff.1 hl
    refine ⟨?_, ?_, ?_, ?_⟩
    · simp [graph_Value_r8_p, graph_first, graph_first_q, graph_of_1, graph_pooled, graph_slid, graph_slid_r1_p, graph_of_4, graph_of_4_q, graph_same, graph_same_q, graph_of_6, graph_of_6_q, graph_beside, graph_beside_q, graph_beside_r1_p, graph_beside_r1_q, graph_anew, graph_anew_r1_p, shape_Out_eq, shape_Size_eq, ref03_made, ref03_made_r1_p, ref03_made_j2_p, ref03_made_j3_p, ref03_made_j3_q, ref03_made_r10_p, ref03_made_j8_p, ref03_made_j8_q, ref03_made_j13_p, ref03_made_j13_q, ref03_made_r15_p, ref03_made_r20_p, ref03_made_r22_p, ref03_made_r24_p, ref03_made_r24_q, ref02_Out_eq, ref02_Size_eq, either, gt, dI4, i64_in]
    · simp [graph_Value_r11_p, graph_bare, graph_bare_q, graph_of_2, graph_of_2_q, graph_of_2_r1_p, graph_of_2_r1_q, graph_of_3, graph_of_3_q, graph_of_5, graph_of_7, graph_of_7_q, ref03_Value_r16_p, ref03_many, ref03_many_q, ref03_many_r3_p, ref03_many_r3_q, shape_Size_eq, ref02_Size_eq, either, gt, dI4]
    · simp [ref03_made, ref03_made_r1_p, ref03_made_j2_p, ref03_made_j3_p, ref03_made_j3_q, ref03_made_r10_p, ref03_made_j8_p, ref03_made_j8_q, ref03_made_j13_p, ref03_made_j13_q, ref03_made_r15_p, ref03_made_r20_p, ref03_made_r22_p, ref03_made_r24_p, ref03_made_r24_q, ref02_Out_eq, ref02_Size_eq, either, gt, dI4]
    · simp [graph_Value_r11_p, graph_bare, graph_bare_q, graph_of_2, graph_of_2_q, graph_of_2_r1_p, graph_of_2_r1_q, graph_of_3, graph_of_3_q, graph_of_5, graph_of_7, graph_of_7_q, ref03_Value_r16_p, ref03_many, ref03_many_q, ref03_many_r3_p, ref03_many_r3_q, shape_Size_eq, ref02_Size_eq, either, gt, dI4]
theorem op5 (n : Node) (l : List I4) (ho : n.1 = 5) : ∃ Y, graph_of n.1 = some Y ∧ graph_Value_r2_p n l Y = !(ref03_node n (l.length : Int)) ∧ Y.1.2.2.2.2.2.1 = ref03_keeps n.1 ∧ (ref03_node n (l.length : Int) = true → graph_Value_r8_p n l Y = ref03_made n l ∧ graph_Value_r11_p n l Y = ref03_Value_r16_p n l ∧ (ref03_made n l).isSome = true ∧ (ref03_Value_r16_p n l).isSome = true) := by
  obtain ⟨op, i, K, S, P, O, M, Sh, Z, t1, t2, t3, W, B⟩ := n
  replace ho : op = 5 := ho
  subst ho
  refine ⟨_, rfl, ?_, rfl, fun hn => ?_⟩
  · rw [Bool.eq_iff_iff]
    simp [graph_Value_r2_p, graph_Value_r2_q, graph_kind_may, graph_kind_may_q, graph_kind_may_r12_p, graph_kind_may_r12_q, graph_kind_may_r13_p, graph_kind_may_r13_q, graph_kind_may_j7_p, graph_kind_may_j7_q, graph_kind_may_r8_p, graph_kind_may_r8_q, graph_kind_may_r10_p, graph_kind_may_r10_q, graph_kind_may_r6_p, graph_kind_may_r6_q, graph_kind_may_j3_p, graph_kind_may_j3_q, graph_kind_may_r4_p, graph_kind_may_r4_q, graph_kind_may_r5_p, graph_kind_may_r5_q, graph_kind_may_r2_p, graph_kind_may_r2_q, graph_kind_may_r1_p, graph_kind_may_r1_q, ref03_node, ref03_node_q, ref03_node_r17_p, ref03_node_r17_q, ref03_node_r16_p, ref03_node_r16_q, ref03_node_r15_p, ref03_node_r15_q, ref03_node_j13_p, ref03_node_j13_q, ref03_node_r13_p, ref03_node_r13_q, ref03_node_j10_p, ref03_node_j10_q, ref03_node_j8_p, ref03_node_j8_q, ref03_node_r9_p, ref03_node_r9_q, ref03_node_r8_p, ref03_node_r8_q, ref03_node_j5_p, ref03_node_j5_q, ref03_node_r6_p, ref03_node_r6_q, ref03_node_r4_p, ref03_node_r4_q, ref03_node_j2_p, ref03_node_j2_q, ref03_Two, ref03_Two_q, ref03_Two_r1_p, ref03_Two_r1_q, ref03_Window, ref03_Window_q, ref03_Window_r1_p, ref03_Window_r1_q, within_in, in_iff, in_not]
    by_cases hK : 1 ≤ K ∧ K ≤ 3
    · try rw [i64_in (K - 1) (by omega)]
      constructor <;> intro h <;> omega
    · constructor <;> intro h <;> omega
  · have hl : l.length = 1 := by
      simp [ref03_node, ref03_node_q, ref03_node_r17_p, ref03_node_r17_q, ref03_node_r16_p, ref03_node_r16_q, ref03_node_r15_p, ref03_node_r15_q, ref03_node_j13_p, ref03_node_j13_q, ref03_node_r13_p, ref03_node_r13_q, ref03_node_j10_p, ref03_node_j10_q, ref03_node_j8_p, ref03_node_j8_q, ref03_node_r9_p, ref03_node_r9_q, ref03_node_r8_p, ref03_node_r8_q, ref03_node_j5_p, ref03_node_j5_q, ref03_node_r6_p, ref03_node_r6_q, ref03_node_r4_p, ref03_node_r4_q, ref03_node_j2_p, ref03_node_j2_q, ref03_Two, ref03_Two_q, ref03_Two_r1_p, ref03_Two_r1_q, ref03_Window, ref03_Window_q, ref03_Window_r1_p, ref03_Window_r1_q, in_iff] at hn
      omega
    obtain ⟨a, rfl⟩ := List.length_eq_one_iff.1 hl
    refine ⟨?_, ?_, ?_, ?_⟩
    · simp [graph_Value_r8_p, graph_first, graph_first_q, graph_of_1, graph_pooled, graph_slid, graph_slid_r1_p, graph_of_4, graph_of_4_q, graph_same, graph_same_q, graph_of_6, graph_of_6_q, graph_beside, graph_beside_q, graph_beside_r1_p, graph_beside_r1_q, graph_anew, graph_anew_r1_p, shape_Out_eq, shape_Size_eq, ref03_made, ref03_made_r1_p, ref03_made_j2_p, ref03_made_j3_p, ref03_made_j3_q, ref03_made_r10_p, ref03_made_j8_p, ref03_made_j8_q, ref03_made_j13_p, ref03_made_j13_q, ref03_made_r15_p, ref03_made_r20_p, ref03_made_r22_p, ref03_made_r24_p, ref03_made_r24_q, ref02_Out_eq, ref02_Size_eq, either, gt, dI4, i64_in]
    · simp [graph_Value_r11_p, graph_bare, graph_bare_q, graph_of_2, graph_of_2_q, graph_of_2_r1_p, graph_of_2_r1_q, graph_of_3, graph_of_3_q, graph_of_5, graph_of_7, graph_of_7_q, ref03_Value_r16_p, ref03_many, ref03_many_q, ref03_many_r3_p, ref03_many_r3_q, shape_Size_eq, ref02_Size_eq, either, gt, dI4]
    · simp [ref03_made, ref03_made_r1_p, ref03_made_j2_p, ref03_made_j3_p, ref03_made_j3_q, ref03_made_r10_p, ref03_made_j8_p, ref03_made_j8_q, ref03_made_j13_p, ref03_made_j13_q, ref03_made_r15_p, ref03_made_r20_p, ref03_made_r22_p, ref03_made_r24_p, ref03_made_r24_q, ref02_Out_eq, ref02_Size_eq, either, gt, dI4]
    · simp [graph_Value_r11_p, graph_bare, graph_bare_q, graph_of_2, graph_of_2_q, graph_of_2_r1_p, graph_of_2_r1_q, graph_of_3, graph_of_3_q, graph_of_5, graph_of_7, graph_of_7_q, ref03_Value_r16_p, ref03_many, ref03_many_q, ref03_many_r3_p, ref03_many_r3_q, shape_Size_eq, ref02_Size_eq, either, gt, dI4]
theorem op6 (n : Node) (l : List I4) (ho : n.1 = 6) : ∃ Y, graph_of n.1 = some Y ∧ graph_Value_r2_p n l Y = !(ref03_node n (l.length : Int)) ∧ Y.1.2.2.2.2.2.1 = ref03_keeps n.1 ∧ (ref03_node n (l.length : Int) = true → graph_Value_r8_p n l Y = ref03_made n l ∧ graph_Value_r11_p n l Y = ref03_Value_r16_p n l ∧ (ref03_made n l).isSome = true ∧ (ref03_Value_r16_p n l).isSome = true) := by
  obtain ⟨op, i, K, S, P, O, M, Sh, Z, t1, t2, t3, W, B⟩ := n
  replace ho : op = 6 := ho
  subst ho
  refine ⟨_, rfl, ?_, rfl, fun hn => ?_⟩
  · rw [Bool.eq_iff_iff]
    simp [graph_Value_r2_p, graph_Value_r2_q, graph_kind_may, graph_kind_may_q, graph_kind_may_r12_p, graph_kind_may_r12_q, graph_kind_may_r13_p, graph_kind_may_r13_q, graph_kind_may_j7_p, graph_kind_may_j7_q, graph_kind_may_r8_p, graph_kind_may_r8_q, graph_kind_may_r10_p, graph_kind_may_r10_q, graph_kind_may_r6_p, graph_kind_may_r6_q, graph_kind_may_j3_p, graph_kind_may_j3_q, graph_kind_may_r4_p, graph_kind_may_r4_q, graph_kind_may_r5_p, graph_kind_may_r5_q, graph_kind_may_r2_p, graph_kind_may_r2_q, graph_kind_may_r1_p, graph_kind_may_r1_q, ref03_node, ref03_node_q, ref03_node_r17_p, ref03_node_r17_q, ref03_node_r16_p, ref03_node_r16_q, ref03_node_r15_p, ref03_node_r15_q, ref03_node_j13_p, ref03_node_j13_q, ref03_node_r13_p, ref03_node_r13_q, ref03_node_j10_p, ref03_node_j10_q, ref03_node_j8_p, ref03_node_j8_q, ref03_node_r9_p, ref03_node_r9_q, ref03_node_r8_p, ref03_node_r8_q, ref03_node_j5_p, ref03_node_j5_q, ref03_node_r6_p, ref03_node_r6_q, ref03_node_r4_p, ref03_node_r4_q, ref03_node_j2_p, ref03_node_j2_q, ref03_Two, ref03_Two_q, ref03_Two_r1_p, ref03_Two_r1_q, ref03_Window, ref03_Window_q, ref03_Window_r1_p, ref03_Window_r1_q, within_in, in_iff, in_not]
    by_cases hK : 1 ≤ K ∧ K ≤ 3
    · try rw [i64_in (K - 1) (by omega)]
      constructor <;> intro h <;> omega
    · constructor <;> intro h <;> omega
  · have hl : l.length = 2 := by
      simp [ref03_node, ref03_node_q, ref03_node_r17_p, ref03_node_r17_q, ref03_node_r16_p, ref03_node_r16_q, ref03_node_r15_p, ref03_node_r15_q, ref03_node_j13_p, ref03_node_j13_q, ref03_node_r13_p, ref03_node_r13_q, ref03_node_j10_p, ref03_node_j10_q, ref03_node_j8_p, ref03_node_j8_q, ref03_node_r9_p, ref03_node_r9_q, ref03_node_r8_p, ref03_node_r8_q, ref03_node_j5_p, ref03_node_j5_q, ref03_node_r6_p, ref03_node_r6_q, ref03_node_r4_p, ref03_node_r4_q, ref03_node_j2_p, ref03_node_j2_q, ref03_Two, ref03_Two_q, ref03_Two_r1_p, ref03_Two_r1_q, ref03_Window, ref03_Window_q, ref03_Window_r1_p, ref03_Window_r1_q, in_iff] at hn
      omega
    obtain ⟨a, b, rfl⟩ := len2 hl
    refine ⟨?_, ?_, ?_, ?_⟩
    · simp [graph_Value_r8_p, graph_first, graph_first_q, graph_of_1, graph_pooled, graph_slid, graph_slid_r1_p, graph_of_4, graph_of_4_q, graph_same, graph_same_q, graph_of_6, graph_of_6_q, graph_beside, graph_beside_q, graph_beside_r1_p, graph_beside_r1_q, graph_anew, graph_anew_r1_p, shape_Out_eq, shape_Size_eq, ref03_made, ref03_made_r1_p, ref03_made_j2_p, ref03_made_j3_p, ref03_made_j3_q, ref03_made_r10_p, ref03_made_j8_p, ref03_made_j8_q, ref03_made_j13_p, ref03_made_j13_q, ref03_made_r15_p, ref03_made_r20_p, ref03_made_r22_p, ref03_made_r24_p, ref03_made_r24_q, ref02_Out_eq, ref02_Size_eq, either, gt, dI4, i64_in]
      rw [beq_sw b.1, beq_sw b.2.1, beq_sw b.2.2.1]
      cases (a.1 == b.1) <;> cases (a.2.1 == b.2.1) <;> cases (a.2.2.1 == b.2.2.1) <;> rfl
    · simp [graph_Value_r11_p, graph_bare, graph_bare_q, graph_of_2, graph_of_2_q, graph_of_2_r1_p, graph_of_2_r1_q, graph_of_3, graph_of_3_q, graph_of_5, graph_of_7, graph_of_7_q, ref03_Value_r16_p, ref03_many, ref03_many_q, ref03_many_r3_p, ref03_many_r3_q, shape_Size_eq, ref02_Size_eq, either, gt, dI4]
    · simp [ref03_made, ref03_made_r1_p, ref03_made_j2_p, ref03_made_j3_p, ref03_made_j3_q, ref03_made_r10_p, ref03_made_j8_p, ref03_made_j8_q, ref03_made_j13_p, ref03_made_j13_q, ref03_made_r15_p, ref03_made_r20_p, ref03_made_r22_p, ref03_made_r24_p, ref03_made_r24_q, ref02_Out_eq, ref02_Size_eq, either, gt, dI4]
      cases (b.1 == a.1) <;> cases (b.2.1 == a.2.1) <;> cases (b.2.2.1 == a.2.2.1) <;> rfl
    · simp [graph_Value_r11_p, graph_bare, graph_bare_q, graph_of_2, graph_of_2_q, graph_of_2_r1_p, graph_of_2_r1_q, graph_of_3, graph_of_3_q, graph_of_5, graph_of_7, graph_of_7_q, ref03_Value_r16_p, ref03_many, ref03_many_q, ref03_many_r3_p, ref03_many_r3_q, shape_Size_eq, ref02_Size_eq, either, gt, dI4]
theorem op7 (n : Node) (l : List I4) (ho : n.1 = 7) : ∃ Y, graph_of n.1 = some Y ∧ graph_Value_r2_p n l Y = !(ref03_node n (l.length : Int)) ∧ Y.1.2.2.2.2.2.1 = ref03_keeps n.1 ∧ (ref03_node n (l.length : Int) = true → graph_Value_r8_p n l Y = ref03_made n l ∧ graph_Value_r11_p n l Y = ref03_Value_r16_p n l ∧ (ref03_made n l).isSome = true ∧ (ref03_Value_r16_p n l).isSome = true) := by
  obtain ⟨op, i, K, S, P, O, M, Sh, Z, t1, t2, t3, W, B⟩ := n
  replace ho : op = 7 := ho
  subst ho
  refine ⟨_, rfl, ?_, rfl, fun hn => ?_⟩
  · rw [Bool.eq_iff_iff]
    simp [graph_Value_r2_p, graph_Value_r2_q, graph_kind_may, graph_kind_may_q, graph_kind_may_r12_p, graph_kind_may_r12_q, graph_kind_may_r13_p, graph_kind_may_r13_q, graph_kind_may_j7_p, graph_kind_may_j7_q, graph_kind_may_r8_p, graph_kind_may_r8_q, graph_kind_may_r10_p, graph_kind_may_r10_q, graph_kind_may_r6_p, graph_kind_may_r6_q, graph_kind_may_j3_p, graph_kind_may_j3_q, graph_kind_may_r4_p, graph_kind_may_r4_q, graph_kind_may_r5_p, graph_kind_may_r5_q, graph_kind_may_r2_p, graph_kind_may_r2_q, graph_kind_may_r1_p, graph_kind_may_r1_q, ref03_node, ref03_node_q, ref03_node_r17_p, ref03_node_r17_q, ref03_node_r16_p, ref03_node_r16_q, ref03_node_r15_p, ref03_node_r15_q, ref03_node_j13_p, ref03_node_j13_q, ref03_node_r13_p, ref03_node_r13_q, ref03_node_j10_p, ref03_node_j10_q, ref03_node_j8_p, ref03_node_j8_q, ref03_node_r9_p, ref03_node_r9_q, ref03_node_r8_p, ref03_node_r8_q, ref03_node_j5_p, ref03_node_j5_q, ref03_node_r6_p, ref03_node_r6_q, ref03_node_r4_p, ref03_node_r4_q, ref03_node_j2_p, ref03_node_j2_q, ref03_Two, ref03_Two_q, ref03_Two_r1_p, ref03_Two_r1_q, ref03_Window, ref03_Window_q, ref03_Window_r1_p, ref03_Window_r1_q, within_in, in_iff, in_not]
    by_cases hK : 1 ≤ K ∧ K ≤ 3
    · try rw [i64_in (K - 1) (by omega)]
      constructor <;> intro h <;> omega
    · constructor <;> intro h <;> omega
  · have hl : l.length = 2 := by
      simp [ref03_node, ref03_node_q, ref03_node_r17_p, ref03_node_r17_q, ref03_node_r16_p, ref03_node_r16_q, ref03_node_r15_p, ref03_node_r15_q, ref03_node_j13_p, ref03_node_j13_q, ref03_node_r13_p, ref03_node_r13_q, ref03_node_j10_p, ref03_node_j10_q, ref03_node_j8_p, ref03_node_j8_q, ref03_node_r9_p, ref03_node_r9_q, ref03_node_r8_p, ref03_node_r8_q, ref03_node_j5_p, ref03_node_j5_q, ref03_node_r6_p, ref03_node_r6_q, ref03_node_r4_p, ref03_node_r4_q, ref03_node_j2_p, ref03_node_j2_q, ref03_Two, ref03_Two_q, ref03_Two_r1_p, ref03_Two_r1_q, ref03_Window, ref03_Window_q, ref03_Window_r1_p, ref03_Window_r1_q, in_iff] at hn
      omega
    obtain ⟨a, b, rfl⟩ := len2 hl
    refine ⟨?_, ?_, ?_, ?_⟩
    · simp [graph_Value_r8_p, graph_first, graph_first_q, graph_of_1, graph_pooled, graph_slid, graph_slid_r1_p, graph_of_4, graph_of_4_q, graph_same, graph_same_q, graph_of_6, graph_of_6_q, graph_beside, graph_beside_q, graph_beside_r1_p, graph_beside_r1_q, graph_anew, graph_anew_r1_p, shape_Out_eq, shape_Size_eq, ref03_made, ref03_made_r1_p, ref03_made_j2_p, ref03_made_j3_p, ref03_made_j3_q, ref03_made_r10_p, ref03_made_j8_p, ref03_made_j8_q, ref03_made_j13_p, ref03_made_j13_q, ref03_made_r15_p, ref03_made_r20_p, ref03_made_r22_p, ref03_made_r24_p, ref03_made_r24_q, ref02_Out_eq, ref02_Size_eq, either, gt, dI4, i64_in]
      rw [beq_sw b.1, beq_sw b.2.1, beq_sw b.2.2.1]
      cases (a.1 == b.1) <;> cases (a.2.1 == b.2.1) <;> cases (a.2.2.1 == b.2.2.1) <;> rfl
    · simp [graph_Value_r11_p, graph_bare, graph_bare_q, graph_of_2, graph_of_2_q, graph_of_2_r1_p, graph_of_2_r1_q, graph_of_3, graph_of_3_q, graph_of_5, graph_of_7, graph_of_7_q, ref03_Value_r16_p, ref03_many, ref03_many_q, ref03_many_r3_p, ref03_many_r3_q, shape_Size_eq, ref02_Size_eq, either, gt, dI4]
    · simp [ref03_made, ref03_made_r1_p, ref03_made_j2_p, ref03_made_j3_p, ref03_made_j3_q, ref03_made_r10_p, ref03_made_j8_p, ref03_made_j8_q, ref03_made_j13_p, ref03_made_j13_q, ref03_made_r15_p, ref03_made_r20_p, ref03_made_r22_p, ref03_made_r24_p, ref03_made_r24_q, ref02_Out_eq, ref02_Size_eq, either, gt, dI4]
      cases (b.1 == a.1) <;> cases (b.2.1 == a.2.1) <;> cases (b.2.2.1 == a.2.2.1) <;> rfl
    · simp [graph_Value_r11_p, graph_bare, graph_bare_q, graph_of_2, graph_of_2_q, graph_of_2_r1_p, graph_of_2_r1_q, graph_of_3, graph_of_3_q, graph_of_5, graph_of_7, graph_of_7_q, ref03_Value_r16_p, ref03_many, ref03_many_q, ref03_many_r3_p, ref03_many_r3_q, shape_Size_eq, ref02_Size_eq, either, gt, dI4]
theorem op8 (n : Node) (l : List I4) (ho : n.1 = 8) : ∃ Y, graph_of n.1 = some Y ∧ graph_Value_r2_p n l Y = !(ref03_node n (l.length : Int)) ∧ Y.1.2.2.2.2.2.1 = ref03_keeps n.1 ∧ (ref03_node n (l.length : Int) = true → graph_Value_r8_p n l Y = ref03_made n l ∧ graph_Value_r11_p n l Y = ref03_Value_r16_p n l ∧ (ref03_made n l).isSome = true ∧ (ref03_Value_r16_p n l).isSome = true) := by
  obtain ⟨op, i, K, S, P, O, M, Sh, Z, t1, t2, t3, W, B⟩ := n
  replace ho : op = 8 := ho
  subst ho
  refine ⟨_, rfl, ?_, rfl, fun hn => ?_⟩
  · rw [Bool.eq_iff_iff]
    simp [graph_Value_r2_p, graph_Value_r2_q, graph_kind_may, graph_kind_may_q, graph_kind_may_r12_p, graph_kind_may_r12_q, graph_kind_may_r13_p, graph_kind_may_r13_q, graph_kind_may_j7_p, graph_kind_may_j7_q, graph_kind_may_r8_p, graph_kind_may_r8_q, graph_kind_may_r10_p, graph_kind_may_r10_q, graph_kind_may_r6_p, graph_kind_may_r6_q, graph_kind_may_j3_p, graph_kind_may_j3_q, graph_kind_may_r4_p, graph_kind_may_r4_q, graph_kind_may_r5_p, graph_kind_may_r5_q, graph_kind_may_r2_p, graph_kind_may_r2_q, graph_kind_may_r1_p, graph_kind_may_r1_q, ref03_node, ref03_node_q, ref03_node_r17_p, ref03_node_r17_q, ref03_node_r16_p, ref03_node_r16_q, ref03_node_r15_p, ref03_node_r15_q, ref03_node_j13_p, ref03_node_j13_q, ref03_node_r13_p, ref03_node_r13_q, ref03_node_j10_p, ref03_node_j10_q, ref03_node_j8_p, ref03_node_j8_q, ref03_node_r9_p, ref03_node_r9_q, ref03_node_r8_p, ref03_node_r8_q, ref03_node_j5_p, ref03_node_j5_q, ref03_node_r6_p, ref03_node_r6_q, ref03_node_r4_p, ref03_node_r4_q, ref03_node_j2_p, ref03_node_j2_q, ref03_Two, ref03_Two_q, ref03_Two_r1_p, ref03_Two_r1_q, ref03_Window, ref03_Window_q, ref03_Window_r1_p, ref03_Window_r1_q, within_in, in_iff, in_not]
    by_cases hK : 1 ≤ K ∧ K ≤ 3
    · try rw [i64_in (K - 1) (by omega)]
      constructor <;> intro h <;> omega
    · constructor <;> intro h <;> omega
  · have hl : l.length = 1 := by
      simp [ref03_node, ref03_node_q, ref03_node_r17_p, ref03_node_r17_q, ref03_node_r16_p, ref03_node_r16_q, ref03_node_r15_p, ref03_node_r15_q, ref03_node_j13_p, ref03_node_j13_q, ref03_node_r13_p, ref03_node_r13_q, ref03_node_j10_p, ref03_node_j10_q, ref03_node_j8_p, ref03_node_j8_q, ref03_node_r9_p, ref03_node_r9_q, ref03_node_r8_p, ref03_node_r8_q, ref03_node_j5_p, ref03_node_j5_q, ref03_node_r6_p, ref03_node_r6_q, ref03_node_r4_p, ref03_node_r4_q, ref03_node_j2_p, ref03_node_j2_q, ref03_Two, ref03_Two_q, ref03_Two_r1_p, ref03_Two_r1_q, ref03_Window, ref03_Window_q, ref03_Window_r1_p, ref03_Window_r1_q, in_iff] at hn
      omega
    obtain ⟨a, rfl⟩ := List.length_eq_one_iff.1 hl
    refine ⟨?_, ?_, ?_, ?_⟩
    · simp [graph_Value_r8_p, graph_first, graph_first_q, graph_of_1, graph_pooled, graph_slid, graph_slid_r1_p, graph_of_4, graph_of_4_q, graph_same, graph_same_q, graph_of_6, graph_of_6_q, graph_beside, graph_beside_q, graph_beside_r1_p, graph_beside_r1_q, graph_anew, graph_anew_r1_p, shape_Out_eq, shape_Size_eq, ref03_made, ref03_made_r1_p, ref03_made_j2_p, ref03_made_j3_p, ref03_made_j3_q, ref03_made_r10_p, ref03_made_j8_p, ref03_made_j8_q, ref03_made_j13_p, ref03_made_j13_q, ref03_made_r15_p, ref03_made_r20_p, ref03_made_r22_p, ref03_made_r24_p, ref03_made_r24_q, ref02_Out_eq, ref02_Size_eq, either, gt, dI4, i64_in]
    · simp [graph_Value_r11_p, graph_bare, graph_bare_q, graph_of_2, graph_of_2_q, graph_of_2_r1_p, graph_of_2_r1_q, graph_of_3, graph_of_3_q, graph_of_5, graph_of_7, graph_of_7_q, ref03_Value_r16_p, ref03_many, ref03_many_q, ref03_many_r3_p, ref03_many_r3_q, shape_Size_eq, ref02_Size_eq, either, gt, dI4]
    · simp [ref03_made, ref03_made_r1_p, ref03_made_j2_p, ref03_made_j3_p, ref03_made_j3_q, ref03_made_r10_p, ref03_made_j8_p, ref03_made_j8_q, ref03_made_j13_p, ref03_made_j13_q, ref03_made_r15_p, ref03_made_r20_p, ref03_made_r22_p, ref03_made_r24_p, ref03_made_r24_q, ref02_Out_eq, ref02_Size_eq, either, gt, dI4]
    · simp [graph_Value_r11_p, graph_bare, graph_bare_q, graph_of_2, graph_of_2_q, graph_of_2_r1_p, graph_of_2_r1_q, graph_of_3, graph_of_3_q, graph_of_5, graph_of_7, graph_of_7_q, ref03_Value_r16_p, ref03_many, ref03_many_q, ref03_many_r3_p, ref03_many_r3_q, shape_Size_eq, ref02_Size_eq, either, gt, dI4]
theorem op9 (n : Node) (l : List I4) (ho : n.1 = 9) : ∃ Y, graph_of n.1 = some Y ∧ graph_Value_r2_p n l Y = !(ref03_node n (l.length : Int)) ∧ Y.1.2.2.2.2.2.1 = ref03_keeps n.1 ∧ (ref03_node n (l.length : Int) = true → graph_Value_r8_p n l Y = ref03_made n l ∧ graph_Value_r11_p n l Y = ref03_Value_r16_p n l ∧ (ref03_made n l).isSome = true ∧ (ref03_Value_r16_p n l).isSome = true) := by
  obtain ⟨op, i, K, S, P, O, M, Sh, Z, t1, t2, t3, W, B⟩ := n
  replace ho : op = 9 := ho
  subst ho
  refine ⟨_, rfl, ?_, rfl, fun hn => ?_⟩
  · rw [Bool.eq_iff_iff]
    simp [graph_Value_r2_p, graph_Value_r2_q, graph_kind_may, graph_kind_may_q, graph_kind_may_r12_p, graph_kind_may_r12_q, graph_kind_may_r13_p, graph_kind_may_r13_q, graph_kind_may_j7_p, graph_kind_may_j7_q, graph_kind_may_r8_p, graph_kind_may_r8_q, graph_kind_may_r10_p, graph_kind_may_r10_q, graph_kind_may_r6_p, graph_kind_may_r6_q, graph_kind_may_j3_p, graph_kind_may_j3_q, graph_kind_may_r4_p, graph_kind_may_r4_q, graph_kind_may_r5_p, graph_kind_may_r5_q, graph_kind_may_r2_p, graph_kind_may_r2_q, graph_kind_may_r1_p, graph_kind_may_r1_q, ref03_node, ref03_node_q, ref03_node_r17_p, ref03_node_r17_q, ref03_node_r16_p, ref03_node_r16_q, ref03_node_r15_p, ref03_node_r15_q, ref03_node_j13_p, ref03_node_j13_q, ref03_node_r13_p, ref03_node_r13_q, ref03_node_j10_p, ref03_node_j10_q, ref03_node_j8_p, ref03_node_j8_q, ref03_node_r9_p, ref03_node_r9_q, ref03_node_r8_p, ref03_node_r8_q, ref03_node_j5_p, ref03_node_j5_q, ref03_node_r6_p, ref03_node_r6_q, ref03_node_r4_p, ref03_node_r4_q, ref03_node_j2_p, ref03_node_j2_q, ref03_Two, ref03_Two_q, ref03_Two_r1_p, ref03_Two_r1_q, ref03_Window, ref03_Window_q, ref03_Window_r1_p, ref03_Window_r1_q, within_in, in_iff, in_not]
    by_cases hK : 1 ≤ K ∧ K ≤ 3
    · try rw [i64_in (K - 1) (by omega)]
      constructor <;> intro h <;> omega
    · constructor <;> intro h <;> omega
  · have hl : l.length = 1 := by
      simp [ref03_node, ref03_node_q, ref03_node_r17_p, ref03_node_r17_q, ref03_node_r16_p, ref03_node_r16_q, ref03_node_r15_p, ref03_node_r15_q, ref03_node_j13_p, ref03_node_j13_q, ref03_node_r13_p, ref03_node_r13_q, ref03_node_j10_p, ref03_node_j10_q, ref03_node_j8_p, ref03_node_j8_q, ref03_node_r9_p, ref03_node_r9_q, ref03_node_r8_p, ref03_node_r8_q, ref03_node_j5_p, ref03_node_j5_q, ref03_node_r6_p, ref03_node_r6_q, ref03_node_r4_p, ref03_node_r4_q, ref03_node_j2_p, ref03_node_j2_q, ref03_Two, ref03_Two_q, ref03_Two_r1_p, ref03_Two_r1_q, ref03_Window, ref03_Window_q, ref03_Window_r1_p, ref03_Window_r1_q, in_iff] at hn
      omega
    obtain ⟨a, rfl⟩ := List.length_eq_one_iff.1 hl
    refine ⟨?_, ?_, ?_, ?_⟩
    · simp [graph_Value_r8_p, graph_first, graph_first_q, graph_of_1, graph_pooled, graph_slid, graph_slid_r1_p, graph_of_4, graph_of_4_q, graph_same, graph_same_q, graph_of_6, graph_of_6_q, graph_beside, graph_beside_q, graph_beside_r1_p, graph_beside_r1_q, graph_anew, graph_anew_r1_p, shape_Out_eq, shape_Size_eq, ref03_made, ref03_made_r1_p, ref03_made_j2_p, ref03_made_j3_p, ref03_made_j3_q, ref03_made_r10_p, ref03_made_j8_p, ref03_made_j8_q, ref03_made_j13_p, ref03_made_j13_q, ref03_made_r15_p, ref03_made_r20_p, ref03_made_r22_p, ref03_made_r24_p, ref03_made_r24_q, ref02_Out_eq, ref02_Size_eq, either, gt, dI4, i64_in]
    · simp [graph_Value_r11_p, graph_bare, graph_bare_q, graph_of_2, graph_of_2_q, graph_of_2_r1_p, graph_of_2_r1_q, graph_of_3, graph_of_3_q, graph_of_5, graph_of_7, graph_of_7_q, ref03_Value_r16_p, ref03_many, ref03_many_q, ref03_many_r3_p, ref03_many_r3_q, shape_Size_eq, ref02_Size_eq, either, gt, dI4]
    · simp [ref03_made, ref03_made_r1_p, ref03_made_j2_p, ref03_made_j3_p, ref03_made_j3_q, ref03_made_r10_p, ref03_made_j8_p, ref03_made_j8_q, ref03_made_j13_p, ref03_made_j13_q, ref03_made_r15_p, ref03_made_r20_p, ref03_made_r22_p, ref03_made_r24_p, ref03_made_r24_q, ref02_Out_eq, ref02_Size_eq, either, gt, dI4]
    · simp [graph_Value_r11_p, graph_bare, graph_bare_q, graph_of_2, graph_of_2_q, graph_of_2_r1_p, graph_of_2_r1_q, graph_of_3, graph_of_3_q, graph_of_5, graph_of_7, graph_of_7_q, ref03_Value_r16_p, ref03_many, ref03_many_q, ref03_many_r3_p, ref03_many_r3_q, shape_Size_eq, ref02_Size_eq, either, gt, dI4]
theorem op10 (n : Node) (l : List I4) (ho : n.1 = 10) : ∃ Y, graph_of n.1 = some Y ∧ graph_Value_r2_p n l Y = !(ref03_node n (l.length : Int)) ∧ Y.1.2.2.2.2.2.1 = ref03_keeps n.1 ∧ (ref03_node n (l.length : Int) = true → graph_Value_r8_p n l Y = ref03_made n l ∧ graph_Value_r11_p n l Y = ref03_Value_r16_p n l ∧ (ref03_made n l).isSome = true ∧ (ref03_Value_r16_p n l).isSome = true) := by
  obtain ⟨op, i, K, S, P, O, M, Sh, Z, t1, t2, t3, W, B⟩ := n
  replace ho : op = 10 := ho
  subst ho
  refine ⟨_, rfl, ?_, rfl, fun hn => ?_⟩
  · rw [Bool.eq_iff_iff]
    simp [graph_Value_r2_p, graph_Value_r2_q, graph_kind_may, graph_kind_may_q, graph_kind_may_r12_p, graph_kind_may_r12_q, graph_kind_may_r13_p, graph_kind_may_r13_q, graph_kind_may_j7_p, graph_kind_may_j7_q, graph_kind_may_r8_p, graph_kind_may_r8_q, graph_kind_may_r10_p, graph_kind_may_r10_q, graph_kind_may_r6_p, graph_kind_may_r6_q, graph_kind_may_j3_p, graph_kind_may_j3_q, graph_kind_may_r4_p, graph_kind_may_r4_q, graph_kind_may_r5_p, graph_kind_may_r5_q, graph_kind_may_r2_p, graph_kind_may_r2_q, graph_kind_may_r1_p, graph_kind_may_r1_q, ref03_node, ref03_node_q, ref03_node_r17_p, ref03_node_r17_q, ref03_node_r16_p, ref03_node_r16_q, ref03_node_r15_p, ref03_node_r15_q, ref03_node_j13_p, ref03_node_j13_q, ref03_node_r13_p, ref03_node_r13_q, ref03_node_j10_p, ref03_node_j10_q, ref03_node_j8_p, ref03_node_j8_q, ref03_node_r9_p, ref03_node_r9_q, ref03_node_r8_p, ref03_node_r8_q, ref03_node_j5_p, ref03_node_j5_q, ref03_node_r6_p, ref03_node_r6_q, ref03_node_r4_p, ref03_node_r4_q, ref03_node_j2_p, ref03_node_j2_q, ref03_Two, ref03_Two_q, ref03_Two_r1_p, ref03_Two_r1_q, ref03_Window, ref03_Window_q, ref03_Window_r1_p, ref03_Window_r1_q, within_in, in_iff, in_not]
    by_cases hK : 1 ≤ K ∧ K ≤ 3
    · try rw [i64_in (K - 1) (by omega)]
      constructor <;> intro h <;> omega
    · constructor <;> intro h <;> omega
  · have hl : l.length = 2 := by
      simp [ref03_node, ref03_node_q, ref03_node_r17_p, ref03_node_r17_q, ref03_node_r16_p, ref03_node_r16_q, ref03_node_r15_p, ref03_node_r15_q, ref03_node_j13_p, ref03_node_j13_q, ref03_node_r13_p, ref03_node_r13_q, ref03_node_j10_p, ref03_node_j10_q, ref03_node_j8_p, ref03_node_j8_q, ref03_node_r9_p, ref03_node_r9_q, ref03_node_r8_p, ref03_node_r8_q, ref03_node_j5_p, ref03_node_j5_q, ref03_node_r6_p, ref03_node_r6_q, ref03_node_r4_p, ref03_node_r4_q, ref03_node_j2_p, ref03_node_j2_q, ref03_Two, ref03_Two_q, ref03_Two_r1_p, ref03_Two_r1_q, ref03_Window, ref03_Window_q, ref03_Window_r1_p, ref03_Window_r1_q, in_iff] at hn
      omega
    obtain ⟨a, b, rfl⟩ := len2 hl
    refine ⟨?_, ?_, ?_, ?_⟩
    · simp [graph_Value_r8_p, graph_first, graph_first_q, graph_of_1, graph_pooled, graph_slid, graph_slid_r1_p, graph_of_4, graph_of_4_q, graph_same, graph_same_q, graph_of_6, graph_of_6_q, graph_beside, graph_beside_q, graph_beside_r1_p, graph_beside_r1_q, graph_anew, graph_anew_r1_p, shape_Out_eq, shape_Size_eq, ref03_made, ref03_made_r1_p, ref03_made_j2_p, ref03_made_j3_p, ref03_made_j3_q, ref03_made_r10_p, ref03_made_j8_p, ref03_made_j8_q, ref03_made_j13_p, ref03_made_j13_q, ref03_made_r15_p, ref03_made_r20_p, ref03_made_r22_p, ref03_made_r24_p, ref03_made_r24_q, ref02_Out_eq, ref02_Size_eq, either, gt, dI4, i64_in]
      rw [bne_sw b.1, bne_sw b.2.1]
      cases (a.1 != b.1) <;> cases (a.2.1 != b.2.1) <;> rfl
    · simp [graph_Value_r11_p, graph_bare, graph_bare_q, graph_of_2, graph_of_2_q, graph_of_2_r1_p, graph_of_2_r1_q, graph_of_3, graph_of_3_q, graph_of_5, graph_of_7, graph_of_7_q, ref03_Value_r16_p, ref03_many, ref03_many_q, ref03_many_r3_p, ref03_many_r3_q, shape_Size_eq, ref02_Size_eq, either, gt, dI4]
    · simp [ref03_made, ref03_made_r1_p, ref03_made_j2_p, ref03_made_j3_p, ref03_made_j3_q, ref03_made_r10_p, ref03_made_j8_p, ref03_made_j8_q, ref03_made_j13_p, ref03_made_j13_q, ref03_made_r15_p, ref03_made_r20_p, ref03_made_r22_p, ref03_made_r24_p, ref03_made_r24_q, ref02_Out_eq, ref02_Size_eq, either, gt, dI4]
      cases (b.1 != a.1) <;> cases (b.2.1 != a.2.1) <;> rfl
    · simp [graph_Value_r11_p, graph_bare, graph_bare_q, graph_of_2, graph_of_2_q, graph_of_2_r1_p, graph_of_2_r1_q, graph_of_3, graph_of_3_q, graph_of_5, graph_of_7, graph_of_7_q, ref03_Value_r16_p, ref03_many, ref03_many_q, ref03_many_r3_p, ref03_many_r3_q, shape_Size_eq, ref02_Size_eq, either, gt, dI4]
theorem op11 (n : Node) (l : List I4) (ho : n.1 = 11) : ∃ Y, graph_of n.1 = some Y ∧ graph_Value_r2_p n l Y = !(ref03_node n (l.length : Int)) ∧ Y.1.2.2.2.2.2.1 = ref03_keeps n.1 ∧ (ref03_node n (l.length : Int) = true → graph_Value_r8_p n l Y = ref03_made n l ∧ graph_Value_r11_p n l Y = ref03_Value_r16_p n l ∧ (ref03_made n l).isSome = true ∧ (ref03_Value_r16_p n l).isSome = true) := by
  obtain ⟨op, i, K, S, P, O, M, Sh, Z, t1, t2, t3, W, B⟩ := n
  replace ho : op = 11 := ho
  subst ho
  refine ⟨_, rfl, ?_, rfl, fun hn => ?_⟩
  · rw [Bool.eq_iff_iff]
    simp [graph_Value_r2_p, graph_Value_r2_q, graph_kind_may, graph_kind_may_q, graph_kind_may_r12_p, graph_kind_may_r12_q, graph_kind_may_r13_p, graph_kind_may_r13_q, graph_kind_may_j7_p, graph_kind_may_j7_q, graph_kind_may_r8_p, graph_kind_may_r8_q, graph_kind_may_r10_p, graph_kind_may_r10_q, graph_kind_may_r6_p, graph_kind_may_r6_q, graph_kind_may_j3_p, graph_kind_may_j3_q, graph_kind_may_r4_p, graph_kind_may_r4_q, graph_kind_may_r5_p, graph_kind_may_r5_q, graph_kind_may_r2_p, graph_kind_may_r2_q, graph_kind_may_r1_p, graph_kind_may_r1_q, ref03_node, ref03_node_q, ref03_node_r17_p, ref03_node_r17_q, ref03_node_r16_p, ref03_node_r16_q, ref03_node_r15_p, ref03_node_r15_q, ref03_node_j13_p, ref03_node_j13_q, ref03_node_r13_p, ref03_node_r13_q, ref03_node_j10_p, ref03_node_j10_q, ref03_node_j8_p, ref03_node_j8_q, ref03_node_r9_p, ref03_node_r9_q, ref03_node_r8_p, ref03_node_r8_q, ref03_node_j5_p, ref03_node_j5_q, ref03_node_r6_p, ref03_node_r6_q, ref03_node_r4_p, ref03_node_r4_q, ref03_node_j2_p, ref03_node_j2_q, ref03_Two, ref03_Two_q, ref03_Two_r1_p, ref03_Two_r1_q, ref03_Window, ref03_Window_q, ref03_Window_r1_p, ref03_Window_r1_q, within_in, in_iff, in_not]
    by_cases hK : 1 ≤ K ∧ K ≤ 3
    · try rw [i64_in (K - 1) (by omega)]
      constructor <;> intro h <;> omega
    · constructor <;> intro h <;> omega
  · have hl : l.length = 1 := by
      simp [ref03_node, ref03_node_q, ref03_node_r17_p, ref03_node_r17_q, ref03_node_r16_p, ref03_node_r16_q, ref03_node_r15_p, ref03_node_r15_q, ref03_node_j13_p, ref03_node_j13_q, ref03_node_r13_p, ref03_node_r13_q, ref03_node_j10_p, ref03_node_j10_q, ref03_node_j8_p, ref03_node_j8_q, ref03_node_r9_p, ref03_node_r9_q, ref03_node_r8_p, ref03_node_r8_q, ref03_node_j5_p, ref03_node_j5_q, ref03_node_r6_p, ref03_node_r6_q, ref03_node_r4_p, ref03_node_r4_q, ref03_node_j2_p, ref03_node_j2_q, ref03_Two, ref03_Two_q, ref03_Two_r1_p, ref03_Two_r1_q, ref03_Window, ref03_Window_q, ref03_Window_r1_p, ref03_Window_r1_q, in_iff] at hn
      omega
    obtain ⟨a, rfl⟩ := List.length_eq_one_iff.1 hl
    refine ⟨?_, ?_, ?_, ?_⟩
    · simp [graph_Value_r8_p, graph_first, graph_first_q, graph_of_1, graph_pooled, graph_slid, graph_slid_r1_p, graph_of_4, graph_of_4_q, graph_same, graph_same_q, graph_of_6, graph_of_6_q, graph_beside, graph_beside_q, graph_beside_r1_p, graph_beside_r1_q, graph_anew, graph_anew_r1_p, shape_Out_eq, shape_Size_eq, ref03_made, ref03_made_r1_p, ref03_made_j2_p, ref03_made_j3_p, ref03_made_j3_q, ref03_made_r10_p, ref03_made_j8_p, ref03_made_j8_q, ref03_made_j13_p, ref03_made_j13_q, ref03_made_r15_p, ref03_made_r20_p, ref03_made_r22_p, ref03_made_r24_p, ref03_made_r24_q, ref02_Out_eq, ref02_Size_eq, either, gt, dI4, i64_in]
      cases sizeV (t1, t2, t3) != sizeV (a.1, a.2.1, a.2.2.1) <;> rfl
    · simp [graph_Value_r11_p, graph_bare, graph_bare_q, graph_of_2, graph_of_2_q, graph_of_2_r1_p, graph_of_2_r1_q, graph_of_3, graph_of_3_q, graph_of_5, graph_of_7, graph_of_7_q, ref03_Value_r16_p, ref03_many, ref03_many_q, ref03_many_r3_p, ref03_many_r3_q, shape_Size_eq, ref02_Size_eq, either, gt, dI4]
    · simp [ref03_made, ref03_made_r1_p, ref03_made_j2_p, ref03_made_j3_p, ref03_made_j3_q, ref03_made_r10_p, ref03_made_j8_p, ref03_made_j8_q, ref03_made_j13_p, ref03_made_j13_q, ref03_made_r15_p, ref03_made_r20_p, ref03_made_r22_p, ref03_made_r24_p, ref03_made_r24_q, ref02_Out_eq, ref02_Size_eq, either, gt, dI4]
      cases sizeV (t1, t2, t3) != sizeV (a.1, a.2.1, a.2.2.1) <;> rfl
    · simp [graph_Value_r11_p, graph_bare, graph_bare_q, graph_of_2, graph_of_2_q, graph_of_2_r1_p, graph_of_2_r1_q, graph_of_3, graph_of_3_q, graph_of_5, graph_of_7, graph_of_7_q, ref03_Value_r16_p, ref03_many, ref03_many_q, ref03_many_r3_p, ref03_many_r3_q, shape_Size_eq, ref02_Size_eq, either, gt, dI4]
theorem op12 (n : Node) (l : List I4) (ho : n.1 = 12) : ∃ Y, graph_of n.1 = some Y ∧ graph_Value_r2_p n l Y = !(ref03_node n (l.length : Int)) ∧ Y.1.2.2.2.2.2.1 = ref03_keeps n.1 ∧ (ref03_node n (l.length : Int) = true → graph_Value_r8_p n l Y = ref03_made n l ∧ graph_Value_r11_p n l Y = ref03_Value_r16_p n l ∧ (ref03_made n l).isSome = true ∧ (ref03_Value_r16_p n l).isSome = true) := by
  obtain ⟨op, i, K, S, P, O, M, Sh, Z, t1, t2, t3, W, B⟩ := n
  replace ho : op = 12 := ho
  subst ho
  refine ⟨_, rfl, ?_, rfl, fun hn => ?_⟩
  · rw [Bool.eq_iff_iff]
    simp [graph_Value_r2_p, graph_Value_r2_q, graph_kind_may, graph_kind_may_q, graph_kind_may_r12_p, graph_kind_may_r12_q, graph_kind_may_r13_p, graph_kind_may_r13_q, graph_kind_may_j7_p, graph_kind_may_j7_q, graph_kind_may_r8_p, graph_kind_may_r8_q, graph_kind_may_r10_p, graph_kind_may_r10_q, graph_kind_may_r6_p, graph_kind_may_r6_q, graph_kind_may_j3_p, graph_kind_may_j3_q, graph_kind_may_r4_p, graph_kind_may_r4_q, graph_kind_may_r5_p, graph_kind_may_r5_q, graph_kind_may_r2_p, graph_kind_may_r2_q, graph_kind_may_r1_p, graph_kind_may_r1_q, ref03_node, ref03_node_q, ref03_node_r17_p, ref03_node_r17_q, ref03_node_r16_p, ref03_node_r16_q, ref03_node_r15_p, ref03_node_r15_q, ref03_node_j13_p, ref03_node_j13_q, ref03_node_r13_p, ref03_node_r13_q, ref03_node_j10_p, ref03_node_j10_q, ref03_node_j8_p, ref03_node_j8_q, ref03_node_r9_p, ref03_node_r9_q, ref03_node_r8_p, ref03_node_r8_q, ref03_node_j5_p, ref03_node_j5_q, ref03_node_r6_p, ref03_node_r6_q, ref03_node_r4_p, ref03_node_r4_q, ref03_node_j2_p, ref03_node_j2_q, ref03_Two, ref03_Two_q, ref03_Two_r1_p, ref03_Two_r1_q, ref03_Window, ref03_Window_q, ref03_Window_r1_p, ref03_Window_r1_q, within_in, in_iff, in_not]
    by_cases hK : 1 ≤ K ∧ K ≤ 3
    · try rw [i64_in (K - 1) (by omega)]
      constructor <;> intro h <;> omega
    · constructor <;> intro h <;> omega
  · have hl : l.length = 1 := by
      simp [ref03_node, ref03_node_q, ref03_node_r17_p, ref03_node_r17_q, ref03_node_r16_p, ref03_node_r16_q, ref03_node_r15_p, ref03_node_r15_q, ref03_node_j13_p, ref03_node_j13_q, ref03_node_r13_p, ref03_node_r13_q, ref03_node_j10_p, ref03_node_j10_q, ref03_node_j8_p, ref03_node_j8_q, ref03_node_r9_p, ref03_node_r9_q, ref03_node_r8_p, ref03_node_r8_q, ref03_node_j5_p, ref03_node_j5_q, ref03_node_r6_p, ref03_node_r6_q, ref03_node_r4_p, ref03_node_r4_q, ref03_node_j2_p, ref03_node_j2_q, ref03_Two, ref03_Two_q, ref03_Two_r1_p, ref03_Two_r1_q, ref03_Window, ref03_Window_q, ref03_Window_r1_p, ref03_Window_r1_q, in_iff] at hn
      omega
    obtain ⟨a, rfl⟩ := List.length_eq_one_iff.1 hl
    refine ⟨?_, ?_, ?_, ?_⟩
    · simp [graph_Value_r8_p, graph_first, graph_first_q, graph_of_1, graph_pooled, graph_slid, graph_slid_r1_p, graph_of_4, graph_of_4_q, graph_same, graph_same_q, graph_of_6, graph_of_6_q, graph_beside, graph_beside_q, graph_beside_r1_p, graph_beside_r1_q, graph_anew, graph_anew_r1_p, shape_Out_eq, shape_Size_eq, ref03_made, ref03_made_r1_p, ref03_made_j2_p, ref03_made_j3_p, ref03_made_j3_q, ref03_made_r10_p, ref03_made_j8_p, ref03_made_j8_q, ref03_made_j13_p, ref03_made_j13_q, ref03_made_r15_p, ref03_made_r20_p, ref03_made_r22_p, ref03_made_r24_p, ref03_made_r24_q, ref02_Out_eq, ref02_Size_eq, either, gt, dI4, i64_in]
    · simp [graph_Value_r11_p, graph_bare, graph_bare_q, graph_of_2, graph_of_2_q, graph_of_2_r1_p, graph_of_2_r1_q, graph_of_3, graph_of_3_q, graph_of_5, graph_of_7, graph_of_7_q, ref03_Value_r16_p, ref03_many, ref03_many_q, ref03_many_r3_p, ref03_many_r3_q, shape_Size_eq, ref02_Size_eq, either, gt, dI4]
    · simp [ref03_made, ref03_made_r1_p, ref03_made_j2_p, ref03_made_j3_p, ref03_made_j3_q, ref03_made_r10_p, ref03_made_j8_p, ref03_made_j8_q, ref03_made_j13_p, ref03_made_j13_q, ref03_made_r15_p, ref03_made_r20_p, ref03_made_r22_p, ref03_made_r24_p, ref03_made_r24_q, ref02_Out_eq, ref02_Size_eq, either, gt, dI4]
    · simp [graph_Value_r11_p, graph_bare, graph_bare_q, graph_of_2, graph_of_2_q, graph_of_2_r1_p, graph_of_2_r1_q, graph_of_3, graph_of_3_q, graph_of_5, graph_of_7, graph_of_7_q, ref03_Value_r16_p, ref03_many, ref03_many_q, ref03_many_r3_p, ref03_many_r3_q, shape_Size_eq, ref02_Size_eq, either, gt, dI4]
end Go.V.P
