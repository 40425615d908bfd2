/- Plain laws of layer 5 and 15: what nodes ask of their rows, told at once. -/
import Derived.Test.YtaeckbkjlmnigaaLVin
import Derived.Test.YtaeckbkjlmnigaaBm0
namespace Go.V.P
open Go Go.V Go.IntWalk
set_option linter.unusedVariables false
set_option linter.unusedSimpArgs false
set_option maxRecDepth 20000
def wop (o : Int) : Prop := o = 1 ∨ o = 2 ∨ o = 4 ∨ o = 5
instance (o : Int) : Decidable (wop o) := by unfold wop; infer_instance
theorem nodeF (n : Node) (k : Int) (h : ref03_node n k = true) : (1 ≤ n.1 ∧ n.1 ≤ 12) ∧
    (wop n.1 → 1 ≤ n.2.2.1 ∧ n.2.2.1 ≤ 3 ∧ 1 ≤ n.2.2.2.1 ∧ n.2.2.2.1 ≤ 2 ∧ 0 ≤ n.2.2.2.2.1 ∧ n.2.2.2.2.1 < n.2.2.1) ∧
    (¬ wop n.1 → n.2.2.1 = 0 ∧ n.2.2.2.1 = 0) ∧ ((n.1 = 6 ∨ n.1 = 7 ∨ n.1 = 10) ∧ k = 2 ∨ ¬ (n.1 = 6 ∨ n.1 = 7 ∨ n.1 = 10) ∧ k = 1) := by
  obtain ⟨op, i, K, S, P, O, M, Sh, Z, t1, t2, t3, W, B⟩ := n
  have ho : 1 ≤ op ∧ op ≤ 12 := by
    cases hc : ref03_in op 1 12 with
    | true => exact (in_iff _ _ _).1 hc
    | false => simp [ref03_node, ref03_node_q, ref03_node_r17_p, ref03_node_r17_q, hc] at h
  have hc : op = 1 ∨ op = 2 ∨ op = 3 ∨ op = 4 ∨ op = 5 ∨ op = 6 ∨ op = 7 ∨ op = 8 ∨ op = 9 ∨ op = 10 ∨ op = 11 ∨ op = 12 := by omega
  unfold wop
  rcases hc with rfl | rfl | rfl | rfl | rfl | rfl | rfl | rfl | rfl | rfl | rfl | rfl <;>
    simp [ref03_node, ref03_node_q, ref03_node_r17_p, ref03_node_r17_q, ref03_node_r16_p, ref03_node_r16_q, ref03_node_r15_p, ref03_node_r15_q, ref03_node_j13_p, ref03_node_j13_q, ref03_node_r13_p, ref03_node_r13_q, ref03_node_j10_p, ref03_node_j10_q, ref03_node_j8_p, ref03_node_j8_q, ref03_node_r9_p, ref03_node_r9_q, ref03_node_r8_p, ref03_node_r8_q, ref03_node_j5_p, ref03_node_j5_q, ref03_node_r6_p, ref03_node_r6_q, ref03_node_r4_p, ref03_node_r4_q, ref03_node_j2_p, ref03_node_j2_q, ref03_Two, ref03_Two_q, ref03_Two_r1_p, ref03_Two_r1_q, ref03_Window, ref03_Window_q, ref03_Window_r1_p, ref03_Window_r1_q, in_iff] at h ⊢ <;> omega
theorem madeH (n : Node) (l : List I4) (k : Int) (h : ref03_node n k = true) (hk : k = l.length) (s : I3) (hm : ref03_made n l = some s) (hs : mayB s = true) (a : I4) (ha : a ∈ l) :
    (wop n.1 → s.1 = outV a.1 n.2.2.1 n.2.2.2.1 n.2.2.2.2.1) ∧ (n.1 = 9 → s.1 = IntKind.wrap .i64 (a.1 + 2)) ∧ (¬ wop n.1 → n.1 ≠ 9 → n.1 ≠ 3 → n.1 ≠ 11 → s.1 = a.1) := by
  obtain ⟨f1, f2, f3, f4⟩ := nodeF n k h
  have hmb := mayB_iff.1 hs
  obtain ⟨op, i, K, S, P, O, M, Sh, Z, t1, t2, t3, W, B⟩ := n
  simp only at f1 f2 f3 f4 ⊢
  unfold wop
  rcases f4 with ⟨g1, g2⟩ | ⟨g1, g2⟩
  · obtain ⟨u, v, rfl⟩ := len2 (show l.length = 2 by omega)
    simp only [List.mem_cons, List.not_mem_nil, or_false] at ha
    rcases g1 with rfl | rfl | rfl
    · simp [ref03_made, ref03_made_r1_p, ref03_made_j2_p, ref03_made_j3_p, ref03_made_j3_q, ref03_made_r10_p, ref03_made_j8_p, ref03_made_j8_q, ref03_made_j13_p, ref03_made_j13_q, ref03_made_r15_p, ref03_made_r20_p, ref03_made_r22_p, ref03_made_r24_p, ref03_made_r24_q, ref02_Out_eq, ref02_Size_eq, either, gt] at hm
      cases h1 : (v.1 == u.1) with
      | false =>
        simp [h1, bne, either] at hm
        subst hm
        simp at hmb
      | true =>
        have h1' : v.1 = u.1 := by simpa using h1
        simp [h1, bne, either] at hm
        have hs1 : s.1 = u.1 := by
          cases h2 : (v.2.1 == u.2.1) <;> try cases h3 : (v.2.2.1 == u.2.2.1)
          all_goals simp_all [either]
          all_goals (subst hm; first | rfl | (exfalso; simp at hmb))
        rcases ha with rfl | rfl <;> simp [hs1, h1']
    · simp [ref03_made, ref03_made_r1_p, ref03_made_j2_p, ref03_made_j3_p, ref03_made_j3_q, ref03_made_r10_p, ref03_made_j8_p, ref03_made_j8_q, ref03_made_j13_p, ref03_made_j13_q, ref03_made_r15_p, ref03_made_r20_p, ref03_made_r22_p, ref03_made_r24_p, ref03_made_r24_q, ref02_Out_eq, ref02_Size_eq, either, gt] at hm
      cases h1 : (v.1 == u.1) with
      | false =>
        simp [h1, bne, either] at hm
        subst hm
        simp at hmb
      | true =>
        have h1' : v.1 = u.1 := by simpa using h1
        simp [h1, bne, either] at hm
        have hs1 : s.1 = u.1 := by
          cases h2 : (v.2.1 == u.2.1) <;> try cases h3 : (v.2.2.1 == u.2.2.1)
          all_goals simp_all [either]
          all_goals (subst hm; first | rfl | (exfalso; simp at hmb))
        rcases ha with rfl | rfl <;> simp [hs1, h1']
    · simp [ref03_made, ref03_made_r1_p, ref03_made_j2_p, ref03_made_j3_p, ref03_made_j3_q, ref03_made_r10_p, ref03_made_j8_p, ref03_made_j8_q, ref03_made_j13_p, ref03_made_j13_q, ref03_made_r15_p, ref03_made_r20_p, ref03_made_r22_p, ref03_made_r24_p, ref03_made_r24_q, ref02_Out_eq, ref02_Size_eq, either, gt] at hm
      cases h1 : (v.1 == u.1) with
      | false =>
        simp [h1, bne, either] at hm
        subst hm
        simp at hmb
      | true =>
        have h1' : v.1 = u.1 := by simpa using h1
        simp [h1, bne, either] at hm
        have hs1 : s.1 = u.1 := by
          cases h2 : (v.2.1 == u.2.1) <;> try cases h3 : (v.2.2.1 == u.2.2.1)
          all_goals simp_all [either]
          all_goals (subst hm; first | rfl | (exfalso; simp at hmb))
        rcases ha with rfl | rfl <;> simp [hs1, h1']
  · obtain ⟨u, rfl⟩ := List.length_eq_one_iff.1 (show l.length = 1 by omega)
    simp only [List.mem_cons, List.not_mem_nil, or_false] at ha
    subst ha
    have hc : op = 1 ∨ op = 2 ∨ op = 3 ∨ op = 4 ∨ op = 5 ∨ op = 8 ∨ op = 9 ∨ op = 11 ∨ op = 12 := by omega
    rcases hc with rfl | rfl | rfl | rfl | rfl | rfl | rfl | rfl | rfl <;> simp [ref03_made, ref03_made_r1_p, ref03_made_j2_p, ref03_made_j3_p, ref03_made_j3_q, ref03_made_r10_p, ref03_made_j8_p, ref03_made_j8_q, ref03_made_j13_p, ref03_made_j13_q, ref03_made_r15_p, ref03_made_r20_p, ref03_made_r22_p, ref03_made_r24_p, ref03_made_r24_q, ref02_Out_eq, ref02_Size_eq, either, gt] at hm <;> first | (subst hm; simp; done) | simp
end Go.V.P
