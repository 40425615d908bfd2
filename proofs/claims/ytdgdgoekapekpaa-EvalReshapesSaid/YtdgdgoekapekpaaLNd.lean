/- Plain laws of layer 5 and 15: what nodes ask of their rows, told at once. -/
import Derived.Test.YtdgdgoekapekpaaLVin
import Derived.Test.YtdgdgoekapekpaaEv2
namespace Go.V.P
open Go Go.V Go.IntWalk
set_option linter.unusedVariables false
set_option linter.unusedSimpArgs false
set_option maxRecDepth 20000
/-- an op of windows -/
def wop (o : Int) : Prop := o = 1 ∨ o = 2 ∨ o = 4 ∨ o = 5
instance (o : Int) : Decidable (wop o) := by unfold wop; infer_instance
theorem nodeF (n : Node) (k : Int) (h : a55 n k = true) : (1 ≤ n.1 ∧ n.1 ≤ 12) ∧
    (wop n.1 → 1 ≤ n.2.2.1 ∧ n.2.2.1 ≤ 3 ∧ 1 ≤ n.2.2.2.1 ∧ n.2.2.2.1 ≤ 2 ∧ 0 ≤ n.2.2.2.2.1 ∧ n.2.2.2.2.1 < n.2.2.1) ∧
    (¬ wop n.1 → n.2.2.1 = 0 ∧ n.2.2.2.1 = 0) ∧ ((n.1 = 6 ∨ n.1 = 7 ∨ n.1 = 10) ∧ k = 2 ∨ ¬ (n.1 = 6 ∨ n.1 = 7 ∨ n.1 = 10) ∧ k = 1) := by
  obtain ⟨op, i, K, S, P, O, M, Sh, Z, t1, t2, t3, W, B⟩ := n
  have ho : 1 ≤ op ∧ op ≤ 12 := by
    cases hc : a0v op 1 12 with
    | true => exact (in_iff _ _ _).1 hc
    | false => simp [a55, b2f, a68, b2j, hc] at h
  have hc : op = 1 ∨ op = 2 ∨ op = 3 ∨ op = 4 ∨ op = 5 ∨ op = 6 ∨ op = 7 ∨ op = 8 ∨ op = 9 ∨ op = 10 ∨ op = 11 ∨ op = 12 := by omega
  unfold wop
  rcases hc with rfl | rfl | rfl | rfl | rfl | rfl | rfl | rfl | rfl | rfl | rfl | rfl <;>
    simp [a55, b2f, a68, b2j, a67, b2i, a1z, b2h, a19, a66, a3j, b2g, a0g, a65, a4c, a7k, a7m, b3n, a4e, b3m, a09, a7j, a7l, b3l, a4d, b3k, a08, a7i, a6u, b4k, a8k, b5v, a2x, a8l, a5f, b09, in_iff] at h ⊢ <;> omega
/-- how many rows there are, by those that a node is made of -/
theorem madeH (n : Node) (l : List I4) (k : Int) (h : a55 n k = true) (hk : k = l.length) (s : I3) (hm : b0l n l = some s) (hs : mayB s = true) (a : I4) (ha : a ∈ l) :
    (wop n.1 → s.1 = outV a.1 n.2.2.1 n.2.2.2.1 n.2.2.2.2.1) ∧ (n.1 = 9 → s.1 = IntKind.wrap .i64 (a.1 + 2)) ∧ (¬ wop n.1 → n.1 ≠ 9 → n.1 ≠ 3 → n.1 ≠ 11 → s.1 = a.1) := by
  obtain ⟨f1, f2, f3, f4⟩ := nodeF n k h
  have hmb := mayB_iff.1 hs
  obtain ⟨op, i, K, S, P, O, M, Sh, Z, t1, t2, t3, W, B⟩ := n
  simp only at f1 f2 f3 f4 ⊢
  unfold wop
  rcases f4 with ⟨g1, g2⟩ | ⟨g1, g2⟩
  · obtain ⟨u, v, rfl⟩ := len2 (show l.length = 2 by omega)
    simp only [List.mem_cons, List.not_mem_nil, or_false] at ha
    rcases g1 with rfl | rfl | rfl
    · simp [b0l, b3i, b3h, a4a, a7f, b29, a4b, a7g, a3h, a64, b2a, b2b, b2c, a3i, b2d, ref02_Out_eq, ref02_Size_eq, either, gt] at hm
      cases h1 : (v.1 == u.1) with
      | false =>
        simp [h1, bne, either] at hm
        subst hm
        simp at hmb
      | true =>
        have h1' : v.1 = u.1 := by simpa using h1
        simp [h1, bne, either] at hm
        have hs1 : s.1 = u.1 := by
          cases h2 : (v.2.1 == u.2.1) <;> try cases h3 : (v.2.2.1 == u.2.2.1)
          all_goals simp_all [either]
          all_goals (subst hm; first | rfl | (exfalso; simp at hmb))
        rcases ha with rfl | rfl <;> simp [hs1, h1']
    · simp [b0l, b3i, b3h, a4a, a7f, b29, a4b, a7g, a3h, a64, b2a, b2b, b2c, a3i, b2d, ref02_Out_eq, ref02_Size_eq, either, gt] at hm
      cases h1 : (v.1 == u.1) with
      | false =>
        simp [h1, bne, either] at hm
        subst hm
        simp at hmb
      | true =>
        have h1' : v.1 = u.1 := by simpa using h1
        simp [h1, bne, either] at hm
        have hs1 : s.1 = u.1 := by
          cases h2 : (v.2.1 == u.2.1) <;> try cases h3 : (v.2.2.1 == u.2.2.1)
          all_goals simp_all [either]
          all_goals (subst hm; first | rfl | (exfalso; simp at hmb))
        rcases ha with rfl | rfl <;> simp [hs1, h1']
    · simp [b0l, b3i, b3h, a4a, a7f, b29, a4b, a7g, a3h, a64, b2a, b2b, b2c, a3i, b2d, ref02_Out_eq, ref02_Size_eq, either, gt] at hm
      cases h1 : (v.1 == u.1) with
      | false =>
        simp [h1, bne, either] at hm
        subst hm
        simp at hmb
      | true =>
        have h1' : v.1 = u.1 := by simpa using h1
        simp [h1, bne, either] at hm
        have hs1 : s.1 = u.1 := by
          cases h2 : (v.2.1 == u.2.1) <;> try cases h3 : (v.2.2.1 == u.2.2.1)
          all_goals simp_all [either]
          all_goals (subst hm; first | rfl | (exfalso; simp at hmb))
        rcases ha with rfl | rfl <;> simp [hs1, h1']
  · obtain ⟨u, rfl⟩ := List.length_eq_one_iff.1 (show l.length = 1 by omega)
    simp only [List.mem_cons, List.not_mem_nil, or_false] at ha
    subst ha
    have hc : op = 1 ∨ op = 2 ∨ op = 3 ∨ op = 4 ∨ op = 5 ∨ op = 8 ∨ op = 9 ∨ op = 11 ∨ op = 12 := by omega
    rcases hc with rfl | rfl | rfl | rfl | rfl | rfl | rfl | rfl | rfl <;> simp [b0l, b3i, b3h, a4a, a7f, b29, a4b, a7g, a3h, a64, b2a, b2b, b2c, a3i, b2d, ref02_Out_eq, ref02_Size_eq, either, gt] at hm <;> first | (subst hm; simp; done) | simp
end Go.V.P
