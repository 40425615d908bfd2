/- Plain laws of layer 5 and 15: what nodes ask of their rows, told at once. -/
import Derived.Test.YtokpndlkheofjaaLVin
import Derived.Test.YtokpndlkheofjaaKp2
namespace Go.V.P
open Go Go.V Go.IntWalk
set_option linter.unusedVariables false
set_option linter.unusedSimpArgs false
set_option maxRecDepth 20000
def wop (o : Int) : Prop := o = 1 ∨ o = 2 ∨ o = 4 ∨ o = 5
instance (o : Int) : Decidable (wop o) := by unfold wop; infer_instance
theorem nodeF (n : Node) (k : Int) (h : a4k n k = true) : (1 ≤ n.1 ∧ n.1 ≤ 12) ∧
    (wop n.1 → 1 ≤ n.2.2.1 ∧ n.2.2.1 ≤ 3 ∧ 1 ≤ n.2.2.2.1 ∧ n.2.2.2.1 ≤ 2 ∧ 0 ≤ n.2.2.2.2.1 ∧ n.2.2.2.2.1 < n.2.2.1) ∧
    (¬ wop n.1 → n.2.2.1 = 0 ∧ n.2.2.2.1 = 0) ∧ ((n.1 = 6 ∨ n.1 = 7 ∨ n.1 = 10) ∧ k = 2 ∨ ¬ (n.1 = 6 ∨ n.1 = 7 ∨ n.1 = 10) ∧ k = 1) := by
  obtain ⟨op, i, K, S, P, O, M, Sh, Z, t1, t2, t3, W, B⟩ := n
  have ho : 1 ≤ op ∧ op ≤ 12 := by
    cases hc : a1i op 1 12 with
    | true => exact (Q2t _ _ _).1 hc
    | false => simp [a4k, b1d, a64, b1h, hc] at h
  have hc : op = 1 ∨ op = 2 ∨ op = 3 ∨ op = 4 ∨ op = 5 ∨ op = 6 ∨ op = 7 ∨ op = 8 ∨ op = 9 ∨ op = 10 ∨ op = 11 ∨ op = 12 := by omega
  unfold wop
  rcases hc with rfl | rfl | rfl | rfl | rfl | rfl | rfl | rfl | rfl | rfl | rfl | rfl <;>
    simp [a4k, b1d, a64, b1h, a63, b1g, a20, b1f, a17, a62, a39, b1e, a0i, a61, a43, a7h, a7j, b2q, a45, b2p, a0a, a7g, a7i, b2o, a44, b2n, a08, a7f, a6c, b3t, a8j, b5j, a2n, a8k, a4y, a9p, Q2t] at h ⊢ <;> omega
theorem madeH (n : Node) (l : List I4) (k : Int) (h : a4k n k = true) (hk : k = l.length) (s : I3) (hm : b05 n l = some s) (hs : mayB s = true) (a : I4) (ha : a ∈ l) :
    (wop n.1 → s.1 = outV a.1 n.2.2.1 n.2.2.2.1 n.2.2.2.2.1) ∧ (n.1 = 9 → s.1 = IntKind.wrap .i64 (a.1 + 2)) ∧ (¬ wop n.1 → n.1 ≠ 9 → n.1 ≠ 3 → n.1 ≠ 11 → s.1 = a.1) := by
  obtain ⟨f1, f2, f3, f4⟩ := nodeF n k h
  have hmb := Q2l.1 hs
  obtain ⟨op, i, K, S, P, O, M, Sh, Z, t1, t2, t3, W, B⟩ := n
  simp only at f1 f2 f3 f4 ⊢
  unfold wop
  rcases f4 with ⟨g1, g2⟩ | ⟨g1, g2⟩
  · obtain ⟨u, v, rfl⟩ := len2 (show l.length = 2 by omega)
    simp only [List.mem_cons, List.not_mem_nil, or_false] at ha
    rcases g1 with rfl | rfl | rfl
    · simp [b05, b2l, b2k, a41, a7c, b17, a42, a7d, a37, a60, b18, b19, b1a, a38, b1b, Q2e, Q2a, Q1z, gt] at hm
      cases h1 : (v.1 == u.1) with
      | false =>
        simp [h1, bne, Q1z] at hm
        subst hm
        simp at hmb
      | true =>
        have h1' : v.1 = u.1 := by simpa using h1
        simp [h1, bne, Q1z] at hm
        have hs1 : s.1 = u.1 := by
          cases h2 : (v.2.1 == u.2.1) <;> try cases h3 : (v.2.2.1 == u.2.2.1)
          all_goals simp_all [Q1z]
          all_goals (subst hm; first | rfl | (exfalso; simp at hmb))
        rcases ha with rfl | rfl <;> simp [hs1, h1']
    · simp [b05, b2l, b2k, a41, a7c, b17, a42, a7d, a37, a60, b18, b19, b1a, a38, b1b, Q2e, Q2a, Q1z, gt] at hm
      cases h1 : (v.1 == u.1) with
      | false =>
        simp [h1, bne, Q1z] at hm
        subst hm
        simp at hmb
      | true =>
        have h1' : v.1 = u.1 := by simpa using h1
        simp [h1, bne, Q1z] at hm
        have hs1 : s.1 = u.1 := by
          cases h2 : (v.2.1 == u.2.1) <;> try cases h3 : (v.2.2.1 == u.2.2.1)
          all_goals simp_all [Q1z]
          all_goals (subst hm; first | rfl | (exfalso; simp at hmb))
        rcases ha with rfl | rfl <;> simp [hs1, h1']
    · simp [b05, b2l, b2k, a41, a7c, b17, a42, a7d, a37, a60, b18, b19, b1a, a38, b1b, Q2e, Q2a, Q1z, gt] at hm
      cases h1 : (v.1 == u.1) with
      | false =>
        simp [h1, bne, Q1z] at hm
        subst hm
        simp at hmb
      | true =>
        have h1' : v.1 = u.1 := by simpa using h1
        simp [h1, bne, Q1z] at hm
        have hs1 : s.1 = u.1 := by
          cases h2 : (v.2.1 == u.2.1) <;> try cases h3 : (v.2.2.1 == u.2.2.1)
          all_goals simp_all [Q1z]
          all_goals (subst hm; first | rfl | (exfalso; simp at hmb))
        rcases ha with rfl | rfl <;> simp [hs1, h1']
  · obtain ⟨u, rfl⟩ := List.length_eq_one_iff.1 (show l.length = 1 by omega)
    simp only [List.mem_cons, List.not_mem_nil, or_false] at ha
    subst ha
    have hc : op = 1 ∨ op = 2 ∨ op = 3 ∨ op = 4 ∨ op = 5 ∨ op = 8 ∨ op = 9 ∨ op = 11 ∨ op = 12 := by omega
    rcases hc with rfl | rfl | rfl | rfl | rfl | rfl | rfl | rfl | rfl <;> simp [b05, b2l, b2k, a41, a7c, b17, a42, a7d, a37, a60, b18, b19, b1a, a38, b1b, Q2e, Q2a, Q1z, gt] at hm <;> first | (subst hm; simp; done) | simp
end Go.V.P
