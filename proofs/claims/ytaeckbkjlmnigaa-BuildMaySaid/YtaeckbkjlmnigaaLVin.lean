/- Plain laws of layer 3 and 5: what is known of a node that may be. -/
import Derived.Test.YtaeckbkjlmnigaaLSh5
namespace Go.V.P
open Go Go.V Go.IntWalk
set_option linter.unusedVariables false
set_option linter.unusedSimpArgs false
set_option maxRecDepth 20000
theorem rng1 {P : Int → Prop} {a : Int} {n : Nat} (h : ∀ i : Nat, i < n → P (a + (i : Int))) (x : Int) (h1 : a ≤ x) (h2 : x < a + n) : P x := by
  have := h (x - a).toNat (by omega)
  rwa [show a + ((x - a).toNat : Int) = x by omega] at this
def padV (first rows h : Int) : Int × Int := if max (first - 1) 0 ≥ min (first + rows - 1) h then (0, 0) else (max (first - 1) 0, min (first + rows - 1) h)
theorem pad_reach (first rows h : Int) (h1 : 1 ≤ h ∧ h ≤ 16) (h2 : 0 ≤ first) (h3 : 1 ≤ rows) (h6 : first < 0 + (18 : Nat)) (h7 : rows < 1 + (18 : Nat)) : first + rows ≤ h + 2 → reachV first rows 1 1 1 h = padV first rows h := by
  obtain ⟨h1, h8⟩ := h1
  have h5 : h < 1 + (16 : Nat) := by omega
  clear h8
  revert rows; refine rng1 fun l hl => ?_
  revert first; refine rng1 fun j hj => ?_
  revert h; refine rng1 fun i hi => ?_
  revert l j i
  decide +kernel
theorem Value_in (n : Node) (l : List I4) (hl : l.length < 1000000) (hB : (nB n).length < 1000000) (z : I4 × Int) (e2 : ref03_Value n l = some z) (hz : z.2 = 0) :
    ref03_node n (l.length : Int) = true ∧ (∀ a ∈ l, mayB (vS a) = true) ∧ ref03_made n l = some (vS z.1) ∧ mayB (vS z.1) = true ∧ z.1.2.2.2 = nZ n := by
  obtain ⟨Y, h1, h2, h3⟩ := op_any n l
  unfold ref03_Value at e2
  cases hn : ref03_node n (l.length : Int) with
  | false =>
    rw [hn] at e2
    cases e2
    exact absurd hz (by decide)
  | true =>
    obtain ⟨k1, k2, k3, k4, k5⟩ := h3 hn
    obtain ⟨s, hs⟩ := Option.isSome_iff_exists.1 k4
    obtain ⟨w, hw⟩ := Option.isSome_iff_exists.1 k5
    rw [hn, hs, hw] at e2
    simp only [Bool.not_true, cond_false, Option.bind_some] at e2
    rcases refKeeps n l hl with ⟨a1, a2⟩ | ⟨a1, a2⟩
    · rw [a2] at e2
      simp only [Option.bind_some, either] at e2
      rcases refMay l hl with ⟨b1, b2⟩ | ⟨b1, b2⟩
      · rw [b2] at e2
        simp only [Option.bind_some, either, ref02_May_eq] at e2
        have hall : ∀ a ∈ l, mayB (vS a) = true := fun a ha => by
          rw [List.any_eq_false] at b1
          simpa using b1 a ha
        cases hm : mayB s with
        | false =>
          rw [hm] at e2
          cases e2
          exact absurd hz (by decide)
        | true =>
          rw [hm] at e2
          simp only [if_true, bne_self_eq_false, cond_false] at e2
          cases hx : ref03_Value_r17_p n w with
          | true =>
            rw [hx] at e2
            cases e2
            exact absurd hz (by decide)
          | false =>
            rw [hx] at e2
            rcases refOff n hB with ⟨c1, c2⟩ | ⟨c1, c2⟩
            · rw [c2] at e2
              cases e2
              exact ⟨rfl, hall, hs, hm, rfl⟩
            · rw [c2] at e2
              cases e2
              exact absurd hz (by decide)
      · rw [b2] at e2
        cases e2
        exact absurd hz (by decide)
    · rw [a2] at e2
      cases e2
      exact absurd hz (by decide)
theorem node_len (n : Node) (k : Int) (h : ref03_node n k = true) : k = 1 ∨ k = 2 := by
  simp only [ref03_node, ref03_node_q, ref03_node_r17_p, ref03_node_r17_q, ref03_node_j2_p, ref03_node_j2_q, Bool.cond_false_right, Bool.and_eq_true, beq_iff_eq] at h
  have := h.2.1
  cases ht : ref03_Two n.1 with
  | true => rw [ht] at this; exact .inr this
  | false => rw [ht] at this; exact .inl this
theorem node_pad (n : Node) (k : Int) (h : ref03_node n k = true) (h9 : n.1 = 9) : k = 1 := by
  simp only [ref03_node, ref03_node_q, ref03_node_r17_p, ref03_node_r17_q, ref03_node_j2_p, ref03_node_j2_q, Bool.cond_false_right, Bool.and_eq_true, beq_iff_eq] at h
  have := h.2.1
  rw [h9] at this
  exact this
theorem made_pad (n : Node) (a : I4) (h9 : n.1 = 9) : ref03_made n [a] = some (IntKind.wrap .i64 (a.1 + 2), IntKind.wrap .i64 (a.2.1 + 2), a.2.2.1) := by
  obtain ⟨op, r⟩ := n
  replace h9 : op = 9 := h9
  subst h9
  rfl
end Go.V.P
