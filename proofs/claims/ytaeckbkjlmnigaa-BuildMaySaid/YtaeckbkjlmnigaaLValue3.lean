/- Plain laws of layer 3: what any node makes of any values. -/
import Derived.Test.YtaeckbkjlmnigaaLValue2
namespace Go.V.P
open Go Go.V Go.IntWalk
set_option linter.unusedVariables false
set_option linter.unusedSimpArgs false
theorem op0 (n : Node) (l : List I4) (ho : ¬(1 ≤ n.1 ∧ n.1 ≤ 12)) : ∃ Y, graph_of n.1 = some Y ∧ graph_Value_r2_p n l Y = true ∧ ref03_node n (l.length : Int) = false := by
  have h : ∀ k : Int, 1 ≤ k → k ≤ 12 → (n.1 == k) = false := fun k h1 h2 => by
    simp only [beq_eq_false_iff_ne]; omega
  have hn : ref03_node n (l.length : Int) = false := by
    have : ref03_in n.1 1 12 = false := (in_not _ _ _).2 ho
    simp only [ref03_node, ref03_node_q, ref03_node_r17_p, ref03_node_r17_q, this, cond_false]
  have hj : graph_of_j2_p n.1 = some (Sum.inr ()) := by
    simp only [graph_of_j2_p, graph_of_j15_p, graph_of_j15_q, graph_of_j18_p, graph_of_j18_q, h 1 (by omega) (by omega), h 2 (by omega) (by omega), h 3 (by omega) (by omega), h 4 (by omega) (by omega), h 5 (by omega) (by omega), h 6 (by omega) (by omega), h 7 (by omega) (by omega), h 8 (by omega) (by omega), h 9 (by omega) (by omega), h 10 (by omega) (by omega), h 11 (by omega) (by omega), h 12 (by omega) (by omega), cond_false]
  have hv : ∃ Y, graph_of n.1 = some Y ∧ Y.2 = false := by
    unfold graph_of
    rw [hj]
    exact ⟨_, rfl, rfl⟩
  obtain ⟨Y, h1, h2⟩ := hv
  refine ⟨Y, h1, ?_, hn⟩
  unfold graph_Value_r2_p graph_Value_r2_q
  rw [h2]
  rfl
theorem op_any (n : Node) (l : List I4) : ∃ Y, graph_of n.1 = some Y ∧ graph_Value_r2_p n l Y = !(ref03_node n (l.length : Int)) ∧ (ref03_node n (l.length : Int) = true → Y.1.2.2.2.2.2.1 = ref03_keeps n.1 ∧ graph_Value_r8_p n l Y = ref03_made n l ∧ graph_Value_r11_p n l Y = ref03_Value_r16_p n l ∧ (ref03_made n l).isSome = true ∧ (ref03_Value_r16_p n l).isSome = true) := by
  by_cases ho : 1 ≤ n.1 ∧ n.1 ≤ 12
  · have hc : n.1 = 1 ∨ n.1 = 2 ∨ n.1 = 3 ∨ n.1 = 4 ∨ n.1 = 5 ∨ n.1 = 6 ∨ n.1 = 7 ∨ n.1 = 8 ∨ n.1 = 9 ∨ n.1 = 10 ∨ n.1 = 11 ∨ n.1 = 12 := by omega
    have key : ∃ Y, graph_of n.1 = some Y ∧ graph_Value_r2_p n l Y = !(ref03_node n (l.length : Int)) ∧ Y.1.2.2.2.2.2.1 = ref03_keeps n.1 ∧ (ref03_node n (l.length : Int) = true → graph_Value_r8_p n l Y = ref03_made n l ∧ graph_Value_r11_p n l Y = ref03_Value_r16_p n l ∧ (ref03_made n l).isSome = true ∧ (ref03_Value_r16_p n l).isSome = true) := by
      rcases hc with h | h | h | h | h | h | h | h | h | h | h | h
      · exact op1 n l h
      · exact op2 n l h
      · exact op3 n l h
      · exact op4 n l h
      · exact op5 n l h
      · exact op6 n l h
      · exact op7 n l h
      · exact op8 n l h
      · exact op9 n l h
      · exact op10 n l h
      · exact op11 n l h
      · exact op12 n l h
    obtain ⟨Y, h1, h2, h3, h4⟩ := key
    exact ⟨Y, h1, h2, fun hn => ⟨h3, h4 hn⟩⟩
  · obtain ⟨Y, h1, h2, h3⟩ := op0 n l ho
    exact ⟨Y, h1, by rw [h2, h3]; rfl, fun hn => absurd hn (by rw [h3]; decide)⟩
theorem ContainsOff (l : List Int) (hl : l.length < 1000000) : slices_ContainsFuncint32_int32 l = some (l.any offB) := by
  unfold slices_ContainsFuncint32_int32 slices_IndexFuncint32_int32
  rcases any_loop (d := 0) (l := l) (f := offB) (p := slices_IndexFuncint32_int32_l2_p l) (bad := fun i => (i : Int)) hl (fun i hi => by
    obtain ⟨t1, t2, t3⟩ := step_t hi hl
    have e : graph_Value_3 (gt l (i : Int) 0) = offB (gt l (i : Int) 0) := by
      simp only [graph_Value_3, graph_Value_3_q, within_in, offB]
    simp only [slices_IndexFuncint32_int32_l2_p, slices_IndexFuncint32_int32_r4_p, e, t1, t2, t3, cond_true, Option.bind_some]
    cases offB (gt l (i : Int) 0) <;> rfl) (by
    simp only [slices_IndexFuncint32_int32_l2_p]
    rw [decide_eq_false (Int.lt_irrefl _)]
    rfl) with ⟨h1, h2⟩ | ⟨h1, i, h2⟩
  · rw [h1, h2]; rfl
  · rw [h1, h2]
    simp only [Option.bind_some, either]
    rw [decide_eq_true (by omega)]
theorem any_and {α : Type} (c : Bool) (f : α → Bool) (l : List α) : (l.any fun v => c && f v) = (c && l.any f) := by
  cases c with
  | true => simp only [Bool.true_and]
  | false => simp only [Bool.false_and, List.any_eq_false]; intro x _; decide
theorem refKeeps (n : Node) (l : List I4) (hl : l.length < 1000000) : ((ref03_keeps n.1 && l.any fun v => v.2.2.2 != nZ n) = false ∧ iterN (ref03_Value_l4_p n l) LL 0 = some (.inl (l.length : Int))) ∨ ((ref03_keeps n.1 && l.any fun v => v.2.2.2 != nZ n) = true ∧ iterN (ref03_Value_l4_p n l) LL 0 = some (.inr ())) := by
  rcases any_loop (d := dI4) (l := l) (f := fun v => ref03_keeps n.1 && (v.2.2.2 != nZ n)) (p := ref03_Value_l4_p n l) (bad := fun i => ()) hl (fun i hi => by
    obtain ⟨t1, t2, t3⟩ := step_t hi hl
    simp only [ref03_Value_l4_p, ref03_Value_r6_p, t1, t2, t3, cond_true]
    cases ref03_keeps n.1 with
    | false => rfl
    | true => cases h : ((gt l (i : Int) dI4).2.2.2 != nZ n) <;> simp [h]) (by
    simp only [ref03_Value_l4_p]
    rw [decide_eq_false (Int.lt_irrefl _)]
    rfl) with ⟨h1, h2⟩ | ⟨h1, i, h2⟩
  · exact .inl ⟨by rw [← any_and]; exact h1, h2⟩
  · exact .inr ⟨by rw [← any_and]; exact h1, h2⟩
theorem refMay (l : List I4) (hl : l.length < 1000000) : ((l.any fun v => !mayB (vS v)) = false ∧ iterN (ref03_Value_l9_p l) LL 0 = some (.inl (l.length : Int))) ∨ ((l.any fun v => !mayB (vS v)) = true ∧ iterN (ref03_Value_l9_p l) LL 0 = some (.inr ())) := by
  rcases any_loop (d := dI4) (l := l) (f := fun v => !mayB (vS v)) (p := ref03_Value_l9_p l) (bad := fun i => ()) hl (fun i hi => by
    obtain ⟨t1, t2, t3⟩ := step_t hi hl
    simp only [ref03_Value_l9_p, ref03_Value_r11_p, ref02_May_eq, t1, t2, t3, cond_true]
    show _ = some (if (!mayB (vS (gt l (i : Int) dI4))) = true then _ else _)
    cases mayB (vS (gt l (i : Int) dI4)) <;> rfl) (by
    simp only [ref03_Value_l9_p]
    rw [decide_eq_false (Int.lt_irrefl _)]
    rfl) with ⟨h1, h2⟩ | ⟨h1, i, h2⟩
  · exact .inl ⟨h1, h2⟩
  · exact .inr ⟨h1, h2⟩
theorem refOff (n : Node) (hl : (nB n).length < 1000000) : ((nB n).any offB = false ∧ iterN (ref03_Value_l20_p n) LL 0 = some (.inl ((nB n).length : Int))) ∨ ((nB n).any offB = true ∧ iterN (ref03_Value_l20_p n) LL 0 = some (.inr ())) := by
  rcases any_loop (d := 0) (l := nB n) (f := offB) (p := ref03_Value_l20_p n) (bad := fun i => ()) hl (fun i hi => by
    obtain ⟨t1, t2, t3⟩ := step_t hi hl
    simp only [ref03_Value_l20_p, ref03_Value_r22_p, t1, t2, t3, cond_true]
    show _ = some (if offB (gt (nB n) (i : Int) 0) = true then _ else _)
    unfold offB
    cases ref03_in (IntKind.wrap .i64 (gt (nB n) (i : Int) 0)) (-16777216 : Int) (16777216 : Int) <;> rfl) (by
    simp only [ref03_Value_l20_p]
    rw [decide_eq_false (Int.lt_irrefl _)]
    rfl) with ⟨h1, h2⟩ | ⟨h1, i, h2⟩
  · exact .inl ⟨h1, h2⟩
  · exact .inr ⟨h1, h2⟩
theorem Value_eq (n : Node) (l : List I4) (hl : l.length < 1000000) (hB : (nB n).length < 1000000) : ∃ z, graph_Value n l = some z ∧ ref03_Value n l = some z := by
  obtain ⟨Y, h1, h2, h3⟩ := op_any n l
  unfold graph_Value ref03_Value
  rw [h1]
  simp only [Option.bind_some]
  rw [h2]
  cases hn : ref03_node n (l.length : Int) with
  | false => exact ⟨_, rfl, rfl⟩
  | true =>
    obtain ⟨k1, k2, k3, k4, k5⟩ := h3 hn
    obtain ⟨s, hs⟩ := Option.isSome_iff_exists.1 k4
    obtain ⟨w, hw⟩ := Option.isSome_iff_exists.1 k5
    have h4 : graph_Value_r4_p n l Y = some (ref03_keeps n.1 && l.any fun v => v.2.2.2 != nZ n) := by
      simp only [graph_Value_r4_p, k1]
      rw [ContainsZero l n hl]
      cases ref03_keeps n.1 <;> rfl
    rw [h4, k2, k3, hs, hw, ContainsMay l hl]
    simp only [Bool.not_true, cond_false, Option.bind_some]
    rcases refKeeps n l hl with ⟨a1, a2⟩ | ⟨a1, a2⟩
    · rw [a1, a2]
      simp only [cond_false, Option.bind_some, either]
      rcases refMay l hl with ⟨b1, b2⟩ | ⟨b1, b2⟩
      · rw [b1, b2]
        simp only [cond_false, Option.bind_some, either, shape_May_eq, ref02_May_eq]
        cases hm : mayB s with
        | false => exact ⟨_, rfl, rfl⟩
        | true =>
          simp only [if_true, bne_self_eq_false, cond_false, graph_Value_r12_p, ref03_Value_r17_p, ref03_Value_r17_q, ContainsOff _ hB]
          cases ((n.2.2.2.2.2.2.2.2.2.2.2.2.1.length : Int) != w.1) with
          | true => exact ⟨_, rfl, rfl⟩
          | false =>
            cases ((n.2.2.2.2.2.2.2.2.2.2.2.2.2.length : Int) != w.2) with
            | true => exact ⟨_, rfl, rfl⟩
            | false =>
              rcases refOff n hB with ⟨c1, c2⟩ | ⟨c1, c2⟩
              · rw [c1, c2]; exact ⟨_, rfl, rfl⟩
              · rw [c1, c2]; exact ⟨_, rfl, rfl⟩
      · rw [b1, b2]; exact ⟨_, rfl, rfl⟩
    · rw [a1, a2]; exact ⟨_, rfl, rfl⟩
def okNode (n : Node) : Prop := n.2.1.length < 1000000 ∧ (nW n).length < 1000000 ∧ (nB n).length < 1000000
theorem cut_ok {α : Type} (l : List α) (n : Nat) (hn : n < 1000000) : ∃ m : List α, (bif decide ((l.length : Int) > (n : Int)) then (bif decide ((n : Int) ≤ (l.length : Int)) then some ((l.take (Int.toNat (n : Int))).drop (Int.toNat (0 : Int))) else none) else some l) = some m ∧ m.length < 1000000 := by
  by_cases h : l.length > n
  · rw [decide_eq_true (by omega), decide_eq_true (by omega)]
    refine ⟨_, rfl, ?_⟩
    simp only [List.length_drop, List.length_take]
    omega
  · rw [decide_eq_false (by omega)]
    exact ⟨_, rfl, by omega⟩
end Go.V.P
