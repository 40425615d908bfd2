/- Plain laws of layer 2: steps through a shape hold for every input. -/
import Derived.Test.YtlkfbfdleifmiaaLFin
namespace Go.V.P
open Go Go.V Go.IntWalk
set_option linter.unusedVariables false
theorem mask64 (x : Int) (m : Nat) (hm : m < 1000) : 1 ≤ IntKind.wrap .i64 (1 + IntKind.wrap .i64 ((BitVec.ofInt (IntKind.bits .i64) x &&& BitVec.ofInt (IntKind.bits .i64) (m : Int)).toNat : Int)) ∧ IntKind.wrap .i64 (1 + IntKind.wrap .i64 ((BitVec.ofInt (IntKind.bits .i64) x &&& BitVec.ofInt (IntKind.bits .i64) (m : Int)).toNat : Int)) ≤ 1 + m := by
  obtain ⟨n, en, n1, n2⟩ := and_le x m (by omega)
  rw [en, i64_in _ (by omega)]
  omega
theorem mask64' (x : Int) (m : Nat) (hm : m < 1000) : 0 ≤ IntKind.wrap .i64 ((BitVec.ofInt (IntKind.bits .i64) x &&& BitVec.ofInt (IntKind.bits .i64) (m : Int)).toNat : Int) ∧ IntKind.wrap .i64 ((BitVec.ofInt (IntKind.bits .i64) x &&& BitVec.ofInt (IntKind.bits .i64) (m : Int)).toNat : Int) ≤ m := by
  obtain ⟨n, en, n1, n2⟩ := and_le x m (by omega)
  rw [en]
  omega
theorem indexV_pos {s : I3} {y x c : Int} (hm : mayB s = true) (h : (0 ≤ y ∧ y < s.1) ∧ (0 ≤ x ∧ x < s.2.1) ∧ 0 ≤ c ∧ c < s.2.2) : indexV s y x c = (y * s.2.1 + x) * s.2.2 + c := if_pos ⟨hm, h⟩
theorem indexV_neg {s : I3} {y x c : Int} (h : ¬((0 ≤ y ∧ y < s.1) ∧ (0 ≤ x ∧ x < s.2.1) ∧ 0 ≤ c ∧ c < s.2.2)) : indexV s y x c = -1 := if_neg fun hq => h hq.2
theorem indexV_lt {s : I3} {y x c : Int} (hm : mayB s = true) (h : (0 ≤ y ∧ y < s.1) ∧ (0 ≤ x ∧ x < s.2.1) ∧ 0 ≤ c ∧ c < s.2.2) : 0 ≤ indexV s y x c ∧ indexV s y x c < sizeV s := by
  have hi := inS_in (s := s) (y := y) (x := x) (c := c) ⟨hm, h⟩
  rw [indexV_pos hm h]
  refine ⟨hi.2.2.2.1, ?_⟩
  have e : sizeV s = s.1 * s.2.1 * s.2.2 := if_pos hm
  rw [e]
  have hb := mayB_iff.1 hm
  have m1 : y * s.2.1 ≤ (s.1 - 1) * s.2.1 := Int.mul_le_mul_of_nonneg_right (by omega) (by omega)
  have e1 : (s.1 - 1) * s.2.1 = s.1 * s.2.1 - s.2.1 := by rw [Int.sub_mul, Int.one_mul]
  have m2 : (y * s.2.1 + x) * s.2.2 ≤ (s.1 * s.2.1 - 1) * s.2.2 := Int.mul_le_mul_of_nonneg_right (by omega) (by omega)
  have e2 : (s.1 * s.2.1 - 1) * s.2.2 = s.1 * s.2.1 * s.2.2 - s.2.2 := by rw [Int.sub_mul, Int.one_mul]
  omega
theorem ShapeSteps_true (s : I3) (at_ : A3) (_ : Ts.ok tsI3 s) (ha : Ts.ok tsA3 at_) : law02_ShapeSteps s at_ = some true := by
  obtain ⟨a1, a2, a3⟩ := at_
  obtain ⟨ha1, ha2, ha3⟩ : (0 ≤ a1 ∧ a1 ≤ 255) ∧ (0 ≤ a2 ∧ a2 ≤ 255) ∧ 0 ≤ a3 ∧ a3 ≤ 255 := ha
  have h1 : 1 ≤ (law02_ShapeSteps_r2_p s).1 ∧ (law02_ShapeSteps_r2_p s).1 ≤ 16 := mask64 s.1 15 (by omega)
  have h2 : 1 ≤ (law02_ShapeSteps_r2_p s).2.1 ∧ (law02_ShapeSteps_r2_p s).2.1 ≤ 16 := mask64 s.2.1 15 (by omega)
  have h3 : 1 ≤ (law02_ShapeSteps_r2_p s).2.2 ∧ (law02_ShapeSteps_r2_p s).2.2 ≤ 8 := mask64 s.2.2 7 (by omega)
  unfold law02_ShapeSteps law02_ShapeSteps_q law02_ShapeSteps_r3_p law02_ShapeSteps_r3_q law02_ShapeSteps_r4_p law02_ShapeSteps_r4_q law02_ShapeSteps_r5_p law02_ShapeSteps_r5_q law02_ShapeSteps_r10_p law02_ShapeSteps_r10_q law02_ShapeSteps_r13_p law02_ShapeSteps_r13_q law02_ShapeSteps_r11_p law02_ShapeSteps_r11_q law02_ShapeSteps_r12_p law02_ShapeSteps_r12_q
  generalize law02_ShapeSteps_r2_p s = S at *
  have hm : mayB S = true := mayB_iff.2 (by omega)
  have q1 : (S.1 == 0) = false := by simp only [beq_eq_false_iff_ne]; omega
  have q2 : (S.2.1 == 0) = false := by simp only [beq_eq_false_iff_ne]; omega
  have q3 : (S.2.2 == 0) = false := by simp only [beq_eq_false_iff_ne]; omega
  have t1 := i64_tmod (x := a1) (y := S.1) ha1.1 (by omega)
  have t2 := i64_tmod (x := a2) (y := S.2.1) ha2.1 (by omega)
  have t3 := i64_tmod (x := a3) (y := S.2.2) ha3.1 (by omega)
  have w1 := i64_in a1 (by omega)
  have w2 := i64_in a2 (by omega)
  have w3 := i64_in a3 (by omega)
  simp only [shown02, q1, q2, q3, cond_false, cond_true, Option.bind_some, shape_Index_eq, shape_Row_eq, shape_Size_eq, w1, w2, w3]
  generalize Int.tmod a1 S.1 = y at *
  generalize Int.tmod a2 S.2.1 = x at *
  generalize Int.tmod a3 S.2.2 = c at *
  have w4 := i64_in (y + 1) (by omega)
  have w5 := i64_in (x + 1) (by omega)
  have w6 := i64_in (c + 1) (by omega)
  have w7 := i64_in (S.1 - 1) (by omega)
  have w8 := i64_in (S.2.1 - 1) (by omega)
  have w9 := i64_in (S.2.2 - 1) (by omega)
  have hr : rowV S = S.2.1 * S.2.2 := if_pos hm
  have hrow := rowV_in S
  have hsz := sizeV_in S
  have hI := indexV_lt hm (y := y) (x := x) (c := c) (by omega)
  have eI := indexV_pos hm (y := y) (x := x) (c := c) (by omega)
  have w10 := i64_in (indexV S y x c + rowV S) (by omega)
  have w11 := i64_in (indexV S y x c + S.2.2) (by omega)
  have w12 := i64_in (indexV S y x c + 1) (by omega)
  have w13 := i64_in (sizeV S - 1) (by omega)
  have f0 : indexV S 0 0 0 = 0 := by rw [indexV_pos hm (by omega)]; simp
  have f1 : indexV S (S.1 - 1) (S.2.1 - 1) (S.2.2 - 1) = sizeV S - 1 := by
    rw [indexV_pos hm (by omega), show sizeV S = S.1 * S.2.1 * S.2.2 from if_pos hm]
    have e1 : (S.1 - 1) * S.2.1 = S.1 * S.2.1 - S.2.1 := by rw [Int.sub_mul, Int.one_mul]
    rw [e1, show S.1 * S.2.1 - S.2.1 + (S.2.1 - 1) = S.1 * S.2.1 - 1 by omega, Int.sub_mul, Int.one_mul]
    omega
  have d1 : decide (indexV S y x c ≥ 0) = true := decide_eq_true hI.1
  have d2 : decide (indexV S y x c < sizeV S) = true := decide_eq_true hI.2
  have k1 : (bif y + 1 == S.1 then bif indexV S (y + 1) x c == -1 then some true else bif decide (y + 1 < S.1) then some (indexV S (y + 1) x c == indexV S y x c + rowV S) else some false else bif decide (y + 1 < S.1) then some (indexV S (y + 1) x c == indexV S y x c + rowV S) else some false) = some true := by
    by_cases h : y + 1 < S.1
    · have e : indexV S (y + 1) x c = indexV S y x c + rowV S := by
        rw [indexV_pos hm (by omega), eI, hr, Int.add_mul y 1, Int.one_mul, Int.add_right_comm, Int.add_mul (y * S.2.1 + x)]
        omega
      rw [show (y + 1 == S.1) = false by simp only [beq_eq_false_iff_ne]; omega, decide_eq_true h, e, beq_self_eq_true]
      rfl
    · rw [show (y + 1 == S.1) = true by simp only [beq_iff_eq]; omega, indexV_neg (by omega)]
      rfl
  have k2 : (bif x + 1 == S.2.1 then bif indexV S y (x + 1) c == -1 then true else bif decide (x + 1 < S.2.1) then (indexV S y (x + 1) c == indexV S y x c + S.2.2) else false else bif decide (x + 1 < S.2.1) then (indexV S y (x + 1) c == indexV S y x c + S.2.2) else false) = true := by
    by_cases h : x + 1 < S.2.1
    · have e : indexV S y (x + 1) c = indexV S y x c + S.2.2 := by
        rw [indexV_pos hm (by omega), eI, ← Int.add_assoc, Int.add_mul (y * S.2.1 + x), Int.one_mul]
        omega
      rw [show (x + 1 == S.2.1) = false by simp only [beq_eq_false_iff_ne]; omega, decide_eq_true h, e, beq_self_eq_true]
      rfl
    · rw [show (x + 1 == S.2.1) = true by simp only [beq_iff_eq]; omega, indexV_neg (by omega)]
      rfl
  have k3 : (bif c + 1 == S.2.2 then bif indexV S y x (c + 1) == -1 then true else bif decide (c + 1 < S.2.2) then (indexV S y x (c + 1) == indexV S y x c + 1) else false else bif decide (c + 1 < S.2.2) then (indexV S y x (c + 1) == indexV S y x c + 1) else false) = true := by
    by_cases h : c + 1 < S.2.2
    · have e : indexV S y x (c + 1) = indexV S y x c + 1 := by
        rw [indexV_pos hm (by omega), eI]
        omega
      rw [show (c + 1 == S.2.2) = false by simp only [beq_eq_false_iff_ne]; omega, decide_eq_true h, e, beq_self_eq_true]
      rfl
    · rw [show (c + 1 == S.2.2) = true by simp only [beq_iff_eq]; omega, indexV_neg (by omega)]
      rfl
  simp only [w4, w5, w6, w7, w8, w9, w10, w11, w12, w13, k1, k2, k3, d1, d2, f0, f1, Option.bind_some, cond_true, beq_self_eq_true]
/-! ### Every place, in turn -/
theorem ix13 (s : I3) (a b : Int × Int) (hm : mayB (law02_ShapeIndexes_r2_p s) = true) (h1 : 0 ≤ a.2 ∧ a.2 < (law02_ShapeIndexes_r2_p s).1) (h2 : 0 ≤ b.2 ∧ b.2 < (law02_ShapeIndexes_r2_p s).2.1) (n : Int) (hn : n = (a.2 * (law02_ShapeIndexes_r2_p s).2.1 + b.2) * (law02_ShapeIndexes_r2_p s).2.2) :
    iterN (law02_ShapeIndexes_l13_p s a b) LL (n, 0) = some (.inl (n + (law02_ShapeIndexes_r2_p s).2.2, (law02_ShapeIndexes_r2_p s).2.2)) := by
  have hb := mayB_iff.1 hm
  have hin := inS_in (s := law02_ShapeIndexes_r2_p s) (y := a.2) (x := b.2) (c := 0) ⟨hm, h1, h2, by omega⟩
  have hl := iterN_for (p := law02_ShapeIndexes_l13_p s a b) (z := (.inl (n + (law02_ShapeIndexes_r2_p s).2.2, (law02_ShapeIndexes_r2_p s).2.2) : (Int × Int) ⊕ Unit)) ((law02_ShapeIndexes_r2_p s).2.2).toNat (fun i => (n + (i : Int), (i : Int))) LL (LL_lt (by omega)) (fun i hi => by
    simp only [law02_ShapeIndexes_l13_p, law02_ShapeIndexes_l13_q, shape_Index_eq, Option.bind_some]
    rw [decide_eq_true (by omega), indexV_pos hm ⟨h1, h2, by omega⟩, ← hn, i64_in (n + (i : Int) + 1) (by omega), i64_in ((i : Int) + 1) (by omega)]
    simp only [cond_true, bne_self_eq_false, cond_false]
    rw [show ((i + 1 : Nat) : Int) = (i : Int) + 1 by omega, Int.add_assoc]) (by
    simp only [law02_ShapeIndexes_l13_p, law02_ShapeIndexes_l13_q]
    rw [decide_eq_false (by omega), show ((((law02_ShapeIndexes_r2_p s).2.2).toNat : Nat) : Int) = (law02_ShapeIndexes_r2_p s).2.2 by omega]
    rfl)
  rw [show (n + ((0 : Nat) : Int), ((0 : Nat) : Int)) = (n, 0) by simp] at hl
  exact hl
theorem ix10 (s : I3) (a : Int × Int) (hm : mayB (law02_ShapeIndexes_r2_p s) = true) (h1 : 0 ≤ a.2 ∧ a.2 < (law02_ShapeIndexes_r2_p s).1) (n : Int) (hn : n = a.2 * ((law02_ShapeIndexes_r2_p s).2.1 * (law02_ShapeIndexes_r2_p s).2.2)) :
    iterN (law02_ShapeIndexes_l10_p s a) LL (n, 0) = some (.inl (n + (law02_ShapeIndexes_r2_p s).2.1 * (law02_ShapeIndexes_r2_p s).2.2, (law02_ShapeIndexes_r2_p s).2.1)) := by
  have hb := mayB_iff.1 hm
  have hl := iterN_for (p := law02_ShapeIndexes_l10_p s a) (z := (.inl (n + (law02_ShapeIndexes_r2_p s).2.1 * (law02_ShapeIndexes_r2_p s).2.2, (law02_ShapeIndexes_r2_p s).2.1) : (Int × Int) ⊕ Unit)) ((law02_ShapeIndexes_r2_p s).2.1).toNat (fun i => (n + (i : Int) * (law02_ShapeIndexes_r2_p s).2.2, (i : Int))) LL (LL_lt (by omega)) (fun i hi => by
    simp only [law02_ShapeIndexes_l10_p, law02_ShapeIndexes_l10_q]
    rw [decide_eq_true (by omega), ix13 s a _ hm h1 (by simp only; omega) _ (by rw [hn, ← Int.mul_assoc, ← Int.add_mul]), i64_in ((i : Int) + 1) (by omega)]
    simp only [cond_true, Option.bind_some, either]
    rw [step_mul, show ((i + 1 : Nat) : Int) = (i : Int) + 1 by omega]) (by
    simp only [law02_ShapeIndexes_l10_p, law02_ShapeIndexes_l10_q]
    rw [decide_eq_false (by omega), show ((((law02_ShapeIndexes_r2_p s).2.1).toNat : Nat) : Int) = (law02_ShapeIndexes_r2_p s).2.1 by omega]
    rfl)
  rw [show (n + ((0 : Nat) : Int) * (law02_ShapeIndexes_r2_p s).2.2, ((0 : Nat) : Int)) = (n, 0) by simp] at hl
  exact hl
theorem ix7 (s : I3) (hm : mayB (law02_ShapeIndexes_r2_p s) = true) :
    iterN (law02_ShapeIndexes_l7_p s) LL (0, 0) = some (.inl (sizeV (law02_ShapeIndexes_r2_p s), (law02_ShapeIndexes_r2_p s).1)) := by
  have hb := mayB_iff.1 hm
  have e : sizeV (law02_ShapeIndexes_r2_p s) = (law02_ShapeIndexes_r2_p s).1 * ((law02_ShapeIndexes_r2_p s).2.1 * (law02_ShapeIndexes_r2_p s).2.2) := by
    rw [← Int.mul_assoc]; exact if_pos hm
  rw [e]
  have hl := iterN_for (p := law02_ShapeIndexes_l7_p s) (z := (.inl (0 + (law02_ShapeIndexes_r2_p s).1 * ((law02_ShapeIndexes_r2_p s).2.1 * (law02_ShapeIndexes_r2_p s).2.2), (law02_ShapeIndexes_r2_p s).1) : (Int × Int) ⊕ Unit)) ((law02_ShapeIndexes_r2_p s).1).toNat (fun i => ((0 : Int) + (i : Int) * ((law02_ShapeIndexes_r2_p s).2.1 * (law02_ShapeIndexes_r2_p s).2.2), (i : Int))) LL (LL_lt (by omega)) (fun i hi => by
    simp only [law02_ShapeIndexes_l7_p, law02_ShapeIndexes_l7_q]
    rw [decide_eq_true (by omega), ix10 s _ hm (by simp only; omega) _ (by rw [Int.zero_add]), i64_in ((i : Int) + 1) (by omega)]
    simp only [cond_true, Option.bind_some, either]
    rw [step_mul, show ((i + 1 : Nat) : Int) = (i : Int) + 1 by omega]) (by
    simp only [law02_ShapeIndexes_l7_p, law02_ShapeIndexes_l7_q]
    rw [decide_eq_false (by omega), show ((((law02_ShapeIndexes_r2_p s).1).toNat : Nat) : Int) = (law02_ShapeIndexes_r2_p s).1 by omega]
    rfl)
  rw [show ((0 : Int) + ((0 : Nat) : Int) * ((law02_ShapeIndexes_r2_p s).2.1 * (law02_ShapeIndexes_r2_p s).2.2), ((0 : Nat) : Int)) = ((0 : Int), (0 : Int)) by simp, Int.zero_add] at hl
  exact hl
theorem ShapeIndexes_true (s : I3) (_ : Ts.ok tsI3 s) : law02_ShapeIndexes s = some true := by
  have h1 : 0 ≤ (law02_ShapeIndexes_r2_p s).1 ∧ (law02_ShapeIndexes_r2_p s).1 ≤ 15 := mask64' s.1 15 (by omega)
  have h2 : 0 ≤ (law02_ShapeIndexes_r2_p s).2.1 ∧ (law02_ShapeIndexes_r2_p s).2.1 ≤ 15 := mask64' s.2.1 15 (by omega)
  have h3 : 0 ≤ (law02_ShapeIndexes_r2_p s).2.2 ∧ (law02_ShapeIndexes_r2_p s).2.2 ≤ 7 := mask64' s.2.2 7 (by omega)
  have hx := ix7 s
  unfold law02_ShapeIndexes law02_ShapeIndexes_q law02_ShapeIndexes_r4_p law02_ShapeIndexes_r4_q law02_ShapeIndexes_r18_p law02_ShapeIndexes_r18_q
  generalize law02_ShapeIndexes_r2_p s = S at *
  simp only [shown02, shape_May_eq, shape_Size_eq, shape_Row_eq, shape_Index_eq, Option.bind_some]
  cases hm : mayB S with
  | false =>
    have e1 : sizeV S = 0 := if_neg (by rw [hm]; decide)
    have e2 : rowV S = 0 := if_neg (by rw [hm]; decide)
    have e3 : indexV S 0 0 0 = -1 := if_neg (fun h => by rw [inS, hm] at h; exact absurd h.1 (by decide))
    rw [e1, e2, e3]
    rfl
  | true =>
    have hb := mayB_iff.1 hm
    have hsz := sizeV_in S
    rw [hx hm]
    have e1 : rowV S * S.1 = sizeV S := by rw [sizeV_row, Int.mul_comm]
    have w1 := i64_in (sizeV S) (by omega)
    have f1 : indexV S S.1 0 0 = -1 := indexV_neg (by omega)
    have f2 : indexV S 0 S.2.1 0 = -1 := indexV_neg (by omega)
    have f3 : indexV S 0 0 S.2.2 = -1 := indexV_neg (by omega)
    have f4 : indexV S (-1) 0 0 = -1 := indexV_neg (by omega)
    simp only [Option.bind_some, either, e1, w1, f1, f2, f3, f4, if_true, bne_self_eq_false, cond_false, cond_true, beq_self_eq_true]
end Go.V.P
