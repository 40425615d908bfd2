/- Plain laws of layer 2: reaches and whole windows hold for every input. -/
import Derived.Test.YtlkfbfdleifmiaaLReach
namespace Go.V.P
open Go Go.V Go.IntWalk
set_option linter.unusedVariables false
theorem mask8 (x : Int) (m : Nat) (hm : m < 256) : 1 ≤ IntKind.wrap .i64 (1 + IntKind.wrap .i64 (IntKind.wrap .u8 ((BitVec.ofInt (IntKind.bits .u8) x &&& BitVec.ofInt (IntKind.bits .u8) (m : Int)).toNat : Int))) ∧ IntKind.wrap .i64 (1 + IntKind.wrap .i64 (IntKind.wrap .u8 ((BitVec.ofInt (IntKind.bits .u8) x &&& BitVec.ofInt (IntKind.bits .u8) (m : Int)).toNat : Int))) ≤ 1 + m := by
  obtain ⟨n, en, n1, n2⟩ := and8_le x m hm
  rw [en, i64_in n (by omega), i64_in _ (by omega)]
  omega
theorem ShapeReaches_true (x y : Int) (w : A2) (hx : Ts.ok (.one (.int .u8)) x) (hy : Ts.ok (.one (.int .u8)) y) (_ : Ts.ok tsA2 w) : law02_ShapeReaches x y w = some true := by
  replace hx : 0 ≤ x ∧ x ≤ 255 := hx
  replace hy : 0 ≤ y ∧ y ≤ 255 := hy
  have hk : 1 ≤ law02_ShapeReaches_r2_p w ∧ law02_ShapeReaches_r2_p w ≤ 4 := mask8 w.1 3 (by omega)
  have hs : 1 ≤ law02_ShapeReaches_r3_p w ∧ law02_ShapeReaches_r3_p w ≤ 2 := mask8 w.2.1 1 (by omega)
  have hp : 0 ≤ law02_ShapeReaches_r4_p w ∧ law02_ShapeReaches_r4_p w ≤ 1 := by
    obtain ⟨n, en, n1, n2⟩ := and8_le w.2.2.1 1 (by omega)
    rw [show law02_ShapeReaches_r4_p w = IntKind.wrap .i64 n from congrArg (IntKind.wrap .i64) en, i64_in n (by omega)]
    omega
  have hz : 1 ≤ law02_ShapeReaches_r5_p w ∧ law02_ShapeReaches_r5_p w ≤ 16 := mask8 w.2.2.2 15 (by omega)
  unfold law02_ShapeReaches law02_ShapeReaches_q law02_ShapeReaches_r9_p law02_ShapeReaches_r9_q law02_ShapeReaches_r10_p law02_ShapeReaches_r10_q law02_ShapeReaches_r11_p law02_ShapeReaches_r11_q law02_ShapeReaches_r16_p law02_ShapeReaches_r16_q law02_ShapeReaches_r17_p law02_ShapeReaches_r17_q law02_ShapeReaches_r18_p law02_ShapeReaches_r18_q
  generalize law02_ShapeReaches_r2_p w = k at *
  generalize law02_ShapeReaches_r3_p w = stride at *
  generalize law02_ShapeReaches_r4_p w = pad at *
  generalize law02_ShapeReaches_r5_p w = size at *
  have hw : winB size k stride pad = true := winB_iff.2 (by omega)
  have ho := outV_in size k stride pad
  have w1 := i64_in (2 * pad) (by omega)
  have w2 := i64_in (size + 2 * pad) (by omega)
  have w3 := i64_in x (by omega)
  have w4 := i64_in y (by omega)
  simp only [shown02, shape_Out_eq, shape_Reach_eq, Option.bind_some, w1, w2, w3, w4]
  by_cases hn : outV size k stride pad = 0
  · have h0 := out_iff hw 0 (by omega)
    have hr : reachV 0 1 k stride pad size = (0, 0) := by unfold reachV; rw [if_pos (by omega)]
    have d1 : decide (k > size + 2 * pad) = true := decide_eq_true (by omega)
    simp only [hn, hr, d1, beq_self_eq_true, cond_true]
  · have hb : (outV size k stride pad == 0) = false := by simpa using hn
    have ht := i64_tmod (x := x) (y := outV size k stride pad) hx.1 (by omega)
    have hlast := (out_iff hw (outV size k stride pad - 1) (by omega)).1 (by omega)
    have hnext := mt (out_iff hw (outV size k stride pad) (by omega)).2 (by omega)
    have hm := mul_in' (a := outV size k stride pad) (b := stride) (c := 96) (d := 2) (by omega) (by omega) (by omega) (by omega)
    have hm2 := mul_in' (a := outV size k stride pad - 1) (b := stride) (c := 96) (d := 2) (by omega) (by omega) (by omega) (by omega)
    have w5 := i64_in (outV size k stride pad - 1) (by omega)
    have w6 := i64_in ((outV size k stride pad - 1) * stride) (by omega)
    have w7 := i64_in ((outV size k stride pad - 1) * stride + k) (by omega)
    have w8 := i64_in (outV size k stride pad * stride) (by omega)
    have w9 := i64_in (outV size k stride pad * stride + k) (by omega)
    have d1 : decide ((outV size k stride pad - 1) * stride + k ≤ size + 2 * pad) = true := decide_eq_true hlast
    have d2 : decide (outV size k stride pad * stride + k > size + 2 * pad) = true := decide_eq_true (by omega)
    simp only [hb, cond_false, Option.bind_some, w5, w6, w7, w8, w9, d1, d2]
    generalize Int.tmod x (outV size k stride pad) = t at *
    have w10 := i64_in (outV size k stride pad - t) (by omega)
    have hu := i64_tmod (x := y) (y := outV size k stride pad - t) hy.1 (by omega)
    have b2 : (outV size k stride pad - t == 0) = false := by simp only [beq_eq_false_iff_ne]; omega
    simp only [w10, b2, cond_false]
    generalize Int.tmod y (outV size k stride pad - t) = u at *
    have w11 := i64_in (1 + u) (by omega)
    have w12 := i64_in (t + (1 + u)) (by omega)
    have w13 := i64_in (t + (1 + u) - 1) (by omega)
    have w14 := i64_in (outV size k stride pad - t + 1) (by omega)
    have hD : reachV t (outV size k stride pad - t + 1) k stride pad size = (0, 0) := by unfold reachV; rw [if_pos (by omega)]
    simp only [w11, Option.bind_some, w12, w13, w14, hD]
    have q1 : ∀ p, 0 ≤ p → p < outV size k stride pad → ¬ loV stride pad p < hiV size k stride pad p → (decide (pad > 0) = true ∧ decide (k ≤ pad) = true) ∧ (reachV p 1 k stride pad size).2 = 0 := fun p p1 p2 p3 => by
      have := empty_pad hw p1 p2 p3
      refine ⟨⟨decide_eq_true (by omega), decide_eq_true (by omega)⟩, ?_⟩
      by_cases h : (reachV p 1 k stride pad size).2 = 0
      · exact h
      · exact absurd (reachV_one p1 p2 h) p3
    by_cases ha : loV stride pad t < hiV size k stride pad t
    · by_cases hb : loV stride pad (t + (1 + u) - 1) < hiV size k stride pad (t + (1 + u) - 1)
      · have A := reachV_ends (first := t) (rows := 1 + u) (k := k) (stride := stride) (pad := pad) (size := size) (by omega) (by omega) (by omega) ha hb
        have B := reachV_ends (first := t) (rows := 1) (k := k) (stride := stride) (pad := pad) (size := size) (by omega) (by omega) (by omega) ha (by rw [show t + 1 - 1 = t by omega]; exact ha)
        have C := reachV_ends (first := t + (1 + u) - 1) (rows := 1) (k := k) (stride := stride) (pad := pad) (size := size) (by omega) (by omega) (by omega) hb (by rw [show t + (1 + u) - 1 + 1 - 1 = t + (1 + u) - 1 by omega]; exact hb)
        rw [show t + 1 - 1 = t by omega] at B
        rw [show t + (1 + u) - 1 + 1 - 1 = t + (1 + u) - 1 by omega] at C
        have hup := ends_up (stride := stride) (p := t) (q := t + (1 + u) - 1) size k pad (by omega) (by omega)
        have p1 : 0 ≤ loV stride pad t := by unfold loV; omega
        have p2 : hiV size k stride pad (t + (1 + u) - 1) ≤ size := by unfold hiV; omega
        have g1 : (hiV size k stride pad (t + (1 + u) - 1) == 0) = false := by simp only [beq_eq_false_iff_ne]; omega
        have g2 : (hiV size k stride pad t == 0) = false := by simp only [beq_eq_false_iff_ne]; omega
        have g3 : decide (loV stride pad t ≤ loV stride pad (t + (1 + u) - 1)) = true := decide_eq_true hup.1
        have g4 : decide (hiV size k stride pad t ≤ hiV size k stride pad (t + (1 + u) - 1)) = true := decide_eq_true hup.2
        have g5 : decide (hiV size k stride pad (t + (1 + u) - 1) ≤ size) = true := decide_eq_true p2
        simp only [A, B, C, g1, g2, g3, g4, g5, cond_false, cond_true, beq_self_eq_true]
      · obtain ⟨⟨e1, e2⟩, e3⟩ := q1 _ (by omega) (by omega) hb
        simp only [e1, e2, e3, cond_true, beq_self_eq_true]
        cases ((reachV t (1 + u) k stride pad size).2 == 0) <;> cases ((reachV t 1 k stride pad size).2 == 0) <;> rfl
    · obtain ⟨⟨e1, e2⟩, e3⟩ := q1 _ (by omega) (by omega) ha
      simp only [e1, e2, e3, cond_true, beq_self_eq_true]
      cases ((reachV t (1 + u) k stride pad size).2 == 0) <;> rfl
theorem ShapeWhole_true (x y z : Int) (hx : Ts.ok (.one (.int .u8)) x) (hy : Ts.ok (.one (.int .u8)) y) (_ : Ts.ok (.one (.int .u8)) z) : law02_ShapeWhole x y z = some true := by
  replace hy : 0 ≤ y ∧ y ≤ 255 := hy
  have hz : 1 ≤ law02_ShapeWhole_r2_p x ∧ law02_ShapeWhole_r2_p x ≤ 16 := mask8 x 15 (by omega)
  have hs : 1 ≤ law02_ShapeWhole_r4_p z ∧ law02_ShapeWhole_r4_p z ≤ 2 := mask8 z 1 (by omega)
  have ht := i64_tmod (x := y) (y := 3) hy.1 (by omega)
  have w1 := i64_in y (by omega)
  have hp : 0 ≤ law02_ShapeWhole_r5_p y z ∧ law02_ShapeWhole_r5_p y z ≤ min 1 (Int.tmod y 3) := by
    unfold law02_ShapeWhole_r5_p law02_ShapeWhole_r5_q
    obtain ⟨n, en, n1, n2⟩ := and8_le (Int.fdiv z (2 ^ min (Int.toNat (1 : Int)) (IntKind.bits .u8))) 1 (by omega)
    rw [show ((1 : Nat) : Int) = 1 from rfl] at en
    rw [en, w1, i64_in n (by omega), i64_in (1 + Int.tmod y 3) (by omega), show 1 + Int.tmod y 3 - 1 = Int.tmod y 3 by omega, i64_in (Int.tmod y 3) (by omega)]
    have := mul_in' (a := n) (b := min 1 (Int.tmod y 3)) (c := 1) (d := min 1 (Int.tmod y 3)) (by omega) (by omega) (by omega) (by omega)
    rw [i64_in _ (by omega)]
    show 0 ≤ n * min 1 (Int.tmod y 3) ∧ n * min 1 (Int.tmod y 3) ≤ min 1 (Int.tmod y 3)
    omega
  have hl11 : ∀ o Y s, law02_ShapeWhole_l11_p x y z o Y s = law02_ShapeWhole_l11_q x y z o Y s (fun y => some (Sum.inl y)) (fun y => some (Sum.inr (Sum.inl y))) (fun y => some (Sum.inr (Sum.inr y))) := fun _ _ _ => rfl
  unfold law02_ShapeWhole law02_ShapeWhole_q law02_ShapeWhole_r8_p law02_ShapeWhole_r8_q law02_ShapeWhole_r16_p law02_ShapeWhole_r16_q
  unfold law02_ShapeWhole_l11_q law02_ShapeWhole_r14_p law02_ShapeWhole_r14_q at hl11
  generalize law02_ShapeWhole_r2_p x = size at *
  generalize law02_ShapeWhole_r4_p z = stride at *
  generalize law02_ShapeWhole_r5_p y z = pad at *
  rw [w1, i64_in (1 + Int.tmod y 3) (by omega)] at *
  generalize hk : 1 + Int.tmod y 3 = k at *
  have hw : winB size k stride pad = true := winB_iff.2 (by omega)
  have ho := outV_in size k stride pad
  have w2 := i64_in (2 * pad) (by omega)
  have w3 := i64_in (size + 2 * pad) (by omega)
  simp only [shown02, shape_Out_eq, shape_Reach_eq, Option.bind_some, w2, w3]
  by_cases hn : outV size k stride pad = 0
  · have h0 := out_iff hw 0 (by omega)
    have d1 : decide (size + 2 * pad < k) = true := decide_eq_true (by omega)
    simp only [hn, d1, beq_self_eq_true, cond_true]
  · have hb : (outV size k stride pad == 0) = false := by simpa using hn
    have hlast := (out_iff hw (outV size k stride pad - 1) (by omega)).1 (by omega)
    have hnext := mt (out_iff hw (outV size k stride pad) (by omega)).2 (by omega)
    have full : ∀ p, 0 ≤ p → p < outV size k stride pad → loV stride pad p < hiV size k stride pad p := fun p p1 p2 => by
      by_cases h : loV stride pad p < hiV size k stride pad p
      · exact h
      · have := empty_pad hw p1 p2 h; omega
    have A := reachV_ends (first := 0) (rows := outV size k stride pad) (k := k) (stride := stride) (pad := pad) (size := size) (by omega) (by omega) (by omega) (full _ (by omega) (by omega)) (full _ (by omega) (by omega))
    rw [show 0 + outV size k stride pad - 1 = outV size k stride pad - 1 by omega] at A
    have hl := iterN_for (p := law02_ShapeWhole_l11_p x y z (outV size k stride pad) (reachV 0 (outV size k stride pad) k stride pad size)) (z := (.inl (outV size k stride pad) : Int ⊕ Unit)) (outV size k stride pad).toNat (fun i => (i : Int)) LL (LL_lt (by omega)) (fun i hi => by
      have h3 := full (i : Int) (by omega) (by omega)
      have B := reachV_ends (first := (i : Int)) (rows := 1) (k := k) (stride := stride) (pad := pad) (size := size) (by omega) (by omega) (by omega) h3 (by rw [show (i : Int) + 1 - 1 = i by omega]; exact h3)
      rw [show (i : Int) + 1 - 1 = i by omega] at B
      have u1 := ends_up (stride := stride) (p := 0) (q := (i : Int)) size k pad (by omega) (by omega)
      have u2 := ends_up (stride := stride) (p := (i : Int)) (q := outV size k stride pad - 1) size k pad (by omega) (by omega)
      have u3 : hiV size k stride pad (i : Int) - loV stride pad (i : Int) ≤ k := by unfold hiV loV; omega
      have u4 : 0 ≤ loV stride pad (i : Int) := by unfold loV; omega
      have u5 : hiV size k stride pad (i : Int) ≤ size := by unfold hiV; omega
      have w4 := i64_in (hiV size k stride pad (i : Int) - loV stride pad (i : Int)) (by omega)
      have w5 := i64_in ((i : Int) + 1) (by omega)
      have d1 : decide ((i : Int) < outV size k stride pad) = true := decide_eq_true (by omega)
      have d2 : decide (hiV size k stride pad (i : Int) - loV stride pad (i : Int) > k) = false := decide_eq_false (by omega)
      have d3 : decide (hiV size k stride pad (i : Int) ≤ loV stride pad (i : Int)) = false := decide_eq_false (by omega)
      have d4 : decide (loV stride pad (i : Int) < loV stride pad 0) = false := decide_eq_false (by omega)
      have d5 : decide (hiV size k stride pad (i : Int) > hiV size k stride pad (outV size k stride pad - 1)) = false := decide_eq_false (by omega)
      rw [hl11]
      simp only [shape_Reach_eq, Option.bind_some, A, B, w4, w5, d1, d2, d3, d4, d5, cond_true, cond_false]
      rfl) (by
      rw [hl11, show (((outV size k stride pad).toNat : Nat) : Int) = outV size k stride pad by omega, decide_eq_false (by omega)]
      rfl)
    rw [show ((0 : Nat) : Int) = 0 from rfl] at hl
    have e0 : loV stride pad 0 = 0 := by unfold loV; omega
    have e1 : hiV size k stride pad (outV size k stride pad - 1) ≤ size := by unfold hiV; omega
    have e2 : hiV size k stride pad (outV size k stride pad - 1) > size - stride := by
      unfold hiV
      have : outV size k stride pad * stride = (outV size k stride pad - 1) * stride + stride := by rw [Int.sub_mul, Int.one_mul]; omega
      omega
    have e3 : stride ≤ 1 → hiV size k stride pad (outV size k stride pad - 1) = size := fun h => by omega
    have w6 := i64_in (size - stride) (by omega)
    rw [A, e0] at hl
    simp only [hb, cond_false, hl, Option.bind_some, either, A, e0, beq_self_eq_true, cond_true, decide_eq_true e1, w6, decide_eq_true e2]
    by_cases hs1 : stride > 1
    · rw [decide_eq_true hs1]; rfl
    · rw [decide_eq_false hs1, e3 (by omega)]; simp
end Go.V.P
