/- Plain laws of layer 1: the document's divisions, shifts and scales. -/
import Derived.Test.YtdgdgoekapekpaaGreatLScale
import Derived.Test.YtdgdgoekapekpaaGreatEc2
namespace Go.V.P
open Go Go.V Go.IntWalk
set_option linter.unusedVariables false
set_option linter.unusedSimpArgs false
set_option maxRecDepth 20000
theorem rnd_up {a b : Int} (hb : 1 ≤ b) (ha : 0 ≤ a) : (a + b / 2) / b = if 2 * (a % b) ≥ b then a / b + 1 else a / b := by
  have h1 := Int.mul_ediv_add_emod a b
  have h2 := Int.emod_nonneg a (show b ≠ 0 by omega)
  have h3 := Int.emod_lt_of_pos a (show 0 < b by omega)
  generalize a / b = q at *
  generalize a % b = r at *
  have e : a + b / 2 = (r + b / 2) + b * q := by omega
  rw [e, Int.add_mul_ediv_left _ _ (by omega)]
  split
  · have : (r + b / 2) / b = 1 := by
      rw [show r + b / 2 = (r + b / 2 - b) + b * 1 by omega, Int.add_mul_ediv_left _ _ (by omega), Int.ediv_eq_zero_of_lt (by omega) (by omega)]
      rfl
    omega
  · rw [Int.ediv_eq_zero_of_lt (by omega) (by omega)]
    omega
theorem ref01_Div_eq {x y : Int} (h0 : -4611686018427387904 ≤ x) (h1 : x ≤ 4611686018427387904) (hy : y ≤ 4611686018427387904) : ref01_Div x y = some (rnd x (max y 1)) := by
  have hb : 1 ≤ max y 1 := by omega
  have hb' : max y 1 ≤ 4611686018427387904 := by omega
  have key : ∀ a : Int, 0 ≤ a → a ≤ 4611686018427387904 → ref01_Div_j3_p x = a → ref01_Div_j6_p x y = some ((a + max y 1 / 2) / max y 1) := fun a ha ha' e => by
    have hz : (max y 1 == 0) = false := by simp only [beq_eq_false_iff_ne]; omega
    unfold ref01_Div_j6_p ref01_Div_r6_p
    simp only [ref01_Div_r7_p, ref01_Div_r7_q, e, hz, cond_false, Option.bind_some]
    have d1 : 0 ≤ a / max y 1 := Int.ediv_nonneg ha (by omega)
    have d2 : a / max y 1 ≤ a := Int.ediv_le_self _ ha
    have m1 := Int.emod_nonneg a (show max y 1 ≠ 0 by omega)
    have m2 := Int.emod_lt_of_pos a (show 0 < max y 1 by omega)
    rw [Int.tdiv_eq_ediv_of_nonneg ha, Int.tmod_eq_emod_of_nonneg ha, i64_in (a / max y 1) (by omega), i64_in (2 * (a % max y 1)) (by omega), i64_in (a / max y 1 + 1) (by omega), rnd_up hb ha]
    by_cases h : 2 * (a % max y 1) ≥ max y 1
    · rw [decide_eq_true h, if_pos h]; rfl
    · rw [decide_eq_false h, if_neg h]; rfl
  have hr5 : ref01_Div_r5_p y = some () := by
    unfold ref01_Div_r5_p
    rw [show ((max y 1) == 0) = false by simp only [beq_eq_false_iff_ne]; omega]
    rfl
  unfold ref01_Div rnd
  rw [hr5]
  simp only [Option.bind_some]
  by_cases hx : x < 0
  · have e : ref01_Div_j3_p x = -x := by
      simp only [ref01_Div_j3_p, ref01_Div_j3_q]
      rw [decide_eq_true hx, i64_in _ (by omega)]
      show 0 - x = -x
      omega
    rw [key (-x) (by omega) (by omega) e, if_pos hx]
    have h2 : 0 ≤ (-x + max y 1 / 2) / max y 1 := Int.ediv_nonneg (by omega) (by omega)
    have h3 : (-x + max y 1 / 2) / max y 1 ≤ -x + max y 1 / 2 := Int.ediv_le_self _ (by omega)
    simp only [Option.bind_some]
    rw [decide_eq_true hx, i64_in _ (by omega)]
    show some (0 - _) = some (- _)
    congr 1
    omega
  · have e : ref01_Div_j3_p x = x := by
      simp only [ref01_Div_j3_p, ref01_Div_j3_q]
      rw [decide_eq_false hx]
      rfl
    rw [key x (by omega) (by omega) e, if_neg hx]
    simp only [Option.bind_some]
    rw [decide_eq_false hx]
    rfl
theorem ref01_Shift_eq {x y : Int} (h0 : -4611686018427387904 ≤ x) (h1 : x ≤ 4611686018427387904) : ref01_Shift x y = some (rnd x (p2 (sh y))) := by
  obtain ⟨s1, s2⟩ := sh_in y
  have hl := iterN_for (p := ref01_Shift_l3_p y) (z := (p2 (sh y), sh y)) (sh y).toNat (fun i => (p2 (i : Int), (i : Int))) LL (LL_lt (by omega)) (fun i hi => by
    have hs : min (max y 0) 31 = sh y := rfl
    have hp := p2_pos (i : Int)
    have hp2 := p2_le (k := (i : Int)) (by omega)
    simp only [ref01_Shift_l3_p, hs]
    rw [decide_eq_true (by omega), i64_in (2 * p2 (i : Int)) (by omega), i64_in ((i : Int) + 1) (by omega), Int.mul_comm, ← p2_succ (by omega)]
    rfl) (by
    have hs : min (max y 0) 31 = sh y := rfl
    simp only [ref01_Shift_l3_p, hs]
    rw [show (((sh y).toNat : Nat) : Int) = sh y by omega, decide_eq_false (Int.lt_irrefl _)]
    rfl)
  have hp := p2_pos (sh y)
  have hp2 := p2_le s2
  unfold ref01_Shift
  rw [show ((1 : Int), (0 : Int)) = (p2 ((0 : Nat) : Int), ((0 : Nat) : Int)) from rfl, hl]
  simp only [Option.bind_some]
  rw [ref01_Div_eq h0 h1 (by omega), show max (p2 (sh y)) 1 = p2 (sh y) by omega]
  rfl
theorem ref01_Scale_eq (acc mul shift zero : Int) : ref01_Scale acc mul shift zero = some (scaleV acc mul shift zero) := by
  have e1 : ref01_Sat acc = min (max acc (-2147483648)) 2147483647 := rfl
  have e3 : ∀ x, ref01_Clamp x = clamp8 x := fun x => rfl
  unfold ref01_Scale scaleV
  rw [e1]
  have hm : 1 ≤ min (max mul 1) 32767 ∧ min (max mul 1) 32767 ≤ 32767 := by omega
  have ha : -2147483648 ≤ min (max acc (-2147483648)) 2147483647 ∧ min (max acc (-2147483648)) 2147483647 ≤ 2147483647 := by omega
  generalize min (max mul 1) 32767 = m at *
  generalize min (max acc (-2147483648)) 2147483647 = a at *
  have h1 : a * m ≤ 2147483648 * 32767 := by
    by_cases h : 0 ≤ a
    · exact Int.mul_le_mul (by omega) hm.2 (by omega) (by omega)
    · have := Int.mul_nonpos_of_nonpos_of_nonneg (a := a) (b := m) (by omega) (by omega)
      omega
  have h2 : -(2147483648 * 32767) ≤ a * m := by
    have : (-a) * m ≤ 2147483648 * 32767 := by
      by_cases h : 0 ≤ -a
      · exact Int.mul_le_mul (by omega) hm.2 (by omega) (by omega)
      · have := Int.mul_nonpos_of_nonpos_of_nonneg (a := -a) (b := m) (by omega) (by omega)
        omega
    rw [Int.neg_mul] at this
    omega
  generalize a * m = x at *
  have hp := p2_pos (sh shift)
  have hl := p2_le (sh_in shift).2
  have hr := rnd_abs (x := x) (b := p2 (sh shift)) (c := 2147483648 * 32767) hp (by omega) (by omega)
  have hz := clamp8_in zero
  rw [i64_in x (by omega), ref01_Shift_eq (by omega) (by omega)]
  simp only [Option.bind_some, e3]
  rw [i64_in _ (by omega)]
end Go.V.P
