/- Plain laws of layer 1, as far as later layers need them: divisions, shifts, scales. -/
import Derived.Test.YtdgdgoekapekpaaV5
import Derived.Test.YtdgdgoekapekpaaEr1
namespace Go.V.P
open Go Go.V Go.IntWalk
set_option linter.unusedVariables false
theorem div_r4 {x y : Int} (h0 : 0 ≤ x) (h1 : x ≤ 4611686018427387904) (hy : y ≤ 4611686018427387904) : fixed_Div_r4_p x y = some ((x + max y 1 / 2) / max y 1) := by
  have hb : 1 ≤ max y 1 := by omega
  have hb' : max y 1 ≤ 4611686018427387904 := by omega
  simp only [fixed_Div_r4_p]
  generalize max y 1 = b at hb hb'
  have hz : (b == 0) = false := by simp only [beq_eq_false_iff_ne]; omega
  rw [hz, i64_quo b 2 (by omega), i64_in (x + b / 2) (by omega), i64_quo _ _ (by omega)]
  rfl
theorem fixed_Div_eq {x y : Int} (h0 : -4611686018427387904 ≤ x) (h1 : x ≤ 4611686018427387904) (hy : y ≤ 4611686018427387904) : fixed_Div x y = some (rnd x (max y 1)) := by
  have hb : 1 ≤ max y 1 := by omega
  unfold fixed_Div rnd
  by_cases hx : x < 0
  · have e : max (IntKind.wrap .i64 (0 - x)) 0 = -x := by rw [i64_in _ (by omega)]; omega
    have hm : max (max y 1) 1 = max y 1 := by omega
    have h5 : fixed_Div_lv1 (-x) (max y 1) = some ((-x + max y 1 / 2) / max y 1) := by
      have := div_r4 (x := -x) (y := max y 1) (by omega) (by omega) (by omega)
      rw [hm] at this
      unfold fixed_Div_lv1
      rw [decide_eq_false (by omega : ¬ -x < 0), cond_false]
      have e2 : fixed_Div_lv1_r4_p (-x) (max y 1) = fixed_Div_r4_p (-x) (max y 1) := rfl
      rw [e2, this]
      rfl
    rw [if_pos hx, decide_eq_true hx, cond_true, e, h5]
    have h2 : 0 ≤ (-x + max y 1 / 2) / max y 1 := Int.ediv_nonneg (by omega) (by omega)
    have h3 : (-x + max y 1 / 2) / max y 1 ≤ -x + max y 1 / 2 := Int.ediv_le_self _ (by omega)
    simp only [Option.bind_some]
    rw [i64_in _ (by omega)]
    congr 1
    omega
  · rw [if_neg hx, decide_eq_false hx, cond_false, div_r4 (by omega) h1 hy]
    rfl
/-- how many times to halve -/
def sh (y : Int) : Int := min (max y 0) 31
theorem sh_in (y : Int) : 0 ≤ sh y ∧ sh y ≤ 31 := by unfold sh; omega
def p2 (k : Int) : Int := 2 ^ k.toNat
theorem p2_pos (k : Int) : 1 ≤ p2 k := by
  unfold p2
  have : 0 < (2 : Int) ^ k.toNat := Int.pow_pos (by omega)
  omega
theorem p2_le {k : Int} (h : k ≤ 31) : p2 k ≤ 2147483648 := by
  unfold p2
  have h2 : (2 : Nat) ^ k.toNat ≤ 2 ^ 31 := Nat.pow_le_pow_right (by omega) (by omega)
  have : ((2 ^ k.toNat : Nat) : Int) ≤ 2147483648 := by omega
  simpa using this
theorem p2_succ {k : Int} (h : 0 ≤ k) : p2 (k + 1) = p2 k * 2 := by
  unfold p2
  rw [show (k + 1).toNat = k.toNat + 1 by omega, Int.pow_succ]
theorem fixed_Shift_eq {x y : Int} (h0 : -4611686018427387904 ≤ x) (h1 : x ≤ 4611686018427387904) : fixed_Shift x y = some (rnd x (p2 (sh y))) := by
  have e : fixed_held_1 y (((fixed_held (0 : Int) (31 : Int)).1).1) (((fixed_held (0 : Int) (31 : Int)).2.1).1) = sh y := rfl
  obtain ⟨s1, s2⟩ := sh_in y
  unfold fixed_Shift fixed_Shift_r1_p
  rw [e]
  have hm : min (Int.toNat (sh y)) (IntKind.bits .i64) = (sh y).toNat := Nat.min_eq_left (by show _ ≤ 64; omega)
  have hp := p2_pos (sh y)
  have hl := p2_le s2
  have hw : IntKind.wrap .i64 (1 * 2 ^ (sh y).toNat) = p2 (sh y) := by rw [Int.one_mul]; exact i64_in _ (by show _ ≤ p2 (sh y) ∧ p2 (sh y) ≤ _; omega)
  rw [hm, hw, fixed_Div_eq h0 h1 (by omega), decide_eq_true s1]
  simp only [cond_true, Option.bind_some]
  rw [show max (p2 (sh y)) 1 = p2 (sh y) by omega]
def clamp8 (x : Int) : Int := min (max x (-128)) 127
theorem clamp8_in (x : Int) : -128 ≤ clamp8 x ∧ clamp8 x ≤ 127 := by unfold clamp8; omega
theorem clamp8_id {x : Int} (h : -128 ≤ x ∧ x ≤ 127) : clamp8 x = x := by unfold clamp8; omega
theorem wrap8_in {x : Int} (h : -128 ≤ x ∧ x ≤ 127) : IntKind.wrap .i8 x = x := i8_in x h
def scaleV (acc mul shift zero : Int) : Int := clamp8 (clamp8 zero + rnd (min (max acc (-2147483648)) 2147483647 * min (max mul 1) 32767) (p2 (sh shift)))
theorem scale_in (acc mul shift zero : Int) : -128 ≤ scaleV acc mul shift zero ∧ scaleV acc mul shift zero ≤ 127 := clamp8_in _
theorem fixed_Scale_eq (acc mul shift zero : Int) : fixed_Scale acc mul shift zero = some (scaleV acc mul shift zero) := by
  have e1 : fixed_Sat acc = min (max acc (-2147483648)) 2147483647 := rfl
  have e2 : fixed_held_1 mul (((fixed_held (1 : Int) (32767 : Int)).1).1) (((fixed_held (1 : Int) (32767 : Int)).2.1).1) = min (max mul 1) 32767 := rfl
  have e3 : ∀ x, fixed_Clamp x = clamp8 x := fun x => rfl
  unfold fixed_Scale scaleV
  rw [e1, e2]
  have hm : 1 ≤ min (max mul 1) 32767 ∧ min (max mul 1) 32767 ≤ 32767 := by omega
  have ha : -2147483648 ≤ min (max acc (-2147483648)) 2147483647 ∧ min (max acc (-2147483648)) 2147483647 ≤ 2147483647 := by omega
  generalize min (max mul 1) 32767 = m at *
  generalize min (max acc (-2147483648)) 2147483647 = a at *
  have h1 : a * m ≤ 2147483648 * 32767 := by
    by_cases h : 0 ≤ a
    · exact Int.mul_le_mul (by omega) hm.2 (by omega) (by omega)
    · have := Int.mul_nonpos_of_nonpos_of_nonneg (a := a) (b := m) (by omega) (by omega)
      omega
  have h2 : -(2147483648 * 32767) ≤ a * m := by
    have : (-a) * m ≤ 2147483648 * 32767 := by
      by_cases h : 0 ≤ -a
      · exact Int.mul_le_mul (by omega) hm.2 (by omega) (by omega)
      · have := Int.mul_nonpos_of_nonpos_of_nonneg (a := -a) (b := m) (by omega) (by omega)
        omega
    rw [Int.neg_mul] at this
    omega
  generalize a * m = x at *
  have hp := p2_pos (sh shift)
  have hl := p2_le (sh_in shift).2
  have hr := rnd_abs (x := x) (b := p2 (sh shift)) (c := 2147483648 * 32767) hp (by omega) (by omega)
  have hz := clamp8_in zero
  rw [i64_in x (by omega), fixed_Shift_eq (by omega) (by omega)]
  simp only [Option.bind_some, e3]
  rw [i64_in _ (by omega)]
end Go.V.P
