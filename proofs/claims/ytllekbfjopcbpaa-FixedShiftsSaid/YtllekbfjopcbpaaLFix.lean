/- Plain laws of layer 1: what a division and a shift come to; FixedShifts. -/
import Derived.Test.YtllekbfjopcbpaaLBase
import Derived.Test.YtllekbfjopcbpaaGa0
namespace Go.V.P
open Go Go.V Go.IntWalk
set_option linter.unusedVariables false

theorem div_r5 {x y : Int} (h0 : 0 ≤ x) (h1 : x ≤ 4611686018427387904) (hy : y ≤ 4611686018427387904) : fixed_Div_r5_p x y = some ((x + max y 1 / 2) / max y 1) := by
  have hb : 1 ≤ max y 1 := by omega
  have hb' : max y 1 ≤ 4611686018427387904 := by omega
  simp only [fixed_Div_r5_p, fixed_Div_r5_q]
  generalize max y 1 = b at hb hb'
  have hz : (b == 0) = false := by simp only [beq_eq_false_iff_ne]; omega
  rw [hz, i64_quo b 2 (by omega), i64_in (x + b / 2) (by omega), i64_quo _ _ (by omega)]
  rfl
theorem fixed_Div_eq {x y : Int} (h0 : -4611686018427387904 ≤ x) (h1 : x ≤ 4611686018427387904) (hy : y ≤ 4611686018427387904) : fixed_Div x y = some (rnd x (max y 1)) := by
  have hb : 1 ≤ max y 1 := by omega
  unfold fixed_Div fixed_Div_q rnd
  by_cases hx : x < 0
  · have e : max (IntKind.wrap .i64 (0 - x)) 0 = -x := by rw [i64_in _ (by omega)]; omega
    have hm : max (max y 1) 1 = max y 1 := by omega
    have h5 : fixed_Div_lv1 (-x) (max y 1) = some ((-x + max y 1 / 2) / max y 1) := by
      have := div_r5 (x := -x) (y := max y 1) (by omega) (by omega) (by omega)
      rw [hm] at this
      unfold fixed_Div_lv1 fixed_Div_lv1_q
      rw [decide_eq_false (by omega : ¬ -x < 0), cond_false]
      have e2 : fixed_Div_lv1_r5_p (-x) (max y 1) = fixed_Div_r5_p (-x) (max y 1) := rfl
      rw [e2, this]
      rfl
    rw [if_pos hx, decide_eq_true hx, cond_true, e, h5]
    have h2 : 0 ≤ (-x + max y 1 / 2) / max y 1 := Int.ediv_nonneg (by omega) (by omega)
    have h3 : (-x + max y 1 / 2) / max y 1 ≤ -x + max y 1 / 2 := Int.ediv_le_self _ (by omega)
    simp only [Option.bind_some]
    rw [i64_in _ (by omega)]
    congr 1
    omega
  · rw [if_neg hx, decide_eq_false hx, cond_false, div_r5 (by omega) h1 hy]
    rfl
/-- how many times to halve -/
def sh (y : Int) : Int := min (max y 0) 31
theorem sh_in (y : Int) : 0 ≤ sh y ∧ sh y ≤ 31 := by unfold sh; omega
def p2 (k : Int) : Int := 2 ^ k.toNat
theorem p2_pos (k : Int) : 1 ≤ p2 k := by
  unfold p2
  have : 0 < (2 : Int) ^ k.toNat := Int.pow_pos (by omega)
  omega
theorem p2_le {k : Int} (h : k ≤ 31) : p2 k ≤ 2147483648 := by
  unfold p2
  have h2 : (2 : Nat) ^ k.toNat ≤ 2 ^ 31 := Nat.pow_le_pow_right (by omega) (by omega)
  have : ((2 ^ k.toNat : Nat) : Int) ≤ 2147483648 := by omega
  simpa using this
theorem p2_succ {k : Int} (h : 0 ≤ k) : p2 (k + 1) = p2 k * 2 := by
  unfold p2
  rw [show (k + 1).toNat = k.toNat + 1 by omega, Int.pow_succ]
theorem fixed_Shift_eq {x y : Int} (h0 : -4611686018427387904 ≤ x) (h1 : x ≤ 4611686018427387904) : fixed_Shift x y = some (rnd x (p2 (sh y))) := by
  have e : fixed_held_1 y (((fixed_held (0 : Int) (31 : Int)).1).1) (((fixed_held (0 : Int) (31 : Int)).2.1).1) = sh y := rfl
  obtain ⟨s1, s2⟩ := sh_in y
  unfold fixed_Shift fixed_Shift_q fixed_Shift_r2_p fixed_Shift_r2_q
  rw [e]
  have hm : min (Int.toNat (sh y)) (IntKind.bits .i64) = (sh y).toNat := Nat.min_eq_left (by show _ ≤ 64; omega)
  have hp := p2_pos (sh y)
  have hl := p2_le s2
  have hw : IntKind.wrap .i64 (1 * 2 ^ (sh y).toNat) = p2 (sh y) := by rw [Int.one_mul]; exact i64_in _ (by show _ ≤ p2 (sh y) ∧ p2 (sh y) ≤ _; omega)
  rw [hm, hw, fixed_Div_eq h0 h1 (by omega), decide_eq_true s1]
  simp only [cond_true, Option.bind_some]
  rw [show max (p2 (sh y)) 1 = p2 (sh y) by omega]
theorem near_in (x : Int) : -1152921504606846977 < law01_near x ∧ law01_near x < 1152921504606846977 := tmod_lt (by omega)
theorem shown01 : law01_shown = some true := by kernel_rfl
theorem shifts_loop (y : Int) : iterN (law01_FixedShifts_l10_p y) LL ((1 : Int), (0 : Int)) = some (p2 (sh y), sh y) := by
  obtain ⟨s1, s2⟩ := sh_in y
  obtain ⟨z, h1, h2⟩ := iterN_inv (p := law01_FixedShifts_l10_p y) (fun s => 0 ≤ s.2 ∧ s.2 ≤ sh y ∧ s.1 = p2 s.2) (fun s => (sh y - s.2).toNat) (Q := fun z => z = (p2 (sh y), sh y)) (fun s hs => by
    obtain ⟨a1, a2, a3⟩ := hs
    have hl := p2_le (k := s.2) (by omega)
    have hp := p2_pos s.2
    simp only [law01_FixedShifts_l10_p, law01_FixedShifts_l10_q]
    by_cases h : s.2 < sh y
    · refine .inl ⟨(p2 (s.2 + 1), s.2 + 1), ?_, ⟨by simp only; omega, by simp only; omega, rfl⟩, by simp only; omega⟩
      rw [show min (max y 0) 31 = sh y from rfl, decide_eq_true h, cond_true, a3, i64_in (p2 s.2 * 2) (by omega), i64_in (s.2 + 1) (by omega), p2_succ a1]
    · refine .inr ⟨s, ?_, ?_⟩
      · rw [show min (max y 0) 31 = sh y from rfl, decide_eq_false h, cond_false]
      · have : s.2 = sh y := by omega
        rw [← this, ← a3]) LL (1, 0) ⟨by simp, by simpa using s1, rfl⟩ (by unfold LL; omega)
  rw [h1, h2]
theorem FixedShifts_true (x y : Int) (_ : Ts.ok (.one (.int .i64)) x) (_ : Ts.ok (.one (.int .i64)) y) : law01_FixedShifts x y = some true := by
  unfold law01_FixedShifts law01_FixedShifts_q
  rw [shown01, shifts_loop]
  obtain ⟨n1, n2⟩ := near_in x
  obtain ⟨s1, s2⟩ := sh_in y
  have hp := p2_pos (sh y)
  have hl := p2_le s2
  simp only [Option.bind_some, law01_FixedShifts_r11_p, law01_FixedShifts_r11_q, cond_true]
  rw [fixed_Shift_eq (by omega) (by omega), fixed_Shift_eq (by omega) (by omega), fixed_Shift_eq (by omega) (by omega), fixed_Div_eq (by omega) (by omega) (by omega)]
  have e1 : max (p2 (sh y)) 1 = p2 (sh y) := by omega
  have e2 : p2 (sh 0) = 1 := rfl
  have e3 : sh (min (max y 0) 31) = sh y := by unfold sh; omega
  simp only [Option.bind_some, e1, e2, e3, rnd_one, beq_self_eq_true, cond_true]
end Go.V.P
