/- Plain laws of layer 1: rounding. -/
import Derived.Test.YtllekbfjopcbpaaFixMore
import Derived.IntWalk
namespace Go.V.Fix
open Go Go.IntWalk
theorem and_le (x : Int) (m : Nat) (hm : m < 2 ^ 63) : ∃ n : Int, IntKind.wrap .i64 ((BitVec.ofInt (IntKind.bits .i64) x &&& BitVec.ofInt (IntKind.bits .i64) (m : Int)).toNat : Int) = n ∧ 0 ≤ n ∧ n ≤ m := by
  have h1 : (BitVec.ofInt 64 x &&& BitVec.ofInt 64 (m : Int)).toNat ≤ m := by
    rw [BitVec.toNat_and]
    refine Nat.le_trans Nat.and_le_right ?_
    rw [BitVec.toNat_ofInt]
    have : ((m : Int) % (2 ^ 64 : Nat)).toNat = m := by omega
    rw [this]
    exact Nat.le_refl _
  refine ⟨_, i64_in _ ?_, ?_, ?_⟩
  · show _ ≤ (((BitVec.ofInt 64 x &&& BitVec.ofInt 64 (m : Int)).toNat : Nat) : Int) ∧ (((BitVec.ofInt 64 x &&& BitVec.ofInt 64 (m : Int)).toNat : Nat) : Int) ≤ _
    omega
  · omega
  · show (((BitVec.ofInt 64 x &&& BitVec.ofInt 64 (m : Int)).toNat : Nat) : Int) ≤ _
    omega
/-- a quotient, rounded to the nearest -/
def rnd (x y : Int) : Int := if x < 0 then -((-x + y / 2) / y) else (x + y / 2) / y
theorem divP_rnd {x y : Int} (h0 : 0 ≤ x) (h1 : x ≤ 4611686018427387904) (hy : y ≤ 4611686018427387904) : divP x y = (x + max y 1 / 2) / max y 1 := by
  unfold divP
  have hb : 1 ≤ max y 1 := by omega
  have hb' : max y 1 ≤ 4611686018427387904 := by omega
  generalize max y 1 = b at hb hb'
  rw [i64_quo b 2 (by omega), i64_in (x + b / 2) (by omega), i64_quo _ _ (by omega)]
theorem divV_rnd {x y : Int} (h0 : -4611686018427387904 ≤ x) (h1 : x ≤ 4611686018427387904) (hy : y ≤ 4611686018427387904) : divV x y = rnd x (max y 1) := by
  unfold divV rnd
  by_cases hx : x < 0
  · have e : mM x = -x := by unfold mM; rw [i64_in _ (by omega)]; omega
    have hm : max (mB y) 1 = max y 1 := by unfold mB; omega
    have hb : 1 ≤ max y 1 := by omega
    rw [if_pos hx, decide_eq_true hx, cond_true, e, divP_rnd (by omega) (by omega) (by unfold mB; omega), hm]
    have h2 : 0 ≤ (-x + max y 1 / 2) / max y 1 := Int.ediv_nonneg (by omega) (by omega)
    have h3 : (-x + max y 1 / 2) / max y 1 ≤ -x + max y 1 / 2 := Int.ediv_le_self _ (by omega)
    rw [i64_in _ (by omega)]
    omega
  · rw [if_neg hx, decide_eq_false hx, cond_false, divP_rnd (by omega) h1 hy]
theorem rnd_bound {x b : Int} (hb : 1 ≤ b) : 2 * (x - rnd x b * b) ≤ b ∧ -b ≤ 2 * (x - rnd x b * b) := by
  unfold rnd
  by_cases hx : x < 0
  · rw [if_pos hx, Int.neg_mul]
    have h1 := Int.mul_ediv_self_le (x := -x + b / 2) (k := b) (by omega)
    have h2 := Int.lt_mul_ediv_self_add (x := -x + b / 2) (k := b) (by omega)
    rw [Int.mul_comm] at h1 h2
    omega
  · rw [if_neg hx]
    have h1 := Int.mul_ediv_self_le (x := x + b / 2) (k := b) (by omega)
    have h2 := Int.lt_mul_ediv_self_add (x := x + b / 2) (k := b) (by omega)
    rw [Int.mul_comm] at h1 h2
    omega
theorem half_zero {b : Int} (hb : 1 ≤ b) : b / 2 / b = 0 := Int.ediv_eq_zero_of_lt (by omega) (by omega)
theorem rnd_zero {b : Int} (hb : 1 ≤ b) : rnd 0 b = 0 := by
  unfold rnd
  rw [if_neg (by omega), Int.zero_add, half_zero hb]
theorem rnd_neg {x b : Int} (hb : 1 ≤ b) : rnd (-x) b = -rnd x b := by
  rcases Int.lt_trichotomy x 0 with h | h | h
  · unfold rnd
    rw [if_neg (by omega), if_pos h, Int.neg_neg]
  · subst h; rw [Int.neg_zero, rnd_zero hb]; rfl
  · unfold rnd
    rw [if_pos (by omega), if_neg (by omega), Int.neg_neg]
theorem rnd_pos_add {x k b : Int} (hb : 1 ≤ b) (hx : 0 ≤ x) (hk : 0 ≤ k) : rnd (x + k * b) b = rnd x b + k := by
  have h : 0 ≤ k * b := Int.mul_nonneg hk (by omega)
  unfold rnd
  rw [if_neg (by omega), if_neg (by omega), show x + k * b + b / 2 = (x + b / 2) + k * b by omega, Int.add_mul_ediv_right _ _ (by omega)]
theorem rnd_mul {x b : Int} (hb : 1 ≤ b) : rnd (x * b) b = x := by
  by_cases hx : x < 0
  · have := rnd_pos_add (x := 0) (k := -x) hb (Int.le_refl 0) (by omega)
    rw [Int.zero_add, rnd_zero hb, Int.zero_add, Int.neg_mul, rnd_neg hb] at this
    omega
  · have := rnd_pos_add (x := 0) (k := x) hb (Int.le_refl 0) (by omega)
    rwa [Int.zero_add, rnd_zero hb, Int.zero_add] at this
theorem rnd_one {x : Int} : rnd x 1 = x := by have := rnd_mul (x := x) (b := 1) (by omega); rwa [Int.mul_one] at this
theorem tmod_lt {x m : Int} (hm : 0 < m) : -m < Int.tmod x m ∧ Int.tmod x m < m := ⟨Int.lt_tmod_of_pos x hm, Int.tmod_lt_of_pos x hm⟩
theorem mask20 (y : Int) : ∃ B : Int, IntKind.wrap .i64 (1 + IntKind.wrap .i64 ((BitVec.ofInt (IntKind.bits .i64) y &&& BitVec.ofInt (IntKind.bits .i64) 1048575).toNat : Int)) = B ∧ 1 ≤ B ∧ B ≤ 1048576 := by
  obtain ⟨n, h1, h2, h3⟩ := and_le y 1048575 (by omega)
  have h1' : IntKind.wrap .i64 ((BitVec.ofInt (IntKind.bits .i64) y &&& BitVec.ofInt (IntKind.bits .i64) 1048575).toNat : Int) = n := h1
  exact ⟨1 + n, by rw [h1', i64_in _ (by omega)], by omega, by omega⟩
theorem rounds_true (x y : Int) : rounds_v6 x y = true := by
  unfold rounds_v6
  obtain ⟨B, hB, b1, b2⟩ := mask20 y
  obtain ⟨a1, a2⟩ := tmod_lt (x := x) (m := 1099511627776) (by omega)
  generalize Int.tmod x 1099511627776 = A at a1 a2 ⊢
  rw [hB]
  have hm : max B 1 = B := by omega
  obtain ⟨r1, r2⟩ := rnd_bound (x := A) b1
  have hq : -2199023255552 ≤ rnd A B * B ∧ rnd A B * B ≤ 2199023255552 := by omega
  have hqq : -2199023255552 ≤ rnd A B ∧ rnd A B ≤ 2199023255552 := by
    constructor
    · rcases Int.le_total 0 (rnd A B) with h | h
      · omega
      · have := Int.mul_le_mul_of_nonneg_left b1 (show 0 ≤ -rnd A B by omega)
        rw [Int.neg_mul, Int.neg_mul] at this
        omega
    · rcases Int.le_total 0 (rnd A B) with h | h
      · have := Int.mul_le_mul_of_nonneg_left b1 h
        omega
      · omega
  have hp : -1152921504606846976 ≤ A * B ∧ A * B ≤ 1152921504606846976 := by
    rcases Int.le_total 0 A with h | h
    · have h1 := Int.mul_le_mul_of_nonneg_left b2 h
      have h2 := Int.mul_nonneg h (by omega : 0 ≤ B)
      omega
    · have h1 := Int.mul_le_mul_of_nonneg_left b2 (show 0 ≤ -A by omega)
      rw [Int.neg_mul, Int.neg_mul] at h1
      have h2 := Int.mul_nonpos_of_nonpos_of_nonneg h (by omega : 0 ≤ B)
      omega
  rw [divV_rnd (x := A) (y := B) (by omega) (by omega) (by omega), hm, i64_in (rnd A B * B) (by omega), i64_in (A - rnd A B * B) (by omega), i64_in (2 * (A - rnd A B * B)) (by omega), i64_in (0 - B) (by omega), i64_in (0 - A) (by omega),
    i64_in (0 - rnd A B) (by omega), i64_in (A * B) (by omega), divV_rnd (x := 0 - A) (y := B) (by omega) (by omega) (by omega), divV_rnd (x := A * B) (y := B) (by omega) (by omega) (by omega), divV_rnd (x := A) (y := 1) (by omega) (by omega) (by omega), hm]
  have h1 : 2 * (A - rnd A B * B) ≤ B := r1
  have h2 : 2 * (A - rnd A B * B) ≥ 0 - B := by omega
  have h3 : rnd (0 - A) B = 0 - rnd A B := by rw [Int.zero_sub, Int.zero_sub]; exact rnd_neg b1
  have h4 : rnd (A * B) B = A := rnd_mul b1
  have h5 : rnd A (max 1 1) = A := rnd_one
  rw [decide_eq_true h1, decide_eq_true h2, h3, h4, h5]
  simp
theorem rounds_ok (x y : Int) : step E cp4 3 [.one (.g (.int .i64) x), .one (.g (.int .i64) y)] = some (.one (.g .bool true)) := by rw [rounds, rounds_true]
end Go.V.Fix
