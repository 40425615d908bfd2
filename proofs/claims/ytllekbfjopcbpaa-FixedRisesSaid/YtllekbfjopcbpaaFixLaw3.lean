/- Plain laws of layer 1: what is divided goes on evenly; what is shifted is the same on either side of 0. -/
import Derived.Test.YtllekbfjopcbpaaFixLaw2
namespace Go.V.Fix
open Go Go.IntWalk
set_option linter.unusedVariables false
theorem rnd_abs {x b c : Int} (hb : 1 ≤ b) (h1 : -c ≤ x) (h2 : x ≤ c) : -(c + b) ≤ rnd x b ∧ rnd x b ≤ c + b := by
  unfold rnd
  by_cases hx : x < 0
  · rw [if_pos hx]
    have h3 : 0 ≤ (-x + b / 2) / b := Int.ediv_nonneg (by omega) (by omega)
    have h4 : (-x + b / 2) / b ≤ -x + b / 2 := Int.ediv_le_self _ (by omega)
    omega
  · rw [if_neg hx]
    have h3 : 0 ≤ (x + b / 2) / b := Int.ediv_nonneg (by omega) (by omega)
    have h4 : (x + b / 2) / b ≤ x + b / 2 := Int.ediv_le_self _ (by omega)
    omega
theorem rnd_two {x b : Int} (hb : 1 ≤ b) (hx : 0 ≤ x) : rnd (2 * x) (2 * b) = rnd x b := by
  unfold rnd
  rw [if_neg (by omega), if_neg (by omega), Int.mul_ediv_cancel_left b (by omega : (2 : Int) ≠ 0), Int.mul_comm 2 b, Int.mul_comm b 2, ← Int.ediv_ediv_of_nonneg (by omega : (0 : Int) ≤ 2)]
  congr 1
  omega
theorem whole_true (x y z : Int) : whole_v6 x y z = true := by
  unfold whole_v6
  obtain ⟨A, hA, a1, a2⟩ := and_le x 1099511627775 (by omega)
  obtain ⟨n, hn, n1, n2⟩ := and_le y 65535 (by omega)
  obtain ⟨K, hK, k1, k2⟩ := and_le z 65535 (by omega)
  have hA' : IntKind.wrap .i64 ((BitVec.ofInt (IntKind.bits .i64) x &&& BitVec.ofInt (IntKind.bits .i64) 1099511627775).toNat : Int) = A := hA
  have hn' : IntKind.wrap .i64 ((BitVec.ofInt (IntKind.bits .i64) y &&& BitVec.ofInt (IntKind.bits .i64) 65535).toNat : Int) = n := hn
  have hK' : IntKind.wrap .i64 ((BitVec.ofInt (IntKind.bits .i64) z &&& BitVec.ofInt (IntKind.bits .i64) 65535).toNat : Int) = K := hK
  rw [hA', hn', hK', i64_in (1 + n) (by omega)]
  have b1 : 1 ≤ 1 + n := by omega
  have b2 : 1 + n ≤ 65536 := by omega
  generalize 1 + n = B at b1 b2 ⊢
  have a2' : A ≤ 1099511627775 := a2
  have k2' : K ≤ 65535 := k2
  have hm : max B 1 = B := by omega
  have hkb : 0 ≤ K * B ∧ K * B ≤ 4294967296 := by
    have h1 := Int.mul_le_mul_of_nonneg_left b2 k1
    have h2 := Int.mul_nonneg k1 (by omega : 0 ≤ B)
    omega
  obtain ⟨r1, r2⟩ := rnd_abs (x := A) (b := B) (c := 1099511627775) b1 (by omega) (by omega)
  have e1 : rnd (A + K * B) B = rnd A B + K := rnd_pos_add b1 a1 k1
  have e2 : rnd (0 - A - K * B) B = 0 - rnd A B - K := by
    rw [show 0 - A - K * B = -(A + K * B) by omega, rnd_neg b1, e1]; omega
  have e3 : rnd (2 * A) (max (2 * B) 1) = rnd A B := by rw [show max (2 * B) 1 = 2 * B by omega]; exact rnd_two b1 a1
  have e4 : rnd A (max 0 1) = A := rnd_one
  have e5 : rnd A (max (0 - B) 1) = A := by rw [show max (0 - B) 1 = 1 by omega]; exact rnd_one
  rw [i64_in (K * B) (by omega), i64_in (A + K * B) (by omega), i64_in (0 - A) (by omega), i64_in (0 - A - K * B) (by omega), i64_in (0 - B) (by omega), i64_in (2 * A) (by omega), i64_in (2 * B) (by omega),
    divV_rnd (x := A + K * B) (y := B) (by omega) (by omega) (by omega), divV_rnd (x := A) (y := B) (by omega) (by omega) (by omega), divV_rnd (x := 0 - A - K * B) (y := B) (by omega) (by omega) (by omega),
    divV_rnd (x := A) (y := 0) (by omega) (by omega) (by omega), divV_rnd (x := A) (y := 0 - B) (by omega) (by omega) (by omega), divV_rnd (x := 2 * A) (y := 2 * B) (by omega) (by omega) (by omega), hm,
    i64_in (rnd A B + K) (by omega), i64_in (0 - rnd A B) (by omega), i64_in (0 - rnd A B - K) (by omega), e1, e2, e3, e4, e5]
  simp
theorem whole_ok (x y z : Int) : step E cp4 7 [.one (.g (.int .i64) x), .one (.g (.int .i64) y), .one (.g (.int .i64) z)] = some (.one (.g .bool true)) := by rw [whole, whole_true]
theorem pow_in (z : Int) : ∃ D : Int, IntKind.wrap .i64 (1 * 2 ^ min (Int.toNat (min (max z 0) 31)) (IntKind.bits .i64)) = D ∧ 1 ≤ D ∧ D ≤ 2147483648 := by
  have h1 : min (Int.toNat (min (max z 0) 31)) (IntKind.bits .i64) ≤ 31 := by
    have : Int.toNat (min (max z 0) 31) ≤ 31 := by omega
    exact Nat.le_trans (Nat.min_le_left _ _) this
  generalize min (Int.toNat (min (max z 0) 31)) (IntKind.bits .i64) = n at h1
  have h2 : (2 : Nat) ^ n ≤ 2 ^ 31 := Nat.pow_le_pow_right (by omega) h1
  have h3 : 0 < (2 : Nat) ^ n := Nat.pow_pos (by omega)
  have h4 : (1 * 2 ^ n : Int) = ((2 ^ n : Nat) : Int) := by rw [Int.one_mul]; simp
  exact ⟨((2 ^ n : Nat) : Int), by rw [h4, i64_in _ (by omega)], by omega, by omega⟩
theorem turns_true (x y z : Int) : turns_v5 x y z = true := by
  obtain ⟨n, hn, n1, n2⟩ := and_le y 16383 (by omega)
  have hn' : IntKind.wrap .i64 ((BitVec.ofInt (IntKind.bits .i64) y &&& BitVec.ofInt (IntKind.bits .i64) 16383).toNat : Int) = n := hn
  obtain ⟨D, hD, d1, d2⟩ := pow_in z
  obtain ⟨a1, a2⟩ := tmod_lt (x := x) (m := 2147483648) (by omega)
  unfold turns_v5 scaleV shiftV
  rw [hn', hD, i64_in (1 + n) (by omega)]
  generalize Int.tmod x 2147483648 = A at a1 a2 ⊢
  have n2' : n ≤ 16383 := n2
  have m1 : 1 ≤ 1 + n := by omega
  have m2 : 1 + n ≤ 16384 := by omega
  generalize 1 + n = M at m1 m2 ⊢
  have hm : max D 1 = D := by omega
  have hmm : min (max M 1) 32767 = M := by omega
  have hs1 : sat A = A := by unfold sat; omega
  have hs2 : sat (0 - A) = 0 - A := by unfold sat; omega
  have hc : clamp 0 = 0 := by unfold clamp; omega
  have hp : -35184372088832 ≤ A * M ∧ A * M ≤ 35184372088832 := by
    rcases Int.le_total 0 A with h | h
    · have h1 := Int.mul_le_mul_of_nonneg_left m2 h
      have h2 := Int.mul_nonneg h (by omega : 0 ≤ M)
      omega
    · have h1 := Int.mul_le_mul_of_nonneg_left m2 (show 0 ≤ -A by omega)
      have h2 := Int.mul_nonneg (show 0 ≤ -A by omega) (by omega : 0 ≤ M)
      rw [Int.neg_mul] at h2
      rw [Int.neg_mul, Int.neg_mul] at h1
      omega
  have hneg : (0 - A) * M = 0 - A * M := by rw [Int.sub_mul, Int.zero_mul]
  obtain ⟨r1, r2⟩ := rnd_abs (x := A * M) (b := D) (c := 35184372088832) d1 (by omega) (by omega)
  have e1 : rnd (0 - A * M) D = 0 - rnd (A * M) D := by rw [Int.zero_sub, Int.zero_sub]; exact rnd_neg d1
  rw [i64_in (0 - A) (by omega), hmm, hs1, hs2, hc, hneg, i64_in (A * M) (by omega), i64_in (0 - A * M) (by omega), divV_rnd (x := A * M) (y := D) (by omega) (by omega) (by omega),
    divV_rnd (x := 0 - A * M) (y := D) (by omega) (by omega) (by omega), hm, e1, i64_in (0 - rnd (A * M) D) (by omega), i64_in (0 + rnd (A * M) D) (by omega), i64_in (0 + (0 - rnd (A * M) D)) (by omega), Int.zero_add, Int.zero_add]
  simp
theorem turns_ok (x y z : Int) : step E cp4 8 [.one (.g (.int .i64) x), .one (.g (.int .i64) y), .one (.g (.int .i64) z)] = some (.one (.g .bool true)) := by rw [turns, turns_true]
end Go.V.Fix
