/- Plain law of layer 1: what is scaled does not fall when what it is made of rises. -/
import Derived.Test.YtllekbfjopcbpaaFixLaw3
import Derived.Test.YtllekbfjopcbpaaFixRises
namespace Go.V.Fix
open Go Go.IntWalk
set_option linter.unusedVariables false
theorem rnd_mono {x y b : Int} (hb : 1 ≤ b) (h : x ≤ y) : rnd x b ≤ rnd y b := by
  unfold rnd
  by_cases hx : x < 0
  · rw [if_pos hx]
    have h1 : 0 ≤ (-x + b / 2) / b := Int.ediv_nonneg (by omega) (by omega)
    by_cases hy : y < 0
    · rw [if_pos hy]
      have := Int.ediv_le_ediv (a := -y + b / 2) (b := -x + b / 2) (c := b) (by omega) (by omega)
      omega
    · rw [if_neg hy]
      have h2 : 0 ≤ (y + b / 2) / b := Int.ediv_nonneg (by omega) (by omega)
      omega
  · rw [if_neg hx, if_neg (by omega)]
    exact Int.ediv_le_ediv (by omega) (by omega)
theorem sat_in (a : Int) : -2147483648 ≤ sat a ∧ sat a ≤ 2147483647 := by unfold sat; omega
theorem mul_in {s m : Int} (h1 : -2147483648 ≤ s) (h2 : s ≤ 2147483647) (m1 : 1 ≤ m) (m2 : m ≤ 32767) : -70366596694016 ≤ s * m ∧ s * m ≤ 70366596694016 := by
  rcases Int.le_total 0 s with h | h
  · have a := Int.mul_le_mul_of_nonneg_left m2 h
    have b := Int.mul_nonneg h (by omega : 0 ≤ m)
    omega
  · have a := Int.mul_le_mul_of_nonneg_left m2 (show 0 ≤ -s by omega)
    have b := Int.mul_nonneg (show 0 ≤ -s by omega) (by omega : 0 ≤ m)
    rw [Int.neg_mul] at b
    rw [Int.neg_mul, Int.neg_mul] at a
    omega
theorem clamp_in (a : Int) : -128 ≤ clamp a ∧ clamp a ≤ 127 := by unfold clamp; omega
theorem scale_is (u v : Int) : ∃ M D : Int, 1 ≤ M ∧ 1 ≤ D ∧ ∀ a w : Int, scaleV a u v w = clamp (clamp w + rnd (sat a * M) D) := by
  obtain ⟨D, hD, d1, d2⟩ := pow_in v
  refine ⟨min (max u 1) 32767, D, by omega, d1, fun a w => ?_⟩
  have m1 : 1 ≤ min (max u 1) 32767 := by omega
  have m2 : min (max u 1) 32767 ≤ 32767 := by omega
  unfold scaleV shiftV
  rw [hD]
  generalize min (max u 1) 32767 = M at m1 m2 ⊢
  obtain ⟨s1, s2⟩ := sat_in a
  obtain ⟨p1, p2⟩ := mul_in s1 s2 m1 m2
  obtain ⟨c1, c2⟩ := clamp_in w
  have hm : max D 1 = D := by omega
  obtain ⟨r1, r2⟩ := rnd_abs (x := sat a * M) (b := D) (c := 70366596694016) d1 (by omega) (by omega)
  rw [i64_in (sat a * M) (by omega), divV_rnd (x := sat a * M) (y := D) (by omega) (by omega) (by omega), hm, i64_in (clamp w + rnd (sat a * M) D) (by omega)]
theorem rises_true (x y u v w : Int) : rises_v7 x y u v w = true := by
  obtain ⟨M, D, m1, d1, hs⟩ := scale_is u v
  unfold rises_v7
  rw [hs, hs, hs, hs]
  obtain ⟨c1, c2⟩ := clamp_in w
  rw [i64_in (clamp w + 1) (by omega)]
  have hsat : sat (min x y) ≤ sat (max x y) := by unfold sat; omega
  have hmul : sat (min x y) * M ≤ sat (max x y) * M := Int.mul_le_mul_of_nonneg_right hsat (by omega)
  have hr := rnd_mono d1 hmul
  have h0 : sat 0 = 0 := by unfold sat; omega
  rw [h0, Int.zero_mul, rnd_zero d1, Int.add_zero, clamp_clamp]
  generalize rnd (sat (min x y) * M) D = r at hr ⊢
  generalize rnd (sat (max x y) * M) D = r' at hr ⊢
  generalize clamp w = c at c1 c2 ⊢
  have e1 : clamp (c + r) ≤ clamp (c + r') := by unfold clamp; omega
  obtain ⟨e2, _⟩ := clamp_in (c + r)
  obtain ⟨_, e3⟩ := clamp_in (c + r')
  have e4 : clamp (clamp (c + 1) + r) ≥ clamp (c + r) := by unfold clamp; omega
  have e5 : clamp (clamp (c + 1) + r) ≤ clamp (c + r) + 1 := by unfold clamp; omega
  have e6 : clamp (c + r) ≥ -128 := e2
  obtain ⟨f1, f2⟩ := clamp_in (c + r)
  rw [i64_in (clamp (c + r) + 1) (by omega), decide_eq_true e1, decide_eq_true e6, decide_eq_true e3, decide_eq_true e4, decide_eq_true e5]
  simp
theorem rises_ok (x y u v w : Int) : step E cp4 4 [.one (.g (.int .i64) x), .one (.g (.int .i64) y), .agg [.g (.int .i64) u, .g (.int .i64) v, .g (.int .i64) w]] = some (.one (.g .bool true)) := by rw [rises, rises_true]
end Go.V.Fix
