/- The plain law of FixedHolds. -/
import Derived.Test.YtllekbfjopcbpaaFix
namespace Go.V.Fix
theorem clamp_cases (x : Int) : (x < -128 ∧ clamp x = -128) ∨ (-128 ≤ x ∧ x ≤ 127 ∧ clamp x = x) ∨ (127 < x ∧ clamp x = 127) := by unfold clamp; omega
theorem sat_cases (x : Int) : (x < -2147483648 ∧ sat x = -2147483648) ∨ (-2147483648 ≤ x ∧ x ≤ 2147483647 ∧ sat x = x) ∨ (2147483647 < x ∧ sat x = 2147483647) := by unfold sat; omega
theorem clamp_clamp (x : Int) : clamp (clamp x) = clamp x := by unfold clamp; omega
theorem sat_sat (x : Int) : sat (sat x) = sat x := by unfold sat; omega
theorem clamp_sat (x : Int) : clamp (sat x) = clamp x := by unfold clamp sat; omega
theorem v4 (x : Int) : holds_v4 x = true := by
  unfold holds_v4
  rcases clamp_cases x with ⟨h, e⟩ | ⟨h, h', e⟩ | ⟨h, e⟩ <;> rw [e]
  · have h2 : ¬ (x ≥ -128) := by omega
    have h3 : x < -128 := h
    simp [h2, h3]
  · have h2 : x ≥ -128 := h
    have h3 : x ≤ 127 := h'
    simp [h2, h3]
  · have h3 : x > 127 := h
    simp [h3]
theorem v5 (x : Int) : holds_v5 x = true := by
  unfold holds_v5
  rcases sat_cases x with ⟨h, e⟩ | ⟨h, h', e⟩ | ⟨h, e⟩ <;> rw [e]
  · have h3 : x < -2147483648 := h
    simp [h3]
  · have h2 : x ≥ -2147483648 := h
    have h3 : x < 2147483648 := by omega
    simp [h2, h3]
  · have h3 : x ≥ 2147483648 := by omega
    simp [h3]
theorem holds_true (x : Int) : holds_v6 x = true := by
  unfold holds_v6
  simp [v4, v5, clamp_clamp, sat_sat, clamp_sat]
theorem holds_ok (x : Int) : step E cp1 5 [.one (.g (.int .i64) x)] = some (.one (.g .bool true)) := by rw [holds, holds_true]
end Go.V.Fix
