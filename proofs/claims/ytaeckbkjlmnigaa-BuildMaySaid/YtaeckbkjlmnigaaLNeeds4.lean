/- Plain laws of layer 5: which rows are needed, both ways. -/
import Derived.Test.YtaeckbkjlmnigaaLNeeds2
namespace Go.V.P
open Go Go.V Go.IntWalk
set_option linter.unusedVariables false
set_option linter.unusedSimpArgs false
set_option maxRecDepth 20000
theorem j13_some (n : Node) (l : List I4) (first rows : Int) (s : Int × Int × Int × Int × Int) : ∃ x, ref05_Needs_j13_p n l first rows s = some x := by
  unfold ref05_Needs_j13_p
  rw [ref02_Reach_eq]
  cases ref05_Needs_j14_p n with
  | true => exact ⟨_, rfl⟩
  | false =>
    cases (n.1 == 9) with
    | true => cases ref05_Needs_r22_p l first rows s <;> exact ⟨_, rfl⟩
    | false => cases ref05_Needs_j25_p n <;> exact ⟨_, rfl⟩
theorem range_in (first rows : Int) (z : I4 × Int) (hz : 1 ≤ z.1.1 ∧ z.1.1 ≤ 16) (h : kern_Needs_r4_p first rows z = false) : 0 ≤ first ∧ 1 ≤ rows ∧ first + rows ≤ z.1.1 := by
  simp only [kern_Needs_r4_p, kern_Needs_r4_q, Bool.cond_true_left, Bool.or_eq_false_iff, decide_eq_false_iff_not] at h
  have hf : 0 ≤ first ∧ first ≤ z.1.1 := by omega
  rw [i64_in (z.1.1 - first) (by omega)] at h
  omega
theorem Needs_eq (n : Node) (l : List I4) (first rows : Int) (hl : l.length < 1000000) (hB : (nB n).length < 1000000) : ∃ z, kern_Needs n l first rows = some z ∧ ref05_Needs n l first rows = some z := by
  obtain ⟨z, e1, e2⟩ := Value_eq n l hl hB
  unfold kern_Needs ref05_Needs
  rw [e1, e2]
  simp only [Option.bind_some]
  by_cases hz : z.2 = 0
  · obtain ⟨hn, hall, hs, hm, _⟩ := Value_in n l hl hB z e2 hz
    have hmb := mayB_iff.1 hm
    simp only [vS] at hmb
    have hr : ref05_Needs_r5_p first rows z = kern_Needs_r4_p first rows z := rfl
    rw [show (z.2 != 0) = false by simpa using hz, hr]
    simp only [cond_false]
    cases hc : kern_Needs_r4_p first rows z with
    | true => exact ⟨_, rfl, rfl⟩
    | false =>
      have hrg := range_in first rows z (by omega) hc
      have hlen : l.length = 1 ∨ l.length = 2 := by
        have := node_len n _ hn
        omega
      have hstep : kern_Needs_l7_p n l first rows = ref05_Needs_l8_p n l first rows := funext fun s => needs_step n l first rows s (fun h9 i hi => by
        have h1 := node_pad n _ hn h9
        obtain ⟨a, rfl⟩ := List.length_eq_one_iff.1 (show l.length = 1 by omega)
        have hi0 : i = 0 := by simpa using hi
        subst hi0
        have hma := mayB_iff.1 (hall a (by simp))
        simp only [vS] at hma
        have hmd := made_pad n a h9
        rw [hs] at hmd
        have hH : z.1.1 = a.1 + 2 := by
          have := congrArg (fun s : I3 => s.1) (Option.some.inj hmd)
          simp only [vS] at this
          rw [this, i64_in _ (by omega)]
        show shape_Reach first rows 1 1 1 a.1 = some (if max (IntKind.wrap .i64 (first - 1)) 0 ≥ min (IntKind.wrap .i64 (IntKind.wrap .i64 (first + rows) - 1)) a.1 then (0, 0) else (max (IntKind.wrap .i64 (first - 1)) 0, min (IntKind.wrap .i64 (IntKind.wrap .i64 (first + rows) - 1)) a.1))
        rw [shape_Reach_eq, i64_in (first - 1) (by omega), i64_in (first + rows) (by omega), i64_in (first + rows - 1) (by omega)]
        rw [pad_reach first rows a.1 (by omega) (by omega) (by omega) (by omega) (by omega) (by omega)]
        rfl)
      rw [hstep]
      obtain ⟨y, h1, _⟩ := iterN_inv (p := ref05_Needs_l8_p n l first rows) (fun s => 0 ≤ s.1 ∧ s.1 ≤ l.length) (fun s => l.length - s.1.toNat) (Q := fun _ => True) (fun s hs => by
        by_cases h : s.1 < l.length
        · obtain ⟨x, hx⟩ := j13_some n l first rows s
          have t1 : decide (s.1 < (l.length : Int)) = true := decide_eq_true h
          have t2 : decide ((0 : Int) ≤ s.1) = true := decide_eq_true hs.1
          have t3 := i64_in (s.1 + 1) (by omega)
          have h01 : s.1 = 0 ∨ s.1 = 1 := by omega
          rcases h01 with h0 | h0
          · refine .inl ⟨(s.1 + 1, x.1, x.2, s.2.2.2.1, s.2.2.2.2), ?_, by simp only; omega, by simp only; omega⟩
            simp only [ref05_Needs_l8_p, ref05_Needs_r10_p, ref05_Needs_r29_p, t1, t2, t3, hx, cond_true, Option.bind_some]
            rw [show (s.1 == 0) = true by simpa using h0]
            rfl
          · refine .inl ⟨(s.1 + 1, s.2.1, s.2.2.1, x.1, x.2), ?_, by simp only; omega, by simp only; omega⟩
            simp only [ref05_Needs_l8_p, ref05_Needs_r10_p, ref05_Needs_r29_p, t1, t2, t3, hx, cond_true, Option.bind_some]
            rw [show (s.1 == 0) = false by simp [h0], show (s.1 == 1) = true by simpa using h0]
            rfl
        · refine .inr ⟨s, ?_, trivial⟩
          simp only [ref05_Needs_l8_p]
          rw [decide_eq_false h]
          rfl) LL (0, 0, 0, 0, 0) ⟨by simp, by simp only; omega⟩ (LL_lt (by simp only [Int.toNat_zero]; omega))
      rw [h1]
      exact ⟨_, rfl, rfl⟩
  · rw [show (z.2 != 0) = true by simpa using hz]
    exact ⟨_, rfl, rfl⟩
end Go.V.P
