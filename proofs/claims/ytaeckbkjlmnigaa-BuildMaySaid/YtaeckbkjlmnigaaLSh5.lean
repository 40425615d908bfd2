/- Plain laws of layer 2, as far as later layers need them: reaches. -/
import Derived.Test.YtaeckbkjlmnigaaLValue3
import Derived.Test.YtaeckbkjlmnigaaBm0
namespace Go.V.P
open Go Go.V Go.IntWalk
set_option linter.unusedVariables false
def under (size k stride pad p : Int) (r : Int × Int) : Int × Int :=
  if max 0 (p * stride - pad) < min size (p * stride - pad + k) then (min r.1 (max 0 (p * stride - pad)), max r.2 (min size (p * stride - pad + k))) else r
def unders (size k stride pad first : Int) : Nat → Int × Int
  | 0 => (size, 0)
  | i + 1 => under size k stride pad (first + i) (unders size k stride pad first i)
def reachV (first rows k stride pad size : Int) : Int × Int :=
  if first < 0 ∨ rows < 1 ∨ first > outV size k stride pad ∨ rows > outV size k stride pad - first then (0, 0)
  else if (unders size k stride pad first rows.toNat).2 = 0 then (0, 0) else unders size k stride pad first rows.toNat
theorem unders_in {size k stride pad first : Int} (h : winB size k stride pad = true) : ∀ i, 0 ≤ (unders size k stride pad first i).1 ∧ (unders size k stride pad first i).1 ≤ size ∧ 0 ≤ (unders size k stride pad first i).2 ∧ (unders size k stride pad first i).2 ≤ size ∧
    ((unders size k stride pad first i).2 = 0 → (unders size k stride pad first i).1 = size)
  | 0 => by
    have h1 := winB_iff.1 h
    exact ⟨by show 0 ≤ size; omega, Int.le_refl _, Int.le_refl _, by show 0 ≤ size; omega, fun _ => rfl⟩
  | i + 1 => by
    have h1 := winB_iff.1 h
    have ih := unders_in (first := first) h i
    simp only [unders, under]
    generalize (first + (i : Int)) * stride - pad = a at *
    generalize unders size k stride pad first i = r at *
    split <;> (try simp only) <;> omega
theorem reachV_in (first rows k stride pad size : Int) : 0 ≤ (reachV first rows k stride pad size).1 ∧ 0 ≤ (reachV first rows k stride pad size).2 ∧ ((reachV first rows k stride pad size).2 ≤ size ∨ (reachV first rows k stride pad size).2 = 0) := by
  unfold reachV
  split
  · simp
  · rename_i hg
    split
    · simp
    · have hw : winB size k stride pad = true := by
        have h0 := outV_in size k stride pad
        cases hw : winB size k stride pad with
        | true => rfl
        | false =>
          have : outV size k stride pad = 0 := by unfold outV; rw [hw]; simp
          omega
      have := unders_in (first := first) hw rows.toNat
      omega
theorem shape_Reach_eq (first rows k stride pad size : Int) : shape_Reach first rows k stride pad size = some (reachV first rows k stride pad size) := by
  have hn := outV_in size k stride pad
  unfold shape_Reach
  rw [shape_Out_eq]
  simp only [Option.bind_some, shape_Reach_r2_p, shape_Reach_r2_q]
  unfold reachV
  by_cases hg : first < 0 ∨ rows < 1 ∨ first > outV size k stride pad ∨ rows > outV size k stride pad - first
  · rw [if_pos hg]
    have : (bif decide (first < 0) then true else bif decide (rows < 1) then true else bif decide (first > outV size k stride pad) then true else decide (rows > IntKind.wrap .i64 (outV size k stride pad - first))) = true := by
      by_cases h1 : first < 0
      · rw [decide_eq_true h1]; rfl
      · rw [decide_eq_false h1]
        by_cases h2 : rows < 1
        · rw [decide_eq_true h2]; rfl
        · rw [decide_eq_false h2]
          by_cases h3 : first > outV size k stride pad
          · rw [decide_eq_true h3]; rfl
          · rw [decide_eq_false h3, i64_in _ (by omega), decide_eq_true (by omega)]; rfl
    rw [this]
    rfl
  · rw [if_neg hg]
    have hw : winB size k stride pad = true := by
      cases hw : winB size k stride pad with
      | true => rfl
      | false =>
        have : outV size k stride pad = 0 := by unfold outV; rw [hw]; simp
        omega
    have h1 := winB_iff.1 hw
    rw [decide_eq_false (by omega), decide_eq_false (by omega), decide_eq_false (by omega), i64_in (outV size k stride pad - first) (by omega), decide_eq_false (by omega)]
    simp only [cond_false]
    have hl := iterN_for (p := shape_Reach_l6_p first rows k stride pad size) (z := ((unders size k stride pad first rows.toNat).1, (unders size k stride pad first rows.toNat).2, first + rows)) rows.toNat
      (fun i => ((unders size k stride pad first i).1, (unders size k stride pad first i).2, first + (i : Int))) LL (LL_lt (by omega)) (fun i hi => by
        have hp := mul_in' (a := first + (i : Int)) (b := stride) (c := 96) (d := 16) (by omega) (by omega) (by omega) (by omega)
        have hu := unders_in (first := first) hw i
        simp only [shape_Reach_l6_p, shape_Reach_j8_p, shape_Reach_j8_q, shape_Reach_r9_p, shape_Reach_r9_q, shape_Reach_r10_p, shape_Reach_r10_q, shape_Reach_r8_p, shape_Reach_r8_q]
        have e1 := i64_in (first + rows) (by omega)
        have e2 := i64_in ((first + (i : Int)) * stride) (by omega)
        have e3 := i64_in ((first + (i : Int)) * stride - pad) (by omega)
        have e4 := i64_in ((first + (i : Int)) * stride - pad + k) (by omega)
        have e5 := i64_in (first + (i : Int) + 1) (by omega)
        have e6 : decide (first + (i : Int) < first + rows) = true := decide_eq_true (by omega)
        simp only [e1, e2, e3, e4, e5, e6]
        simp only [cond_true, unders, under]
        by_cases hc : max 0 ((first + (i : Int)) * stride - pad) < min size ((first + (i : Int)) * stride - pad + k)
        · rw [decide_eq_true hc, if_pos hc]
          simp only [cond_true]
          rw [show ((i + 1 : Nat) : Int) = (i : Int) + 1 by omega, Int.add_assoc]
        · rw [decide_eq_false hc, if_neg hc]
          simp only [cond_false]
          rw [show ((i + 1 : Nat) : Int) = (i : Int) + 1 by omega, Int.add_assoc]) (by
        simp only [shape_Reach_l6_p]
        rw [i64_in (first + rows) (by omega), decide_eq_false (by omega)]
        simp only [cond_false]
        rw [show ((rows.toNat : Nat) : Int) = rows by omega])
    simp only [unders] at hl
    rw [show first + ((0 : Nat) : Int) = first by omega] at hl
    rw [hl]
    simp only [Option.bind_some]
    by_cases hz : (unders size k stride pad first rows.toNat).2 = 0
    · rw [if_pos hz, hz]; rfl
    · rw [if_neg hz]
      have : ((unders size k stride pad first rows.toNat).2 == 0) = false := by simpa using hz
      rw [this]
      rfl
theorem out_iff {size k stride pad : Int} (hw : winB size k stride pad = true) (i : Int) (hi : 0 ≤ i) : i < outV size k stride pad ↔ i * stride + k ≤ size + 2 * pad := by
  have h1 := winB_iff.1 hw
  unfold outV
  rw [hw]
  by_cases hk : k ≤ size + 2 * pad
  · rw [if_pos ⟨rfl, hk⟩]
    have : i ≤ (size + 2 * pad - k) / stride ↔ i * stride ≤ size + 2 * pad - k := Int.le_ediv_iff_mul_le (by omega)
    constructor
    · intro h; have := this.1 (by omega); omega
    · intro h; have := this.2 (by omega); omega
  · rw [if_neg (fun h => hk h.2)]
    have : 0 ≤ i * stride := Int.mul_nonneg hi (by omega)
    constructor <;> intro h <;> omega
def loV (stride pad p : Int) : Int := max 0 (p * stride - pad)
def hiV (size k stride pad p : Int) : Int := min size (p * stride - pad + k)
theorem under_ends (size k stride pad p : Int) (r : Int × Int) : under size k stride pad p r = if loV stride pad p < hiV size k stride pad p then (min r.1 (loV stride pad p), max r.2 (hiV size k stride pad p)) else r := rfl
theorem ends_up {stride p q : Int} (size k pad : Int) (hs : 1 ≤ stride) (h : p ≤ q) : loV stride pad p ≤ loV stride pad q ∧ hiV size k stride pad p ≤ hiV size k stride pad q := by
  have : p * stride ≤ q * stride := Int.mul_le_mul_of_nonneg_right h (by omega)
  unfold loV hiV
  omega
theorem unders_lo {size k stride pad first : Int} (hw : winB size k stride pad = true) (h0 : loV stride pad first < hiV size k stride pad first) : ∀ n : Nat, (unders size k stride pad first (n + 1)).1 = loV stride pad first ∧ hiV size k stride pad first ≤ (unders size k stride pad first (n + 1)).2
  | 0 => by
    have h1 := winB_iff.1 hw
    have hz : first + ((0 : Nat) : Int) = first := by omega
    simp only [unders, under_ends, hz]
    rw [if_pos h0]
    unfold hiV at *
    refine ⟨?_, ?_⟩ <;> simp only <;> omega
  | n + 1 => by
    have h1 := winB_iff.1 hw
    have ih := unders_lo hw h0 n
    rw [unders, under_ends]
    have := ends_up (stride := stride) (p := first) (q := first + ((n + 1 : Nat) : Int)) size k pad (by omega) (by omega)
    split <;> (try simp only) <;> omega
theorem unders_hi {size k stride pad first : Int} (hw : winB size k stride pad = true) : ∀ n : Nat, (unders size k stride pad first n).2 ≤ max 0 (hiV size k stride pad (first + (n : Int)))
  | 0 => by
    simp only [unders]
    omega
  | n + 1 => by
    have h1 := winB_iff.1 hw
    have ih := unders_hi (first := first) hw n
    rw [unders, under_ends]
    have := ends_up (stride := stride) (p := first + (n : Int)) (q := first + ((n + 1 : Nat) : Int)) size k pad (by omega) (by omega)
    split <;> (try simp only) <;> omega
theorem unders_last {size k stride pad first : Int} (hw : winB size k stride pad = true) (n : Nat) (h0 : loV stride pad (first + (n : Int)) < hiV size k stride pad (first + (n : Int))) : (unders size k stride pad first (n + 1)).2 = hiV size k stride pad (first + (n : Int)) := by
  have ih := unders_hi (first := first) hw n
  rw [unders, under_ends, if_pos h0]
  have : 0 ≤ loV stride pad (first + (n : Int)) := by unfold loV; omega
  show max _ _ = _
  omega
theorem out_win {size k stride pad : Int} (h : outV size k stride pad ≠ 0) : winB size k stride pad = true := by
  cases hw : winB size k stride pad with
  | true => rfl
  | false => exact absurd (by unfold outV; rw [hw]; simp) h
theorem reachV_ok {first rows k stride pad size : Int} (h1 : 0 ≤ first) (h2 : 1 ≤ rows) (h3 : first + rows ≤ outV size k stride pad) : reachV first rows k stride pad size = if (unders size k stride pad first rows.toNat).2 = 0 then (0, 0) else unders size k stride pad first rows.toNat := by
  unfold reachV
  rw [if_neg (by omega)]
theorem reachV_ends {first rows k stride pad size : Int} (h1 : 0 ≤ first) (h2 : 1 ≤ rows) (h3 : first + rows ≤ outV size k stride pad)
    (ha : loV stride pad first < hiV size k stride pad first) (hb : loV stride pad (first + rows - 1) < hiV size k stride pad (first + rows - 1)) : reachV first rows k stride pad size = (loV stride pad first, hiV size k stride pad (first + rows - 1)) := by
  have hw := out_win (size := size) (k := k) (stride := stride) (pad := pad) (by omega)
  rw [reachV_ok h1 h2 h3]
  have e : rows.toNat = (rows - 1).toNat + 1 := by omega
  have e2 : first + (((rows - 1).toNat : Nat) : Int) = first + rows - 1 := by omega
  rw [e]
  have a1 := unders_lo hw ha (rows - 1).toNat
  have a2 := unders_last (first := first) hw (rows - 1).toNat (by rw [e2]; exact hb)
  rw [e2] at a2
  have : 0 ≤ loV stride pad first := by unfold loV; omega
  rw [if_neg (by omega)]
  exact Prod.ext a1.1 a2
theorem reachV_one {first k stride pad size : Int} (h1 : 0 ≤ first) (h3 : first < outV size k stride pad) (h0 : (reachV first 1 k stride pad size).2 ≠ 0) : loV stride pad first < hiV size k stride pad first := by
  rw [reachV_ok h1 (by omega) (by omega)] at h0
  have e : (1 : Int).toNat = 0 + 1 := rfl
  have hz : first + ((0 : Nat) : Int) = first := by omega
  rw [e] at h0
  simp only [unders, under_ends, hz] at h0
  by_cases h : loV stride pad first < hiV size k stride pad first
  · exact h
  · rw [if_neg h] at h0
    exact absurd rfl h0
theorem empty_pad {size k stride pad p : Int} (hw : winB size k stride pad = true) (h1 : 0 ≤ p) (h2 : p < outV size k stride pad) (h : ¬ loV stride pad p < hiV size k stride pad p) : 0 < pad ∧ k ≤ pad := by
  have hb := winB_iff.1 hw
  have := (out_iff hw p h1).1 h2
  have : 0 ≤ p * stride := Int.mul_nonneg h1 (by omega)
  unfold loV hiV at h
  omega
end Go.V.P
