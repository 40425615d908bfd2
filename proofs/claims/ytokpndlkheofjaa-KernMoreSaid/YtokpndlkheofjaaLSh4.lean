/- Plain laws of layer 2, as far as later layers need them: reaches. -/
import Derived.Test.YtokpndlkheofjaaLValue3
import Derived.Test.YtokpndlkheofjaaKe8
namespace Go.V.P
open Go Go.V Go.IntWalk
set_option linter.unusedVariables false
/-- what is under one place more -/
def under (size k stride pad p : Int) (r : Int × Int) : Int × Int :=
  if max 0 (p * stride - pad) < min size (p * stride - pad + k) then (min r.1 (max 0 (p * stride - pad)), max r.2 (min size (p * stride - pad + k))) else r
def unders (size k stride pad first : Int) : Nat → Int × Int
  | 0 => (size, 0)
  | i + 1 => under size k stride pad (first + i) (unders size k stride pad first i)
def reachV (first rows k stride pad size : Int) : Int × Int :=
  if first < 0 ∨ rows < 1 ∨ first > outV size k stride pad ∨ rows > outV size k stride pad - first then (0, 0)
  else if (unders size k stride pad first rows.toNat).2 = 0 then (0, 0) else unders size k stride pad first rows.toNat
theorem unders_in {size k stride pad first : Int} (h : winB size k stride pad = true) : ∀ i, 0 ≤ (unders size k stride pad first i).1 ∧ (unders size k stride pad first i).1 ≤ size ∧ 0 ≤ (unders size k stride pad first i).2 ∧ (unders size k stride pad first i).2 ≤ size ∧
    ((unders size k stride pad first i).2 = 0 → (unders size k stride pad first i).1 = size)
  | 0 => by
    have h1 := winB_iff.1 h
    exact ⟨by show 0 ≤ size; omega, Int.le_refl _, Int.le_refl _, by show 0 ≤ size; omega, fun _ => rfl⟩
  | i + 1 => by
    have h1 := winB_iff.1 h
    have ih := unders_in (first := first) h i
    simp only [unders, under]
    generalize (first + (i : Int)) * stride - pad = a at *
    generalize unders size k stride pad first i = r at *
    split <;> (try simp only) <;> omega
theorem reachV_in (first rows k stride pad size : Int) : 0 ≤ (reachV first rows k stride pad size).1 ∧ 0 ≤ (reachV first rows k stride pad size).2 ∧ ((reachV first rows k stride pad size).2 ≤ size ∨ (reachV first rows k stride pad size).2 = 0) := by
  unfold reachV
  split
  · simp
  · rename_i hg
    split
    · simp
    · have hw : winB size k stride pad = true := by
        have h0 := outV_in size k stride pad
        cases hw : winB size k stride pad with
        | true => rfl
        | false =>
          have : outV size k stride pad = 0 := by unfold outV; rw [hw]; simp
          omega
      have := unders_in (first := first) hw rows.toNat
      omega
theorem shape_Reach_eq (first rows k stride pad size : Int) : shape_Reach first rows k stride pad size = some (reachV first rows k stride pad size) := by
  have hn := outV_in size k stride pad
  unfold shape_Reach
  rw [shape_Out_eq]
  simp only [Option.bind_some, shape_Reach_r2_p, shape_Reach_r2_q]
  unfold reachV
  by_cases hg : first < 0 ∨ rows < 1 ∨ first > outV size k stride pad ∨ rows > outV size k stride pad - first
  · rw [if_pos hg]
    have : (bif decide (first < 0) then true else bif decide (rows < 1) then true else bif decide (first > outV size k stride pad) then true else decide (rows > IntKind.wrap .i64 (outV size k stride pad - first))) = true := by
      by_cases h1 : first < 0
      · rw [decide_eq_true h1]; rfl
      · rw [decide_eq_false h1]
        by_cases h2 : rows < 1
        · rw [decide_eq_true h2]; rfl
        · rw [decide_eq_false h2]
          by_cases h3 : first > outV size k stride pad
          · rw [decide_eq_true h3]; rfl
          · rw [decide_eq_false h3, i64_in _ (by omega), decide_eq_true (by omega)]; rfl
    rw [this]
    rfl
  · rw [if_neg hg]
    have hw : winB size k stride pad = true := by
      cases hw : winB size k stride pad with
      | true => rfl
      | false =>
        have : outV size k stride pad = 0 := by unfold outV; rw [hw]; simp
        omega
    have h1 := winB_iff.1 hw
    rw [decide_eq_false (by omega), decide_eq_false (by omega), decide_eq_false (by omega), i64_in (outV size k stride pad - first) (by omega), decide_eq_false (by omega)]
    simp only [cond_false]
    have hl := iterN_for (p := shape_Reach_l6_p first rows k stride pad size) (z := ((unders size k stride pad first rows.toNat).1, (unders size k stride pad first rows.toNat).2, first + rows)) rows.toNat
      (fun i => ((unders size k stride pad first i).1, (unders size k stride pad first i).2, first + (i : Int))) LL (LL_lt (by omega)) (fun i hi => by
        have hp := mul_in' (a := first + (i : Int)) (b := stride) (c := 96) (d := 16) (by omega) (by omega) (by omega) (by omega)
        have hu := unders_in (first := first) hw i
        simp only [shape_Reach_l6_p, shape_Reach_j8_p, shape_Reach_j8_q, shape_Reach_r9_p, shape_Reach_r9_q, shape_Reach_r10_p, shape_Reach_r10_q, shape_Reach_r8_p, shape_Reach_r8_q]
        have e1 := i64_in (first + rows) (by omega)
        have e2 := i64_in ((first + (i : Int)) * stride) (by omega)
        have e3 := i64_in ((first + (i : Int)) * stride - pad) (by omega)
        have e4 := i64_in ((first + (i : Int)) * stride - pad + k) (by omega)
        have e5 := i64_in (first + (i : Int) + 1) (by omega)
        have e6 : decide (first + (i : Int) < first + rows) = true := decide_eq_true (by omega)
        simp only [e1, e2, e3, e4, e5, e6]
        simp only [cond_true, unders, under]
        by_cases hc : max 0 ((first + (i : Int)) * stride - pad) < min size ((first + (i : Int)) * stride - pad + k)
        · rw [decide_eq_true hc, if_pos hc]
          simp only [cond_true]
          rw [show ((i + 1 : Nat) : Int) = (i : Int) + 1 by omega, Int.add_assoc]
        · rw [decide_eq_false hc, if_neg hc]
          simp only [cond_false]
          rw [show ((i + 1 : Nat) : Int) = (i : Int) + 1 by omega, Int.add_assoc]) (by
        simp only [shape_Reach_l6_p]
        rw [i64_in (first + rows) (by omega), decide_eq_false (by omega)]
        simp only [cond_false]
        rw [show ((rows.toNat : Nat) : Int) = rows by omega])
    simp only [unders] at hl
    rw [show first + ((0 : Nat) : Int) = first by omega] at hl
    rw [hl]
    simp only [Option.bind_some]
    by_cases hz : (unders size k stride pad first rows.toNat).2 = 0
    · rw [if_pos hz, hz]; rfl
    · rw [if_neg hz]
      have : ((unders size k stride pad first rows.toNat).2 == 0) = false := by simpa using hz
      rw [this]
      rfl
/-- what the first j cells under one place reach -/
def und (size a : Int) (r : Int × Int) (j : Int) : Int × Int := if max 0 a < min size (a + j) then (min r.1 (max 0 a), max r.2 (min size (a + j))) else r
/-- the same, told from no cell at all -/
def fin (r : Int × Int) : Int × Int := if r.2 = 0 then (0, 0) else r
theorem und_in {size a : Int} {r : Int × Int} (hs : 0 ≤ size) (h : 0 ≤ r.1 ∧ r.1 ≤ size ∧ 0 ≤ r.2 ∧ r.2 ≤ size ∧ (r.2 = 0 → r.1 = size)) (j : Int) :
    0 ≤ (und size a r j).1 ∧ (und size a r j).1 ≤ size ∧ 0 ≤ (und size a r j).2 ∧ (und size a r j).2 ≤ size ∧ ((und size a r j).2 = 0 → (und size a r j).1 = size) := by
  unfold und
  split <;> (try simp only) <;> omega
theorem und_step {size a : Int} {r : Int × Int} (hs : 0 ≤ size) (h : 0 ≤ r.1 ∧ r.1 ≤ size ∧ 0 ≤ r.2 ∧ r.2 ≤ size ∧ (r.2 = 0 → r.1 = size)) (j : Int) (hj : 0 ≤ j) :
    fin (und size a r (j + 1)) = if a + j < 0 ∨ a + j ≥ size then fin (und size a r j) else (min (if (fin (und size a r j)).2 = 0 then a + j else (fin (und size a r j)).1) (a + j), max (fin (und size a r j)).2 (a + j + 1)) := by
  obtain ⟨r1, r2⟩ := r
  simp only at h
  by_cases hc : a + j < 0 ∨ a + j ≥ size
  · rw [if_pos hc]
    congr 1
    unfold und
    by_cases h1 : max 0 a < min size (a + j)
    · rw [if_pos h1, if_pos (by omega)]
      refine Prod.ext ?_ ?_ <;> simp only <;> omega
    · rw [if_neg h1, if_neg (by omega)]
  · rw [if_neg hc]
    by_cases h1 : max 0 a < min size (a + j)
    · simp only [und, if_pos h1, if_pos (show max 0 a < min size (a + (j + 1)) by omega)]
      simp only [fin, if_neg (show ¬ max r2 (min size (a + j)) = 0 by omega), if_neg (show ¬ max r2 (min size (a + (j + 1))) = 0 by omega)]
      refine Prod.ext ?_ ?_ <;> simp only <;> omega
    · simp only [und, if_neg h1, if_pos (show max 0 a < min size (a + (j + 1)) by omega)]
      simp only [fin, if_neg (show ¬ max r2 (min size (a + (j + 1))) = 0 by omega)]
      by_cases h2 : r2 = 0
      · simp only [if_pos h2, if_true]
        refine Prod.ext ?_ ?_ <;> simp only <;> omega
      · simp only [if_neg h2]
        refine Prod.ext ?_ ?_ <;> simp only <;> omega
theorem fin_in {size : Int} {r : Int × Int} (hs : 0 ≤ size) (h : 0 ≤ r.1 ∧ r.1 ≤ size ∧ 0 ≤ r.2 ∧ r.2 ≤ size ∧ (r.2 = 0 → r.1 = size)) : 0 ≤ (fin r).1 ∧ (fin r).1 ≤ size ∧ 0 ≤ (fin r).2 ∧ (fin r).2 ≤ size := by
  unfold fin
  split <;> (try simp only) <;> omega
theorem ref02_in (k stride pad size y : Int) (r : Int × Int) (hw : winB size k stride pad = true) (hy : 0 ≤ y ∧ y ≤ 96) (h : 0 ≤ r.1 ∧ r.1 ≤ size ∧ 0 ≤ r.2 ∧ r.2 ≤ size ∧ (r.2 = 0 → r.1 = size)) (u v : Int) :
    iterN (ref02_Reach_l10_p k stride pad size (u, v, y)) LL ((fin r).1, (fin r).2, 0) = some ((fin (und size (y * stride - pad) r k)).1, (fin (und size (y * stride - pad) r k)).2, k) := by
  have h1 := winB_iff.1 hw
  have hp := mul_in' (a := y) (b := stride) (c := 96) (d := 16) (by omega) (by omega) (by omega) (by omega)
  have e1 := i64_in (y * stride) (by omega)
  have e2 := i64_in (y * stride - pad) (by omega)
  have ha : -16 ≤ y * stride - pad ∧ y * stride - pad ≤ 1536 := by omega
  have hl := iterN_for (p := ref02_Reach_l10_p k stride pad size (u, v, y)) (z := ((fin (und size (y * stride - pad) r k)).1, (fin (und size (y * stride - pad) r k)).2, k)) k.toNat
    (fun j => ((fin (und size (y * stride - pad) r (j : Int))).1, (fin (und size (y * stride - pad) r (j : Int))).2, (j : Int))) LL (LL_lt (by omega)) (fun j hj => by
      simp only [ref02_Reach_l10_p, ref02_Reach_j12_p, ref02_Reach_j12_q, ref02_Reach_r13_p, ref02_Reach_r13_q, ref02_Reach_j14_p, ref02_Reach_j14_q, ref02_Reach_r16_p, ref02_Reach_r16_q, ref02_Reach_r17_p, ref02_Reach_r17_q, ref02_Reach_r12_p, ref02_Reach_r12_q, e1, e2]
      generalize y * stride - pad = a at *
      have e3 := i64_in (a + (j : Int)) (by omega)
      have e4 := i64_in (a + (j : Int) + 1) (by omega)
      have e5 := i64_in ((j : Int) + 1) (by omega)
      have e6 : decide ((j : Int) < k) = true := decide_eq_true (by omega)
      simp only [e3, e4, e5, e6, cond_true]
      rw [show ((j + 1 : Nat) : Int) = (j : Int) + 1 by omega, und_step (by omega) h _ (by omega)]
      by_cases hc : a + (j : Int) < 0 ∨ a + (j : Int) ≥ size
      · rw [if_pos hc]
        by_cases h3 : a + (j : Int) < 0
        · rw [decide_eq_true h3]; rfl
        · rw [decide_eq_false h3, decide_eq_true (by omega : a + (j : Int) ≥ size)]; rfl
      · rw [if_neg hc, decide_eq_false (by omega), decide_eq_false (by omega)]
        simp only [cond_false]
        by_cases hz : (fin (und size a r (j : Int))).2 = 0
        · rw [if_pos hz, hz]; rfl
        · rw [if_neg hz]
          have : ((fin (und size a r (j : Int))).2 == 0) = false := by simpa using hz
          rw [this]
          rfl) (by
      simp only [ref02_Reach_l10_p]
      rw [decide_eq_false (by omega), show (k.toNat : Int) = k by omega]
      rfl)
  have h0 : und size (y * stride - pad) r ((0 : Nat) : Int) = r := by
    unfold und
    rw [if_neg (by omega)]
  rw [h0] at hl
  exact hl
theorem ref02_Reach_eq (first rows k stride pad size : Int) : ref02_Reach first rows k stride pad size = some (reachV first rows k stride pad size) := by
  have hn := outV_in size k stride pad
  unfold ref02_Reach
  rw [ref02_Out_eq]
  simp only [Option.bind_some]
  unfold reachV
  have hr : ref02_Reach_r4_p first rows (outV size k stride pad) = decide (first < 0 ∨ rows < 1 ∨ first > outV size k stride pad ∨ rows > outV size k stride pad - first) := by
    simp only [ref02_Reach_r4_p, ref02_Reach_r4_q]
    by_cases h1 : first < 0
    · rw [decide_eq_true h1, decide_eq_true (Or.inl h1)]; rfl
    · rw [decide_eq_false h1]
      by_cases h2 : rows < 1
      · rw [decide_eq_true h2, decide_eq_true (Or.inr (Or.inl h2))]; rfl
      · rw [decide_eq_false h2]
        by_cases h3 : first > outV size k stride pad
        · rw [decide_eq_true h3, decide_eq_true (Or.inr (Or.inr (Or.inl h3)))]; rfl
        · rw [decide_eq_false h3, i64_in _ (by omega)]
          simp only [h1, h2, h3, false_or, cond_false]
  rw [hr]
  by_cases hg : first < 0 ∨ rows < 1 ∨ first > outV size k stride pad ∨ rows > outV size k stride pad - first
  · rw [if_pos hg, decide_eq_true hg]; rfl
  · rw [if_neg hg, decide_eq_false hg]
    have hw : winB size k stride pad = true := by
      cases hw : winB size k stride pad with
      | true => rfl
      | false =>
        have : outV size k stride pad = 0 := by unfold outV; rw [hw]; simp
        omega
    have h1 := winB_iff.1 hw
    simp only [cond_false]
    have hl := iterN_for (p := ref02_Reach_l7_p first rows k stride pad size) (z := ((fin (unders size k stride pad first rows.toNat)).1, (fin (unders size k stride pad first rows.toNat)).2, first + rows)) rows.toNat
      (fun i => ((fin (unders size k stride pad first i)).1, (fin (unders size k stride pad first i)).2, first + (i : Int))) LL (LL_lt (by omega)) (fun i hi => by
        have hu := unders_in (first := first) hw i
        have hin := ref02_in k stride pad size (first + (i : Int)) (unders size k stride pad first i) hw (by omega) hu (fin (unders size k stride pad first i)).1 (fin (unders size k stride pad first i)).2
        simp only [ref02_Reach_l7_p]
        have e1 := i64_in (first + rows) (by omega)
        have e5 := i64_in (first + (i : Int) + 1) (by omega)
        have e6 : decide (first + (i : Int) < first + rows) = true := decide_eq_true (by omega)
        simp only [e1, e5, e6, cond_true, hin, Option.bind_some]
        rw [show ((i + 1 : Nat) : Int) = (i : Int) + 1 by omega, Int.add_assoc]
        rfl) (by
        simp only [ref02_Reach_l7_p]
        rw [i64_in (first + rows) (by omega), decide_eq_false (by omega)]
        simp only [cond_false]
        rw [show ((rows.toNat : Nat) : Int) = rows by omega])
    have h0 : fin (unders size k stride pad first 0) = (0, 0) := by simp only [unders, fin, if_true]
    rw [h0, show first + ((0 : Nat) : Int) = first by omega] at hl
    rw [hl]
    simp only [Option.bind_some, fin]
theorem out_iff {size k stride pad : Int} (hw : winB size k stride pad = true) (i : Int) (hi : 0 ≤ i) : i < outV size k stride pad ↔ i * stride + k ≤ size + 2 * pad := by
  have h1 := winB_iff.1 hw
  unfold outV
  rw [hw]
  by_cases hk : k ≤ size + 2 * pad
  · rw [if_pos ⟨rfl, hk⟩]
    have : i ≤ (size + 2 * pad - k) / stride ↔ i * stride ≤ size + 2 * pad - k := Int.le_ediv_iff_mul_le (by omega)
    constructor
    · intro h; have := this.1 (by omega); omega
    · intro h; have := this.2 (by omega); omega
  · rw [if_neg (fun h => hk h.2)]
    have : 0 ≤ i * stride := Int.mul_nonneg hi (by omega)
    constructor <;> intro h <;> omega
/-- the ends of what is under one place -/
def loV (stride pad p : Int) : Int := max 0 (p * stride - pad)
def hiV (size k stride pad p : Int) : Int := min size (p * stride - pad + k)
theorem under_ends (size k stride pad p : Int) (r : Int × Int) : under size k stride pad p r = if loV stride pad p < hiV size k stride pad p then (min r.1 (loV stride pad p), max r.2 (hiV size k stride pad p)) else r := rfl
theorem ends_up {stride p q : Int} (size k pad : Int) (hs : 1 ≤ stride) (h : p ≤ q) : loV stride pad p ≤ loV stride pad q ∧ hiV size k stride pad p ≤ hiV size k stride pad q := by
  have : p * stride ≤ q * stride := Int.mul_le_mul_of_nonneg_right h (by omega)
  unfold loV hiV
  omega
theorem unders_lo {size k stride pad first : Int} (hw : winB size k stride pad = true) (h0 : loV stride pad first < hiV size k stride pad first) : ∀ n : Nat, (unders size k stride pad first (n + 1)).1 = loV stride pad first ∧ hiV size k stride pad first ≤ (unders size k stride pad first (n + 1)).2
  | 0 => by
    have h1 := winB_iff.1 hw
    have hz : first + ((0 : Nat) : Int) = first := by omega
    simp only [unders, under_ends, hz]
    rw [if_pos h0]
    unfold hiV at *
    refine ⟨?_, ?_⟩ <;> simp only <;> omega
  | n + 1 => by
    have h1 := winB_iff.1 hw
    have ih := unders_lo hw h0 n
    rw [unders, under_ends]
    have := ends_up (stride := stride) (p := first) (q := first + ((n + 1 : Nat) : Int)) size k pad (by omega) (by omega)
    split <;> (try simp only) <;> omega
theorem unders_hi {size k stride pad first : Int} (hw : winB size k stride pad = true) : ∀ n : Nat, (unders size k stride pad first n).2 ≤ max 0 (hiV size k stride pad (first + (n : Int)))
  | 0 => by
    simp only [unders]
    omega
  | n + 1 => by
    have h1 := winB_iff.1 hw
    have ih := unders_hi (first := first) hw n
    rw [unders, under_ends]
    have := ends_up (stride := stride) (p := first + (n : Int)) (q := first + ((n + 1 : Nat) : Int)) size k pad (by omega) (by omega)
    split <;> (try simp only) <;> omega
theorem unders_last {size k stride pad first : Int} (hw : winB size k stride pad = true) (n : Nat) (h0 : loV stride pad (first + (n : Int)) < hiV size k stride pad (first + (n : Int))) : (unders size k stride pad first (n + 1)).2 = hiV size k stride pad (first + (n : Int)) := by
  have ih := unders_hi (first := first) hw n
  rw [unders, under_ends, if_pos h0]
  have : 0 ≤ loV stride pad (first + (n : Int)) := by unfold loV; omega
  show max _ _ = _
  omega
theorem out_win {size k stride pad : Int} (h : outV size k stride pad ≠ 0) : winB size k stride pad = true := by
  cases hw : winB size k stride pad with
  | true => rfl
  | false => exact absurd (by unfold outV; rw [hw]; simp) h
theorem reachV_ok {first rows k stride pad size : Int} (h1 : 0 ≤ first) (h2 : 1 ≤ rows) (h3 : first + rows ≤ outV size k stride pad) : reachV first rows k stride pad size = if (unders size k stride pad first rows.toNat).2 = 0 then (0, 0) else unders size k stride pad first rows.toNat := by
  unfold reachV
  rw [if_neg (by omega)]
/-- the reach of some rows that reach anything at both ends -/
theorem reachV_ends {first rows k stride pad size : Int} (h1 : 0 ≤ first) (h2 : 1 ≤ rows) (h3 : first + rows ≤ outV size k stride pad)
    (ha : loV stride pad first < hiV size k stride pad first) (hb : loV stride pad (first + rows - 1) < hiV size k stride pad (first + rows - 1)) : reachV first rows k stride pad size = (loV stride pad first, hiV size k stride pad (first + rows - 1)) := by
  have hw := out_win (size := size) (k := k) (stride := stride) (pad := pad) (by omega)
  rw [reachV_ok h1 h2 h3]
  have e : rows.toNat = (rows - 1).toNat + 1 := by omega
  have e2 : first + (((rows - 1).toNat : Nat) : Int) = first + rows - 1 := by omega
  rw [e]
  have a1 := unders_lo hw ha (rows - 1).toNat
  have a2 := unders_last (first := first) hw (rows - 1).toNat (by rw [e2]; exact hb)
  rw [e2] at a2
  have : 0 ≤ loV stride pad first := by unfold loV; omega
  rw [if_neg (by omega)]
  exact Prod.ext a1.1 a2
theorem reachV_one {first k stride pad size : Int} (h1 : 0 ≤ first) (h3 : first < outV size k stride pad) (h0 : (reachV first 1 k stride pad size).2 ≠ 0) : loV stride pad first < hiV size k stride pad first := by
  rw [reachV_ok h1 (by omega) (by omega)] at h0
  have e : (1 : Int).toNat = 0 + 1 := rfl
  have hz : first + ((0 : Nat) : Int) = first := by omega
  rw [e] at h0
  simp only [unders, under_ends, hz] at h0
  by_cases h : loV stride pad first < hiV size k stride pad first
  · exact h
  · rw [if_neg h] at h0
    exact absurd rfl h0
/-- a place that reaches nothing is all in the padding -/
theorem empty_pad {size k stride pad p : Int} (hw : winB size k stride pad = true) (h1 : 0 ≤ p) (h2 : p < outV size k stride pad) (h : ¬ loV stride pad p < hiV size k stride pad p) : 0 < pad ∧ k ≤ pad := by
  have hb := winB_iff.1 hw
  have := (out_iff hw p h1).1 h2
  have : 0 ≤ p * stride := Int.mul_nonneg h1 (by omega)
  unfold loV hiV at h
  omega
end Go.V.P
