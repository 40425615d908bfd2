/- Plain laws of layer 2, as far as later layers need them: reaches, both ways. -/
import Derived.Test.YtaeckbkjlmnigaaLSh5
import Derived.Test.YtaeckbkjlmnigaaBm4
import Derived.Test.YtaeckbkjlmnigaaBm4
namespace Go.V.P
open Go Go.V Go.IntWalk
set_option linter.unusedVariables false
def und (size a : Int) (r : Int × Int) (j : Int) : Int × Int := if max 0 a < min size (a + j) then (min r.1 (max 0 a), max r.2 (min size (a + j))) else r
def fin (r : Int × Int) : Int × Int := if r.2 = 0 then (0, 0) else r
theorem und_in {size a : Int} {r : Int × Int} (hs : 0 ≤ size) (h : 0 ≤ r.1 ∧ r.1 ≤ size ∧ 0 ≤ r.2 ∧ r.2 ≤ size ∧ (r.2 = 0 → r.1 = size)) (j : Int) :
    0 ≤ (und size a r j).1 ∧ (und size a r j).1 ≤ size ∧ 0 ≤ (und size a r j).2 ∧ (und size a r j).2 ≤ size ∧ ((und size a r j).2 = 0 → (und size a r j).1 = size) := by
  unfold und
  split <;> (try simp only) <;> omega
theorem und_step {size a : Int} {r : Int × Int} (hs : 0 ≤ size) (h : 0 ≤ r.1 ∧ r.1 ≤ size ∧ 0 ≤ r.2 ∧ r.2 ≤ size ∧ (r.2 = 0 → r.1 = size)) (j : Int) (hj : 0 ≤ j) :
    fin (und size a r (j + 1)) = if a + j < 0 ∨ a + j ≥ size then fin (und size a r j) else (min (if (fin (und size a r j)).2 = 0 then a + j else (fin (und size a r j)).1) (a + j), max (fin (und size a r j)).2 (a + j + 1)) := by
  obtain ⟨r1, r2⟩ := r
  simp only at h
  by_cases hc : a + j < 0 ∨ a + j ≥ size
  · rw [if_pos hc]
    congr 1
    unfold und
    by_cases h1 : max 0 a < min size (a + j)
    · rw [if_pos h1, if_pos (by omega)]
      refine Prod.ext ?_ ?_ <;> simp only <;> omega
    · rw [if_neg h1, if_neg (by omega)]
  · rw [if_neg hc]
    by_cases h1 : max 0 a < min size (a + j)
    · simp only [und, if_pos h1, if_pos (show max 0 a < min size (a + (j + 1)) by omega)]
      simp only [fin, if_neg (show ¬ max r2 (min size (a + j)) = 0 by omega), if_neg (show ¬ max r2 (min size (a + (j + 1))) = 0 by omega)]
      refine Prod.ext ?_ ?_ <;> simp only <;> omega
    · simp only [und, if_neg h1, if_pos (show max 0 a < min size (a + (j + 1)) by omega)]
      simp only [fin, if_neg (show ¬ max r2 (min size (a + (j + 1))) = 0 by omega)]
      by_cases h2 : r2 = 0
      · simp only [if_pos h2, if_true]
        refine Prod.ext ?_ ?_ <;> simp only <;> omega
      · simp only [if_neg h2]
        refine Prod.ext ?_ ?_ <;> simp only <;> omega
theorem fin_in {size : Int} {r : Int × Int} (hs : 0 ≤ size) (h : 0 ≤ r.1 ∧ r.1 ≤ size ∧ 0 ≤ r.2 ∧ r.2 ≤ size ∧ (r.2 = 0 → r.1 = size)) : 0 ≤ (fin r).1 ∧ (fin r).1 ≤ size ∧ 0 ≤ (fin r).2 ∧ (fin r).2 ≤ size := by
  unfold fin
  split <;> (try simp only) <;> omega
theorem ref02_in (k stride pad size y : Int) (r : Int × Int) (hw : winB size k stride pad = true) (hy : 0 ≤ y ∧ y ≤ 96) (h : 0 ≤ r.1 ∧ r.1 ≤ size ∧ 0 ≤ r.2 ∧ r.2 ≤ size ∧ (r.2 = 0 → r.1 = size)) (u v : Int) :
    iterN (ref02_Reach_l10_p k stride pad size (u, v, y)) LL ((fin r).1, (fin r).2, 0) = some ((fin (und size (y * stride - pad) r k)).1, (fin (und size (y * stride - pad) r k)).2, k) := by
  have h1 := winB_iff.1 hw
  have hp := mul_in' (a := y) (b := stride) (c := 96) (d := 16) (by omega) (by omega) (by omega) (by omega)
  have e1 := i64_in (y * stride) (by omega)
  have e2 := i64_in (y * stride - pad) (by omega)
  have ha : -16 ≤ y * stride - pad ∧ y * stride - pad ≤ 1536 := by omega
  have hl := iterN_for (p := ref02_Reach_l10_p k stride pad size (u, v, y)) (z := ((fin (und size (y * stride - pad) r k)).1, (fin (und size (y * stride - pad) r k)).2, k)) k.toNat
    (fun j => ((fin (und size (y * stride - pad) r (j : Int))).1, (fin (und size (y * stride - pad) r (j : Int))).2, (j : Int))) LL (LL_lt (by omega)) (fun j hj => by
      simp only [ref02_Reach_l10_p, ref02_Reach_j12_p, ref02_Reach_j12_q, ref02_Reach_r13_p, ref02_Reach_r13_q, ref02_Reach_j14_p, ref02_Reach_j14_q, ref02_Reach_r16_p, ref02_Reach_r16_q, ref02_Reach_r17_p, ref02_Reach_r17_q, ref02_Reach_r12_p, ref02_Reach_r12_q, e1, e2]
      generalize y * stride - pad = a at *
      have e3 := i64_in (a + (j : Int)) (by omega)
      have e4 := i64_in (a + (j : Int) + 1) (by omega)
      have e5 := i64_in ((j : Int) + 1) (by omega)
      have e6 : decide ((j : Int) < k) = true := decide_eq_true (by omega)
      simp only [e3, e4, e5, e6, cond_true]
      rw [show ((j + 1 : Nat) : Int) = (j : Int) + 1 by omega, und_step (by omega) h _ (by omega)]
      by_cases hc : a + (j : Int) < 0 ∨ a + (j : Int) ≥ size
      · rw [if_pos hc]
        by_cases h3 : a + (j : Int) < 0
        · rw [decide_eq_true h3]; rfl
        · rw [decide_eq_false h3, decide_eq_true (by omega : a + (j : Int) ≥ size)]; rfl
      · rw [if_neg hc, decide_eq_false (by omega), decide_eq_false (by omega)]
        simp only [cond_false]
        by_cases hz : (fin (und size a r (j : Int))).2 = 0
        · rw [if_pos hz, hz]; rfl
        · rw [if_neg hz]
          have : ((fin (und size a r (j : Int))).2 == 0) = false := by simpa using hz
          rw [this]
          rfl) (by
      simp only [ref02_Reach_l10_p]
      rw [decide_eq_false (by omega), show (k.toNat : Int) = k by omega]
      rfl)
  have h0 : und size (y * stride - pad) r ((0 : Nat) : Int) = r := by
    unfold und
    rw [if_neg (by omega)]
  rw [h0] at hl
  exact hl
theorem ref02_Reach_eq (first rows k stride pad size : Int) : ref02_Reach first rows k stride pad size = some (reachV first rows k stride pad size) := by
  have hn := outV_in size k stride pad
  unfold ref02_Reach
  rw [ref02_Out_eq]
  simp only [Option.bind_some]
  unfold reachV
  have hr : ref02_Reach_r4_p first rows (outV size k stride pad) = decide (first < 0 ∨ rows < 1 ∨ first > outV size k stride pad ∨ rows > outV size k stride pad - first) := by
    simp only [ref02_Reach_r4_p, ref02_Reach_r4_q]
    by_cases h1 : first < 0
    · rw [decide_eq_true h1, decide_eq_true (Or.inl h1)]; rfl
    · rw [decide_eq_false h1]
      by_cases h2 : rows < 1
      · rw [decide_eq_true h2, decide_eq_true (Or.inr (Or.inl h2))]; rfl
      · rw [decide_eq_false h2]
        by_cases h3 : first > outV size k stride pad
        · rw [decide_eq_true h3, decide_eq_true (Or.inr (Or.inr (Or.inl h3)))]; rfl
        · rw [decide_eq_false h3, i64_in _ (by omega)]
          simp only [h1, h2, h3, false_or, cond_false]
  rw [hr]
  by_cases hg : first < 0 ∨ rows < 1 ∨ first > outV size k stride pad ∨ rows > outV size k stride pad - first
  · rw [if_pos hg, decide_eq_true hg]; rfl
  · rw [if_neg hg, decide_eq_false hg]
    have hw : winB size k stride pad = true := by
      cases hw : winB size k stride pad with
      | true => rfl
      | false =>
        have : outV size k stride pad = 0 := by unfold outV; rw [hw]; simp
        omega
    have h1 := winB_iff.1 hw
    simp only [cond_false]
    have hl := iterN_for (p := ref02_Reach_l7_p first rows k stride pad size) (z := ((fin (unders size k stride pad first rows.toNat)).1, (fin (unders size k stride pad first rows.toNat)).2, first + rows)) rows.toNat
      (fun i => ((fin (unders size k stride pad first i)).1, (fin (unders size k stride pad first i)).2, first + (i : Int))) LL (LL_lt (by omega)) (fun i hi => by
        have hu := unders_in (first := first) hw i
        have hin := ref02_in k stride pad size (first + (i : Int)) (unders size k stride pad first i) hw (by omega) hu (fin (unders size k stride pad first i)).1 (fin (unders size k stride pad first i)).2
        simp only [ref02_Reach_l7_p]
        have e1 := i64_in (first + rows) (by omega)
        have e5 := i64_in (first + (i : Int) + 1) (by omega)
        have e6 : decide (first + (i : Int) < first + rows) = true := decide_eq_true (by omega)
        simp only [e1, e5, e6, cond_true, hin, Option.bind_some]
        rw [show ((i + 1 : Nat) : Int) = (i : Int) + 1 by omega, Int.add_assoc]
        rfl) (by
        simp only [ref02_Reach_l7_p]
        rw [i64_in (first + rows) (by omega), decide_eq_false (by omega)]
        simp only [cond_false]
        rw [show ((rows.toNat : Nat) : Int) = rows by omega])
    have h0 : fin (unders size k stride pad first 0) = (0, 0) := by simp only [unders, fin, if_true]
    rw [h0, show first + ((0 : Nat) : Int) = first by omega] at hl
    rw [hl]
    simp only [Option.bind_some, fin]
theorem ref02_Row_eq (s : I3) : ref02_Row s = rowV s := by
  have hr := rowV_in s
  unfold ref02_Row ref02_Row_q
  rw [ref02_May_eq]
  unfold rowV at *
  cases hm : mayB s with
  | true =>
    rw [hm, if_pos rfl] at hr
    simp only [if_true]
    rw [i64_in _ (by omega)]
    rfl
  | false => rfl
end Go.V.P
