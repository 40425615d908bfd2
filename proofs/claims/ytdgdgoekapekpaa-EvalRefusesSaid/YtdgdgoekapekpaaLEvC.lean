/- Plain laws of layer 6: the numbers that go in. -/
import Derived.Test.YtdgdgoekapekpaaLPairA
import Derived.Test.YtdgdgoekapekpaaEr1
namespace Go.V.P
open Go Go.V Go.IntWalk
set_option linter.unusedVariables false
set_option linter.unusedSimpArgs false
set_option maxRecDepth 20000
/-- numbers for values, one row each -/
structure Rows (l : List I4) (d : List (List Int)) : Prop where
  len : d.length = l.length
  full : ∀ (i : Nat) (h : i < l.length), Full l[i] (gt d (i : Int) [])
theorem filled06_row (g : Graph) (l : List Int) (hb : i8s l) (s : List (List Int) × Int × Int) (i : Nat) (hi : s.2.2 = (i : Int)) (h : i < g.1.length) (hg : g.1.length ≤ 6) (k : Int) (h0 : 0 ≤ k) (h1 : k ≤ 1000000) :
    ∃ y : Int × List Int × Int, iterN (ref06_Filled_l8_p g l s) LL (k, [], 0) = some y ∧ y.1 = k + sizeV (vS g.1[i]) ∧ (y.2.1.length : Int) = sizeV (vS g.1[i]) ∧ i8s y.2.1 := by
  have hgt := gt_at dI4 h
  obtain ⟨u1, u2, u3⟩ := step_t h (by omega)
  generalize hv : g.1[i] = v at *
  have hs := sizeV_in (vS v)
  have es : ref02_Size (v.1, v.2.1, v.2.2.1) = sizeV (vS v) := ref02_Size_eq _
  refine iterN_inv (fun t : Int × List Int × Int => t.1 = k + t.2.2 ∧ (t.2.1.length : Int) = t.2.2 ∧ t.2.2 ≤ sizeV (vS v) ∧ i8s t.2.1) (fun t => (sizeV (vS v) - t.2.2).toNat) (fun t ht => ?_) LL (k, [], 0) ⟨by simp only; omega, rfl, by simp only; omega, fun v hv => by simp at hv⟩ (LL_lt (by simp only; omega))
  obtain ⟨a0, a1, a2, a3⟩ := ht
  have e8 : ref06_Filled_r8_p g s t = some (decide (t.2.2 < sizeV (vS v))) := by
    unfold ref06_Filled_r8_p
    rw [hi, u1, u2, hgt, es]
    rfl
  unfold ref06_Filled_l8_p
  rw [e8]
  simp only [Option.bind_some]
  by_cases hc : t.2.2 < sizeV (vS v)
  · have hj : ∃ x, ref06_Filled_j11_p l t = some x ∧ -128 ≤ x ∧ x ≤ 127 := by
      unfold ref06_Filled_j11_p
      by_cases h0 : (l.length : Int) > 0
      · have hm1 := Int.emod_nonneg t.1 (show (l.length : Int) ≠ 0 by omega)
        have hm2 := Int.emod_lt_of_pos t.1 (show 0 < (l.length : Int) by omega)
        have hm : Int.tmod t.1 (l.length : Int) = t.1 % (l.length : Int) := Int.tmod_eq_emod_of_nonneg (by omega)
        have h7 : ref06_Filled_r12_p l t = some () := by
          unfold ref06_Filled_r12_p
          rw [hm, show ((l.length : Int) == 0) = false by simp only [beq_eq_false_iff_ne]; omega, decide_eq_true hm1, decide_eq_true hm2]
          rfl
        rw [decide_eq_true h0, h7, hm]
        exact ⟨_, rfl, gt_i8 hb _ hm1 hm2⟩
      · rw [decide_eq_false h0]
        exact ⟨0, rfl, by omega, by omega⟩
    obtain ⟨x, x1, x2⟩ := hj
    have h14 : ref06_Filled_r14_p t x = some () := by
      unfold ref06_Filled_r14_p
      rw [decide_eq_true (by simp only [List.length_cons, List.length_nil]; unfold maxL; omega)]
      rfl
    have t3 := i64_in (t.2.2 + 1) (by omega)
    have t4 := i64_in (t.1 + 1) (by omega)
    rw [decide_eq_true hc, x1]
    simp only [cond_true, Option.bind_some, h14, t3, t4]
    refine .inl ⟨_, rfl, ⟨by simp only; omega, by simp only [List.length_append, List.length_cons, List.length_nil]; omega, by simp only; omega, fun v hv => ?_⟩, by simp only; omega⟩
    rcases List.mem_append.1 hv with hv | hv
    · exact a3 v hv
    · have : v = x := by simpa using hv
      subst this; exact x2
  · rw [decide_eq_false hc]
    exact .inr ⟨_, rfl, by omega, by omega, a3⟩
theorem Filled_run (g : Graph) (l : List Int) (hb : i8s l) (hg : g.1.length ≤ 6) (hm : ∀ v ∈ g.1, mayB (vS v) = true ∧ -128 ≤ v.2.2.2 ∧ v.2.2.2 ≤ 127) : ∃ d, ref06_Filled g l = some d ∧ Rows g.1 d := by
  obtain ⟨z, hz, h2⟩ := iterN_inv (p := ref06_Filled_l4_p g l) (fun s : List (List Int) × Int × Int => ∃ i : Nat, s.2.2 = (i : Int) ∧ i ≤ g.1.length ∧ s.1.length = i ∧ 0 ≤ s.2.1 ∧ s.2.1 ≤ 2048 * (i : Int) ∧ ∀ (j : Nat) (h : j < g.1.length), j < i → Full g.1[j] (gt s.1 (j : Int) [])) (fun s => g.1.length - s.2.2.toNat)
    (Q := fun z => Rows g.1 z.1) (fun s hs => by
    obtain ⟨i, hi, hil, hl, h0, h1, hf⟩ := hs
    by_cases h : i < g.1.length
    · obtain ⟨t1, t2, t3⟩ := step_t h (by omega)
      obtain ⟨y, y1, y2, y3, y4⟩ := filled06_row g l hb s i hi h hg s.2.1 h0 (by omega)
      have hs := sizeV_in (vS g.1[i])
      have h15 : ref06_Filled_r15_p s y = some () := by
        unfold ref06_Filled_r15_p
        rw [decide_eq_true (by simp only [List.length_singleton, maxL]; omega)]
        rfl
      unfold ref06_Filled_l4_p
      rw [hi, t1, y1, t3]
      simp only [cond_true, Option.bind_some, h15]
      refine .inl ⟨_, rfl, ⟨i + 1, by simp only; omega, by omega, by simp [hl], by simp only; omega, by simp only; omega, fun j hj hji => ?_⟩, by simp only; omega⟩
      by_cases he : j = i
      · subst he
        have hmm := hm _ (List.getElem_mem hj)
        have : gt (s.1 ++ [y.2.1]) (j : Int) [] = y.2.1 := by
          rw [gt_at _ (show j < (s.1 ++ [y.2.1]).length by simp [hl])]
          simp [hl]
        simp only
        rw [this]
        exact ⟨hmm.1, y3, y4, hmm.2⟩
      · have := hf j hj (by omega)
        have e : gt (s.1 ++ [y.2.1]) (j : Int) [] = gt s.1 (j : Int) [] := by
          rw [gt_at _ (show j < (s.1 ++ [y.2.1]).length by simp [hl]; omega), gt_at _ (show j < s.1.length by omega), List.getElem_append_left]
        simp only
        rw [e]
        exact this
    · refine .inr ⟨s, ?_, by omega, fun j hj => hf j hj (by omega)⟩
      unfold ref06_Filled_l4_p
      rw [decide_eq_false (by omega)]
      rfl) LL ([], 0, 0) ⟨0, rfl, by omega, rfl, by simp only; omega, by simp only; omega, fun j _ h => absurd h (by omega)⟩ (LL_lt (by simp only [Int.toNat_zero]; omega))
  unfold ref06_Filled
  rw [hz]
  exact ⟨_, rfl, h2⟩
end Go.V.P
