/- Plain laws of layer 3: graphs that may not be are refused alike. -/
import Derived.Test.YtaeckbkjlmnigaaLEvA
namespace Go.V.P
open Go Go.V Go.IntWalk
set_option linter.unusedVariables false
set_option linter.unusedSimpArgs false
set_option maxRecDepth 20000
def inE (v : I4) : Int := if mayB (vS v) = true then 11 else 10
def badE : List I4 → Int
  | [] => 0
  | v :: l => if badIn v = true then inE v else badE l
theorem badE_at : ∀ (l : List I4) (i : Nat) (h : i < l.length), (l.take i).any badIn = false → badIn l[i] = true → badE l = inE l[i]
  | [], i, h, _, _ => absurd h (Nat.not_lt_zero _)
  | v :: l, 0, h, _, hb => by
    simp only [List.getElem_cons_zero] at hb ⊢
    simp only [badE]
    rw [if_pos hb]
  | v :: l, i + 1, h, ht, hb => by
    simp only [List.take_succ_cons, List.any_cons, Bool.or_eq_false_iff] at ht
    simp only [List.getElem_cons_succ] at hb ⊢
    simp only [badE]
    rw [if_neg (by rw [ht.1]; decide)]
    exact badE_at l i (by simpa using h) ht.2 hb
theorem badE_ne : ∀ (l : List I4), l.any badIn = true → badE l ≠ 0
  | [], h => by cases h
  | v :: l, h => by
    simp only [badE]
    by_cases hb : badIn v = true
    · rw [if_pos hb]; unfold inE; split <;> decide
    · rw [if_neg hb]
      simp only [List.any_cons] at h
      rw [Bool.not_eq_true] at hb
      rw [hb] at h
      exact badE_ne l h
theorem insE (g : Graph) (hg : g.1.length < 1000000) (hb : g.1.any badIn = true) : iterN (graph_goesIn_l6_p g) LL 0 = some (.inr (badE g.1)) := by
  obtain ⟨z, h1, h2⟩ := iterN_inv (p := graph_goesIn_l6_p g) (fun s : Int => ∃ i : Nat, s = (i : Int) ∧ i ≤ g.1.length ∧ (g.1.take i).any badIn = false) (fun s => g.1.length - s.toNat) (Q := fun z => z = .inr (badE g.1)) (fun s hs => by
    obtain ⟨i, rfl, hil, ht⟩ := hs
    by_cases h : i < g.1.length
    · obtain ⟨t1, t2, t3⟩ := step_t h hg
      have hgt := gt_at dI4 h
      have htk := List.take_succ_eq_append_getElem h
      simp only [graph_goesIn_l6_p, graph_goesIn_r7_p, t1, t2, t3, hgt, shape_May_eq, within_in, cond_true, Option.bind_some]
      have hm : (if mayB ((g.1[i]).1, (g.1[i]).2.1, (g.1[i]).2.2.1) = true then (0 : Int) else 10) = if mayB (vS g.1[i]) = true then 0 else 10 := rfl
      rw [hm]
      cases hb1 : mayB (vS g.1[i]) with
      | false =>
        refine .inr ⟨_, rfl, ?_⟩
        rw [badE_at g.1 i h ht (by simp [badIn, hb1])]
        unfold inE
        rw [hb1]
        rfl
      | true =>
        cases hb2 : ref03_in (g.1[i]).2.2.2 (-128) 127 with
        | false =>
          refine .inr ⟨_, rfl, ?_⟩
          rw [badE_at g.1 i h ht (by simp [badIn, hb2])]
          unfold inE
          rw [hb1]
          rfl
        | true =>
          refine .inl ⟨_, rfl, ⟨i + 1, by omega, by omega, ?_⟩, by omega⟩
          rw [htk, List.any_append, ht]
          simp [badIn, hb1, hb2]
    · have : i = g.1.length := by omega
      subst this
      rw [List.take_length, hb] at ht
      cases ht) LL 0 ⟨0, rfl, by omega, rfl⟩ (LL_lt (by simp only [Int.toNat_zero]; omega))
  rw [h1, h2]
theorem insE3 (g : Graph) (hg : g.1.length < 1000000) (hb : g.1.any badIn = true) : iterN (ref03_Values_l7_p g) LL ([], 0) = some (.inr (badE g.1)) := by
  obtain ⟨z, h1, h2⟩ := iterN_inv (p := ref03_Values_l7_p g) (fun s => ∃ i : Nat, s.2 = (i : Int) ∧ i ≤ g.1.length ∧ s.1 = g.1.take i ∧ (g.1.take i).any badIn = false) (fun s => g.1.length - s.2.toNat)
    (Q := fun z => z = .inr (badE g.1)) (fun s hs => by
    obtain ⟨acc, t⟩ := s
    obtain ⟨i, hi, hil, hacc, ht⟩ := hs
    simp only at hi hacc
    subst hi hacc
    by_cases h : i < g.1.length
    · have hgt := gt_at dI4 h
      obtain ⟨t1, t2, t3⟩ := step_t h hg
      have t4 : decide ((g.1.take i).length + ([g.1[i]] : List I4).length ≤ maxL) = true := decide_eq_true (by simp only [List.length_take, List.length_singleton, maxL]; omega)
      have htk := List.take_succ_eq_append_getElem h
      simp only [ref03_Values_l7_p, ref03_Values_r9_p, ref03_Values_r11_p, ref03_Values_r13_p, t1, t2, t3, hgt, cond_true, Option.bind_some, may_is, t4]
      cases hb1 : mayB (vS g.1[i]) with
      | false =>
        refine .inr ⟨_, rfl, ?_⟩
        rw [badE_at g.1 i h ht (by simp [badIn, hb1])]
        unfold inE
        rw [hb1]
        rfl
      | true =>
        cases hb2 : ref03_in (g.1[i]).2.2.2 (-128) 127 with
        | false =>
          refine .inr ⟨_, rfl, ?_⟩
          rw [badE_at g.1 i h ht (by simp [badIn, hb2])]
          unfold inE
          rw [hb1]
          rfl
        | true =>
          refine .inl ⟨_, rfl, ⟨i + 1, by simp only; omega, by omega, htk.symm, ?_⟩, by simp only; omega⟩
          rw [htk, List.any_append, ht]
          simp [badIn, hb1, hb2]
    · have : i = g.1.length := by omega
      subst this
      rw [List.take_length, hb] at ht
      cases ht) LL ([], 0) ⟨0, rfl, by omega, rfl, rfl⟩ (LL_lt (by simp only [Int.toNat_zero]; omega))
  rw [h1, h2]
def bigE (g : Graph) : Int := if (decide (g.1.length ≤ 4) && decide (g.2.1.length ≤ 12) && decide (g.2.2.length ≤ 4)) = true then (if (decide (g.1.length ≠ 0) && decide (g.2.2.length ≠ 0)) = true then badE g.1 else 13) else 3
def valuesE (g : Graph) : List I4 × Int :=
  if fitB g = true then
    match run g.1 0 g.2.1 with
    | .inl z => if z.2 ≤ 4096 then (if g.2.2.all (inR z.1.length) = true then (z.1, 0) else ([], 13)) else ([], 3)
    | .inr (.inl _) => ([], 13)
    | .inr (.inr e) => ([], e)
  else ([], bigE g)
theorem valuesE_is (g : Graph) : (∃ v, valuesV g = some v ∧ valuesE g = (v, 0)) ∨ (valuesV g = none ∧ ∃ e : Int, e ≠ 0 ∧ valuesE g = ([], e)) := by
  unfold valuesV valuesE
  by_cases hf : fitB g = true
  · rw [if_pos hf, if_pos hf]
    cases hr : run g.1 0 g.2.1 with
    | inr e =>
      cases e with
      | inl u => exact .inr ⟨rfl, 13, by decide, rfl⟩
      | inr e => exact .inr ⟨rfl, e, run_err _ _ _ _ hr, rfl⟩
    | inl z =>
      simp only
      by_cases hw : z.2 ≤ 4096
      · by_cases ha : g.2.2.all (inR z.1.length) = true
        · rw [if_pos ⟨hw, ha⟩, if_pos hw, if_pos ha]
          exact .inl ⟨_, rfl, rfl⟩
        · rw [if_neg (fun h => ha h.2), if_pos hw, if_neg ha]
          exact .inr ⟨rfl, 13, by decide, rfl⟩
      · rw [if_neg (fun h => hw h.1), if_neg hw]
        exact .inr ⟨rfl, 3, by decide, rfl⟩
  · rw [if_neg hf, if_neg hf]
    refine .inr ⟨rfl, bigE g, ?_, rfl⟩
    unfold bigE
    unfold fitB at hf
    split
    · rename_i h1
      split
      · rename_i h2
        rw [h1, Bool.true_and, h2] at hf
        exact badE_ne _ (by simpa using hf)
      · decide
    · decide
theorem goesE (g : Graph) (hg : g.1.length < 1000000) : graph_goesIn g = some (if fitB g = true then (g.1, 0) else ([], bigE g)) := by
  rcases goesIn_eq g hg with ⟨h1, h2⟩ | ⟨h1, e, h2, h3⟩
  · rw [if_pos h1, h2]
  · rw [if_neg (by rw [h1]; decide)]
    unfold graph_goesIn
    have r1 : graph_goesIn_r1_p g = !(decide (g.1.length ≤ 4) && decide (g.2.1.length ≤ 12) && decide (g.2.2.length ≤ 4)) := by
      rw [Bool.eq_iff_iff]
      simp only [graph_goesIn_r1_p, graph_goesIn_r1_q, Bool.cond_true_left, Bool.or_eq_true, decide_eq_true_iff, Bool.not_eq_true', Bool.and_eq_false_iff, decide_eq_false_iff_not]
      omega
    have r3 : graph_goesIn_r3_p g = !(decide (g.1.length ≠ 0) && decide (g.2.2.length ≠ 0)) := by
      rw [Bool.eq_iff_iff]
      simp only [graph_goesIn_r3_p, graph_goesIn_r3_q, Bool.cond_true_left, Bool.or_eq_true, beq_iff_eq, Bool.not_eq_true', Bool.and_eq_false_iff, decide_eq_false_iff_not]
      omega
    rw [r1, r3]
    unfold fitB at h1
    unfold bigE
    cases hcc : (decide (g.1.length ≤ 4) && decide (g.2.1.length ≤ 12) && decide (g.2.2.length ≤ 4)) with
    | false => rfl
    | true =>
      cases hb : (decide (g.1.length ≠ 0) && decide (g.2.2.length ≠ 0)) with
      | false => rfl
      | true =>
        rw [hcc, Bool.true_and, hb, Bool.true_and] at h1
        have ha : g.1.any badIn = true := by simpa using h1
        rw [insE g hg ha]
        rfl
theorem ValuesE (g : Graph) (hg : okGraph g) : graph_Values g = some (valuesE g) := by
  unfold graph_Values valuesE
  have hgo := goesE g (by have := hg.1; omega)
  by_cases h1 : fitB g = true
  · rw [if_pos h1] at hgo
    rw [hgo, if_pos h1]
    simp only [Option.bind_some, bne_self_eq_false, cond_false]
    have hl := run_loop g hg g.2.1.length LL 0 g.1 0 (by omega) (LL_lt (by have := hg.2.1.1; omega)) (by have := hg.1; omega) (by omega) (by omega)
    rw [List.drop_zero] at hl
    rw [show ((0 : Nat) : Int) = 0 from rfl] at hl
    rw [hl]
    cases hr : run g.1 0 g.2.1 with
    | inr e =>
      cases e with
      | inl u => rfl
      | inr e => rfl
    | inl z =>
      have hz := run_len _ _ _ z.1 z.2 hr
      have hpk := picked_eq z.1 g.2.2 (by have := hg.1; have := hg.2.1.1; omega) (by have := hg.2.2; omega)
      simp only [endV, Option.bind_some, either]
      rw [hpk]
      by_cases hw : z.2 ≤ 4096
      · rw [decide_eq_false (by omega), if_pos hw]
        by_cases ha : g.2.2.all (inR z.1.length) = true
        · rw [if_pos ha, if_pos ha]; rfl
        · rw [if_neg ha, if_neg ha]; rfl
      · rw [decide_eq_true (by omega), if_neg hw]
        rfl
  · rw [if_neg h1] at hgo
    rw [hgo, if_neg h1]
    simp only [Option.bind_some]
    have hne : bigE g ≠ 0 := by
      rcases valuesE_is g with ⟨v, hv, _⟩ | ⟨_, e, he, h2⟩
      · unfold valuesV at hv; rw [if_neg h1] at hv; cases hv
      · unfold valuesE at h2
        rw [if_neg h1] at h2
        cases h2
        exact he
    rw [show (bigE g != 0) = true by simpa using hne]
    rfl
theorem ValuesE3 (g : Graph) (hg : okGraph g) : ref03_Values g = some (valuesE g) := by
  unfold ref03_Values valuesE
  have h1 : ref03_Values_r1_p g = !(decide (g.1.length ≤ 4) && decide (g.2.1.length ≤ 12) && decide (g.2.2.length ≤ 4)) := by
    rw [Bool.eq_iff_iff]
    simp only [ref03_Values_r1_p, ref03_Values_r1_q, Bool.cond_true_left, Bool.or_eq_true, decide_eq_true_iff, Bool.not_eq_true', Bool.and_eq_false_iff, decide_eq_false_iff_not]
    omega
  have h3 : ref03_Values_r3_p g = !(decide (g.1.length ≠ 0) && decide (g.2.2.length ≠ 0)) := by
    rw [Bool.eq_iff_iff]
    simp only [ref03_Values_r3_p, ref03_Values_r3_q, Bool.cond_true_left, Bool.or_eq_true, beq_iff_eq, Bool.not_eq_true', Bool.and_eq_false_iff, decide_eq_false_iff_not]
    omega
  rw [h1, h3]
  unfold fitB bigE
  cases hc : (decide (g.1.length ≤ 4) && decide (g.2.1.length ≤ 12) && decide (g.2.2.length ≤ 4)) with
  | false => rfl
  | true =>
    cases hb : (decide (g.1.length ≠ 0) && decide (g.2.2.length ≠ 0)) with
    | false =>
      rw [Bool.true_and, hb]
      rfl
    | true =>
      rcases ins03 g (by have := hg.1; omega) with ⟨a1, a2⟩ | ⟨a1, e, a2, a3⟩
      · rw [a2, if_pos (by rw [Bool.true_and, hb, a1]; rfl)]
        simp only [Bool.not_true, cond_false, Option.bind_some, either]
        have hl := run03 g hg g.2.1.length LL 0 g.1 0 (by omega) (LL_lt (by have := hg.2.1.1; omega)) (by have := hg.1; omega) (by omega) (by omega)
        rw [List.drop_zero] at hl
        rw [show ((0 : Nat) : Int) = 0 from rfl] at hl
        rw [hl]
        cases hr : run g.1 0 g.2.1 with
        | inr e =>
          cases e with
          | inl u => rfl
          | inr e => rfl
        | inl z =>
          have hz := run_len _ _ _ z.1 z.2 hr
          have hpk := outs03 g (z.1, z.2, (g.2.1.length : Int)) (by have := hg.2.2; omega) (by have := hg.1; have := hg.2.1.1; simp only; omega)
          simp only at hpk
          simp only [endV, Option.bind_some, either]
          rw [hpk]
          by_cases hw : z.2 ≤ 4096
          · rw [decide_eq_false (by omega), if_pos hw]
            by_cases ha : g.2.2.all (inR z.1.length) = true
            · rw [if_pos ha, if_pos ha]; rfl
            · rw [if_neg ha, if_neg ha]; rfl
          · rw [decide_eq_true (by omega), if_neg hw]
            rfl
      · rw [insE3 g (by have := hg.1; omega) a1, if_neg (by rw [Bool.true_and, hb, a1]; decide)]
        rfl
end Go.V.P
