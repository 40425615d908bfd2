/- Plain laws of layer 6: what all nodes of a graph make, as the reference has it. -/
import Derived.Test.YtaeckbkjlmnigaaLMakesG
import Derived.Test.YtaeckbkjlmnigaaBm1
namespace Go.V.P
open Go Go.V Go.IntWalk
set_option linter.unusedVariables false
set_option linter.unusedSimpArgs false
set_option maxRecDepth 20000
theorem may_is (v : I4) : ref02_May (v.1, v.2.1, v.2.2.1) = if mayB (vS v) = true then 0 else 10 := ref02_May_eq _
theorem ins03 (g : Graph) (hg : g.1.length < 1000000) : (g.1.any badIn = false ∧ iterN (ref03_Values_l7_p g) LL ([], 0) = some (.inl (g.1, (g.1.length : Int)))) ∨ (g.1.any badIn = true ∧ ∃ e : Int, e ≠ 0 ∧ iterN (ref03_Values_l7_p g) LL ([], 0) = some (.inr e)) := by
  obtain ⟨z, h1, h2⟩ := iterN_inv (p := ref03_Values_l7_p g) (fun s => ∃ i : Nat, s.2 = (i : Int) ∧ i ≤ g.1.length ∧ s.1 = g.1.take i ∧ (g.1.take i).any badIn = false) (fun s => g.1.length - s.2.toNat)
    (Q := fun z => (g.1.any badIn = false ∧ z = .inl (g.1, (g.1.length : Int))) ∨ (g.1.any badIn = true ∧ ∃ e : Int, e ≠ 0 ∧ z = .inr e)) (fun s hs => by
    obtain ⟨acc, t⟩ := s
    obtain ⟨i, hi, hil, hacc, hb⟩ := hs
    simp only at hi hacc
    subst hi hacc
    by_cases h : i < g.1.length
    · have hgt := gt_at dI4 h
      obtain ⟨t1, t2, t3⟩ := step_t h hg
      have t4 : decide ((g.1.take i).length + ([g.1[i]] : List I4).length ≤ maxL) = true := decide_eq_true (by simp only [List.length_take, List.length_singleton, maxL]; omega)
      have hm : g.1[i] ∈ g.1 := List.getElem_mem h
      have htk := List.take_succ_eq_append_getElem h
      simp only [ref03_Values_l7_p, ref03_Values_r9_p, ref03_Values_r11_p, ref03_Values_r13_p, t1, t2, t3, hgt, cond_true, Option.bind_some, may_is, t4]
      cases hb1 : mayB (vS g.1[i]) with
      | false => exact .inr ⟨.inr 10, rfl, .inr ⟨List.any_eq_true.2 ⟨_, hm, by simp [badIn, hb1]⟩, 10, by decide, rfl⟩⟩
      | true =>
        cases hb2 : ref03_in (g.1[i]).2.2.2 (-128) 127 with
        | false => exact .inr ⟨.inr 11, rfl, .inr ⟨List.any_eq_true.2 ⟨_, hm, by simp [badIn, hb2]⟩, 11, by decide, rfl⟩⟩
        | true =>
          refine .inl ⟨_, rfl, ⟨i + 1, by simp only; omega, by omega, htk.symm, ?_⟩, by simp only; omega⟩
          rw [htk, List.any_append, hb]
          simp [badIn, hb1, hb2]
    · have : i = g.1.length := by omega
      subst this
      rw [List.take_length] at hb ⊢
      refine .inr ⟨_, ?_, .inl ⟨hb, rfl⟩⟩
      simp only [ref03_Values_l7_p]
      rw [decide_eq_false (Int.lt_irrefl _)]
      rfl) LL ([], 0) ⟨0, rfl, by omega, rfl, rfl⟩ (LL_lt (by simp only [Int.toNat_zero]; omega))
  rcases h2 with ⟨a, rfl⟩ | ⟨a, e, b, rfl⟩
  · exact .inl ⟨a, h1⟩
  · exact .inr ⟨a, e, b, h1⟩
theorem picked03 (g : Graph) (s : List I4 × Int × Int) (n : Node) (hn : gt g.2.1 s.2.2 dNode = n) (hv : s.1.length < 1000000) (hl : n.2.1.length < 1000000) :
    iterN (ref03_Values_l21_p g s) LL ([], 0) = some (if n.2.1.all (inR s.1.length) = true then .inl (n.2.1.map fun x => gt s.1 x dI4, (n.2.1.length : Int)) else .inr ()) := by
  obtain ⟨z, h1, h2⟩ := iterN_inv (p := ref03_Values_l21_p g s) (fun t => ∃ i : Nat, t.2 = (i : Int) ∧ i ≤ n.2.1.length ∧ t.1 = ((n.2.1.take i).map fun x => gt s.1 x dI4) ∧ (n.2.1.take i).all (inR s.1.length) = true) (fun t => n.2.1.length - t.2.toNat)
    (Q := fun z => (n.2.1.all (inR s.1.length) = true ∧ z = .inl ((n.2.1.map fun x => gt s.1 x dI4), (n.2.1.length : Int))) ∨ (n.2.1.all (inR s.1.length) = false ∧ z = .inr ())) (fun t ht => by
    obtain ⟨acc, t⟩ := t
    obtain ⟨i, hi, hil, hacc, hall⟩ := ht
    simp only at hi hacc
    subst hi hacc
    by_cases h : i < n.2.1.length
    · have hg := gt_at (0 : Int) h
      obtain ⟨t1, t2, t3⟩ := step_t h hl
      have t4 := i64_in ((s.1.length : Int) - 1) (by omega)
      have hw : ref03_in (n.2.1[i]) 0 ((s.1.length : Int) - 1) = inR s.1.length (n.2.1[i]) := by
        rw [Bool.eq_iff_iff, in_iff]
        simp only [inR, Bool.and_eq_true, decide_eq_true_iff]
        omega
      simp only [ref03_Values_l21_p, ref03_Values_r23_p, ref03_Values_r25_p, hn, hg, t1, t2, t3, t4, hw, cond_true, Option.bind_some]
      cases hr : inR s.1.length (n.2.1[i]) with
      | true =>
        have hr2 : 0 ≤ n.2.1[i] ∧ n.2.1[i] < (s.1.length : Int) := by simpa [inR] using hr
        rw [decide_eq_true hr2.1, decide_eq_true hr2.2, decide_eq_true (by simp only [List.length_map, List.length_take, List.length_singleton, maxL]; omega)]
        refine .inl ⟨_, rfl, ⟨i + 1, by simp only; omega, by omega, ?_, ?_⟩, by simp only; omega⟩
        · simp only [List.take_succ_eq_append_getElem h, List.map_append, List.map_cons, List.map_nil]
        · rw [List.take_succ_eq_append_getElem h, List.all_append, hall]
          simp [hr]
      | false =>
        refine .inr ⟨_, rfl, .inr ⟨?_, rfl⟩⟩
        rw [List.all_eq_false]
        exact ⟨_, List.getElem_mem h, by rw [hr]; decide⟩
    · have : i = n.2.1.length := by omega
      subst this
      rw [List.take_length] at hall ⊢
      refine .inr ⟨_, ?_, .inl ⟨hall, rfl⟩⟩
      simp only [ref03_Values_l21_p, hn]
      rw [decide_eq_false (Int.lt_irrefl _)]
      rfl) LL ([], 0) ⟨0, rfl, by omega, rfl, rfl⟩ (LL_lt (by simp only [Int.toNat_zero]; omega))
  rw [h1]
  rcases h2 with ⟨h2, rfl⟩ | ⟨h2, rfl⟩
  · rw [if_pos h2]
  · rw [if_neg (by rw [h2]; decide)]
theorem run03 (g : Graph) (hg : okGraph g) : ∀ (k m i : Nat) (vals : List I4) (w : Int), i + k = g.2.1.length → k < m → vals.length ≤ 6 + i → 0 ≤ w → w ≤ 1000000 * (i : Int) →
    iterN (ref03_Values_l16_p g) m (vals, w, (i : Int)) = some (endV (g.2.1.length : Int) (run vals w (g.2.1.drop i)))
  | 0, m + 1, i, vals, w, hi, hm, hv, h0, hw => by
    have : i = g.2.1.length := by omega
    subst this
    have hp : ref03_Values_l16_p g (vals, w, (g.2.1.length : Int)) = some (.inr (.inl (vals, w, (g.2.1.length : Int)))) := by
      simp only [ref03_Values_l16_p]
      rw [decide_eq_false (Int.lt_irrefl _)]
      rfl
    simp only [iterN, hp, List.drop_length]
    rfl
  | k + 1, m + 1, i, vals, w, hi, hm, hv, h0, hw => by
    have hin := hg.2.1.1
    have h : i < g.2.1.length := by omega
    have hn : okNode (g.2.1[i]) := hg.2.1.2 _ (List.getElem_mem h)
    have hgt := gt_at dNode h
    have t1 : decide ((i : Int) < (g.2.1.length : Int)) = true := decide_eq_true (by omega)
    have t2 : decide ((0 : Int) ≤ (i : Int)) = true := decide_eq_true (by omega)
    have t3 := i64_in ((i : Int) + 1) (by omega)
    rw [List.drop_eq_getElem_cons h]
    generalize hx : g.2.1[i] = n at *
    have hW := hn.2.1
    have t4 := i64_in (w + ((nW n).length : Int)) (by omega)
    have hpk := picked03 g (vals, w, (i : Int)) n hgt (by simp only; omega) hn.1
    simp only at hpk
    have hln : (n.2.1.map fun x => gt vals x dI4).length < 1000000 := by simpa using hn.1
    have hgv : ref03_Value n (n.2.1.map fun x => gt vals x dI4) = some (gV n (n.2.1.map fun x => gt vals x dI4)) := by
      obtain ⟨z, e1, e2⟩ := Value_eq n (n.2.1.map fun x => gt vals x dI4) hln hn.2.2
      rw [e2, ← e1]
      exact (gV_eq n _ hln hn.2.2).1
    simp only [iterN, run]
    by_cases ha : n.2.1.all (inR vals.length) = true
    · rw [if_pos ha] at hpk
      by_cases he : (gV n (n.2.1.map fun x => gt vals x dI4)).2 = 0
      · have hp : ref03_Values_l16_p g (vals, w, (i : Int)) = some (.inl (vals ++ [(gV n (n.2.1.map fun x => gt vals x dI4)).1], w + ((nW n).length : Int), (i : Int) + 1)) := by
          simp only [ref03_Values_l16_p, ref03_Values_r18_p, ref03_Values_r29_p, ref03_Values_r30_p, ref03_Values_r30_q, t1, t2, t3, hgt, hpk, hgv, cond_true, Option.bind_some, either, he, bne_self_eq_false, cond_false]
          rw [decide_eq_true (by simp only [List.length_singleton, maxL]; omega), t4]
          rfl
        rw [hp, if_pos ha, if_pos he]
        have := run03 g hg k m (i + 1) (vals ++ [(gV n (n.2.1.map fun x => gt vals x dI4)).1]) (w + ((nW n).length : Int)) (by omega) (by omega) (by simp only [List.length_append, List.length_singleton]; omega) (by omega) (by omega)
        exact this
      · have hp : ref03_Values_l16_p g (vals, w, (i : Int)) = some (.inr (.inr (.inr (gV n (n.2.1.map fun x => gt vals x dI4)).2))) := by
          simp only [ref03_Values_l16_p, ref03_Values_r18_p, t1, t2, t3, hgt, hpk, hgv, cond_true, Option.bind_some, either]
          rw [show ((gV n (n.2.1.map fun x => gt vals x dI4)).2 != 0) = true by simpa using he]
          rfl
        rw [hp, if_pos ha, if_neg he]
        rfl
    · rw [if_neg ha] at hpk
      have hp : ref03_Values_l16_p g (vals, w, (i : Int)) = some (.inr (.inr (.inl ()))) := by
        simp only [ref03_Values_l16_p, ref03_Values_r18_p, t1, t2, t3, hgt, hpk, cond_true, Option.bind_some, either]
      rw [hp, if_neg ha]
      rfl
theorem outs03 (g : Graph) (y : List I4 × Int × Int) (hg : g.2.2.length < 1000000) (hy : y.1.length < 1000000) : iterN (ref03_Values_l34_p g y) LL 0 = some (if g.2.2.all (inR y.1.length) = true then .inl (g.2.2.length : Int) else .inr ()) := by
  rcases any_loop (d := (0 : Int)) (l := g.2.2) (f := fun x => !inR y.1.length x) (p := ref03_Values_l34_p g y) (bad := fun _ => ()) hg (fun i hi => by
    obtain ⟨t1, t2, t3⟩ := step_t hi hg
    have t4 := i64_in ((y.1.length : Int) - 1) (by omega)
    have hw : ref03_in (gt g.2.2 (i : Int) 0) 0 ((y.1.length : Int) - 1) = inR y.1.length (gt g.2.2 (i : Int) 0) := by
      rw [Bool.eq_iff_iff, in_iff]
      simp only [inR, Bool.and_eq_true, decide_eq_true_iff]
      omega
    simp only [ref03_Values_l34_p, ref03_Values_r36_p, t1, t2, t3, t4, hw, cond_true, Option.bind_some]
    cases inR y.1.length (gt g.2.2 (i : Int) 0) <;> rfl) (by
    simp only [ref03_Values_l34_p]
    rw [decide_eq_false (Int.lt_irrefl _)]
    rfl) with ⟨h1, h2⟩ | ⟨h1, i, h2⟩
  · rw [h2, if_pos]
    rw [List.all_eq_true]
    intro x hx
    have := List.any_eq_false.1 h1 x hx
    simpa using this
  · rw [h2, if_neg]
    rw [Bool.not_eq_true, List.all_eq_false]
    obtain ⟨x, hx, hb⟩ := List.any_eq_true.1 h1
    exact ⟨x, hx, by simpa using hb⟩
theorem Values03 (g : Graph) (hg : okGraph g) : (∃ v, valuesV g = some v ∧ ref03_Values g = some (v, 0)) ∨ (valuesV g = none ∧ ∃ e : Int, e ≠ 0 ∧ ref03_Values g = some ([], e)) := by
  unfold ref03_Values valuesV
  have h1 : ref03_Values_r1_p g = !(decide (g.1.length ≤ 4) && decide (g.2.1.length ≤ 12) && decide (g.2.2.length ≤ 4)) := by
    rw [Bool.eq_iff_iff]
    simp only [ref03_Values_r1_p, ref03_Values_r1_q, Bool.cond_true_left, Bool.or_eq_true, decide_eq_true_iff, Bool.not_eq_true', Bool.and_eq_false_iff, decide_eq_false_iff_not]
    omega
  have h3 : ref03_Values_r3_p g = !(decide (g.1.length ≠ 0) && decide (g.2.2.length ≠ 0)) := by
    rw [Bool.eq_iff_iff]
    simp only [ref03_Values_r3_p, ref03_Values_r3_q, Bool.cond_true_left, Bool.or_eq_true, beq_iff_eq, Bool.not_eq_true', Bool.and_eq_false_iff, decide_eq_false_iff_not]
    omega
  rw [h1, h3]
  unfold fitB
  cases hc : (decide (g.1.length ≤ 4) && decide (g.2.1.length ≤ 12) && decide (g.2.2.length ≤ 4)) with
  | false => exact .inr ⟨by simp, 3, by decide, rfl⟩
  | true =>
    cases hb : (decide (g.1.length ≠ 0) && decide (g.2.2.length ≠ 0)) with
    | false => exact .inr ⟨by rw [Bool.true_and, hb]; rfl, 13, by decide, rfl⟩
    | true =>
      rcases ins03 g (by have := hg.1; omega) with ⟨a1, a2⟩ | ⟨a1, e, a2, a3⟩
      · rw [a2, if_pos (by rw [Bool.true_and, hb, a1]; rfl)]
        simp only [Bool.not_true, cond_false, Option.bind_some, either]
        have hl := run03 g hg g.2.1.length LL 0 g.1 0 (by omega) (LL_lt (by have := hg.2.1.1; omega)) (by have := hg.1; omega) (by omega) (by omega)
        rw [List.drop_zero] at hl
        rw [show ((0 : Nat) : Int) = 0 from rfl] at hl
        rw [hl]
        cases hr : run g.1 0 g.2.1 with
        | inr e =>
          cases e with
          | inl u => exact .inr ⟨rfl, 13, by decide, rfl⟩
          | inr e =>
            by_cases he : e = 0
            · exact absurd he (run_err _ _ _ _ hr)
            · exact .inr ⟨rfl, e, he, rfl⟩
        | inl z =>
          have hz := run_len _ _ _ z.1 z.2 hr
          have hpk := outs03 g (z.1, z.2, (g.2.1.length : Int)) (by have := hg.2.2; omega) (by have := hg.1; have := hg.2.1.1; simp only; omega)
          simp only at hpk
          simp only [endV, Option.bind_some, either]
          rw [hpk]
          by_cases hw : z.2 ≤ 4096
          · rw [decide_eq_false (by omega)]
            by_cases ha : g.2.2.all (inR z.1.length) = true
            · rw [if_pos ha, if_pos ⟨hw, ha⟩]
              exact .inl ⟨_, rfl, rfl⟩
            · rw [if_neg ha, if_neg (fun h => ha h.2)]
              exact .inr ⟨rfl, 13, by decide, rfl⟩
          · rw [decide_eq_true (by omega), if_neg (fun h => hw h.1)]
            exact .inr ⟨rfl, 3, by decide, rfl⟩
      · rw [a3, if_neg (by rw [Bool.true_and, hb, a1]; decide)]
        exact .inr ⟨rfl, e, a2, rfl⟩
end Go.V.P
