/- Plain laws of layer 3: the nodes of a graph, one after another. -/
import Derived.Test.YtaeckbkjlmnigaaLMakesE
namespace Go.V.P
open Go Go.V Go.IntWalk
set_option linter.unusedVariables false
set_option linter.unusedSimpArgs false
set_option maxRecDepth 20000
def okGraph (g : Graph) : Prop := g.1.length ≤ 6 ∧ (g.2.1.length ≤ 14 ∧ ∀ n ∈ g.2.1, okNode n) ∧ g.2.2.length ≤ 6
def run : List I4 → Int → List Node → (List I4 × Int) ⊕ (Unit ⊕ Int)
  | vals, w, [] => .inl (vals, w)
  | vals, w, n :: ns =>
    if n.2.1.all (inR vals.length) = true then
      if (gV n (n.2.1.map fun x => gt vals x dI4)).2 = 0 then run (vals ++ [(gV n (n.2.1.map fun x => gt vals x dI4)).1]) (w + ((nW n).length : Int)) ns
      else .inr (.inr (gV n (n.2.1.map fun x => gt vals x dI4)).2)
    else .inr (.inl ())
def endV (N : Int) : (List I4 × Int) ⊕ (Unit ⊕ Int) → (List I4 × Int × Int) ⊕ (Unit ⊕ Int)
  | .inl z => .inl (z.1, z.2, N)
  | .inr e => .inr e
theorem run_loop (g : Graph) (hg : okGraph g) : ∀ (k m i : Nat) (vals : List I4) (w : Int), i + k = g.2.1.length → k < m → vals.length ≤ 6 + i → 0 ≤ w → w ≤ 1000000 * (i : Int) →
    iterN (graph_Values_l6_p g) m (vals, w, (i : Int)) = some (endV (g.2.1.length : Int) (run vals w (g.2.1.drop i)))
  | 0, m + 1, i, vals, w, hi, hm, hv, h0, hw => by
    have : i = g.2.1.length := by omega
    subst this
    have hp : graph_Values_l6_p g (vals, w, (g.2.1.length : Int)) = some (.inr (.inl (vals, w, (g.2.1.length : Int)))) := by
      simp only [graph_Values_l6_p]
      rw [decide_eq_false (Int.lt_irrefl _)]
      rfl
    simp only [iterN, hp, List.drop_length]
    rfl
  | k + 1, m + 1, i, vals, w, hi, hm, hv, h0, hw => by
    have hin := hg.2.1.1
    have h : i < g.2.1.length := by omega
    have hn : okNode (g.2.1[i]) := hg.2.1.2 _ (List.getElem_mem h)
    have hgt := gt_at dNode h
    have t1 : decide ((i : Int) < (g.2.1.length : Int)) = true := decide_eq_true (by omega)
    have t2 : decide ((0 : Int) ≤ (i : Int)) = true := decide_eq_true (by omega)
    have t3 := i64_in ((i : Int) + 1) (by omega)
    rw [List.drop_eq_getElem_cons h]
    generalize hx : g.2.1[i] = n at *
    have hW := hn.2.1
    have t4 := i64_in (w + ((nW n).length : Int)) (by omega)
    have hpk := picked_eq vals n.2.1 (by omega) hn.1
    have hgv := (gV_eq n (n.2.1.map fun x => gt vals x dI4) (by simpa using hn.1) hn.2.2).1
    simp only [iterN, run]
    by_cases ha : n.2.1.all (inR vals.length) = true
    · rw [if_pos ha] at hpk
      by_cases he : (gV n (n.2.1.map fun x => gt vals x dI4)).2 = 0
      · have hp : graph_Values_l6_p g (vals, w, (i : Int)) = some (.inl (vals ++ [(gV n (n.2.1.map fun x => gt vals x dI4)).1], w + ((nW n).length : Int), (i : Int) + 1)) := by
          simp only [graph_Values_l6_p, graph_Values_r7_p, graph_Values_r14_p, t1, t2, t3, hgt, hpk, hgv, cond_true, Option.bind_some, Bool.not_true, cond_false, he, bne_self_eq_false]
          rw [decide_eq_true (by simp only [List.length_singleton, maxL]; omega), t4]
          rfl
        rw [hp, if_pos ha, if_pos he]
        have := run_loop g hg k m (i + 1) (vals ++ [(gV n (n.2.1.map fun x => gt vals x dI4)).1]) (w + ((nW n).length : Int)) (by omega) (by omega) (by simp only [List.length_append, List.length_singleton]; omega) (by omega) (by omega)
        exact this
      · have hp : graph_Values_l6_p g (vals, w, (i : Int)) = some (.inr (.inr (.inr (gV n (n.2.1.map fun x => gt vals x dI4)).2))) := by
          simp only [graph_Values_l6_p, graph_Values_r7_p, t1, t2, t3, hgt, hpk, hgv, cond_true, Option.bind_some, Bool.not_true, cond_false]
          rw [show ((gV n (n.2.1.map fun x => gt vals x dI4)).2 != 0) = true by simpa using he]
          rfl
        rw [hp, if_pos ha, if_neg he]
        rfl
    · rw [if_neg ha] at hpk
      have hp : graph_Values_l6_p g (vals, w, (i : Int)) = some (.inr (.inr (.inl ()))) := by
        simp only [graph_Values_l6_p, graph_Values_r7_p, t1, t2, t3, hgt, hpk, cond_true, Option.bind_some, Bool.not_false]
      rw [hp, if_neg ha]
      rfl
def badIn (v : I4) : Bool := !mayB (vS v) || !(ref03_in v.2.2.2 (-128) 127)
theorem ins_loop (g : Graph) (hg : g.1.length < 1000000) : (g.1.any badIn = false ∧ iterN (graph_goesIn_l6_p g) LL 0 = some (.inl (g.1.length : Int))) ∨ (g.1.any badIn = true ∧ ∃ e : Int, e ≠ 0 ∧ iterN (graph_goesIn_l6_p g) LL 0 = some (.inr e)) := by
  rcases any_loop (d := dI4) (l := g.1) (f := badIn) (p := graph_goesIn_l6_p g) (bad := fun i => if mayB (vS (gt g.1 (i : Int) dI4)) = true then (11 : Int) else 10) hg (fun i hi => by
    obtain ⟨t1, t2, t3⟩ := step_t hi hg
    simp only [graph_goesIn_l6_p, graph_goesIn_r7_p, t1, t2, t3, shape_May_eq, within_in, cond_true, Option.bind_some, badIn]
    show _ = some (if (!mayB (vS (gt g.1 (i : Int) dI4)) || !(ref03_in (gt g.1 (i : Int) dI4).2.2.2 (-128) 127)) = true then _ else _)
    show (bif (if mayB (vS (gt g.1 (i : Int) dI4)) = true then (0 : Int) else 10) != 0 then _ else _) = _
    cases mayB (vS (gt g.1 (i : Int) dI4)) <;> cases ref03_in (gt g.1 (i : Int) dI4).2.2.2 (-128) 127 <;> rfl) (by
    simp only [graph_goesIn_l6_p]
    rw [decide_eq_false (Int.lt_irrefl _)]
    rfl) with ⟨h1, h2⟩ | ⟨h1, i, h2⟩
  · exact .inl ⟨h1, h2⟩
  · exact .inr ⟨h1, _, by split <;> decide, h2⟩
def fitB (g : Graph) : Bool := decide (g.1.length ≤ 4) && decide (g.2.1.length ≤ 12) && decide (g.2.2.length ≤ 4) && decide (g.1.length ≠ 0) && decide (g.2.2.length ≠ 0) && !(g.1.any badIn)
theorem clone_eq (l : List I4) (hl : l.length < 1000000) : slices_Cloneapi_Value_api_Value l = some l := by
  cases l with
  | nil => rfl
  | cons x t =>
    show (bif decide (([] : List I4).length + (x :: t).length ≤ maxL) then some ([] ++ (x :: t)) else none) = _
    rw [decide_eq_true (by simp only [List.length_nil, maxL]; omega)]
    rfl
theorem goesIn_eq (g : Graph) (hg : g.1.length < 1000000) : (fitB g = true ∧ graph_goesIn g = some (g.1, 0)) ∨ (fitB g = false ∧ ∃ e : Int, e ≠ 0 ∧ graph_goesIn g = some ([], e)) := by
  unfold graph_goesIn
  have h1 : graph_goesIn_r1_p g = !(decide (g.1.length ≤ 4) && decide (g.2.1.length ≤ 12) && decide (g.2.2.length ≤ 4)) := by
    rw [Bool.eq_iff_iff]
    simp only [graph_goesIn_r1_p, graph_goesIn_r1_q, Bool.cond_true_left, Bool.or_eq_true, decide_eq_true_iff, Bool.not_eq_true', Bool.and_eq_false_iff, decide_eq_false_iff_not]
    omega
  have h3 : graph_goesIn_r3_p g = !(decide (g.1.length ≠ 0) && decide (g.2.2.length ≠ 0)) := by
    rw [Bool.eq_iff_iff]
    simp only [graph_goesIn_r3_p, graph_goesIn_r3_q, Bool.cond_true_left, Bool.or_eq_true, beq_iff_eq, Bool.not_eq_true', Bool.and_eq_false_iff, decide_eq_false_iff_not]
    omega
  rw [h1, h3]
  unfold fitB
  cases (decide (g.1.length ≤ 4) && decide (g.2.1.length ≤ 12) && decide (g.2.2.length ≤ 4)) with
  | false => exact .inr ⟨by simp, 3, by decide, rfl⟩
  | true =>
    cases hb : (decide (g.1.length ≠ 0) && decide (g.2.2.length ≠ 0)) with
    | false => exact .inr ⟨by rw [Bool.true_and, hb]; rfl, 13, by decide, rfl⟩
    | true =>
      rcases ins_loop g hg with ⟨a1, a2⟩ | ⟨a1, e, a2, a3⟩
      · refine .inl ⟨by rw [Bool.true_and, hb, a1]; rfl, ?_⟩
        rw [a2]
        simp only [Bool.not_true, cond_false, Option.bind_some, either]
        rw [clone_eq _ hg]
        rfl
      · exact .inr ⟨by rw [Bool.true_and, hb, a1]; rfl, e, a2, by rw [a3]; rfl⟩
def valuesV (g : Graph) : Option (List I4) :=
  if fitB g = true then
    match run g.1 0 g.2.1 with
    | .inl z => if z.2 ≤ 4096 ∧ g.2.2.all (inR z.1.length) = true then some z.1 else none
    | .inr _ => none
  else none
theorem run_len : ∀ (ns : List Node) (vals : List I4) (w : Int) (v : List I4) (x : Int), run vals w ns = .inl (v, x) → v.length = vals.length + ns.length ∧ w ≤ x
  | [], vals, w, v, x, h => by
    cases h
    simp
  | n :: ns, vals, w, v, x, h => by
    simp only [run] at h
    split at h
    · split at h
      · have := run_len ns _ _ v x h
        simp only [List.length_append, List.length_cons, List.length_nil] at this ⊢
        omega
      · cases h
    · cases h
theorem run_err : ∀ (ns : List Node) (vals : List I4) (w : Int) (e : Int), run vals w ns = .inr (.inr e) → e ≠ 0
  | [], vals, w, e, h => by cases h
  | n :: ns, vals, w, e, h => by
    simp only [run] at h
    split at h
    · split at h
      · exact run_err ns _ _ e h
      · rename_i he
        cases h
        exact he
    · cases h
theorem Values_run (g : Graph) (hg : okGraph g) (hf : fitB g = true) (z : List I4 × Int) (hr : run g.1 0 g.2.1 = .inl z) (hw : z.2 ≤ 4096) :
    graph_Values g = some (if g.2.2.all (inR z.1.length) = true then (z.1, 0) else ([], 13)) := by
  unfold graph_Values
  rcases goesIn_eq g (by have := hg.1; omega) with ⟨h1, h2⟩ | ⟨h1, e, h2, h3⟩
  · rw [h2]
    simp only [Option.bind_some, bne_self_eq_false, cond_false]
    have hl := run_loop g hg g.2.1.length LL 0 g.1 0 (by omega) (LL_lt (by have := hg.2.1.1; omega)) (by have := hg.1; omega) (by omega) (by omega)
    rw [List.drop_zero] at hl
    rw [show ((0 : Nat) : Int) = 0 from rfl] at hl
    rw [hl, hr]
    have hz := run_len _ _ _ z.1 z.2 hr
    have hpk := picked_eq z.1 g.2.2 (by have := hg.1; have := hg.2.1.1; omega) (by have := hg.2.2; omega)
    simp only [endV, Option.bind_some, either]
    rw [hpk, decide_eq_false (by omega)]
    by_cases ha : g.2.2.all (inR z.1.length) = true
    · rw [if_pos ha, if_pos ha]; rfl
    · rw [if_neg ha, if_neg ha]; rfl
  · rw [hf] at h1; cases h1
theorem Values_eq (g : Graph) (hg : okGraph g) : (∃ v, valuesV g = some v ∧ graph_Values g = some (v, 0)) ∨ (valuesV g = none ∧ ∃ e : Int, e ≠ 0 ∧ graph_Values g = some ([], e)) := by
  unfold graph_Values valuesV
  rcases goesIn_eq g (by have := hg.1; omega) with ⟨h1, h2⟩ | ⟨h1, e, h2, h3⟩
  · rw [h2, if_pos h1]
    simp only [Option.bind_some, bne_self_eq_false, cond_false]
    have hl := run_loop g hg g.2.1.length LL 0 g.1 0 (by omega) (LL_lt (by have := hg.2.1.1; omega)) (by have := hg.1; omega) (by omega) (by omega)
    rw [List.drop_zero] at hl
    rw [show ((0 : Nat) : Int) = 0 from rfl] at hl
    rw [hl]
    cases hr : run g.1 0 g.2.1 with
    | inr e =>
      cases e with
      | inl u => exact .inr ⟨rfl, 13, by decide, rfl⟩
      | inr e =>
        by_cases he : e = 0
        · exact absurd he (run_err _ _ _ _ hr)
        · exact .inr ⟨rfl, e, he, rfl⟩
    | inl z =>
      have hz := run_len _ _ _ z.1 z.2 hr
      have hpk := picked_eq z.1 g.2.2 (by have := hg.1; have := hg.2.1.1; omega) (by have := hg.2.2; omega)
      simp only [endV, Option.bind_some, either]
      rw [hpk]
      by_cases hw : z.2 ≤ 4096
      · rw [decide_eq_false (by omega)]
        by_cases ha : g.2.2.all (inR z.1.length) = true
        · rw [if_pos ha, if_pos ⟨hw, ha⟩]
          exact .inl ⟨_, rfl, rfl⟩
        · rw [if_neg ha, if_neg (fun h => ha h.2)]
          exact .inr ⟨rfl, 13, by decide, rfl⟩
      · rw [decide_eq_true (by omega), if_neg (fun h => hw h.1)]
        exact .inr ⟨rfl, 3, by decide, rfl⟩
  · rw [h3, if_neg (by rw [h1]; decide)]
    simp only [Option.bind_some]
    rw [show (e != 0) = true by simpa using h2]
    exact .inr ⟨trivial, e, h2, rfl⟩
end Go.V.P
