/- Plain laws of layer 3: what all nodes of a graph make. -/
import Derived.Test.YtaeckbkjlmnigaaLValue3
import Derived.Test.YtaeckbkjlmnigaaBm0
namespace Go.V.P
open Go Go.V Go.IntWalk
set_option linter.unusedVariables false
set_option linter.unusedSimpArgs false
theorem Value_ok (n : Node) (l : List I4) (hl : l.length < 1000000) (hB : (nB n).length < 1000000) : ∃ z, graph_Value n l = some z ∧ (z.2 = 0 → mayB (vS z.1) = true ∧ z.1.2.2.2 = nZ n) := by
  obtain ⟨z, e1, e2⟩ := Value_eq n l hl hB
  refine ⟨z, e1, ?_⟩
  clear e1
  obtain ⟨Y, h1, h2, h3⟩ := op_any n l
  unfold ref03_Value at e2
  cases hn : ref03_node n (l.length : Int) with
  | false =>
    rw [hn] at e2
    cases e2
    exact fun h => absurd h (by decide)
  | true =>
    obtain ⟨k1, k2, k3, k4, k5⟩ := h3 hn
    obtain ⟨s, hs⟩ := Option.isSome_iff_exists.1 k4
    obtain ⟨w, hw⟩ := Option.isSome_iff_exists.1 k5
    rw [hn, hs, hw] at e2
    simp only [Bool.not_true, cond_false, Option.bind_some] at e2
    rcases refKeeps n l hl with ⟨a1, a2⟩ | ⟨a1, a2⟩
    · rw [a2] at e2
      simp only [Option.bind_some, either] at e2
      rcases refMay l hl with ⟨b1, b2⟩ | ⟨b1, b2⟩
      · rw [b2] at e2
        simp only [Option.bind_some, either, ref02_May_eq] at e2
        cases hm : mayB s with
        | false =>
          rw [hm] at e2
          cases e2
          exact fun h => absurd h (by decide)
        | true =>
          rw [hm] at e2
          simp only [if_true, bne_self_eq_false, cond_false] at e2
          cases hx : ref03_Value_r17_p n w with
          | true =>
            rw [hx] at e2
            cases e2
            exact fun h => absurd h (by decide)
          | false =>
            rw [hx] at e2
            rcases refOff n hB with ⟨c1, c2⟩ | ⟨c1, c2⟩
            · rw [c2] at e2
              cases e2
              exact fun _ => ⟨hm, rfl⟩
            · rw [c2] at e2
              cases e2
              exact fun h => absurd h (by decide)
      · rw [b2] at e2
        cases e2
        exact fun h => absurd h (by decide)
    · rw [a2] at e2
      cases e2
      exact fun h => absurd h (by decide)
def gV (n : Node) (l : List I4) : I4 × Int := (graph_Value n l).getD ((0, 0, 0, 0), 0)
theorem gV_eq (n : Node) (l : List I4) (hl : l.length < 1000000) (hB : (nB n).length < 1000000) : graph_Value n l = some (gV n l) ∧ ((gV n l).2 = 0 → mayB (vS (gV n l).1) = true ∧ (gV n l).1.2.2.2 = nZ n) := by
  obtain ⟨z, e1, e2⟩ := Value_ok n l hl hB
  have : gV n l = z := by rw [gV, e1]; rfl
  rw [this]
  exact ⟨e1, e2⟩
def inR (k : Nat) (x : Int) : Bool := decide (0 ≤ x) && decide (x < (k : Int))
theorem picked_eq (vals : List I4) (l : List Int) (hv : vals.length < 1000000) (hl : l.length < 1000000) :
    graph_picked vals l = some (if l.all (inR vals.length) = true then (l.map fun x => gt vals x dI4, true) else ([], false)) := by
  obtain ⟨z, h1, h2⟩ := iterN_inv (p := graph_picked_l2_p vals l) (fun s => ∃ i : Nat, s.2 = (i : Int) ∧ i ≤ l.length ∧ s.1 = ((l.take i).map fun x => gt vals x dI4) ∧ (l.take i).all (inR vals.length) = true) (fun s => l.length - s.2.toNat)
    (Q := fun z => (l.all (inR vals.length) = true ∧ z = .inl ((l.map fun x => gt vals x dI4), (l.length : Int))) ∨ (l.all (inR vals.length) = false ∧ z = .inr ())) (fun s hs => by
    obtain ⟨acc, t⟩ := s
    obtain ⟨i, hi, hil, hacc, hall⟩ := hs
    simp only at hi hacc
    subst hi hacc
    by_cases h : i < l.length
    · have hg := gt_at (0 : Int) h
      have t1 : decide ((i : Int) < (l.length : Int)) = true := decide_eq_true (by omega)
      have t2 : decide ((0 : Int) ≤ (i : Int)) = true := decide_eq_true (by omega)
      have t3 := i64_in ((i : Int) + 1) (by omega)
      have t4 := i64_in ((vals.length : Int) - 1) (by omega)
      have hw : graph_within (l[i]) 0 ((vals.length : Int) - 1) = inR vals.length (l[i]) := by
        rw [within_in, Bool.eq_iff_iff, in_iff]
        simp only [inR, Bool.and_eq_true, decide_eq_true_iff]
        omega
      simp only [graph_picked_l2_p, graph_picked_r3_p, graph_picked_r4_p, graph_picked_r4_q, graph_picked_r6_p, hg, t1, t2, t3, t4, hw, cond_true, Option.bind_some]
      cases hr : inR vals.length (l[i]) with
      | true =>
        have hr2 : 0 ≤ l[i] ∧ l[i] < (vals.length : Int) := by simpa [inR] using hr
        rw [decide_eq_true hr2.1, decide_eq_true hr2.2, decide_eq_true (by simp only [List.length_map, List.length_take, List.length_singleton, maxL]; omega)]
        refine .inl ⟨_, rfl, ⟨i + 1, by simp only; omega, by omega, ?_, ?_⟩, by simp only; omega⟩
        · simp only [List.take_succ_eq_append_getElem h, List.map_append, List.map_cons, List.map_nil]
        · rw [List.take_succ_eq_append_getElem h, List.all_append, hall]
          simp [hr]
      | false =>
        refine .inr ⟨_, rfl, .inr ⟨?_, rfl⟩⟩
        rw [List.all_eq_false]
        exact ⟨_, List.getElem_mem h, by rw [hr]; decide⟩
    · have : i = l.length := by omega
      subst this
      rw [List.take_length] at hall ⊢
      refine .inr ⟨_, ?_, .inl ⟨hall, rfl⟩⟩
      simp only [graph_picked_l2_p]
      rw [decide_eq_false (Int.lt_irrefl _)]
      rfl) LL ([], 0) ⟨0, rfl, by omega, rfl, rfl⟩ (LL_lt (by simp only [Int.toNat_zero]; omega))
  unfold graph_picked
  rw [h1]
  rcases h2 with ⟨h2, rfl⟩ | ⟨h2, rfl⟩
  · rw [if_pos h2]; rfl
  · rw [if_neg (by rw [h2]; decide)]; rfl
end Go.V.P
