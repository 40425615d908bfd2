/- Plain laws of layer 17: the reference's lives. -/
import Derived.Test.YtaeckbkjlmnigaaGreatLPlace1
import Derived.Test.YtaeckbkjlmnigaaGreatBa1
namespace Go.V.P
open Go Go.V Go.IntWalk
set_option linter.unusedVariables false
set_option linter.unusedSimpArgs false
set_option maxRecDepth 20000
theorem last_node (g : Graph) (s : List Int × Int) (i : Nat) (hi : i < g.2.1.length) (hl : (gt g.2.1 (i : Int) dNode).2.1.length < 1000000) (q : Int) :
    iterN (ref03_Last_l10_p g s (q, (i : Int))) LL (q, 0) = some (if s.2 ∈ (gt g.2.1 (i : Int) dNode).2.1 then (i : Int) else q, ((gt g.2.1 (i : Int) dNode).2.1.length : Int)) := by
  have := iterN_for (p := ref03_Last_l10_p g s (q, (i : Int))) (z := (if s.2 ∈ (gt g.2.1 (i : Int) dNode).2.1 then (i : Int) else q, ((gt g.2.1 (i : Int) dNode).2.1.length : Int))) (gt g.2.1 (i : Int) dNode).2.1.length (fun k => (if s.2 ∈ (gt g.2.1 (i : Int) dNode).2.1.take k then (i : Int) else q, (k : Int))) LL (LL_lt hl) (fun k hk => by
    simp only [ref03_Last_l10_p, ref03_Last_r10_p, ref03_Last_j12_p, ref03_Last_r12_p]
    rw [decide_eq_true (by omega : (0 : Int) ≤ (i : Int)), decide_eq_true (by omega : (i : Int) < (g.2.1.length : Int)), decide_eq_true (by omega : (k : Int) < ((gt g.2.1 (i : Int) dNode).2.1.length : Int)), decide_eq_true (by omega : (0 : Int) ≤ (k : Int)), i64_in ((k : Int) + 1) (by omega)]
    simp only [cond_true, Option.bind_some]
    have htk : s.2 ∈ (gt g.2.1 (i : Int) dNode).2.1.take (k + 1) ↔ s.2 ∈ (gt g.2.1 (i : Int) dNode).2.1.take k ∨ s.2 = gt (gt g.2.1 (i : Int) dNode).2.1 (k : Int) 0 := by
      rw [take_snoc hk 0]; simp
    by_cases h : gt (gt g.2.1 (i : Int) dNode).2.1 (k : Int) 0 = s.2
    · rw [show (gt (gt g.2.1 (i : Int) dNode).2.1 (k : Int) 0 == s.2) = true by simpa using h, if_pos (htk.2 (.inr h.symm))]
      rfl
    · rw [show (gt (gt g.2.1 (i : Int) dNode).2.1 (k : Int) 0 == s.2) = false by simpa using h]
      have : (if s.2 ∈ (gt g.2.1 (i : Int) dNode).2.1.take (k + 1) then (i : Int) else q) = if s.2 ∈ (gt g.2.1 (i : Int) dNode).2.1.take k then (i : Int) else q := by
        by_cases h2 : s.2 ∈ (gt g.2.1 (i : Int) dNode).2.1.take k
        · rw [if_pos h2, if_pos (htk.2 (.inl h2))]
        · rw [if_neg h2, if_neg (fun h3 => (htk.1 h3).elim h2 (fun h4 => h h4.symm))]
      rw [this]
      rfl) (by
    simp only [ref03_Last_l10_p, ref03_Last_r10_p]
    rw [decide_eq_true (by omega : (0 : Int) ≤ (i : Int)), decide_eq_true (by omega : (i : Int) < (g.2.1.length : Int)), decide_eq_false (Int.lt_irrefl _), List.take_length]
    rfl)
  rw [List.take_zero, if_neg (by simp)] at this
  exact this
theorem last_nodes (g : Graph) (s : List Int × Int) (hn : g.2.1.length < 100000) (hl : ∀ n ∈ g.2.1, n.2.1.length < 1000000) : iterN (ref03_Last_l7_p g s) LL (-1, 0) = some (lastP g.2.1 g.2.1.length s.2, (g.2.1.length : Int)) :=
  iterN_for (p := ref03_Last_l7_p g s) (z := (lastP g.2.1 g.2.1.length s.2, (g.2.1.length : Int))) g.2.1.length (fun i => (lastP g.2.1 i s.2, (i : Int))) LL (LL_lt (by omega)) (fun i hi => by
    simp only [ref03_Last_l7_p]
    rw [decide_eq_true (by omega : (i : Int) < (g.2.1.length : Int)), last_node g s i hi (hl _ (gt_memR hi dNode)), i64_in ((i : Int) + 1) (by omega)]
    rfl) (by
    simp only [ref03_Last_l7_p]
    rw [decide_eq_false (Int.lt_irrefl _)]
    rfl)
theorem last_outs (g : Graph) (s : List Int × Int) (q : Int) (hl : g.2.2.length < 1000000) : iterN (ref03_Last_l15_p g s) LL (q, 0) = some (if s.2 ∈ g.2.2 then (g.2.1.length : Int) else q, (g.2.2.length : Int)) := by
  have := iterN_for (p := ref03_Last_l15_p g s) (z := (if s.2 ∈ g.2.2 then (g.2.1.length : Int) else q, (g.2.2.length : Int))) g.2.2.length (fun k => (if s.2 ∈ g.2.2.take k then (g.2.1.length : Int) else q, (k : Int))) LL (LL_lt hl) (fun k hk => by
    simp only [ref03_Last_l15_p, ref03_Last_j17_p, ref03_Last_r17_p]
    rw [decide_eq_true (by omega : (k : Int) < (g.2.2.length : Int)), decide_eq_true (by omega : (0 : Int) ≤ (k : Int)), i64_in ((k : Int) + 1) (by omega)]
    simp only [cond_true, Option.bind_some]
    have htk : s.2 ∈ g.2.2.take (k + 1) ↔ s.2 ∈ g.2.2.take k ∨ s.2 = gt g.2.2 (k : Int) 0 := by
      rw [take_snoc hk 0]; simp
    by_cases h : gt g.2.2 (k : Int) 0 = s.2
    · rw [show (gt g.2.2 (k : Int) 0 == s.2) = true by simpa using h, if_pos (htk.2 (.inr h.symm))]
      rfl
    · rw [show (gt g.2.2 (k : Int) 0 == s.2) = false by simpa using h]
      have : (if s.2 ∈ g.2.2.take (k + 1) then (g.2.1.length : Int) else q) = if s.2 ∈ g.2.2.take k then (g.2.1.length : Int) else q := by
        by_cases h2 : s.2 ∈ g.2.2.take k
        · rw [if_pos h2, if_pos (htk.2 (.inl h2))]
        · rw [if_neg h2, if_neg (fun h3 => (htk.1 h3).elim h2 (fun h4 => h h4.symm))]
      rw [this]
      rfl) (by
    simp only [ref03_Last_l15_p]
    rw [decide_eq_false (Int.lt_irrefl _), List.take_length]
    rfl)
  rw [List.take_zero, if_neg (by simp)] at this
  exact this
theorem Last3_eq (g : Graph) (hg : okGraph g) : ref03_Last g = some (lastR g) := by
  have h1 := hg.1
  have h2 := hg.2.1.1
  have h3 := hg.2.2
  have hn := i64_in ((g.1.length : Int) + (g.2.1.length : Int)) (by omega)
  have hs : ∀ i : Nat, ((List.range (i + 1)).map fun (j : Nat) => lastV g (j : Int)) = ((List.range i).map fun (j : Nat) => lastV g (j : Int)) ++ [lastV g (i : Int)] := fun i => by rw [List.range_succ, List.map_append]; rfl
  have := iterN_for (p := ref03_Last_l3_p g) (z := (lastR g, ((g.1.length + g.2.1.length : Nat) : Int))) (g.1.length + g.2.1.length) (fun i => ((List.range i).map fun (j : Nat) => lastV g (j : Int), (i : Int))) LL (LL_lt (by omega)) (fun i hi => by
    simp only [ref03_Last_l3_p, hn]
    rw [decide_eq_true (by omega : (i : Int) < (g.1.length : Int) + (g.2.1.length : Int)), last_nodes g _ (by omega) (fun n hn => (hg.2.1.2 n hn).1), i64_in ((i : Int) + 1) (by omega)]
    simp only [cond_true, Option.bind_some]
    rw [last_outs g _ _ (by omega)]
    simp only [Option.bind_some, ref03_Last_r19_p]
    rw [decide_eq_true (by simp only [List.length_map, List.length_range, List.length_cons, List.length_nil]; unfold maxL; omega), hs i]
    rfl) (by
    simp only [ref03_Last_l3_p, hn]
    rw [decide_eq_false (by omega)]
    rfl)
  unfold ref03_Last
  have h00 : ((List.range 0).map fun (j : Nat) => lastV g (j : Int)) = [] := rfl
  rw [h00] at this
  rw [show ((0 : Nat) : Int) = 0 from rfl] at this
  rw [this]
  rfl
theorem Live17_eq (g : Graph) (hg : okGraph g) : ref17_Live g = some (livesE g) := by
  unfold ref17_Live livesE
  rw [ValuesE3 g hg]
  simp only [Option.bind_some]
  by_cases h0 : (valuesE g).2 = 0
  · rw [if_pos h0, h0]
    simp only [bne_self_eq_false, cond_false]
    have h1 := hg.1
    have h2 := hg.2.1.1
    rw [Last3_eq g hg]
    simp only [Option.bind_some]
    have hl : (lastR g).length = g.1.length + g.2.1.length := lastR_len g
    have := iterN_for (p := ref17_Live_l7_p g (lastR g)) (z := (liveR g, ((g.1.length + g.2.1.length : Nat) : Int))) (g.1.length + g.2.1.length) (fun i => ((List.range i).map fun (j : Nat) => liveV g (j : Int), (i : Int))) LL (LL_lt (by omega)) (fun i hi => by
      have hlv := lastV_in g (i : Int)
      simp only [ref17_Live_l7_p, ref17_Live_r10_p, hl, lastR_get g hi]
      rw [decide_eq_true (by omega : (i : Int) < ((g.1.length + g.2.1.length : Nat) : Int)), decide_eq_true (by omega : (0 : Int) ≤ (i : Int)), i64_in ((i : Int) + 1) (by omega), i64_in ((i : Int) - (g.1.length : Int)) (by omega), decide_eq_true (by simp only [List.length_map, List.length_range, List.length_cons, List.length_nil]; unfold maxL; omega)]
      simp only [cond_true, Option.bind_some]
      rw [live_snoc g i i]
      rfl) (by
      simp only [ref17_Live_l7_p, hl]
      rw [decide_eq_false (Int.lt_irrefl _)]
      rfl)
    have h00 : ((List.range 0).map fun (j : Nat) => liveV g (j : Int)) = [] := rfl
    rw [h00] at this
    rw [show ((0 : Nat) : Int) = 0 from rfl] at this
    rw [this]
    rfl
  · rw [if_neg h0, show ((valuesE g).2 != 0) = true by simpa using h0]
    rfl
end Go.V.P
