/- Plain laws of layer 19: a graph with one node less. -/
import Derived.Test.YtaeckbkjlmnigaaLBuild3
namespace Go.V.P
open Go Go.V Go.IntWalk
set_option linter.unusedVariables false
set_option linter.unusedSimpArgs false
set_option maxRecDepth 20000
theorem run_last : ∀ (ns : List Node) (n : Node) (vals : List I4) (w : Int) (v : List I4) (x : Int), run vals w (ns ++ [n]) = .inl (v, x) → ∃ u y a, run vals w ns = .inl (u, y) ∧ y ≤ x ∧ v = u ++ [a] ∧ u.length = vals.length + ns.length
  | [], n, vals, w, v, x, h => by
    have h2 := (run_len _ _ _ _ _ h).2
    simp only [List.nil_append, run] at h
    split at h
    · split at h
      · cases h
        exact ⟨vals, w, _, rfl, h2, rfl, by simp⟩
      · cases h
    · cases h
  | m :: ns, n, vals, w, v, x, h => by
    simp only [List.cons_append, run] at h ⊢
    split at h
    · split at h
      · rename_i ha he
        obtain ⟨u, y, a, h1, h2, h3, h4⟩ := run_last ns n _ _ v x h
        rw [if_pos ha, if_pos he]
        refine ⟨u, y, a, h1, h2, h3, ?_⟩
        simp only [List.length_append, List.length_cons, List.length_nil] at h4 ⊢
        omega
      · cases h
    · cases h
/-- the graph with one node less, and its first value coming out -/
def shortG (g : Graph) : Graph := (g.1, g.2.1.take (g.2.1.length - 1), [0])
section
variable {g : Graph} {vals : List I4}
theorem short_ok (hg : okGraph g) : okGraph (shortG g) := by
  refine ⟨hg.1, ⟨?_, fun n hn => hg.2.1.2 n (List.mem_of_mem_take hn)⟩, by show [(0 : Int)].length ≤ 6; simp⟩
  show (g.2.1.take (g.2.1.length - 1)).length ≤ 14
  rw [List.length_take]
  have := hg.2.1.1
  omega
theorem short_vals (hv : valuesV g = some vals) (h0 : g.2.1.length ≠ 0) : ∃ u a, vals = u ++ [a] ∧ valuesV (shortG g) = some u := by
  unfold valuesV at hv
  split at hv
  · rename_i hf
    split at hv
    · rename_i z hz
      split at hv
      · rename_i hw
        cases hv
        have hsp : g.2.1 = g.2.1.take (g.2.1.length - 1) ++ [g.2.1[g.2.1.length - 1]'(by omega)] := by
          have h := List.take_succ_eq_append_getElem (show g.2.1.length - 1 < g.2.1.length by omega)
          rw [show g.2.1.length - 1 + 1 = g.2.1.length by omega, List.take_length] at h
          exact h
        rw [hsp] at hz
        obtain ⟨u, y, a, r1, r2, r3, r4⟩ := run_last _ _ _ _ z.1 z.2 hz
        refine ⟨u, a, r3, ?_⟩
        unfold valuesV
        simp only [fitB, Bool.and_eq_true, decide_eq_true_eq] at hf
        have hfs : fitB (shortG g) = true := by
          have hn : (shortG g).2.1.length ≤ 12 := by
            show (g.2.1.take (g.2.1.length - 1)).length ≤ 12
            rw [List.length_take]
            have := hf.1.1.1.1.2
            omega
          have ho : (shortG g).2.2.length ≤ 4 := by show [(0 : Int)].length ≤ 4; simp
          have ho2 : (shortG g).2.2.length ≠ 0 := by show [(0 : Int)].length ≠ 0; simp
          unfold fitB
          rw [decide_eq_true hn, decide_eq_true ho, decide_eq_true ho2]
          show (decide (g.1.length ≤ 4) && true && true && decide (g.1.length ≠ 0) && true && !(g.1.any badIn)) = true
          rw [decide_eq_true hf.1.1.1.1.1, decide_eq_true hf.1.1.2, hf.2]
          rfl
        rw [if_pos hfs]
        have hr : run (shortG g).1 0 (shortG g).2.1 = .inl (u, y) := r1
        rw [hr]
        simp only
        rw [if_pos]
        refine ⟨Int.le_trans r2 hw.1, ?_⟩
        show [(0 : Int)].all (inR u.length) = true
        have hi := hf.1.1.2
        simp only [List.all_cons, List.all_nil, Bool.and_true]
        rw [inR_iff]
        omega
      · cases hv
    · cases hv
  · cases hv
theorem short_at {i : Nat} (hi : i < g.2.1.length - 1) : gt (shortG g).2.1 (i : Int) dNode = gt g.2.1 (i : Int) dNode := by
  show gt (g.2.1.take (g.2.1.length - 1)) (i : Int) dNode = _
  unfold gt
  rw [show ((i : Int).toNat) = i by omega, List.getD_eq_getElem?_getD, List.getD_eq_getElem?_getD, List.getElem?_take_of_lt hi]
theorem short_inn {u : List I4} {a : I4} (hv : valuesV g = some (u ++ [a])) {i : Nat} (hi : i < g.2.1.length - 1) : innV (shortG g) u i = innV g (u ++ [a]) i ∧ gt u ((g.1.length + i : Nat) : Int) dI4 = gt (u ++ [a]) ((g.1.length + i : Nat) : Int) dI4 := by
  obtain ⟨hl, hb, hin, _⟩ := values_in hv
  rw [List.length_append, List.length_cons, List.length_nil] at hl
  refine ⟨?_, (gt_pre u [a] (by omega) (by omega) dI4).symm⟩
  unfold innV
  rw [short_at hi]
  refine List.map_congr_left fun x hx => ?_
  have := hin i (by omega) x hx
  exact (gt_pre u [a] (by omega) (by omega) dI4).symm
end
/-! ### Streams at other places -/
section
variable {n : Node} {inn : List I4} {tiles : List I2} {b : I7} {z : I4}
theorem loadC_places {p q : List Int} (t : Int) (h : ∀ k : Nat, k < inn.length → gt p (gt n.2.1 (k : Int) 0) 0 = gt q (gt n.2.1 (k : Int) 0) 0) : loadC n inn p tiles b t = loadC n inn q tiles b t := by
  unfold loadC
  split
  · rfl
  · unfold ldsC
    split
    · have h0 := h 0 (by simp)
      have h0' : gt p (gt n.2.1 0 0) 0 = gt q (gt n.2.1 0 0) 0 := h0
      rw [h0']
    · have h0 := h 0 (by simp)
      have h1 := h 1 (by simp)
      have h0' : gt p (gt n.2.1 0 0) 0 = gt q (gt n.2.1 0 0) 0 := h0
      have h1' : gt p (gt n.2.1 1 0) 0 = gt q (gt n.2.1 1 0) 0 := h1
      rw [h0', h1']
    · rfl
theorem dmaS_places {p q : List Int} (to : Int) (h : ∀ k : Nat, k < inn.length → gt p (gt n.2.1 (k : Int) 0) 0 = gt q (gt n.2.1 (k : Int) 0) 0) (ht : gt p to 0 = gt q to 0) : ∀ t, dmaS n inn p tiles b to z t = dmaS n inn q tiles b to z t
  | 0 => by simp only [dmaS, loadC_places _ h]
  | t + 1 => by
    have : stT p tiles b to z t = stT q tiles b to z t := by unfold stT; rw [ht]
    simp only [dmaS, loadC_places _ h, dmaS_places to h ht t, this]
theorem nodeC_places {p q : List Int} (i to : Int) (h : ∀ k : Nat, k < inn.length → gt p (gt n.2.1 (k : Int) 0) 0 = gt q (gt n.2.1 (k : Int) 0) 0) (ht : gt p to 0 = gt q to 0) : nodeC n inn p i to z = nodeC n inn q i to z := by
  unfold nodeC
  split
  · rfl
  · unfold streamsC
    rw [dmaS_places to h ht]
/-- how long commands take hangs on no place -/
theorem loadC_steps (p q : List Int) (t : Int) : (loadC n inn p tiles b t).map stepsC = (loadC n inn q tiles b t).map stepsC := by
  unfold loadC
  split
  · rfl
  · unfold ldsC
    split <;> rfl
theorem dmaS_steps (p q : List Int) (to to' : Int) : ∀ t, (dmaS n inn p tiles b to z t).map stepsC = (dmaS n inn q tiles b to' z t).map stepsC
  | 0 => by simp only [dmaS, List.map_append, loadC_steps p q]
  | t + 1 => by
    simp only [dmaS, List.map_append, loadC_steps p q, dmaS_steps p q to to' t]
    rfl
theorem nodeC_steps (p q : List Int) (i to to' : Int) : (nodeC n inn p i to z).1.map stepsC = (nodeC n inn q i to' z).1.map stepsC ∧ (nodeC n inn p i to z).2.1.map stepsC = (nodeC n inn q i to' z).2.1.map stepsC ∧ (nodeC n inn p i to z).2.2.map stepsC = (nodeC n inn q i to' z).2.2.map stepsC := by
  unfold nodeC
  split
  · exact ⟨rfl, rfl, rfl⟩
  · exact ⟨dmaS_steps p q to to' _, rfl, rfl⟩
end
end Go.V.P
