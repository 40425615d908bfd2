/- Plain laws of layer 3: what a node of a graph that may be is made of stands ahead of it. -/
import Derived.Test.YtaeckbkjlmnigaaLLast
namespace Go.V.P
open Go Go.V Go.IntWalk
set_option linter.unusedVariables false
set_option linter.unusedSimpArgs false
set_option maxRecDepth 20000
theorem inR_iff {k : Nat} {x : Int} : inR k x = true ↔ 0 ≤ x ∧ x < (k : Int) := by simp [inR]
theorem gt_memR {α : Type} {l : List α} {i : Nat} (h : i < l.length) (d : α) : gt l (i : Int) d ∈ l := by
  unfold gt
  rw [show ((i : Int).toNat) = i by omega, List.getD_eq_getElem?_getD, List.getElem?_eq_getElem h]
  exact List.getElem_mem h
theorem gt_cons {α : Type} (x : α) (l : List α) (i : Nat) (d : α) : gt (x :: l) ((i + 1 : Nat) : Int) d = gt l (i : Int) d := by
  unfold gt
  rw [show (((i + 1 : Nat) : Int).toNat) = i + 1 by omega, show ((i : Int).toNat) = i by omega]
  rfl
theorem run_in : ∀ (ns : List Node) (vals : List I4) (w : Int) (v : List I4) (x : Int), run vals w ns = .inl (v, x) → ∀ i : Nat, i < ns.length → ∀ a ∈ (gt ns (i : Int) dNode).2.1, 0 ≤ a ∧ a < ((vals.length + i : Nat) : Int)
  | [], vals, w, v, x, h, i, hi => absurd hi (Nat.not_lt_zero _)
  | n :: ns, vals, w, v, x, h, i, hi => by
    simp only [run] at h
    split at h
    · rename_i ha
      split at h
      · cases i with
        | zero =>
          intro a hm
          have hm' : a ∈ n.2.1 := hm
          have := inR_iff.1 (List.all_eq_true.1 ha a hm')
          simpa using this
        | succ i =>
          intro a hm
          rw [gt_cons] at hm
          have := run_in ns _ _ v x h i (by simpa using hi) a hm
          simp only [List.length_append, List.length_cons, List.length_nil] at this
          omega
      · cases h
    · cases h
theorem values_in {g : Graph} {v : List I4} (h : valuesV g = some v) : v.length = g.1.length + g.2.1.length ∧ (g.1.length ≤ 4 ∧ g.2.1.length ≤ 12 ∧ g.2.2.length ≤ 4 ∧ g.1.length ≠ 0 ∧ g.2.2.length ≠ 0) ∧ (∀ i : Nat, i < g.2.1.length → ∀ a ∈ (gt g.2.1 (i : Int) dNode).2.1, 0 ≤ a ∧ a < ((g.1.length + i : Nat) : Int)) ∧ ∀ a ∈ g.2.2, 0 ≤ a ∧ a < ((g.1.length + g.2.1.length : Nat) : Int) := by
  unfold valuesV at h
  split at h
  · rename_i hf
    split at h
    · rename_i z hz
      split at h
      · rename_i hw
        cases h
        have hl := (run_len _ _ _ z.1 z.2 hz).1
        have hi := run_in _ _ _ z.1 z.2 hz
        simp only [fitB, Bool.and_eq_true, decide_eq_true_eq] at hf
        refine ⟨hl, ⟨hf.1.1.1.1.1, hf.1.1.1.1.2, hf.1.1.1.2, hf.1.1.2, hf.1.2⟩, hi, fun a ha => ?_⟩
        have := inR_iff.1 (List.all_eq_true.1 hw.2 a ha)
        rw [hl] at this
        exact this
      · cases h
    · cases h
  · cases h
theorem lastV_in (g : Graph) (v : Int) : -1 ≤ lastV g v ∧ lastV g v ≤ (g.2.1.length : Int) ∧ (v ∈ g.2.2 → lastV g v = (g.2.1.length : Int)) ∧ (∀ k : Nat, k < g.2.1.length → v ∈ (gt g.2.1 (k : Int) dNode).2.1 → (k : Int) ≤ lastV g v) ∧ (0 ≤ lastV g v → v ∈ g.2.2 ∨ ∃ k : Nat, k < g.2.1.length ∧ lastV g v = (k : Int) ∧ v ∈ (gt g.2.1 (k : Int) dNode).2.1) := by
  obtain ⟨h1, h2, h3, h4⟩ := lastP_in g.2.1 v g.2.1.length
  unfold lastV
  by_cases h : v ∈ g.2.2
  · rw [if_pos h]
    exact ⟨by omega, by omega, fun _ => rfl, fun k hk _ => by omega, fun _ => .inl h⟩
  · rw [if_neg h]
    refine ⟨h1, by omega, fun hv => absurd hv h, h4, fun h0 => .inr ⟨(lastP g.2.1 g.2.1.length v).toNat, by omega, by omega, ?_⟩⟩
    rw [show (((lastP g.2.1 g.2.1.length v).toNat : Nat) : Int) = lastP g.2.1 g.2.1.length v by omega]
    exact h3 h0
end Go.V.P
