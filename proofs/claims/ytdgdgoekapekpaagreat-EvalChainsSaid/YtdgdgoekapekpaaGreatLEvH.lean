/- Plain laws of layer 6: one node more. -/
import Derived.Test.YtdgdgoekapekpaaGreatLEvA
import Derived.Test.YtdgdgoekapekpaaGreatLEvD
import Derived.Test.YtdgdgoekapekpaaGreatLSameR
import Derived.Test.YtdgdgoekapekpaaGreatEc1
namespace Go.V.P
open Go Go.V Go.IntWalk
set_option linter.unusedVariables false
set_option linter.unusedSimpArgs false
set_option maxRecDepth 20000
theorem shown06 : law06_shown = some true := by decide +kernel
theorem run_snoc : ∀ (ns : List Node) (n : Node) (p : List I4) (w : Int) (v : List I4) (x : Int), run p w (ns ++ [n]) = .inl (v, x) →
    ∃ q y, run p w ns = .inl (q, y) ∧ n.2.1.all (inR q.length) = true ∧ (gV n (pick q n)).2 = 0 ∧ v = q ++ [(gV n (pick q n)).1]
  | [], n, p, w, v, x, h => by
    simp only [List.nil_append, run] at h
    split at h
    · split at h
      · rename_i ha he
        cases h
        exact ⟨p, w, rfl, ha, he, rfl⟩
      · cases h
    · cases h
  | m :: ns, n, p, w, v, x, h => by
    simp only [List.cons_append, run] at h ⊢
    split at h
    · split at h
      · rename_i ha he
        rw [if_pos ha, if_pos he]
        exact run_snoc ns n _ _ v x h
      · cases h
    · cases h
theorem runD_snoc : ∀ (ns : List Node) (n : Node) (p : List I4) (a : List (List Int)) (w : Int) (q : List I4) (y : Int), run p w ns = .inl (q, y) →
    runD p a (ns ++ [n]) = runD p a ns ++ [kA n (pick q n) (dat (runD p a ns) n)]
  | [], n, p, a, w, q, y, h => by
    cases h
    rfl
  | m :: ns, n, p, a, w, q, y, h => by
    simp only [run] at h
    split at h
    · split at h
      · simp only [List.cons_append, runD]
        exact runD_snoc ns n _ _ _ q y h
      · cases h
    · cases h
theorem runD_pre : ∀ (ns : List Node) (p : List I4) (a : List (List Int)), ∃ c, runD p a ns = a ++ c ∧ c.length = ns.length
  | [], p, a => ⟨[], by simp [runD], rfl⟩
  | n :: ns, p, a => by
    obtain ⟨c, h1, h2⟩ := runD_pre ns (p ++ [(gV n (pick p n)).1]) (a ++ [kA n (pick p n) (dat a n)])
    exact ⟨kA n (pick p n) (dat a n) :: c, by simp only [runD, h1, List.append_assoc, List.cons_append, List.nil_append], by simp [h2]⟩
theorem in_of {n : Node} {k : Nat} (h : n.2.1.all (inR k) = true) {x : Int} (hx : x ∈ n.2.1) : 0 ≤ x ∧ x < (k : Int) := by
  have := List.all_eq_true.1 h x hx
  simpa [inR] using this
theorem pick_left {n : Node} {p q : List I4} (h : n.2.1.all (inR p.length) = true) : pick (p ++ q) n = pick p n := by
  unfold pick
  apply List.map_congr_left
  intro x hx
  have := in_of h hx
  exact gt_left dI4 this.1 this.2
theorem dat_left {n : Node} {p q : List (List Int)} (h : n.2.1.all (inR p.length) = true) : dat (p ++ q) n = dat p n := by
  have H := fun (x : Int) (hx : x ∈ n.2.1) => gt_left ([] : List Int) (m := q) (in_of h hx).1 (in_of h hx).2
  unfold dat
  split
  · rename_i x hx
    rw [H x (by rw [hx]; simp)]
  · rename_i x y hx
    rw [H x (by rw [hx]; simp), H y (by rw [hx]; simp)]
  · rfl
end Go.V.P
