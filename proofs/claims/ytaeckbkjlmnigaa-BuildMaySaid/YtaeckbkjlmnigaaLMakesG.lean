/- Plain laws of layer 3: what the nodes of a graph make may be; GraphMakes. -/
import Derived.Test.YtaeckbkjlmnigaaLMakesF
namespace Go.V.P
open Go Go.V Go.IntWalk
set_option linter.unusedVariables false
set_option linter.unusedSimpArgs false
set_option maxRecDepth 20000
theorem run_made : ∀ (ns : List Node) (vals : List I4) (w : Int) (v : List I4) (x : Int), (∀ n ∈ ns, okNode n) → run vals w ns = .inl (v, x) →
    ∃ made, v = vals ++ made ∧ made.length = ns.length ∧ ∀ (j : Nat) (u : I4) (n : Node), made[j]? = some u → ns[j]? = some n → mayB (vS u) = true ∧ u.2.2.2 = nZ n
  | [], vals, w, v, x, _, h => by
    cases h
    exact ⟨[], by simp, rfl, fun j u n hu => by simp at hu⟩
  | n :: ns, vals, w, v, x, hok, h => by
    simp only [run] at h
    split at h
    · split at h
      · rename_i ha he
        have hn := hok n (by simp)
        have hz := (gV_eq n (n.2.1.map fun x => gt vals x dI4) (by simpa using hn.1) hn.2.2).2 he
        obtain ⟨made, h1, h2, h3⟩ := run_made ns _ _ v x (fun m hm => hok m (by simp [hm])) h
        refine ⟨(gV n (n.2.1.map fun x => gt vals x dI4)).1 :: made, by rw [h1, List.append_assoc]; rfl, by simp [h2], fun j u m hu hm => ?_⟩
        cases j with
        | zero =>
          simp only [List.getElem?_cons_zero, Option.some.injEq] at hu hm
          subst hu hm
          exact hz
        | succ j =>
          simp only [List.getElem?_cons_succ] at hu hm
          exact h3 j u m hu hm
      · cases h
    · cases h
theorem run_drop : ∀ (ns : List Node) (n : Node) (vals : List I4) (w : Int) (v : List I4) (x : Int), run vals w (ns ++ [n]) = .inl (v, x) → ∃ u y, run vals w ns = .inl (u, y) ∧ y ≤ x ∧ u.length = vals.length + ns.length
  | [], n, vals, w, v, x, h => by
    have := run_len _ _ _ _ _ h
    exact ⟨vals, w, rfl, this.2, by simp⟩
  | m :: ns, n, vals, w, v, x, h => by
    simp only [List.cons_append, run] at h ⊢
    split at h
    · split at h
      · rename_i ha he
        obtain ⟨u, y, h1, h2, h3⟩ := run_drop ns n _ _ v x h
        rw [if_pos ha, if_pos he]
        refine ⟨u, y, h1, h2, ?_⟩
        simp only [List.length_append, List.length_cons, List.length_nil] at h3 ⊢
        omega
      · cases h
    · cases h
end Go.V.P
