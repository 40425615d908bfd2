/- Plain laws of layer 3: what a node makes. -/
import Derived.Test.YtaeckbkjlmnigaaLSh3
import Derived.Test.YtaeckbkjlmnigaaBm0
import Derived.Test.YtaeckbkjlmnigaaBm1
namespace Go.V.P
open Go Go.V Go.IntWalk
set_option linter.unusedVariables false
theorem gt_at {α : Type} {l : List α} {i : Nat} (d : α) (h : i < l.length) : gt l (i : Int) d = l[i] := by
  simp [gt, List.getD_eq_getElem?_getD, h]
theorem any_loop {α ζ : Type} {d : α} {l : List α} {f : α → Bool} {p : Int → Option (Int ⊕ (Int ⊕ ζ))} {bad : Nat → ζ} (hL : l.length < 1000000)
    (hp : ∀ i : Nat, i < l.length → p (i : Int) = some (if f (gt l (i : Int) d) = true then .inr (.inr (bad i)) else .inl ((i : Int) + 1)))
    (he : p (l.length : Int) = some (.inr (.inl (l.length : Int)))) : (l.any f = false ∧ iterN p LL 0 = some (.inl (l.length : Int))) ∨ (l.any f = true ∧ ∃ i, iterN p LL 0 = some (.inr (bad i))) := by
  obtain ⟨z, h1, h2⟩ := iterN_inv (p := p) (fun s => ∃ i : Nat, s = (i : Int) ∧ i ≤ l.length ∧ ∀ j : Nat, j < i → f (gt l (j : Int) d) = false) (fun s => l.length - s.toNat)
    (Q := fun z => (l.any f = false ∧ z = .inl (l.length : Int)) ∨ (l.any f = true ∧ ∃ i, z = .inr (bad i))) (fun s hs => by
    obtain ⟨i, rfl, hi, ha⟩ := hs
    by_cases h : i < l.length
    · rw [hp i h]
      by_cases hg : f (gt l (i : Int) d) = true
      · rw [if_pos hg]
        refine .inr ⟨_, rfl, .inr ⟨?_, i, rfl⟩⟩
        rw [gt_at d h] at hg
        exact List.any_eq_true.2 ⟨_, List.getElem_mem h, hg⟩
      · rw [if_neg hg]
        refine .inl ⟨_, rfl, ⟨i + 1, by omega, by omega, fun j hj => ?_⟩, by omega⟩
        by_cases hji : j = i
        · rw [hji]; simpa using hg
        · exact ha j (by omega)
    · have : i = l.length := by omega
      subst this
      rw [he]
      refine .inr ⟨_, rfl, .inl ⟨?_, rfl⟩⟩
      rw [List.any_eq_false]
      intro x hx
      obtain ⟨j, hj, rfl⟩ := List.mem_iff_getElem.1 hx
      have := ha j hj
      rw [gt_at d hj] at this
      simp [this]) LL 0 ⟨0, rfl, by omega, fun j hj => by omega⟩ (LL_lt (by simp only [Int.toNat_zero]; omega))
  rcases h2 with ⟨h2, rfl⟩ | ⟨h2, i, rfl⟩
  · exact .inl ⟨h2, h1⟩
  · exact .inr ⟨h2, i, h1⟩
theorem step_t {i : Nat} {n : Nat} (h : i < n) (hn : n < 1000000) : decide ((i : Int) < (n : Int)) = true ∧ decide ((0 : Int) ≤ (i : Int)) = true ∧ IntKind.wrap .i64 ((i : Int) + 1) = (i : Int) + 1 :=
  ⟨decide_eq_true (by omega), decide_eq_true (by omega), i64_in _ (by omega)⟩
abbrev nZ (n : Node) : Int := n.2.2.2.2.2.2.2.2.1
abbrev nW (n : Node) : List Int := n.2.2.2.2.2.2.2.2.2.2.2.2.1
abbrev nB (n : Node) : List Int := n.2.2.2.2.2.2.2.2.2.2.2.2.2
abbrev vS (v : I4) : I3 := (v.1, v.2.1, v.2.2.1)
theorem ContainsZero (l : List I4) (n : Node) (hl : l.length < 1000000) : slices_ContainsFuncapi_Value_api_Value l n = some (l.any fun v => v.2.2.2 != nZ n) := by
  unfold slices_ContainsFuncapi_Value_api_Value slices_IndexFuncapi_Value_api_Value
  rcases any_loop (d := dI4) (l := l) (f := fun v => v.2.2.2 != nZ n) (p := slices_IndexFuncapi_Value_api_Value_l2_p l n) (bad := fun i => (i : Int)) hl (fun i hi => by
    obtain ⟨t1, t2, t3⟩ := step_t hi hl
    simp only [slices_IndexFuncapi_Value_api_Value_l2_p, slices_IndexFuncapi_Value_api_Value_r4_p, graph_Value_1, graph_Value_1_q, t1, t2, t3, cond_true, Option.bind_some]
    cases ((gt l (i : Int) dI4).2.2.2 != nZ n) <;> rfl) (by
    simp only [slices_IndexFuncapi_Value_api_Value_l2_p]
    rw [decide_eq_false (Int.lt_irrefl _)]
    rfl) with ⟨h1, h2⟩ | ⟨h1, i, h2⟩
  · rw [h1, h2]; rfl
  · rw [h1, h2]
    simp only [Option.bind_some, either]
    rw [decide_eq_true (by omega)]
theorem ContainsMay (l : List I4) (hl : l.length < 1000000) : slices_ContainsFuncapi_Value_api_Value_s2 l = some (l.any fun v => !mayB (vS v)) := by
  unfold slices_ContainsFuncapi_Value_api_Value_s2 slices_IndexFuncapi_Value_api_Value_s2
  rcases any_loop (d := dI4) (l := l) (f := fun v => !mayB (vS v)) (p := slices_IndexFuncapi_Value_api_Value_s2_l2_p l) (bad := fun i => (i : Int)) hl (fun i hi => by
    obtain ⟨t1, t2, t3⟩ := step_t hi hl
    simp only [slices_IndexFuncapi_Value_api_Value_s2_l2_p, slices_IndexFuncapi_Value_api_Value_s2_r4_p, graph_Value_2, shape_May_eq, t1, t2, t3, cond_true, Option.bind_some]
    cases mayB (vS (gt l (i : Int) dI4)) <;> rfl) (by
    simp only [slices_IndexFuncapi_Value_api_Value_s2_l2_p]
    rw [decide_eq_false (Int.lt_irrefl _)]
    rfl) with ⟨h1, h2⟩ | ⟨h1, i, h2⟩
  · rw [h1, h2]; rfl
  · rw [h1, h2]
    simp only [Option.bind_some, either]
    rw [decide_eq_true (by omega)]
def offB (x : Int) : Bool := !(ref03_in (IntKind.wrap .i64 x) (-16777216 : Int) (16777216 : Int))
theorem within_in (x a b : Int) : graph_within x a b = ref03_in x a b := by
  simp only [graph_within, graph_within_q, graph_within_r1_p, graph_within_r1_q, ref03_in, ref03_in_q, ref03_in_r1_p, ref03_in_r1_q]
end Go.V.P
