/- Plain laws of layer 19: a node is done in tiles just if its op may be, and a row of it fits. -/
import Derived.Test.YtaeckbkjlmnigaaLBuild2
namespace Go.V.P
open Go Go.V Go.IntWalk
set_option linter.unusedVariables false
set_option linter.unusedSimpArgs false
set_option maxRecDepth 20000
theorem best_iff {n : Node} {inn : List I4} {z : I4} (hl : inn.length < 1000000) (hB : (nB n).length < 1000000) (hv : ref03_Value n inn = some (z, 0)) :
    ∃ (m : I3) (b : Bool), ref16_Need n inn 1 = some (takes m, 0) ∧ ref15_Npu n.1 = some b ∧ (bestV n inn != 0) = (b && decide (takes m ≤ 1024)) := by
  have hok := value_ok hl hB hv
  obtain ⟨f1, _⟩ := nodeF n _ hok.node
  obtain ⟨np1, np2⟩ := npu_of n.1 f1.1 (by omega)
  have hmz := mayB_iff.1 hok.may
  simp only [vS] at hmz
  obtain ⟨v, m, e, hM⟩ := Most_at n inn 1 hl hB
  have hvz : v = (z, 0) := Option.some.inj (hM.val.symm.trans hv)
  subst hvz
  obtain ⟨he, L, hL⟩ := hM.ok rfl ⟨by omega, by show (1 : Int) ≤ z.1; omega⟩
  subst he
  refine ⟨m, _, (need_run hM).2, np2, ?_⟩
  obtain ⟨r, h1, h2, h3, h4, h5⟩ := best_run n inn z hl hB hv
  have hr : bestV n inn = r := by unfold bestV; rw [h1]; rfl
  obtain ⟨_, b2⟩ := best_V hl hB hv
  rcases b2 with h0 | hT
  · rw [h0]
    have h00 : r = 0 := by rw [← hr]; exact h0
    by_cases hc : n.1 ≠ 3 ∧ n.1 ≠ 9 ∧ n.1 ≠ 10 ∧ n.1 ≠ 11
    · have hb := h4 (by rw [np1, decide_eq_true hc])
      have := hb.more 1 (by omega) (by show (1 : Int) ≤ z.1; omega)
      rw [tk_eq hM] at this
      rw [decide_eq_true hc, decide_eq_false (by omega)]
      rfl
    · rw [decide_eq_false hc]
      rfl
  · have hne : bestV n inn ≠ 0 := by have := hT.best; omega
    have hnp : decide (n.1 ≠ 3 ∧ n.1 ≠ 9 ∧ n.1 ≠ 10 ∧ n.1 ≠ 11) = true := Option.some.inj (np1.symm.trans hT.npu)
    have hmono := most_mono hok hL hT.most hT.best.1 hT.best.2
    have hfit := hT.fit
    rw [hnp, decide_eq_true (by omega)]
    simpa using hne
section
variable {g : Graph} {vals : List I4}
theorem Built.lenOk (hB : Built g vals) (hg : okGraph g) : Go.V.P.lenOk (imgV g vals) = true := by
  have h := strS_len hg hB.vv hB.plen g.2.1.length (Nat.le_refl _)
  have hb := (values_in hB.vv).2.1
  have hm : maxL = 2147483648 := rfl
  simp only [Go.V.P.lenOk, imgV, List.length_append, List.length_cons, List.length_nil]
  rw [decide_eq_true (by omega), decide_eq_true (by omega), decide_eq_true (by omega)]
  rfl
theorem Built.tiled (hB : Built g vals) (hg : okGraph g) : ∃ l : List Bool, bldTiled (imgV g vals) = some l ∧ l.length = g.2.1.length ∧ ∀ j : Nat, j < g.2.1.length → gt l (j : Int) false = tiledB g vals j := by
  have hb := (values_in hB.vv).2.1
  have hm : maxL = 2147483648 := rfl
  refine ⟨tiledC g.2.1.length ((imgV g vals).2.2.2.2.1 ++ (imgV g vals).2.2.2.2.2.1 ++ (imgV g vals).2.2.2.2.2.2), ?_, tiledC_length _ _, fun j hj => ?_⟩
  · unfold bldTiled
    rw [hB.lenOk hg]
    show (bif true && decide (g.2.1.length ≤ maxL) then _ else _) = _
    rw [decide_eq_true (by omega)]
    rfl
  · rw [tiledC_get _ _ j hj]
    obtain ⟨h1, h2, h3, _⟩ := strS_T hg hB.vv hB.plen j g.2.1.length (Nat.le_refl _)
    have hh : isTl (j : Int) hlt = false := rfl
    simp only [imgV, List.any_append, (plain_T h1 (j : Int)).1, h2, h3, List.any_cons, List.any_nil, hh, Bool.or_false, Bool.false_or]
    rw [decide_eq_true hj, Bool.and_true]
end
end Go.V.P
