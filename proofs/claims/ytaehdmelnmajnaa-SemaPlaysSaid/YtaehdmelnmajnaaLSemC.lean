/- Plain laws of layer 10: a copy. -/
import Derived.Test.YtaehdmelnmajnaaLSem
import Derived.Test.YtaehdmelnmajnaaSp0
namespace Go.V.P
open Go Go.V Go.IntWalk
set_option linter.unusedVariables false
set_option linter.unusedSimpArgs false
set_option maxRecDepth 20000
/-- a copy counts the same -/
theorem Clone_eq (cs : List Int) (h : CsOK cs) : sema_Sems_Clone cs = some ((), cs) := by
  unfold sema_Sems_Clone
  rw [new_is]
  simp only [Option.bind_some, semAll]
  have inner : ∀ (k : Nat) (c : List Int), k < 8 → c.length = 8 → c.getD k 0 = 0 → ∃ d, iterN (sema_Sems_Clone_l6_p cs ((k : Int), c)) LL (0, c) = some (cs.getD k 0, d) ∧ d.length = 8 ∧ d.getD k 0 = cs.getD k 0 ∧ ∀ j : Nat, j ≠ k → d.getD j 0 = c.getD j 0 := fun k c hk hl hc => by
    have hb := h.2 k hk
    obtain ⟨z, hz, d, hz1, hd⟩ := iterN_inv (p := sema_Sems_Clone_l6_p cs ((k : Int), c)) (fun s : Int × List Int => 0 ≤ s.1 ∧ s.1 ≤ cs.getD k 0 ∧ s.2.length = 8 ∧ s.2.getD k 0 = s.1 ∧ ∀ j : Nat, j ≠ k → s.2.getD j 0 = c.getD j 0) (fun s => (cs.getD k 0 - s.1).toNat)
      (Q := fun z => ∃ d, z = (cs.getD k 0, d) ∧ d.length = 8 ∧ d.getD k 0 = cs.getD k 0 ∧ ∀ j : Nat, j ≠ k → d.getD j 0 = c.getD j 0) (fun s hs => by
      obtain ⟨t, d⟩ := s
      obtain ⟨h0, h1, h2, h3, h4⟩ := hs
      simp only at h0 h1 h2 h3 h4
      simp only [sema_Sems_Clone_l6_p, gt_nat, signal_at d hk, Option.bind_some]
      by_cases hlt : t < cs.getD k 0
      · rw [decide_eq_true hlt, i64_in (t + 1) (by omega)]
        refine .inl ⟨_, rfl, ⟨by simp only; omega, by simp only; omega, by simp only; rw [sig_len]; exact h2, ?_, fun j hj => ?_⟩, by simp only; omega⟩
        · simp only
          rw [sig_get (by omega), if_pos rfl, if_neg (by omega), h3]
        · simp only
          rw [sig_get (by omega), if_neg hj]
          exact h4 j hj
      · rw [decide_eq_false hlt]
        have : t = cs.getD k 0 := by omega
        subst this
        exact .inr ⟨_, rfl, d, rfl, h2, h3, h4⟩) LL (0, c) ⟨by simp only; omega, hb.1, hl, hc, fun _ _ => rfl⟩ (LL_lt (by simp only; omega))
    subst hz1
    exact ⟨d, hz, hd⟩
  obtain ⟨z, hz, d, hz1, hd⟩ := iterN_inv (p := sema_Sems_Clone_l3_p cs) (fun s : Int × List Int => ∃ i : Nat, s.1 = (i : Int) ∧ i ≤ 8 ∧ s.2.length = 8 ∧ ∀ j : Nat, j < 8 → s.2.getD j 0 = if j < i then cs.getD j 0 else 0) (fun s => 8 - s.1.toNat)
    (Q := fun z => ∃ d, z = (8, d) ∧ d = cs) (fun s hs => by
    obtain ⟨t, c⟩ := s
    obtain ⟨i, hi0, hi, hl, hc⟩ := hs
    simp only at hi0 hl hc
    subst hi0
    simp only [sema_Sems_Clone_l3_p, sema_Sems_Clone_r4_p, h.1]
    by_cases hlt : i < 8
    · obtain ⟨d, h1, h2, h3, h4⟩ := inner i c hlt hl (by rw [hc i hlt, if_neg (Nat.lt_irrefl _)])
      rw [decide_eq_true (by omega : (i : Int) < ((8 : Nat) : Int)), decide_eq_true (by omega : (0 : Int) ≤ (i : Int)), i64_in ((i : Int) + 1) (by omega)]
      simp only [cond_true, Option.bind_some, h1]
      refine .inl ⟨_, rfl, ⟨i + 1, by simp only; omega, by omega, h2, fun j hj => ?_⟩, by simp only; omega⟩
      simp only
      by_cases e : j = i
      · subst e
        rw [h3, if_pos (by omega)]
      · rw [h4 j e, hc j hj]
        by_cases q : j < i
        · rw [if_pos q, if_pos (by omega)]
        · rw [if_neg q, if_neg (by omega)]
    · rw [decide_eq_false (by omega)]
      have : i = 8 := by omega
      subst this
      exact .inr ⟨_, rfl, c, rfl, cs_ext hl h.1 fun k hk => by rw [hc k hk, if_pos hk]⟩) LL (0, zs) ⟨0, rfl, by omega, rfl, fun j _ => by simp only; rw [zs_get, if_neg (Nat.not_lt_zero _)]⟩ (LL_lt (by simp only; omega))
  obtain ⟨rfl, rfl⟩ : z = (8, d) ∧ d = cs := ⟨hz1, hd⟩
  rw [hz]
  rfl
end Go.V.P
