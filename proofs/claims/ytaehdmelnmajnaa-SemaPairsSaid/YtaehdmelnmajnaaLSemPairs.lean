/- Plain laws of layer 10: SemaPairs. -/
import Derived.Test.YtaehdmelnmajnaaLSemI
import Derived.Test.YtaehdmelnmajnaaSe6
namespace Go.V.P
open Go Go.V Go.IntWalk
set_option linter.unusedVariables false
set_option linter.unusedSimpArgs false
set_option maxRecDepth 20000
/-- a copy counts the same -/
theorem Clone_eq (cs : List Int) (h : CsOK cs) : sema_Sems_Clone cs = some ((), cs) := by
  unfold sema_Sems_Clone
  rw [new_is]
  simp only [Option.bind_some, semAll]
  have inner : ∀ (k : Nat) (c : List Int), k < 8 → c.length = 8 → c.getD k 0 = 0 → ∃ d, iterN (sema_Sems_Clone_l6_p cs ((k : Int), c)) LL (0, c) = some (cs.getD k 0, d) ∧ d.length = 8 ∧ d.getD k 0 = cs.getD k 0 ∧ ∀ j : Nat, j ≠ k → d.getD j 0 = c.getD j 0 := fun k c hk hl hc => by
    have hb := h.2 k hk
    obtain ⟨z, hz, d, hz1, hd⟩ := iterN_inv (p := sema_Sems_Clone_l6_p cs ((k : Int), c)) (fun s : Int × List Int => 0 ≤ s.1 ∧ s.1 ≤ cs.getD k 0 ∧ s.2.length = 8 ∧ s.2.getD k 0 = s.1 ∧ ∀ j : Nat, j ≠ k → s.2.getD j 0 = c.getD j 0) (fun s => (cs.getD k 0 - s.1).toNat)
      (Q := fun z => ∃ d, z = (cs.getD k 0, d) ∧ d.length = 8 ∧ d.getD k 0 = cs.getD k 0 ∧ ∀ j : Nat, j ≠ k → d.getD j 0 = c.getD j 0) (fun s hs => by
      obtain ⟨t, d⟩ := s
      obtain ⟨h0, h1, h2, h3, h4⟩ := hs
      simp only at h0 h1 h2 h3 h4
      simp only [sema_Sems_Clone_l6_p, gt_nat, signal_at d hk, Option.bind_some]
      by_cases hlt : t < cs.getD k 0
      · rw [decide_eq_true hlt, i64_in (t + 1) (by omega)]
        refine .inl ⟨_, rfl, ⟨by simp only; omega, by simp only; omega, by simp only; rw [sig_len]; exact h2, ?_, fun j hj => ?_⟩, by simp only; omega⟩
        · simp only
          rw [sig_get (by omega), if_pos rfl, if_neg (by omega), h3]
        · simp only
          rw [sig_get (by omega), if_neg hj]
          exact h4 j hj
      · rw [decide_eq_false hlt]
        have : t = cs.getD k 0 := by omega
        subst this
        exact .inr ⟨_, rfl, d, rfl, h2, h3, h4⟩) LL (0, c) ⟨by simp only; omega, hb.1, hl, hc, fun _ _ => rfl⟩ (LL_lt (by simp only; omega))
    subst hz1
    exact ⟨d, hz, hd⟩
  obtain ⟨z, hz, d, hz1, hd⟩ := iterN_inv (p := sema_Sems_Clone_l3_p cs) (fun s : Int × List Int => ∃ i : Nat, s.1 = (i : Int) ∧ i ≤ 8 ∧ s.2.length = 8 ∧ ∀ j : Nat, j < 8 → s.2.getD j 0 = if j < i then cs.getD j 0 else 0) (fun s => 8 - s.1.toNat)
    (Q := fun z => ∃ d, z = (8, d) ∧ d = cs) (fun s hs => by
    obtain ⟨t, c⟩ := s
    obtain ⟨i, hi0, hi, hl, hc⟩ := hs
    simp only at hi0 hl hc
    subst hi0
    simp only [sema_Sems_Clone_l3_p, sema_Sems_Clone_r4_p, h.1]
    by_cases hlt : i < 8
    · obtain ⟨d, h1, h2, h3, h4⟩ := inner i c hlt hl (by rw [hc i hlt, if_neg (Nat.lt_irrefl _)])
      rw [decide_eq_true (by omega : (i : Int) < ((8 : Nat) : Int)), decide_eq_true (by omega : (0 : Int) ≤ (i : Int)), i64_in ((i : Int) + 1) (by omega)]
      simp only [cond_true, Option.bind_some, h1]
      refine .inl ⟨_, rfl, ⟨i + 1, by simp only; omega, by omega, h2, fun j hj => ?_⟩, by simp only; omega⟩
      simp only
      by_cases e : j = i
      · subst e
        rw [h3, if_pos (by omega)]
      · rw [h4 j e, hc j hj]
        by_cases q : j < i
        · rw [if_pos q, if_pos (by omega)]
        · rw [if_neg q, if_neg (by omega)]
    · rw [decide_eq_false (by omega)]
      have : i = 8 := by omega
      subst this
      exact .inr ⟨_, rfl, c, rfl, cs_ext hl h.1 fun k hk => by rw [hc k hk, if_pos hk]⟩) LL (0, zs) ⟨0, rfl, by omega, rfl, fun j _ => by simp only; rw [zs_get, if_neg (Nat.not_lt_zero _)]⟩ (LL_lt (by simp only; omega))
  obtain ⟨rfl, rfl⟩ : z = (8, d) ∧ d = cs := ⟨hz1, hd⟩
  rw [hz]
  rfl
theorem sig_wai {cs : List Int} (h : CsOK cs) {k : Nat} (hk : k < 8) (h15 : cs.getD k 0 ≠ 15) : (wai (sig cs k).2 k) = (0, cs) := by
  have hb := h.2 k hk
  have hl := h.1
  have e : (sig cs k).2 = cs.set k (cs.getD k 0 + 1) := by unfold sig; rw [if_neg h15]
  have hg : (sig cs k).2.getD k 0 = cs.getD k 0 + 1 := by rw [e, getD_set (by omega), if_pos rfl]
  unfold wai
  rw [hg, if_neg (by omega), e, List.set_set, show cs.getD k 0 + 1 - 1 = cs.getD k 0 by omega, set_self]
theorem wai_sig {cs : List Int} (h : CsOK cs) {k : Nat} (hk : k < 8) (h15 : cs.getD k 0 ≠ 0) : (sig (wai cs k).2 k) = (0, cs) := by
  have hb := h.2 k hk
  have hl := h.1
  have e : (wai cs k).2 = cs.set k (cs.getD k 0 - 1) := by unfold wai; rw [if_neg h15]
  have hg : (wai cs k).2.getD k 0 = cs.getD k 0 - 1 := by rw [e, getD_set (by omega), if_pos rfl]
  unfold sig
  rw [hg, if_neg (by omega), e, List.set_set, show cs.getD k 0 - 1 + 1 = cs.getD k 0 by omega, set_self]
theorem SemaPairs_true (l : List Op) (_ : Ts.ok (.one (.sl tsOp)) l) : law10_SemaPairs l = some true := by
  unfold law10_SemaPairs
  rw [shown10, new_is]
  simp only [Option.bind_some]
  have h3 : law10_SemaPairs_r3_p true = false := rfl
  rw [h3]
  simp only [cond_false]
  obtain ⟨z, hz, u, hz1⟩ := iterN_inv (p := law10_SemaPairs_l6_p l) (fun s : Int × List Int => ∃ i : Nat, s.1 = (i : Int) ∧ i ≤ min l.length 200 ∧ CsOK s.2) (fun s => min l.length 200 - s.1.toNat)
    (Q := fun z => ∃ u, z = .inl u) (fun s hs => by
    obtain ⟨t, c⟩ := s
    obtain ⟨i, hi0, hi, hc⟩ := hs
    simp only at hi0 hc
    subst hi0
    have h7 : law10_SemaPairs_r6_p l ((i : Int), c) = decide (i < min l.length 200) := by
      simp only [law10_SemaPairs_r6_p, law10_SemaPairs_r6_q]
      rw [Bool.eq_iff_iff]
      simp only [Bool.cond_false_right, Bool.and_eq_true, decide_eq_true_iff]
      omega
    by_cases hlt : i < min l.length 200
    · obtain ⟨o, ho⟩ : ∃ o, gt l (i : Int) dOp = o := ⟨_, rfl⟩
      have hk := nd_lt o.1
      obtain ⟨k, hkk⟩ : ∃ k, nd o.1 = k := ⟨_, rfl⟩
      rw [hkk] at hk
      have hl := hc.1
      have hck := hc.2 k hk
      have hself := ints_self c (by rw [hl]; omega)
      have hj13 : law10_SemaPairs_j13_p l ((i : Int), c) (k : Int) ((), c) = some (.inl c) := by
        simp only [law10_SemaPairs_j13_p, law10_SemaPairs_r13_p, law10_SemaPairs_r14_p, law10_SemaPairs_r16_p, ho, signal_at _ hk, wait_at _ hk]
        rw [decide_eq_true (by omega : (0 : Int) ≤ (i : Int)), decide_eq_true (by omega : (i : Int) < (l.length : Int))]
        simp only [cond_true, Option.bind_some]
        have s1 := sig_err (cs := c) (k := k)
        have s2 := wai_err (cs := c) (k := k)
        cases o.2 with
        | true =>
          simp only [cond_true]
          by_cases h15 : c.getD k 0 = 15
          · rw [if_pos h15] at s1
            have e2 : (sig c k).2 = c := by unfold sig; rw [if_pos h15]
            rw [s1, e2]
            rfl
          · rw [if_neg h15] at s1
            rw [s1, sig_wai hc hk h15]
            rfl
        | false =>
          simp only [cond_false]
          by_cases h15 : c.getD k 0 = 0
          · rw [if_pos h15] at s2
            have e2 : (wai c k).2 = c := by unfold wai; rw [if_pos h15]
            rw [s2, e2]
            rfl
          · rw [if_neg h15] at s2
            rw [s2, wai_sig hc hk h15]
            rfl
      have hj8 : ∃ d, law10_SemaPairs_j8_p l ((i : Int), c) = some (.inl (d, c)) ∧ CsOK d := by
        simp only [law10_SemaPairs_j8_p, law10_SemaPairs_r8_p, law10_SemaPairs_r18_p, law10_SemaPairs_r19_p, law10_SemaPairs_r20_p, law10_SemaPairs_r20_q, law10_SemaPairs_r22_p, ho, and7, hkk]
        rw [decide_eq_true (by omega : (0 : Int) ≤ (i : Int)), decide_eq_true (by omega : (i : Int) < (l.length : Int))]
        simp only [cond_true, Option.bind_some, semAll, Clone_eq c hc, hj13, either, hself, Bool.not_true, cond_false, signal_at _ hk, wait_at _ hk]
        cases o.2 with
        | true => exact ⟨_, rfl, hc.sig hk⟩
        | false => exact ⟨_, rfl, hc.wai hk⟩
      obtain ⟨d, hd, hdok⟩ := hj8
      simp only [law10_SemaPairs_l6_p, h7, hd]
      rw [decide_eq_true hlt, i64_in ((i : Int) + 1) (by omega)]
      simp only [cond_true, Option.bind_some, either]
      exact .inl ⟨_, rfl, ⟨i + 1, by simp only; omega, by omega, hdok⟩, by simp only; omega⟩
    · simp only [law10_SemaPairs_l6_p, h7]
      rw [decide_eq_false hlt]
      exact .inr ⟨_, rfl, _, rfl⟩) LL (0, zs) ⟨0, rfl, by omega, zs_ok⟩ (LL_lt (by simp only; omega))
  subst hz1
  rw [hz]
  rfl
end Go.V.P
