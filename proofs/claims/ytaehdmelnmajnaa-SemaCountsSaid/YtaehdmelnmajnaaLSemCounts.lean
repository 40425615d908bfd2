/- Plain laws of layer 10: SemaCounts. -/
import Derived.Test.YtaehdmelnmajnaaLSemI
import Derived.Test.YtaehdmelnmajnaaSe3
namespace Go.V.P
open Go Go.V Go.IntWalk
set_option linter.unusedVariables false
set_option linter.unusedSimpArgs false
set_option maxRecDepth 20000
theorem SemaCounts_true (l : List Op) (_ : Ts.ok (.one (.sl tsOp)) l) : law10_SemaCounts l = some true := by
  unfold law10_SemaCounts
  rw [shown10, new_is]
  simp only [Option.bind_some]
  have h3 : law10_SemaCounts_r3_p true = false := rfl
  have h5 : law10_SemaCounts_r5_p = some () := by unfold law10_SemaCounts_r5_p; rw [decide_eq_true (by unfold maxL; omega)]; rfl
  have hr : List.replicate 8 (0 : Int) = zs := rfl
  rw [h3, h5, hr]
  simp only [cond_false, Option.bind_some]
  obtain ⟨z, hz, u, hz1⟩ := iterN_inv (p := law10_SemaCounts_l7_p l) (fun s : Int × List Int × List Int => ∃ i : Nat, s.1 = (i : Int) ∧ i ≤ min l.length 200 ∧ s.2.1 = s.2.2 ∧ CsOK s.2.1) (fun s => min l.length 200 - s.1.toNat)
    (Q := fun z => ∃ u, z = .inl u) (fun s hs => by
    obtain ⟨t, c, w⟩ := s
    obtain ⟨i, hi0, hi, hcw, hc⟩ := hs
    simp only at hi0 hcw hc
    subst hi0 hcw
    have h7 : law10_SemaCounts_r7_p l ((i : Int), c, c) = decide (i < min l.length 200) := by
      simp only [law10_SemaCounts_r7_p, law10_SemaCounts_r7_q]
      rw [Bool.eq_iff_iff]
      simp only [Bool.cond_false_right, Bool.and_eq_true, decide_eq_true_iff]
      omega
    by_cases hlt : i < min l.length 200
    · obtain ⟨o, ho⟩ : ∃ o, gt l (i : Int) dOp = o := ⟨_, rfl⟩
      have hk := nd_lt o.1
      obtain ⟨k, hkk⟩ : ∃ k, nd o.1 = k := ⟨_, rfl⟩
      rw [hkk] at hk
      have hl := hc.1
      have hck := hc.2 k hk
      have hend : ∀ d : List Int, CsOK d → law10_SemaCounts_r21_p (d, d) = some true := fun d hd => by
        simp only [law10_SemaCounts_r21_p, semAll, Option.bind_some, hd.1, nbeq.2 rfl, cond_true, ints_self d (by rw [hd.1]; omega)]
      have hj : ∃ d, law10_SemaCounts_j10_p l ((i : Int), c, c) (k : Int) = some (.inl (d, d)) ∧ CsOK d := by
        simp only [law10_SemaCounts_j10_p, law10_SemaCounts_r10_p, law10_SemaCounts_r12_p, law10_SemaCounts_r15_p, law10_SemaCounts_r17_p, law10_SemaCounts_r20_p, ho, signal_at c hk, wait_at c hk, gt_nat, hl, show Int.toNat (k : Int) = k by omega]
        rw [decide_eq_true (by omega : (0 : Int) ≤ (i : Int)), decide_eq_true (by omega : (i : Int) < (l.length : Int)), decide_eq_true (by omega : (0 : Int) ≤ (k : Int)), decide_eq_true (by omega : (k : Int) < 8), decide_eq_true hk]
        simp only [cond_true, Option.bind_some]
        have s1 := sig_err (cs := c) (k := k)
        have s2 := wai_err (cs := c) (k := k)
        have ok1 := hc.sig hk
        have ok2 := hc.wai hk
        cases o.2 with
        | true =>
          simp only [cond_true]
          by_cases h15 : c.getD k 0 = 15
          · rw [if_pos h15] at s1
            have e2 : (sig c k).2 = c := by unfold sig; rw [if_pos h15]
            rw [s1, e2, h15]
            exact ⟨c, rfl, hc⟩
          · rw [if_neg h15] at s1
            have e2 : (sig c k).2 = c.set k (c.getD k 0 + 1) := by unfold sig; rw [if_neg h15]
            rw [s1, decide_eq_true (by omega), i64_in (c.getD k 0 + 1) (by omega), ← e2]
            exact ⟨_, rfl, ok1⟩
        | false =>
          simp only [cond_false]
          by_cases h15 : c.getD k 0 = 0
          · rw [if_pos h15] at s2
            have e2 : (wai c k).2 = c := by unfold wai; rw [if_pos h15]
            rw [s2, e2, h15]
            exact ⟨c, rfl, hc⟩
          · rw [if_neg h15] at s2
            have e2 : (wai c k).2 = c.set k (c.getD k 0 - 1) := by unfold wai; rw [if_neg h15]
            rw [s2, decide_eq_true (by omega), i64_in (c.getD k 0 - 1) (by omega), ← e2]
            exact ⟨_, rfl, ok2⟩
      obtain ⟨d, hd, hdok⟩ := hj
      simp only [law10_SemaCounts_l7_p, h7, law10_SemaCounts_r9_p, ho, and7, hkk]
      rw [decide_eq_true hlt, decide_eq_true (by omega : (0 : Int) ≤ (i : Int)), decide_eq_true (by omega : (i : Int) < (l.length : Int)), i64_in ((i : Int) + 1) (by omega)]
      simp only [cond_true, Option.bind_some, hd, either, hend d hdok]
      exact .inl ⟨_, rfl, ⟨i + 1, by simp only; omega, by omega, rfl, hdok⟩, by simp only; omega⟩
    · simp only [law10_SemaCounts_l7_p, h7]
      rw [decide_eq_false hlt]
      exact .inr ⟨_, rfl, _, rfl⟩) LL (0, zs, zs) ⟨0, rfl, by omega, rfl, zs_ok⟩ (LL_lt (by simp only; omega))
  subst hz1
  rw [hz]
  rfl
end Go.V.P
