/- Plain laws of layer 10: SemaFull. -/
import Derived.Test.YtaehdmelnmajnaaLSem
import Derived.Test.YtaehdmelnmajnaaSe1
namespace Go.V.P
open Go Go.V Go.IntWalk
set_option linter.unusedVariables false
set_option linter.unusedSimpArgs false
set_option maxRecDepth 20000
theorem SemaFull_true (x many : Int) (_ : Ts.ok (.one (.int .i64)) x) (_ : Ts.ok (.one (.int .u8)) many) : law10_SemaFull x many = some true := by
  have hk := nd_lt x
  obtain ⟨k, hkk⟩ : ∃ k, nd x = k := ⟨_, rfl⟩
  have h5 : law10_SemaFull_r5_p x = (k : Int) := by
    simp only [law10_SemaFull_r5_p, law10_SemaFull_r5_q, and7, hkk]
  rw [hkk] at hk
  obtain ⟨n, h6, hn⟩ : ∃ n : Nat, law10_SemaFull_r6_p many = (n : Int) ∧ n < 32 := by
    refine ⟨(BitVec.ofInt (IntKind.bits .u8) many &&& BitVec.ofInt (IntKind.bits .u8) (31 : Int)).toNat, ?_, ?_⟩
    · have hlt : (BitVec.ofInt (IntKind.bits .u8) many &&& BitVec.ofInt (IntKind.bits .u8) (31 : Int)).toNat < 32 := by
        rw [BitVec.toNat_and]
        have h : (BitVec.ofInt (IntKind.bits .u8) (31 : Int)).toNat = 31 := by decide
        rw [h]
        exact Nat.lt_of_le_of_lt Nat.and_le_right (by omega)
      simp only [law10_SemaFull_r6_p, law10_SemaFull_r6_q]
      generalize (BitVec.ofInt (IntKind.bits .u8) many &&& BitVec.ofInt (IntKind.bits .u8) (31 : Int)).toNat = m at *
      rw [u8_in (m : Int) (by omega), i64_in (m : Int) (by omega)]
    · rw [BitVec.toNat_and]
      have h : (BitVec.ofInt (IntKind.bits .u8) (31 : Int)).toNat = 31 := by decide
      rw [h]
      exact Nat.lt_of_le_of_lt Nat.and_le_right (by omega)
  unfold law10_SemaFull
  rw [shown10, new_is]
  simp only [Option.bind_some]
  have h3 : law10_SemaFull_r3_p true = false := rfl
  rw [h3]
  simp only [cond_false]
  obtain ⟨z, hz, c1, hz1, hl1, hc1⟩ := iterN_inv (p := law10_SemaFull_l8_p x many) (fun s : Int × List Int => ∃ i : Nat, s.1 = (i : Int) ∧ i ≤ n ∧ s.2.length = 8 ∧ s.2.getD k 0 = min (i : Int) 15) (fun s => n - s.1.toNat)
    (Q := fun z => ∃ c, z = .inl ((n : Int), c) ∧ c.length = 8 ∧ c.getD k 0 = min (n : Int) 15) (fun s hs => by
    obtain ⟨t, c⟩ := s
    obtain ⟨i, hi0, hi, hl, hc⟩ := hs
    simp only at hi0 hl hc
    subst hi0
    simp only [law10_SemaFull_l8_p, h5, h6, signal_at c hk, Option.bind_some]
    by_cases hlt : i < n
    · have he := sig_err (cs := c) (k := k)
      have hg := sig_get (cs := c) (k := k) (j := k) (by omega)
      rw [if_pos rfl] at hg
      rw [decide_eq_true (by omega : (i : Int) < (n : Int)), i64_in ((i : Int) + 1) (by omega)]
      simp only [cond_true]
      by_cases h15 : c.getD k 0 = 15
      · rw [if_pos h15] at he hg
        rw [he, decide_eq_false (by omega)]
        exact .inl ⟨_, rfl, ⟨i + 1, by simp only; omega, by omega, by simp only; rw [sig_len]; exact hl, by simp only; rw [hg]; omega⟩, by simp only; omega⟩
      · rw [if_neg h15] at he hg
        rw [he, decide_eq_true (by omega)]
        exact .inl ⟨_, rfl, ⟨i + 1, by simp only; omega, by omega, by simp only; rw [sig_len]; exact hl, by simp only; rw [hg]; omega⟩, by simp only; omega⟩
    · rw [decide_eq_false (by omega)]
      have : i = n := by omega
      subst this
      exact .inr ⟨_, rfl, c, rfl, hl, hc⟩) LL (0, zs) ⟨0, rfl, by omega, rfl, by simp only; rw [zs_get]; rfl⟩ (LL_lt (by simp only; omega))
  subst hz1
  rw [hz]
  simp only [Option.bind_some, either]
  obtain ⟨z, hz, c2, hz2, hl2, hc2⟩ := iterN_inv (p := law10_SemaFull_l13_p x many) (fun s : Int × List Int => ∃ i : Nat, s.1 = (i : Int) ∧ i ≤ n ∧ s.2.length = 8 ∧ s.2.getD k 0 = max (min (n : Int) 15 - (i : Int)) 0) (fun s => n - s.1.toNat)
    (Q := fun z => ∃ c, z = .inl ((n : Int), c) ∧ c.length = 8 ∧ c.getD k 0 = 0) (fun s hs => by
    obtain ⟨t, c⟩ := s
    obtain ⟨i, hi0, hi, hl, hc⟩ := hs
    simp only at hi0 hl hc
    subst hi0
    simp only [law10_SemaFull_l13_p, h5, h6, wait_at c hk, Option.bind_some]
    by_cases hlt : i < n
    · have he := wai_err (cs := c) (k := k)
      have hg := wai_get (cs := c) (k := k) (j := k) (by omega)
      rw [if_pos rfl] at hg
      rw [decide_eq_true (by omega : (i : Int) < (n : Int)), i64_in ((i : Int) + 1) (by omega)]
      simp only [cond_true]
      by_cases h15 : c.getD k 0 = 0
      · rw [if_pos h15] at he hg
        rw [he, decide_eq_false (by omega)]
        exact .inl ⟨_, rfl, ⟨i + 1, by simp only; omega, by omega, by simp only; rw [wai_len]; exact hl, by simp only; rw [hg]; omega⟩, by simp only; omega⟩
      · rw [if_neg h15] at he hg
        rw [he, decide_eq_true (by omega)]
        exact .inl ⟨_, rfl, ⟨i + 1, by simp only; omega, by omega, by simp only; rw [wai_len]; exact hl, by simp only; rw [hg]; omega⟩, by simp only; omega⟩
    · rw [decide_eq_false (by omega)]
      have : i = n := by omega
      subst this
      exact .inr ⟨_, rfl, c, rfl, hl, by omega⟩) LL (0, c1) ⟨0, rfl, by omega, hl1, by simp only; rw [hc1]; omega⟩ (LL_lt (by simp only; omega))
  subst hz2
  rw [hz]
  simp only [Option.bind_some, either, law10_SemaFull_r17_p, h5, count_at c2 hk, wait_at c2 hk, hc2, wai_err]
  rfl
end Go.V.P
