/- Plain laws of layer 10: SemaApart. -/
import Derived.Test.YtaehdmelnmajnaaLSem
import Derived.Test.YtaehdmelnmajnaaSe4
namespace Go.V.P
open Go Go.V Go.IntWalk
set_option linter.unusedVariables false
set_option linter.unusedSimpArgs false
set_option maxRecDepth 20000
def stepA (cs : List Int) (o : Op) : List Int := if o.2 = true then (sig cs (nd o.1)).2 else (wai cs (nd o.1)).2
def runA (l : List Op) : Nat → List Int
  | 0 => zs
  | i + 1 => stepA (runA l i) (gt l (i : Int) dOp)
theorem runA_len (l : List Op) : ∀ i, (runA l i).length = 8
  | 0 => rfl
  | i + 1 => by
    simp only [runA, stepA]
    split
    · rw [sig_len]; exact runA_len l i
    · rw [wai_len]; exact runA_len l i
theorem SemaApart_true (l : List Op) (_ : Ts.ok (.one (.sl tsOp)) l) : law10_SemaApart l = some true := by
  obtain ⟨N, hN⟩ : ∃ N, min l.length 200 = N := ⟨_, rfl⟩
  unfold law10_SemaApart
  rw [shown10, new_is]
  simp only [Option.bind_some]
  have h3 : law10_SemaApart_r3_p true = false := rfl
  rw [h3]
  simp only [cond_false]
  have all : iterN (law10_SemaApart_l6_p l) LL (0, zs) = some ((N : Int), runA l N) :=
    iterN_for (p := law10_SemaApart_l6_p l) (z := ((N : Int), runA l N)) N (fun i => ((i : Int), runA l i)) LL (LL_lt (by omega)) (fun i hi => by
      have h6 : law10_SemaApart_r6_p l ((i : Int), runA l i) = true := by
        simp only [law10_SemaApart_r6_p, law10_SemaApart_r6_q]
        rw [decide_eq_true (by omega : (i : Int) < (l.length : Int)), decide_eq_true (by omega : (i : Int) < 200)]
        rfl
      simp only [law10_SemaApart_l6_p, h6, cond_true, law10_SemaApart_j8_p, law10_SemaApart_r8_p, law10_SemaApart_r9_p, law10_SemaApart_r10_p, and7, signal_at _ (nd_lt _), wait_at _ (nd_lt _)]
      rw [decide_eq_true (by omega : (0 : Int) ≤ (i : Int)), decide_eq_true (by omega : (i : Int) < (l.length : Int)), i64_in ((i : Int) + 1) (by omega)]
      simp only [cond_true, Option.bind_some, runA, stepA]
      cases (gt l (i : Int) dOp).2 <;> rfl) (by
      have h6 : law10_SemaApart_r6_p l ((N : Int), runA l N) = false := by
        simp only [law10_SemaApart_r6_p, law10_SemaApart_r6_q]
        by_cases h : (N : Int) < (l.length : Int)
        · rw [decide_eq_true h, decide_eq_false (by omega)]; rfl
        · rw [decide_eq_false h]; rfl
      simp only [law10_SemaApart_l6_p, h6]
      rfl)
  rw [all]
  simp only [Option.bind_some]
  have own : ∀ k : Nat, k < 8 → ∃ c, iterN (law10_SemaApart_l18_p l (k : Int)) LL (0, zs) = some ((N : Int), c) ∧ c.getD 0 0 = (runA l N).getD k 0 := fun k hk => by
    obtain ⟨z, hz, c, hz1, hc⟩ := iterN_inv (p := law10_SemaApart_l18_p l (k : Int)) (fun s : Int × List Int => ∃ i : Nat, s.1 = (i : Int) ∧ i ≤ N ∧ s.2.length = 8 ∧ s.2.getD 0 0 = (runA l i).getD k 0) (fun s => N - s.1.toNat)
      (Q := fun z => ∃ c, z = ((N : Int), c) ∧ c.getD 0 0 = (runA l N).getD k 0) (fun s hs => by
      obtain ⟨t, c⟩ := s
      obtain ⟨i, hi0, hi, hl, hc⟩ := hs
      simp only at hi0 hl hc
      subst hi0
      by_cases hlt : i < N
      · have h6 : law10_SemaApart_r18_p l ((i : Int), c) = true := by
          simp only [law10_SemaApart_r18_p, law10_SemaApart_r18_q]
          rw [decide_eq_true (by omega : (i : Int) < (l.length : Int)), decide_eq_true (by omega : (i : Int) < 200)]
          rfl
        obtain ⟨o, ho⟩ : ∃ o, gt l (i : Int) dOp = o := ⟨_, rfl⟩
        have hnd := nd_lt o.1
        have hrl := runA_len l i
        have hstep : runA l (i + 1) = stepA (runA l i) o := by simp only [runA, ho]
        have z0 : semSignal c 0 = some (sig c 0) := signal_at c (k := 0) (by omega)
        have w0 : ∀ c : List Int, semWait c 0 = some (wai c 0) := fun c => wait_at c (k := 0) (by omega)
        have hj : ∃ d, law10_SemaApart_j20x1_p l (k : Int) ((i : Int), c) = some d ∧ d.length = 8 ∧ d.getD 0 0 = (runA l (i + 1)).getD k 0 := by
          simp only [law10_SemaApart_j20x1_p, law10_SemaApart_j20_p, law10_SemaApart_r20_p, law10_SemaApart_r22_p, ho, and7]
          rw [decide_eq_true (by omega : (0 : Int) ≤ (i : Int)), decide_eq_true (by omega : (i : Int) < (l.length : Int)), hstep]
          simp only [cond_true]
          unfold stepA
          by_cases hnk : nd o.1 = k
          · rw [show ((nd o.1 : Int) == (k : Int)) = true by rw [hnk]; simp]
            simp only [cond_true, Option.bind_some]
            cases ho2 : o.2 with
            | true =>
              simp only [cond_true, Option.bind_some, z0, Bool.not_true, cond_false, if_true]
              refine ⟨_, rfl, by rw [sig_len]; exact hl, ?_⟩
              rw [sig_get (by omega), sig_get (by omega), if_pos rfl, if_pos hnk.symm, hnk, hc]
            | false =>
              simp only [cond_false, Option.bind_some, w0, Bool.not_false, cond_true, Bool.false_eq_true, if_false]
              refine ⟨_, rfl, by rw [wai_len]; exact hl, ?_⟩
              rw [wai_get (by omega), wai_get (by omega), if_pos rfl, if_pos hnk.symm, hnk, hc]
          · rw [show ((nd o.1 : Int) == (k : Int)) = false by simp; omega]
            simp only [cond_false, Option.bind_some]
            refine ⟨c, rfl, hl, ?_⟩
            split
            · rw [sig_get (by omega), if_neg (fun q => hnk q.symm), hc]
            · rw [wai_get (by omega), if_neg (fun q => hnk q.symm), hc]
        obtain ⟨d, hd, hdl, hdc⟩ := hj
        simp only [law10_SemaApart_l18_p, h6, cond_true, hd, Option.bind_some]
        rw [i64_in ((i : Int) + 1) (by omega)]
        exact .inl ⟨_, rfl, ⟨i + 1, by simp only; omega, by omega, hdl, hdc⟩, by simp only; omega⟩
      · have : i = N := by omega
        subst this
        have h6 : law10_SemaApart_r18_p l ((i : Int), c) = false := by
          simp only [law10_SemaApart_r18_p, law10_SemaApart_r18_q]
          by_cases h : (i : Int) < (l.length : Int)
          · rw [decide_eq_true h, decide_eq_false (by omega)]; rfl
          · rw [decide_eq_false h]; rfl
        simp only [law10_SemaApart_l18_p, h6]
        exact .inr ⟨_, rfl, c, rfl, hc⟩) LL (0, zs) ⟨0, rfl, by omega, rfl, by simp only [runA]; rw [zs_get, zs_get]⟩ (LL_lt (by simp only; omega))
    subst hz1
    exact ⟨c, hz, hc⟩
  have last : iterN (law10_SemaApart_l12_p l ((N : Int), runA l N)) LL 0 = some (.inl (((8 : Nat) : Int))) :=
    iterN_for (p := law10_SemaApart_l12_p l ((N : Int), runA l N)) (z := .inl (((8 : Nat) : Int))) 8 (fun k => (k : Int)) LL (LL_lt (by omega)) (fun k hk => by
      obtain ⟨c, h1, h2⟩ := own k hk
      have c0 : semCount c 0 = some (c.getD 0 0) := count_at c (k := 0) (by omega)
      simp only [law10_SemaApart_l12_p, new_is, Option.bind_some, h1, law10_SemaApart_r24_p, c0, count_at _ hk, h2, bne_self_eq_false]
      rw [decide_eq_true (by omega : (k : Int) < 8), i64_in ((k : Int) + 1) (by omega)]
      rfl) (by
      simp only [law10_SemaApart_l12_p]
      rw [decide_eq_false (by omega)]
      rfl)
  rw [last]
  rfl
end Go.V.P
