/- Plain laws of layer 6: EvalAhead. -/
import Derived.Test.YtdgdgoekapekpaaLEvE
import Derived.Test.YtdgdgoekapekpaaEv9
namespace Go.V.P
open Go Go.V Go.IntWalk
set_option linter.unusedVariables false
set_option linter.unusedSimpArgs false
set_option maxRecDepth 20000
theorem same06 (a : List (List Int)) (ha : a.length < 1000000) (h : ∀ r ∈ a, r.length < 1000000) : b6q a a = some true := by
  have := iterN_for (p := a7o a a) (z := .inl (a.length : Int)) a.length (fun i => (i : Int)) LL (LL_lt ha) (fun i hi => by
    obtain ⟨t1, t2, t3⟩ := step_t hi ha
    have hg := gt_at ([] : List Int) hi
    have hs := same_refl _ (h _ (List.getElem_mem hi))
    simp only [a7o, b3p, t1, t2, t3, hg, hs, cond_true, Option.bind_some, Bool.not_true, cond_false]
    rfl) (by
    simp only [a7o]
    rw [decide_eq_false (Int.lt_irrefl _)]
    rfl)
  rw [show ((0 : Nat) : Int) = 0 from rfl] at this
  unfold b6q
  rw [show ((a.length : Int) != (a.length : Int)) = false by simp, this]
  rfl
/-- all values have as many numbers as their shapes, and what goes in is told as it was -/
theorem ahead_loop (v : List I4) (d a : List (List Int)) (hR : Rows v a) (hv : v.length < 1000000) (c : List (List Int)) (hc : a = d ++ c) :
    iterN (a2v (v, 0) d (a, 0)) LL 0 = some (.inl (a.length : Int)) := by
  have hal := hR.len
  refine iterN_for (p := a2v (v, 0) d (a, 0)) (z := .inl (a.length : Int)) a.length (fun i => (i : Int)) LL (LL_lt (by omega)) (fun i hi => ?_) ?_
  · obtain ⟨t1, t2, t3⟩ := step_t hi (by omega)
    have u1 : decide ((i : Int) < (v.length : Int)) = true := decide_eq_true (by omega)
    have hf := hR.at (x := (i : Int)) (by omega) (by omega)
    have es : a1r ((gt v (i : Int) dI4).1, (gt v (i : Int) dI4).2.1, (gt v (i : Int) dI4).2.2.1) = ((gt a (i : Int) []).length : Int) := (ref02_Size_eq _).trans hf.len.symm
    have hq13 : a6i (v, 0) (a, 0) (i : Int) = some false := by
      simp only [a6i, t1, t2, u1, es, cond_true, bne_self_eq_false]
    have ej : a6h (v, 0) d (a, 0) (i : Int) = some (.inl ()) := by
      unfold a6h
      rw [hq13]
      simp only [Option.bind_some, cond_false]
      by_cases hd : i < d.length
      · have e16 : a6j d (a, 0) (i : Int) = some true := by
          have : gt d (i : Int) [] = gt a (i : Int) [] := by rw [hc, gt_left [] (by omega) (by omega)]
          simp only [a6j, t1, t2, this, cond_true]
          rw [decide_eq_true (by omega), same_refl _ hf.small]
          rfl
        rw [decide_eq_true (by omega), e16]
        rfl
      · rw [decide_eq_false (by omega)]
        rfl
    unfold a2v
    simp only [t1, ej, t3, cond_true, Option.bind_some, either]
    rfl
  · simp only [a2v]
    rw [decide_eq_false (Int.lt_irrefl _)]
    rfl
theorem EvalAhead_true (g : Graph) (l : List Int) (kg : Ts.ok a01 g) (kl : Ts.ok (.one (.sl (.one (.int .i8)))) l) : a79 g l = some true := by
  obtain ⟨m, em, hm, hB⟩ := less06 g kg
  have hb := (i8s_ok kl).1
  unfold a79
  rw [shown06, em]
  simp only [Option.bind_some]
  rcases Values03 m hm with ⟨v, v1, v2⟩ | ⟨v1, e, he, v2⟩
  · rw [v2]
    simp only [Option.bind_some, bne_self_eq_false, cond_false]
    obtain ⟨I, N, O⟩ := m
    have h14 := hm.2.1.1
    have h6 := hm.1
    simp only at h14 h6
    obtain ⟨hf, ⟨x, hrun, hx⟩, _⟩ := Values_ok v1
    have hfi := fit_in hf
    obtain ⟨d, d1, d2⟩ := Filled_run (I, N, O) l hb hm.1 hfi.2
    obtain ⟨a1, a2⟩ := All_eval _ hm hB v v1 d d2
    have hvl := (run_len _ _ _ _ _ hrun).1
    simp only at hvl hrun a1 a2 d2
    obtain ⟨c, c1, c2⟩ := runD_pre N I d
    rw [d1]
    simp only [Option.bind_some]
    rw [a1]
    have hal := a2.len
    have h8 : a1p (v, 0) (runD I d N, 0) = false := by
      simp only [a1p, a7a, hal, bne_self_eq_false, cond_false]
    have hl := ahead_loop v d (runD I d N) a2 (by omega) c c1
    simp only [Option.bind_some, h8, cond_false, hl, either]
    by_cases hN : N.length = 0
    · rw [show ((N.length : Int) == 0) = true by simp [hN]]
      rfl
    · rw [show ((N.length : Int) == 0) = false by simpa using hN]
      obtain ⟨ns, n, rfl⟩ := snoc_of N hN
      have hl1 : (ns ++ [n]).length = ns.length + 1 := by simp
      have w1 : IntKind.wrap .i64 (((ns ++ [n]).length : Int) - 1) = (ns.length : Int) := by
        rw [i64_in _ (by omega)]; omega
      have h22 : a6k (I, ns ++ [n], O) = some ns := by
        simp only [a6k, w1]
        rw [decide_eq_true (by omega), decide_eq_true (by omega)]
        simp
      obtain ⟨q, y, r1, r2, r3, r4⟩ := run_snoc ns n I 0 v x hrun
      have hy : y ≤ x := by
        obtain ⟨u, y2, s1, s2, s3⟩ := run_drop ns n I 0 v x hrun
        rw [r1] at s1
        cases s1
        exact s2
      have hq := (run_len _ _ _ _ _ r1).1
      have hfit := hfi.1
      simp only at hfit
      have hs : okGraph (I, ns, [0]) := ⟨hm.1, ⟨by simp only; omega, fun k hk => hm.2.1.2 k (by simp [hk])⟩, by simp⟩
      have hB2 : ∀ k ∈ ns, okB k := fun k hk => hB k (by simp [hk])
      have hfb : fitB (I, ns, [0]) = true := by
        have hany : I.any badIn = false := by
          unfold fitB at hf
          simp only [Bool.and_eq_true, Bool.not_eq_true'] at hf
          exact hf.2
        unfold fitB
        simp only [hany, Bool.not_false, Bool.and_true, Bool.and_eq_true, decide_eq_true_iff, List.length_singleton]
        omega
      have hvs : valuesV (I, ns, [0]) = some q := by
        unfold valuesV
        rw [if_pos hfb]
        simp only [r1]
        rw [if_pos]
        refine ⟨by omega, ?_⟩
        simp only [List.all_cons, List.all_nil, Bool.and_true, inR, Bool.and_eq_true, decide_eq_true_iff]
        omega
      obtain ⟨b1, b2⟩ := All_eval _ hs hB2 q hvs d d2
      simp only at b1 b2
      have hbl := b2.len
      have k1 := runD_snoc ns n I d 0 q y r1
      simp only [cond_false, h22, Option.bind_some, b1]
      have h25 : a6l true (runD I d (ns ++ [n]), 0) (runD I d ns, 0) = some true := by
        have w2 : IntKind.wrap .i64 (((runD I d (ns ++ [n])).length : Int) - 1) = ((runD I d ns).length : Int) := by
          rw [i64_in _ (by omega), k1]
          simp only [List.length_append, List.length_singleton]
          omega
        have ht : ((runD I d (ns ++ [n])).take (Int.toNat ((runD I d ns).length : Int))).drop (Int.toNat (0 : Int)) = runD I d ns := by
          rw [k1]
          simp
        simp only [a6l, w2, ht, cond_true, beq_self_eq_true]
        rw [decide_eq_true (by omega), decide_eq_true (by rw [k1]; simp only [List.length_append, List.length_singleton]; omega), same06 _ (by omega) b2.small]
        rfl
      rw [h25]
      rfl
  · rw [v2]
    simp only [Option.bind_some]
    rw [show (e != 0) = true by simpa using he]
    rfl
end Go.V.P
