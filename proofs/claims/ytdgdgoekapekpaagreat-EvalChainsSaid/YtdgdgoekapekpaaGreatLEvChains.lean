/- Plain laws of layer 6: EvalChains. -/
import Derived.Test.YtdgdgoekapekpaaGreatLEvH
import Derived.Test.YtdgdgoekapekpaaGreatLRefA
import Derived.Test.YtdgdgoekapekpaaGreatEc3
namespace Go.V.P
open Go Go.V Go.IntWalk
set_option linter.unusedVariables false
set_option linter.unusedSimpArgs false
set_option maxRecDepth 20000
/-- what is known, in the end, of a node that was made as the i-th value -/
structure Made (v : List I4) (A : List (List Int)) (n : Node) (i : Int) : Prop where
  val : ∃ z, ref03_Value n (pick v n) = some (z, 0)
  full : FullL (pick v n) (dat A n)
  at_ : gt A i [] = kA n (pick v n) (dat A n)
  kall : kern_All n (pick v n) (dat A n) = some (kA n (pick v n) (dat A n), 0)
  lt : i < A.length
  ins : (∃ x, n.2.1 = [x] ∧ 0 ≤ x ∧ x < v.length) ∨ ∃ x z, n.2.1 = [x, z] ∧ (0 ≤ x ∧ x < v.length) ∧ 0 ≤ z ∧ z < v.length
theorem runD_made : ∀ (ns : List Node) (p : List I4) (w : Int) (a : List (List Int)) (v : List I4) (x : Int), (∀ n ∈ ns, okNode n ∧ okB n) → Rows p a → run p w ns = .inl (v, x) →
    ∀ (j : Nat) (hj : j < ns.length), Made v (runD p a ns) (ns[j]) ((p.length : Int) + (j : Int))
  | [], p, w, a, v, x, _, _, _, j, hj => by simp at hj
  | n :: ns, p, w, a, v, x, hok, hr, h, j, hj => by
    obtain ⟨hn, hb⟩ := hok n (by simp)
    have hlv := run_len _ _ _ _ _ h
    simp only [run] at h
    split at h
    · split at h
      · rename_i ha he
        obtain ⟨k1, k2, k3⟩ := node_in n hn hb p a hr ha he
        have hok' : ∀ m ∈ ns, okNode m ∧ okB m := fun m hm => hok m (by simp [hm])
        cases j with
        | succ j =>
          have := runD_made ns (p ++ [(gV n (pick p n)).1]) _ (a ++ [kA n (pick p n) (dat a n)]) v x hok' (hr.app k2) h j (by simpa using hj)
          rw [show ((p ++ [(gV n (pick p n)).1]).length : Int) + (j : Int) = (p.length : Int) + ((j + 1 : Nat) : Int) by simp only [List.length_append, List.length_singleton]; omega] at this
          exact this
        | zero =>
          obtain ⟨made, hm, _⟩ := run_made _ _ _ _ _ (fun m hm => (hok' m hm).1) h
          obtain ⟨c, hc, _⟩ := runD_pre ns (p ++ [(gV n (pick p n)).1]) (a ++ [kA n (pick p n) (dat a n)])
          have hal := hr.len
          have hA : runD p a (n :: ns) = a ++ (kA n (pick p n) (dat a n) :: c) := by
            show runD (p ++ [(gV n (pick p n)).1]) (a ++ [kA n (pick p n) (dat a n)]) ns = _
            rw [hc, List.append_assoc]
            rfl
          have hv : v = p ++ ((gV n (pick p n)).1 :: made) := by rw [hm, List.append_assoc]; rfl
          have ep : pick v n = pick p n := by rw [hv]; exact pick_left ha
          have ed : dat (runD p a (n :: ns)) n = dat a n := by rw [hA]; exact dat_left (by rw [hal]; exact ha)
          have hln : (pick p n).length < 1000000 := by simpa [pick] using hn.1
          have hval : ref03_Value n (pick p n) = some ((gV n (pick p n)).1, 0) := by
            obtain ⟨z, e1, e2⟩ := Value_eq n (pick p n) hln hn.2.2
            rw [e2, ← e1, (gV_eq n _ hln hn.2.2).1, ← he]
            rfl
          show Made v (runD p a (n :: ns)) n ((p.length : Int) + ((0 : Nat) : Int))
          refine ⟨⟨_, by rw [ep]; exact hval⟩, ?_, ?_, ?_, ?_, ?_⟩
          · rw [ep, ed]
            rcases k3 with ⟨u, e, q1, q2⟩ | ⟨u, t, e, ⟨q1, q2⟩, q3, q4⟩
            · unfold pick dat
              rw [e]
              exact hr.at q1 q2
            · unfold pick dat
              rw [e]
              exact ⟨hr.at q1 q2, hr.at q3 q4⟩
          · rw [ep, ed, hA, show (p.length : Int) + ((0 : Nat) : Int) = (a.length : Int) by omega, gt_at [] (by simp)]
            simp
          · rw [ep, ed]
            exact k1
          · rw [hA]
            simp only [List.length_append, List.length_cons]
            omega
          · simp only [List.length_cons] at hlv
            rcases k3 with ⟨u, e, q1, q2⟩ | ⟨u, t, e, ⟨q1, q2⟩, q3, q4⟩
            · exact .inl ⟨u, e, q1, by omega⟩
            · exact .inr ⟨u, t, e, ⟨q1, by omega⟩, q3, by omega⟩
      · cases h
    · cases h
theorem cin_run (g : Graph) (y : List I4 × Int) (s : List (List Int) × Int) (i : Int) (n : Node) (hn : gt g.2.1 i dNode = n) (hs : s.1.length = y.1.length)
    (h : (∃ x, n.2.1 = [x] ∧ 0 ≤ x ∧ x < y.1.length) ∨ ∃ x z, n.2.1 = [x, z] ∧ (0 ≤ x ∧ x < y.1.length) ∧ 0 ≤ z ∧ z < y.1.length) :
    ∃ t : Int, iterN (law06_EvalChains_l16_p g y s i) LL ([], 0, [], []) = some (pick y.1 n, t, dat s.1 n) := by
  rcases h with ⟨x, hI, h0, h1⟩ | ⟨x, z, hI, ⟨h0, h1⟩, k0, k1⟩
  · have e18 : law06_EvalChains_r18_p g y i ([], 0, [], []) = some [gt y.1 x dI4] := by
      simp only [law06_EvalChains_r18_p, hn, hI]
      rw [show gt [x] (0 : Int) 0 = x from rfl, decide_eq_true h0, decide_eq_true h1]
      rfl
    have e19 : law06_EvalChains_r19_p g s i ([], 0, [], []) = some (gt s.1 x [], []) := by
      simp only [law06_EvalChains_r19_p, hn, hI]
      rw [show gt [x] (0 : Int) 0 = x from rfl, decide_eq_true h0, decide_eq_true (show x < (s.1.length : Int) by omega)]
      rfl
    refine ⟨1, ?_⟩
    unfold pick dat
    rw [hI]
    refine iterN_for (p := law06_EvalChains_l16_p g y s i) (z := ([gt y.1 x dI4], 1, gt s.1 x [], [])) 1 (fun i => match i with | 0 => ([], (0 : Int), [], []) | _ => ([gt y.1 x dI4], (1 : Int), gt s.1 x [], [])) LL (LL_lt (by omega)) (fun i hi => ?_) ?_
    · have : i = 0 := by omega
      subst this
      simp only [law06_EvalChains_l16_p, hn, hI, e18, e19]
      rfl
    · simp only [law06_EvalChains_l16_p, hn, hI]
      rfl
  · have e18 : law06_EvalChains_r18_p g y i ([], 0, [], []) = some [gt y.1 x dI4] := by
      simp only [law06_EvalChains_r18_p, hn, hI]
      rw [show gt [x, z] (0 : Int) 0 = x from rfl, decide_eq_true h0, decide_eq_true h1]
      rfl
    have e19 : law06_EvalChains_r19_p g s i ([], 0, [], []) = some (gt s.1 x [], []) := by
      simp only [law06_EvalChains_r19_p, hn, hI]
      rw [show gt [x, z] (0 : Int) 0 = x from rfl, decide_eq_true h0, decide_eq_true (show x < (s.1.length : Int) by omega)]
      rfl
    have e28 : law06_EvalChains_r18_p g y i ([gt y.1 x dI4], 1, gt s.1 x [], []) = some [gt y.1 x dI4, gt y.1 z dI4] := by
      simp only [law06_EvalChains_r18_p, hn, hI]
      rw [show gt [x, z] (1 : Int) 0 = z from rfl, decide_eq_true k0, decide_eq_true k1]
      rfl
    have e29 : law06_EvalChains_r19_p g s i ([gt y.1 x dI4], 1, gt s.1 x [], []) = some (gt s.1 x [], gt s.1 z []) := by
      simp only [law06_EvalChains_r19_p, hn, hI]
      rw [show gt [x, z] (1 : Int) 0 = z from rfl, decide_eq_true k0, decide_eq_true (show z < (s.1.length : Int) by omega)]
      rfl
    refine ⟨2, ?_⟩
    unfold pick dat
    rw [hI]
    refine iterN_for (p := law06_EvalChains_l16_p g y s i) (z := ([gt y.1 x dI4, gt y.1 z dI4], 2, gt s.1 x [], gt s.1 z [])) 2 (fun i => match i with | 0 => ([], (0 : Int), [], []) | 1 => ([gt y.1 x dI4], (1 : Int), gt s.1 x [], []) | _ => ([gt y.1 x dI4, gt y.1 z dI4], (2 : Int), gt s.1 x [], gt s.1 z [])) LL (LL_lt (by omega)) (fun i hi => ?_) ?_
    · have : i = 0 ∨ i = 1 := by omega
      rcases this with rfl | rfl
      · simp only [law06_EvalChains_l16_p, hn, hI, e18, e19]
        rfl
      · simp only [law06_EvalChains_l16_p, hn, hI, e28, e29]
        rfl
    · simp only [law06_EvalChains_l16_p, hn, hI]
      rfl
theorem EvalChains_true (g : Graph) (l : List Int) (kg : Ts.ok tsGraph g) (kl : Ts.ok (.one (.sl (.one (.int .i8)))) l) : law06_EvalChains g l = some true := by
  obtain ⟨m, em, hm, hB⟩ := less06 g kg
  have hb := (i8s_ok kl).1
  unfold law06_EvalChains
  rw [shown06, em]
  simp only [Option.bind_some]
  rcases Values03 m hm with ⟨v, v1, v2⟩ | ⟨v1, e, he, v2⟩
  · rw [v2]
    simp only [Option.bind_some, bne_self_eq_false, cond_false]
    obtain ⟨hf, ⟨x, hrun, _⟩, _⟩ := Values_ok v1
    obtain ⟨d, d1, d2⟩ := Filled_run m l hb hm.1 (fit_in hf).2
    obtain ⟨a1, a2⟩ := All_eval m hm hB v v1 d d2
    have h6 : law06_EvalChains_r6_p l m = some (runD m.1 d m.2.1, 0) := by
      unfold law06_EvalChains_r6_p
      rw [d1]
      simp only [Option.bind_some, a1]
    rw [h6]
    have h7 : law06_EvalChains_r7_p (v, 0) (runD m.1 d m.2.1, 0) = false := by
      show (bif ((0 : Int) != 0) then true else (((runD m.1 d m.2.1).length : Int) != (v.length : Int))) = false
      rw [a2.len]
      simp
    simp only [Option.bind_some, h7, cond_false]
    have hk := runD_made m.2.1 m.1 0 d v x (fun n hn => ⟨hm.2.1.2 n hn, hB n hn⟩) d2 hrun
    have h14 := hm.2.1.1
    have h6' := hm.1
    have hl := iterN_for (p := law06_EvalChains_l10_p m (v, 0) (runD m.1 d m.2.1, 0)) (z := .inl (m.2.1.length : Int)) m.2.1.length (fun i => (i : Int)) LL (LL_lt (by omega)) (fun i hi => by
      obtain ⟨t1, t2, t3⟩ := step_t hi (by omega)
      have hgt := gt_at dNode hi
      have hn := hm.2.1.2 _ (List.getElem_mem hi)
      have hb := hB _ (List.getElem_mem hi)
      have M := hk i hi
      obtain ⟨t, ht⟩ := cin_run m (v, 0) (runD m.1 d m.2.1, 0) (i : Int) _ hgt a2.len M.ins
      obtain ⟨z, hz⟩ := M.val
      have hln : (pick v (m.2.1[i])).length < 1000000 := by simpa [pick] using hn.1
      have hA := RAll_eq hn.2.2 hln hz (dat (runD m.1 d m.2.1) m.2.1[i]) M.full hb.1 hb.2
      have hkn : (kA m.2.1[i] (pick v m.2.1[i]) (dat (runD m.1 d m.2.1) m.2.1[i])).length < 1000000 := by
        rw [← M.at_]
        refine a2.small _ ?_
        have := M.lt
        rw [gt_of [] (by omega) this]
        exact List.getElem_mem _
      have w1 := i64_in ((m.1.length : Int) + (i : Int)) (by omega)
      have h21 : law06_EvalChains_r21_p m (runD m.1 d m.2.1, 0) (i : Int) (kA m.2.1[i] (pick v m.2.1[i]) (dat (runD m.1 d m.2.1) m.2.1[i]), 0) = some true := by
        unfold law06_EvalChains_r21_p
        rw [w1, decide_eq_true (by omega), decide_eq_true M.lt]
        simp only [cond_true, M.at_, same_refl _ hkn, Option.bind_some]
      simp only [law06_EvalChains_l10_p, law06_EvalChains_r12_p, t1, t2, cond_true, Option.bind_some, ht, hgt, hA, M.kall, h21, t3]
      rfl) (by
      simp only [law06_EvalChains_l10_p]
      rw [decide_eq_false (Int.lt_irrefl _)]
      rfl)
    rw [show ((0 : Nat) : Int) = 0 from rfl] at hl
    rw [hl]
    rfl
  · rw [v2]
    simp only [Option.bind_some]
    rw [show (e != 0) = true by simpa using he]
    rfl
end Go.V.P
