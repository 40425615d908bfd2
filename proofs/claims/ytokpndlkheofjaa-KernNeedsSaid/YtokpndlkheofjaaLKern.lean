/- Plain laws of layer 5: KernNeeds, KernMore. -/
import Derived.Test.YtokpndlkheofjaaLNd2
import Derived.Test.YtokpndlkheofjaaKe9
import Derived.Test.YtokpndlkheofjaaKe9
namespace Go.V.P
open Go Go.V Go.IntWalk
set_option linter.unusedVariables false
set_option linter.unusedSimpArgs false
set_option maxRecDepth 20000
theorem few05_ok (n : Node) : ∃ m, law05_few n = some m ∧ okNode m := by
  obtain ⟨a, e1, h1⟩ := cut_ok n.2.1 20 (by omega)
  obtain ⟨b, e2, h2⟩ := cut_ok (nW n) 5000 (by omega)
  obtain ⟨c, e3, h3⟩ := cut_ok (nB n) 20 (by omega)
  have f1 : law05_few_j1_p n = some a := by
    rw [← e1]
    simp only [law05_few_j1_p, law05_few_r2_p]
    show (bif decide ((n.2.1.length : Int) > (20 : Nat)) then _ else _) = _
    cases decide ((n.2.1.length : Int) > (20 : Nat)) with
    | false => rfl
    | true => show Option.bind (bif decide (((20 : Nat) : Int) ≤ (n.2.1.length : Int)) then some () else none) _ = _; cases decide (((20 : Nat) : Int) ≤ (n.2.1.length : Int)) <;> rfl
  have f2 : law05_few_j3_p n = some b := by
    rw [← e2]
    simp only [law05_few_j3_p, law05_few_r4_p, Option.bind_fun_some]
    rfl
  have f3 : law05_few_j5_p n = some c := by
    rw [← e3]
    simp only [law05_few_j5_p, law05_few_r6_p, Option.bind_fun_some]
    rfl
  unfold law05_few
  rw [f1, f2, f3]
  exact ⟨_, rfl, h1, h2, h3⟩
theorem some05_ok (l : List I4) : ∃ m, law05_some l = some m ∧ m.length < 1000000 := by
  obtain ⟨a, e1, h1⟩ := cut_ok l 3 (by omega)
  refine ⟨a, ?_, h1⟩
  rw [← e1]
  simp only [law05_some, law05_some_r2_p]
  show (bif decide ((l.length : Int) > (3 : Nat)) then _ else _) = _
  cases decide ((l.length : Int) > (3 : Nat)) with
  | false => rfl
  | true => show Option.bind (bif decide (((3 : Nat) : Int) ≤ (l.length : Int)) then some () else none) _ = _; cases decide (((3 : Nat) : Int) ≤ (l.length : Int)) <;> rfl
theorem shown05 : law05_shown = some true := by decide +kernel
theorem KernNeeds_true (n : Node) (l : List I4) (at_ : I2) (_ : Ts.ok tsNode n) (_ : Ts.ok (.one (.sl tsI4)) l) (_ : Ts.ok tsI2 at_) : law05_KernNeeds n l at_ = some true := by
  obtain ⟨m, em, hm⟩ := few05_ok n
  obtain ⟨q, ek, hk⟩ := some05_ok l
  obtain ⟨z, e1, e2⟩ := Needs_eq m q at_.1 at_.2 hk hm.2.2
  unfold law05_KernNeeds law05_KernNeeds_r2_p law05_KernNeeds_r3_p
  simp only [shown05, em, ek, e1, e2, Option.bind_some, law05_KernNeeds_r4_p, law05_KernNeeds_r4_q, beq_self_eq_true, cond_true, Bool.and_self]
theorem pad_acc (f j h : Int) (h1 : 1 ≤ h ∧ h ≤ 14) (h2 : 0 ≤ f) (h3 : f < 0 + (18 : Nat)) (h6 : h < 1 + (14 : Nat)) (h4 : 1 ≤ j) (h5 : j < 1 + (18 : Nat)) : f + j + 1 ≤ h + 2 → padV f (j + 1) h = if (padV (f + j) 1 h).1 < (padV (f + j) 1 h).2 then (if (padV f j h).1 < (padV f j h).2 then (min (padV f j h).1 (padV (f + j) 1 h).1, max (padV f j h).2 (padV (f + j) 1 h).2) else padV (f + j) 1 h) else padV f j h := by
  obtain ⟨h1, h7⟩ := h1
  clear h7
  have h9 := h6
  clear h6
  revert h; refine rng1 fun i hi => ?_
  revert j; refine rng1 fun k hk => ?_
  revert f; refine rng1 fun l hl => ?_
  revert i k l
  decide +kernel
/-- one row more -/
theorem nd_acc {n : Node} {l : List I4} {z : I4} (h : NodeOK n l z) {f j : Int} (h1 : 0 ≤ f) (h2 : 1 ≤ j) (h3 : f + j + 1 ≤ z.1) {a : I4} (ha : a ∈ l) :
    ndV n f (j + 1) a.1 = if (ndV n (f + j) 1 a.1).1 < (ndV n (f + j) 1 a.1).2 then (if (ndV n f j a.1).1 < (ndV n f j a.1).2 then (min (ndV n f j a.1).1 (ndV n (f + j) 1 a.1).1, max (ndV n f j a.1).2 (ndV n (f + j) 1 a.1).2) else ndV n (f + j) 1 a.1) else ndV n f j a.1 := by
  have i1 := nd_in h (first := f) (rows := j) (by omega) (by omega) (by omega) ha
  have i2 := nd_in h (first := f + j) (rows := 1) (by omega) (by omega) (by omega) ha
  by_cases hp : wop n.1
  · obtain ⟨g1, g2, g3⟩ := win_of h hp ha
    have hb := winB_iff.1 g1
    have q1 := place_in g1 (p := f) (by omega) (by omega) g3
    have q2 := place_in g1 (p := f + j) (by omega) (by omega) g3
    have q3 := place_in g1 (p := f + j - 1) (by omega) (by omega) g3
    unfold ndV
    simp only [if_pos hp]
    unfold loV hiV at q1 q2 q3
    have e1 : (f + (j + 1) - 1) * n.2.2.2.1 = (f + j) * n.2.2.2.1 := by congr 1; omega
    have e2 : (f + j - 1) * n.2.2.2.1 = (f + j) * n.2.2.2.1 - n.2.2.2.1 := by rw [Int.sub_mul, Int.one_mul]
    have e3 : (f + j + 1 - 1) * n.2.2.2.1 = (f + j) * n.2.2.2.1 := by congr 1; omega
    have m1 : f * n.2.2.2.1 ≤ (f + j) * n.2.2.2.1 := Int.mul_le_mul_of_nonneg_right (by omega) (by omega)
    have m2 : f * n.2.2.2.1 ≤ (f + j - 1) * n.2.2.2.1 := Int.mul_le_mul_of_nonneg_right (by omega) (by omega)
    rw [e1, e3]
    rw [e2] at *
    rw [if_pos (by omega), if_pos (by omega)]
    refine Prod.ext ?_ ?_ <;> (simp only) <;> omega
  · by_cases h9 : n.1 = 9
    · have hq := pad_of h h9 ha
      unfold ndV
      simp only [if_neg hp, if_pos h9]
      exact pad_acc f j a.1 hq.2 h1 (by omega) (by omega) h2 (by omega) (by omega)
    · by_cases h11 : n.1 = 3 ∨ n.1 = 11
      · unfold ndV; simp only [if_neg hp, if_neg h9, if_pos h11]
        rw [if_pos (by omega), if_pos (by omega)]
        refine Prod.ext ?_ ?_ <;> (simp only) <;> omega
      · unfold ndV; simp only [if_neg hp, if_neg h9, if_neg h11]
        rw [if_pos (by omega), if_pos (by omega)]
        refine Prod.ext ?_ ?_ <;> (simp only) <;> omega
/-- an empty row is nought to nought -/
theorem nd_empty {n : Node} {l : List I4} {z : I4} (h : NodeOK n l z) {f j : Int} (h1 : 0 ≤ f) (h2 : 1 ≤ j) (h3 : f + j ≤ z.1) {a : I4} (ha : a ∈ l) (he : ¬ (ndV n f j a.1).1 < (ndV n f j a.1).2) : ndV n f j a.1 = (0, 0) := by
  by_cases hp : wop n.1
  · obtain ⟨g1, g2, g3⟩ := win_of h hp ha
    have q1 := place_in g1 (p := f) (by omega) (by omega) g3
    have q3 := place_in g1 (p := f + j - 1) (by omega) (by omega) g3
    have m2 : f * n.2.2.2.1 ≤ (f + j - 1) * n.2.2.2.1 := Int.mul_le_mul_of_nonneg_right (by omega) (by have := winB_iff.1 g1; omega)
    unfold ndV at he
    rw [if_pos hp] at he
    unfold loV hiV at q1 q3
    simp only at he
    omega
  · by_cases h9 : n.1 = 9
    · unfold ndV at he ⊢
      simp only [if_neg hp, if_pos h9] at he ⊢
      unfold padV at he ⊢
      split
      · rfl
      · rename_i hc
        rw [if_neg hc] at he
        simp only at he
        omega
    · have hma := mayB_iff.1 (h.all a ha)
      simp only [vS] at hma
      by_cases h11 : n.1 = 3 ∨ n.1 = 11
      · unfold ndV at he; simp only [if_neg hp, if_neg h9, if_pos h11] at he
        omega
      · unfold ndV at he; simp only [if_neg hp, if_neg h9, if_neg h11] at he
        omega
/-- what is kept on the way -/
def accV (u : Int × Int) : Int × Int := if u.1 < u.2 then u else (99, 0)
theorem more_at (at_ : I2) (m : Node) (q : List I4) (z : I4) (hB : (nB m).length < 1000000) (hk : q.length < 1000000) (hv : ref03_Value m q = some (z, 0)) (F R : Int) (h1 : 0 ≤ F) (h2 : 1 ≤ R) (h3 : F + R ≤ z.1) (hF : Int.tmod (IntKind.wrap .i64 at_.1) z.1 = F) (i : Nat) (hi : i < q.length) :
    ∃ r, iterN (law05_KernMore_l19_p at_ q m (z, 0) R (i : Int)) LL (99, 0, F) = some (.inl ((accV (ndV m F R (gt q (i : Int) dI4).1)).1, (accV (ndV m F R (gt q (i : Int) dI4).1)).2, r)) := by
  have h := value_ok hk hB hv
  have hl := h.len
  have hmz := mayB_iff.1 h.may
  simp only [vS] at hmz
  have ha : gt q (i : Int) dI4 ∈ q := by
    unfold gt
    rw [show ((i : Int).toNat) = i by omega, List.getD_eq_getElem?_getD, List.getElem?_eq_getElem hi]
    exact List.getElem_mem hi
  have hw : IntKind.wrap .i64 (F + R) = F + R := i64_in _ (by omega)
  have t0 : decide ((0 : Int) ≤ (i : Int)) = true := decide_eq_true (by omega)
  have t1 : decide ((i : Int) < (q.length : Int)) = true := decide_eq_true (by omega)
  have hi01 : i = 0 ∨ i = 1 := by omega
  -- one round
  have step : ∀ (r u v : Int), F ≤ r → r < F + R → law05_KernMore_l19_p at_ q m (z, 0) R (i : Int) (u, v, r) = some (.inl ((if (ndV m r 1 (gt q (i : Int) dI4).1).1 < (ndV m r 1 (gt q (i : Int) dI4).1).2 then (min u (ndV m r 1 (gt q (i : Int) dI4).1).1) else u), (if (ndV m r 1 (gt q (i : Int) dI4).1).1 < (ndV m r 1 (gt q (i : Int) dI4).1).2 then (max v (ndV m r 1 (gt q (i : Int) dI4).1).2) else v), r + 1)) := fun r u v g1 g2 => by
    have hb := nd_in h (first := r) (rows := 1) (by omega) (by omega) (by omega) ha
    have hn := Needs_run hB hk hv (first := r) (rows := 1) (by omega) (by omega) (by omega)
    have w1 := i64_in (r + 1) (by omega)
    have hr19 : law05_KernMore_r19_p at_ (z, 0) R (u, v, r) = true := by
      simp only [law05_KernMore_r19_p, law05_KernMore_r19_q, hF, hw]
      exact decide_eq_true g2
    have hnd : (nd2 m r 1 q).1 = (ndV m r 1 (gt q 0 dI4).1).1 ∧ (nd2 m r 1 q).2.1 = (ndV m r 1 (gt q 0 dI4).1).2 ∧ (i = 1 → (nd2 m r 1 q).2.2.1 = (ndV m r 1 (gt q 1 dI4).1).1 ∧ (nd2 m r 1 q).2.2.2 = (ndV m r 1 (gt q 1 dI4).1).2) := by
      rcases hl with hh | hh
      · obtain ⟨a, rfl⟩ := List.length_eq_one_iff.1 hh
        exact ⟨rfl, rfl, fun h => by rw [h, hh] at hi; omega⟩
      · obtain ⟨a, b, rfl⟩ := len2 hh
        exact ⟨rfl, rfl, fun _ => ⟨rfl, rfl⟩⟩
    unfold law05_KernMore_l19_p law05_KernMore_j21_p
    rw [hr19, hn]
    simp only [cond_true, Option.bind_some]
    have hr22 : law05_KernMore_r22_p q (i : Int) (nd2 m r 1 q, 0) = some false := by
      rcases hi01 with rfl | rfl
      · have e1 : decide ((nd2 m r 1 q).1 < 0) = false := decide_eq_false (by rw [hnd.1]; have := hb.1; simpa using this)
        have e2 : decide ((nd2 m r 1 q).2.1 > (gt q 0 dI4).1) = false := decide_eq_false (by rw [hnd.2.1]; have := hb.2.2.1; simpa using this)
        unfold law05_KernMore_r22_p
        simp only [Int.ofNat_zero, Int.natCast_zero] at *
        simp only [bne_self_eq_false, cond_false, beq_self_eq_true, cond_true, e1, e2, t0, t1]
      · have e1 : decide ((nd2 m r 1 q).2.2.1 < 0) = false := decide_eq_false (by rw [(hnd.2.2 rfl).1]; have := hb.1; simpa using this)
        have e2 : decide ((nd2 m r 1 q).2.2.2 > (gt q 1 dI4).1) = false := decide_eq_false (by rw [(hnd.2.2 rfl).2]; have := hb.2.2.1; simpa using this)
        unfold law05_KernMore_r22_p
        simp only [Int.natCast_one] at *
        simp only [bne_self_eq_false, cond_false, beq_self_eq_true, cond_true, e1, e2, t0, t1, show ((1 : Int) == 0) = false from rfl]
    rw [hr22]
    simp only [Option.bind_some, cond_false, w1]
    rcases hi01 with rfl | rfl
    · have e3 : law05_KernMore_r24_p (((0 : Nat) : Int)) (nd2 m r 1 q, 0) = some (decide ((nd2 m r 1 q).1 < (nd2 m r 1 q).2.1)) := rfl
      have e4 : law05_KernMore_r25_p (((0 : Nat) : Int)) (u, v, r) (nd2 m r 1 q, 0) = some (min u (nd2 m r 1 q).1) := rfl
      have e5 : law05_KernMore_r26_p (((0 : Nat) : Int)) (u, v, r) (nd2 m r 1 q, 0) = some (max v (nd2 m r 1 q).2.1) := rfl
      rw [e3, e4, e5, hnd.1, hnd.2.1]
      show _ = some (Sum.inl (if (ndV m r 1 (gt q 0 dI4).1).1 < (ndV m r 1 (gt q 0 dI4).1).2 then _ else _, if (ndV m r 1 (gt q 0 dI4).1).1 < (ndV m r 1 (gt q 0 dI4).1).2 then _ else _, _))
      by_cases hc : (ndV m r 1 (gt q 0 dI4).1).1 < (ndV m r 1 (gt q 0 dI4).1).2
      · rw [decide_eq_true hc, if_pos hc, if_pos hc]; rfl
      · rw [decide_eq_false hc, if_neg hc, if_neg hc]; rfl
    · have hnd2 := hnd.2.2 rfl
      have e3 : law05_KernMore_r24_p (((1 : Nat) : Int)) (nd2 m r 1 q, 0) = some (decide ((nd2 m r 1 q).2.2.1 < (nd2 m r 1 q).2.2.2)) := rfl
      have e4 : law05_KernMore_r25_p (((1 : Nat) : Int)) (u, v, r) (nd2 m r 1 q, 0) = some (min u (nd2 m r 1 q).2.2.1) := rfl
      have e5 : law05_KernMore_r26_p (((1 : Nat) : Int)) (u, v, r) (nd2 m r 1 q, 0) = some (max v (nd2 m r 1 q).2.2.2) := rfl
      rw [e3, e4, e5, hnd2.1, hnd2.2]
      show _ = some (Sum.inl (if (ndV m r 1 (gt q 1 dI4).1).1 < (ndV m r 1 (gt q 1 dI4).1).2 then _ else _, if (ndV m r 1 (gt q 1 dI4).1).1 < (ndV m r 1 (gt q 1 dI4).1).2 then _ else _, _))
      by_cases hc : (ndV m r 1 (gt q 1 dI4).1).1 < (ndV m r 1 (gt q 1 dI4).1).2
      · rw [decide_eq_true hc, if_pos hc, if_pos hc]; rfl
      · rw [decide_eq_false hc, if_neg hc, if_neg hc]; rfl
  generalize gt q (i : Int) dI4 = a at *
  refine ⟨F + R, ?_⟩
  have := iterN_for (p := law05_KernMore_l19_p at_ q m (z, 0) R (i : Int)) (z := .inl ((accV (ndV m F R a.1)).1, (accV (ndV m F R a.1)).2, F + R)) R.toNat
    (fun j => match j with | 0 => (99, 0, F) | j + 1 => ((accV (ndV m F ((j : Int) + 1) a.1)).1, (accV (ndV m F ((j : Int) + 1) a.1)).2, F + (j : Int) + 1)) LL (LL_lt (by omega)) (fun j hj => by
      cases j with
      | zero =>
        rw [step F 99 0 (by omega) (by omega)]
        have hb := nd_in h (first := F) (rows := 1) (by omega) (by omega) (by omega) ha
        show some (Sum.inl (_, _, _)) = some (Sum.inl ((accV (ndV m F (((0 : Nat) : Int) + 1) a.1)).1, (accV (ndV m F (((0 : Nat) : Int) + 1) a.1)).2, F + ((0 : Nat) : Int) + 1))
        rw [show ((0 : Nat) : Int) + 1 = 1 by omega, show F + ((0 : Nat) : Int) + 1 = F + 1 by omega]
        unfold accV
        by_cases hc : (ndV m F 1 a.1).1 < (ndV m F 1 a.1).2
        · rw [if_pos hc, if_pos hc, if_pos hc, show min 99 (ndV m F 1 a.1).1 = (ndV m F 1 a.1).1 by omega, show max 0 (ndV m F 1 a.1).2 = (ndV m F 1 a.1).2 by omega]
        · rw [if_neg hc, if_neg hc, if_neg hc]
      | succ j =>
        show law05_KernMore_l19_p at_ q m (z, 0) R (i : Int) ((accV (ndV m F ((j : Int) + 1) a.1)).1, (accV (ndV m F ((j : Int) + 1) a.1)).2, F + (j : Int) + 1) = some (Sum.inl ((accV (ndV m F (((j + 1 : Nat) : Int) + 1) a.1)).1, (accV (ndV m F (((j + 1 : Nat) : Int) + 1) a.1)).2, F + ((j + 1 : Nat) : Int) + 1))
        rw [step (F + (j : Int) + 1) _ _ (by omega) (by omega)]
        have hb := nd_in h (first := F + ((j : Int) + 1)) (rows := 1) (by omega) (by omega) (by omega) ha
        have hu := nd_in h (first := F) (rows := (j : Int) + 1) (by omega) (by omega) (by omega) ha
        have hacc := nd_acc h (f := F) (j := (j : Int) + 1) (by omega) (by omega) (by omega) ha
        rw [show ((j + 1 : Nat) : Int) = (j : Int) + 1 by omega, hacc, show F + (j : Int) + 1 = F + ((j : Int) + 1) by omega]
        unfold accV
        by_cases hc : (ndV m (F + ((j : Int) + 1)) 1 a.1).1 < (ndV m (F + ((j : Int) + 1)) 1 a.1).2
        · rw [if_pos hc, if_pos hc, if_pos hc]
          by_cases hd : (ndV m F ((j : Int) + 1) a.1).1 < (ndV m F ((j : Int) + 1) a.1).2
          · rw [if_pos hd, if_pos hd, if_pos (by simp only; omega)]
          · rw [if_neg hd, if_neg hd, if_pos hc]
            simp only
            rw [show min 99 (ndV m (F + ((j : Int) + 1)) 1 a.1).1 = (ndV m (F + ((j : Int) + 1)) 1 a.1).1 by omega, show max 0 (ndV m (F + ((j : Int) + 1)) 1 a.1).2 = (ndV m (F + ((j : Int) + 1)) 1 a.1).2 by omega]
        · rw [if_neg hc, if_neg hc, if_neg hc]) (by
      have hRt : R.toNat = (R.toNat - 1) + 1 := by omega
      rw [hRt]
      show law05_KernMore_l19_p at_ q m (z, 0) R (i : Int) ((accV (ndV m F (((R.toNat - 1 : Nat) : Int) + 1) a.1)).1, (accV (ndV m F (((R.toNat - 1 : Nat) : Int) + 1) a.1)).2, F + ((R.toNat - 1 : Nat) : Int) + 1) = _
      rw [show F + ((R.toNat - 1 : Nat) : Int) + 1 = F + R by omega, show ((R.toNat - 1 : Nat) : Int) + 1 = R by omega]
      unfold law05_KernMore_l19_p
      have hr19 : law05_KernMore_r19_p at_ (z, 0) R ((accV (ndV m F R a.1)).1, (accV (ndV m F R a.1)).2, F + R) = false := by
        simp only [law05_KernMore_r19_p, law05_KernMore_r19_q, hF, hw]
        exact decide_eq_false (by omega)
      rw [hr19]
      rfl)
  exact this
theorem KernMore_true (n : Node) (l : List I4) (at_ : I2) (_ : Ts.ok tsNode n) (_ : Ts.ok (.one (.sl tsI4)) l) (kt : Ts.ok (.cons (.int .u8) (.one (.int .u8))) at_) : law05_KernMore n l at_ = some true := by
  have ht1 : 0 ≤ at_.1 ∧ at_.1 ≤ 255 := kt.1
  have ht2 : 0 ≤ at_.2 ∧ at_.2 ≤ 255 := kt.2
  obtain ⟨m, em, hm⟩ := few05_ok n
  obtain ⟨q, ek, hk⟩ := some05_ok l
  obtain ⟨v, e1, e2⟩ := Value_eq m q hk hm.2.2
  unfold law05_KernMore
  simp only [shown05, em, ek, e2, Option.bind_some]
  by_cases hv : v.2 = 0
  · obtain ⟨z, v2⟩ := v
    replace hv : v2 = 0 := hv
    subst hv
    have h := value_ok hk hm.2.2 e2
    have hz := mayB_iff.1 h.may
    simp only [vS] at hz
    have hr8 : law05_KernMore_r8_p (z, 0) = some () := by
      simp only [law05_KernMore_r8_p]
      rw [show (z.1 == 0) = false by simp only [beq_eq_false_iff_ne]; omega]
      rfl
    have hF : Int.tmod (IntKind.wrap .i64 at_.1) z.1 = at_.1 % z.1 := by rw [i64_in _ (by omega), Int.tmod_eq_emod_of_nonneg ht1.1]
    have hF1 := Int.emod_nonneg at_.1 (show z.1 ≠ 0 by omega)
    have hF2 := Int.emod_lt_of_pos at_.1 (show 0 < z.1 by omega)
    have hr9 : law05_KernMore_r9_p at_ (z, 0) = some (1 + at_.2 % (z.1 - at_.1 % z.1)) := by
      simp only [law05_KernMore_r9_p, hF]
      rw [i64_in (z.1 - at_.1 % z.1) (by omega), i64_in at_.2 (by omega), show ((z.1 - at_.1 % z.1) == 0) = false by simp only [beq_eq_false_iff_ne]; omega, Int.tmod_eq_emod_of_nonneg ht2.1]
      have := Int.emod_nonneg at_.2 (show z.1 - at_.1 % z.1 ≠ 0 by omega)
      have := Int.emod_lt_of_pos at_.2 (show 0 < z.1 - at_.1 % z.1 by omega)
      rw [i64_in _ (by omega)]
      rfl
    have hR1 := Int.emod_nonneg at_.2 (show z.1 - at_.1 % z.1 ≠ 0 by omega)
    have hR2 := Int.emod_lt_of_pos at_.2 (show 0 < z.1 - at_.1 % z.1 by omega)
    simp only [bne_self_eq_false, cond_false, hr8, hr9, hF, Option.bind_some]
    generalize at_.1 % z.1 = F at *
    generalize at_.2 % (z.1 - F) = R0 at *
    have hn := Needs_run hm.2.2 hk e2 (first := F) (rows := 1 + R0) (by omega) (by omega) (by omega)
    simp only [hn, Option.bind_some, bne_self_eq_false, cond_false]
    have hl := h.len
    have hloop : ∃ y, iterN (law05_KernMore_l14_p at_ q m (z, 0) (1 + R0) (nd2 m F (1 + R0) q, 0)) LL 0 = some (.inl y) := by
      have hend : ∀ i : Nat, i = q.length → law05_KernMore_l14_p at_ q m (z, 0) (1 + R0) (nd2 m F (1 + R0) q, 0) (i : Int) = some (.inr (.inl (i : Int))) := fun i hi => by
        unfold law05_KernMore_l14_p
        have : law05_KernMore_r14_p q (i : Int) = false := by
          simp only [law05_KernMore_r14_p, law05_KernMore_r14_q]
          rw [decide_eq_false (by omega)]
          rfl
        rw [this]
        rfl
      refine ⟨(q.length : Int), iterN_for (p := law05_KernMore_l14_p at_ q m (z, 0) (1 + R0) (nd2 m F (1 + R0) q, 0)) (z := .inl (q.length : Int)) q.length (fun i => (i : Int)) LL (LL_lt hk) (fun i hi => ?_) (hend _ rfl)⟩
      have hi01 : i = 0 ∨ i = 1 := by omega
      obtain ⟨r, hr⟩ := more_at at_ m q z hm.2.2 hk e2 F (1 + R0) (by omega) (by omega) (by omega) hF i hi
      have ha : gt q (i : Int) dI4 ∈ q := by
        unfold gt
        rw [show ((i : Int).toNat) = i by omega, List.getD_eq_getElem?_getD, List.getElem?_eq_getElem hi]
        exact List.getElem_mem hi
      have hb := nd_in h (first := F) (rows := 1 + R0) (by omega) (by omega) (by omega) ha
      have hem := nd_empty h (f := F) (j := 1 + R0) (by omega) (by omega) (by omega) ha
      unfold law05_KernMore_l14_p
      have hr14 : law05_KernMore_r14_p q (i : Int) = true := by
        simp only [law05_KernMore_r14_p, law05_KernMore_r14_q]
        rw [decide_eq_true (by omega), decide_eq_true (by omega)]
        rfl
      rw [hr14, hF, hr]
      simp only [cond_true, Option.bind_some, either]
      have hr29 : law05_KernMore_r29_p (nd2 m F (1 + R0) q, 0) (i : Int) ((accV (ndV m F (1 + R0) (gt q (i : Int) dI4).1)).1, (accV (ndV m F (1 + R0) (gt q (i : Int) dI4).1)).2, r) = some false := by
        have hj : law05_KernMore_j27_p ((accV (ndV m F (1 + R0) (gt q (i : Int) dI4).1)).1, (accV (ndV m F (1 + R0) (gt q (i : Int) dI4).1)).2, r) = (ndV m F (1 + R0) (gt q (i : Int) dI4).1).1 ∧ (accV (ndV m F (1 + R0) (gt q (i : Int) dI4).1)).2 = (ndV m F (1 + R0) (gt q (i : Int) dI4).1).2 := by
          unfold accV law05_KernMore_j27_p law05_KernMore_j27_q
          by_cases hc : (ndV m F (1 + R0) (gt q (i : Int) dI4).1).1 < (ndV m F (1 + R0) (gt q (i : Int) dI4).1).2
          · rw [if_pos hc]
            simp only
            rw [show ((ndV m F (1 + R0) (gt q (i : Int) dI4).1).2 == 0) = false by simp only [beq_eq_false_iff_ne]; omega]
            first | exact ⟨rfl, rfl⟩ | exact ⟨rfl, trivial⟩
          · rw [hem hc]
            exact ⟨rfl, rfl⟩
        unfold law05_KernMore_r29_p
        rw [hj.1]
        simp only [hj.2]
        rcases hi01 with rfl | rfl
        · have e : (nd2 m F (1 + R0) q).1 = (ndV m F (1 + R0) (gt q ((0 : Nat) : Int) dI4).1).1 ∧ (nd2 m F (1 + R0) q).2.1 = (ndV m F (1 + R0) (gt q ((0 : Nat) : Int) dI4).1).2 := by
            rcases hl with hh | hh
            · obtain ⟨a, rfl⟩ := List.length_eq_one_iff.1 hh
              exact ⟨rfl, rfl⟩
            · obtain ⟨a, b, rfl⟩ := len2 hh
              exact ⟨rfl, rfl⟩
          rw [← e.1, ← e.2]
          simp
        · have e : (nd2 m F (1 + R0) q).2.2.1 = (ndV m F (1 + R0) (gt q ((1 : Nat) : Int) dI4).1).1 ∧ (nd2 m F (1 + R0) q).2.2.2 = (ndV m F (1 + R0) (gt q ((1 : Nat) : Int) dI4).1).2 := by
            rcases hl with hh | hh
            · omega
            · obtain ⟨a, b, rfl⟩ := len2 hh
              exact ⟨rfl, rfl⟩
          rw [← e.1, ← e.2]
          simp
      rw [hr29]
      simp only [Option.bind_some, cond_false]
      rw [i64_in _ (by omega)]
      rfl
    obtain ⟨y, hy⟩ := hloop
    rw [hy]
    rfl
  · rw [show (v.2 != 0) = true by simpa using hv]
    simp only [cond_true]
    have : kern_Needs m q 0 1 = some ((0, 0, 0, 0), v.2) := by
      unfold kern_Needs
      rw [e1]
      simp only [Option.bind_some]
      rw [show (v.2 != 0) = true by simpa using hv]
      rfl
    rw [this]
    simp only [Option.bind_some, law05_KernMore_r7_p, law05_KernMore_r7_q, beq_self_eq_true, cond_true]
end Go.V.P
