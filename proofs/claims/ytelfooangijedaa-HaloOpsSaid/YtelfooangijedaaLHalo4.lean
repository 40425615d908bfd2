/- Plain laws of layer 15: HaloMost. -/
import Derived.Test.YtelfooangijedaaLHalo3
import Derived.Test.YtelfooangijedaaHa5
namespace Go.V.P
open Go Go.V Go.IntWalk
set_option linter.unusedVariables false
set_option linter.unusedSimpArgs false
set_option maxRecDepth 20000
/-- one tile looked at -/
theorem most_in (y : I3 × Int) (g : Int × Int × Int × Int) (f0 f1 f2 : Bool) (hg : g.1 = 0) (h0 : 0 ≤ g.2.1 ∧ g.2.1 ≤ y.1.1) (h1 : 0 ≤ g.2.2.1 ∧ g.2.2.1 ≤ y.1.2.1) (h2 : 0 ≤ g.2.2.2 ∧ g.2.2.2 ≤ y.1.2.2) :
    iterN (law15_HaloMost_l17_p y g) LL (0, f0, f1, f2) = some (.inl (3, f0 || g.2.1 == y.1.1, f1 || g.2.2.1 == y.1.2.1, f2 || g.2.2.2 == y.1.2.2)) := by
  have e0 : (g.1 != 0) = false := by simpa using hg
  have := iterN_for (p := law15_HaloMost_l17_p y g) (z := .inl (3, f0 || g.2.1 == y.1.1, f1 || g.2.2.1 == y.1.2.1, f2 || g.2.2.2 == y.1.2.2)) 3
    (fun i => match i with | 0 => ((0 : Int), f0, f1, f2) | 1 => (1, f0 || g.2.1 == y.1.1, f1, f2) | 2 => (2, f0 || g.2.1 == y.1.1, f1 || g.2.2.1 == y.1.2.1, f2) | _ => (3, f0 || g.2.1 == y.1.1, f1 || g.2.2.1 == y.1.2.1, f2 || g.2.2.2 == y.1.2.2)) LL (LL_lt (by omega)) (fun i hi => by
    have : i = 0 ∨ i = 1 ∨ i = 2 := by omega
    rcases this with rfl | rfl | rfl
    · simp only [law15_HaloMost_l17_p, law15_HaloMost_r19_p, law15_HaloMost_r21_p, e0, cond_false]
      simp [h0.1, h0.2, Int.not_lt.2 h0.1, Int.not_lt.2 h0.2]
      cases f0 <;> rfl
    · simp only [law15_HaloMost_l17_p, law15_HaloMost_r19_p, law15_HaloMost_r21_p, e0, cond_false]
      simp [h1.1, h1.2, Int.not_lt.2 h1.1, Int.not_lt.2 h1.2]
      cases f1 <;> rfl
    · simp only [law15_HaloMost_l17_p, law15_HaloMost_r19_p, law15_HaloMost_r21_p, e0, cond_false]
      simp [h2.1, h2.2, Int.not_lt.2 h2.1, Int.not_lt.2 h2.2]
      cases f2 <;> rfl) rfl
  exact this
theorem most_end (y u : I3 × Int) (s : Int × Bool × Bool × Bool) (h0 : y.1.1 ≤ u.1.1) (h1 : y.1.2.1 ≤ u.1.2.1) (h2 : y.1.2.2 ≤ u.1.2.2) (hs : s.2 = (true, true, true)) :
    iterN (law15_HaloMost_l24_p y s u) LL 0 = some (.inl 3) := by
  obtain ⟨s0, s1, s2, s3⟩ := s
  simp only [Prod.mk.injEq] at hs
  obtain ⟨rfl, rfl, rfl⟩ := hs
  have := iterN_for (p := law15_HaloMost_l24_p y (s0, true, true, true) u) (z := .inl 3) 3 (fun i => (i : Int)) LL (LL_lt (by omega)) (fun i hi => by
    have : i = 0 ∨ i = 1 ∨ i = 2 := by omega
    rcases this with rfl | rfl | rfl
    · simp only [law15_HaloMost_l24_p, law15_HaloMost_r26_p]
      simp [Int.not_lt.2 h0]
      rfl
    · simp only [law15_HaloMost_l24_p, law15_HaloMost_r26_p]
      simp [Int.not_lt.2 h1]
      rfl
    · simp only [law15_HaloMost_l24_p, law15_HaloMost_r26_p]
      simp [Int.not_lt.2 h2]
      rfl) rfl
  exact this
/-- rows within rows need no more -/
theorem nd_le {n : Node} {l : List I4} {z : I4} (h : NodeOK n l z) {first rows : Int} (h1 : 0 ≤ first) (h2 : 1 ≤ rows) (h3 : first + rows ≤ z.1) {a : I4} (ha : a ∈ l) :
    (ndV n first rows a.1).2 - (ndV n first rows a.1).1 ≤ (ndV n 0 z.1 a.1).2 - (ndV n 0 z.1 a.1).1 := by
  have i1 := nd_in h h1 h2 h3 ha
  have i3 := nd_in h (first := 0) (rows := z.1) (by omega) (by omega) (by omega) ha
  by_cases hp : wop n.1
  · obtain ⟨g1, g2, g3⟩ := win_of h hp ha
    have hb := winB_iff.1 g1
    unfold ndV at *
    simp only [if_pos hp] at *
    have m1 : 0 ≤ first * n.2.2.2.1 := Int.mul_nonneg h1 (by omega)
    have m2 : (first + rows - 1) * n.2.2.2.1 ≤ (0 + z.1 - 1) * n.2.2.2.1 := Int.mul_le_mul_of_nonneg_right (by omega) (by omega)
    rw [Int.zero_mul] at *
    omega
  · by_cases h9 : n.1 = 9
    · have hq := pad_of h h9 ha
      unfold ndV
      simp only [if_neg hp, if_pos h9]
      unfold padV
      split <;> split <;> (simp only) <;> omega
    · by_cases h11 : n.1 = 3 ∨ n.1 = 11
      · unfold ndV; simp only [if_neg hp, if_neg h9, if_pos h11]; omega
      · unfold ndV; simp only [if_neg hp, if_neg h9, if_neg h11]; omega
theorem ln_le {n : Node} {l : List I4} {z : I4} (h : NodeOK n l z) {first rows : Int} (h1 : 0 ≤ first) (h2 : 1 ≤ rows) (h3 : first + rows ≤ z.1) {a : I4} (ha : a ∈ l) : lnV n first rows a ≤ lnV n 0 z.1 a :=
  Int.mul_le_mul_of_nonneg_right (nd_le h h1 h2 h3 ha) (rowV_in _).1
theorem sz_le {n : Node} {l : List I4} {z : I4} (h : NodeOK n l z) {first rows : Int} (h1 : 0 ≤ first) (h2 : 1 ≤ rows) (h3 : first + rows ≤ z.1) :
    (sz n z first rows l).1 ≤ (sz n z 0 z.1 l).1 ∧ (sz n z first rows l).2.1 ≤ (sz n z 0 z.1 l).2.1 ∧ (sz n z first rows l).2.2 ≤ (sz n z 0 z.1 l).2.2 := by
  have hr : rows * rowV (vS z) ≤ z.1 * rowV (vS z) := Int.mul_le_mul_of_nonneg_right (by omega) (rowV_in _).1
  rcases h.len with hh | hh
  · obtain ⟨a, rfl⟩ := List.length_eq_one_iff.1 hh
    exact ⟨ln_le h h1 h2 h3 (by simp), Int.le_refl _, hr⟩
  · obtain ⟨a, b, rfl⟩ := len2 hh
    exact ⟨ln_le h h1 h2 h3 (by simp), ln_le h h1 h2 h3 (by simp), hr⟩
theorem HaloMost_true (n : Node) (l : List I4) (at_ : Int) (_ : Ts.ok tsNode n) (_ : Ts.ok (.one (.sl tsI4)) l) (kt : Ts.ok (.one (.int .u8)) at_) : law15_HaloMost n l at_ = some true := by
  have ht : 0 ≤ at_ ∧ at_ ≤ 255 := kt
  obtain ⟨m, em, hm⟩ := few15_ok n
  obtain ⟨q, ek, hk⟩ := some15_ok l
  obtain ⟨v, e1, e2⟩ := Value_eq m q hk hm.2.2
  unfold law15_HaloMost
  simp only [shown15, em, ek, e2, Option.bind_some]
  by_cases hv : v.2 = 0
  · obtain ⟨z, v2⟩ := v
    replace hv : v2 = 0 := hv
    subst hv
    have h := value_ok hk hm.2.2 e2
    have hz := mayB_iff.1 h.may
    simp only [vS] at hz
    obtain ⟨p1, p2, p3⟩ := one_mod at_ z.1 ht (by omega) (by omega)
    have hr9 : law15_HaloMost_r8_p (z, 0) = some () := by
      simp only [law15_HaloMost_r8_p]
      rw [show (z.1 == 0) = false by simp only [beq_eq_false_iff_ne]; omega]
      rfl
    simp only [bne_self_eq_false, cond_false, hr9, p1, Option.bind_some]
    generalize 1 + at_ % z.1 = k at *
    obtain ⟨L, mm, hM⟩ := Most_run hm.2.2 hk e2 (k := k) (by omega) (by omega)
    obtain ⟨L2, m2, hM2⟩ := Most_run hm.2.2 hk e2 (k := z.1) (by omega) (by omega)
    simp only [hM.most, hM.tiles, hM2.most, Option.bind_some]
    let S : Nat → I3 := fun i => sz m z (gt L (i : Int) dI2).1 (gt L (i : Int) dI2).2 q
    have hloop : ∃ y, iterN (law15_HaloMost_l13_p q m (mm, 0) L) LL (0, false, false, false) = some y ∧ ∃ w : Int × Bool × Bool × Bool, y = .inl w ∧ w.2 = (true, true, true) := by
      have hlen := hM.len
      refine iterN_inv (fun s : Int × Bool × Bool × Bool => ∃ j : Nat, s.1 = (j : Int) ∧ j ≤ L.length ∧
        ((∃ i : Nat, i < j ∧ (S i).1 = mm.1) → s.2.1 = true) ∧ ((∃ i : Nat, i < j ∧ (S i).2.1 = mm.2.1) → s.2.2.1 = true) ∧ ((∃ i : Nat, i < j ∧ (S i).2.2 = mm.2.2) → s.2.2.2 = true)) (fun s => L.length - s.1.toNat) (fun s hs => ?_) LL (0, false, false, false) ⟨0, rfl, by omega, fun ⟨i, hi, _⟩ => absurd hi (by omega), fun ⟨i, hi, _⟩ => absurd hi (by omega), fun ⟨i, hi, _⟩ => absurd hi (by omega)⟩ (LL_lt (by simp only; omega))
      obtain ⟨j, a1, a2, a3, a4, a5⟩ := hs
      obtain ⟨s0, b0, b1, b2⟩ := s
      simp only at a1 a3 a4 a5
      subst a1
      by_cases hj : j < L.length
      · obtain ⟨u1, u2, u3⟩ := step_t hj (by omega)
        have hg := gt_mem hj dI2
        have htl := hM.ok _ hg
        have hs := Sizes_run hm.2.2 hk e2 htl.1 htl.2.1 htl.2.2.2
        have hn := sz_in h htl.1 htl.2.1 htl.2.2.2
        have hl := hM.le _ hg
        have hmi := most_in (mm, 0) (0, sz m z (gt L (j : Int) dI2).1 (gt L (j : Int) dI2).2 q) b0 b1 b2 rfl ⟨hn.1, hl.1⟩ ⟨hn.2.1, hl.2.1⟩ ⟨hn.2.2, hl.2.2⟩
        refine .inl ⟨((j : Int) + 1, b0 || (S j).1 == mm.1, b1 || (S j).2.1 == mm.2.1, b2 || (S j).2.2 == mm.2.2), ?_, ⟨j + 1, by simp only; omega, by omega, ?_, ?_, ?_⟩, by simp only; omega⟩
        · simp only [law15_HaloMost_l13_p, law15_HaloMost_r15_p, u1, u2, u3, hs, cond_true, Option.bind_some]
          rw [hmi]
          rfl
        · rintro ⟨i, hi, e⟩
          by_cases hij : i = j
          · subst hij; simp [e]
          · simp [a3 ⟨i, by omega, e⟩]
        · rintro ⟨i, hi, e⟩
          by_cases hij : i = j
          · subst hij; simp [e]
          · simp [a4 ⟨i, by omega, e⟩]
        · rintro ⟨i, hi, e⟩
          by_cases hij : i = j
          · subst hij; simp [e]
          · simp [a5 ⟨i, by omega, e⟩]
      · refine .inr ⟨.inl ((j : Int), b0, b1, b2), ?_, _, rfl, ?_⟩
        · simp only [law15_HaloMost_l13_p]
          rw [decide_eq_false (by omega)]
          rfl
        · have conv : ∀ f : I3 → Int, (∃ t ∈ L, f (sz m z t.1 t.2 q) = f mm) → ∃ i : Nat, i < j ∧ f (S i) = f mm := fun f ⟨t, t1, t2⟩ => by
            obtain ⟨i, hi, e⟩ := mem_gt t1 dI2
            refine ⟨i, by omega, ?_⟩
            show f (sz m z (gt L (i : Int) dI2).1 (gt L (i : Int) dI2).2 q) = _
            rw [e]; exact t2
          rw [a3 (conv (fun x => x.1) hM.at0), a4 (conv (fun x => x.2.1) hM.at1), a5 (conv (fun x => x.2.2) hM.at2)]
    obtain ⟨y, y1, w, rfl, y3⟩ := hloop
    rw [y1]
    have hle : mm.1 ≤ m2.1 ∧ mm.2.1 ≤ m2.2.1 ∧ mm.2.2 ≤ m2.2.2 := by
      rw [most_one hM2]
      obtain ⟨t0, c0, d0⟩ := hM.at0
      obtain ⟨t1, c1, d1⟩ := hM.at1
      obtain ⟨t2, c2, d2⟩ := hM.at2
      have o0 := hM.ok _ c0
      have o1 := hM.ok _ c1
      have o2 := hM.ok _ c2
      rw [← d0, ← d1, ← d2]
      exact ⟨(sz_le h o0.1 o0.2.1 o0.2.2.2).1, (sz_le h o1.1 o1.2.1 o1.2.2.2).2.1, (sz_le h o2.1 o2.2.1 o2.2.2.2).2.2⟩
    simp only [Option.bind_some, either]
    rw [most_end (mm, 0) (m2, 0) w hle.1 hle.2.1 hle.2.2 y3]
    simp only [Option.bind_some, either, law15_HaloMost_r28_p, law15_HaloMost_r28_q, beq_self_eq_true, cond_true, ref02_Size_eq]
    have hs2 : m2.2.2 = sizeV (vS z) := by
      rw [most_one hM2, sizeV_row]
      rcases h.len with hh | hh
      · obtain ⟨a, rfl⟩ := List.length_eq_one_iff.1 hh
        rfl
      · obtain ⟨a, b, rfl⟩ := len2 hh
        rfl
    rw [hs2]
    exact congrArg some (by simp [vS])
  · rw [show (v.2 != 0) = true by simpa using hv]
    unfold halo_Most
    rw [e1]
    simp only [Option.bind_some, cond_true]
    rw [show (v.2 != 0) = true by simpa using hv]
    simp only [cond_true, Option.bind_some, law15_HaloMost_r7_p, law15_HaloMost_r7_q, beq_self_eq_true]
end Go.V.P
