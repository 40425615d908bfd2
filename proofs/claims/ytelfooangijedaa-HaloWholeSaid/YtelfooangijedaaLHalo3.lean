/- Plain laws of layer 15: HaloWhole. -/
import Derived.Test.YtelfooangijedaaLNd3
import Derived.Test.YtelfooangijedaaLHSizes
import Derived.Test.YtelfooangijedaaHa6
namespace Go.V.P
open Go Go.V Go.IntWalk
set_option linter.unusedVariables false
set_option linter.unusedSimpArgs false
set_option maxRecDepth 20000
/-- a byte's remainder, and one more -/
theorem one_mod (x h : Int) (kx : 0 ≤ x ∧ x ≤ 255) (h1 : 1 ≤ h) (h2 : h ≤ 16) : IntKind.wrap .i64 (1 + Int.tmod (IntKind.wrap .i64 x) h) = 1 + x % h ∧ 1 ≤ 1 + x % h ∧ 1 + x % h ≤ h := by
  rw [i64_in x (by omega), Int.tmod_eq_emod_of_nonneg kx.1]
  have := Int.emod_nonneg x (show h ≠ 0 by omega)
  have := Int.emod_lt_of_pos x (show 0 < h by omega)
  rw [i64_in _ (by omega)]
  omega
theorem most_one {n : Node} {l : List I4} {z : I4} {L : List I2} {m : I3} (h : MostOK n l z z.1 L m) : m = sz n z 0 z.1 l := by
  have e := h.whole rfl
  obtain ⟨t, a1, a2⟩ := h.at0
  obtain ⟨u, b1, b2⟩ := h.at1
  obtain ⟨v, c1, c2⟩ := h.at2
  rw [e, List.mem_singleton] at a1 b1 c1
  subst a1 b1 c1
  exact Prod.ext a2.symm (Prod.ext b2.symm c2.symm)
/-- rows side by side need together what both as one need, at least -/
theorem nd_add {n : Node} {l : List I4} {z : I4} (h : NodeOK n l z) {k : Int} (h1 : 1 ≤ k) (h2 : k < z.1) {a : I4} (ha : a ∈ l) (hw : n.2.2.2.1 ≤ n.2.2.1) :
    (ndV n 0 z.1 a.1).2 - (ndV n 0 z.1 a.1).1 ≤ ((ndV n 0 k a.1).2 - (ndV n 0 k a.1).1) + ((ndV n k (z.1 - k) a.1).2 - (ndV n k (z.1 - k) a.1).1) := by
  have i1 := nd_in h (first := 0) (rows := k) (by omega) (by omega) (by omega) ha
  have i2 := nd_in h (first := k) (rows := z.1 - k) (by omega) (by omega) (by omega) ha
  have i3 := nd_in h (first := 0) (rows := z.1) (by omega) (by omega) (by omega) ha
  by_cases hp : wop n.1
  · obtain ⟨g1, g2, g3⟩ := win_of h hp ha
    have hb := winB_iff.1 g1
    unfold ndV at *
    simp only [if_pos hp] at *
    have e : (0 + k - 1) * n.2.2.2.1 = k * n.2.2.2.1 - n.2.2.2.1 := by rw [Int.zero_add, Int.sub_mul, Int.one_mul]
    have e2 : k + (z.1 - k) - 1 = 0 + z.1 - 1 := by omega
    rw [e, e2] at *
    have m1 : n.2.2.2.1 ≤ k * n.2.2.2.1 := by
      have := Int.mul_le_mul_of_nonneg_right h1 (show 0 ≤ n.2.2.2.1 by omega)
      omega
    have m2 : k * n.2.2.2.1 ≤ (0 + z.1 - 1) * n.2.2.2.1 := Int.mul_le_mul_of_nonneg_right (by omega) (by omega)
    generalize k * n.2.2.2.1 = ks at *
    generalize (0 + z.1 - 1) * n.2.2.2.1 = zs at *
    rw [Int.zero_mul] at *
    omega
  · by_cases h9 : n.1 = 9
    · have hq := pad_of h h9 ha
      unfold ndV
      simp only [if_neg hp, if_pos h9]
      unfold padV
      split <;> split <;> split <;> (simp only) <;> omega
    · by_cases h11 : n.1 = 3 ∨ n.1 = 11
      · unfold ndV; simp only [if_neg hp, if_neg h9, if_pos h11]; omega
      · unfold ndV; simp only [if_neg hp, if_neg h9, if_neg h11]; omega
theorem ln_add {n : Node} {l : List I4} {z : I4} (h : NodeOK n l z) {k : Int} (h1 : 1 ≤ k) (h2 : k < z.1) {a : I4} (ha : a ∈ l) (hw : n.2.2.2.1 ≤ n.2.2.1) : lnV n 0 z.1 a ≤ lnV n 0 k a + lnV n k (z.1 - k) a := by
  unfold lnV
  rw [← Int.add_mul]
  exact Int.mul_le_mul_of_nonneg_right (nd_add h h1 h2 ha hw) (rowV_in _).1
theorem HaloWhole_true (n : Node) (l : List I4) (at_ : Int) (_ : Ts.ok tsNode n) (_ : Ts.ok (.one (.sl tsI4)) l) (kt : Ts.ok (.one (.int .u8)) at_) : law15_HaloWhole n l at_ = some true := by
  have ht : 0 ≤ at_ ∧ at_ ≤ 255 := kt
  obtain ⟨m, em, hm⟩ := few15_ok n
  obtain ⟨q, ek, hk⟩ := some15_ok l
  obtain ⟨v, e1, e2⟩ := Value_eq m q hk hm.2.2
  unfold law15_HaloWhole
  simp only [shown15, em, ek, e2, Option.bind_some]
  by_cases hv : v.2 = 0
  · obtain ⟨z, v2⟩ := v
    replace hv : v2 = 0 := hv
    subst hv
    have h := value_ok hk hm.2.2 e2
    have hz := mayB_iff.1 h.may
    simp only [vS] at hz
    obtain ⟨p1, p2, p3⟩ := one_mod at_ z.1 ht (by omega) (by omega)
    obtain ⟨L, mm, hM⟩ := Most_run hm.2.2 hk e2 (k := z.1) (by omega) (by omega)
    have s1 := Sizes_run hm.2.2 hk e2 (first := 0) (rows := z.1) (by omega) (by omega) (by omega)
    have s2 := Sizes_run hm.2.2 hk e2 (first := 0) (rows := 1 + at_ % z.1) (by omega) (by omega) (by omega)
    have hr9 : law15_HaloWhole_r9_p (z, 0) = some () := by
      simp only [law15_HaloWhole_r9_p]
      rw [show (z.1 == 0) = false by simp only [beq_eq_false_iff_ne]; omega]
      rfl
    simp only [bne_self_eq_false, cond_false, hM.most, most_one hM, s1, s2, p1, hr9, Option.bind_some, law15_HaloWhole_r11_p, law15_HaloWhole_r11_q, law15_HaloWhole_r13_p, law15_HaloWhole_r13_q, beq_self_eq_true, Bool.and_self, Bool.not_true]
    by_cases hq : 1 + at_ % z.1 = z.1
    · rw [hq]
      simp only [beq_self_eq_true, cond_true, law15_HaloWhole_r14_p, law15_HaloWhole_r14_q, Bool.and_self]
    · have s3 := Sizes_run hm.2.2 hk e2 (first := 1 + at_ % z.1) (rows := z.1 - (1 + at_ % z.1)) (by omega) (by omega) (by omega)
      rw [show (1 + at_ % z.1 == z.1) = false by simpa using hq, i64_in (z.1 - (1 + at_ % z.1)) (by omega)]
      simp only [cond_false, s3, Option.bind_some, law15_HaloWhole_r17_p, law15_HaloWhole_r17_q, cond_true, beq_self_eq_true]
      generalize 1 + at_ % z.1 = k at *
      have o1 := out_in (z := z) (rows := k) (by omega) (by omega)
      have o2 := out_in (z := z) (rows := z.1 - k) (by omega) (by omega)
      have hs : k * rowV (vS z) + (z.1 - k) * rowV (vS z) = z.1 * rowV (vS z) := by rw [← Int.add_mul]; congr 1; omega
      by_cases hw : m.2.2.2.1 ≤ m.2.2.1
      · rw [show decide (m.2.2.1 ≥ m.2.2.2.1) = true from decide_eq_true hw]
        simp only [Bool.not_true, cond_false]
        rcases h.len with hh | hh
        · obtain ⟨a, rfl⟩ := List.length_eq_one_iff.1 hh
          have b1 := ln_in h (first := 0) (rows := k) (by omega) (by omega) (by omega) (a := a) (by simp)
          have b2 := ln_in h (first := k) (rows := z.1 - k) (by omega) (by omega) (by omega) (a := a) (by simp)
          have b3 := ln_add h (k := k) (by omega) (by omega) (a := a) (by simp) hw
          have w1 := i64_in (lnV m 0 k a + lnV m k (z.1 - k) a) (by omega)
          have w2 := i64_in (z.1 * rowV (vS z)) (by omega)
          have w3 : IntKind.wrap .i64 (0 + 0) = 0 := by decide
          simp only [sz, w1, w2, w3, hs, ge_iff_le, b3, decide_true, Int.le_refl, beq_self_eq_true, cond_true]
        · obtain ⟨a, b, rfl⟩ := len2 hh
          have b1 := ln_in h (first := 0) (rows := k) (by omega) (by omega) (by omega) (a := a) (by simp)
          have b2 := ln_in h (first := k) (rows := z.1 - k) (by omega) (by omega) (by omega) (a := a) (by simp)
          have b3 := ln_add h (k := k) (by omega) (by omega) (a := a) (by simp) hw
          have c1 := ln_in h (first := 0) (rows := k) (by omega) (by omega) (by omega) (a := b) (by simp)
          have c2 := ln_in h (first := k) (rows := z.1 - k) (by omega) (by omega) (by omega) (a := b) (by simp)
          have c3 := ln_add h (k := k) (by omega) (by omega) (a := b) (by simp) hw
          have w1 := i64_in (lnV m 0 k a + lnV m k (z.1 - k) a) (by omega)
          have w2 := i64_in (z.1 * rowV (vS z)) (by omega)
          have w3 := i64_in (lnV m 0 k b + lnV m k (z.1 - k) b) (by omega)
          simp only [sz, w1, w2, w3, hs, ge_iff_le, b3, c3, decide_true, beq_self_eq_true, cond_true]
      · rw [show decide (m.2.2.1 ≥ m.2.2.2.1) = false from decide_eq_false hw]
        have hsz : ∀ a b : Int, (sz m z a b q).2.2 = b * rowV (vS z) := fun a b => by
          rcases h.len with hh | hh
          · obtain ⟨a, rfl⟩ := List.length_eq_one_iff.1 hh
            rfl
          · obtain ⟨a, b, rfl⟩ := len2 hh
            rfl
        rw [hsz, hsz, hsz, i64_in _ (by omega), hs]
        simp
  · rw [show (v.2 != 0) = true by simpa using hv]
    rfl
end Go.V.P
