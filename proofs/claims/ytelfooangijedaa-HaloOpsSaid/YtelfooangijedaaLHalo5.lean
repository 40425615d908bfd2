/- Plain laws of layer 15: HaloOps. -/
import Derived.Test.YtelfooangijedaaLHalo4
import Derived.Test.YtelfooangijedaaHa6
namespace Go.V.P
open Go Go.V Go.IntWalk
set_option linter.unusedVariables false
set_option linter.unusedSimpArgs false
set_option maxRecDepth 20000
theorem npu_of (x : Int) (h1 : 1 ≤ x) (h2 : x < 1 + (12 : Nat)) : halo_Npu x = some (decide (x ≠ 3 ∧ x ≠ 9 ∧ x ≠ 10 ∧ x ≠ 11)) := by
  revert x; refine rng1 fun i hi => ?_
  revert i
  decide +kernel
theorem npu_any (x : Int) : ∃ b, halo_Npu x = some b := by
  by_cases h1 : 1 ≤ x
  · by_cases h2 : x ≤ 12
    · exact ⟨_, npu_of x h1 (by omega)⟩
    · unfold halo_Npu halo_Npu_r2_p
      rw [decide_eq_true h1, decide_eq_false h2]
      exact ⟨_, rfl⟩
  · unfold halo_Npu halo_Npu_r2_p
    rw [decide_eq_false h1]
    exact ⟨_, rfl⟩
theorem ops_r18 (rows : Int) (l : List I4) (m : Node) (z y : I4 × Int) (u : I3 × Int) (W : Int) (hW : law15_HaloOps_j16_p rows m z = W) (i : Nat) (x : Int) (hi : i < l.length) (hx : i = 0 ∧ x = u.1.1 ∨ i = 1 ∧ x = u.1.2.1)
    (hw : IntKind.wrap .i64 (W * rowV (vS (gt l (i : Int) dI4))) = W * rowV (vS (gt l (i : Int) dI4)))
    (h1 : x ≤ W * rowV (vS (gt l (i : Int) dI4))) (h2 : rowV (vS (gt l (i : Int) dI4)) ≤ x) (h3 : m.2.2.1 = 0 → x = W * rowV (vS (gt l (i : Int) dI4))) : law15_HaloOps_r18_p rows l m z u (i : Int) = some false := by
  have t1 : decide ((0 : Int) ≤ (i : Int)) = true := decide_eq_true (by omega)
  have t2 : decide ((i : Int) < (l.length : Int)) = true := decide_eq_true (by omega)
  have hr : ref02_Row ((gt l (i : Int) dI4).1, (gt l (i : Int) dI4).2.1, (gt l (i : Int) dI4).2.2.1) = rowV (vS (gt l (i : Int) dI4)) := ref02_Row_eq _
  have g1 : decide (x > W * rowV (vS (gt l (i : Int) dI4))) = false := decide_eq_false (by omega)
  have g2 : decide (x < rowV (vS (gt l (i : Int) dI4))) = false := decide_eq_false (by omega)
  unfold law15_HaloOps_r18_p
  rcases hx with ⟨rfl, rfl⟩ | ⟨rfl, rfl⟩
  · simp only [t1, t2, hr, hW, hw, g1, g2, cond_true, cond_false, show (((0 : Nat) : Int) == 0) = true from rfl]
    by_cases hk : m.2.2.1 = 0
    · rw [show (m.2.2.1 == 0) = true by simpa using hk, h3 hk]; simp
    · rw [show (m.2.2.1 == 0) = false by simpa using hk]; rfl
  · simp only [t1, t2, hr, hW, hw, g1, g2, cond_true, cond_false, show (((1 : Nat) : Int) == 0) = false from rfl, show (((1 : Nat) : Int) == 1) = true from rfl]
    by_cases hk : m.2.2.1 = 0
    · rw [show (m.2.2.1 == 0) = true by simpa using hk, h3 hk]; simp
    · rw [show (m.2.2.1 == 0) = false by simpa using hk]; rfl
/-- what rows of an op in tiles need -/
theorem nd_npu {n : Node} {l : List I4} {z : I4} (h : NodeOK n l z) (hp : n.1 ≠ 3 ∧ n.1 ≠ 9 ∧ n.1 ≠ 10 ∧ n.1 ≠ 11) {first rows : Int} (h1 : 0 ≤ first) (h2 : 1 ≤ rows) (h3 : first + rows ≤ z.1) {a : I4} (ha : a ∈ l) :
    (n.2.2.1 = 0 → (ndV n first rows a.1).2 - (ndV n first rows a.1).1 = rows) ∧ (0 < n.2.2.1 → 1 ≤ (ndV n first rows a.1).2 - (ndV n first rows a.1).1 ∧ (ndV n first rows a.1).2 - (ndV n first rows a.1).1 ≤ (rows - 1) * n.2.2.2.1 + n.2.2.1) := by
  obtain ⟨f1, f2, f3, f4⟩ := nodeF n _ h.node
  by_cases hw : wop n.1
  · obtain ⟨g1, g2, g3⟩ := win_of h hw ha
    have hb := winB_iff.1 g1
    have q1 := place_in g1 h1 (by omega) g3
    have q2 := ends_up (stride := n.2.2.2.1) (p := first) (q := first + rows - 1) a.1 n.2.2.2.2.1 (k := n.2.2.1) (by omega) (by omega)
    refine ⟨by omega, fun _ => ?_⟩
    unfold ndV
    rw [if_pos hw]
    have e : (first + rows - 1) * n.2.2.2.1 = first * n.2.2.2.1 + (rows - 1) * n.2.2.2.1 := by rw [← Int.add_mul]; congr 1; omega
    unfold loV hiV at *
    rw [e] at *
    simp only
    have : 0 ≤ (rows - 1) * n.2.2.2.1 := Int.mul_nonneg (by omega) (by omega)
    omega
  · have := f3 hw
    unfold ndV
    rw [if_neg hw, if_neg hp.2.1, if_neg (by omega)]
    simp only
    omega
theorem HaloOps_true (n : Node) (l : List I4) (at_ : Int) (_ : Ts.ok tsNode n) (_ : Ts.ok (.one (.sl tsI4)) l) (kt : Ts.ok (.one (.int .u8)) at_) : law15_HaloOps n l at_ = some true := by
  have ht : 0 ≤ at_ ∧ at_ ≤ 255 := kt
  obtain ⟨m, em, hm⟩ := few15_ok n
  obtain ⟨q, ek, hk⟩ := some15_ok l
  obtain ⟨v, e1, e2⟩ := Value_eq m q hk hm.2.2
  unfold law15_HaloOps
  simp only [shown15, em, ek, e2, Option.bind_some]
  by_cases hv : v.2 = 0
  · obtain ⟨z, v2⟩ := v
    replace hv : v2 = 0 := hv
    subst hv
    have h := value_ok hk hm.2.2 e2
    have hz := mayB_iff.1 h.may
    simp only [vS] at hz
    obtain ⟨f1, f2, f3, f4⟩ := nodeF m _ h.node
    obtain ⟨p1, p2, p3⟩ := one_mod at_ z.1 ht (by omega) (by omega)
    rw [npu_of m.1 f1.1 (by omega)]
    simp only [Option.bind_some]
    by_cases hp : m.1 ≠ 3 ∧ m.1 ≠ 9 ∧ m.1 ≠ 10 ∧ m.1 ≠ 11
    · rw [decide_eq_true hp]
      have hr6 : law15_HaloOps_r6_p (z, 0) true = false := rfl
      have hr9 : law15_HaloOps_r8_p (z, 0) = some () := by
        simp only [law15_HaloOps_r8_p]
        rw [show (z.1 == 0) = false by simp only [beq_eq_false_iff_ne]; omega]
        rfl
      have hkk : ∃ k, 1 + at_ % z.1 = k := ⟨_, rfl⟩
      obtain ⟨k, ekk⟩ := hkk
      rw [ekk] at p1 p2 p3
      have hK : 0 ≤ m.2.2.1 ∧ m.2.2.1 ≤ 3 ∧ 0 ≤ m.2.2.2.1 ∧ m.2.2.2.1 ≤ 2 := by
        by_cases hw : wop m.1
        · have := f2 hw; omega
        · have := f3 hw; omega
      have hks := mul_in' (a := k - 1) (b := m.2.2.2.1) (c := 15) (d := 2) (by omega) (by omega) (by omega) (by omega)
      have hW : ∃ W, law15_HaloOps_j16_p at_ m (z, 0) = W ∧ 0 ≤ W ∧ W ≤ 40 ∧ (m.2.2.1 = 0 → W = k) ∧ (0 < m.2.2.1 → W = (k - 1) * m.2.2.2.1 + m.2.2.1) := by
        refine ⟨_, rfl, ?_⟩
        unfold law15_HaloOps_j16_p law15_HaloOps_j16_q
        simp only [law15_HaloOps_r17_p, law15_HaloOps_r17_q, p1]
        by_cases hc : m.2.2.1 > 0
        · rw [decide_eq_true hc, i64_in (k - 1) (by omega), i64_in ((k - 1) * m.2.2.2.1) (by omega), i64_in ((k - 1) * m.2.2.2.1 + m.2.2.1) (by omega)]
          simp only [cond_true]
          exact ⟨by omega, by omega, fun _ => by omega, fun _ => trivial⟩
        · rw [decide_eq_false hc]
          simp only [cond_false]
          exact ⟨by omega, by omega, fun _ => trivial, fun h => by omega⟩
      obtain ⟨W, w1, w2, w3, w4, w5⟩ := hW
      obtain ⟨L, mm, hM⟩ := Most_run hm.2.2 hk e2 (k := k) (by omega) (by omega)
      have hr := rowV_in (vS z)
      have hko := out_in (z := z) (rows := k) (by omega) (by omega)
      -- the most of what is made
      have hm2 : mm.2.2 = k * rowV (vS z) := by
        have hsz : ∀ a b : Int, (sz m z a b q).2.2 = b * rowV (vS z) := fun a b => by
          rcases h.len with hh | hh
          · obtain ⟨a, rfl⟩ := List.length_eq_one_iff.1 hh
            rfl
          · obtain ⟨a, b, rfl⟩ := len2 hh
            rfl
        obtain ⟨t, t1, t2⟩ := hM.at2
        have o := hM.ok _ t1
        have u := (hM.le _ hM.first).2.2
        rw [hsz] at t2 u
        have : t.2 * rowV (vS z) ≤ k * rowV (vS z) := Int.mul_le_mul_of_nonneg_right (by omega) hr.1
        simp only at u
        omega
      have hr10 : law15_HaloOps_r10_p at_ (z, 0) (mm, 0) = false := by
        simp only [law15_HaloOps_r10_p, law15_HaloOps_r10_q, p1, bne_self_eq_false, cond_false, ref02_Row_eq]
        rw [hm2]
        show (k * rowV (vS z) != IntKind.wrap .i64 (k * rowV (vS z))) = false
        rw [i64_in _ (by omega)]
        simp
      -- the most of what is needed
      have hin : ∀ (f : I3 → Int) (a : I4), a ∈ q → (∀ x y : Int, f (sz m z x y q) = lnV m x y a) → (∃ t ∈ L, f (sz m z t.1 t.2 q) = f mm) → (∀ t ∈ L, f (sz m z t.1 t.2 q) ≤ f mm) → f mm ≤ W * rowV (vS a) ∧ rowV (vS a) ≤ f mm ∧ (m.2.2.1 = 0 → f mm = W * rowV (vS a)) := fun f a ha hf hat hle => by
        have hra := rowV_in (vS a)
        obtain ⟨t, t1, t2⟩ := hat
        have u := hle _ hM.first
        rw [hf] at t2 u
        simp only at u
        have o := hM.ok _ t1
        have d1 := nd_npu h hp (first := t.1) (rows := t.2) o.1 o.2.1 o.2.2.2 ha
        have d2 := nd_npu h hp (first := 0) (rows := k) (by omega) (by omega) (by omega) ha
        unfold lnV at t2 u
        by_cases hk0 : m.2.2.1 = 0
        · have e1 := d1.1 hk0
          have e2 := d2.1 hk0
          rw [e1] at t2
          rw [e2] at u
          have : t.2 * rowV (vS a) ≤ k * rowV (vS a) := Int.mul_le_mul_of_nonneg_right (by omega) hra.1
          have : 1 * rowV (vS a) ≤ k * rowV (vS a) := Int.mul_le_mul_of_nonneg_right (by omega) hra.1
          rw [w4 hk0]
          omega
        · have e1 := d1.2 (by omega)
          have e2 := d2.2 (by omega)
          have q1 : (t.2 - 1) * m.2.2.2.1 ≤ (k - 1) * m.2.2.2.1 := Int.mul_le_mul_of_nonneg_right (by omega) (by omega)
          have q2 := Int.mul_le_mul_of_nonneg_right (show (ndV m t.1 t.2 a.1).2 - (ndV m t.1 t.2 a.1).1 ≤ W by rw [w5 (by omega)]; omega) hra.1
          have q3 := Int.mul_le_mul_of_nonneg_right e2.1 hra.1
          omega
      have hwr : ∀ a ∈ q, IntKind.wrap .i64 (W * rowV (vS a)) = W * rowV (vS a) := fun a ha => by
        have hra := rowV_in (vS a)
        have := mul_in' (a := W) (b := rowV (vS a)) (c := 40) (d := 128) (by omega) (by omega) (by omega) (by omega)
        exact i64_in _ (by omega)
      simp only [hr6, hr9, p1, hM.most, hr10, Option.bind_some, cond_false]
      have hfin : ∃ y, iterN (law15_HaloOps_l13_p at_ q m (z, 0) (mm, 0)) LL 0 = some (.inl y) ∧ law15_HaloOps_r20_p true q (mm, 0) = true := by
        rcases h.len with hh | hh
        · obtain ⟨a, rfl⟩ := List.length_eq_one_iff.1 hh
          have i0 := hin (fun x => x.1) a (by simp) (fun x y => rfl) hM.at0 (fun t ht => (hM.le t ht).1)
          have := ops_r18 at_ [a] m (z, 0) (z, 0) (mm, 0) W w1 0 mm.1 (by simp) (.inl ⟨rfl, rfl⟩) (hwr a (by simp)) i0.1 i0.2.1 i0.2.2
          refine ⟨1, iterN_for (p := law15_HaloOps_l13_p at_ [a] m (z, 0) (mm, 0)) (z := .inl 1) 1 (fun i => (i : Int)) LL (LL_lt (by omega)) (fun i hi => ?_) rfl, ?_⟩
          · have : i = 0 := by omega
            subst this
            simp only [law15_HaloOps_l13_p, this]
            rfl
          · obtain ⟨t, t1, t2⟩ := hM.at1
            have : mm.2.1 = 0 := t2.symm
            simp only [law15_HaloOps_r20_p, law15_HaloOps_r20_q, this]
            rfl
        · obtain ⟨a, b, rfl⟩ := len2 hh
          have i0 := hin (fun x => x.1) a (by simp) (fun x y => rfl) hM.at0 (fun t ht => (hM.le t ht).1)
          have i1 := hin (fun x => x.2.1) b (by simp) (fun x y => rfl) hM.at1 (fun t ht => (hM.le t ht).2.1)
          have k0 := ops_r18 at_ [a, b] m (z, 0) (z, 0) (mm, 0) W w1 0 mm.1 (by simp) (.inl ⟨rfl, rfl⟩) (hwr a (by simp)) i0.1 i0.2.1 i0.2.2
          have k1 := ops_r18 at_ [a, b] m (z, 0) (z, 0) (mm, 0) W w1 1 mm.2.1 (by simp) (.inr ⟨rfl, rfl⟩) (hwr b (by simp)) i1.1 i1.2.1 i1.2.2
          refine ⟨2, iterN_for (p := law15_HaloOps_l13_p at_ [a, b] m (z, 0) (mm, 0)) (z := .inl 2) 2 (fun i => (i : Int)) LL (LL_lt (by omega)) (fun i hi => ?_) rfl, rfl⟩
          have : i = 0 ∨ i = 1 := by omega
          rcases this with rfl | rfl
          · simp only [law15_HaloOps_l13_p, k0]
            rfl
          · simp only [law15_HaloOps_l13_p, k1]
            rfl
      obtain ⟨y, y1, y2⟩ := hfin
      rw [y1]
      simp only [Option.bind_some, either, y2]
    · rw [decide_eq_false hp]
      rfl
  · obtain ⟨b, hb⟩ := npu_any m.1
    have : law15_HaloOps_r6_p v b = true := by
      simp only [law15_HaloOps_r6_p, law15_HaloOps_r6_q]
      rw [show (v.2 != 0) = true by simpa using hv]
      rfl
    rw [hb]
    simp only [Option.bind_some, this, cond_true]
end Go.V.P
