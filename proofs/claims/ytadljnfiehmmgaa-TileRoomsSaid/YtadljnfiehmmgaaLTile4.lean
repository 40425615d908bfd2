/- Plain laws of layer 16: TileRooms. -/
import Derived.Test.YtadljnfiehmmgaaLTile3
namespace Go.V.P
open Go Go.V Go.IntWalk
set_option linter.unusedVariables false
set_option linter.unusedSimpArgs false
set_option maxRecDepth 20000
theorem nodeP (n : Node) (k : Int) (h : ref03_node n k = true) (hw : wop n.1) : n.2.2.2.2.1 ≤ 1 := by
  obtain ⟨op, i, K, S, P, O, M, Sh, Z, t1, t2, t3, W, B⟩ := n
  unfold wop at hw
  simp only at hw
  rcases hw with rfl | rfl | rfl | rfl <;>
    simp [ref03_node, ref03_node_q, ref03_node_r17_p, ref03_node_r17_q, ref03_node_r16_p, ref03_node_r16_q, ref03_node_r15_p, ref03_node_r15_q, ref03_node_j13_p, ref03_node_j13_q, ref03_node_r13_p, ref03_node_r13_q, ref03_node_j10_p, ref03_node_j10_q, ref03_node_j8_p, ref03_node_j8_q, ref03_node_r9_p, ref03_node_r9_q, ref03_node_r8_p, ref03_node_r8_q, ref03_node_j5_p, ref03_node_j5_q, ref03_node_r6_p, ref03_node_r6_q, ref03_node_r4_p, ref03_node_r4_q, ref03_node_j2_p, ref03_node_j2_q, ref03_Two, ref03_Two_q, ref03_Two_r1_p, ref03_Two_r1_q, ref03_Window, ref03_Window_q, ref03_Window_r1_p, ref03_Window_r1_q, in_iff] at h ⊢ <;> omega
/-- rows anywhere need no more than more rows at the beginning -/
theorem nd_up {n : Node} {l : List I4} {z : I4} (h : NodeOK n l z) {f r b : Int} (h1 : 0 ≤ f) (h2 : 1 ≤ r) (h3 : f + r ≤ z.1) (h4 : r < b) (h5 : b ≤ z.1) {a : I4} (ha : a ∈ l) :
    (ndV n f r a.1).2 - (ndV n f r a.1).1 ≤ (ndV n 0 b a.1).2 - (ndV n 0 b a.1).1 := by
  have i1 := nd_in h h1 h2 h3 ha
  have i3 := nd_in h (first := 0) (rows := b) (by omega) (by omega) (by omega) ha
  by_cases hp : wop n.1
  · obtain ⟨g1, g2, g3⟩ := win_of h hp ha
    have hb := winB_iff.1 g1
    have hP := nodeP n _ h.node hp
    unfold ndV at *
    simp only [if_pos hp] at *
    have e1 : (f + r - 1) * n.2.2.2.1 = f * n.2.2.2.1 + (r - 1) * n.2.2.2.1 := by rw [← Int.add_mul]; congr 1; omega
    have e2 : (0 + b - 1) * n.2.2.2.1 = (b - 1 - r) * n.2.2.2.1 + ((r - 1) * n.2.2.2.1 + n.2.2.2.1) := by
      have : (r - 1) * n.2.2.2.1 + n.2.2.2.1 = r * n.2.2.2.1 := by rw [Int.sub_mul]; omega
      rw [this, ← Int.add_mul]; congr 1; omega
    have m0 : 0 ≤ (b - 1 - r) * n.2.2.2.1 := Int.mul_nonneg (by omega) (by omega)
    have m1 : 0 ≤ f * n.2.2.2.1 := Int.mul_nonneg h1 (by omega)
    have m2 : 0 ≤ (r - 1) * n.2.2.2.1 := Int.mul_nonneg (by omega) (by omega)
    rw [e1, e2, Int.zero_mul] at *
    omega
  · by_cases h9 : n.1 = 9
    · have hq := pad_of h h9 ha
      unfold ndV
      simp only [if_neg hp, if_pos h9]
      unfold padV
      split <;> split <;> (simp only) <;> omega
    · by_cases h11 : n.1 = 3 ∨ n.1 = 11
      · unfold ndV; simp only [if_neg hp, if_neg h9, if_pos h11]; omega
      · unfold ndV; simp only [if_neg hp, if_neg h9, if_neg h11]; omega
theorem sz_mono {n : Node} {l : List I4} {z : I4} (h : NodeOK n l z) {f r b : Int} (h1 : 0 ≤ f) (h2 : 1 ≤ r) (h3 : f + r ≤ z.1) (h4 : r < b) (h5 : b ≤ z.1) :
    (sz n z f r l).1 ≤ (sz n z 0 b l).1 ∧ (sz n z f r l).2.1 ≤ (sz n z 0 b l).2.1 ∧ (sz n z f r l).2.2 ≤ (sz n z 0 b l).2.2 := by
  have hr : r * rowV (vS z) ≤ b * rowV (vS z) := Int.mul_le_mul_of_nonneg_right (by omega) (rowV_in _).1
  have hl : ∀ a ∈ l, lnV n f r a ≤ lnV n 0 b a := fun a ha => Int.mul_le_mul_of_nonneg_right (nd_up h h1 h2 h3 h4 h5 ha) (rowV_in _).1
  rcases h.len with hh | hh
  · obtain ⟨a, rfl⟩ := List.length_eq_one_iff.1 hh
    exact ⟨hl a (by simp), Int.le_refl _, hr⟩
  · obtain ⟨a, b, rfl⟩ := len2 hh
    exact ⟨hl a (by simp), hl b (by simp), hr⟩
theorem most_mono {n : Node} {l : List I4} {z : I4} (h : NodeOK n l z) {a b : Int} {La Lb : List I2} {x y : I3} (ha : MostOK n l z a La x) (hb : MostOK n l z b Lb y) (h1 : a ≤ b) (h2 : b ≤ z.1) : takes x ≤ takes y := by
  by_cases hab : a = b
  · subst hab
    have : x = y := by
      have := ha.most.symm.trans hb.most
      simp only [Option.some.injEq, Prod.mk.injEq, and_true] at this
      exact this
    rw [this]
    exact Int.le_refl _
  · have hfb := hb.le _ hb.first
    have hin : ∀ t ∈ La, 0 ≤ t.1 ∧ 1 ≤ t.2 ∧ t.1 + t.2 ≤ z.1 ∧ t.2 < b := fun t ht => by have := ha.ok t ht; omega
    obtain ⟨t0, c0, d0⟩ := ha.at0
    obtain ⟨t1, c1, d1⟩ := ha.at1
    obtain ⟨t2, c2, d2⟩ := ha.at2
    have i0 := hin _ c0
    have i1 := hin _ c1
    have i2 := hin _ c2
    have s0 := (sz_mono h i0.1 i0.2.1 i0.2.2.1 i0.2.2.2 h2).1
    have s1 := (sz_mono h i1.1 i1.2.1 i1.2.2.1 i1.2.2.2 h2).2.1
    have s2 := (sz_mono h i2.1 i2.2.1 i2.2.2.1 i2.2.2.2 h2).2.2
    simp only at hfb
    unfold takes
    omega
/-- all that a node is made of, and makes -/
def allV (z : I4) : List I4 → Int
  | [a] => sizeV (vS z) + sizeV (vS a)
  | [a, b] => sizeV (vS z) + sizeV (vS a) + sizeV (vS b)
  | _ => 0
theorem ln_size {n : Node} {l : List I4} {z : I4} (h : NodeOK n l z) {f r : Int} (h1 : 0 ≤ f) (h2 : 1 ≤ r) (h3 : f + r ≤ z.1) {a : I4} (ha : a ∈ l) : lnV n f r a ≤ sizeV (vS a) := by
  have := nd_in h h1 h2 h3 ha
  rw [sizeV_row]
  exact Int.mul_le_mul_of_nonneg_right (by show _ ≤ a.1; omega) (rowV_in _).1
theorem most_all {n : Node} {l : List I4} {z : I4} (h : NodeOK n l z) {b : Int} {L : List I2} {y : I3} (hb : MostOK n l z b L y) : takes y ≤ 2 * allV z l := by
  obtain ⟨t0, c0, d0⟩ := hb.at0
  obtain ⟨t1, c1, d1⟩ := hb.at1
  obtain ⟨t2, c2, d2⟩ := hb.at2
  have i0 := hb.ok _ c0
  have i1 := hb.ok _ c1
  have i2 := hb.ok _ c2
  have ho : t2.2 * rowV (vS z) ≤ sizeV (vS z) := by
    rw [sizeV_row]
    exact Int.mul_le_mul_of_nonneg_right (by show _ ≤ z.1; omega) (rowV_in _).1
  rcases h.len with hh | hh
  · obtain ⟨a, rfl⟩ := List.length_eq_one_iff.1 hh
    have u0 := ln_size h i0.1 i0.2.1 i0.2.2.2 (a := a) (by simp)
    simp only [sz] at d0 d1 d2
    unfold takes
    simp only [allV]
    omega
  · obtain ⟨a, b, rfl⟩ := len2 hh
    have u0 := ln_size h i0.1 i0.2.1 i0.2.2.2 (a := a) (by simp)
    have u1 := ln_size h i1.1 i1.2.1 i1.2.2.2 (a := b) (by simp)
    simp only [sz] at d0 d1 d2
    unfold takes
    simp only [allV]
    omega
theorem all_run {n : Node} {l : List I4} {z : I4} (h : NodeOK n l z) : ∃ i : Int, iterN (law16_TileRooms_l13_p l) LL (sizeV (vS z), 0) = some (allV z l, i) := by
  have sv := sizeV_in (vS z)
  rcases h.len with hh | hh
  · obtain ⟨a, rfl⟩ := List.length_eq_one_iff.1 hh
    have sa := sizeV_in (vS a)
    have w := i64_in (sizeV (vS z) + sizeV (vS a)) (by omega)
    have e : ref02_Size (a.1, a.2.1, a.2.2.1) = sizeV (vS a) := ref02_Size_eq _
    refine ⟨1, iterN_for (p := law16_TileRooms_l13_p [a]) (z := (allV z [a], 1)) 1 (fun i => match i with | 0 => (sizeV (vS z), (0 : Int)) | _ => (allV z [a], 1)) LL (LL_lt (by omega)) (fun i hi => ?_) rfl⟩
    have : i = 0 := by omega
    subst this
    have e2 : law16_TileRooms_r15_p [a] (sizeV (vS z), 0) = some (IntKind.wrap .i64 (sizeV (vS z) + ref02_Size (a.1, a.2.1, a.2.2.1))) := rfl
    rw [e, w] at e2
    simp only [law16_TileRooms_l13_p, e2]
    rfl
  · obtain ⟨a, b, rfl⟩ := len2 hh
    have sa := sizeV_in (vS a)
    have sb := sizeV_in (vS b)
    have w := i64_in (sizeV (vS z) + sizeV (vS a)) (by omega)
    have w2 := i64_in (sizeV (vS z) + sizeV (vS a) + sizeV (vS b)) (by omega)
    have e : ref02_Size (a.1, a.2.1, a.2.2.1) = sizeV (vS a) := ref02_Size_eq _
    have e' : ref02_Size (b.1, b.2.1, b.2.2.1) = sizeV (vS b) := ref02_Size_eq _
    refine ⟨2, iterN_for (p := law16_TileRooms_l13_p [a, b]) (z := (allV z [a, b], 2)) 2 (fun i => match i with | 0 => (sizeV (vS z), (0 : Int)) | 1 => (sizeV (vS z) + sizeV (vS a), 1) | _ => (allV z [a, b], 2)) LL (LL_lt (by omega)) (fun i hi => ?_) rfl⟩
    have : i = 0 ∨ i = 1 := by omega
    rcases this with rfl | rfl
    · have e2 : law16_TileRooms_r15_p [a, b] (sizeV (vS z), 0) = some (IntKind.wrap .i64 (sizeV (vS z) + ref02_Size (a.1, a.2.1, a.2.2.1))) := rfl
      rw [e, w] at e2
      simp only [law16_TileRooms_l13_p, e2]
      rfl
    · have e2 : law16_TileRooms_r15_p [a, b] (sizeV (vS z) + sizeV (vS a), 1) = some (IntKind.wrap .i64 (sizeV (vS z) + sizeV (vS a) + ref02_Size (b.1, b.2.1, b.2.2.1))) := rfl
      rw [e', w2] at e2
      simp only [law16_TileRooms_l13_p, e2]
      rfl
theorem TileRooms_true (n : Node) (l : List I4) (at_ : I2) (_ : Ts.ok tsNode n) (_ : Ts.ok (.one (.sl tsI4)) l) (kt : Ts.ok (.cons (.int .u8) (.one (.int .u8))) at_) : law16_TileRooms n l at_ = some true := by
  have ht1 : 0 ≤ at_.1 ∧ at_.1 ≤ 255 := kt.1
  have ht2 : 0 ≤ at_.2 ∧ at_.2 ≤ 255 := kt.2
  obtain ⟨m, em, hm⟩ := few16_ok n
  obtain ⟨q, ek, hk⟩ := some16_ok l
  obtain ⟨v, e1, e2⟩ := Value_eq m q hk hm.2.2
  unfold law16_TileRooms
  simp only [shown16, em, ek, e2, Option.bind_some]
  by_cases hv : v.2 = 0
  · obtain ⟨z, v2⟩ := v
    replace hv : v2 = 0 := hv
    subst hv
    have h := value_ok hk hm.2.2 e2
    have hz := mayB_iff.1 h.may
    simp only [vS] at hz
    obtain ⟨p1, p2, p3⟩ := one_mod at_.1 z.1 ht1 (by omega) (by omega)
    obtain ⟨q1, q2, q3⟩ := one_mod at_.2 z.1 ht2 (by omega) (by omega)
    have hr7 : law16_TileRooms_r7_p (z, 0) = some () := by
      simp only [law16_TileRooms_r7_p]
      rw [show (z.1 == 0) = false by simp only [beq_eq_false_iff_ne]; omega]
      rfl
    have hr8 : law16_TileRooms_r8_p (z, 0) = some () := hr7
    simp only [bne_self_eq_false, cond_false, hr7, hr8, p1, q1, Option.bind_some]
    generalize 1 + at_.1 % z.1 = a at *
    generalize 1 + at_.2 % z.1 = b at *
    obtain ⟨x, La, hx, hMx⟩ := Most_of m q z hk hm.2.2 e2 (min a b) (by omega) (by omega)
    obtain ⟨y, Lb, hy, hMy⟩ := Most_of m q z hk hm.2.2 e2 (max a b) (by omega) (by omega)
    obtain ⟨w, Lw, hw, hMw⟩ := Most_of m q z hk hm.2.2 e2 z.1 (by omega) (by omega)
    obtain ⟨i, hi⟩ := all_run h
    obtain ⟨c, c1, c2, c3, c4, c5, c6⟩ := best_run m q z hk hm.2.2 e2
    obtain ⟨f1, _⟩ := nodeF m _ h.node
    obtain ⟨np1, np2⟩ := npu_of m.1 f1.1 (by omega)
    rw [np1] at c5
    have hs : ref02_Size (z.1, z.2.1, z.2.2.1) = sizeV (vS z) := ref02_Size_eq _
    simp only [(need_run hx).1, (need_run hy).1, hs, hi, c1, np2, Option.bind_some]
    have g1 := most_mono h hMx hMy (by omega) (by omega)
    have g2 := most_all h hMy
    have g3 := most_all h hMw
    have hall : 0 ≤ allV z q ∧ allV z q ≤ 10000 := by
      have sv := sizeV_in (vS z)
      rcases h.len with hh | hh
      · obtain ⟨a, rfl⟩ := List.length_eq_one_iff.1 hh
        have sa := sizeV_in (vS a)
        simp only [allV]
        omega
      · obtain ⟨a, b, rfl⟩ := len2 hh
        have sa := sizeV_in (vS a)
        have sb := sizeV_in (vS b)
        simp only [allV]
        omega
    have wl := i64_in (2 * allV z q) (by omega)
    generalize hp : decide (m.1 ≠ 3 ∧ m.1 ≠ 9 ∧ m.1 ≠ 10 ∧ m.1 ≠ 11) = p at *
    simp only [law16_TileRooms_r19_p, law16_TileRooms_r19_q, law16_TileRooms_r18_p, law16_TileRooms_r18_q, wl, beq_self_eq_true, cond_true]
    rw [decide_eq_true g1, decide_eq_true g2]
    simp only [cond_true]
    by_cases hf : 2 * allV z q ≤ 1024
    · rw [decide_eq_true hf]
      simp only [cond_true]
      cases p with
      | false => rfl
      | true =>
        have hB := c5 rfl
        have hc : c = z.1 := by
          by_cases hcz : c < z.1
          · have := hB.more z.1 hcz (Int.le_refl _)
            rw [tk_eq hw] at this
            omega
          · omega
        rw [hc]
        simp
    · rw [decide_eq_false hf]
      rfl
  · rw [show (v.2 != 0) = true by simpa using hv]
    rfl
end Go.V.P
