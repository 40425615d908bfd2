/- Plain laws of layer 16, for layers above: how much rows take, how many fit, where they lie. -/
import Derived.Test.YtaeckbkjlmnigaaLNd3
import Derived.Test.YtaeckbkjlmnigaaBm1
import Derived.Test.YtaeckbkjlmnigaaBm1
import Derived.Test.YtaeckbkjlmnigaaBm4
import Derived.Test.YtaeckbkjlmnigaaBm4
namespace Go.V.P
open Go Go.V Go.IntWalk
set_option linter.unusedVariables false
set_option linter.unusedSimpArgs false
set_option maxRecDepth 20000
structure MostAt (n : Node) (l : List I4) (rows : Int) (v : I4 × Int) (m : I3) (e : Int) : Prop where
  halo : halo_Most n l rows = some (m, e)
  ref : ref15_Most n l rows = some (m, e)
  val : ref03_Value n l = some v
  gval : graph_Value n l = some v
  b0 : 0 ≤ m.1 ∧ m.1 ≤ 2048
  b1 : 0 ≤ m.2.1 ∧ m.2.1 ≤ 2048
  b2 : 0 ≤ m.2.2 ∧ m.2.2 ≤ 2048
  bad : v.2 ≠ 0 → e = v.2 ∧ m = (0, 0, 0)
  out : v.2 = 0 → ¬ (1 ≤ rows ∧ rows ≤ v.1.1) → e = 1 ∧ m = (0, 0, 0)
  ok : v.2 = 0 → 1 ≤ rows ∧ rows ≤ v.1.1 → e = 0 ∧ ∃ L, MostOK n l v.1 rows L m
theorem sz_up {n : Node} {l : List I4} {z : I4} (h : NodeOK n l z) {first rows : Int} (h1 : 0 ≤ first) (h2 : 1 ≤ rows) (h3 : first + rows ≤ z.1) : (sz n z first rows l).1 ≤ 2048 ∧ (sz n z first rows l).2.1 ≤ 2048 ∧ (sz n z first rows l).2.2 ≤ 2048 := by
  have hm := mayB_iff.1 h.may
  simp only [vS] at hm
  have ho := out_in (z := z) h2 (by omega)
  rcases h.len with hh | hh
  · obtain ⟨a, rfl⟩ := List.length_eq_one_iff.1 hh
    exact ⟨(ln_in h h1 h2 h3 (a := a) (by simp)).2, by show (0 : Int) ≤ 2048; omega, ho.2⟩
  · obtain ⟨a, b, rfl⟩ := len2 hh
    exact ⟨(ln_in h h1 h2 h3 (a := a) (by simp)).2, (ln_in h h1 h2 h3 (a := b) (by simp)).2, ho.2⟩
theorem Most_at (n : Node) (l : List I4) (rows : Int) (hl : l.length < 1000000) (hB : (nB n).length < 1000000) : ∃ v m e, MostAt n l rows v m e := by
  obtain ⟨v, e1, e2⟩ := Value_eq n l hl hB
  obtain ⟨y, y1, y2⟩ := Most_eq n l rows hl hB
  by_cases hv : v.2 = 0
  · obtain ⟨z, v2⟩ := v
    replace hv : v2 = 0 := hv
    subst hv
    have h := value_ok hl hB e2
    by_cases hr : 1 ≤ rows ∧ rows ≤ z.1
    · obtain ⟨L, m, hM⟩ := Most_run hB hl e2 hr.1 hr.2
      have hy : y = (m, 0) := Option.some.inj (y1.symm.trans hM.most)
      subst hy
      have hin : ∀ t ∈ L, 0 ≤ t.1 ∧ 1 ≤ t.2 ∧ t.1 + t.2 ≤ z.1 := fun t ht => by have := hM.ok t ht; omega
      obtain ⟨t0, c0, d0⟩ := hM.at0
      obtain ⟨t1, c1, d1⟩ := hM.at1
      obtain ⟨t2, c2, d2⟩ := hM.at2
      have i0 := hin _ c0
      have i1 := hin _ c1
      have i2 := hin _ c2
      exact ⟨(z, 0), m, 0, y1, y2, e2, e1, by rw [← d0]; exact ⟨(sz_in h i0.1 i0.2.1 i0.2.2).1, (sz_up h i0.1 i0.2.1 i0.2.2).1⟩, by rw [← d1]; exact ⟨(sz_in h i1.1 i1.2.1 i1.2.2).2.1, (sz_up h i1.1 i1.2.1 i1.2.2).2.1⟩,
        by rw [← d2]; exact ⟨(sz_in h i2.1 i2.2.1 i2.2.2).2.2, (sz_up h i2.1 i2.2.1 i2.2.2).2.2⟩, fun h => absurd rfl h, fun _ h => absurd hr h, fun _ _ => ⟨rfl, L, hM⟩⟩
    · have hc : halo_Most_r4_p rows (z, 0) = true := by
        simp only [halo_Most_r4_p, halo_Most_r4_q]
        by_cases h1 : rows < 1
        · rw [decide_eq_true h1]; rfl
        · rw [decide_eq_false h1, decide_eq_true (by omega : rows > z.1)]; rfl
      have hy : y = ((0, 0, 0), 1) := by
        have := y1
        unfold halo_Most at this
        rw [e1] at this
        simp only [Option.bind_some, bne_self_eq_false, cond_false, hc, cond_true] at this
        exact (Option.some.inj this).symm
      subst hy
      exact ⟨(z, 0), _, _, y1, y2, e2, e1, by decide, by decide, by decide, fun h => absurd rfl h, fun _ _ => ⟨rfl, rfl⟩, fun _ h => absurd h hr⟩
  · have hy : y = ((0, 0, 0), v.2) := by
      have := y1
      unfold halo_Most at this
      rw [e1] at this
      simp only [Option.bind_some] at this
      rw [show (v.2 != 0) = true by simpa using hv] at this
      exact (Option.some.inj this).symm
    subst hy
    exact ⟨v, _, _, y1, y2, e2, e1, by decide, by decide, by decide, fun _ => ⟨rfl, rfl⟩, fun h => absurd h hv, fun h => absurd h hv⟩
def takes (m : I3) : Int := 2 * (m.1 + m.2.1 + m.2.2)
theorem need_run {n : Node} {l : List I4} {rows : Int} {v : I4 × Int} {m : I3} {e : Int} (h : MostAt n l rows v m e) : tile_Need n l rows = some (takes m, e) ∧ ref16_Need n l rows = some (takes m, e) := by
  have b0 := h.b0
  have b1 := h.b1
  have b2 := h.b2
  constructor
  · unfold tile_Need
    rw [h.halo]
    have : iterN (tile_Need_l4_p (m, e)) LL (0, 0) = some (takes m, 3) := iterN_for (p := tile_Need_l4_p (m, e)) (z := (takes m, 3)) 3 (fun i => match i with | 0 => ((0 : Int), (0 : Int)) | 1 => (2 * m.1, 1) | 2 => (2 * m.1 + 2 * m.2.1, 2) | _ => (takes m, 3)) LL (LL_lt (by omega)) (fun i hi => by
      have : i = 0 ∨ i = 1 ∨ i = 2 := by omega
      rcases this with rfl | rfl | rfl
      · have w1 := i64_in (2 * m.1) (by omega)
        simp only [tile_Need_l4_p, tile_Need_r5_p]
        show some (Sum.inl (IntKind.wrap .i64 (0 + IntKind.wrap .i64 (2 * m.1)), (1 : Int))) = _
        rw [w1, Int.zero_add, w1]
      · have w1 := i64_in (2 * m.2.1) (by omega)
        simp only [tile_Need_l4_p, tile_Need_r5_p]
        show some (Sum.inl (IntKind.wrap .i64 (2 * m.1 + IntKind.wrap .i64 (2 * m.2.1)), (2 : Int))) = _
        rw [w1, i64_in _ (by omega)]
      · have w1 := i64_in (2 * m.2.2) (by omega)
        simp only [tile_Need_l4_p, tile_Need_r5_p]
        show some (Sum.inl (IntKind.wrap .i64 (2 * m.1 + 2 * m.2.1 + IntKind.wrap .i64 (2 * m.2.2)), (3 : Int))) = _
        rw [w1, i64_in _ (by omega)]
        unfold takes
        congr 3
        omega) rfl
    simp only [Option.bind_some, this]
  · unfold ref16_Need
    rw [h.ref]
    simp only [Option.bind_some, ref16_Need_r2_p, ref16_Need_r2_q]
    rw [i64_in (m.1 + m.2.1) (by omega), i64_in (m.1 + m.2.1 + m.2.2) (by omega), i64_in _ (by omega)]
    rfl
def bufs (m : I3) (e : Int) : I7 × Int := if e = 0 then if 1024 < takes m then ((0, 0, 0, 0, 0, 0, 0), 26) else ((0, m.1, 2 * m.1, 2 * m.1 + m.2.1, 2 * m.1 + 2 * m.2.1, 2 * m.1 + 2 * m.2.1 + m.2.2, takes m), 0) else ((0, 0, 0, 0, 0, 0, 0), e)
theorem two_run (size at_ : Int) (h1 : 0 ≤ size ∧ size ≤ 2048) (h2 : 0 ≤ at_ ∧ at_ ≤ 100000) : tile_Bufs_1 size at_ = some ((at_, at_ + size), at_ + 2 * size) := by
  unfold tile_Bufs_1
  rw [i64_in (at_ + size) (by omega), i64_in (2 * size) (by omega), i64_in _ (by omega)]
theorem bufs_run {n : Node} {l : List I4} {rows : Int} {v : I4 × Int} {m : I3} {e : Int} (h : MostAt n l rows v m e) : tile_Bufs n l rows = some (bufs m e) := by
  have b0 := h.b0
  have b1 := h.b1
  have b2 := h.b2
  have ht : takes m = 2 * (m.1 + m.2.1 + m.2.2) := rfl
  unfold tile_Bufs bufs
  rw [h.halo]
  simp only [Option.bind_some]
  by_cases he : e = 0
  · subst he
    have t0 := two_run m.1 0 b0 (by omega)
    have t1 := two_run m.2.1 (2 * m.1) b1 (by omega)
    have t2 := two_run m.2.2 (2 * m.1 + 2 * m.2.1) b2 (by omega)
    rw [Int.zero_add, Int.zero_add] at t0
    have : iterN (tile_Bufs_l8_p (m, 0)) LL (0, 0, 0, 0, 0, 0) = some (2, 2 * m.1 + 2 * m.2.1, 0, m.1, 2 * m.1, 2 * m.1 + m.2.1) := iterN_for (p := tile_Bufs_l8_p (m, 0)) (z := (2, 2 * m.1 + 2 * m.2.1, 0, m.1, 2 * m.1, 2 * m.1 + m.2.1)) 2 (fun i => match i with | 0 => ((0 : Int), (0 : Int), (0 : Int), (0 : Int), (0 : Int), (0 : Int)) | 1 => (1, 2 * m.1, 0, m.1, 0, 0) | _ => (2, 2 * m.1 + 2 * m.2.1, 0, m.1, 2 * m.1, 2 * m.1 + m.2.1)) LL (LL_lt (by omega)) (fun i hi => by
      have : i = 0 ∨ i = 1 := by omega
      rcases this with rfl | rfl
      · simp only [tile_Bufs_l8_p, tile_Bufs_r10_p, t0]
        rfl
      · simp only [tile_Bufs_l8_p, tile_Bufs_r10_p, t1]
        rfl) rfl
    simp only [bne_self_eq_false, cond_false, this, Option.bind_some, t2, if_true]
    rw [show 2 * m.1 + 2 * m.2.1 + 2 * m.2.2 = takes m by rw [ht]; omega]
    by_cases hc : 1024 < takes m
    · rw [decide_eq_true hc, if_pos hc]; rfl
    · rw [decide_eq_false hc, if_neg hc]; rfl
  · rw [show (e != 0) = true by simpa using he, if_neg he]
    rfl
theorem npu_of (x : Int) (h1 : 1 ≤ x) (h2 : x < 1 + (12 : Nat)) : halo_Npu x = some (decide (x ≠ 3 ∧ x ≠ 9 ∧ x ≠ 10 ∧ x ≠ 11)) ∧ ref15_Npu x = some (decide (x ≠ 3 ∧ x ≠ 9 ∧ x ≠ 10 ∧ x ≠ 11)) := by
  revert x; refine rng1 fun i hi => ?_
  revert i
  decide +kernel
def tk (n : Node) (l : List I4) (r : Int) : Int := match tile_Need n l r with
  | some z => z.1
  | none => 0
theorem tk_eq {n : Node} {l : List I4} {rows : Int} {v : I4 × Int} {m : I3} {e : Int} (h : MostAt n l rows v m e) : tk n l rows = takes m := by
  unfold tk
  rw [(need_run h).1]
theorem need_at (n : Node) (l : List I4) (z : I4) (hl : l.length < 1000000) (hB : (nB n).length < 1000000) (hv : ref03_Value n l = some (z, 0)) (r : Int) (h1 : 1 ≤ r) (h2 : r ≤ z.1) : tile_Need n l r = some (tk n l r, 0) ∧ ref16_Need n l r = some (tk n l r, 0) := by
  obtain ⟨v, m, e, h⟩ := Most_at n l r hl hB
  have : v = (z, 0) := Option.some.inj (h.val.symm.trans hv)
  subst this
  obtain ⟨h3, _⟩ := h.ok rfl ⟨h1, h2⟩
  subst h3
  have := need_run h
  rw [tk_eq h]
  exact this
structure BestIs (n : Node) (l : List I4) (z : I4) (b : Int) : Prop where
  lo : 0 ≤ b
  hi : b ≤ z.1
  fit : b = 0 ∨ tk n l b ≤ 1024
  more : ∀ r, b < r → r ≤ z.1 → 1024 < tk n l r
theorem best_one {n : Node} {l : List I4} {z : I4} {a b : Int} (ha : BestIs n l z a) (hb : BestIs n l z b) : a = b := by
  by_cases h1 : a < b
  · have := ha.more b h1 hb.hi
    have := hb.fit
    have := ha.lo
    omega
  · by_cases h2 : b < a
    · have := hb.more a h2 ha.hi
      have := ha.fit
      have := hb.lo
      omega
    · omega
theorem best_run (n : Node) (l : List I4) (z : I4) (hl : l.length < 1000000) (hB : (nB n).length < 1000000) (hv : ref03_Value n l = some (z, 0)) :
    ∃ b, tile_Best n l = some (b, 0) ∧ 0 ≤ b ∧ b ≤ z.1 ∧ (halo_Npu n.1 = some true → BestIs n l z b) ∧ (halo_Npu n.1 = some false → b = 0) := by
  have h := value_ok hl hB hv
  have hz := mayB_iff.1 h.may
  simp only [vS] at hz
  obtain ⟨v, e1, e2⟩ := Value_eq n l hl hB
  have : v = (z, 0) := Option.some.inj (e2.symm.trans hv)
  subst this
  obtain ⟨f1, _⟩ := nodeF n _ h.node
  obtain ⟨np1, np2⟩ := npu_of n.1 f1.1 (by omega)
  unfold tile_Best
  rw [e1]
  simp only [Option.bind_some, bne_self_eq_false, cond_false, tile_Best_r2_p, np1]
  by_cases hp : n.1 ≠ 3 ∧ n.1 ≠ 9 ∧ n.1 ≠ 10 ∧ n.1 ≠ 11
  · rw [decide_eq_true hp] at np1 np2 ⊢
    simp only [Bool.not_true, cond_false]
    have ha : ∃ y : Int ⊕ Int, iterN (tile_Best_l5_p n l) LL z.1 = some y ∧ BestIs n l z (either (fun _ => 0) (fun b => b) y) := by
      refine iterN_inv (fun s : Int => 0 ≤ s ∧ s ≤ z.1 ∧ ∀ r, s < r → r ≤ z.1 → 1024 < tk n l r) (fun s => s.toNat) (fun s hs => ?_) LL z.1 ⟨by omega, by omega, fun r h1 h2 => by omega⟩ (LL_lt (by omega))
      obtain ⟨a1, a2, a3⟩ := hs
      unfold tile_Best_l5_p
      by_cases hc : s > 0
      · rw [decide_eq_true hc, (need_at n l z hl hB hv s (by omega) a2).1]
        simp only [cond_true, Option.bind_some]
        by_cases ht : tk n l s ≤ 1024
        · rw [decide_eq_true ht]
          exact .inr ⟨_, rfl, by show 0 ≤ s; omega, a2, .inr ht, a3⟩
        · rw [decide_eq_false ht]
          refine .inl ⟨_, rfl, ?_, ?_⟩
          · rw [i64_in (s - 1) (by omega)]
            refine ⟨by omega, by omega, fun r h1 h2 => ?_⟩
            by_cases hr : r = s
            · subst hr; omega
            · exact a3 r (by omega) h2
          · rw [i64_in (s - 1) (by omega)]; omega
      · rw [decide_eq_false hc]
        exact .inr ⟨_, rfl, by show (0 : Int) ≤ 0; omega, by show (0 : Int) ≤ z.1; omega, .inl rfl, fun r h1 h2 => a3 r (by simp only [either] at h1; omega) h2⟩
    obtain ⟨y, y1, y2⟩ := ha
    rw [y1]
    refine ⟨either (fun _ => 0) (fun b => b) y, ?_, y2.lo, y2.hi, fun _ => y2, fun h => (by cases h)⟩
    cases y <;> rfl
  · rw [decide_eq_false hp] at np1 np2 ⊢
    exact ⟨0, rfl, by omega, by omega, fun h => (by cases h), fun _ => rfl⟩
theorem nodeP (n : Node) (k : Int) (h : ref03_node n k = true) (hw : wop n.1) : n.2.2.2.2.1 ≤ 1 := by
  obtain ⟨op, i, K, S, P, O, M, Sh, Z, t1, t2, t3, W, B⟩ := n
  unfold wop at hw
  simp only at hw
  rcases hw with rfl | rfl | rfl | rfl <;>
    simp [ref03_node, ref03_node_q, ref03_node_r17_p, ref03_node_r17_q, ref03_node_r16_p, ref03_node_r16_q, ref03_node_r15_p, ref03_node_r15_q, ref03_node_j13_p, ref03_node_j13_q, ref03_node_r13_p, ref03_node_r13_q, ref03_node_j10_p, ref03_node_j10_q, ref03_node_j8_p, ref03_node_j8_q, ref03_node_r9_p, ref03_node_r9_q, ref03_node_r8_p, ref03_node_r8_q, ref03_node_j5_p, ref03_node_j5_q, ref03_node_r6_p, ref03_node_r6_q, ref03_node_r4_p, ref03_node_r4_q, ref03_node_j2_p, ref03_node_j2_q, ref03_Two, ref03_Two_q, ref03_Two_r1_p, ref03_Two_r1_q, ref03_Window, ref03_Window_q, ref03_Window_r1_p, ref03_Window_r1_q, in_iff] at h ⊢ <;> omega
theorem nd_up {n : Node} {l : List I4} {z : I4} (h : NodeOK n l z) {f r b : Int} (h1 : 0 ≤ f) (h2 : 1 ≤ r) (h3 : f + r ≤ z.1) (h4 : r < b) (h5 : b ≤ z.1) {a : I4} (ha : a ∈ l) :
    (ndV n f r a.1).2 - (ndV n f r a.1).1 ≤ (ndV n 0 b a.1).2 - (ndV n 0 b a.1).1 := by
  have i1 := nd_in h h1 h2 h3 ha
  have i3 := nd_in h (first := 0) (rows := b) (by omega) (by omega) (by omega) ha
  by_cases hp : wop n.1
  · obtain ⟨g1, g2, g3⟩ := win_of h hp ha
    have hb := winB_iff.1 g1
    have hP := nodeP n _ h.node hp
    unfold ndV at *
    simp only [if_pos hp] at *
    have e1 : (f + r - 1) * n.2.2.2.1 = f * n.2.2.2.1 + (r - 1) * n.2.2.2.1 := by rw [← Int.add_mul]; congr 1; omega
    have e2 : (0 + b - 1) * n.2.2.2.1 = (b - 1 - r) * n.2.2.2.1 + ((r - 1) * n.2.2.2.1 + n.2.2.2.1) := by
      have : (r - 1) * n.2.2.2.1 + n.2.2.2.1 = r * n.2.2.2.1 := by rw [Int.sub_mul]; omega
      rw [this, ← Int.add_mul]; congr 1; omega
    have m0 : 0 ≤ (b - 1 - r) * n.2.2.2.1 := Int.mul_nonneg (by omega) (by omega)
    have m1 : 0 ≤ f * n.2.2.2.1 := Int.mul_nonneg h1 (by omega)
    have m2 : 0 ≤ (r - 1) * n.2.2.2.1 := Int.mul_nonneg (by omega) (by omega)
    rw [e1, e2, Int.zero_mul] at *
    omega
  · by_cases h9 : n.1 = 9
    · have hq := pad_of h h9 ha
      unfold ndV
      simp only [if_neg hp, if_pos h9]
      unfold padV
      split <;> split <;> (simp only) <;> omega
    · by_cases h11 : n.1 = 3 ∨ n.1 = 11
      · unfold ndV; simp only [if_neg hp, if_neg h9, if_pos h11]; omega
      · unfold ndV; simp only [if_neg hp, if_neg h9, if_neg h11]; omega
theorem sz_mono {n : Node} {l : List I4} {z : I4} (h : NodeOK n l z) {f r b : Int} (h1 : 0 ≤ f) (h2 : 1 ≤ r) (h3 : f + r ≤ z.1) (h4 : r < b) (h5 : b ≤ z.1) :
    (sz n z f r l).1 ≤ (sz n z 0 b l).1 ∧ (sz n z f r l).2.1 ≤ (sz n z 0 b l).2.1 ∧ (sz n z f r l).2.2 ≤ (sz n z 0 b l).2.2 := by
  have hr : r * rowV (vS z) ≤ b * rowV (vS z) := Int.mul_le_mul_of_nonneg_right (by omega) (rowV_in _).1
  have hl : ∀ a ∈ l, lnV n f r a ≤ lnV n 0 b a := fun a ha => Int.mul_le_mul_of_nonneg_right (nd_up h h1 h2 h3 h4 h5 ha) (rowV_in _).1
  rcases h.len with hh | hh
  · obtain ⟨a, rfl⟩ := List.length_eq_one_iff.1 hh
    exact ⟨hl a (by simp), Int.le_refl _, hr⟩
  · obtain ⟨a, b, rfl⟩ := len2 hh
    exact ⟨hl a (by simp), hl b (by simp), hr⟩
theorem most_mono {n : Node} {l : List I4} {z : I4} (h : NodeOK n l z) {a b : Int} {La Lb : List I2} {x y : I3} (ha : MostOK n l z a La x) (hb : MostOK n l z b Lb y) (h1 : a ≤ b) (h2 : b ≤ z.1) : takes x ≤ takes y := by
  by_cases hab : a = b
  · subst hab
    have : x = y := by
      have := ha.most.symm.trans hb.most
      simp only [Option.some.injEq, Prod.mk.injEq, and_true] at this
      exact this
    rw [this]
    exact Int.le_refl _
  · have hfb := hb.le _ hb.first
    have hin : ∀ t ∈ La, 0 ≤ t.1 ∧ 1 ≤ t.2 ∧ t.1 + t.2 ≤ z.1 ∧ t.2 < b := fun t ht => by have := ha.ok t ht; omega
    obtain ⟨t0, c0, d0⟩ := ha.at0
    obtain ⟨t1, c1, d1⟩ := ha.at1
    obtain ⟨t2, c2, d2⟩ := ha.at2
    have i0 := hin _ c0
    have i1 := hin _ c1
    have i2 := hin _ c2
    have s0 := (sz_mono h i0.1 i0.2.1 i0.2.2.1 i0.2.2.2 h2).1
    have s1 := (sz_mono h i1.1 i1.2.1 i1.2.2.1 i1.2.2.2 h2).2.1
    have s2 := (sz_mono h i2.1 i2.2.1 i2.2.2.1 i2.2.2.2 h2).2.2
    simp only at hfb
    unfold takes
    omega
end Go.V.P
