/- Plain laws of layer 16: how much rows take, and which fit. -/
import Derived.Test.YtadljnfiehmmgaaLNd3
import Derived.Test.YtadljnfiehmmgaaTi5
import Derived.Test.YtadljnfiehmmgaaTi6
import Derived.Test.YtadljnfiehmmgaaTi4
namespace Go.V.P
open Go Go.V Go.IntWalk
set_option linter.unusedVariables false
set_option linter.unusedSimpArgs false
set_option maxRecDepth 20000
theorem few16_ok (n : Node) : ∃ m, law16_few n = some m ∧ okNode m := by
  obtain ⟨a, e1, h1⟩ := cut_ok n.2.1 20 (by omega)
  obtain ⟨b, e2, h2⟩ := cut_ok (nW n) 5000 (by omega)
  obtain ⟨c, e3, h3⟩ := cut_ok (nB n) 20 (by omega)
  have f1 : law16_few_j1_p n = some a := by
    rw [← e1]
    simp only [law16_few_j1_p, law16_few_r2_p]
    show (bif decide ((n.2.1.length : Int) > (20 : Nat)) then _ else _) = _
    cases decide ((n.2.1.length : Int) > (20 : Nat)) with
    | false => rfl
    | true => show Option.bind (bif decide (((20 : Nat) : Int) ≤ (n.2.1.length : Int)) then some () else none) _ = _; cases decide (((20 : Nat) : Int) ≤ (n.2.1.length : Int)) <;> rfl
  have f2 : law16_few_j3_p n = some b := by
    rw [← e2]
    simp only [law16_few_j3_p, law16_few_r4_p, Option.bind_fun_some]
    rfl
  have f3 : law16_few_j5_p n = some c := by
    rw [← e3]
    simp only [law16_few_j5_p, law16_few_r6_p, Option.bind_fun_some]
    rfl
  unfold law16_few
  rw [f1, f2, f3]
  exact ⟨_, rfl, h1, h2, h3⟩
theorem some16_ok (l : List I4) : ∃ m, law16_some l = some m ∧ m.length < 1000000 := by
  obtain ⟨a, e1, h1⟩ := cut_ok l 3 (by omega)
  refine ⟨a, ?_, h1⟩
  rw [← e1]
  simp only [law16_some, law16_some_r2_p]
  show (bif decide ((l.length : Int) > (3 : Nat)) then _ else _) = _
  cases decide ((l.length : Int) > (3 : Nat)) with
  | false => rfl
  | true => show Option.bind (bif decide (((3 : Nat) : Int) ≤ (l.length : Int)) then some () else none) _ = _; cases decide (((3 : Nat) : Int) ≤ (l.length : Int)) <;> rfl
theorem shown16 : law16_shown = some true := by decide +kernel
/-- what the most is, and what is wrong -/
structure MostAt (n : Node) (l : List I4) (rows : Int) (v : I4 × Int) (m : I3) (e : Int) : Prop where
  halo : halo_Most n l rows = some (m, e)
  ref : ref15_Most n l rows = some (m, e)
  val : ref03_Value n l = some v
  gval : graph_Value n l = some v
  b0 : 0 ≤ m.1 ∧ m.1 ≤ 2048
  b1 : 0 ≤ m.2.1 ∧ m.2.1 ≤ 2048
  b2 : 0 ≤ m.2.2 ∧ m.2.2 ≤ 2048
  bad : v.2 ≠ 0 → e = v.2 ∧ m = (0, 0, 0)
  out : v.2 = 0 → ¬ (1 ≤ rows ∧ rows ≤ v.1.1) → e = 1 ∧ m = (0, 0, 0)
  ok : v.2 = 0 → 1 ≤ rows ∧ rows ≤ v.1.1 → e = 0 ∧ ∃ L, MostOK n l v.1 rows L m
theorem sz_up {n : Node} {l : List I4} {z : I4} (h : NodeOK n l z) {first rows : Int} (h1 : 0 ≤ first) (h2 : 1 ≤ rows) (h3 : first + rows ≤ z.1) : (sz n z first rows l).1 ≤ 2048 ∧ (sz n z first rows l).2.1 ≤ 2048 ∧ (sz n z first rows l).2.2 ≤ 2048 := by
  have hm := mayB_iff.1 h.may
  simp only [vS] at hm
  have ho := out_in (z := z) h2 (by omega)
  rcases h.len with hh | hh
  · obtain ⟨a, rfl⟩ := List.length_eq_one_iff.1 hh
    exact ⟨(ln_in h h1 h2 h3 (a := a) (by simp)).2, by show (0 : Int) ≤ 2048; omega, ho.2⟩
  · obtain ⟨a, b, rfl⟩ := len2 hh
    exact ⟨(ln_in h h1 h2 h3 (a := a) (by simp)).2, (ln_in h h1 h2 h3 (a := b) (by simp)).2, ho.2⟩
theorem Most_at (n : Node) (l : List I4) (rows : Int) (hl : l.length < 1000000) (hB : (nB n).length < 1000000) : ∃ v m e, MostAt n l rows v m e := by
  obtain ⟨v, e1, e2⟩ := Value_eq n l hl hB
  obtain ⟨y, y1, y2⟩ := Most_eq n l rows hl hB
  by_cases hv : v.2 = 0
  · obtain ⟨z, v2⟩ := v
    replace hv : v2 = 0 := hv
    subst hv
    have h := value_ok hl hB e2
    by_cases hr : 1 ≤ rows ∧ rows ≤ z.1
    · obtain ⟨L, m, hM⟩ := Most_run hB hl e2 hr.1 hr.2
      have hy : y = (m, 0) := Option.some.inj (y1.symm.trans hM.most)
      subst hy
      have hin : ∀ t ∈ L, 0 ≤ t.1 ∧ 1 ≤ t.2 ∧ t.1 + t.2 ≤ z.1 := fun t ht => by have := hM.ok t ht; omega
      obtain ⟨t0, c0, d0⟩ := hM.at0
      obtain ⟨t1, c1, d1⟩ := hM.at1
      obtain ⟨t2, c2, d2⟩ := hM.at2
      have i0 := hin _ c0
      have i1 := hin _ c1
      have i2 := hin _ c2
      exact ⟨(z, 0), m, 0, y1, y2, e2, e1, by rw [← d0]; exact ⟨(sz_in h i0.1 i0.2.1 i0.2.2).1, (sz_up h i0.1 i0.2.1 i0.2.2).1⟩, by rw [← d1]; exact ⟨(sz_in h i1.1 i1.2.1 i1.2.2).2.1, (sz_up h i1.1 i1.2.1 i1.2.2).2.1⟩,
        by rw [← d2]; exact ⟨(sz_in h i2.1 i2.2.1 i2.2.2).2.2, (sz_up h i2.1 i2.2.1 i2.2.2).2.2⟩, fun h => absurd rfl h, fun _ h => absurd hr h, fun _ _ => ⟨rfl, L, hM⟩⟩
    · have hc : halo_Most_r4_p rows (z, 0) = true := by
        simp only [halo_Most_r4_p, halo_Most_r4_q]
        by_cases h1 : rows < 1
        · rw [decide_eq_true h1]; rfl
        · rw [decide_eq_false h1, decide_eq_true (by omega : rows > z.1)]; rfl
      have hy : y = ((0, 0, 0), 1) := by
        have := y1
        unfold halo_Most at this
        rw [e1] at this
        simp only [Option.bind_some, bne_self_eq_false, cond_false, hc, cond_true] at this
        exact (Option.some.inj this).symm
      subst hy
      exact ⟨(z, 0), _, _, y1, y2, e2, e1, by decide, by decide, by decide, fun h => absurd rfl h, fun _ _ => ⟨rfl, rfl⟩, fun _ h => absurd h hr⟩
  · have hy : y = ((0, 0, 0), v.2) := by
      have := y1
      unfold halo_Most at this
      rw [e1] at this
      simp only [Option.bind_some] at this
      rw [show (v.2 != 0) = true by simpa using hv] at this
      exact (Option.some.inj this).symm
    subst hy
    exact ⟨v, _, _, y1, y2, e2, e1, by decide, by decide, by decide, fun _ => ⟨rfl, rfl⟩, fun h => absurd h hv, fun h => absurd h hv⟩
/-- how much that takes -/
def takes (m : I3) : Int := 2 * (m.1 + m.2.1 + m.2.2)
theorem need_run {n : Node} {l : List I4} {rows : Int} {v : I4 × Int} {m : I3} {e : Int} (h : MostAt n l rows v m e) : tile_Need n l rows = some (takes m, e) ∧ ref16_Need n l rows = some (takes m, e) := by
  have b0 := h.b0
  have b1 := h.b1
  have b2 := h.b2
  constructor
  · unfold tile_Need
    rw [h.halo]
    have : iterN (tile_Need_l4_p (m, e)) LL (0, 0) = some (takes m, 3) := iterN_for (p := tile_Need_l4_p (m, e)) (z := (takes m, 3)) 3 (fun i => match i with | 0 => ((0 : Int), (0 : Int)) | 1 => (2 * m.1, 1) | 2 => (2 * m.1 + 2 * m.2.1, 2) | _ => (takes m, 3)) LL (LL_lt (by omega)) (fun i hi => by
      have : i = 0 ∨ i = 1 ∨ i = 2 := by omega
      rcases this with rfl | rfl | rfl
      · have w1 := i64_in (2 * m.1) (by omega)
        simp only [tile_Need_l4_p, tile_Need_r5_p]
        show some (Sum.inl (IntKind.wrap .i64 (0 + IntKind.wrap .i64 (2 * m.1)), (1 : Int))) = _
        rw [w1, Int.zero_add, w1]
      · have w1 := i64_in (2 * m.2.1) (by omega)
        simp only [tile_Need_l4_p, tile_Need_r5_p]
        show some (Sum.inl (IntKind.wrap .i64 (2 * m.1 + IntKind.wrap .i64 (2 * m.2.1)), (2 : Int))) = _
        rw [w1, i64_in _ (by omega)]
      · have w1 := i64_in (2 * m.2.2) (by omega)
        simp only [tile_Need_l4_p, tile_Need_r5_p]
        show some (Sum.inl (IntKind.wrap .i64 (2 * m.1 + 2 * m.2.1 + IntKind.wrap .i64 (2 * m.2.2)), (3 : Int))) = _
        rw [w1, i64_in _ (by omega)]
        unfold takes
        congr 3
        omega) rfl
    simp only [Option.bind_some, this]
  · unfold ref16_Need
    rw [h.ref]
    simp only [Option.bind_some, ref16_Need_r2_p, ref16_Need_r2_q]
    rw [i64_in (m.1 + m.2.1) (by omega), i64_in (m.1 + m.2.1 + m.2.2) (by omega), i64_in _ (by omega)]
    rfl
def bufs (m : I3) (e : Int) : I7 × Int := if e = 0 then if 1024 < takes m then ((0, 0, 0, 0, 0, 0, 0), 26) else ((0, m.1, 2 * m.1, 2 * m.1 + m.2.1, 2 * m.1 + 2 * m.2.1, 2 * m.1 + 2 * m.2.1 + m.2.2, takes m), 0) else ((0, 0, 0, 0, 0, 0, 0), e)
theorem two_run (size at_ : Int) (h1 : 0 ≤ size ∧ size ≤ 2048) (h2 : 0 ≤ at_ ∧ at_ ≤ 100000) : tile_Bufs_1 size at_ = some ((at_, at_ + size), at_ + 2 * size, at_, at_ + size) := by
  unfold tile_Bufs_1
  rw [i64_in (at_ + size) (by omega), i64_in (2 * size) (by omega), i64_in _ (by omega)]
theorem bufs_run {n : Node} {l : List I4} {rows : Int} {v : I4 × Int} {m : I3} {e : Int} (h : MostAt n l rows v m e) : tile_Bufs n l rows = some (bufs m e) ∧ ref16_Bufs n l rows = some (bufs m e) := by
  have b0 := h.b0
  have b1 := h.b1
  have b2 := h.b2
  have ht : takes m = 2 * (m.1 + m.2.1 + m.2.2) := rfl
  constructor
  · unfold tile_Bufs bufs
    rw [h.halo]
    simp only [Option.bind_some]
    by_cases he : e = 0
    · subst he
      have t0 := two_run m.1 0 b0 (by omega)
      have t1 := two_run m.2.1 (2 * m.1) b1 (by omega)
      have t2 := two_run m.2.2 (2 * m.1 + 2 * m.2.1) b2 (by omega)
      rw [Int.zero_add, Int.zero_add] at t0
      have : iterN (tile_Bufs_l8_p (m, 0)) LL (0, 0, 0, 0, 0, 0) = some (2, 2 * m.1 + 2 * m.2.1, 0, m.1, 2 * m.1, 2 * m.1 + m.2.1) := iterN_for (p := tile_Bufs_l8_p (m, 0)) (z := (2, 2 * m.1 + 2 * m.2.1, 0, m.1, 2 * m.1, 2 * m.1 + m.2.1)) 2 (fun i => match i with | 0 => ((0 : Int), (0 : Int), (0 : Int), (0 : Int), (0 : Int), (0 : Int)) | 1 => (1, 2 * m.1, 0, m.1, 0, 0) | _ => (2, 2 * m.1 + 2 * m.2.1, 0, m.1, 2 * m.1, 2 * m.1 + m.2.1)) LL (LL_lt (by omega)) (fun i hi => by
        have : i = 0 ∨ i = 1 := by omega
        rcases this with rfl | rfl
        · simp only [tile_Bufs_l8_p, tile_Bufs_r10_p, t0]
          rfl
        · simp only [tile_Bufs_l8_p, tile_Bufs_r10_p, t1]
          rfl) rfl
      simp only [bne_self_eq_false, cond_false, this, Option.bind_some, t2, if_true]
      rw [show 2 * m.1 + 2 * m.2.1 + 2 * m.2.2 = takes m by rw [ht]; omega]
      by_cases hc : 1024 < takes m
      · rw [decide_eq_true hc, if_pos hc]; rfl
      · rw [decide_eq_false hc, if_neg hc]; rfl
    · rw [show (e != 0) = true by simpa using he, if_neg he]
      rfl
  · unfold ref16_Bufs bufs
    rw [(need_run h).2, h.ref]
    simp only [Option.bind_some]
    by_cases he : e = 0
    · subst he
      have w1 := i64_in (2 * m.1) (by omega)
      have w2 := i64_in (2 * m.2.1) (by omega)
      have w3 := i64_in (2 * m.1 + 2 * m.2.1) (by omega)
      have w4 := i64_in (2 * m.1 + m.2.1) (by omega)
      have w5 := i64_in (2 * m.1 + 2 * m.2.1 + m.2.2) (by omega)
      simp only [bne_self_eq_false, cond_false, if_true, ref16_Bufs_r9_p, ref16_Bufs_r9_q, w1, w2, w3, w4, w5]
      by_cases hc : 1024 < takes m
      · rw [decide_eq_true hc, if_pos hc]; rfl
      · rw [decide_eq_false hc, if_neg hc]; rfl
    · rw [show (e != 0) = true by simpa using he, if_neg he]
      rfl
end Go.V.P
