/- Plain laws of layer 15: sizes and the most of them, told at once. -/
import Derived.Test.YtaeckbkjlmnigaaLNd2
import Derived.Test.YtaeckbkjlmnigaaLSizes
namespace Go.V.P
open Go Go.V Go.IntWalk
set_option linter.unusedVariables false
set_option linter.unusedSimpArgs false
set_option maxRecDepth 20000
def lnV (n : Node) (first rows : Int) (a : I4) : Int := ((ndV n first rows a.1).2 - (ndV n first rows a.1).1) * rowV (vS a)
def sz (n : Node) (z : I4) (first rows : Int) : List I4 → I3
  | [a] => (lnV n first rows a, 0, rows * rowV (vS z))
  | [a, b] => (lnV n first rows a, lnV n first rows b, rows * rowV (vS z))
  | _ => (0, 0, 0)
theorem ln_in {n : Node} {l : List I4} {z : I4} (h : NodeOK n l z) {first rows : Int} (h1 : 0 ≤ first) (h2 : 1 ≤ rows) (h3 : first + rows ≤ z.1) {a : I4} (ha : a ∈ l) : 0 ≤ lnV n first rows a ∧ lnV n first rows a ≤ 2048 := by
  have := nd_in h h1 h2 h3 ha
  have hr := rowV_in (vS a)
  exact mul_in' (c := 16) (d := 128) (by omega) (by omega) (by omega) (by omega)
theorem szV_eq {n : Node} {l : List I4} {z : I4} (h : NodeOK n l z) {first rows : Int} (h1 : 0 ≤ first) (h2 : 1 ≤ rows) (h3 : first + rows ≤ z.1) {a : I4} (ha : a ∈ l) : szV (ndV n first rows a.1).2 (ndV n first rows a.1).1 a = lnV n first rows a := by
  have := nd_in h h1 h2 h3 ha
  have hl := ln_in h h1 h2 h3 ha
  unfold szV
  rw [i64_in ((ndV n first rows a.1).2 - (ndV n first rows a.1).1) (by omega)]
  exact i64_in _ (by unfold lnV at hl; omega)
theorem out_in {z : I4} {rows : Int} (h2 : 1 ≤ rows) (h3 : rows ≤ 16) : 0 ≤ rows * rowV (vS z) ∧ rows * rowV (vS z) ≤ 2048 := by
  have hr := rowV_in (vS z)
  exact mul_in' (c := 16) (d := 128) (by omega) (by omega) (by omega) (by omega)
theorem sz_in {n : Node} {l : List I4} {z : I4} (h : NodeOK n l z) {first rows : Int} (h1 : 0 ≤ first) (h2 : 1 ≤ rows) (h3 : first + rows ≤ z.1) : 0 ≤ (sz n z first rows l).1 ∧ 0 ≤ (sz n z first rows l).2.1 ∧ 0 ≤ (sz n z first rows l).2.2 := by
  have hm := mayB_iff.1 h.may
  simp only [vS] at hm
  have ho := out_in (z := z) h2 (by omega)
  rcases h.len with hh | hh
  · obtain ⟨a, rfl⟩ := List.length_eq_one_iff.1 hh
    exact ⟨(ln_in h h1 h2 h3 (a := a) (by simp)).1, Int.le_refl 0, ho.1⟩
  · obtain ⟨a, b, rfl⟩ := len2 hh
    exact ⟨(ln_in h h1 h2 h3 (a := a) (by simp)).1, (ln_in h h1 h2 h3 (a := b) (by simp)).1, ho.1⟩
theorem Sizes_run {n : Node} {l : List I4} {z : I4} (hB : (nB n).length < 1000000) (hl : l.length < 1000000) (hv : ref03_Value n l = some (z, 0)) {first rows : Int} (h1 : 0 ≤ first) (h2 : 1 ≤ rows) (h3 : first + rows ≤ z.1) :
    halo_Sizes n l first rows = some (sz n z first rows l, 0) := by
  have h := value_ok hl hB hv
  have hm := mayB_iff.1 h.may
  simp only [vS] at hm
  have ho := out_in (z := z) h2 (by omega)
  obtain ⟨v, e1, e2⟩ := Value_eq n l hl hB
  have : v = (z, 0) := Option.some.inj (e2.symm.trans hv)
  subst this
  unfold halo_Sizes
  rw [Needs_run hB hl hv h1 h2 h3, e1]
  simp only [Option.bind_some, bne_self_eq_false, cond_false, shape_Row_eq]
  have hw : IntKind.wrap .i64 (rows * rowV (z.1, z.2.1, z.2.2.1)) = rows * rowV (vS z) := i64_in _ (by show _ ≤ rows * rowV (vS z) ∧ rows * rowV (vS z) ≤ _; omega)
  rcases h.len with hh | hh
  · obtain ⟨a, rfl⟩ := List.length_eq_one_iff.1 hh
    rw [halo_one]
    simp only [Option.bind_some, nd2, szV_eq h h1 h2 h3 (a := a) (by simp), hw, sz]
  · obtain ⟨a, b, rfl⟩ := len2 hh
    rw [halo_two]
    simp only [Option.bind_some, nd2, szV_eq h h1 h2 h3 (a := a) (by simp), szV_eq h h1 h2 h3 (a := b) (by simp), hw, sz]
def tilesB (h k : Int) : Bool := match halo_Tiles h k with
  | some L => decide (L.length < 100 ∧ (∀ t ∈ L, 0 ≤ t.1 ∧ 1 ≤ t.2 ∧ t.2 ≤ k ∧ t.1 + t.2 ≤ h) ∧ (0, k) ∈ L ∧ (k = h → L = [(0, h)]))
  | none => false
theorem tiles_ok (h k : Int) (h1 : 1 ≤ h) (h2 : h < 1 + (16 : Nat)) (h3 : 1 ≤ k) (h4 : k ≤ h) : ∃ L, halo_Tiles h k = some L ∧ L.length < 100 ∧ (∀ t ∈ L, 0 ≤ t.1 ∧ 1 ≤ t.2 ∧ t.2 ≤ k ∧ t.1 + t.2 ≤ h) ∧ (0, k) ∈ L ∧ (k = h → L = [(0, h)]) := by
  have key : k ≤ h → tilesB h k = true := by
    have h5 : k < 1 + (16 : Nat) := by omega
    clear h4
    revert k; refine rng1 fun j hj => ?_
    revert h; refine rng1 fun i hi => ?_
    revert j i
    decide +kernel
  have h5 := key h4
  unfold tilesB at h5
  cases hL : halo_Tiles h k with
  | none => rw [hL] at h5; cases h5
  | some L => rw [hL] at h5; exact ⟨L, rfl, of_decide_eq_true h5⟩
structure MostOK (n : Node) (l : List I4) (z : I4) (k : Int) (L : List I2) (m : I3) : Prop where
  tiles : halo_Tiles z.1 k = some L
  len : L.length < 100
  ok : ∀ t ∈ L, 0 ≤ t.1 ∧ 1 ≤ t.2 ∧ t.2 ≤ k ∧ t.1 + t.2 ≤ z.1
  first : (0, k) ∈ L
  whole : k = z.1 → L = [(0, z.1)]
  most : halo_Most n l k = some (m, 0)
  le : ∀ t ∈ L, (sz n z t.1 t.2 l).1 ≤ m.1 ∧ (sz n z t.1 t.2 l).2.1 ≤ m.2.1 ∧ (sz n z t.1 t.2 l).2.2 ≤ m.2.2
  at0 : ∃ t ∈ L, (sz n z t.1 t.2 l).1 = m.1
  at1 : ∃ t ∈ L, (sz n z t.1 t.2 l).2.1 = m.2.1
  at2 : ∃ t ∈ L, (sz n z t.1 t.2 l).2.2 = m.2.2
theorem gt_mem {α : Type} {l : List α} {i : Nat} (h : i < l.length) (d : α) : gt l (i : Int) d ∈ l := by
  unfold gt
  rw [show ((i : Int).toNat) = i by omega, List.getD_eq_getElem?_getD, List.getElem?_eq_getElem h]
  exact List.getElem_mem h
theorem mem_gt {α : Type} {l : List α} {t : α} (h : t ∈ l) (d : α) : ∃ i : Nat, i < l.length ∧ gt l (i : Int) d = t := by
  obtain ⟨i, hi, e⟩ := List.mem_iff_getElem.1 h
  refine ⟨i, hi, ?_⟩
  unfold gt
  rw [show ((i : Int).toNat) = i by omega, List.getD_eq_getElem?_getD, List.getElem?_eq_getElem hi]
  exact e
theorem Most_run {n : Node} {l : List I4} {z : I4} (hB : (nB n).length < 1000000) (hl : l.length < 1000000) (hv : ref03_Value n l = some (z, 0)) {k : Int} (h1 : 1 ≤ k) (h2 : k ≤ z.1) : ∃ L m, MostOK n l z k L m := by
  have h := value_ok hl hB hv
  have hm := mayB_iff.1 h.may
  simp only [vS] at hm
  obtain ⟨v, e1, e2⟩ := Value_eq n l hl hB
  have : v = (z, 0) := Option.some.inj (e2.symm.trans hv)
  subst this
  obtain ⟨L, t1, t2, t3, t4, t5⟩ := tiles_ok z.1 k (by omega) (by omega) h1 h2
  have hr : halo_Most_r4_p k (z, 0) = false := by
    simp only [halo_Most_r4_p, halo_Most_r4_q]
    rw [decide_eq_false (by omega), decide_eq_false (by omega)]
    rfl
  let S : Nat → I3 := fun i => sz n z (gt L (i : Int) dI2).1 (gt L (i : Int) dI2).2 l
  have hloop : ∃ y : Int × Int × Int × Int, iterN (halo_Most_l8_p n l L) LL (0, 0, 0, 0) = some y ∧ (∀ i : Nat, i < L.length → (S i).1 ≤ y.2.1 ∧ (S i).2.1 ≤ y.2.2.1 ∧ (S i).2.2 ≤ y.2.2.2) ∧
      (y.2.1 = 0 ∨ ∃ i : Nat, i < L.length ∧ (S i).1 = y.2.1) ∧ (y.2.2.1 = 0 ∨ ∃ i : Nat, i < L.length ∧ (S i).2.1 = y.2.2.1) ∧ (y.2.2.2 = 0 ∨ ∃ i : Nat, i < L.length ∧ (S i).2.2 = y.2.2.2) := by
    refine iterN_inv (fun s : Int × Int × Int × Int => ∃ j : Nat, s.1 = (j : Int) ∧ j ≤ L.length ∧ (∀ i : Nat, i < j → (S i).1 ≤ s.2.1 ∧ (S i).2.1 ≤ s.2.2.1 ∧ (S i).2.2 ≤ s.2.2.2) ∧
      (s.2.1 = 0 ∨ ∃ i : Nat, i < L.length ∧ (S i).1 = s.2.1) ∧ (s.2.2.1 = 0 ∨ ∃ i : Nat, i < L.length ∧ (S i).2.1 = s.2.2.1) ∧ (s.2.2.2 = 0 ∨ ∃ i : Nat, i < L.length ∧ (S i).2.2 = s.2.2.2)) (fun s => L.length - s.1.toNat) (fun s hs => ?_) LL (0, 0, 0, 0) ⟨0, rfl, by omega, fun i hi => absurd hi (by omega), .inl rfl, .inl rfl, .inl rfl⟩ (LL_lt (by simp only; omega))
    obtain ⟨j, a1, a2, a3, a4, a5, a6⟩ := hs
    obtain ⟨s0, m0, m1, m2⟩ := s
    simp only at a1 a3 a4 a5 a6
    subst a1
    by_cases hj : j < L.length
    · obtain ⟨u1, u2, u3⟩ := step_t hj (by omega)
      have ht := t3 _ (gt_mem hj dI2)
      have hs := Sizes_run hB hl hv ht.1 ht.2.1 (show (gt L (j : Int) dI2).1 + (gt L (j : Int) dI2).2 ≤ z.1 by omega)
      refine .inl ⟨((j : Int) + 1, max m0 (S j).1, max m1 (S j).2.1, max m2 (S j).2.2), ?_, ⟨j + 1, by simp only; omega, by omega, ?_, ?_, ?_, ?_⟩, by simp only; omega⟩
      · simp only [halo_Most_l8_p, halo_Most_r9_p, u1, u2, u3, hs, halo_max, cond_true, Option.bind_some]
        rfl
      · intro i hi
        by_cases hij : i = j
        · subst hij; simp only; omega
        · have := a3 i (by omega); simp only; omega
      · by_cases hc : m0 ≤ (S j).1
        · exact .inr ⟨j, hj, by simp only; omega⟩
        · rcases a4 with a4 | ⟨i, b1, b2⟩
          · have := (sz_in h ht.1 ht.2.1 (show (gt L (j : Int) dI2).1 + (gt L (j : Int) dI2).2 ≤ z.1 by omega)).1
            exact absurd (show m0 ≤ (S j).1 by rw [a4]; exact this) hc
          · exact .inr ⟨i, b1, by simp only; omega⟩
      · by_cases hc : m1 ≤ (S j).2.1
        · exact .inr ⟨j, hj, by simp only; omega⟩
        · rcases a5 with a5 | ⟨i, b1, b2⟩
          · have := (sz_in h ht.1 ht.2.1 (show (gt L (j : Int) dI2).1 + (gt L (j : Int) dI2).2 ≤ z.1 by omega)).2.1
            exact absurd (show m1 ≤ (S j).2.1 by rw [a5]; exact this) hc
          · exact .inr ⟨i, b1, by simp only; omega⟩
      · by_cases hc : m2 ≤ (S j).2.2
        · exact .inr ⟨j, hj, by simp only; omega⟩
        · rcases a6 with a6 | ⟨i, b1, b2⟩
          · have := (sz_in h ht.1 ht.2.1 (show (gt L (j : Int) dI2).1 + (gt L (j : Int) dI2).2 ≤ z.1 by omega)).2.2
            exact absurd (show m2 ≤ (S j).2.2 by rw [a6]; exact this) hc
          · exact .inr ⟨i, b1, by simp only; omega⟩
    · refine .inr ⟨((j : Int), m0, m1, m2), ?_, fun i hi => a3 i (by omega), a4, a5, a6⟩
      simp only [halo_Most_l8_p]
      rw [decide_eq_false (by omega)]
      rfl
  obtain ⟨y, y1, y2, y3, y4, y5⟩ := hloop
  have hSt : ∀ i : Nat, S i = sz n z (gt L (i : Int) dI2).1 (gt L (i : Int) dI2).2 l := fun i => rfl
  have hle : ∀ t ∈ L, (sz n z t.1 t.2 l).1 ≤ y.2.1 ∧ (sz n z t.1 t.2 l).2.1 ≤ y.2.2.1 ∧ (sz n z t.1 t.2 l).2.2 ≤ y.2.2.2 := fun t ht => by
    obtain ⟨i, hi, e⟩ := mem_gt ht dI2
    have := y2 i hi
    rw [hSt, e] at this
    exact this
  have h0 := sz_in h (first := 0) (rows := k) (by omega) h1 (by omega)
  have hk := hle _ t4
  simp only at hk
  have hat : ∀ f : I3 → Int, 0 ≤ f (sz n z 0 k l) → f (sz n z 0 k l) ≤ f y.2 → (f y.2 = 0 ∨ ∃ i : Nat, i < L.length ∧ f (S i) = f y.2) → ∃ t ∈ L, f (sz n z t.1 t.2 l) = f y.2 := fun f g1 g2 g3 => by
    rcases g3 with g3 | ⟨i, b1, b2⟩
    · exact ⟨_, t4, by simp only; omega⟩
    · exact ⟨_, gt_mem b1 dI2, b2⟩
  refine ⟨L, y.2, t1, t2, t3, t4, t5, ?_, hle, hat (fun x => x.1) h0.1 hk.1 y3, hat (fun x => x.2.1) h0.2.1 hk.2.1 y4, hat (fun x => x.2.2) h0.2.2 hk.2.2 y5⟩
  unfold halo_Most
  rw [e1]
  simp only [Option.bind_some, bne_self_eq_false, cond_false, hr, t1, y1]
end Go.V.P
