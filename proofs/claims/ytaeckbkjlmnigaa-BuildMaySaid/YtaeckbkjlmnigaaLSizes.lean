/- Plain laws of layer 15: how many numbers go with some rows, both ways. -/
import Derived.Test.YtaeckbkjlmnigaaLNeeds4
import Derived.Test.YtaeckbkjlmnigaaBm4
import Derived.Test.YtaeckbkjlmnigaaBm0
namespace Go.V.P
open Go Go.V Go.IntWalk
set_option linter.unusedVariables false
set_option linter.unusedSimpArgs false
set_option maxRecDepth 20000
def szV (hi lo : Int) (a : I4) : Int := IntKind.wrap .i64 (IntKind.wrap .i64 (hi - lo) * rowV (vS a))
theorem halo_one (a : I4) (y : I4 × Int) : iterN (halo_Sizes_l6_p [a] y) LL (0, 0, 0, 0) = some (1, szV y.1.2.1 y.1.1 a, 0, 0) := by
  have := iterN_for (p := halo_Sizes_l6_p [a] y) (z := (1, szV y.1.2.1 y.1.1 a, 0, 0)) 1 (fun i => match i with | 0 => ((0 : Int), (0 : Int), (0 : Int), (0 : Int)) | _ => (1, szV y.1.2.1 y.1.1 a, 0, 0)) LL (LL_lt (by omega)) (fun i hi => by
    have : i = 0 := by omega
    subst this
    simp only [halo_Sizes_l6_p, halo_Sizes_r7_p, halo_Sizes_r8_p, shape_Row_eq]
    rfl) rfl
  exact this
theorem ref_one (a : I4) (y : I4 × Int) (t : Int) : iterN (ref15_Sizes_l7_p [a] y) LL (0, 0, 0, t) = some (1, szV y.1.2.1 y.1.1 a, 0, t) := by
  have := iterN_for (p := ref15_Sizes_l7_p [a] y) (z := (1, szV y.1.2.1 y.1.1 a, 0, t)) 1 (fun i => match i with | 0 => ((0 : Int), (0 : Int), (0 : Int), t) | _ => (1, szV y.1.2.1 y.1.1 a, 0, t)) LL (LL_lt (by omega)) (fun i hi => by
    have : i = 0 := by omega
    subst this
    simp only [ref15_Sizes_l7_p, ref15_Sizes_r9_p, ref02_Row_eq]
    rfl) rfl
  exact this
theorem halo_two (a b : I4) (y : I4 × Int) : iterN (halo_Sizes_l6_p [a, b] y) LL (0, 0, 0, 0) = some (2, szV y.1.2.1 y.1.1 a, szV y.1.2.2.2 y.1.2.2.1 b, 0) := by
  have := iterN_for (p := halo_Sizes_l6_p [a, b] y) (z := (2, szV y.1.2.1 y.1.1 a, szV y.1.2.2.2 y.1.2.2.1 b, 0)) 2 (fun i => match i with | 0 => ((0 : Int), (0 : Int), (0 : Int), (0 : Int)) | 1 => (1, szV y.1.2.1 y.1.1 a, 0, 0) | _ => (2, szV y.1.2.1 y.1.1 a, szV y.1.2.2.2 y.1.2.2.1 b, 0)) LL (LL_lt (by omega)) (fun i hi => by
    have : i = 0 ∨ i = 1 := by omega
    rcases this with rfl | rfl
    · simp only [halo_Sizes_l6_p, halo_Sizes_r7_p, halo_Sizes_r8_p, shape_Row_eq]
      rfl
    · simp only [halo_Sizes_l6_p, halo_Sizes_r7_p, halo_Sizes_r8_p, shape_Row_eq]
      rfl) rfl
  exact this
theorem ref_two (a b : I4) (y : I4 × Int) (t : Int) : iterN (ref15_Sizes_l7_p [a, b] y) LL (0, 0, 0, t) = some (2, szV y.1.2.1 y.1.1 a, szV y.1.2.2.2 y.1.2.2.1 b, t) := by
  have := iterN_for (p := ref15_Sizes_l7_p [a, b] y) (z := (2, szV y.1.2.1 y.1.1 a, szV y.1.2.2.2 y.1.2.2.1 b, t)) 2 (fun i => match i with | 0 => ((0 : Int), (0 : Int), (0 : Int), t) | 1 => (1, szV y.1.2.1 y.1.1 a, 0, t) | _ => (2, szV y.1.2.1 y.1.1 a, szV y.1.2.2.2 y.1.2.2.1 b, t)) LL (LL_lt (by omega)) (fun i hi => by
    have : i = 0 ∨ i = 1 := by omega
    rcases this with rfl | rfl
    · simp only [ref15_Sizes_l7_p, ref15_Sizes_r9_p, ref02_Row_eq]
      rfl
    · simp only [ref15_Sizes_l7_p, ref15_Sizes_r9_p, ref02_Row_eq]
      rfl) rfl
  exact this
theorem Needs_ok (n : Node) (l : List I4) (first rows : Int) (hl : l.length < 1000000) (hB : (nB n).length < 1000000) (z : I4 × Int) (h : ref05_Needs n l first rows = some z) (hz : z.2 = 0) : l.length = 1 ∨ l.length = 2 := by
  obtain ⟨v, e1, e2⟩ := Value_eq n l hl hB
  unfold ref05_Needs at h
  rw [e2] at h
  simp only [Option.bind_some] at h
  by_cases hv : v.2 = 0
  · obtain ⟨hn, _⟩ := Value_in n l hl hB v e2 hv
    have := node_len n _ hn
    omega
  · rw [show (v.2 != 0) = true by simpa using hv] at h
    cases h
    exact absurd hz hv
theorem Sizes_eq (n : Node) (l : List I4) (first rows : Int) (hl : l.length < 1000000) (hB : (nB n).length < 1000000) : ∃ z, halo_Sizes n l first rows = some z ∧ ref15_Sizes n l first rows = some z := by
  obtain ⟨z, e1, e2⟩ := Needs_eq n l first rows hl hB
  obtain ⟨v, f1, f2⟩ := Value_eq n l hl hB
  unfold halo_Sizes ref15_Sizes
  rw [e1, e2, f1, f2]
  simp only [Option.bind_some, ref02_Row_eq, shape_Row_eq]
  by_cases hz : z.2 = 0
  · rw [show (z.2 != 0) = false by simpa using hz]
    rcases Needs_ok n l first rows hl hB z e2 hz with h | h
    · obtain ⟨a, rfl⟩ := List.length_eq_one_iff.1 h
      rw [halo_one, ref_one]
      exact ⟨_, rfl, rfl⟩
    · obtain ⟨a, b, rfl⟩ := len2 h
      rw [halo_two, ref_two]
      exact ⟨_, rfl, rfl⟩
  · rw [show (z.2 != 0) = true by simpa using hz]
    exact ⟨_, rfl, rfl⟩
end Go.V.P
namespace Go.V.P
open Go Go.V Go.IntWalk
set_option linter.unusedVariables false
set_option linter.unusedSimpArgs false
set_option maxRecDepth 20000
theorem halo_max (y : I3 × Int) (a b c : Int) : iterN (halo_Most_l12_p y) LL (0, a, b, c) = some (3, max a y.1.1, max b y.1.2.1, max c y.1.2.2) := by
  have := iterN_for (p := halo_Most_l12_p y) (z := (3, max a y.1.1, max b y.1.2.1, max c y.1.2.2)) 3 (fun i => match i with | 0 => ((0 : Int), a, b, c) | 1 => (1, max a y.1.1, b, c) | 2 => (2, max a y.1.1, max b y.1.2.1, c) | _ => (3, max a y.1.1, max b y.1.2.1, max c y.1.2.2)) LL (LL_lt (by omega)) (fun i hi => by
    have : i = 0 ∨ i = 1 ∨ i = 2 := by omega
    rcases this with rfl | rfl | rfl <;> rfl) rfl
  exact this
theorem ref_max (y : I3) (a b c : Int) : iterN (ref15_Most_l13_p y) LL (0, a, b, c) = some (3, max a y.1, max b y.2.1, max c y.2.2) := by
  have := iterN_for (p := ref15_Most_l13_p y) (z := (3, max a y.1, max b y.2.1, max c y.2.2)) 3 (fun i => match i with | 0 => ((0 : Int), a, b, c) | 1 => (1, max a y.1, b, c) | 2 => (2, max a y.1, max b y.2.1, c) | _ => (3, max a y.1, max b y.2.1, max c y.2.2)) LL (LL_lt (by omega)) (fun i hi => by
    have : i = 0 ∨ i = 1 ∨ i = 2 := by omega
    rcases this with rfl | rfl | rfl <;> rfl) rfl
  exact this
theorem tiles_eq (h r : Int) (h1 : 1 ≤ h) (h2 : h < 1 + (16 : Nat)) (h3 : 1 ≤ r) (h4 : r < 1 + (16 : Nat)) : halo_Tiles h r = ref15_Tiles h r ∧ (ref15_Tiles h r).isSome = true ∧ ((ref15_Tiles h r).getD []).length < 100 := by
  revert r; refine rng1 fun j hj => ?_
  revert h; refine rng1 fun i hi => ?_
  revert j i
  decide +kernel
theorem Most_eq (n : Node) (l : List I4) (rows : Int) (hl : l.length < 1000000) (hB : (nB n).length < 1000000) : ∃ z, halo_Most n l rows = some z ∧ ref15_Most n l rows = some z := by
  obtain ⟨v, f1, f2⟩ := Value_eq n l hl hB
  unfold halo_Most ref15_Most
  rw [f1, f2]
  simp only [Option.bind_some]
  by_cases hz : v.2 = 0
  · obtain ⟨_, _, _, hm, _⟩ := Value_in n l hl hB v f2 hz
    have hmb := mayB_iff.1 hm
    simp only [vS] at hmb
    rw [show (v.2 != 0) = false by simpa using hz, show ref15_Most_r4_p rows v = halo_Most_r4_p rows v from rfl]
    simp only [cond_false]
    cases hc : halo_Most_r4_p rows v with
    | true => exact ⟨_, rfl, rfl⟩
    | false =>
      simp only [halo_Most_r4_p, halo_Most_r4_q, Bool.cond_true_left, Bool.or_eq_false_iff, decide_eq_false_iff_not] at hc
      obtain ⟨t1, t2, t3⟩ := tiles_eq v.1.1 rows (by omega) (by omega) (by omega) (by omega)
      obtain ⟨L, hL⟩ := Option.isSome_iff_exists.1 t2
      rw [t1, hL]
      rw [hL] at t3
      replace t3 : L.length < 100 := t3
      simp only [cond_false, Option.bind_some]
      have hs : ∀ s : Int × Int × Int × Int, 0 ≤ s.1 → s.1 < L.length → ∃ s' : Int × Int × Int × Int, s'.1 = s.1 + 1 ∧ halo_Most_l8_p n l L s = some (.inl s') ∧ ref15_Most_l9_p n l L s = some (.inl s') := fun s h0 h1 => by
        obtain ⟨y, g1, g2⟩ := Sizes_eq n l (gt L s.1 dI2).1 (gt L s.1 dI2).2 hl hB
        have t1 : decide (s.1 < (L.length : Int)) = true := decide_eq_true h1
        have t2 : decide ((0 : Int) ≤ s.1) = true := decide_eq_true h0
        have t3 := i64_in (s.1 + 1) (by omega)
        refine ⟨(s.1 + 1, max s.2.1 y.1.1, max s.2.2.1 y.1.2.1, max s.2.2.2 y.1.2.2), rfl, ?_, ?_⟩
        · simp only [halo_Most_l8_p, halo_Most_r9_p, t1, t2, t3, g1, halo_max, cond_true, Option.bind_some]
        · simp only [ref15_Most_l9_p, ref15_Most_r11_p, t1, t2, t3, g2, ref_max, cond_true, Option.bind_some]
      have hend : ∀ s : Int × Int × Int × Int, ¬ s.1 < L.length → halo_Most_l8_p n l L s = some (.inr s) ∧ ref15_Most_l9_p n l L s = some (.inr s) := fun s h => by
        have t1 : decide (s.1 < (L.length : Int)) = false := decide_eq_false h
        refine ⟨?_, ?_⟩
        · simp only [halo_Most_l8_p, t1, cond_false]
        · simp only [ref15_Most_l9_p, t1, cond_false]
      have key : ∀ (m : Nat) (s : Int × Int × Int × Int), 0 ≤ s.1 → L.length - s.1.toNat < m → ∃ z, iterN (halo_Most_l8_p n l L) m s = some z ∧ iterN (ref15_Most_l9_p n l L) m s = some z := fun m => by
        induction m with
        | zero => intro s _ h; omega
        | succ m ih =>
          intro s h0 hm
          by_cases h : s.1 < L.length
          · obtain ⟨s', k1, k2, k3⟩ := hs s h0 h
            simp only [iterN, k2, k3]
            exact ih s' (by omega) (by omega)
          · obtain ⟨k2, k3⟩ := hend s h
            simp only [iterN, k2, k3]
            exact ⟨_, rfl, rfl⟩
      obtain ⟨z, k1, k2⟩ := key LL (0, 0, 0, 0) (by simp) (LL_lt (by simp only [Int.toNat_zero]; omega))
      rw [k1, k2]
      exact ⟨_, rfl, rfl⟩
  · rw [show (v.2 != 0) = true by simpa using hz]
    exact ⟨_, rfl, rfl⟩
end Go.V.P
