/- Plain laws of layer 15: how many numbers go with some rows, both ways. -/
import Derived.Test.YtaeckbkjlmnigaaLNeeds4
import Derived.Test.YtaeckbkjlmnigaaBt2
namespace Go.V.P
open Go Go.V Go.IntWalk
set_option linter.unusedVariables false
set_option linter.unusedSimpArgs false
set_option maxRecDepth 20000
def szV (hi lo : Int) (a : I4) : Int := IntKind.wrap .i64 (IntKind.wrap .i64 (hi - lo) * rowV (vS a))
theorem halo_one (a : I4) (y : I4 × Int) : iterN (halo_Sizes_l6_p [a] y) LL (0, 0, 0, 0) = some (1, szV y.1.2.1 y.1.1 a, 0, 0) := by
  have := iterN_for (p := halo_Sizes_l6_p [a] y) (z := (1, szV y.1.2.1 y.1.1 a, 0, 0)) 1 (fun i => match i with | 0 => ((0 : Int), (0 : Int), (0 : Int), (0 : Int)) | _ => (1, szV y.1.2.1 y.1.1 a, 0, 0)) LL (LL_lt (by omega)) (fun i hi => by
    have : i = 0 := by omega
    subst this
    simp only [halo_Sizes_l6_p, halo_Sizes_r7_p, halo_Sizes_r8_p, shape_Row_eq]
    rfl) rfl
  exact this
theorem ref_one (a : I4) (y : I4 × Int) (t : Int) : iterN (ref15_Sizes_l7_p [a] y) LL (0, 0, 0, t) = some (1, szV y.1.2.1 y.1.1 a, 0, t) := by
  have := iterN_for (p := ref15_Sizes_l7_p [a] y) (z := (1, szV y.1.2.1 y.1.1 a, 0, t)) 1 (fun i => match i with | 0 => ((0 : Int), (0 : Int), (0 : Int), t) | _ => (1, szV y.1.2.1 y.1.1 a, 0, t)) LL (LL_lt (by omega)) (fun i hi => by
    have : i = 0 := by omega
    subst this
    simp only [ref15_Sizes_l7_p, ref15_Sizes_r9_p, ref02_Row_eq]
    rfl) rfl
  exact this
theorem halo_two (a b : I4) (y : I4 × Int) : iterN (halo_Sizes_l6_p [a, b] y) LL (0, 0, 0, 0) = some (2, szV y.1.2.1 y.1.1 a, szV y.1.2.2.2 y.1.2.2.1 b, 0) := by
  have := iterN_for (p := halo_Sizes_l6_p [a, b] y) (z := (2, szV y.1.2.1 y.1.1 a, szV y.1.2.2.2 y.1.2.2.1 b, 0)) 2 (fun i => match i with | 0 => ((0 : Int), (0 : Int), (0 : Int), (0 : Int)) | 1 => (1, szV y.1.2.1 y.1.1 a, 0, 0) | _ => (2, szV y.1.2.1 y.1.1 a, szV y.1.2.2.2 y.1.2.2.1 b, 0)) LL (LL_lt (by omega)) (fun i hi => by
    have : i = 0 ∨ i = 1 := by omega
    rcases this with rfl | rfl
    · simp only [halo_Sizes_l6_p, halo_Sizes_r7_p, halo_Sizes_r8_p, shape_Row_eq]
      rfl
    · simp only [halo_Sizes_l6_p, halo_Sizes_r7_p, halo_Sizes_r8_p, shape_Row_eq]
      rfl) rfl
  exact this
theorem ref_two (a b : I4) (y : I4 × Int) (t : Int) : iterN (ref15_Sizes_l7_p [a, b] y) LL (0, 0, 0, t) = some (2, szV y.1.2.1 y.1.1 a, szV y.1.2.2.2 y.1.2.2.1 b, t) := by
  have := iterN_for (p := ref15_Sizes_l7_p [a, b] y) (z := (2, szV y.1.2.1 y.1.1 a, szV y.1.2.2.2 y.1.2.2.1 b, t)) 2 (fun i => match i with | 0 => ((0 : Int), (0 : Int), (0 : Int), t) | 1 => (1, szV y.1.2.1 y.1.1 a, 0, t) | _ => (2, szV y.1.2.1 y.1.1 a, szV y.1.2.2.2 y.1.2.2.1 b, t)) LL (LL_lt (by omega)) (fun i hi => by
    have : i = 0 ∨ i = 1 := by omega
    rcases this with rfl | rfl
    · simp only [ref15_Sizes_l7_p, ref15_Sizes_r9_p, ref02_Row_eq]
      rfl
    · simp only [ref15_Sizes_l7_p, ref15_Sizes_r9_p, ref02_Row_eq]
      rfl) rfl
  exact this
theorem Needs_ok (n : Node) (l : List I4) (first rows : Int) (hl : l.length < 1000000) (hB : (nB n).length < 1000000) (z : I4 × Int) (h : ref05_Needs n l first rows = some z) (hz : z.2 = 0) : l.length = 1 ∨ l.length = 2 := by
  obtain ⟨v, e1, e2⟩ := Value_eq n l hl hB
  unfold ref05_Needs at h
  rw [e2] at h
  simp only [Option.bind_some] at h
  by_cases hv : v.2 = 0
  · obtain ⟨hn, _⟩ := Value_in n l hl hB v e2 hv
    have := node_len n _ hn
    omega
  · rw [show (v.2 != 0) = true by simpa using hv] at h
    cases h
    exact absurd hz hv
theorem Sizes_eq (n : Node) (l : List I4) (first rows : Int) (hl : l.length < 1000000) (hB : (nB n).length < 1000000) : ∃ z, halo_Sizes n l first rows = some z ∧ ref15_Sizes n l first rows = some z := by
  obtain ⟨z, e1, e2⟩ := Needs_eq n l first rows hl hB
  obtain ⟨v, f1, f2⟩ := Value_eq n l hl hB
  unfold halo_Sizes ref15_Sizes
  rw [e1, e2, f1, f2]
  simp only [Option.bind_some, ref02_Row_eq, shape_Row_eq]
  by_cases hz : z.2 = 0
  · rw [show (z.2 != 0) = false by simpa using hz]
    rcases Needs_ok n l first rows hl hB z e2 hz with h | h
    · obtain ⟨a, rfl⟩ := List.length_eq_one_iff.1 h
      rw [halo_one, ref_one]
      exact ⟨_, rfl, rfl⟩
    · obtain ⟨a, b, rfl⟩ := len2 h
      rw [halo_two, ref_two]
      exact ⟨_, rfl, rfl⟩
  · rw [show (z.2 != 0) = true by simpa using hz]
    exact ⟨_, rfl, rfl⟩
end Go.V.P
