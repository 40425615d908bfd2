/- Plain laws of layer 2: windows. -/
import Derived.Test.YtlkfbfdleifmiaaLRef
import Derived.Test.YtlkfbfdleifmiaaSh1
namespace Go.V.P
open Go Go.V Go.IntWalk
set_option linter.unusedVariables false
theorem rng1 {P : Int → Prop} {a : Int} {n : Nat} (h : ∀ i : Nat, i < n → P (a + (i : Int))) (x : Int) (h1 : a ≤ x) (h2 : x < a + n) : P x := by
  have := h (x - a).toNat (by omega)
  rwa [show a + ((x - a).toNat : Int) = x by omega] at this
theorem i64_tmod {x y : Int} (hx : 0 ≤ x) (hy : 0 < y) : 0 ≤ Int.tmod x y ∧ Int.tmod x y < y := by
  rw [Int.tmod_eq_emod_of_nonneg hx]
  exact ⟨Int.emod_nonneg _ (by omega), Int.emod_lt_of_pos _ hy⟩
theorem ShapeWindows_true (x y : Int) (w : I4) (_ : Ts.ok (.one (.int .i64)) x) (_ : Ts.ok (.one (.int .i64)) y) (_ : Ts.ok tsI4 w) : law02_ShapeWindows x y w = some true := by
  unfold law02_ShapeWindows law02_ShapeWindows_q law02_ShapeWindows_r4_p law02_ShapeWindows_r4_q
  rw [shown02, shape_Reach_eq, ref02_Reach_eq, shape_Out_eq, ref02_Out_eq]
  simp only [Option.bind_some, cond_true, beq_self_eq_true]
theorem ShapeSlides_true (x y z : Int) (_ : Ts.ok (.one (.int .u8)) x) (hy : Ts.ok (.one (.int .u8)) y) (_ : Ts.ok (.one (.int .u8)) z) : law02_ShapeSlides x y z = some true := by
  replace hy : 0 ≤ y ∧ y ≤ 255 := hy
  unfold law02_ShapeSlides law02_ShapeSlides_q law02_ShapeSlides_r9_p law02_ShapeSlides_r9_q law02_ShapeSlides_r2_p law02_ShapeSlides_r2_q law02_ShapeSlides_r4_p law02_ShapeSlides_r4_q
  obtain ⟨n, en, n1, n2⟩ := and8_le x 15 (by omega)
  obtain ⟨m, em, m1, m2⟩ := and8_le z 1 (by omega)
  have ht := i64_tmod (x := y) (y := 3) hy.1 (by omega)
  rw [show ((15 : Nat) : Int) = 15 from rfl] at en
  rw [show ((1 : Nat) : Int) = 1 from rfl] at em
  simp only [shape_Out_eq, shown02, Option.bind_some, show IntKind.wrap .i64 y = y from i64_in _ (by omega), en, em]
  clear en em
  generalize Int.tmod y 3 = t at *
  have n3 : n < 0 + (16 : Nat) := by omega
  have m3 : m < 0 + (2 : Nat) := by omega
  obtain ⟨t1, t2⟩ := ht
  have t3 : t < 0 + (3 : Nat) := by omega
  clear n2 m2 t2 hy
  revert t; refine rng1 fun l hl => ?_
  revert m; refine rng1 fun j hj => ?_
  revert n; refine rng1 fun i hi => ?_
  revert l j i
  decide +kernel
end Go.V.P
