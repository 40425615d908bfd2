/- Plain laws of layer 2: a shape that may not be has nothing in it. -/
import Derived.Test.YtlkfbfdleifmiabLShape
import Derived.Test.YtlkfbfdleifmiabSr0
namespace Go.V.P
open Go Go.V Go.IntWalk
set_option linter.unusedVariables false
theorem rng1 {P : Int → Prop} {a : Int} {n : Nat} (h : ∀ i : Nat, i < n → P (a + (i : Int))) (x : Int) (h1 : a ≤ x) (h2 : x < a + n) : P x := by
  have := h (x - a).toNat (by omega)
  rwa [show a + ((x - a).toNat : Int) = x by omega] at this
theorem shown02 : law02_shown = some true := by
  unfold law02_shown law02_shown_q law02_shown_r2_p law02_shown_r2_q
  rw [shape_Reach_eq, shape_Out_eq]
  decide +kernel
theorem shape_May_eq (s : I3) : shape_May s = some (if mayB s = true then 0 else 10) := by
  unfold shape_May shape_May_q
  rw [shape_may_eq]
  cases mayB s <;> rfl
def inS (s : I3) (y x c : Int) : Prop := mayB s = true ∧ (0 ≤ y ∧ y < s.1) ∧ (0 ≤ x ∧ x < s.2.1) ∧ 0 ≤ c ∧ c < s.2.2
instance (s : I3) (y x c : Int) : Decidable (inS s y x c) := inferInstanceAs (Decidable (_ ∧ _))
def atV (s : I3) (y x c : Int) : Int := (y * s.2.1 + x) * s.2.2 + c
def indexV (s : I3) (y x c : Int) : Int := if inS s y x c then atV s y x c else -1
theorem inS_in {s : I3} {y x c : Int} (h : inS s y x c) : (0 ≤ y * s.2.1 ∧ y * s.2.1 ≤ 256) ∧ (0 ≤ y * s.2.1 + x ∧ y * s.2.1 + x ≤ 272) ∧ (0 ≤ (y * s.2.1 + x) * s.2.2 ∧ (y * s.2.1 + x) * s.2.2 ≤ 2176) ∧ 0 ≤ atV s y x c ∧ atV s y x c ≤ 2184 := by
  obtain ⟨h1, h2, h3, h4⟩ := h
  have h1 := mayB_iff.1 h1
  have a1 := mul_in' (a := y) (b := s.2.1) (c := 16) (d := 16) (by omega) (by omega) (by omega) (by omega)
  have a2 := mul_in' (a := y * s.2.1 + x) (b := s.2.2) (c := 272) (d := 8) (by omega) (by omega) (by omega) (by omega)
  unfold atV
  omega
theorem shape_Index_eq (s : I3) (y x c : Int) : shape_Index s y x c = some (indexV s y x c) := by
  have q1 : ∀ a b : Int, ((shape_within a b).1).1 = a := fun _ _ => rfl
  have q2 : ∀ a b : Int, ((shape_within a b).2.1).1 = b := fun _ _ => rfl
  have hr : shape_Index_r1_p s y x c = some (!(decide (inS s y x c))) := by
    unfold shape_Index_r1_p shape_Index_r1_q
    simp only [q1, q2, within1, shape_may_eq, Option.bind_some]
    cases hm : mayB s with
    | false =>
      rw [decide_eq_false (fun h => by rw [inS, hm] at h; exact absurd h.1 (by decide))]
      rfl
    | true =>
      have h := mayB_iff.1 hm
      rw [i64_in (s.1 - 1) (by omega), i64_in (s.2.1 - 1) (by omega), i64_in (s.2.2 - 1) (by omega)]
      have e : decide (inS s y x c) = (inB 0 (s.1 - 1) y && inB 0 (s.2.1 - 1) x && inB 0 (s.2.2 - 1) c) := by
        rw [Bool.eq_iff_iff, decide_eq_true_iff]
        simp only [Bool.and_eq_true, inB_iff, inS, hm, eq_self, true_and]
        constructor <;> intro h <;> omega
      rw [e]
      cases inB 0 (s.1 - 1) y <;> cases inB 0 (s.2.1 - 1) x <;> cases inB 0 (s.2.2 - 1) c <;> rfl
  unfold shape_Index shape_Index_q
  rw [hr]
  unfold indexV
  simp only [Option.bind_some]
  by_cases hi : inS s y x c
  · obtain ⟨a1, a2, a3, a4⟩ := inS_in hi
    rw [if_pos hi, decide_eq_true hi]
    simp only [Bool.not_true, cond_false, shape_Index_r3_p, shape_Index_r3_q]
    rw [i64_in (y * s.2.1) (by omega), i64_in (y * s.2.1 + x) (by omega), i64_in ((y * s.2.1 + x) * s.2.2) (by omega), i64_in _ (by unfold atV at a4; omega)]
    rfl
  · rw [if_neg hi, decide_eq_false hi]
    rfl
theorem and31 (x : Int) (h1 : 1 ≤ x) (h2 : x ≤ 16) : IntKind.wrap .i64 ((BitVec.ofInt (IntKind.bits .i64) x &&& BitVec.ofInt (IntKind.bits .i64) (31 : Int)).toNat : Int) = x := by
  have h3 : x < 1 + (16 : Nat) := by omega
  clear h2
  revert x; refine rng1 fun i hi => ?_
  revert i
  decide +kernel
theorem and15 (x : Int) (h1 : 1 ≤ x) (h2 : x ≤ 8) : IntKind.wrap .i64 ((BitVec.ofInt (IntKind.bits .i64) x &&& BitVec.ofInt (IntKind.bits .i64) (15 : Int)).toNat : Int) = x := by
  have h3 : x < 1 + (8 : Nat) := by omega
  clear h2
  revert x; refine rng1 fun i hi => ?_
  revert i
  decide +kernel
theorem ShapeRefuses_true (s at_ : I3) (_ : Ts.ok tsI3 s) (_ : Ts.ok tsI3 at_) : law02_ShapeRefuses s at_ = some true := by
  have hr : law02_ShapeRefuses_r2_p s = mayB s := by
    rw [Bool.eq_iff_iff, mayB_iff]
    simp only [law02_ShapeRefuses_r2_p, law02_ShapeRefuses_r2_q, Bool.cond_false_right, Bool.and_eq_true, decide_eq_true_iff]
  unfold law02_ShapeRefuses law02_ShapeRefuses_q law02_ShapeRefuses_r5_p law02_ShapeRefuses_r5_q law02_ShapeRefuses_r10_p law02_ShapeRefuses_r10_q
  simp only [shown02, shape_Index_eq, shape_May_eq, shape_Size_eq, shape_Row_eq, Option.bind_some, hr, cond_true]
  cases hm : mayB s with
  | false =>
    have e1 : sizeV s = 0 := if_neg (by rw [hm]; decide)
    have e2 : rowV s = 0 := if_neg (by rw [hm]; decide)
    have e3 : indexV s at_.1 at_.2.1 at_.2.2 = -1 := if_neg (fun h => by rw [inS, hm] at h; exact absurd h.1 (by decide))
    rw [e1, e2, e3]
    rfl
  | true =>
    have hb := mayB_iff.1 hm
    have e1 : sizeV s = s.1 * s.2.1 * s.2.2 := if_pos hm
    have e2 : rowV s = s.2.1 * s.2.2 := if_pos hm
    have hs := sizeV_in s
    have hw := rowV_in s
    have hp := mul_in' (a := s.1) (b := s.2.1) (c := 16) (d := 16) (by omega) (by omega) (by omega) (by omega)
    have w1 : law02_ShapeRefuses_r6_p s = s.1 := and31 _ (by omega) (by omega)
    have w2 : law02_ShapeRefuses_r7_p s = s.2.1 := and31 _ (by omega) (by omega)
    have w3 : law02_ShapeRefuses_r8_p s = s.2.2 := and15 _ (by omega) (by omega)
    rw [e1] at hs
    rw [e2] at hw
    have w4 := i64_in (s.1 * s.2.1) (by omega)
    have w5 := i64_in (s.1 * s.2.1 * s.2.2) (by omega)
    have w6 := i64_in (s.2.1 * s.2.2) (by omega)
    have h9 : law02_ShapeRefuses_r9_p s at_ = decide (inS s at_.1 at_.2.1 at_.2.2) := by
      rw [Bool.eq_iff_iff]
      simp only [law02_ShapeRefuses_r9_p, law02_ShapeRefuses_r9_q, Bool.cond_false_right, Bool.and_eq_true, decide_eq_true_iff, inS, hm, eq_self, true_and]
      omega
    have h8 : decide (indexV s at_.1 at_.2.1 at_.2.2 ≥ 0) = decide (inS s at_.1 at_.2.1 at_.2.2) := by
      by_cases h : inS s at_.1 at_.2.1 at_.2.2
      · have := (inS_in h).2.2.2
        rw [decide_eq_true h, indexV, if_pos h, decide_eq_true (by omega)]
      · rw [decide_eq_false h, indexV, if_neg h]; rfl
    simp only [w1, w2, w3, w4, w5, w6, e1, e2, h8, h9, Bool.not_true, cond_false, cond_true, Option.bind_some, if_true, beq_self_eq_true]
end Go.V.P
