/- Plain laws of layer 2: indexes into a shape. -/
import Derived.Test.YtlkfbfdleifmiaaLWin
import Derived.Test.YtlkfbfdleifmiaaSh3
namespace Go.V.P
open Go Go.V Go.IntWalk
set_option linter.unusedVariables false
theorem shape_May_eq (s : I3) : shape_May s = some (if mayB s = true then 0 else 10) := by
  unfold shape_May shape_May_q
  rw [shape_may_eq]
  cases mayB s <;> rfl
theorem ref02_May_eq (s : I3) : ref02_May s = if mayB s = true then 0 else 10 := by
  have hr : ref02_May_r1_p s = !(mayB s) := by
    rw [Bool.eq_iff_iff]
    simp only [ref02_May_r1_p, ref02_May_r1_q, Bool.cond_true_left, Bool.not_eq_true', Bool.or_eq_true, decide_eq_true_iff, ← Bool.not_eq_true, mayB_iff]
    omega
  unfold ref02_May ref02_May_q
  rw [hr]
  cases mayB s <;> rfl
theorem ref02_Row_eq (s : I3) : ref02_Row s = rowV s := by
  have hr := rowV_in s
  unfold ref02_Row ref02_Row_q
  rw [ref02_May_eq]
  unfold rowV at *
  cases hm : mayB s with
  | true =>
    rw [hm, if_pos rfl] at hr
    simp only [if_true]
    rw [i64_in _ (by omega)]
    rfl
  | false => rfl
theorem ref02_Size_eq (s : I3) : ref02_Size s = sizeV s := by
  unfold ref02_Size ref02_Size_q
  rw [ref02_May_eq]
  unfold sizeV
  cases hm : mayB s with
  | true =>
    have h := mayB_iff.1 hm
    have h1 := mul_in' (a := s.1) (b := s.2.1) (c := 16) (d := 16) (by omega) (by omega) (by omega) (by omega)
    have h2 := mul_in' (a := s.1 * s.2.1) (b := s.2.2) (c := 256) (d := 8) h1.1 h1.2 (by omega) (by omega)
    simp only [if_true]
    rw [i64_in (s.1 * s.2.1) (by omega), i64_in _ (by omega)]
    rfl
  | false => rfl
def inS (s : I3) (y x c : Int) : Prop := mayB s = true ∧ (0 ≤ y ∧ y < s.1) ∧ (0 ≤ x ∧ x < s.2.1) ∧ 0 ≤ c ∧ c < s.2.2
instance (s : I3) (y x c : Int) : Decidable (inS s y x c) := inferInstanceAs (Decidable (_ ∧ _))
def atV (s : I3) (y x c : Int) : Int := (y * s.2.1 + x) * s.2.2 + c
def indexV (s : I3) (y x c : Int) : Int := if inS s y x c then atV s y x c else -1
theorem inS_in {s : I3} {y x c : Int} (h : inS s y x c) : (0 ≤ y * s.2.1 ∧ y * s.2.1 ≤ 256) ∧ (0 ≤ y * s.2.1 + x ∧ y * s.2.1 + x ≤ 272) ∧ (0 ≤ (y * s.2.1 + x) * s.2.2 ∧ (y * s.2.1 + x) * s.2.2 ≤ 2176) ∧ 0 ≤ atV s y x c ∧ atV s y x c ≤ 2184 := by
  obtain ⟨h1, h2, h3, h4⟩ := h
  have h1 := mayB_iff.1 h1
  have a1 := mul_in' (a := y) (b := s.2.1) (c := 16) (d := 16) (by omega) (by omega) (by omega) (by omega)
  have a2 := mul_in' (a := y * s.2.1 + x) (b := s.2.2) (c := 272) (d := 8) (by omega) (by omega) (by omega) (by omega)
  unfold atV
  omega
theorem shape_Index_eq (s : I3) (y x c : Int) : shape_Index s y x c = some (indexV s y x c) := by
  have q1 : ∀ a b : Int, ((shape_within a b).1).1 = a := fun _ _ => rfl
  have q2 : ∀ a b : Int, ((shape_within a b).2.1).1 = b := fun _ _ => rfl
  have hr : shape_Index_r1_p s y x c = some (!(decide (inS s y x c))) := by
    unfold shape_Index_r1_p shape_Index_r1_q
    simp only [q1, q2, within1, shape_may_eq, Option.bind_some]
    cases hm : mayB s with
    | false =>
      rw [decide_eq_false (fun h => by rw [inS, hm] at h; exact absurd h.1 (by decide))]
      rfl
    | true =>
      have h := mayB_iff.1 hm
      rw [i64_in (s.1 - 1) (by omega), i64_in (s.2.1 - 1) (by omega), i64_in (s.2.2 - 1) (by omega)]
      have e : decide (inS s y x c) = (inB 0 (s.1 - 1) y && inB 0 (s.2.1 - 1) x && inB 0 (s.2.2 - 1) c) := by
        rw [Bool.eq_iff_iff, decide_eq_true_iff]
        simp only [Bool.and_eq_true, inB_iff, inS, hm, eq_self, true_and]
        constructor <;> intro h <;> omega
      rw [e]
      cases inB 0 (s.1 - 1) y <;> cases inB 0 (s.2.1 - 1) x <;> cases inB 0 (s.2.2 - 1) c <;> rfl
  unfold shape_Index shape_Index_q
  rw [hr]
  unfold indexV
  simp only [Option.bind_some]
  by_cases hi : inS s y x c
  · obtain ⟨a1, a2, a3, a4⟩ := inS_in hi
    rw [if_pos hi, decide_eq_true hi]
    simp only [Bool.not_true, cond_false, shape_Index_r3_p, shape_Index_r3_q]
    rw [i64_in (y * s.2.1) (by omega), i64_in (y * s.2.1 + x) (by omega), i64_in ((y * s.2.1 + x) * s.2.2) (by omega), i64_in _ (by unfold atV at a4; omega)]
    rfl
  · rw [if_neg hi, decide_eq_false hi]
    rfl
/-! ### Counting through -/
theorem idx9 (s : I3) (y x c : Int) (a b : Int × Int) (hm : mayB s = true) (n : Int) (hn : 0 ≤ n ∧ n ≤ 4096) :
    iterN (ref02_Index_l9_p s y x c a b) LL (n, 0) = some (if a.2 = y ∧ b.2 = x ∧ 0 ≤ c ∧ c < s.2.2 then .inr (n + c) else .inl (n + s.2.2, s.2.2)) := by
  have h := mayB_iff.1 hm
  have hr : ∀ z, ref02_Index_r11_p y x c a b z = decide (a.2 = y ∧ b.2 = x ∧ z.2 = c) := fun z => by
    simp only [ref02_Index_r11_p, ref02_Index_r11_q]
    by_cases h1 : a.2 = y <;> by_cases h2 : b.2 = x <;> by_cases h3 : z.2 = c <;> simp [h1, h2, h3]
  by_cases hc : a.2 = y ∧ b.2 = x ∧ 0 ≤ c ∧ c < s.2.2
  · rw [if_pos hc]
    have hl := iterN_for (p := ref02_Index_l9_p s y x c a b) (z := (.inr (n + c) : (Int × Int) ⊕ Int)) c.toNat (fun i => (n + (i : Int), (i : Int))) LL (LL_lt (by omega)) (fun i hi => by
      simp only [ref02_Index_l9_p, ref02_Index_l9_q, hr]
      rw [decide_eq_true (by omega), decide_eq_false (by omega), i64_in (n + (i : Int) + 1) (by omega), i64_in ((i : Int) + 1) (by omega)]
      simp only [cond_true, cond_false]
      rw [show ((i + 1 : Nat) : Int) = (i : Int) + 1 by omega, Int.add_assoc]) (by
      simp only [ref02_Index_l9_p, ref02_Index_l9_q, hr]
      rw [decide_eq_true (by omega), decide_eq_true (by omega), show ((c.toNat : Nat) : Int) = c by omega]
      rfl)
    rw [show (n + ((0 : Nat) : Int), ((0 : Nat) : Int)) = (n, 0) by simp] at hl
    exact hl
  · rw [if_neg hc]
    have hl := iterN_for (p := ref02_Index_l9_p s y x c a b) (z := (.inl (n + s.2.2, s.2.2) : (Int × Int) ⊕ Int)) (s.2.2).toNat (fun i => (n + (i : Int), (i : Int))) LL (LL_lt (by omega)) (fun i hi => by
      simp only [ref02_Index_l9_p, ref02_Index_l9_q, hr]
      rw [decide_eq_true (by omega), decide_eq_false (by omega), i64_in (n + (i : Int) + 1) (by omega), i64_in ((i : Int) + 1) (by omega)]
      simp only [cond_true, cond_false]
      rw [show ((i + 1 : Nat) : Int) = (i : Int) + 1 by omega, Int.add_assoc]) (by
      simp only [ref02_Index_l9_p, ref02_Index_l9_q, hr]
      rw [decide_eq_false (by omega), show (((s.2.2).toNat : Nat) : Int) = s.2.2 by omega]
      rfl)
    rw [show (n + ((0 : Nat) : Int), ((0 : Nat) : Int)) = (n, 0) by simp] at hl
    exact hl
theorem step_mul (n k : Int) (i : Nat) : n + (i : Int) * k + k = n + ((i + 1 : Nat) : Int) * k := by
  rw [show ((i + 1 : Nat) : Int) = (i : Int) + 1 by omega, Int.add_mul, Int.one_mul, Int.add_assoc]
theorem idx6 (s : I3) (y x c : Int) (a : Int × Int) (hm : mayB s = true) (n : Int) (hn : 0 ≤ n ∧ n ≤ 2048) :
    iterN (ref02_Index_l6_p s y x c a) LL (n, 0) = some (if a.2 = y ∧ (0 ≤ x ∧ x < s.2.1) ∧ 0 ≤ c ∧ c < s.2.2 then .inr (n + x * s.2.2 + c) else .inl (n + s.2.1 * s.2.2, s.2.1)) := by
  have h := mayB_iff.1 hm
  by_cases hc : a.2 = y ∧ (0 ≤ x ∧ x < s.2.1) ∧ 0 ≤ c ∧ c < s.2.2
  · rw [if_pos hc]
    have hl := iterN_for (p := ref02_Index_l6_p s y x c a) (z := (.inr (n + x * s.2.2 + c) : (Int × Int) ⊕ Int)) x.toNat (fun i => (n + (i : Int) * s.2.2, (i : Int))) LL (LL_lt (by omega)) (fun i hi => by
      have hp := mul_in' (a := (i : Int)) (b := s.2.2) (c := 16) (d := 8) (by omega) (by omega) (by omega) (by omega)
      simp only [ref02_Index_l6_p, ref02_Index_l6_q]
      rw [decide_eq_true (by omega), idx9 s y x c a _ hm _ (by omega), if_neg (by omega), i64_in ((i : Int) + 1) (by omega)]
      simp only [cond_true, Option.bind_some, either]
      rw [step_mul, show ((i + 1 : Nat) : Int) = (i : Int) + 1 by omega]) (by
      have hp := mul_in' (a := ((x.toNat : Nat) : Int)) (b := s.2.2) (c := 16) (d := 8) (by omega) (by omega) (by omega) (by omega)
      simp only [ref02_Index_l6_p, ref02_Index_l6_q]
      rw [decide_eq_true (by omega), idx9 s y x c a _ hm _ (by omega), if_pos (by omega)]
      simp only [cond_true, Option.bind_some, either]
      rw [show ((x.toNat : Nat) : Int) = x by omega])
    rw [show (n + ((0 : Nat) : Int) * s.2.2, ((0 : Nat) : Int)) = (n, 0) by simp] at hl
    exact hl
  · rw [if_neg hc]
    have hl := iterN_for (p := ref02_Index_l6_p s y x c a) (z := (.inl (n + s.2.1 * s.2.2, s.2.1) : (Int × Int) ⊕ Int)) (s.2.1).toNat (fun i => (n + (i : Int) * s.2.2, (i : Int))) LL (LL_lt (by omega)) (fun i hi => by
      have hp := mul_in' (a := (i : Int)) (b := s.2.2) (c := 16) (d := 8) (by omega) (by omega) (by omega) (by omega)
      simp only [ref02_Index_l6_p, ref02_Index_l6_q]
      rw [decide_eq_true (by omega), idx9 s y x c a _ hm _ (by omega), if_neg (fun hq => hc ⟨hq.1, by have := hq.2.1; omega, hq.2.2⟩), i64_in ((i : Int) + 1) (by omega)]
      simp only [cond_true, Option.bind_some, either]
      rw [step_mul, show ((i + 1 : Nat) : Int) = (i : Int) + 1 by omega]) (by
      simp only [ref02_Index_l6_p, ref02_Index_l6_q]
      rw [decide_eq_false (by omega), show (((s.2.1).toNat : Nat) : Int) = s.2.1 by omega]
      rfl)
    rw [show (n + ((0 : Nat) : Int) * s.2.2, ((0 : Nat) : Int)) = (n, 0) by simp] at hl
    exact hl
theorem ref02_Index_eq (s : I3) (y x c : Int) : ref02_Index s y x c = some (indexV s y x c) := by
  unfold ref02_Index ref02_Index_q indexV
  have hr : ∀ z, ref02_Index_r3_p s z = (decide (z.2 < s.1) && mayB s) := fun z => by
    simp only [ref02_Index_r3_p, ref02_Index_r3_q, ref02_May_eq]
    cases mayB s <;> cases decide (z.2 < s.1) <;> rfl
  cases hm : mayB s with
  | false =>
    rw [if_neg (fun h => by rw [inS, hm] at h; exact absurd h.1 (by decide))]
    have hl := iterN_for (p := ref02_Index_l3_p s y x c) (z := (.inl (0, 0) : (Int × Int) ⊕ Int)) 0 (fun i => ((0 : Int), (0 : Int))) LL (LL_lt (by omega)) (fun i hi => by omega) (by
      simp only [ref02_Index_l3_p, ref02_Index_l3_q, hr, hm, Bool.and_false, cond_false])
    rw [hl]
    rfl
  | true =>
    have h := mayB_iff.1 hm
    have hq := mul_in' (a := s.2.1) (b := s.2.2) (c := 16) (d := 8) (by omega) (by omega) (by omega) (by omega)
    by_cases hc : inS s y x c
    · have hc2 := hc
      obtain ⟨_, c1, c2, c3⟩ := hc2
      rw [if_pos hc]
      have hl := iterN_for (p := ref02_Index_l3_p s y x c) (z := (.inr (y * (s.2.1 * s.2.2) + x * s.2.2 + c) : (Int × Int) ⊕ Int)) y.toNat (fun i => ((0 : Int) + (i : Int) * (s.2.1 * s.2.2), (i : Int))) LL (LL_lt (by omega)) (fun i hi => by
        have hp := mul_in' (a := (i : Int)) (b := s.2.1 * s.2.2) (c := 16) (d := 128) (by omega) (by omega) (by omega) (by omega)
        simp only [ref02_Index_l3_p, ref02_Index_l3_q, hr, hm, Bool.and_true]
        rw [decide_eq_true (by omega), idx6 s y x c _ hm _ (by omega), if_neg (by omega), i64_in ((i : Int) + 1) (by omega)]
        simp only [cond_true, Option.bind_some, either]
        rw [step_mul, show ((i + 1 : Nat) : Int) = (i : Int) + 1 by omega]) (by
        have hp := mul_in' (a := ((y.toNat : Nat) : Int)) (b := s.2.1 * s.2.2) (c := 16) (d := 128) (by omega) (by omega) (by omega) (by omega)
        simp only [ref02_Index_l3_p, ref02_Index_l3_q, hr, hm, Bool.and_true]
        rw [decide_eq_true (by omega), idx6 s y x c _ hm _ (by omega), if_pos (by omega)]
        simp only [cond_true, Option.bind_some, either]
        rw [show ((y.toNat : Nat) : Int) = y by omega, Int.zero_add])
      rw [show ((0 : Int) + ((0 : Nat) : Int) * (s.2.1 * s.2.2), ((0 : Nat) : Int)) = ((0 : Int), (0 : Int)) by simp] at hl
      rw [hl]
      simp only [Option.bind_some, either, atV]
      rw [Int.add_mul, Int.mul_assoc]
    · rw [if_neg hc]
      have hl := iterN_for (p := ref02_Index_l3_p s y x c) (z := (.inl (0 + s.1 * (s.2.1 * s.2.2), s.1) : (Int × Int) ⊕ Int)) (s.1).toNat (fun i => ((0 : Int) + (i : Int) * (s.2.1 * s.2.2), (i : Int))) LL (LL_lt (by omega)) (fun i hi => by
        have hp := mul_in' (a := (i : Int)) (b := s.2.1 * s.2.2) (c := 16) (d := 128) (by omega) (by omega) (by omega) (by omega)
        simp only [ref02_Index_l3_p, ref02_Index_l3_q, hr, hm, Bool.and_true]
        rw [decide_eq_true (by omega), idx6 s y x c _ hm _ (by omega), if_neg (fun hq => hc ⟨hm, by have := hq.1; omega, hq.2⟩), i64_in ((i : Int) + 1) (by omega)]
        simp only [cond_true, Option.bind_some, either]
        rw [step_mul, show ((i + 1 : Nat) : Int) = (i : Int) + 1 by omega]) (by
        simp only [ref02_Index_l3_p, ref02_Index_l3_q, hr, hm, Bool.and_true]
        rw [decide_eq_false (by omega), show (((s.1).toNat : Nat) : Int) = s.1 by omega]
        rfl)
      rw [show ((0 : Int) + ((0 : Nat) : Int) * (s.2.1 * s.2.2), ((0 : Nat) : Int)) = ((0 : Int), (0 : Int)) by simp] at hl
      rw [hl]
      rfl
theorem ShapeAll_true (s at_ : I3) (_ : Ts.ok tsI3 s) (_ : Ts.ok tsI3 at_) : law02_ShapeAll s at_ = some true := by
  unfold law02_ShapeAll law02_ShapeAll_q law02_ShapeAll_r2_p law02_ShapeAll_r2_q
  simp only [shown02, shape_May_eq, ref02_May_eq, shape_Size_eq, ref02_Size_eq, shape_Row_eq, ref02_Row_eq, shape_Index_eq, ref02_Index_eq, Option.bind_some, cond_true, beq_self_eq_true]
end Go.V.P
