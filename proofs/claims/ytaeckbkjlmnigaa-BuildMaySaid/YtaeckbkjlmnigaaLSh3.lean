/- Plain laws of layer 2, as far as graphs need them. -/
import Derived.Test.YtaeckbkjlmnigaaV5
import Derived.Test.YtaeckbkjlmnigaaBm1
namespace Go.V.P
open Go Go.V Go.IntWalk
set_option linter.unusedVariables false
def inB (lo hi x : Int) : Bool := decide (lo ≤ x) && decide (x ≤ hi)
theorem inB_iff {lo hi x : Int} : inB lo hi x = true ↔ lo ≤ x ∧ x ≤ hi := by simp [inB]
theorem within_eq (l : List Int) (lo hi : Int) (hl : l.length < 1000000) : shape_within_1 l lo hi = some (l.all (inB lo hi)) := by
  obtain ⟨z, h1, h2⟩ := iterN_inv (p := shape_within_1_l2_p l lo hi) (fun s => 0 ≤ s ∧ s ≤ l.length ∧ ∀ j : Nat, (j : Int) < s → ∀ x, l[j]? = some x → inB lo hi x = true) (fun s => (l.length - s).toNat)
    (Q := fun z => (∃ s, z = .inl s ∧ l.all (inB lo hi) = true) ∨ (∃ u, z = .inr u ∧ l.all (inB lo hi) = false)) (fun s hs => by
    obtain ⟨a1, a2, a3⟩ := hs
    simp only [shape_within_1_l2_p, shape_within_1_r3_p, shape_within_1_r4_p, shape_within_1_r4_q]
    by_cases h : s < l.length
    · have hx : l[s.toNat]? = some (l[s.toNat]'(by omega)) := List.getElem?_eq_getElem _
      have hg : gt l s 0 = l[s.toNat]'(by omega) := by simp [gt, List.getD_eq_getElem?_getD, hx]
      rw [decide_eq_true h, decide_eq_true a1, hg]
      simp only [cond_true, Option.bind_some]
      generalize hxv : l[s.toNat]'(by omega) = x at hx
      by_cases hb : inB lo hi x = true
      · obtain ⟨b1, b2⟩ := inB_iff.1 hb
        refine .inl ⟨s + 1, ?_, ⟨by omega, by omega, fun j hj y hy => ?_⟩, by omega⟩
        · rw [decide_eq_false (by omega), decide_eq_false (by omega), i64_in (s + 1) (by omega)]
          rfl
        · by_cases hjs : (j : Int) < s
          · exact a3 j hjs y hy
          · have : j = s.toNat := by omega
            subst this
            rw [hx] at hy
            cases hy
            exact hb
      · refine .inr ⟨.inr (), ?_, .inr ⟨(), rfl, ?_⟩⟩
        · have hc : ¬(lo ≤ x ∧ x ≤ hi) := fun hc => hb (inB_iff.2 hc)
          by_cases h1 : x < lo
          · rw [decide_eq_true h1]; rfl
          · rw [decide_eq_false h1, decide_eq_true (by omega : x > hi)]; rfl
        · rw [List.all_eq_false]
          exact ⟨x, List.mem_of_getElem? hx, hb⟩
    · refine .inr ⟨.inl s, ?_, .inl ⟨s, rfl, ?_⟩⟩
      · rw [decide_eq_false h]; rfl
      · rw [List.all_eq_true]
        intro x hx
        obtain ⟨j, hj⟩ := List.mem_iff_getElem?.1 hx
        have := (List.getElem?_eq_some_iff.1 hj).1
        exact a3 j (by omega) x hj) LL 0 ⟨by omega, by omega, fun j hj => by omega⟩ (LL_lt (by omega))
  unfold shape_within_1
  rw [h1]
  rcases h2 with ⟨s, rfl, h2⟩ | ⟨u, rfl, h2⟩ <;> rw [h2] <;> rfl
theorem within1 (x lo hi : Int) : shape_within_1 [x] lo hi = some (inB lo hi x) := by
  rw [within_eq _ _ _ (by simp)]; simp
theorem within2 (x y lo hi : Int) : shape_within_1 [x, y] lo hi = some (inB lo hi x && inB lo hi y) := by
  rw [within_eq _ _ _ (by simp)]; simp
def mayB (s : I3) : Bool := inB 1 16 s.1 && inB 1 16 s.2.1 && inB 1 8 s.2.2
theorem mayB_iff {s : I3} : mayB s = true ↔ 1 ≤ s.1 ∧ s.1 ≤ 16 ∧ 1 ≤ s.2.1 ∧ s.2.1 ≤ 16 ∧ 1 ≤ s.2.2 ∧ s.2.2 ≤ 8 := by
  simp only [mayB, Bool.and_eq_true, inB_iff]
  constructor <;> intro h <;> omega
theorem shape_may_eq (s : I3) : shape_may s = some (mayB s) := by
  have e : ((shape_within (1 : Int) (16 : Int)).1).1 = 1 := rfl
  have e2 : ((shape_within (1 : Int) (16 : Int)).2.1).1 = 16 := rfl
  have e3 : ((shape_within (1 : Int) (8 : Int)).1).1 = 1 := rfl
  have e4 : ((shape_within (1 : Int) (8 : Int)).2.1).1 = 8 := rfl
  unfold shape_may shape_may_r1_p mayB
  rw [e, e2, e3, e4, within2, within1]
  simp only [Option.bind_some]
  cases inB 1 16 s.1 && inB 1 16 s.2.1 <;> rfl
def rowV (s : I3) : Int := if mayB s = true then s.2.1 * s.2.2 else 0
def sizeV (s : I3) : Int := if mayB s = true then s.1 * s.2.1 * s.2.2 else 0
theorem rowV_in (s : I3) : 0 ≤ rowV s ∧ rowV s ≤ 128 := by
  unfold rowV
  split
  · rename_i h
    have h := mayB_iff.1 h
    exact mul_in' (c := 16) (d := 8) (by omega) (by omega) (by omega) (by omega)
  · omega
theorem shape_Row_eq (s : I3) : shape_Row s = some (rowV s) := by
  have hr := rowV_in s
  unfold shape_Row
  rw [shape_may_eq]
  simp only [Option.bind_some]
  unfold rowV at hr ⊢
  cases hm : mayB s with
  | true =>
    rw [hm, if_pos rfl] at hr
    simp only [Bool.not_true, cond_false, if_true]
    rw [i64_in _ (by omega)]
  | false => simp only [Bool.not_false, cond_true, Bool.false_eq_true, if_false]
theorem sizeV_row (s : I3) : sizeV s = s.1 * rowV s := by
  unfold sizeV rowV
  split
  · rw [Int.mul_assoc]
  · omega
theorem sizeV_in (s : I3) : 0 ≤ sizeV s ∧ sizeV s ≤ 2048 := by
  unfold sizeV
  split
  · rename_i h
    have h := mayB_iff.1 h
    have h1 := mul_in' (a := s.2.1) (b := s.2.2) (c := 16) (d := 8) (by omega) (by omega) (by omega) (by omega)
    rw [Int.mul_assoc]
    exact mul_in' (c := 16) (d := 128) (by omega) (by omega) h1.1 h1.2
  · omega
theorem shape_Size_eq (s : I3) : shape_Size s = some (sizeV s) := by
  have hs := sizeV_in s
  unfold shape_Size
  rw [shape_Row_eq]
  simp only [Option.bind_some]
  rw [sizeV_row, Int.mul_comm] at hs
  rw [i64_in _ (by omega), sizeV_row, Int.mul_comm]
def winB (size k stride pad : Int) : Bool := inB 1 64 size && inB 1 16 k && inB 1 16 stride && inB 0 16 pad
theorem winB_iff {size k stride pad : Int} : winB size k stride pad = true ↔ 1 ≤ size ∧ size ≤ 64 ∧ 1 ≤ k ∧ k ≤ 16 ∧ 1 ≤ stride ∧ stride ≤ 16 ∧ 0 ≤ pad ∧ pad ≤ 16 := by
  simp only [winB, Bool.and_eq_true, inB_iff]
  constructor <;> intro h <;> omega
def outV (size k stride pad : Int) : Int := if winB size k stride pad = true ∧ k ≤ size + 2 * pad then 1 + (size + 2 * pad - k) / stride else 0
theorem outV_in (size k stride pad : Int) : 0 ≤ outV size k stride pad ∧ outV size k stride pad ≤ 96 := by
  unfold outV
  split
  · rename_i h
    have h1 := winB_iff.1 h.1
    have h2 : 0 ≤ (size + 2 * pad - k) / stride := Int.ediv_nonneg (by omega) (by omega)
    have h3 : (size + 2 * pad - k) / stride ≤ size + 2 * pad - k := Int.ediv_le_self _ (by omega)
    omega
  · omega
theorem shape_Out_eq (size k stride pad : Int) : shape_Out size k stride pad = some (outV size k stride pad) := by
  have e : ((shape_within (1 : Int) (64 : Int)).1).1 = 1 := rfl
  have e2 : ((shape_within (1 : Int) (64 : Int)).2.1).1 = 64 := rfl
  have e3 : ((shape_within (1 : Int) (16 : Int)).1).1 = 1 := rfl
  have e4 : ((shape_within (1 : Int) (16 : Int)).2.1).1 = 16 := rfl
  have e5 : ((shape_within (0 : Int) (16 : Int)).1).1 = 0 := rfl
  have e6 : ((shape_within (0 : Int) (16 : Int)).2.1).1 = 16 := rfl
  have hr : shape_Out_r1_p size k stride pad = some (!(winB size k stride pad) || decide (k > IntKind.wrap .i64 (size + IntKind.wrap .i64 (2 * pad)))) := by
    unfold shape_Out_r1_p winB
    rw [e, e2, e3, e4, e5, e6, within1, within2, within1]
    simp only [Option.bind_some]
    cases inB 1 64 size <;> cases inB 1 16 k <;> cases inB 1 16 stride <;> cases inB 0 16 pad <;> simp
  unfold shape_Out
  rw [hr]
  simp only [Option.bind_some]
  unfold outV
  cases hw : winB size k stride pad with
  | false => simp
  | true =>
    have h1 := winB_iff.1 hw
    rw [i64_in (2 * pad) (by omega), i64_in (size + 2 * pad) (by omega)]
    by_cases hk : k ≤ size + 2 * pad
    · rw [decide_eq_false (by omega), if_pos ⟨rfl, hk⟩]
      simp only [Bool.not_true, Bool.or_false, cond_false, shape_Out_r3_p]
      have hz : (stride == 0) = false := by simp only [beq_eq_false_iff_ne]; omega
      rw [hz, i64_in (2 * pad) (by omega), i64_in (size + 2 * pad) (by omega), i64_in (size + 2 * pad - k) (by omega), i64_quo _ _ (by omega)]
      have h2 : 0 ≤ (size + 2 * pad - k) / stride := Int.ediv_nonneg (by omega) (by omega)
      have h3 : (size + 2 * pad - k) / stride ≤ size + 2 * pad - k := Int.ediv_le_self _ (by omega)
      rw [i64_in _ (by omega)]
      rfl
    · rw [decide_eq_true (by omega), if_neg (fun h => hk h.2)]
      rfl
theorem ref02_Out_eq (size k stride pad : Int) : ref02_Out size k stride pad = some (outV size k stride pad) := by
  have hr : ref02_Out_r1_p size k stride pad = !(winB size k stride pad) := by
    rw [Bool.eq_iff_iff]
    simp only [ref02_Out_r1_p, ref02_Out_r1_q, Bool.cond_true_left, Bool.not_eq_true', Bool.or_eq_true, decide_eq_true_iff, ← Bool.not_eq_true, winB_iff]
    omega
  unfold ref02_Out
  rw [hr]
  cases hw : winB size k stride pad with
  | false => simp [outV, hw]
  | true =>
    have h1 := winB_iff.1 hw
    have ho := outV_in size k stride pad
    simp only [Bool.not_true, cond_false]
    rw [i64_in (0 - pad) (by omega)]
    have hm : ∀ i : Nat, (i : Int) < outV size k stride pad ↔ (i : Int) * stride - pad + k ≤ size + pad := fun i => by
      unfold outV
      rw [hw]
      by_cases hk : k ≤ size + 2 * pad
      · rw [if_pos ⟨rfl, hk⟩]
        have : (i : Int) ≤ (size + 2 * pad - k) / stride ↔ (i : Int) * stride ≤ size + 2 * pad - k := Int.le_ediv_iff_mul_le (by omega)
        constructor
        · intro h; have := this.1 (by omega); omega
        · intro h; have := this.2 (by omega); omega
      · rw [if_neg (fun h => hk h.2)]
        have : 0 ≤ (i : Int) * stride := Int.mul_nonneg (by omega) (by omega)
        constructor <;> intro h <;> omega
    have hl := iterN_for (p := ref02_Out_l5_p size k stride pad) (z := (outV size k stride pad, outV size k stride pad * stride - pad)) (outV size k stride pad).toNat
      (fun i => ((i : Int), (i : Int) * stride - pad)) LL (LL_lt (by omega)) (fun i hi => by
        have hp := mul_in' (a := (i : Int)) (b := stride) (c := 96) (d := 16) (by omega) (by omega) (by omega) (by omega)
        simp only [ref02_Out_l5_p]
        have e1 := i64_in ((i : Int) * stride - pad + k) (by omega)
        have e2 := i64_in (size + pad) (by omega)
        have e3 := i64_in ((i : Int) + 1) (by omega)
        have e4 := i64_in ((i : Int) * stride - pad + stride) (by omega)
        have e5 : decide ((i : Int) * stride - pad + k ≤ size + pad) = true := decide_eq_true ((hm i).1 (by omega))
        simp only [e1, e2, e3, e4, e5, cond_true]
        rw [show ((i + 1 : Nat) : Int) = (i : Int) + 1 by omega, Int.add_mul, Int.one_mul, show (i : Int) * stride - pad + stride = (i : Int) * stride + stride - pad by omega]) (by
        have hp := mul_in' (a := ((outV size k stride pad).toNat : Int)) (b := stride) (c := 96) (d := 16) (by omega) (by omega) (by omega) (by omega)
        have e5 : decide (((outV size k stride pad).toNat : Int) * stride - pad + k ≤ size + pad) = false := decide_eq_false (fun h => by have := (hm (outV size k stride pad).toNat).2 h; omega)
        simp only [ref02_Out_l5_p]
        have e1 := i64_in (((outV size k stride pad).toNat : Int) * stride - pad + k) (by omega)
        have e2 := i64_in (size + pad) (by omega)
        simp only [e1, e2, e5, cond_false]
        rw [show ((outV size k stride pad).toNat : Int) = outV size k stride pad by omega])
    rw [show (((0 : Nat) : Int), ((0 : Nat) : Int) * stride - pad) = ((0 : Int), 0 - pad) by rw [show ((0 : Nat) : Int) = 0 by rfl, Int.zero_mul]] at hl
    rw [hl]
    rfl
theorem shape_May_eq (s : I3) : shape_May s = some (if mayB s = true then 0 else 10) := by
  unfold shape_May
  rw [shape_may_eq]
  cases mayB s <;> rfl
theorem ref02_May_eq (s : I3) : ref02_May s = if mayB s = true then 0 else 10 := by
  have hr : ref02_May_r1_p s = !(mayB s) := by
    rw [Bool.eq_iff_iff]
    simp only [ref02_May_r1_p, ref02_May_r1_q, Bool.cond_true_left, Bool.not_eq_true', Bool.or_eq_true, decide_eq_true_iff, ← Bool.not_eq_true, mayB_iff]
    omega
  unfold ref02_May ref02_May_q
  rw [hr]
  cases mayB s <;> rfl
theorem ref02_Size_eq (s : I3) : ref02_Size s = sizeV s := by
  unfold ref02_Size ref02_Size_q
  rw [ref02_May_eq]
  unfold sizeV
  cases hm : mayB s with
  | true =>
    have h := mayB_iff.1 hm
    have h1 := mul_in' (a := s.1) (b := s.2.1) (c := 16) (d := 16) (by omega) (by omega) (by omega) (by omega)
    have h2 := mul_in' (a := s.1 * s.2.1) (b := s.2.2) (c := 256) (d := 8) h1.1 h1.2 (by omega) (by omega)
    simp only [if_true]
    rw [i64_in (s.1 * s.2.1) (by omega), i64_in _ (by omega)]
    rfl
  | false => rfl
end Go.V.P
