/- Plain laws of layer 2: what shapes and windows come to. -/
import Derived.Test.YtlkfbfdleifmiabLBase
import Derived.Test.YtlkfbfdleifmiabSr0
namespace Go.V.P
open Go Go.V Go.IntWalk
set_option linter.unusedVariables false

/-! ### Within bounds -/
def inB (lo hi x : Int) : Bool := decide (lo ≤ x) && decide (x ≤ hi)
theorem inB_iff {lo hi x : Int} : inB lo hi x = true ↔ lo ≤ x ∧ x ≤ hi := by simp [inB]
theorem within_eq (l : List Int) (lo hi : Int) (hl : l.length < 1000000) : shape_within_1 l lo hi = some (l.all (inB lo hi)) := by
  obtain ⟨z, h1, h2⟩ := iterN_inv (p := shape_within_1_l2_p l lo hi) (fun s => 0 ≤ s ∧ s ≤ l.length ∧ ∀ j : Nat, (j : Int) < s → ∀ x, l[j]? = some x → inB lo hi x = true) (fun s => (l.length - s).toNat)
    (Q := fun z => (∃ s, z = .inl s ∧ l.all (inB lo hi) = true) ∨ (∃ u, z = .inr u ∧ l.all (inB lo hi) = false)) (fun s hs => by
    obtain ⟨a1, a2, a3⟩ := hs
    simp only [shape_within_1_l2_p, shape_within_1_l2_q, shape_within_1_r3_p, shape_within_1_r3_q, shape_within_1_r4_p, shape_within_1_r4_q]
    by_cases h : s < l.length
    · have hx : l[s.toNat]? = some (l[s.toNat]'(by omega)) := List.getElem?_eq_getElem _
      have hg : gt l s 0 = l[s.toNat]'(by omega) := by simp [gt, List.getD_eq_getElem?_getD, hx]
      rw [decide_eq_true h, decide_eq_true a1, hg]
      simp only [cond_true, Option.bind_some]
      generalize hxv : l[s.toNat]'(by omega) = x at hx
      by_cases hb : inB lo hi x = true
      · obtain ⟨b1, b2⟩ := inB_iff.1 hb
        refine .inl ⟨s + 1, ?_, ⟨by omega, by omega, fun j hj y hy => ?_⟩, by omega⟩
        · rw [decide_eq_false (by omega), decide_eq_false (by omega), i64_in (s + 1) (by omega)]
          rfl
        · by_cases hjs : (j : Int) < s
          · exact a3 j hjs y hy
          · have : j = s.toNat := by omega
            subst this
            rw [hx] at hy
            cases hy
            exact hb
      · refine .inr ⟨.inr (), ?_, .inr ⟨(), rfl, ?_⟩⟩
        · have hc : ¬(lo ≤ x ∧ x ≤ hi) := fun hc => hb (inB_iff.2 hc)
          by_cases h1 : x < lo
          · rw [decide_eq_true h1]; rfl
          · rw [decide_eq_false h1, decide_eq_true (by omega : x > hi)]; rfl
        · rw [List.all_eq_false]
          exact ⟨x, List.mem_of_getElem? hx, hb⟩
    · refine .inr ⟨.inl s, ?_, .inl ⟨s, rfl, ?_⟩⟩
      · rw [decide_eq_false h]; rfl
      · rw [List.all_eq_true]
        intro x hx
        obtain ⟨j, hj⟩ := List.mem_iff_getElem?.1 hx
        have := (List.getElem?_eq_some_iff.1 hj).1
        exact a3 j (by omega) x hj) LL 0 ⟨by omega, by omega, fun j hj => by omega⟩ (LL_lt (by omega))
  unfold shape_within_1 shape_within_1_q
  rw [h1]
  rcases h2 with ⟨s, rfl, h2⟩ | ⟨u, rfl, h2⟩ <;> rw [h2] <;> rfl
theorem within1 (x lo hi : Int) : shape_within_1 [x] lo hi = some (inB lo hi x) := by
  rw [within_eq _ _ _ (by simp)]; simp
theorem within2 (x y lo hi : Int) : shape_within_1 [x, y] lo hi = some (inB lo hi x && inB lo hi y) := by
  rw [within_eq _ _ _ (by simp)]; simp

/-! ### Shapes -/
def mayB (s : I3) : Bool := inB 1 16 s.1 && inB 1 16 s.2.1 && inB 1 8 s.2.2
theorem mayB_iff {s : I3} : mayB s = true ↔ 1 ≤ s.1 ∧ s.1 ≤ 16 ∧ 1 ≤ s.2.1 ∧ s.2.1 ≤ 16 ∧ 1 ≤ s.2.2 ∧ s.2.2 ≤ 8 := by
  simp only [mayB, Bool.and_eq_true, inB_iff]
  constructor <;> intro h <;> omega
theorem shape_may_eq (s : I3) : shape_may s = some (mayB s) := by
  have e : ((shape_within (1 : Int) (16 : Int)).1).1 = 1 := rfl
  have e2 : ((shape_within (1 : Int) (16 : Int)).2.1).1 = 16 := rfl
  have e3 : ((shape_within (1 : Int) (8 : Int)).1).1 = 1 := rfl
  have e4 : ((shape_within (1 : Int) (8 : Int)).2.1).1 = 8 := rfl
  unfold shape_may shape_may_q shape_may_r1_p shape_may_r1_q mayB
  rw [e, e2, e3, e4, within2, within1]
  simp only [Option.bind_some]
  cases inB 1 16 s.1 && inB 1 16 s.2.1 <;> rfl
def rowV (s : I3) : Int := if mayB s = true then s.2.1 * s.2.2 else 0
def sizeV (s : I3) : Int := if mayB s = true then s.1 * s.2.1 * s.2.2 else 0
theorem rowV_in (s : I3) : 0 ≤ rowV s ∧ rowV s ≤ 128 := by
  unfold rowV
  split
  · rename_i h
    have h := mayB_iff.1 h
    exact mul_in' (c := 16) (d := 8) (by omega) (by omega) (by omega) (by omega)
  · omega
theorem shape_Row_eq (s : I3) : shape_Row s = some (rowV s) := by
  have hr := rowV_in s
  unfold shape_Row shape_Row_q
  rw [shape_may_eq]
  simp only [Option.bind_some]
  unfold rowV at hr ⊢
  cases hm : mayB s with
  | true =>
    rw [hm, if_pos rfl] at hr
    simp only [Bool.not_true, cond_false, if_true]
    rw [i64_in _ (by omega)]
  | false => simp only [Bool.not_false, cond_true, Bool.false_eq_true, if_false]
theorem sizeV_row (s : I3) : sizeV s = s.1 * rowV s := by
  unfold sizeV rowV
  split
  · rw [Int.mul_assoc]
  · omega
theorem sizeV_in (s : I3) : 0 ≤ sizeV s ∧ sizeV s ≤ 2048 := by
  unfold sizeV
  split
  · rename_i h
    have h := mayB_iff.1 h
    have h1 := mul_in' (a := s.2.1) (b := s.2.2) (c := 16) (d := 8) (by omega) (by omega) (by omega) (by omega)
    rw [Int.mul_assoc]
    exact mul_in' (c := 16) (d := 128) (by omega) (by omega) h1.1 h1.2
  · omega
theorem shape_Size_eq (s : I3) : shape_Size s = some (sizeV s) := by
  have hs := sizeV_in s
  unfold shape_Size shape_Size_q
  rw [shape_Row_eq]
  simp only [Option.bind_some]
  rw [sizeV_row, Int.mul_comm] at hs
  rw [i64_in _ (by omega), sizeV_row, Int.mul_comm]

/-! ### Windows -/
def winB (size k stride pad : Int) : Bool := inB 1 64 size && inB 1 16 k && inB 1 16 stride && inB 0 16 pad
theorem winB_iff {size k stride pad : Int} : winB size k stride pad = true ↔ 1 ≤ size ∧ size ≤ 64 ∧ 1 ≤ k ∧ k ≤ 16 ∧ 1 ≤ stride ∧ stride ≤ 16 ∧ 0 ≤ pad ∧ pad ≤ 16 := by
  simp only [winB, Bool.and_eq_true, inB_iff]
  constructor <;> intro h <;> omega
def outV (size k stride pad : Int) : Int := if winB size k stride pad = true ∧ k ≤ size + 2 * pad then 1 + (size + 2 * pad - k) / stride else 0
theorem outV_in (size k stride pad : Int) : 0 ≤ outV size k stride pad ∧ outV size k stride pad ≤ 96 := by
  unfold outV
  split
  · rename_i h
    have h1 := winB_iff.1 h.1
    have h2 : 0 ≤ (size + 2 * pad - k) / stride := Int.ediv_nonneg (by omega) (by omega)
    have h3 : (size + 2 * pad - k) / stride ≤ size + 2 * pad - k := Int.ediv_le_self _ (by omega)
    omega
  · omega
theorem shape_Out_eq (size k stride pad : Int) : shape_Out size k stride pad = some (outV size k stride pad) := by
  have e : ((shape_within (1 : Int) (64 : Int)).1).1 = 1 := rfl
  have e2 : ((shape_within (1 : Int) (64 : Int)).2.1).1 = 64 := rfl
  have e3 : ((shape_within (1 : Int) (16 : Int)).1).1 = 1 := rfl
  have e4 : ((shape_within (1 : Int) (16 : Int)).2.1).1 = 16 := rfl
  have e5 : ((shape_within (0 : Int) (16 : Int)).1).1 = 0 := rfl
  have e6 : ((shape_within (0 : Int) (16 : Int)).2.1).1 = 16 := rfl
  have hr : shape_Out_r1_p size k stride pad = some (!(winB size k stride pad) || decide (k > IntKind.wrap .i64 (size + IntKind.wrap .i64 (2 * pad)))) := by
    unfold shape_Out_r1_p shape_Out_r1_q winB
    rw [e, e2, e3, e4, e5, e6, within1, within2, within1]
    simp only [Option.bind_some]
    cases inB 1 64 size <;> cases inB 1 16 k <;> cases inB 1 16 stride <;> cases inB 0 16 pad <;> simp
  unfold shape_Out shape_Out_q
  rw [hr]
  simp only [Option.bind_some]
  unfold outV
  cases hw : winB size k stride pad with
  | false => simp
  | true =>
    have h1 := winB_iff.1 hw
    rw [i64_in (2 * pad) (by omega), i64_in (size + 2 * pad) (by omega)]
    by_cases hk : k ≤ size + 2 * pad
    · rw [decide_eq_false (by omega), if_pos ⟨rfl, hk⟩]
      simp only [Bool.not_true, Bool.or_false, cond_false, shape_Out_r3_p, shape_Out_r3_q]
      have hz : (stride == 0) = false := by simp only [beq_eq_false_iff_ne]; omega
      rw [hz, i64_in (2 * pad) (by omega), i64_in (size + 2 * pad) (by omega), i64_in (size + 2 * pad - k) (by omega), i64_quo _ _ (by omega)]
      have h2 : 0 ≤ (size + 2 * pad - k) / stride := Int.ediv_nonneg (by omega) (by omega)
      have h3 : (size + 2 * pad - k) / stride ≤ size + 2 * pad - k := Int.ediv_le_self _ (by omega)
      rw [i64_in _ (by omega)]
      rfl
    · rw [decide_eq_true (by omega), if_neg (fun h => hk h.2)]
      rfl
/-- what is under one place more -/
def under (size k stride pad p : Int) (r : Int × Int) : Int × Int :=
  if max 0 (p * stride - pad) < min size (p * stride - pad + k) then (min r.1 (max 0 (p * stride - pad)), max r.2 (min size (p * stride - pad + k))) else r
def unders (size k stride pad first : Int) : Nat → Int × Int
  | 0 => (size, 0)
  | i + 1 => under size k stride pad (first + i) (unders size k stride pad first i)
def reachV (first rows k stride pad size : Int) : Int × Int :=
  if first < 0 ∨ rows < 1 ∨ first > outV size k stride pad ∨ rows > outV size k stride pad - first then (0, 0)
  else if (unders size k stride pad first rows.toNat).2 = 0 then (0, 0) else unders size k stride pad first rows.toNat
theorem unders_in {size k stride pad first : Int} (h : winB size k stride pad = true) : ∀ i, 0 ≤ (unders size k stride pad first i).1 ∧ (unders size k stride pad first i).1 ≤ size ∧ 0 ≤ (unders size k stride pad first i).2 ∧ (unders size k stride pad first i).2 ≤ size ∧
    ((unders size k stride pad first i).2 = 0 → (unders size k stride pad first i).1 = size)
  | 0 => by
    have h1 := winB_iff.1 h
    exact ⟨by show 0 ≤ size; omega, Int.le_refl _, Int.le_refl _, by show 0 ≤ size; omega, fun _ => rfl⟩
  | i + 1 => by
    have h1 := winB_iff.1 h
    have ih := unders_in (first := first) h i
    simp only [unders, under]
    generalize (first + (i : Int)) * stride - pad = a at *
    generalize unders size k stride pad first i = r at *
    split <;> (try simp only) <;> omega
theorem reachV_in (first rows k stride pad size : Int) : 0 ≤ (reachV first rows k stride pad size).1 ∧ 0 ≤ (reachV first rows k stride pad size).2 ∧ ((reachV first rows k stride pad size).2 ≤ size ∨ (reachV first rows k stride pad size).2 = 0) := by
  unfold reachV
  split
  · simp
  · rename_i hg
    split
    · simp
    · have hw : winB size k stride pad = true := by
        have h0 := outV_in size k stride pad
        cases hw : winB size k stride pad with
        | true => rfl
        | false =>
          have : outV size k stride pad = 0 := by unfold outV; rw [hw]; simp
          omega
      have := unders_in (first := first) hw rows.toNat
      omega
theorem shape_Reach_eq (first rows k stride pad size : Int) : shape_Reach first rows k stride pad size = some (reachV first rows k stride pad size) := by
  have hn := outV_in size k stride pad
  unfold shape_Reach shape_Reach_q
  rw [shape_Out_eq]
  simp only [Option.bind_some, shape_Reach_r2_p, shape_Reach_r2_q]
  unfold reachV
  by_cases hg : first < 0 ∨ rows < 1 ∨ first > outV size k stride pad ∨ rows > outV size k stride pad - first
  · rw [if_pos hg]
    have : (bif decide (first < 0) then true else bif decide (rows < 1) then true else bif decide (first > outV size k stride pad) then true else decide (rows > IntKind.wrap .i64 (outV size k stride pad - first))) = true := by
      by_cases h1 : first < 0
      · rw [decide_eq_true h1]; rfl
      · rw [decide_eq_false h1]
        by_cases h2 : rows < 1
        · rw [decide_eq_true h2]; rfl
        · rw [decide_eq_false h2]
          by_cases h3 : first > outV size k stride pad
          · rw [decide_eq_true h3]; rfl
          · rw [decide_eq_false h3, i64_in _ (by omega), decide_eq_true (by omega)]; rfl
    rw [this]
    rfl
  · rw [if_neg hg]
    have hw : winB size k stride pad = true := by
      cases hw : winB size k stride pad with
      | true => rfl
      | false =>
        have : outV size k stride pad = 0 := by unfold outV; rw [hw]; simp
        omega
    have h1 := winB_iff.1 hw
    rw [decide_eq_false (by omega), decide_eq_false (by omega), decide_eq_false (by omega), i64_in (outV size k stride pad - first) (by omega), decide_eq_false (by omega)]
    simp only [cond_false]
    have hl := iterN_for (p := shape_Reach_l6_p first rows k stride pad size) (z := ((unders size k stride pad first rows.toNat).1, (unders size k stride pad first rows.toNat).2, first + rows)) rows.toNat
      (fun i => ((unders size k stride pad first i).1, (unders size k stride pad first i).2, first + (i : Int))) LL (LL_lt (by omega)) (fun i hi => by
        have hp := mul_in' (a := first + (i : Int)) (b := stride) (c := 96) (d := 16) (by omega) (by omega) (by omega) (by omega)
        have hu := unders_in (first := first) hw i
        simp only [shape_Reach_l6_p, shape_Reach_l6_q, shape_Reach_j8_p, shape_Reach_j8_q, shape_Reach_r9_p, shape_Reach_r9_q, shape_Reach_r10_p, shape_Reach_r10_q, shape_Reach_r8_p, shape_Reach_r8_q]
        have e1 := i64_in (first + rows) (by omega)
        have e2 := i64_in ((first + (i : Int)) * stride) (by omega)
        have e3 := i64_in ((first + (i : Int)) * stride - pad) (by omega)
        have e4 := i64_in ((first + (i : Int)) * stride - pad + k) (by omega)
        have e5 := i64_in (first + (i : Int) + 1) (by omega)
        have e6 : decide (first + (i : Int) < first + rows) = true := decide_eq_true (by omega)
        simp only [e1, e2, e3, e4, e5, e6]
        simp only [cond_true, unders, under]
        by_cases hc : max 0 ((first + (i : Int)) * stride - pad) < min size ((first + (i : Int)) * stride - pad + k)
        · rw [decide_eq_true hc, if_pos hc]
          simp only [cond_true]
          rw [show ((i + 1 : Nat) : Int) = (i : Int) + 1 by omega, Int.add_assoc]
        · rw [decide_eq_false hc, if_neg hc]
          simp only [cond_false]
          rw [show ((i + 1 : Nat) : Int) = (i : Int) + 1 by omega, Int.add_assoc]) (by
        simp only [shape_Reach_l6_p, shape_Reach_l6_q]
        rw [i64_in (first + rows) (by omega), decide_eq_false (by omega)]
        simp only [cond_false]
        rw [show ((rows.toNat : Nat) : Int) = rows by omega])
    simp only [unders] at hl
    rw [show first + ((0 : Nat) : Int) = first by omega] at hl
    rw [hl]
    simp only [Option.bind_some]
    by_cases hz : (unders size k stride pad first rows.toNat).2 = 0
    · rw [if_pos hz, hz]; rfl
    · rw [if_neg hz]
      have : ((unders size k stride pad first rows.toNat).2 == 0) = false := by simpa using hz
      rw [this]
      rfl
theorem shown02_dummy : True := trivial
end Go.V.P
