/- Plain laws of layer 5: a number of a value, and of a node. -/
import Derived.Test.YtdgdgoekapekpaaLAll
namespace Go.V.P
open Go Go.V Go.IntWalk
set_option linter.unusedVariables false
set_option linter.unusedSimpArgs false
set_option maxRecDepth 20000
def pushV (s : List Int × Int) (v : Int) : Option (List Int) := bif decide (s.1.length + ([IntKind.wrap .i8 v] : List Int).length ≤ maxL) then some (s.1 ++ [IntKind.wrap .i8 v]) else none
theorem push_ok (s : List Int × Int) (v : Int) (h : s.1.length < 3000) : pushV s v = some (s.1 ++ [IntKind.wrap .i8 v]) := by
  unfold pushV
  rw [decide_eq_true (by simp only [List.length_cons, List.length_nil]; unfold maxL; omega)]
  rfl
section
variable (n : Node) (l : List I4) (d : List Int × List Int) (z : I4) (y : Int) (s s2 : List Int × Int)
theorem pix_conv (h : n.1 = 1 ∨ n.1 = 2) : rowP y (chosen n l d z) s s2 = Option.bind (kern_conv_1 y s.2 s2.2 n (paneV (fst4 l) d.1)) (pushV s2) := by
  obtain ⟨op, i, K, S, P, O, M, Sh, Z, t1, t2, t3, W, B⟩ := n
  rcases h with h | h
  · replace h : op = 1 := h
    subst h; rfl
  · replace h : op = 2 := h
    subst h; rfl
theorem pix_full (h : n.1 = 3) : rowP y (chosen n l d z) s s2 = Option.bind (kern_full_1 y s.2 s2.2 n (paneV (fst4 l) d.1)) (pushV s2) := by
  obtain ⟨op, i, K, S, P, O, M, Sh, Z, t1, t2, t3, W, B⟩ := n
  replace h : op = 3 := h
  subst h; rfl
theorem pix_pool (h : n.1 = 4 ∨ n.1 = 5) : rowP y (chosen n l d z) s s2 = Option.bind (kern_pool_1 y s.2 s2.2 n (paneV (fst4 l) d.1)) (pushV s2) := by
  obtain ⟨op, i, K, S, P, O, M, Sh, Z, t1, t2, t3, W, B⟩ := n
  rcases h with h | h
  · replace h : op = 4 := h
    subst h; rfl
  · replace h : op = 5 := h
    subst h; rfl
theorem pix_pair (h : n.1 = 6 ∨ n.1 = 7) : rowP y (chosen n l d z) s s2 = Option.bind (kern_pair_1 y s.2 s2.2 (paneV (fst4 l) d.1) (pane2 l d) n) (pushV s2) := by
  obtain ⟨op, i, K, S, P, O, M, Sh, Z, t1, t2, t3, W, B⟩ := n
  rcases h with h | h
  · replace h : op = 6 := h
    subst h; rfl
  · replace h : op = 7 := h
    subst h; rfl
theorem pix_relu (h : n.1 = 8) : rowP y (chosen n l d z) s s2 = Option.bind (kern_made_1 y s.2 s2.2 (paneV (fst4 l) d.1) n) (pushV s2) := by
  obtain ⟨op, i, K, S, P, O, M, Sh, Z, t1, t2, t3, W, B⟩ := n
  replace h : op = 8 := h
  subst h; rfl
theorem pix_pad (h : n.1 = 9) : rowP y (chosen n l d z) s s2 = Option.bind (kern_made_2 y s.2 s2.2 (paneV (fst4 l) d.1)) (pushV s2) := by
  obtain ⟨op, i, K, S, P, O, M, Sh, Z, t1, t2, t3, W, B⟩ := n
  replace h : op = 9 := h
  subst h; rfl
theorem pix_reshape (h : n.1 = 11) : rowP y (chosen n l d z) s s2 = Option.bind (kern_made_4 y s.2 s2.2 (paneV (fst4 l) d.1) z) (pushV s2) := by
  obtain ⟨op, i, K, S, P, O, M, Sh, Z, t1, t2, t3, W, B⟩ := n
  replace h : op = 11 := h
  subst h; rfl
theorem pix_table (h : n.1 = 12) : rowP y (chosen n l d z) s s2 = Option.bind (kern_made_5 y s.2 s2.2 n (paneV (fst4 l) d.1)) (pushV s2) := by
  obtain ⟨op, i, K, S, P, O, M, Sh, Z, t1, t2, t3, W, B⟩ := n
  replace h : op = 12 := h
  subst h; rfl
theorem pix_concat (h : n.1 = 10) : rowP y (chosen n l d z) s s2 = Option.bind (kern_made_3 y s.2 s2.2 (paneV (fst4 l) d.1) (fst4 l).1 (fst4 l).2.1 (fst4 l).2.2.1 (fst4 l).2.2.2 0 (fst4 l).1 d.1 (pane2 l d).1 (pane2 l d).2.1 (pane2 l d).2.2.1 (pane2 l d).2.2.2.1 (pane2 l d).2.2.2.2.1 (pane2 l d).2.2.2.2.2.1 (pane2 l d).2.2.2.2.2.2) (pushV s2) := by
  obtain ⟨op, i, K, S, P, O, M, Sh, Z, t1, t2, t3, W, B⟩ := n
  replace h : op = 10 := h
  subst h; rfl
end
/-- bytes -/
def i8s (d : List Int) : Prop := ∀ v ∈ d, -128 ≤ v ∧ v ≤ 127
theorem gt_i8 {d : List Int} (h : i8s d) (i : Int) (h0 : 0 ≤ i) (h1 : i < d.length) : -128 ≤ gt d i 0 ∧ gt d i 0 ≤ 127 := by
  have := gt_mem' (l := d) (i := i.toNat) (by omega) 0
  rw [show ((i.toNat : Nat) : Int) = i by omega] at this
  exact h _ this
theorem idx_in {H W C y x c : Int} (hH : H ≤ 64) (hW : W ≤ 64) (hC : C ≤ 64) (h1 : 0 ≤ y) (h2 : y < H) (h3 : 0 ≤ x) (h4 : x < W) (h5 : 0 ≤ c) (h6 : c < C) :
    0 ≤ y * W ∧ y * W ≤ 4096 ∧ 0 ≤ (y * W + x) * C ∧ (y * W + x) * C ≤ 300000 ∧ (y * W + x) * C + c < H * W * C := by
  have a1 := mul_in' (a := y) (b := W) (c := 64) (d := 64) h1 (by omega) (by omega) (by omega)
  have a2 : (y + 1) * W ≤ H * W := Int.mul_le_mul_of_nonneg_right (by omega) (by omega)
  rw [Int.add_mul, Int.one_mul] at a2
  have a3 : (y * W + x + 1) * C ≤ H * W * C := Int.mul_le_mul_of_nonneg_right (by omega) (by omega)
  rw [Int.add_mul, Int.one_mul] at a3
  have a4 := mul_in' (a := y * W + x) (b := C) (c := 4160) (d := 64) (by omega) (by omega) (by omega) (by omega)
  omega
/-- the number at a row, a column and a channel, less what stands for nought; beyond the value 0 -/
def atV (a : I4) (d : List Int) (y x c : Int) : Int := if 0 ≤ y ∧ y < a.1 ∧ 0 ≤ x ∧ x < a.2.1 then gt d ((y * a.2.1 + x) * a.2.2.1 + c) 0 - a.2.2.2 else 0
/-- a value that may be, its numbers bytes, as many as it has -/
structure Full (a : I4) (d : List Int) : Prop where
  may : mayB (vS a) = true
  len : (d.length : Int) = sizeV (vS a)
  bytes : i8s d
  zero : -128 ≤ a.2.2.2 ∧ a.2.2.2 ≤ 127
theorem Full.lim {a : I4} {d : List Int} (h : Full a d) : 1 ≤ a.1 ∧ a.1 ≤ 16 ∧ 1 ≤ a.2.1 ∧ a.2.1 ≤ 16 ∧ 1 ≤ a.2.2.1 ∧ a.2.2.1 ≤ 8 := by
  have := mayB_iff.1 h.may
  simp only [vS] at this
  exact this
theorem Full.size {a : I4} {d : List Int} (h : Full a d) : (d.length : Int) = a.1 * a.2.1 * a.2.2.1 := by
  have := h.len
  unfold sizeV at this
  rw [if_pos h.may] at this
  exact this
theorem at_in {a : I4} {d : List Int} (h : Full a d) {y x c : Int} (hc : 0 ≤ c) (hc2 : c < a.2.2.1) : -255 ≤ atV a d y x c ∧ atV a d y x c ≤ 255 := by
  unfold atV
  have hz := h.zero
  have hl := h.lim
  split
  · rename_i hh
    have hi := idx_in (H := a.1) (W := a.2.1) (C := a.2.2.1) (by omega) (by omega) (by omega) hh.1 hh.2.1 hh.2.2.1 hh.2.2.2 hc hc2
    have := gt_i8 h.bytes ((y * a.2.1 + x) * a.2.2.1 + c) (by omega) (by rw [h.size]; omega)
    omega
  · omega
theorem pane_at_eq {a : I4} {d : List Int} (h : Full a d) {y x c : Int} (hc : 0 ≤ c) (hc2 : c < a.2.2.1) : kern_pane_at (paneV a d) y x c = some (atV a d y x c) := by
  have hz := h.zero
  have hl := h.lim
  unfold kern_pane_at
  have hr : kern_pane_at_r2_p (paneV a d) y x = !decide (0 ≤ y ∧ y < a.1 ∧ 0 ≤ x ∧ x < a.2.1) := by
    show (bif decide (y < 0) then true else bif decide (y ≥ a.1) then true else bif decide (x < 0) then true else decide (x ≥ a.2.1)) = _
    rw [Bool.eq_iff_iff]
    simp only [Bool.cond_true_left, Bool.or_eq_true, decide_eq_true_iff, Bool.not_eq_true', decide_eq_false_iff_not]
    omega
  rw [hr]
  unfold atV
  by_cases hh : 0 ≤ y ∧ y < a.1 ∧ 0 ≤ x ∧ x < a.2.1
  · rw [decide_eq_true hh, if_pos hh]
    have hi := idx_in (H := a.1) (W := a.2.1) (C := a.2.2.1) (by omega) (by omega) (by omega) hh.1 hh.2.1 hh.2.2.1 hh.2.2.2 hc hc2
    have hg := gt_i8 h.bytes ((y * a.2.1 + x) * a.2.2.1 + c) (by omega) (by rw [h.size]; omega)
    have hs := h.size
    simp only [Bool.not_true, cond_false, kern_pane_at_r4_p, paneV, Int.sub_zero]
    have w1 := i64_in y (by omega)
    have w2 := i64_in (y * a.2.1) (by omega)
    have w3 := i64_in (y * a.2.1 + x) (by omega)
    have w4 := i64_in ((y * a.2.1 + x) * a.2.2.1) (by omega)
    have w5 := i64_in ((y * a.2.1 + x) * a.2.2.1 + c) (by omega)
    have w6 := i64_in (gt d ((y * a.2.1 + x) * a.2.2.1 + c) 0) (by omega)
    have w7 := i64_in (gt d ((y * a.2.1 + x) * a.2.2.1 + c) 0 - a.2.2.2) (by omega)
    have g1 : decide (0 ≤ (y * a.2.1 + x) * a.2.2.1 + c) = true := decide_eq_true (by omega)
    have g2 : decide ((y * a.2.1 + x) * a.2.2.1 + c < (d.length : Int)) = true := decide_eq_true (by rw [hs]; omega)
    simp only [w1, w2, w3, w4, w5, w6, w7, g1, g2, cond_true, Option.bind_some]
  · rw [decide_eq_false hh, if_neg hh]
    rfl
end Go.V.P
