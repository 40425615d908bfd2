/- Plain laws of layer 5: the document's number of a node, op by op, is the code's. -/
import Derived.Test.YtdgdgoekapekpaaGreatLKTot2
import Derived.Test.YtdgdgoekapekpaaGreatLRefS
import Derived.Test.YtdgdgoekapekpaaGreatEc2
namespace Go.V.P
open Go Go.V Go.IntWalk
set_option linter.unusedVariables false
set_option linter.unusedSimpArgs false
set_option maxRecDepth 20000
theorem number_eq {a : I4} {d : List Int} (h : Full a d) {y x c : Int} (hc : 0 ≤ c) (hc2 : c < a.2.2.1) : ref05_number a (0, a.1, d) y x c = some (atV a d y x c + a.2.2.2) := by
  have hz := h.zero
  have hl := h.lim
  unfold ref05_number
  have hr : ref05_number_r2_p a y x c = !decide (0 ≤ y ∧ y < a.1 ∧ 0 ≤ x ∧ x < a.2.1) := by
    show (bif decide (y < 0) then true else bif decide (y ≥ a.1) then true else bif decide (x < 0) then true else bif decide (x ≥ a.2.1) then true else bif decide (c < 0) then true else decide (c ≥ a.2.2.1)) = _
    rw [Bool.eq_iff_iff]
    simp only [Bool.cond_true_left, Bool.or_eq_true, decide_eq_true_iff, Bool.not_eq_true', decide_eq_false_iff_not]
    omega
  rw [hr]
  unfold atV
  by_cases hh : 0 ≤ y ∧ y < a.1 ∧ 0 ≤ x ∧ x < a.2.1
  · rw [decide_eq_true hh, if_pos hh]
    have hi := idx_in (H := a.1) (W := a.2.1) (C := a.2.2.1) (by omega) (by omega) (by omega) hh.1 hh.2.1 hh.2.2.1 hh.2.2.2 hc hc2
    have hg := gt_i8 h.bytes ((y * a.2.1 + x) * a.2.2.1 + c) (by omega) (by rw [h.size]; omega)
    have hs := h.size
    simp only [Bool.not_true, cond_false, ref05_number_r4_p, Int.sub_zero]
    have w1 := i64_in y (by omega)
    have w2 := i64_in (y * a.2.1) (by omega)
    have w3 := i64_in (y * a.2.1 + x) (by omega)
    have w4 := i64_in ((y * a.2.1 + x) * a.2.2.1) (by omega)
    have w5 := i64_in ((y * a.2.1 + x) * a.2.2.1 + c) (by omega)
    have w6 := i64_in (gt d ((y * a.2.1 + x) * a.2.2.1 + c) 0) (by omega)
    have g1 : decide (0 ≤ (y * a.2.1 + x) * a.2.2.1 + c) = true := decide_eq_true (by omega)
    have g2 : decide ((y * a.2.1 + x) * a.2.2.1 + c < (d.length : Int)) = true := decide_eq_true (by rw [hs]; omega)
    simp only [w1, w2, w3, w4, w5, w6, g1, g2, cond_true, Option.bind_some]
    rw [show gt d ((y * a.2.1 + x) * a.2.2.1 + c) 0 - a.2.2.2 + a.2.2.2 = gt d ((y * a.2.1 + x) * a.2.2.1 + c) 0 by omega]
  · rw [decide_eq_false hh, if_neg hh]
    show some a.2.2.2 = some (0 + a.2.2.2)
    rw [Int.zero_add]

/-! ### What the document does for each op -/
section
variable (n : Node) (a e : I4) (w : Int × Int × List Int × Int × Int × List Int) (s : I3) (y x c : Int)
theorem one_relu (h : n.1 = 8) : ref05_one n [a] w s y x c = Option.bind (ref05_number a (w.1, w.2.1, w.2.2.1) y x c) fun q => some (max q (nZ n)) := by
  obtain ⟨op, i, K, S, P, O, M, Sh, Z, t1, t2, t3, W, B⟩ := n
  replace h : op = 8 := h
  subst h
  unfold ref05_one ref05_one_j3_p
  have e1 : gt [a] (0 : Int) dI4 = a := rfl
  simp only [e1]
  cases ref05_number a (w.1, w.2.1, w.2.2.1) y x c <;> rfl
theorem one_pad (h : n.1 = 9) : ref05_one n [a] w s y x c = ref05_number a (w.1, w.2.1, w.2.2.1) (IntKind.wrap .i64 (y - 1)) (IntKind.wrap .i64 (x - 1)) c := by
  obtain ⟨op, i, K, S, P, O, M, Sh, Z, t1, t2, t3, W, B⟩ := n
  replace h : op = 9 := h
  subst h
  unfold ref05_one ref05_one_j5_p
  have e1 : gt [a] (0 : Int) dI4 = a := rfl
  simp only [e1]
  cases ref05_number a (w.1, w.2.1, w.2.2.1) (IntKind.wrap .i64 (y - 1)) (IntKind.wrap .i64 (x - 1)) c <;> rfl
theorem one_reshape (h : n.1 = 11) : ref05_one n [a] w s y x c = ref05_one_r25_p w s y x c := by
  obtain ⟨op, i, K, S, P, O, M, Sh, Z, t1, t2, t3, W, B⟩ := n
  replace h : op = 11 := h
  subst h
  unfold ref05_one ref05_one_j5_p
  cases ref05_one_r25_p w s y x c <;> rfl
theorem one_table (h : n.1 = 12) : ref05_one n [a] w s y x c = Option.bind (ref05_number a (w.1, w.2.1, w.2.2.1) y x c) fun q => ref05_one_r27_p n q := by
  obtain ⟨op, i, K, S, P, O, M, Sh, Z, t1, t2, t3, W, B⟩ := n
  replace h : op = 12 := h
  subst h
  unfold ref05_one ref05_one_j3_p ref05_one_j5_p
  have e1 : gt [a] (0 : Int) dI4 = a := rfl
  simp only [e1]
  cases ref05_number a (w.1, w.2.1, w.2.2.1) y x c with
  | none => rfl
  | some q =>
    simp only [Option.bind_some]
    show Option.bind (Option.bind (ref05_one_r27_p (12, i, K, S, P, O, M, Sh, Z, t1, t2, t3, W, B) q) (fun t => some (Sum.inr (Sum.inr t)))) (either (fun _ : Unit => some q) (either (fun _ : Unit => some q) (fun t => some t))) = _
    cases ref05_one_r27_p (12, i, K, S, P, O, M, Sh, Z, t1, t2, t3, W, B) q <;> rfl
theorem one_sum (h : n.1 = 1 ∨ n.1 = 2 ∨ n.1 = 3) : ref05_one n [a] w s y x c = Option.bind (ref05_sum n a (w.1, w.2.1, w.2.2.1) y x c) fun t => ref01_Scale t n.2.2.2.2.2.2.1 n.2.2.2.2.2.2.2.1 (nZ n) := by
  obtain ⟨op, i, K, S, P, O, M, Sh, Z, t1, t2, t3, W, B⟩ := n
  have key : ∀ m : Node, m.1 = op → (m.1 = 1 ∨ m.1 = 2 ∨ m.1 = 3) → ref05_one m [a] w s y x c = ref05_one_r9_p m [a] w y x c := fun m hm h => by
    obtain ⟨op, i, K, S, P, O, M, Sh, Z, t1, t2, t3, W, B⟩ := m
    rcases h with h | h | h
    · replace h : op = 1 := h
      subst h
      unfold ref05_one ref05_one_j5_p
      cases ref05_one_r9_p (1, i, K, S, P, O, M, Sh, Z, t1, t2, t3, W, B) [a] w y x c <;> rfl
    · replace h : op = 2 := h
      subst h
      unfold ref05_one ref05_one_j5_p
      cases ref05_one_r9_p (2, i, K, S, P, O, M, Sh, Z, t1, t2, t3, W, B) [a] w y x c <;> rfl
    · replace h : op = 3 := h
      subst h
      unfold ref05_one ref05_one_j5_p
      cases ref05_one_r9_p (3, i, K, S, P, O, M, Sh, Z, t1, t2, t3, W, B) [a] w y x c <;> rfl
  rw [key _ rfl h]
  unfold ref05_one_r9_p
  have e1 : gt [a] (0 : Int) dI4 = a := rfl
  simp only [e1, Option.bind_fun_some]
theorem one_pool (h : n.1 = 4 ∨ n.1 = 5) : ref05_one n [a] w s y x c = ref05_pool n a (w.1, w.2.1, w.2.2.1) y x c := by
  obtain ⟨op, i, K, S, P, O, M, Sh, Z, t1, t2, t3, W, B⟩ := n
  have e1 : gt [a] (0 : Int) dI4 = a := rfl
  rcases h with h | h
  · replace h : op = 4 := h
    subst h
    unfold ref05_one ref05_one_j5_p
    simp only [e1]
    cases ref05_pool (4, i, K, S, P, O, M, Sh, Z, t1, t2, t3, W, B) a (w.1, w.2.1, w.2.2.1) y x c <;> rfl
  · replace h : op = 5 := h
    subst h
    unfold ref05_one ref05_one_j5_p
    simp only [e1]
    cases ref05_pool (5, i, K, S, P, O, M, Sh, Z, t1, t2, t3, W, B) a (w.1, w.2.1, w.2.2.1) y x c <;> rfl
theorem one_pair (h : n.1 = 6 ∨ n.1 = 7) : ref05_one n [a, e] w s y x c = Option.bind (ref05_number a (w.1, w.2.1, w.2.2.1) y x c) fun q => Option.bind (ref05_number e w.2.2.2 y x c) fun r =>
    ref01_Scale (bif n.1 == 7 then IntKind.wrap .i64 (IntKind.wrap .i64 (q - a.2.2.2) * IntKind.wrap .i64 (r - e.2.2.2)) else IntKind.wrap .i64 (IntKind.wrap .i64 (IntKind.wrap .i64 (q - a.2.2.2) + r) - e.2.2.2)) n.2.2.2.2.2.2.1 n.2.2.2.2.2.2.2.1 (nZ n) := by
  obtain ⟨op, i, K, S, P, O, M, Sh, Z, t1, t2, t3, W, B⟩ := n
  have e1 : gt [a, e] (0 : Int) dI4 = a := rfl
  have e2 : gt [a, e] (1 : Int) dI4 = e := rfl
  rcases h with h | h
  · replace h : op = 6 := h
    subst h
    unfold ref05_one ref05_one_j3_p ref05_one_j5_p ref05_one_r14_p
    simp only [e1, e2]
    cases ref05_number a (w.1, w.2.1, w.2.2.1) y x c with
    | none => rfl
    | some q =>
      simp only [Option.bind_some]
      cases ref05_number e w.2.2.2 y x c with
      | none => rfl
      | some r =>
        simp only [Option.bind_some]
        show Option.bind (Option.bind (Option.bind (ref01_Scale (IntKind.wrap .i64 (IntKind.wrap .i64 (IntKind.wrap .i64 (q - a.2.2.2) + r) - e.2.2.2)) M Sh Z) some) (fun t => some (Sum.inr (Sum.inr t)))) (either (fun _ : Unit => some q) (either (fun _ : Unit => some q) (fun t => some t))) = ref01_Scale (IntKind.wrap .i64 (IntKind.wrap .i64 (IntKind.wrap .i64 (q - a.2.2.2) + r) - e.2.2.2)) M Sh Z
        cases ref01_Scale (IntKind.wrap .i64 (IntKind.wrap .i64 (IntKind.wrap .i64 (q - a.2.2.2) + r) - e.2.2.2)) M Sh Z <;> rfl
  · replace h : op = 7 := h
    subst h
    unfold ref05_one ref05_one_j3_p ref05_one_j5_p ref05_one_r16_p
    simp only [e1, e2]
    cases ref05_number a (w.1, w.2.1, w.2.2.1) y x c with
    | none => rfl
    | some q =>
      simp only [Option.bind_some]
      cases ref05_number e w.2.2.2 y x c with
      | none => rfl
      | some r =>
        simp only [Option.bind_some]
        show Option.bind (Option.bind (Option.bind (ref01_Scale (IntKind.wrap .i64 (IntKind.wrap .i64 (q - a.2.2.2) * IntKind.wrap .i64 (r - e.2.2.2))) M Sh Z) some) (fun t => some (Sum.inr (Sum.inr t)))) (either (fun _ : Unit => some q) (either (fun _ : Unit => some q) (fun t => some t))) = ref01_Scale (IntKind.wrap .i64 (IntKind.wrap .i64 (q - a.2.2.2) * IntKind.wrap .i64 (r - e.2.2.2))) M Sh Z
        cases ref01_Scale (IntKind.wrap .i64 (IntKind.wrap .i64 (q - a.2.2.2) * IntKind.wrap .i64 (r - e.2.2.2))) M Sh Z <;> rfl
theorem one_concat (h : n.1 = 10) : ref05_one n [a, e] w s y x c = Option.bind (ref05_number a (w.1, w.2.1, w.2.2.1) y x c) fun q => bif decide (c ≥ a.2.2.1) then ref05_number e w.2.2.2 y x (IntKind.wrap .i64 (c - a.2.2.1)) else some q := by
  obtain ⟨op, i, K, S, P, O, M, Sh, Z, t1, t2, t3, W, B⟩ := n
  have e1 : gt [a, e] (0 : Int) dI4 = a := rfl
  have e2 : gt [a, e] (1 : Int) dI4 = e := rfl
  replace h : op = 10 := h
  subst h
  unfold ref05_one ref05_one_j3_p ref05_one_j5_p ref05_one_r23_p
  simp only [e1, e2]
  cases ref05_number a (w.1, w.2.1, w.2.2.1) y x c with
  | none => rfl
  | some q =>
    simp only [Option.bind_some]
    cases decide (c ≥ a.2.2.1) with
    | false => rfl
    | true =>
      cases ref05_number e w.2.2.2 y x (IntKind.wrap .i64 (c - a.2.2.1)) <;> rfl
end
end Go.V.P
