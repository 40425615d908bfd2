/- Plain laws of layer 5: every node that may be makes its numbers. -/
import Derived.Test.YtokpndlkheofjaaLKConv
import Derived.Test.YtokpndlkheofjaaLKPool
namespace Go.V.P
open Go Go.V Go.IntWalk
set_option linter.unusedVariables false
set_option linter.unusedSimpArgs false
set_option maxRecDepth 20000
def fullS (n : Node) (a : I4) (d : List Int) (c : Nat) : Int := sumN d.length (fun k => (gt d (k : Int) 0 - a.2.2.2) * gt (nW n) ((c : Int) * Q2q (vS a) + (k : Int)) 0)
theorem full_run {a : I4} {d : List Int} (h : Full a d) (n : Node) (O : Nat) (hO : O ≤ 8) (wlen : ((nW n).length : Int) = Q2q (vS a) * (O : Int)) (w8 : i8s (nW n)) (blen : (nB n).length = O) (hb : ∀ v ∈ nB n, -16777216 ≤ v ∧ v ≤ 16777216) (y x : Int) (c : Nat) (hc : c < O) :
    b2x y x (c : Int) n (Q2v a d) = some (scaleV (gt (nB n) (c : Int) 0 + fullS n a d c) n.2.2.2.2.2.2.1 n.2.2.2.2.2.2.2.1 (nZ n)) := by
  have hz := h.zero
  have hsz := sizeV_in (vS a)
  have hlen := h.len
  have hbc : -16777216 ≤ gt (nB n) (c : Int) 0 ∧ gt (nB n) (c : Int) 0 ≤ 16777216 := hb _ (gt_mem' (by rw [blen]; exact hc) 0)
  have hBd : n.2.2.2.2.2.2.2.2.2.2.2.2.2 = nB n := rfl
  have hWd : n.2.2.2.2.2.2.2.2.2.2.2.2.1 = nW n := rfl
  have hPd : (Q2v a d).2.2.2.2.2.2 = d := rfl
  have hPz : (Q2v a d).2.2.2.1 = a.2.2.2 := rfl
  have hcs := mul_in' (a := (c : Int)) (b := Q2q (vS a)) (c := 8) (d := 2048) (by omega) (by omega) (by omega) (by omega)
  have hcs2 : ((c : Int) + 1) * Q2q (vS a) ≤ (O : Int) * Q2q (vS a) := Int.mul_le_mul_of_nonneg_right (by omega) (by omega)
  rw [Int.add_mul, Int.one_mul, Int.mul_comm (O : Int)] at hcs2
  have hr1 : b0r (c : Int) n (Q2v a d) = some (Q2q (vS a)) := by
    unfold b0r
    have e : a3c ((Q2v a d).1, (Q2v a d).2.1, (Q2v a d).2.2.1) = some (Q2q (vS a)) := Q2c _
    rw [hBd, decide_eq_true (by omega), decide_eq_true (by rw [blen]; omega), e]
    rfl
  let f : Nat → Int := fun k => (gt d (k : Int) 0 - a.2.2.2) * gt (nW n) ((c : Int) * Q2q (vS a) + (k : Int)) 0
  have hf : ∀ k : Nat, k < d.length → (-32640 ≤ f k ∧ f k ≤ 32640) ∧ (-128 ≤ gt d (k : Int) 0 ∧ gt d (k : Int) 0 ≤ 127) ∧ -128 ≤ gt (nW n) ((c : Int) * Q2q (vS a) + (k : Int)) 0 ∧ gt (nW n) ((c : Int) * Q2q (vS a) + (k : Int)) 0 ≤ 127 := fun k hk => by
    have g1 := gt_i8 h.bytes (k : Int) (by omega) (by omega)
    have g2 := gt_i8 w8 ((c : Int) * Q2q (vS a) + (k : Int)) (by omega) (by omega)
    have g3 := mul_abs (A := 255) (B := 128) (a := gt d (k : Int) 0 - a.2.2.2) (by omega) ⟨g2.1, Int.le_trans g2.2 (by decide)⟩
    exact ⟨⟨by show -32640 ≤ _ * _; omega, by show _ * _ ≤ 32640; omega⟩, g1, g2⟩
  have hloop : iterN (a5w (c : Int) n (Q2v a d) (Q2q (vS a))) LL (gt (nB n) (c : Int) 0, 0) = some (gt (nB n) (c : Int) 0 + fullS n a d c, (d.length : Int)) := by
    have := Q2x (p := a5w (c : Int) n (Q2v a d) (Q2q (vS a))) (z := (gt (nB n) (c : Int) 0 + sumN d.length f, (d.length : Int))) d.length (fun k => (gt (nB n) (c : Int) 0 + sumN k f, (k : Int))) LL (LL_lt (by omega)) (fun k hk => by
      obtain ⟨q1, q2, q3⟩ := hf k hk
      obtain ⟨t1, t2, t3⟩ := step_t hk (by omega)
      have hsum := sumN_in (f := f) (B := 32640) (by omega) k (fun i hi => (hf i (by omega)).1)
      have hsb : (k : Int) * 32640 ≤ 2048 * 32640 := Int.mul_le_mul_of_nonneg_right (by omega) (by omega)
      have w1 := i64_in ((c : Int) * Q2q (vS a)) (by omega)
      have w2 := i64_in ((c : Int) * Q2q (vS a) + (k : Int)) (by omega)
      have w3 := i64_in (gt (nW n) ((c : Int) * Q2q (vS a) + (k : Int)) 0) (by omega)
      have w5 := i64_in (gt d (k : Int) 0) (by omega)
      have w6 := i64_in (gt d (k : Int) 0 - a.2.2.2) (by omega)
      have w4 : IntKind.wrap .i64 ((gt d (k : Int) 0 - a.2.2.2) * gt (nW n) ((c : Int) * Q2q (vS a) + (k : Int)) 0) = f k := i64_in _ (by show _ ≤ f k ∧ f k ≤ _; omega)
      have w7 := i64_in (gt (nB n) (c : Int) 0 + sumN k f + f k) (by omega)
      have g1 : decide ((0 : Int) ≤ (c : Int) * Q2q (vS a) + (k : Int)) = true := decide_eq_true (by omega)
      have g2 : decide ((c : Int) * Q2q (vS a) + (k : Int) < ((nW n).length : Int)) = true := decide_eq_true (by omega)
      simp only [a5w, b0s, b0t, hPd, hPz, hWd, t1, t2, t3, w1, w2, w3, w4, w5, w6, w7, g1, g2, cond_true, Option.bind_some, sumN]
      rw [Int.add_assoc]
      rfl) (by
      simp only [a5w, hPd]
      rw [decide_eq_false (Int.lt_irrefl _)]
      rfl)
    simp only [sumN, Int.add_zero] at this
    exact this
  unfold b2x
  rw [hr1]
  simp only [Option.bind_some]
  rw [hBd, i64_in (gt (nB n) (c : Int) 0) (by omega), hloop]
  simp only [Option.bind_some, fixed_Scale_eq]
theorem Value_more (n : Node) (l : List I4) (z : I4) (hl : l.length < 1000000) (hB : (nB n).length < 1000000) (hv : a0x n l = some (z, 0)) : ∃ w b, a9m n l = some (w, b) ∧ ((nW n).length : Int) = w ∧ ((nB n).length : Int) = b ∧ (nB n).any offB = false := by
  have h := value_ok hl hB hv
  obtain ⟨Y, h1, h2, h3⟩ := op_any n l
  obtain ⟨k1, k2, k3, k4, k5⟩ := h3 h.node
  obtain ⟨⟨w, b⟩, hw⟩ := Option.isSome_iff_exists.1 k5
  refine ⟨w, b, hw, ?_⟩
  unfold a0x at hv
  rw [h.node, h.made, hw] at hv
  simp only [Bool.not_true, cond_false, Option.bind_some] at hv
  rcases refKeeps n l hl with ⟨a1, a2⟩ | ⟨a1, a2⟩
  · rcases refMay l hl with ⟨b1, b2⟩ | ⟨b1, b2⟩
    · rw [a2, b2] at hv
      have hm : a1r (vS z) = 0 := by rw [ref02_May_eq, h.may]; rfl
      simp only [Option.bind_some, Q1z] at hv
      rw [show a1r ((vS z).1, (vS z).2.1, (vS z).2.2) = 0 from hm] at hv
      simp only [bne_self_eq_false, cond_false] at hv
      cases hx : a2m n (w, b) with
      | true =>
        rw [hx] at hv
        simp only [cond_true, Option.some.injEq, Prod.mk.injEq] at hv
        exact absurd hv.2 (by decide)
      | false =>
        rw [hx] at hv
        have hcount : ((nW n).length : Int) = w ∧ ((nB n).length : Int) = b := by
          simp only [a2m, a9n] at hx
          have hWd : n.2.2.2.2.2.2.2.2.2.2.2.2.1 = nW n := rfl
          have hBd : n.2.2.2.2.2.2.2.2.2.2.2.2.2 = nB n := rfl
          rw [hWd, hBd] at hx
          by_cases e1 : ((nW n).length : Int) = w
          · rw [show (((nW n).length : Int) != w) = false by simp [e1]] at hx
            simp only [cond_false] at hx
            exact ⟨e1, by simpa using hx⟩
          · rw [show (((nW n).length : Int) != w) = true by simpa using e1] at hx
            cases hx
        rcases refOff n hB with ⟨c1, c2⟩ | ⟨c1, c2⟩
        · exact ⟨hcount.1, hcount.2, c1⟩
        · rw [c2] at hv
          simp only [cond_false, Option.bind_some, Q1z, Option.some.injEq, Prod.mk.injEq] at hv
          exact absurd hv.2 (by decide)
    · rw [a2, b2] at hv
      simp only [Option.bind_some, Q1z, Option.some.injEq, Prod.mk.injEq] at hv
      exact absurd hv.2 (by decide)
  · rw [a2] at hv
    simp only [Option.bind_some, Q1z, Option.some.injEq, Prod.mk.injEq] at hv
    exact absurd hv.2 (by decide)
theorem bias_in {n : Node} (h : (nB n).any offB = false) (hb : ∀ v ∈ nB n, -2147483648 ≤ v ∧ v ≤ 2147483647) : ∀ v ∈ nB n, -16777216 ≤ v ∧ v ≤ 16777216 := fun v hv => by
  rw [List.any_eq_false] at h
  have h1 := h v hv
  have h2 := hb v hv
  unfold offB at h1
  rw [i64_in v (by omega)] at h1
  have h3 : a1i v (-16777216) 16777216 = true := by simpa using h1
  exact (Q2t _ _ _).1 h3
theorem made1 (n : Node) (a : I4) (s : I3) (hm : b05 n [a] = some s) (hs : mayB s = true) :
    ((n.1 = 1) → s = (outV a.1 n.2.2.1 n.2.2.2.1 n.2.2.2.2.1, outV a.2.1 n.2.2.1 n.2.2.2.1 n.2.2.2.2.1, n.2.2.2.2.2.1)) ∧
    ((n.1 = 2 ∨ n.1 = 4 ∨ n.1 = 5) → s = (outV a.1 n.2.2.1 n.2.2.2.1 n.2.2.2.2.1, outV a.2.1 n.2.2.1 n.2.2.2.1 n.2.2.2.2.1, a.2.2.1)) ∧
    (n.1 = 3 → s = (1, 1, n.2.2.2.2.2.1)) ∧ ((n.1 = 8 ∨ n.1 = 12) → s = vS a) ∧ (n.1 = 9 → s = (IntKind.wrap .i64 (a.1 + 2), IntKind.wrap .i64 (a.2.1 + 2), a.2.2.1)) ∧ (n.1 = 11 → Q2q s = Q2q (vS a)) := by
  have hmb := Q2l.1 hs
  obtain ⟨op, i, K, S, P, O, M, Sh, Z, t1, t2, t3, W, B⟩ := n
  have S1 : ∀ p, a15 p = Q2q p := Q2a
  refine ⟨fun h => ?_, fun h => ?_, fun h => ?_, fun h => ?_, fun h => ?_, fun h => ?_⟩ <;> simp only at h
  · subst h; simp [b05, b2l, b2k, a41, a7c, b17, a42, a7d, Q2e, Q1z, gt] at hm; exact hm.symm
  · rcases h with rfl | rfl | rfl <;> simp [b05, b2l, b2k, a41, a7c, b17, a42, a7d, Q2e, Q1z, gt] at hm <;> exact hm.symm
  · subst h; simp [b05, b2l, b2k, a41, a7c, Q1z, gt] at hm; exact hm.symm
  · rcases h with rfl | rfl <;> simp [b05, b2l, b2k, a41, a7c, a37, a60, Q1z, gt] at hm <;> exact hm.symm
  · subst h
    exact (Option.some.inj ((made_pad _ a rfl).symm.trans hm)).symm
  · subst h
    simp [b05, b2l, b2k, a41, a7c, a37, a60, a38, b1b, S1, Q1z, gt] at hm
    by_cases hc : Q2q (t1, t2, t3) = Q2q (a.1, a.2.1, a.2.2.1)
    · simp [hc, Q1z] at hm
      rw [← hm]; exact hc
    · have : (Q2q (t1, t2, t3) != Q2q (a.1, a.2.1, a.2.2.1)) = true := by simpa using hc
      simp [this, Q1z] at hm
      subst hm
      simp at hmb
theorem made2 (n : Node) (a b : I4) (s : I3) (hm : b05 n [a, b] = some s) (hs : mayB s = true) :
    ((n.1 = 6 ∨ n.1 = 7) → s = vS a ∧ vS b = vS a) ∧ (n.1 = 10 → b.1 = a.1 ∧ b.2.1 = a.2.1 ∧ s = (a.1, a.2.1, IntKind.wrap .i64 (a.2.2.1 + b.2.2.1))) := by
  have hmb := Q2l.1 hs
  obtain ⟨op, i, K, S, P, O, M, Sh, Z, t1, t2, t3, W, B⟩ := n
  refine ⟨fun h => ?_, fun h => ?_⟩ <;> simp only at h
  · have key : ∀ o : Int, o = 6 ∨ o = 7 → b05 (o, i, K, S, P, O, M, Sh, Z, t1, t2, t3, W, B) [a, b] = some (if vS b = vS a then vS a else (0, 0, 0)) := fun o ho => by
      rcases ho with rfl | rfl <;>
      · simp [b05, b2l, b2k, a41, a7c, a37, a60, b18, Q1z, gt, vS]
        by_cases h1 : b.1 = a.1 <;> by_cases h2 : b.2.1 = a.2.1 <;> by_cases h3 : b.2.2.1 = a.2.2.1 <;> simp [show ∀ x y : Int, (x == y) = decide (x = y) from fun _ _ => rfl, h1, h2, h3, Q1z]
    rw [key op h] at hm
    by_cases hc : vS b = vS a
    · rw [if_pos hc] at hm
      exact ⟨(Option.some.inj hm).symm, hc⟩
    · rw [if_neg hc] at hm
      have := Option.some.inj hm
      subst this
      simp at hmb
  · subst h
    have key : b05 (10, i, K, S, P, O, M, Sh, Z, t1, t2, t3, W, B) [a, b] = some (if b.1 = a.1 ∧ b.2.1 = a.2.1 then (a.1, a.2.1, IntKind.wrap .i64 (a.2.2.1 + b.2.2.1)) else (0, 0, 0)) := by
      simp [b05, b2l, b2k, a41, a7c, a37, a60, b19, b1a, Q1z, gt]
      by_cases h1 : b.1 = a.1 <;> by_cases h2 : b.2.1 = a.2.1 <;> simp [show ∀ x y : Int, (x == y) = decide (x = y) from fun _ _ => rfl, h1, h2, Q1z, bne]
    rw [key] at hm
    by_cases hc : b.1 = a.1 ∧ b.2.1 = a.2.1
    · rw [if_pos hc] at hm
      exact ⟨hc.1, hc.2, (Option.some.inj hm).symm⟩
    · rw [if_neg hc] at hm
      have := Option.some.inj hm
      subst this
      simp at hmb
end Go.V.P
