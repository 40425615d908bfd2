/- Plain laws of layer 5: every node that may be makes its numbers. -/
import Derived.Test.YtdgdgoekapekpaaGreatLKConv
import Derived.Test.YtdgdgoekapekpaaGreatLKPool
namespace Go.V.P
open Go Go.V Go.IntWalk
set_option linter.unusedVariables false
set_option linter.unusedSimpArgs false
set_option maxRecDepth 20000
/-- what OpFull adds up -/
def fullS (n : Node) (a : I4) (d : List Int) (c : Nat) : Int := sumN d.length (fun k => (gt d (k : Int) 0 - a.2.2.2) * gt (nW n) ((c : Int) * sizeV (vS a) + (k : Int)) 0)
theorem full_run {a : I4} {d : List Int} (h : Full a d) (n : Node) (O : Nat) (hO : O ≤ 8) (wlen : ((nW n).length : Int) = sizeV (vS a) * (O : Int)) (w8 : i8s (nW n)) (blen : (nB n).length = O) (hb : ∀ v ∈ nB n, -16777216 ≤ v ∧ v ≤ 16777216) (y x : Int) (c : Nat) (hc : c < O) :
    kern_full_1 y x (c : Int) n (paneV a d) = some (scaleV (gt (nB n) (c : Int) 0 + fullS n a d c) n.2.2.2.2.2.2.1 n.2.2.2.2.2.2.2.1 (nZ n)) := by
  have hz := h.zero
  have hsz := sizeV_in (vS a)
  have hlen := h.len
  have hbc : -16777216 ≤ gt (nB n) (c : Int) 0 ∧ gt (nB n) (c : Int) 0 ≤ 16777216 := hb _ (gt_mem' (by rw [blen]; exact hc) 0)
  have hBd : n.2.2.2.2.2.2.2.2.2.2.2.2.2 = nB n := rfl
  have hWd : n.2.2.2.2.2.2.2.2.2.2.2.2.1 = nW n := rfl
  have hPd : (paneV a d).2.2.2.2.2.2 = d := rfl
  have hPz : (paneV a d).2.2.2.1 = a.2.2.2 := rfl
  have hcs := mul_in' (a := (c : Int)) (b := sizeV (vS a)) (c := 8) (d := 2048) (by omega) (by omega) (by omega) (by omega)
  have hcs2 : ((c : Int) + 1) * sizeV (vS a) ≤ (O : Int) * sizeV (vS a) := Int.mul_le_mul_of_nonneg_right (by omega) (by omega)
  rw [Int.add_mul, Int.one_mul, Int.mul_comm (O : Int)] at hcs2
  have hr1 : kern_full_1_r1_p (c : Int) n (paneV a d) = some (sizeV (vS a)) := by
    unfold kern_full_1_r1_p
    have e : shape_Size ((paneV a d).1, (paneV a d).2.1, (paneV a d).2.2.1) = some (sizeV (vS a)) := shape_Size_eq _
    rw [hBd, decide_eq_true (by omega), decide_eq_true (by rw [blen]; omega), e]
    rfl
  let f : Nat → Int := fun k => (gt d (k : Int) 0 - a.2.2.2) * gt (nW n) ((c : Int) * sizeV (vS a) + (k : Int)) 0
  have hf : ∀ k : Nat, k < d.length → (-32640 ≤ f k ∧ f k ≤ 32640) ∧ (-128 ≤ gt d (k : Int) 0 ∧ gt d (k : Int) 0 ≤ 127) ∧ -128 ≤ gt (nW n) ((c : Int) * sizeV (vS a) + (k : Int)) 0 ∧ gt (nW n) ((c : Int) * sizeV (vS a) + (k : Int)) 0 ≤ 127 := fun k hk => by
    have g1 := gt_i8 h.bytes (k : Int) (by omega) (by omega)
    have g2 := gt_i8 w8 ((c : Int) * sizeV (vS a) + (k : Int)) (by omega) (by omega)
    have g3 := mul_abs (A := 255) (B := 128) (a := gt d (k : Int) 0 - a.2.2.2) (by omega) ⟨g2.1, Int.le_trans g2.2 (by decide)⟩
    exact ⟨⟨by show -32640 ≤ _ * _; omega, by show _ * _ ≤ 32640; omega⟩, g1, g2⟩
  have hloop : iterN (kern_full_1_l3_p (c : Int) n (paneV a d) (sizeV (vS a))) LL (gt (nB n) (c : Int) 0, 0) = some (gt (nB n) (c : Int) 0 + fullS n a d c, (d.length : Int)) := by
    have := iterN_for (p := kern_full_1_l3_p (c : Int) n (paneV a d) (sizeV (vS a))) (z := (gt (nB n) (c : Int) 0 + sumN d.length f, (d.length : Int))) d.length (fun k => (gt (nB n) (c : Int) 0 + sumN k f, (k : Int))) LL (LL_lt (by omega)) (fun k hk => by
      obtain ⟨q1, q2, q3⟩ := hf k hk
      obtain ⟨t1, t2, t3⟩ := step_t hk (by omega)
      have hsum := sumN_in (f := f) (B := 32640) (by omega) k (fun i hi => (hf i (by omega)).1)
      have hsb : (k : Int) * 32640 ≤ 2048 * 32640 := Int.mul_le_mul_of_nonneg_right (by omega) (by omega)
      have w1 := i64_in ((c : Int) * sizeV (vS a)) (by omega)
      have w2 := i64_in ((c : Int) * sizeV (vS a) + (k : Int)) (by omega)
      have w3 := i64_in (gt (nW n) ((c : Int) * sizeV (vS a) + (k : Int)) 0) (by omega)
      have w5 := i64_in (gt d (k : Int) 0) (by omega)
      have w6 := i64_in (gt d (k : Int) 0 - a.2.2.2) (by omega)
      have w4 : IntKind.wrap .i64 ((gt d (k : Int) 0 - a.2.2.2) * gt (nW n) ((c : Int) * sizeV (vS a) + (k : Int)) 0) = f k := i64_in _ (by show _ ≤ f k ∧ f k ≤ _; omega)
      have w7 := i64_in (gt (nB n) (c : Int) 0 + sumN k f + f k) (by omega)
      have g1 : decide ((0 : Int) ≤ (c : Int) * sizeV (vS a) + (k : Int)) = true := decide_eq_true (by omega)
      have g2 : decide ((c : Int) * sizeV (vS a) + (k : Int) < ((nW n).length : Int)) = true := decide_eq_true (by omega)
      simp only [kern_full_1_l3_p, kern_full_1_r4_p, kern_full_1_r5_p, hPd, hPz, hWd, t1, t2, t3, w1, w2, w3, w4, w5, w6, w7, g1, g2, cond_true, Option.bind_some, sumN]
      rw [Int.add_assoc]
      rfl) (by
      simp only [kern_full_1_l3_p, hPd]
      rw [decide_eq_false (Int.lt_irrefl _)]
      rfl)
    simp only [sumN, Int.add_zero] at this
    exact this
  unfold kern_full_1
  rw [hr1]
  simp only [Option.bind_some]
  rw [hBd, i64_in (gt (nB n) (c : Int) 0) (by omega), hloop]
  simp only [Option.bind_some, fixed_Scale_eq]
/-- weights and biases are as many as asked for, and biases within bounds -/
theorem Value_more (n : Node) (l : List I4) (z : I4) (hl : l.length < 1000000) (hB : (nB n).length < 1000000) (hv : ref03_Value n l = some (z, 0)) : ∃ w b, ref03_Value_r16_p n l = some (w, b) ∧ ((nW n).length : Int) = w ∧ ((nB n).length : Int) = b ∧ (nB n).any offB = false := by
  have h := value_ok hl hB hv
  obtain ⟨Y, h1, h2, h3⟩ := op_any n l
  obtain ⟨k1, k2, k3, k4, k5⟩ := h3 h.node
  obtain ⟨⟨w, b⟩, hw⟩ := Option.isSome_iff_exists.1 k5
  refine ⟨w, b, hw, ?_⟩
  unfold ref03_Value at hv
  rw [h.node, h.made, hw] at hv
  simp only [Bool.not_true, cond_false, Option.bind_some] at hv
  rcases refKeeps n l hl with ⟨a1, a2⟩ | ⟨a1, a2⟩
  · rcases refMay l hl with ⟨b1, b2⟩ | ⟨b1, b2⟩
    · rw [a2, b2] at hv
      have hm : ref02_May (vS z) = 0 := by rw [ref02_May_eq, h.may]; rfl
      simp only [Option.bind_some, either] at hv
      rw [show ref02_May ((vS z).1, (vS z).2.1, (vS z).2.2) = 0 from hm] at hv
      simp only [bne_self_eq_false, cond_false] at hv
      cases hx : ref03_Value_r17_p n (w, b) with
      | true =>
        rw [hx] at hv
        simp only [cond_true, Option.some.injEq, Prod.mk.injEq] at hv
        exact absurd hv.2 (by decide)
      | false =>
        rw [hx] at hv
        have hcount : ((nW n).length : Int) = w ∧ ((nB n).length : Int) = b := by
          simp only [ref03_Value_r17_p, ref03_Value_r17_q] at hx
          have hWd : n.2.2.2.2.2.2.2.2.2.2.2.2.1 = nW n := rfl
          have hBd : n.2.2.2.2.2.2.2.2.2.2.2.2.2 = nB n := rfl
          rw [hWd, hBd] at hx
          by_cases e1 : ((nW n).length : Int) = w
          · rw [show (((nW n).length : Int) != w) = false by simp [e1]] at hx
            simp only [cond_false] at hx
            exact ⟨e1, by simpa using hx⟩
          · rw [show (((nW n).length : Int) != w) = true by simpa using e1] at hx
            cases hx
        rcases refOff n hB with ⟨c1, c2⟩ | ⟨c1, c2⟩
        · exact ⟨hcount.1, hcount.2, c1⟩
        · rw [c2] at hv
          simp only [cond_false, Option.bind_some, either, Option.some.injEq, Prod.mk.injEq] at hv
          exact absurd hv.2 (by decide)
    · rw [a2, b2] at hv
      simp only [Option.bind_some, either, Option.some.injEq, Prod.mk.injEq] at hv
      exact absurd hv.2 (by decide)
  · rw [a2] at hv
    simp only [Option.bind_some, either, Option.some.injEq, Prod.mk.injEq] at hv
    exact absurd hv.2 (by decide)
theorem bias_in {n : Node} (h : (nB n).any offB = false) (hb : ∀ v ∈ nB n, -2147483648 ≤ v ∧ v ≤ 2147483647) : ∀ v ∈ nB n, -16777216 ≤ v ∧ v ≤ 16777216 := fun v hv => by
  rw [List.any_eq_false] at h
  have h1 := h v hv
  have h2 := hb v hv
  unfold offB at h1
  rw [i64_in v (by omega)] at h1
  have h3 : ref03_in v (-16777216) 16777216 = true := by simpa using h1
  exact (in_iff _ _ _).1 h3
/-- the shapes that nodes of one value make -/
theorem made1 (n : Node) (a : I4) (s : I3) (hm : ref03_made n [a] = some s) (hs : mayB s = true) :
    ((n.1 = 1) → s = (outV a.1 n.2.2.1 n.2.2.2.1 n.2.2.2.2.1, outV a.2.1 n.2.2.1 n.2.2.2.1 n.2.2.2.2.1, n.2.2.2.2.2.1)) ∧
    ((n.1 = 2 ∨ n.1 = 4 ∨ n.1 = 5) → s = (outV a.1 n.2.2.1 n.2.2.2.1 n.2.2.2.2.1, outV a.2.1 n.2.2.1 n.2.2.2.1 n.2.2.2.2.1, a.2.2.1)) ∧
    (n.1 = 3 → s = (1, 1, n.2.2.2.2.2.1)) ∧ ((n.1 = 8 ∨ n.1 = 12) → s = vS a) ∧ (n.1 = 9 → s = (IntKind.wrap .i64 (a.1 + 2), IntKind.wrap .i64 (a.2.1 + 2), a.2.2.1)) ∧ (n.1 = 11 → sizeV s = sizeV (vS a)) := by
  have hmb := mayB_iff.1 hs
  obtain ⟨op, i, K, S, P, O, M, Sh, Z, t1, t2, t3, W, B⟩ := n
  have S1 : ∀ p, ref02_Size p = sizeV p := ref02_Size_eq
  refine ⟨fun h => ?_, fun h => ?_, fun h => ?_, fun h => ?_, fun h => ?_, fun h => ?_⟩ <;> simp only at h
  · subst h; simp [ref03_made, ref03_made_r1_p, ref03_made_j2_p, ref03_made_j3_p, ref03_made_j3_q, ref03_made_r10_p, ref03_made_j8_p, ref03_made_j8_q, ref02_Out_eq, either, gt] at hm; exact hm.symm
  · rcases h with rfl | rfl | rfl <;> simp [ref03_made, ref03_made_r1_p, ref03_made_j2_p, ref03_made_j3_p, ref03_made_j3_q, ref03_made_r10_p, ref03_made_j8_p, ref03_made_j8_q, ref02_Out_eq, either, gt] at hm <;> exact hm.symm
  · subst h; simp [ref03_made, ref03_made_r1_p, ref03_made_j2_p, ref03_made_j3_p, ref03_made_j3_q, either, gt] at hm; exact hm.symm
  · rcases h with rfl | rfl <;> simp [ref03_made, ref03_made_r1_p, ref03_made_j2_p, ref03_made_j3_p, ref03_made_j3_q, ref03_made_j13_p, ref03_made_j13_q, either, gt] at hm <;> exact hm.symm
  · subst h
    exact (Option.some.inj ((made_pad _ a rfl).symm.trans hm)).symm
  · subst h
    simp [ref03_made, ref03_made_r1_p, ref03_made_j2_p, ref03_made_j3_p, ref03_made_j3_q, ref03_made_j13_p, ref03_made_j13_q, ref03_made_r24_p, ref03_made_r24_q, S1, either, gt] at hm
    by_cases hc : sizeV (t1, t2, t3) = sizeV (a.1, a.2.1, a.2.2.1)
    · simp [hc, either] at hm
      rw [← hm]; exact hc
    · have : (sizeV (t1, t2, t3) != sizeV (a.1, a.2.1, a.2.2.1)) = true := by simpa using hc
      simp [this, either] at hm
      subst hm
      simp at hmb
/-- the shapes that nodes of two values make -/
theorem made2 (n : Node) (a b : I4) (s : I3) (hm : ref03_made n [a, b] = some s) (hs : mayB s = true) :
    ((n.1 = 6 ∨ n.1 = 7) → s = vS a ∧ vS b = vS a) ∧ (n.1 = 10 → b.1 = a.1 ∧ b.2.1 = a.2.1 ∧ s = (a.1, a.2.1, IntKind.wrap .i64 (a.2.2.1 + b.2.2.1))) := by
  have hmb := mayB_iff.1 hs
  obtain ⟨op, i, K, S, P, O, M, Sh, Z, t1, t2, t3, W, B⟩ := n
  refine ⟨fun h => ?_, fun h => ?_⟩ <;> simp only at h
  · have key : ∀ o : Int, o = 6 ∨ o = 7 → ref03_made (o, i, K, S, P, O, M, Sh, Z, t1, t2, t3, W, B) [a, b] = some (if vS b = vS a then vS a else (0, 0, 0)) := fun o ho => by
      rcases ho with rfl | rfl <;>
      · simp [ref03_made, ref03_made_r1_p, ref03_made_j2_p, ref03_made_j3_p, ref03_made_j3_q, ref03_made_j13_p, ref03_made_j13_q, ref03_made_r15_p, either, gt, vS]
        by_cases h1 : b.1 = a.1 <;> by_cases h2 : b.2.1 = a.2.1 <;> by_cases h3 : b.2.2.1 = a.2.2.1 <;> simp [show ∀ x y : Int, (x == y) = decide (x = y) from fun _ _ => rfl, h1, h2, h3, either]
    rw [key op h] at hm
    by_cases hc : vS b = vS a
    · rw [if_pos hc] at hm
      exact ⟨(Option.some.inj hm).symm, hc⟩
    · rw [if_neg hc] at hm
      have := Option.some.inj hm
      subst this
      simp at hmb
  · subst h
    have key : ref03_made (10, i, K, S, P, O, M, Sh, Z, t1, t2, t3, W, B) [a, b] = some (if b.1 = a.1 ∧ b.2.1 = a.2.1 then (a.1, a.2.1, IntKind.wrap .i64 (a.2.2.1 + b.2.2.1)) else (0, 0, 0)) := by
      simp [ref03_made, ref03_made_r1_p, ref03_made_j2_p, ref03_made_j3_p, ref03_made_j3_q, ref03_made_j13_p, ref03_made_j13_q, ref03_made_r20_p, ref03_made_r22_p, either, gt]
      by_cases h1 : b.1 = a.1 <;> by_cases h2 : b.2.1 = a.2.1 <;> simp [show ∀ x y : Int, (x == y) = decide (x = y) from fun _ _ => rfl, h1, h2, either, bne]
    rw [key] at hm
    by_cases hc : b.1 = a.1 ∧ b.2.1 = a.2.1
    · rw [if_pos hc] at hm
      exact ⟨hc.1, hc.2, (Option.some.inj hm).symm⟩
    · rw [if_neg hc] at hm
      have := Option.some.inj hm
      subst this
      simp at hmb
end Go.V.P
