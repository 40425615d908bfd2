/- Plain laws of layer 5: padding, a window of each channel, a window of all. -/
import Derived.Test.YtokpndlkheofjaaLKUn
import Derived.Test.YtokpndlkheofjaaLKCAll
namespace Go.V.P
open Go Go.V Go.IntWalk
set_option linter.unusedVariables false
set_option linter.unusedSimpArgs false
set_option maxRecDepth 20000
def winN (op K P O : Int) (w b : List Int) : Node := (op, [], K, 1, P, O, 2, 3, 0, 0, 0, 0, w, b)
theorem out_w {H K P : Int} (hH : 1 ≤ H ∧ H ≤ 16) (hK : 1 ≤ K ∧ K ≤ 3) (hP : 0 ≤ P ∧ P ≤ 1) (h : K ≤ H + 2 * P) : outV H K 1 P = H + 2 * P - K + 1 := by
  unfold outV
  rw [if_pos ⟨winB_iff.2 (by omega), h⟩, Int.ediv_one]
  omega
theorem val_conv (a : I4) (d : List Int) (hd : Full a d) (K P O : Int) (w b : List Int) (hK : 2 ≤ K ∧ K ≤ 3) (hP : 0 ≤ P ∧ P ≤ 1) (hO : 1 ≤ O ∧ O ≤ 8) (h1 : K ≤ a.1 + 2 * P ∧ a.1 + 2 * P - K + 1 ≤ 16) (h2 : K ≤ a.2.1 + 2 * P ∧ a.2.1 + 2 * P - K + 1 ≤ 16)
    (hw : (w.length : Int) = K * K * a.2.2.1 * O) (hb : (b.length : Int) = O) (hoff : b.any offB = false) :
    a0x (winN 1 K P O w b) [a] = some ((a.1 + 2 * P - K + 1, a.2.1 + 2 * P - K + 1, O, 0), 0) := by
  have hl := hd.lim
  have b1 := mul_in' (a := K) (b := K) (c := 3) (d := 3) (by omega) (by omega) (by omega) (by omega)
  have b2 := mul_in' (a := K * K) (b := a.2.2.1) (c := 9) (d := 8) (by omega) (by omega) (by omega) (by omega)
  have b3 := mul_in' (a := K * K * a.2.2.1) (b := O) (c := 72) (d := 8) (by omega) (by omega) (by omega) (by omega)
  have o1 := out_w (H := a.1) (K := K) (P := P) (by omega) (by omega) hP h1.1
  have o2 := out_w (H := a.2.1) (K := K) (P := P) (by omega) (by omega) hP h2.1
  refine value_is _ _ (a.1 + 2 * P - K + 1, a.2.1 + 2 * P - K + 1, O) (K * K * a.2.2.1 * O) O (by simp) ?_ ?_ ?_ ?_ ?_ ?_ hw hb hoff (by show b.length < _; omega)
  · show a4k ((1, [], K, 1, P, O, 2, 3, 0, 0, 0, 0, w, b) : Node) 1 = true
    simp [a4k, b1d, a64, b1h, a63, b1g, a20, b1f, a17, a62, a39, b1e, a0i, a61, a43, a7h, a7j, b2q, a45, b2p, a0a, a7g, a7i, b2o, a44, b2n, a08, a7f, a6c, b3t, a8j, b5j, a2n, a8k, a4y, a9p, Q2t]
    omega
  · rfl
  · simp [hd.may]
  · simp [winN, b05, b2l, b2k, a41, a7c, b17, a42, a7d, Q2e, gt, Q1z, o1, o2]
  · rw [Q2l]; simp only; omega
  · show some (IntKind.wrap .i64 (IntKind.wrap .i64 (IntKind.wrap .i64 (K * K) * a.2.2.1) * O), O) = _
    rw [i64_in (K * K) (by omega), i64_in (K * K * a.2.2.1) (by omega), i64_in (K * K * a.2.2.1 * O) (by omega)]
theorem val_depth (a : I4) (d : List Int) (hd : Full a d) (K P : Int) (w b : List Int) (hK : 2 ≤ K ∧ K ≤ 3) (hP : 0 ≤ P ∧ P ≤ 1) (h1 : K ≤ a.1 + 2 * P ∧ a.1 + 2 * P - K + 1 ≤ 16) (h2 : K ≤ a.2.1 + 2 * P ∧ a.2.1 + 2 * P - K + 1 ≤ 16)
    (hw : (w.length : Int) = K * K * a.2.2.1) (hb : (b.length : Int) = a.2.2.1) (hoff : b.any offB = false) :
    a0x (winN 2 K P 0 w b) [a] = some ((a.1 + 2 * P - K + 1, a.2.1 + 2 * P - K + 1, a.2.2.1, 0), 0) := by
  have hl := hd.lim
  have b1 := mul_in' (a := K) (b := K) (c := 3) (d := 3) (by omega) (by omega) (by omega) (by omega)
  have b2 := mul_in' (a := K * K) (b := a.2.2.1) (c := 9) (d := 8) (by omega) (by omega) (by omega) (by omega)
  have o1 := out_w (H := a.1) (K := K) (P := P) (by omega) (by omega) hP h1.1
  have o2 := out_w (H := a.2.1) (K := K) (P := P) (by omega) (by omega) hP h2.1
  refine value_is _ _ (a.1 + 2 * P - K + 1, a.2.1 + 2 * P - K + 1, a.2.2.1) (K * K * a.2.2.1) a.2.2.1 (by simp) ?_ ?_ ?_ ?_ ?_ ?_ hw hb hoff (by show b.length < _; omega)
  · show a4k ((2, [], K, 1, P, 0, 2, 3, 0, 0, 0, 0, w, b) : Node) 1 = true
    simp [a4k, b1d, a64, b1h, a63, b1g, a20, b1f, a17, a62, a39, b1e, a0i, a61, a43, a7h, a7j, b2q, a45, b2p, a0a, a7g, a7i, b2o, a44, b2n, a08, a7f, a6c, b3t, a8j, b5j, a2n, a8k, a4y, a9p, Q2t]
    omega
  · rfl
  · simp [hd.may]
  · simp [winN, b05, b2l, b2k, a41, a7c, b17, a42, a7d, Q2e, gt, Q1z, o1, o2]
  · rw [Q2l]; simp only; omega
  · show some (IntKind.wrap .i64 (IntKind.wrap .i64 (K * K) * a.2.2.1), a.2.2.1) = _
    rw [i64_in (K * K) (by omega), i64_in (K * K * a.2.2.1) (by omega)]
theorem val_fullN (a : I4) (d : List Int) (hd : Full a d) (w b : List Int) (hw : (w.length : Int) = Q2q (vS a)) (hb : b.length = 1) (hoff : b.any offB = false) :
    a0x (3, [], 0, 0, 0, 1, 2, 3, 0, 0, 0, 0, w, b) [a] = some ((1, 1, 1, 0), 0) := by
  have hl := hd.lim
  have hs := sizeV_in (vS a)
  refine value_is _ _ (1, 1, 1) (Q2q (vS a)) 1 (by simp) ?_ ?_ ?_ ?_ rfl ?_ hw (by show (b.length : Int) = 1; omega) hoff (by show b.length < _; omega)
  · rfl
  · rfl
  · simp [hd.may]
  · simp [b05, b2l, b2k, a41, a7c, gt, Q1z]
  · show some (IntKind.wrap .i64 (a15 (vS a) * 1), 1) = _
    rw [Q2a, Int.mul_one, i64_in _ (by omega)]
theorem sumN_add (m : Nat) (f : Nat → Int) : ∀ n : Nat, sumN (m + n) f = sumN m f + sumN n (fun j => f (m + j))
  | 0 => by simp [sumN]
  | n + 1 => by
    rw [show m + (n + 1) = (m + n) + 1 by omega]
    simp only [sumN]
    rw [sumN_add m f n]
    omega
theorem sumN_flat (B : Nat) (f : Nat → Int) : ∀ A : Nat, sumN (A * B) f = sumN A (fun i => sumN B (fun j => f (i * B + j)))
  | 0 => by simp [sumN]
  | A + 1 => by
    rw [Nat.add_mul, Nat.one_mul, sumN_add, sumN_flat B f A]
    rfl
theorem sumN_one {f : Nat → Int} {c : Nat} {v : Int} (hv : f c = v) : ∀ C : Nat, (∀ e, e < C → e ≠ c → f e = 0) → sumN C f = if c < C then v else 0
  | 0, _ => by simp [sumN]
  | C + 1, h => by
    simp only [sumN]
    rw [sumN_one hv C (fun e he => h e (by omega))]
    by_cases h1 : C = c
    · subst h1
      rw [if_neg (Nat.lt_irrefl _), if_pos (by omega), hv, Int.zero_add]
    · rw [h C (by omega) h1, Int.add_zero]
      by_cases h2 : c < C
      · rw [if_pos h2, if_pos (by omega)]
      · rw [if_neg h2, if_neg (by omega)]
theorem pad_at (a : I4) (d : List Int) (hd : Full a d) (hH : a.1 ≤ 14) (hW : a.2.1 ≤ 14) (y x e : Nat) (hy : (y : Int) < a.1 + 2) (hx : (x : Int) < a.2.1 + 2) (he : (e : Int) < a.2.2.1) :
    atV (a.1 + 2, a.2.1 + 2, a.2.2.1, a.2.2.2) (allL (a.1.toNat + 2) (a.2.1.toNat + 2) a.2.2.1.toNat (padF a d)) (y : Int) (x : Int) (e : Int) = atV a d ((y : Int) - 1) ((x : Int) - 1) (e : Int) := by
  have hl := hd.lim
  have hlt := allL_at (a.1.toNat + 2) (a.2.1.toNat + 2) a.2.2.1.toNat (padF a d) y x e (by omega) (by omega) (by omega) _ rfl
  have hcast : ((((y * (a.2.1.toNat + 2) + x) * a.2.2.1.toNat + e : Nat)) : Int) = ((y : Int) * (a.2.1 + 2) + (x : Int)) * a.2.2.1 + (e : Int) := by
    rw [Int.natCast_add, Int.natCast_mul, Int.natCast_add, Int.natCast_mul, Int.natCast_add, ← Q2u (show 0 ≤ a.2.1 by omega), ← Q2u (show 0 ≤ a.2.2.1 by omega)]
    rfl
  have h1 := hlt.1
  rw [hcast] at h1
  unfold atV
  rw [if_pos ⟨by omega, hy, by omega, hx⟩]
  simp only
  rw [h1]
  unfold padF
  by_cases hh : 1 ≤ y ∧ y ≤ a.1.toNat ∧ 1 ≤ x ∧ x ≤ a.2.1.toNat
  · rw [if_pos hh, if_pos (by omega)]
    unfold numV
    rw [show ((y - 1 : Nat) : Int) = (y : Int) - 1 by omega, show ((x - 1 : Nat) : Int) = (x : Int) - 1 by omega]
  · rw [if_neg hh, if_neg (by omega)]
    omega
end Go.V.P
