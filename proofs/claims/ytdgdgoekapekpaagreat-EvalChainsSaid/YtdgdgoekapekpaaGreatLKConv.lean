/- Plain laws of layer 5: what OpConv, OpDepth and OpFull make at a place. -/
import Derived.Test.YtdgdgoekapekpaaGreatLKops
namespace Go.V.P
open Go Go.V Go.IntWalk
set_option linter.unusedVariables false
set_option linter.unusedSimpArgs false
set_option maxRecDepth 20000
def sumN : Nat → (Nat → Int) → Int
  | 0, _ => 0
  | n + 1, f => sumN n f + f n
theorem sumN_in {f : Nat → Int} {B : Int} (hB : 0 ≤ B) : ∀ n : Nat, (∀ i, i < n → -B ≤ f i ∧ f i ≤ B) → -((n : Int) * B) ≤ sumN n f ∧ sumN n f ≤ (n : Int) * B
  | 0, _ => by simp [sumN]
  | n + 1, h => by
    have ih := sumN_in hB n (fun i hi => h i (by omega))
    have := h n (by omega)
    have e : ((n + 1 : Nat) : Int) * B = (n : Int) * B + B := by rw [show ((n + 1 : Nat) : Int) = (n : Int) + 1 by omega, Int.add_mul, Int.one_mul]
    simp only [sumN]
    rw [e]
    omega
theorem sumN_congr {f g : Nat → Int} : ∀ n : Nat, (∀ i, i < n → f i = g i) → sumN n f = sumN n g
  | 0, _ => rfl
  | n + 1, h => by simp only [sumN]; rw [sumN_congr n (fun i hi => h i (by omega)), h n (by omega)]
theorem mul_abs {a b A B : Int} (ha : -A ≤ a ∧ a ≤ A) (hb : -B ≤ b ∧ b ≤ B) : -(A * B) ≤ a * b ∧ a * b ≤ A * B := by
  have h := Int.natAbs_mul a b
  have h2 : a.natAbs * b.natAbs ≤ A.natAbs * B.natAbs := Nat.mul_le_mul (by omega) (by omega)
  have h3 := Int.natAbs_mul A B
  have h4 : 0 ≤ A * B := Int.mul_nonneg (by omega) (by omega)
  omega
/-- what a place of the window adds -/
def cellV (n : Node) (a : I4) (d : List Int) (y x c i j : Nat) : Int :=
  if n.1 = 2 then atV a d ((y : Int) * n.2.2.2.1 - n.2.2.2.2.1 + (i : Int)) ((x : Int) * n.2.2.2.1 - n.2.2.2.2.1 + (j : Int)) (c : Int) * gt (nW n) (((c : Int) * n.2.2.1 + (i : Int)) * n.2.2.1 + (j : Int)) 0
  else sumN a.2.2.1.toNat (fun e => atV a d ((y : Int) * n.2.2.2.1 - n.2.2.2.2.1 + (i : Int)) ((x : Int) * n.2.2.2.1 - n.2.2.2.2.1 + (j : Int)) (e : Int) * gt (nW n) ((((c : Int) * n.2.2.1 + (i : Int)) * n.2.2.1 + (j : Int)) * a.2.2.1 + (e : Int)) 0)
/-- a node of weights -/
structure WOK (n : Node) (a : I4) (O : Nat) : Prop where
  op : n.1 = 1 ∨ n.1 = 2
  k : 1 ≤ n.2.2.1 ∧ n.2.2.1 ≤ 3
  s : 1 ≤ n.2.2.2.1 ∧ n.2.2.2.1 ≤ 2
  p : 0 ≤ n.2.2.2.2.1 ∧ n.2.2.2.2.1 ≤ 2
  o : O ≤ 8
  od : n.1 = 2 → (O : Int) = a.2.2.1
  wlen : (nW n).length = if n.1 = 2 then n.2.2.1.toNat * n.2.2.1.toNat * a.2.2.1.toNat else n.2.2.1.toNat * n.2.2.1.toNat * a.2.2.1.toNat * O
  w8 : i8s (nW n)
  blen : (nB n).length = O
  b : ∀ v ∈ nB n, -16777216 ≤ v ∧ v ≤ 16777216
theorem cell_in {a : I4} {d : List Int} (h : Full a d) {n : Node} {O : Nat} (hw : WOK n a O) {y x c i j : Nat} (hy : y < 16) (hx : x < 16) (hc : c < O) (hi : (i : Int) < n.2.2.1) (hj : (j : Int) < n.2.2.1) :
    -300000 ≤ cellV n a d y x c i j ∧ cellV n a d y x c i j ≤ 300000 := by
  have hl := h.lim
  have hk := hw.k
  have hoo := hw.o
  have hidx := idx_in (H := (O : Int)) (W := n.2.2.1) (C := n.2.2.1) (y := (c : Int)) (x := (i : Int)) (c := (j : Int)) (by omega) (by omega) (by omega) (by omega) (by omega) (by omega) hi (by omega) hj
  have hK : n.2.2.1 = (n.2.2.1.toNat : Int) := nat_of (by omega)
  have hC : a.2.2.1 = (a.2.2.1.toNat : Int) := nat_of (by omega)
  unfold cellV
  by_cases h2 : n.1 = 2
  · rw [if_pos h2]
    have ho := hw.od h2
    have hlen : ((nW n).length : Int) = (O : Int) * n.2.2.1 * n.2.2.1 := by
      rw [hw.wlen, if_pos h2, Int.natCast_mul, Int.natCast_mul, ← hK, ← hC, ← ho, Int.mul_comm, Int.mul_assoc]
    have g1 := at_in h (y := (y : Int) * n.2.2.2.1 - n.2.2.2.2.1 + (i : Int)) (x := (x : Int) * n.2.2.2.1 - n.2.2.2.2.1 + (j : Int)) (c := (c : Int)) (by omega) (by omega)
    have g2 := gt_i8 hw.w8 (((c : Int) * n.2.2.1 + (i : Int)) * n.2.2.1 + (j : Int)) (by omega) (by rw [hlen]; omega)
    have := mul_abs (A := 255) (B := 128) g1 ⟨g2.1, Int.le_trans g2.2 (by decide)⟩
    omega
  · rw [if_neg h2]
    have hlen : ((nW n).length : Int) = (O : Int) * n.2.2.1 * n.2.2.1 * a.2.2.1 := by
      rw [hw.wlen, if_neg h2, Int.natCast_mul, Int.natCast_mul, Int.natCast_mul, ← hK, ← hC, Int.mul_comm, Int.mul_assoc (O : Int), Int.mul_assoc (O : Int)]
    have := sumN_in (f := fun e => atV a d ((y : Int) * n.2.2.2.1 - n.2.2.2.2.1 + (i : Int)) ((x : Int) * n.2.2.2.1 - n.2.2.2.2.1 + (j : Int)) (e : Int) * gt (nW n) ((((c : Int) * n.2.2.1 + (i : Int)) * n.2.2.1 + (j : Int)) * a.2.2.1 + (e : Int)) 0) (B := 32640) (by omega) a.2.2.1.toNat (fun e he => by
      have g1 := at_in h (y := (y : Int) * n.2.2.2.1 - n.2.2.2.2.1 + (i : Int)) (x := (x : Int) * n.2.2.2.1 - n.2.2.2.2.1 + (j : Int)) (c := (e : Int)) (by omega) (by omega)
      have m1 : (((c : Int) * n.2.2.1 + (i : Int)) * n.2.2.1 + (j : Int) + 1) * a.2.2.1 ≤ (O : Int) * n.2.2.1 * n.2.2.1 * a.2.2.1 := Int.mul_le_mul_of_nonneg_right (by omega) (by omega)
      rw [Int.add_mul, Int.one_mul] at m1
      have m2 : 0 ≤ (((c : Int) * n.2.2.1 + (i : Int)) * n.2.2.1 + (j : Int)) * a.2.2.1 := Int.mul_nonneg (by omega) (by omega)
      have g2 := gt_i8 hw.w8 ((((c : Int) * n.2.2.1 + (i : Int)) * n.2.2.1 + (j : Int)) * a.2.2.1 + (e : Int)) (by omega) (by rw [hlen]; omega)
      have := mul_abs (A := 255) (B := 128) g1 ⟨g2.1, Int.le_trans g2.2 (by decide)⟩
      omega)
    have hC8 : (a.2.2.1.toNat : Int) * 32640 ≤ 8 * 32640 := Int.mul_le_mul_of_nonneg_right (by omega) (by omega)
    omega
/-- a place of the window, as the code goes -/
theorem conv_cell {a : I4} {d : List Int} (h : Full a d) {n : Node} {O : Nat} (hw : WOK n a O) {y x c i j : Nat} (hy : y < 16) (hx : x < 16) (hc : c < O) (hi : (i : Int) < n.2.2.1) (hj : (j : Int) < n.2.2.1) (acc : Int) (ha : -1000000000 ≤ acc ∧ acc ≤ 1000000000) :
    kern_conv_1_1 (i : Int) (j : Int) (y : Int) n (x : Int) (c : Int) (paneV a d) acc = some (acc + cellV n a d y x c i j) := by
  have hl := h.lim
  have hk := hw.k
  have hs := hw.s
  have hp := hw.p
  have hoo := hw.o
  have hidx := idx_in (H := (O : Int)) (W := n.2.2.1) (C := n.2.2.1) (y := (c : Int)) (x := (i : Int)) (c := (j : Int)) (by omega) (by omega) (by omega) (by omega) (by omega) (by omega) hi (by omega) hj
  have hK : n.2.2.1 = (n.2.2.1.toNat : Int) := nat_of (by omega)
  have hC : a.2.2.1 = (a.2.2.1.toNat : Int) := nat_of (by omega)
  have m1 := mul_in' (a := (y : Int)) (b := n.2.2.2.1) (c := 16) (d := 2) (by omega) (by omega) (by omega) (by omega)
  have m2 := mul_in' (a := (x : Int)) (b := n.2.2.2.1) (c := 16) (d := 2) (by omega) (by omega) (by omega) (by omega)
  have r0 : kern_conv_1_1_r0_p (i : Int) (j : Int) (y : Int) n (x : Int) (c : Int) = ((y : Int) * n.2.2.2.1 - n.2.2.2.2.1 + (i : Int), (x : Int) * n.2.2.2.1 - n.2.2.2.2.1 + (j : Int), ((c : Int) * n.2.2.1 + (i : Int)) * n.2.2.1 + (j : Int)) := by
    simp only [kern_conv_1_1_r0_p, kern_conv_1_1_r0_q]
    rw [i64_in ((y : Int) * n.2.2.2.1) (by omega), i64_in ((x : Int) * n.2.2.2.1) (by omega), i64_in ((c : Int) * n.2.2.1) (by omega), i64_in ((y : Int) * n.2.2.2.1 - n.2.2.2.2.1) (by omega), i64_in ((x : Int) * n.2.2.2.1 - n.2.2.2.2.1) (by omega), i64_in ((c : Int) * n.2.2.1 + (i : Int)) (by omega),
      i64_in (((c : Int) * n.2.2.1 + (i : Int)) * n.2.2.1) (by omega), i64_in (((c : Int) * n.2.2.1 + (i : Int)) * n.2.2.1 + (j : Int)) (by omega), i64_in ((y : Int) * n.2.2.2.1 - n.2.2.2.2.1 + (i : Int)) (by omega), i64_in ((x : Int) * n.2.2.2.1 - n.2.2.2.2.1 + (j : Int)) (by omega)]
  unfold kern_conv_1_1 cellV
  by_cases h2 : n.1 = 2
  · rw [if_pos h2, show (n.1 == 2) = true by simpa using h2]
    have ho := hw.od h2
    have hlen : ((nW n).length : Int) = (O : Int) * n.2.2.1 * n.2.2.1 := by
      rw [hw.wlen, if_pos h2, Int.natCast_mul, Int.natCast_mul, ← hK, ← hC, ← ho, Int.mul_comm, Int.mul_assoc]
    have g0 := pane_at_eq h (y := (y : Int) * n.2.2.2.1 - n.2.2.2.2.1 + (i : Int)) (x := (x : Int) * n.2.2.2.1 - n.2.2.2.2.1 + (j : Int)) (c := (c : Int)) (by omega) (by omega)
    have g1 := at_in h (y := (y : Int) * n.2.2.2.1 - n.2.2.2.2.1 + (i : Int)) (x := (x : Int) * n.2.2.2.1 - n.2.2.2.2.1 + (j : Int)) (c := (c : Int)) (by omega) (by omega)
    have g2 := gt_i8 hw.w8 (((c : Int) * n.2.2.1 + (i : Int)) * n.2.2.1 + (j : Int)) (by omega) (by rw [hlen]; omega)
    have g3 := mul_abs (A := 255) (B := 128) g1 ⟨g2.1, Int.le_trans g2.2 (by decide)⟩
    unfold kern_conv_1_1_r2_p
    rw [r0]
    simp only [g0, Option.bind_some, cond_true]
    have hWd : n.2.2.2.2.2.2.2.2.2.2.2.2.1 = nW n := rfl
    rw [hWd, decide_eq_true (by omega), decide_eq_true (by rw [hlen]; omega), i64_in (gt (nW n) _ 0) (by omega), i64_in (_ * _) (by omega), i64_in (acc + _) (by omega)]
    rfl
  · rw [if_neg h2, show (n.1 == 2) = false by simpa using h2]
    have hlen : ((nW n).length : Int) = (O : Int) * n.2.2.1 * n.2.2.1 * a.2.2.1 := by
      rw [hw.wlen, if_neg h2, Int.natCast_mul, Int.natCast_mul, Int.natCast_mul, ← hK, ← hC, Int.mul_comm, Int.mul_assoc (O : Int), Int.mul_assoc (O : Int)]
    let f : Nat → Int := fun e => atV a d ((y : Int) * n.2.2.2.1 - n.2.2.2.2.1 + (i : Int)) ((x : Int) * n.2.2.2.1 - n.2.2.2.2.1 + (j : Int)) (e : Int) * gt (nW n) ((((c : Int) * n.2.2.1 + (i : Int)) * n.2.2.1 + (j : Int)) * a.2.2.1 + (e : Int)) 0
    have hf : ∀ e : Nat, (e : Int) < a.2.2.1 → (-32640 ≤ f e ∧ f e ≤ 32640) ∧ 0 ≤ (((c : Int) * n.2.2.1 + (i : Int)) * n.2.2.1 + (j : Int)) * a.2.2.1 ∧ (((c : Int) * n.2.2.1 + (i : Int)) * n.2.2.1 + (j : Int)) * a.2.2.1 ≤ 100000 ∧ (((c : Int) * n.2.2.1 + (i : Int)) * n.2.2.1 + (j : Int)) * a.2.2.1 + (e : Int) < ((nW n).length : Int) ∧ -128 ≤ gt (nW n) ((((c : Int) * n.2.2.1 + (i : Int)) * n.2.2.1 + (j : Int)) * a.2.2.1 + (e : Int)) 0 ∧ gt (nW n) ((((c : Int) * n.2.2.1 + (i : Int)) * n.2.2.1 + (j : Int)) * a.2.2.1 + (e : Int)) 0 ≤ 127 := fun e he => by
      have g1 := at_in h (y := (y : Int) * n.2.2.2.1 - n.2.2.2.2.1 + (i : Int)) (x := (x : Int) * n.2.2.2.1 - n.2.2.2.2.1 + (j : Int)) (c := (e : Int)) (by omega) he
      have q1 : (((c : Int) * n.2.2.1 + (i : Int)) * n.2.2.1 + (j : Int) + 1) * a.2.2.1 ≤ (O : Int) * n.2.2.1 * n.2.2.1 * a.2.2.1 := Int.mul_le_mul_of_nonneg_right (by omega) (by omega)
      rw [Int.add_mul, Int.one_mul] at q1
      have q3 := mul_in' (a := ((c : Int) * n.2.2.1 + (i : Int)) * n.2.2.1 + (j : Int)) (b := a.2.2.1) (c := 10000) (d := 8) (by omega) (by have := mul_in' (a := (c : Int) * n.2.2.1 + (i : Int)) (b := n.2.2.1) (c := 30) (d := 3) (by omega) (by have := mul_in' (a := (c : Int)) (b := n.2.2.1) (c := 8) (d := 3) (by omega) (by omega) (by omega) (by omega); omega) (by omega) (by omega); omega) (by omega) (by omega)
      have g2 := gt_i8 hw.w8 ((((c : Int) * n.2.2.1 + (i : Int)) * n.2.2.1 + (j : Int)) * a.2.2.1 + (e : Int)) (by omega) (by rw [hlen]; omega)
      have := mul_abs (A := 255) (B := 128) g1 ⟨g2.1, Int.le_trans g2.2 (by decide)⟩
      refine ⟨?_, by omega, by omega, by rw [hlen]; omega, g2⟩
      show -32640 ≤ _ * _ ∧ _ * _ ≤ 32640
      omega
    have hloop : iterN (kern_conv_1_1_l4_p (i : Int) (j : Int) (y : Int) n (x : Int) (c : Int) (paneV a d)) LL (0, acc) = some ((a.2.2.1.toNat : Int), acc + sumN a.2.2.1.toNat f) := by
      have := iterN_for (p := kern_conv_1_1_l4_p (i : Int) (j : Int) (y : Int) n (x : Int) (c : Int) (paneV a d)) (z := ((a.2.2.1.toNat : Int), acc + sumN a.2.2.1.toNat f)) a.2.2.1.toNat (fun e => ((e : Int), acc + sumN e f)) LL (LL_lt (by omega)) (fun e he => by
        obtain ⟨q1, q2, q3, q4, q5⟩ := hf e (by omega)
        have hsum := sumN_in (f := f) (B := 32640) (by omega) e (fun i hi => (hf i (by omega)).1)
        have hsb : (e : Int) * 32640 ≤ 8 * 32640 := Int.mul_le_mul_of_nonneg_right (by omega) (by omega)
        have g0 := pane_at_eq h (y := (y : Int) * n.2.2.2.1 - n.2.2.2.2.1 + (i : Int)) (x := (x : Int) * n.2.2.2.1 - n.2.2.2.2.1 + (j : Int)) (c := (e : Int)) (by omega) (by omega)
        have t3 := i64_in ((e : Int) + 1) (by omega)
        have hr6 : kern_conv_1_1_r6_p (i : Int) (j : Int) (y : Int) n (x : Int) (c : Int) (paneV a d) ((e : Int), acc + sumN e f) = some (acc + sumN e f + f e) := by
          unfold kern_conv_1_1_r6_p
          rw [r0]
          simp only [g0, Option.bind_some]
          have hWd : n.2.2.2.2.2.2.2.2.2.2.2.2.1 = nW n := rfl
          have hPc : (paneV a d).2.2.1 = a.2.2.1 := rfl
          have w1 := i64_in ((((c : Int) * n.2.2.1 + (i : Int)) * n.2.2.1 + (j : Int)) * a.2.2.1) (by omega)
          have w2 := i64_in ((((c : Int) * n.2.2.1 + (i : Int)) * n.2.2.1 + (j : Int)) * a.2.2.1 + (e : Int)) (by omega)
          have w3 := i64_in (gt (nW n) ((((c : Int) * n.2.2.1 + (i : Int)) * n.2.2.1 + (j : Int)) * a.2.2.1 + (e : Int)) 0) (by omega)
          simp only [hWd, hPc, w1, w2, w3]
          rw [decide_eq_true (by omega), decide_eq_true q4]
          have w4 : IntKind.wrap .i64 (atV a d ((y : Int) * n.2.2.2.1 - n.2.2.2.2.1 + (i : Int)) ((x : Int) * n.2.2.2.1 - n.2.2.2.2.1 + (j : Int)) (e : Int) * gt (nW n) ((((c : Int) * n.2.2.1 + (i : Int)) * n.2.2.1 + (j : Int)) * a.2.2.1 + (e : Int)) 0) = f e := i64_in _ (by show _ ≤ f e ∧ f e ≤ _; omega)
          simp only [w4, cond_true]
          rw [i64_in _ (by omega)]
        unfold kern_conv_1_1_l4_p
        have hPc : (paneV a d).2.2.1 = a.2.2.1 := rfl
        simp only [hPc]
        rw [decide_eq_true (by omega : (e : Int) < a.2.2.1), hr6, t3]
        simp only [cond_true, Option.bind_some, sumN]
        rw [Int.add_assoc]
        rfl) (by
        unfold kern_conv_1_1_l4_p
        have hPc : (paneV a d).2.2.1 = a.2.2.1 := rfl
        simp only [hPc]
        rw [decide_eq_false (by omega)]
        rfl)
      simp only [sumN, Int.add_zero] at this
      exact this
    simp only [cond_false]
    rw [hloop]
    rfl
/-- all that is added under a window -/
def convS (n : Node) (a : I4) (d : List Int) (y x c : Nat) : Int := sumN n.2.2.1.toNat (fun i => sumN n.2.2.1.toNat (fun j => cellV n a d y x c i j))
def convV (n : Node) (a : I4) (d : List Int) (y x c : Nat) : Int := scaleV (gt (nB n) (c : Int) 0 + convS n a d y x c) n.2.2.2.2.2.2.1 n.2.2.2.2.2.2.2.1 (nZ n)
theorem conv_run {a : I4} {d : List Int} (h : Full a d) {n : Node} {O : Nat} (hw : WOK n a O) {y x c : Nat} (hy : y < 16) (hx : x < 16) (hc : c < O) :
    kern_conv_1 (y : Int) (x : Int) (c : Int) n (paneV a d) = some (convV n a d y x c) := by
  have hk := hw.k
  have hK : n.2.2.1 = (n.2.2.1.toNat : Int) := nat_of (by omega)
  have hb : -16777216 ≤ gt (nB n) (c : Int) 0 ∧ gt (nB n) (c : Int) 0 ≤ 16777216 := hw.b _ (gt_mem' (by rw [hw.blen]; exact hc) 0)
  have hcell : ∀ i j : Nat, i < n.2.2.1.toNat → j < n.2.2.1.toNat → -300000 ≤ cellV n a d y x c i j ∧ cellV n a d y x c i j ≤ 300000 := fun i j hi hj => cell_in h hw hy hx hc (by omega) (by omega)
  have hrow : ∀ i : Nat, i < n.2.2.1.toNat → ∀ m : Nat, m ≤ n.2.2.1.toNat → -1000000 ≤ sumN m (fun j => cellV n a d y x c i j) ∧ sumN m (fun j => cellV n a d y x c i j) ≤ 1000000 := fun i hi m hm => by
    have := sumN_in (f := fun j => cellV n a d y x c i j) (B := 300000) (by omega) m (fun j hj => hcell i j hi (by omega))
    have h3 : (m : Int) * 300000 ≤ 3 * 300000 := Int.mul_le_mul_of_nonneg_right (by omega) (by omega)
    omega
  have hall : ∀ m : Nat, m ≤ n.2.2.1.toNat → -3000000 ≤ sumN m (fun i => sumN n.2.2.1.toNat (fun j => cellV n a d y x c i j)) ∧ sumN m (fun i => sumN n.2.2.1.toNat (fun j => cellV n a d y x c i j)) ≤ 3000000 := fun m hm => by
    have := sumN_in (f := fun i => sumN n.2.2.1.toNat (fun j => cellV n a d y x c i j)) (B := 1000000) (by omega) m (fun i hi => hrow i (by omega) _ (Nat.le_refl _))
    have h3 : (m : Int) * 1000000 ≤ 3 * 1000000 := Int.mul_le_mul_of_nonneg_right (by omega) (by omega)
    omega
  have inner : ∀ (i : Nat) (acc : Int), i < n.2.2.1.toNat → -100000000 ≤ acc ∧ acc ≤ 100000000 → iterN (kern_slide_s2_l4_p n.2.2.1 (y : Int) n (x : Int) (c : Int) (paneV a d) ((i : Int), acc)) LL (0, acc) = some (n.2.2.1, acc + sumN n.2.2.1.toNat (fun j => cellV n a d y x c i j)) := fun i acc hi hacc => by
    have := iterN_for (p := kern_slide_s2_l4_p n.2.2.1 (y : Int) n (x : Int) (c : Int) (paneV a d) ((i : Int), acc)) (z := (n.2.2.1, acc + sumN n.2.2.1.toNat (fun j => cellV n a d y x c i j))) n.2.2.1.toNat (fun j => ((j : Int), acc + sumN j (fun j => cellV n a d y x c i j))) LL (LL_lt (by omega)) (fun j hj => by
      have hb2 := hrow i hi j (by omega)
      have t3 := i64_in ((j : Int) + 1) (by omega)
      unfold kern_slide_s2_l4_p
      rw [decide_eq_true (by simp only; omega), conv_cell h hw hy hx hc (by omega) (by omega) _ (by simp only; omega), t3]
      simp only [cond_true, Option.bind_some, sumN]
      rw [Int.add_assoc]
      rfl) (by
      unfold kern_slide_s2_l4_p
      rw [decide_eq_false (by simp only; omega), ← hK]
      rfl)
    simp only [sumN, Int.add_zero] at this
    exact this
  have outer : iterN (kern_slide_s2_l1_p n.2.2.1 (y : Int) n (x : Int) (c : Int) (paneV a d)) LL (0, gt (nB n) (c : Int) 0) = some (n.2.2.1, gt (nB n) (c : Int) 0 + convS n a d y x c) := by
    have := iterN_for (p := kern_slide_s2_l1_p n.2.2.1 (y : Int) n (x : Int) (c : Int) (paneV a d)) (z := (n.2.2.1, gt (nB n) (c : Int) 0 + convS n a d y x c)) n.2.2.1.toNat (fun i => ((i : Int), gt (nB n) (c : Int) 0 + sumN i (fun i => sumN n.2.2.1.toNat (fun j => cellV n a d y x c i j)))) LL (LL_lt (by omega)) (fun i hi => by
      have hb2 := hall i (by omega)
      have t3 := i64_in ((i : Int) + 1) (by omega)
      unfold kern_slide_s2_l1_p
      rw [decide_eq_true (by simp only; omega), inner i _ hi (by omega), t3]
      simp only [cond_true, Option.bind_some, sumN]
      rw [Int.add_assoc]
      rfl) (by
      unfold kern_slide_s2_l1_p
      rw [decide_eq_false (by simp only; omega), ← hK]
      rfl)
    simp only [sumN, Int.add_zero] at this
    exact this
  have hr1 : kern_conv_1_r1_p (c : Int) n = some () := by
    unfold kern_conv_1_r1_p
    have hBd : n.2.2.2.2.2.2.2.2.2.2.2.2.2 = nB n := rfl
    rw [hBd, decide_eq_true (by omega), decide_eq_true (by rw [hw.blen]; omega)]
    rfl
  unfold kern_conv_1
  rw [hr1]
  simp only [Option.bind_some]
  have hBd : n.2.2.2.2.2.2.2.2.2.2.2.2.2 = nB n := rfl
  rw [hBd, i64_in (gt (nB n) (c : Int) 0) (by omega)]
  unfold kern_slide_s2
  rw [outer]
  simp only [Option.bind_some, fixed_Scale_eq]
  rfl
end Go.V.P
