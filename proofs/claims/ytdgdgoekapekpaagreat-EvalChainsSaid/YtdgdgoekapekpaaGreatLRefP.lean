/- Plain laws of layer 5: pools, and the other ops, of the document. -/
import Derived.Test.YtdgdgoekapekpaaGreatLRefV
namespace Go.V.P
open Go Go.V Go.IntWalk
set_option linter.unusedVariables false
set_option linter.unusedSimpArgs false
set_option maxRecDepth 20000
def mxN : Nat → (Nat → Int) → Int → Int
  | 0, _, m => m
  | n + 1, f, m => max (mxN n f m) (f n)
def mxR (k : Nat) (f : Nat → Nat → Int) : Nat → Int → Int
  | 0, m => m
  | q + 1, m => mxN k (f q) (mxR k f q m)
theorem mxN_shift (f : Nat → Int) (z m : Int) : ∀ n : Nat, mxN n (fun j => f j + z) (m + z) = mxN n f m + z
  | 0 => rfl
  | n + 1 => by simp only [mxN]; rw [mxN_shift f z m n]; omega
theorem mxN_max (f : Nat → Int) (m b : Int) : ∀ n : Nat, mxN n f (max m b) = max (mxN n f m) b
  | 0 => rfl
  | n + 1 => by simp only [mxN]; rw [mxN_max f m b n]; omega
theorem mxR_shift (k : Nat) (f : Nat → Nat → Int) (z m : Int) : ∀ q : Nat, mxR k (fun i j => f i j + z) q (m + z) = mxR k f q m + z
  | 0 => rfl
  | q + 1 => by simp only [mxR]; rw [mxR_shift k f z m q, mxN_shift]
theorem mxR_max (k : Nat) (f : Nat → Nat → Int) (m b : Int) : ∀ q : Nat, mxR k f q (max m b) = max (mxR k f q m) b
  | 0 => rfl
  | q + 1 => by simp only [mxR]; rw [mxR_max k f m b q, mxN_max]
theorem sumN_shift (f : Nat → Int) (z : Int) : ∀ n : Nat, sumN n (fun j => f j + z) = sumN n f + (n : Int) * z
  | 0 => by simp [sumN]
  | n + 1 => by simp only [sumN]; rw [sumN_shift f z n, show ((n + 1 : Nat) : Int) = (n : Int) + 1 by omega, Int.add_mul, Int.one_mul]; omega
theorem sumN_b {f : Nat → Int} {k : Nat} (hk : k ≤ 3) (hf : ∀ j, j < k → -255 ≤ f j ∧ f j ≤ 255) : ∀ m : Nat, m ≤ k → -765 ≤ sumN m f ∧ sumN m f ≤ 765 := fun m hm => by
  have := sumN_in (f := f) (B := 255) (by omega) m (fun i hi => hf i (by omega))
  have h3 : (m : Int) * 255 ≤ 3 * 255 := Int.mul_le_mul_of_nonneg_right (by omega) (by omega)
  omega
theorem sumN_bb {f : Nat → Nat → Int} {k : Nat} (hk : k ≤ 3) (hf : ∀ i j, i < k → j < k → -255 ≤ f i j ∧ f i j ≤ 255) : ∀ m : Nat, m ≤ k → -2295 ≤ sumN m (fun i => sumN k (f i)) ∧ sumN m (fun i => sumN k (f i)) ≤ 2295 := fun m hm => by
  have := sumN_in (f := fun i => sumN k (f i)) (B := 765) (by omega) m (fun i hi => sumN_b hk (fun j hj => hf i j (by omega) hj) k (Nat.le_refl _))
  have h3 : (m : Int) * 765 ≤ 3 * 765 := Int.mul_le_mul_of_nonneg_right (by omega) (by omega)
  omega
theorem pool_eq {a : I4} {d : List Int} (h : Full a d) (n : Node) (ho : n.1 = 4 ∨ n.1 = 5) (k S y x c : Nat) (hK : n.2.2.1 = (k : Int)) (hS : n.2.2.2.1 = (S : Int)) (hk : 1 ≤ k ∧ k ≤ 3) (hS2 : 1 ≤ S ∧ S ≤ 2) (hy : ((y * S + k : Nat) : Int) ≤ a.1) (hx : ((x * S + k : Nat) : Int) ≤ a.2.1) (hc : (c : Int) < a.2.2.1) :
    ref05_pool n a (0, a.1, d) (y : Int) (x : Int) (c : Int) = kern_pool_1 (y : Int) (x : Int) (c : Int) n (paneV a d) := by
  have hl := h.lim
  have hz := h.zero
  let f : Nat → Nat → Int := fun i j => numV a d (y * S + i) (x * S + j) c - a.2.2.2
  have hnum : ∀ i j, i < k → j < k → -128 ≤ numV a d (y * S + i) (x * S + j) c ∧ numV a d (y * S + i) (x * S + j) c ≤ 127 := fun i j hi hj => num_in h (by omega) (by omega) hc
  have hf : ∀ i j, i < k → j < k → -255 ≤ f i j ∧ f i j ≤ 255 := fun i j hi hj => by
    have := hnum i j hi hj
    show -255 ≤ numV a d (y * S + i) (x * S + j) c - a.2.2.2 ∧ numV a d (y * S + i) (x * S + j) c - a.2.2.2 ≤ 255
    omega
  have hg : ∀ i j, i < k → j < k → -255 ≤ f i j + a.2.2.2 ∧ f i j + a.2.2.2 ≤ 255 := fun i j hi hj => by
    have := hnum i j hi hj
    show -255 ≤ numV a d (y * S + i) (x * S + j) c - a.2.2.2 + a.2.2.2 ∧ numV a d (y * S + i) (x * S + j) c - a.2.2.2 + a.2.2.2 ≤ 255
    omega
  have c1 : ∀ i, i < k → IntKind.wrap .i64 (IntKind.wrap .i64 ((y : Int) * n.2.2.2.1) + (i : Int)) = ((y * S + i : Nat) : Int) := fun i hi => by
    rw [hS, show (y : Int) * (S : Int) = ((y * S : Nat) : Int) by simp, i64_in ((y * S : Nat) : Int) (by omega), i64_in _ (by omega)]
    omega
  have c2 : ∀ j, j < k → IntKind.wrap .i64 (IntKind.wrap .i64 ((x : Int) * n.2.2.2.1) + (j : Int)) = ((x * S + j : Nat) : Int) := fun j hj => by
    rw [hS, show (x : Int) * (S : Int) = ((x * S : Nat) : Int) by simp, i64_in ((x * S : Nat) : Int) (by omega), i64_in _ (by omega)]
    omega
  have hat : ∀ i j, i < k → j < k → atV a d ((y * S + i : Nat) : Int) ((x * S + j : Nat) : Int) (c : Int) = f i j := fun i j hi hj => at_num h (by omega) (by omega)
  -- the code's rows
  have krow : ∀ (i : Nat) (m t : Int), i < k → -3000 ≤ t ∧ t ≤ 3000 → iterN (kern_slide_l4_p (k : Int) (paneV a d) (y : Int) n (x : Int) (c : Int) ((i : Int), m, t)) LL (0, m, t) = some ((k : Int), mxN k (f i) m, t + sumN k (f i)) := fun i m t hi ht => by
    have := iterN_for (p := kern_slide_l4_p (k : Int) (paneV a d) (y : Int) n (x : Int) (c : Int) ((i : Int), m, t)) (z := ((k : Int), mxN k (f i) m, t + sumN k (f i))) k (fun j => ((j : Int), mxN j (f i) m, t + sumN j (f i))) LL (LL_lt (by omega)) (fun j hj => by
      have b1 := sumN_b hk.2 (hf i · hi) j (by omega)
      have b2 := hf i j hi hj
      have w1 := i64_in ((j : Int) + 1) (by omega)
      have w2 := i64_in (t + sumN j (f i) + f i j) (by omega)
      have g := pane_at_eq h (y := ((y * S + i : Nat) : Int)) (x := ((x * S + j : Nat) : Int)) (c := (c : Int)) (by omega) hc
      rw [hat i j hi hj] at g
      unfold kern_slide_l4_p kern_pool_1_1
      simp only [c1 i hi, c2 j hj, g, Option.bind_some, w1, w2, mxN, sumN]
      rw [decide_eq_true (by omega), Int.add_assoc]
      rfl) (by
      unfold kern_slide_l4_p
      rw [decide_eq_false (Int.lt_irrefl _)]
      rfl)
    simp only [mxN, sumN, Int.add_zero] at this
    exact this
  have kall : iterN (kern_slide_l1_p (k : Int) (paneV a d) (y : Int) n (x : Int) (c : Int)) LL (0, -512, 0) = some ((k : Int), mxR k f k (-512), sumN k (fun i => sumN k (f i))) := by
    have := iterN_for (p := kern_slide_l1_p (k : Int) (paneV a d) (y : Int) n (x : Int) (c : Int)) (z := ((k : Int), mxR k f k (-512), sumN k (fun i => sumN k (f i)))) k (fun i => ((i : Int), mxR k f i (-512), sumN i (fun i => sumN k (f i)))) LL (LL_lt (by omega)) (fun i hi => by
      have b1 := sumN_bb hk.2 hf i (by omega)
      have w1 := i64_in ((i : Int) + 1) (by omega)
      unfold kern_slide_l1_p
      simp only [krow i (mxR k f i (-512)) (sumN i (fun i => sumN k (f i))) hi (by omega), Option.bind_some, w1, mxR, sumN]
      rw [decide_eq_true (by omega)]
      rfl) (by
      unfold kern_slide_l1_p
      rw [decide_eq_false (Int.lt_irrefl _)]
      rfl)
    simp only [mxR, sumN] at this
    exact this
  -- the document's rows
  have rrow : ∀ (i : Nat) (m t : Int), i < k → -3000 ≤ t ∧ t ≤ 3000 → iterN (ref05_pool_l7_p n a (0, a.1, d) (y : Int) (x : Int) (c : Int) (m, t, (i : Int))) LL (m, t, 0) = some (mxN k (fun j => f i j + a.2.2.2) m, t + sumN k (fun j => f i j + a.2.2.2), (k : Int)) := fun i m t hi ht => by
    have := iterN_for (p := ref05_pool_l7_p n a (0, a.1, d) (y : Int) (x : Int) (c : Int) (m, t, (i : Int))) (z := (mxN k (fun j => f i j + a.2.2.2) m, t + sumN k (fun j => f i j + a.2.2.2), (k : Int))) k (fun j => (mxN j (fun j => f i j + a.2.2.2) m, t + sumN j (fun j => f i j + a.2.2.2), (j : Int))) LL (LL_lt (by omega)) (fun j hj => by
      have b1 := sumN_b hk.2 (hg i · hi) j (by omega)
      have b2 := hg i j hi hj
      have w1 := i64_in ((j : Int) + 1) (by omega)
      have w2 := i64_in (t + sumN j (fun j => f i j + a.2.2.2) + (f i j + a.2.2.2)) (by omega)
      have g := number_eq h (y := ((y * S + i : Nat) : Int)) (x := ((x * S + j : Nat) : Int)) (c := (c : Int)) (by omega) hc
      rw [hat i j hi hj] at g
      unfold ref05_pool_l7_p
      simp only [c1 i hi, c2 j hj, g, Option.bind_some, w1, w2, mxN, sumN, hK]
      rw [decide_eq_true (by omega), Int.add_assoc]
      rfl) (by
      unfold ref05_pool_l7_p
      simp only [hK]
      rw [decide_eq_false (Int.lt_irrefl _)]
      rfl)
    simp only [mxN, sumN, Int.add_zero] at this
    exact this
  have rall : iterN (ref05_pool_l4_p n a (0, a.1, d) (y : Int) (x : Int) (c : Int)) LL (-128, 0, 0) = some (mxR k (fun i j => f i j + a.2.2.2) k (-128), sumN k (fun i => sumN k (fun j => f i j + a.2.2.2)), (k : Int)) := by
    have := iterN_for (p := ref05_pool_l4_p n a (0, a.1, d) (y : Int) (x : Int) (c : Int)) (z := (mxR k (fun i j => f i j + a.2.2.2) k (-128), sumN k (fun i => sumN k (fun j => f i j + a.2.2.2)), (k : Int))) k (fun i => (mxR k (fun i j => f i j + a.2.2.2) i (-128), sumN i (fun i => sumN k (fun j => f i j + a.2.2.2)), (i : Int))) LL (LL_lt (by omega)) (fun i hi => by
      have b1 := sumN_bb hk.2 hg i (by omega)
      have w1 := i64_in ((i : Int) + 1) (by omega)
      unfold ref05_pool_l4_p
      simp only [rrow i (mxR k (fun i j => f i j + a.2.2.2) i (-128)) (sumN i (fun i => sumN k (fun j => f i j + a.2.2.2))) hi (by omega), Option.bind_some, w1, mxR, sumN, hK]
      rw [decide_eq_true (by omega)]
      rfl) (by
      unfold ref05_pool_l4_p
      simp only [hK]
      rw [decide_eq_false (Int.lt_irrefl _)]
      rfl)
    simp only [mxR, sumN] at this
    exact this
  -- the greatest is one of them
  have hM : -128 ≤ mxR k f k (-512) + a.2.2.2 ∧ mxR k f k (-512) + a.2.2.2 ≤ 127 := by
    obtain ⟨M, T, e, w⟩ := win_run h n k S y x c hk hS hS2 hy hx hc
    unfold kern_slide at e
    rw [kall] at e
    have e1 := (Prod.mk.inj (Option.some.inj e)).1
    obtain ⟨i0, j0, u1, u2, u3⟩ := w.at_
    have := hnum i0 j0 u1 u2
    have e2 : mxR k f k (-512) = numV a d (y * S + i0) (x * S + j0) c - a.2.2.2 := e1.trans u3
    omega
  have hmx : mxR k (fun i j => f i j + a.2.2.2) k (-128) = mxR k f k (-512) + a.2.2.2 := by
    have h1 := mxR_max k (fun i j => f i j + a.2.2.2) (-512 + a.2.2.2) (-128) k
    rw [show max (-512 + a.2.2.2) (-128) = -128 by omega, mxR_shift] at h1
    omega
  have hsum : sumN k (fun i => sumN k (fun j => f i j + a.2.2.2)) = sumN k (fun i => sumN k (f i)) + (k : Int) * (k : Int) * a.2.2.2 := by
    have : (fun i => sumN k (fun j => f i j + a.2.2.2)) = fun i => sumN k (f i) + (k : Int) * a.2.2.2 := funext fun i => sumN_shift (f i) _ k
    rw [this, sumN_shift, Int.mul_assoc]
  have hkk : 1 ≤ (k : Int) * (k : Int) ∧ (k : Int) * (k : Int) ≤ 9 := by
    have : k = 1 ∨ k = 2 ∨ k = 3 := by omega
    rcases this with rfl | rfl | rfl <;> omega
  have b1 := sumN_bb hk.2 hf k (Nat.le_refl _)
  have b2 := sumN_bb hk.2 hg k (Nat.le_refl _)
  rw [hsum] at b2
  unfold ref05_pool kern_pool_1 kern_slide
  rw [hK, rall, kall, hmx, hsum]
  simp only [Option.bind_some]
  rw [show (paneV a d).2.2.2.1 = a.2.2.2 from rfl]
  generalize (k : Int) * (k : Int) = K at *
  rw [i64_in K (by omega), i64_in (K * a.2.2.2) (by omega), i64_in (mxR k f k (-512) + a.2.2.2) (by omega), i64_in (_ + K * a.2.2.2) (by omega), fixed_Div_eq (by omega) (by omega) (by omega), ref01_Div_eq (by omega) (by omega) (by omega)]
end Go.V.P
