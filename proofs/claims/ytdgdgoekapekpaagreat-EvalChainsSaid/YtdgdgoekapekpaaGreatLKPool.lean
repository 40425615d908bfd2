/- Plain laws of layer 5: the greatest, and the mean, under a window. -/
import Derived.Test.YtdgdgoekapekpaaGreatLKops
namespace Go.V.P
open Go Go.V Go.IntWalk
set_option linter.unusedVariables false
set_option linter.unusedSimpArgs false
set_option maxRecDepth 20000
theorem push8' (s : List Int × Int) (h : s.1.length < 3000) (v : Int) (hv : -128 ≤ v ∧ v ≤ 127) : pushV s v = some (s.1 ++ [v]) := by rw [push_ok s v h, wrap8_in hv]
theorem rnd_mono {x y b : Int} (hb : 1 ≤ b) (h : x ≤ y) : rnd x b ≤ rnd y b := by
  unfold rnd
  by_cases hx : x < 0
  · rw [if_pos hx]
    by_cases hy : y < 0
    · rw [if_pos hy]
      have := Int.ediv_le_ediv (show 0 < b by omega) (show -y + b / 2 ≤ -x + b / 2 by omega)
      omega
    · rw [if_neg hy]
      have h1 : 0 ≤ (-x + b / 2) / b := Int.ediv_nonneg (by omega) (by omega)
      have h2 : 0 ≤ (y + b / 2) / b := Int.ediv_nonneg (by omega) (by omega)
      omega
  · rw [if_neg hx, if_neg (by omega)]
    exact Int.ediv_le_ediv (by omega) (by omega)
/-- what a window comes to: the greatest, and the sum -/
structure WinOK (k : Nat) (f : Nat → Nat → Int) (M S : Int) : Prop where
  le : ∀ i j, i < k → j < k → f i j ≤ M
  at_ : ∃ i j, i < k ∧ j < k ∧ M = f i j
  up : ∀ U : Int, (∀ i j, i < k → j < k → f i j ≤ U) → S ≤ (k : Int) * (k : Int) * U
  lo : ∀ L : Int, (∀ i j, i < k → j < k → L ≤ f i j) → (k : Int) * (k : Int) * L ≤ S
theorem win_run {a : I4} {d : List Int} (h : Full a d) (n : Node) (k S y x c : Nat) (hk : 1 ≤ k ∧ k ≤ 3) (hS : n.2.2.2.1 = (S : Int)) (hS2 : 1 ≤ S ∧ S ≤ 2) (hy : ((y * S + k : Nat) : Int) ≤ a.1) (hx : ((x * S + k : Nat) : Int) ≤ a.2.1) (hc : (c : Int) < a.2.2.1) :
    ∃ M T, kern_slide (k : Int) (paneV a d) (y : Int) n (x : Int) (c : Int) (-512) 0 = some (M, T) ∧ WinOK k (fun i j => numV a d (y * S + i) (x * S + j) c - a.2.2.2) M T := by
  have hl := h.lim
  have hz := h.zero
  let f : Nat → Nat → Int := fun i j => numV a d (y * S + i) (x * S + j) c - a.2.2.2
  have hf : ∀ i j, i < k → j < k → -255 ≤ f i j ∧ f i j ≤ 255 := fun i j hi hj => by
    have := num_in h (y := y * S + i) (x := x * S + j) (c := c) (by omega) (by omega) hc
    show -255 ≤ numV a d (y * S + i) (x * S + j) c - a.2.2.2 ∧ numV a d (y * S + i) (x * S + j) c - a.2.2.2 ≤ 255
    omega
  have cell : ∀ i j (m t : Int), i < k → j < k → -3000 ≤ t ∧ t ≤ 3000 → kern_pool_1_1 (i : Int) (j : Int) (paneV a d) (y : Int) n (x : Int) (c : Int) m t = some (max m (f i j), t + f i j) := fun i j m t hi hj ht => by
    have hfi := hf i j hi hj
    have e1 : IntKind.wrap .i64 (IntKind.wrap .i64 ((y : Int) * n.2.2.2.1) + (i : Int)) = ((y * S + i : Nat) : Int) := by
      rw [hS, show (y : Int) * (S : Int) = ((y * S : Nat) : Int) by simp, i64_in ((y * S : Nat) : Int) (by omega), i64_in _ (by omega)]
      omega
    have e2 : IntKind.wrap .i64 (IntKind.wrap .i64 ((x : Int) * n.2.2.2.1) + (j : Int)) = ((x * S + j : Nat) : Int) := by
      rw [hS, show (x : Int) * (S : Int) = ((x * S : Nat) : Int) by simp, i64_in ((x * S : Nat) : Int) (by omega), i64_in _ (by omega)]
      omega
    have g := pane_at_eq h (y := ((y * S + i : Nat) : Int)) (x := ((x * S + j : Nat) : Int)) (c := (c : Int)) (by omega) hc
    rw [at_num h (by omega) (by omega)] at g
    unfold kern_pool_1_1
    rw [e1, e2, g]
    simp only [Option.bind_some]
    rw [i64_in _ (show _ ≤ t + f i j ∧ t + f i j ≤ _ by omega)]
  -- a row of the window
  have row : ∀ i (m t : Int), i < k → -2000 ≤ t ∧ t ≤ 2000 → ∃ m' t', iterN (kern_slide_l4_p (k : Int) (paneV a d) (y : Int) n (x : Int) (c : Int) ((i : Int), m, t)) LL (0, m, t) = some ((k : Int), m', t') ∧ (m ≤ m' ∧ (∀ j, j < k → f i j ≤ m') ∧ (m' = m ∨ ∃ j, j < k ∧ m' = f i j) ∧ (∀ U, (∀ j, j < k → f i j ≤ U) → t' ≤ t + (k : Int) * U) ∧ (∀ L, (∀ j, j < k → L ≤ f i j) → t + (k : Int) * L ≤ t')) := fun i m t hi ht => by
    have := iterN_inv (p := kern_slide_l4_p (k : Int) (paneV a d) (y : Int) n (x : Int) (c : Int) ((i : Int), m, t)) (fun s : Int × Int × Int => ∃ q : Nat, s.1 = (q : Int) ∧ q ≤ k ∧ (-2000 - 255 * (q : Int) ≤ s.2.2 ∧ s.2.2 ≤ 2000 + 255 * (q : Int)) ∧ m ≤ s.2.1 ∧ (∀ j, j < q → f i j ≤ s.2.1) ∧ (s.2.1 = m ∨ ∃ j, j < k ∧ s.2.1 = f i j) ∧ (∀ U, (∀ j, j < k → f i j ≤ U) → s.2.2 ≤ t + (q : Int) * U) ∧ (∀ L, (∀ j, j < k → L ≤ f i j) → t + (q : Int) * L ≤ s.2.2))
      (fun s => k - s.1.toNat) (Q := fun z : Int × Int × Int => z.1 = (k : Int) ∧ m ≤ z.2.1 ∧ (∀ j, j < k → f i j ≤ z.2.1) ∧ (z.2.1 = m ∨ ∃ j, j < k ∧ z.2.1 = f i j) ∧ (∀ U, (∀ j, j < k → f i j ≤ U) → z.2.2 ≤ t + (k : Int) * U) ∧ (∀ L, (∀ j, j < k → L ≤ f i j) → t + (k : Int) * L ≤ z.2.2)) (fun s hs => by
        obtain ⟨q, a1, a2, a3, a4, a5, a6, a7, a8⟩ := hs
        obtain ⟨s0, s1, s2⟩ := s
        simp only at a1 a3 a4 a5 a6 a7 a8
        subst a1
        unfold kern_slide_l4_p
        by_cases hq : q < k
        · have t3 := i64_in ((q : Int) + 1) (by omega)
          rw [decide_eq_true (by simp only; omega : ((q : Int), s1, s2).1 < (k : Int)), cell i q s1 s2 hi hq (by omega)]
          simp only [cond_true, Option.bind_some, t3]
          have hfi := hf i q hi hq
          refine .inl ⟨_, rfl, ⟨q + 1, by simp only; omega, by omega, by simp only; omega, by simp only; omega, fun j hj => ?_, ?_, fun U hU => ?_, fun L hL => ?_⟩, by simp only; omega⟩
          · simp only
            by_cases hjq : j = q
            · subst hjq; omega
            · have := a5 j (by omega); omega
          · simp only
            by_cases hm : s1 ≤ f i q
            · exact .inr ⟨q, hq, by omega⟩
            · rcases a6 with a6 | ⟨j, j1, j2⟩
              · exact .inl (by omega)
              · exact .inr ⟨j, j1, by omega⟩
          · simp only
            have h1 := a7 U hU
            have h2 := hU q hq
            have : ((q + 1 : Nat) : Int) * U = (q : Int) * U + U := by rw [show ((q + 1 : Nat) : Int) = (q : Int) + 1 by omega, Int.add_mul, Int.one_mul]
            rw [this]; omega
          · simp only
            have h1 := a8 L hL
            have h2 := hL q hq
            have : ((q + 1 : Nat) : Int) * L = (q : Int) * L + L := by rw [show ((q + 1 : Nat) : Int) = (q : Int) + 1 by omega, Int.add_mul, Int.one_mul]
            rw [this]; omega
        · rw [decide_eq_false (by simp only; omega)]
          have : q = k := by omega
          subst this
          exact .inr ⟨_, rfl, rfl, a4, a5, a6, a7, a8⟩) LL (0, m, t) ⟨0, rfl, by omega, by simp only; omega, Int.le_refl _, fun j hj => absurd hj (by omega), .inl rfl, fun U _ => by simp only; omega, fun L _ => by simp only; omega⟩ (LL_lt (by simp only; omega))
    obtain ⟨⟨z0, z1, z2⟩, y1, y2, y3⟩ := this
    simp only at y2
    subst y2
    exact ⟨z1, z2, y1, y3⟩
  have := iterN_inv (p := kern_slide_l1_p (k : Int) (paneV a d) (y : Int) n (x : Int) (c : Int)) (fun s : Int × Int × Int => ∃ q : Nat, s.1 = (q : Int) ∧ q ≤ k ∧ (-255 * 3 * (q : Int) ≤ s.2.2 ∧ s.2.2 ≤ 255 * 3 * (q : Int)) ∧ -512 ≤ s.2.1 ∧ (∀ i j, i < q → j < k → f i j ≤ s.2.1) ∧ (s.2.1 = -512 ∨ ∃ i j, i < k ∧ j < k ∧ s.2.1 = f i j) ∧ (∀ U, (∀ i j, i < k → j < k → f i j ≤ U) → s.2.2 ≤ (q : Int) * ((k : Int) * U)) ∧ (∀ L, (∀ i j, i < k → j < k → L ≤ f i j) → (q : Int) * ((k : Int) * L) ≤ s.2.2))
    (fun s => k - s.1.toNat) (Q := fun z : Int × Int × Int => WinOK k f z.2.1 z.2.2) (fun s hs => by
      obtain ⟨q, a1, a2, a3, a4, a5, a6, a7, a8⟩ := hs
      obtain ⟨s0, s1, s2⟩ := s
      simp only at a1 a3 a4 a5 a6 a7 a8
      subst a1
      unfold kern_slide_l1_p
      by_cases hq : q < k
      · have t3 := i64_in ((q : Int) + 1) (by omega)
        obtain ⟨m', t', r1, r2, r3, r4, r5, r6⟩ := row q s1 s2 hq (by omega)
        have hb1 := r5 255 (fun j hj => (hf q j hq hj).2)
        have hb2 := r6 (-255) (fun j hj => (hf q j hq hj).1)
        rw [decide_eq_true (by simp only; omega : ((q : Int), s1, s2).1 < (k : Int)), r1]
        simp only [cond_true, Option.bind_some, t3]
        refine .inl ⟨_, rfl, ⟨q + 1, by simp only; omega, by omega, by simp only; omega, by simp only; omega, fun i j hi hj => ?_, ?_, fun U hU => ?_, fun L hL => ?_⟩, by simp only; omega⟩
        · simp only
          by_cases hiq : i = q
          · subst hiq; exact r3 j hj
          · have := a5 i j (by omega) hj; omega
        · simp only
          rcases r4 with r4 | ⟨j, j1, j2⟩
          · rw [r4]; exact a6
          · exact .inr ⟨q, j, hq, j1, j2⟩
        · simp only
          have h1 := a7 U hU
          have h2 := r5 U (fun j hj => hU q j hq hj)
          have : ((q + 1 : Nat) : Int) * ((k : Int) * U) = (q : Int) * ((k : Int) * U) + (k : Int) * U := by rw [show ((q + 1 : Nat) : Int) = (q : Int) + 1 by omega, Int.add_mul, Int.one_mul]
          rw [this]; omega
        · simp only
          have h1 := a8 L hL
          have h2 := r6 L (fun j hj => hL q j hq hj)
          have : ((q + 1 : Nat) : Int) * ((k : Int) * L) = (q : Int) * ((k : Int) * L) + (k : Int) * L := by rw [show ((q + 1 : Nat) : Int) = (q : Int) + 1 by omega, Int.add_mul, Int.one_mul]
          rw [this]; omega
      · rw [decide_eq_false (by simp only; omega)]
        have : q = k := by omega
        subst this
        refine .inr ⟨_, rfl, a5, ?_, fun U hU => by rw [Int.mul_assoc]; exact a7 U hU, fun L hL => by rw [Int.mul_assoc]; exact a8 L hL⟩
        rcases a6 with a6 | a6
        · have h1 := a5 0 0 (by omega) (by omega)
          have h2 := hf 0 0 (by omega) (by omega)
          omega
        · exact a6) LL (0, -512, 0) ⟨0, rfl, by omega, by simp only; omega, by simp only; omega, fun i j hi => absurd hi (by omega), .inl rfl, fun U _ => by simp only; omega, fun L _ => by simp only; omega⟩ (LL_lt (by simp only; omega))
  obtain ⟨⟨z0, z1, z2⟩, y1, y2⟩ := this
  refine ⟨z1, z2, ?_, y2⟩
  unfold kern_slide
  rw [y1]
  rfl
end Go.V.P
