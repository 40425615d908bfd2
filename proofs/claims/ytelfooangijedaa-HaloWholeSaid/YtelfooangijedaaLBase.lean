/- Plain helps for the laws: ranges that are looked through, masks, rounding, loops. -/
import Derived.Test.YtelfooangijedaaArgs
import Derived.IntWalk
namespace Go.V.P
open Go Go.V Go.IntWalk
set_option linter.unusedVariables false

/-! ### Answers -/
def isT : Option Bool → Bool
  | some true => true
  | _ => false
theorem isT_eq {x : Option Bool} (h : isT x = true) : x = some true := by
  unfold isT at h
  split at h
  · rfl
  · cases h
theorem all_range {p : Int → Bool} {a : Int} {n : Nat} (h : (List.range n).all (fun i => p (a + (i : Int))) = true) {x : Int} (h1 : a ≤ x) (h2 : x < a + n) : p x = true := by
  rw [List.all_eq_true] at h
  have := h (x - a).toNat (List.mem_range.2 (by omega))
  rwa [show a + ((x - a).toNat : Int) = x by omega] at this
theorem all_range2 {p : Int → Int → Bool} {a b : Int} {n m : Nat} (h : (List.range n).all (fun i => (List.range m).all fun j => p (a + (i : Int)) (b + (j : Int))) = true) {x y : Int} (h1 : a ≤ x) (h2 : x < a + n) (h3 : b ≤ y) (h4 : y < b + m) : p x y = true :=
  all_range (p := fun y => p x y) (all_range (p := fun x => (List.range m).all fun j => p x (b + (j : Int))) h h1 h2) h3 h4

/-! ### Masks -/
theorem and_le (x : Int) (m : Nat) (hm : m < 2 ^ 63) : ∃ n : Int, IntKind.wrap .i64 ((BitVec.ofInt (IntKind.bits .i64) x &&& BitVec.ofInt (IntKind.bits .i64) (m : Int)).toNat : Int) = n ∧ 0 ≤ n ∧ n ≤ m := by
  have h1 : (BitVec.ofInt 64 x &&& BitVec.ofInt 64 (m : Int)).toNat ≤ m := by
    rw [BitVec.toNat_and]
    refine Nat.le_trans Nat.and_le_right ?_
    rw [BitVec.toNat_ofInt]
    have : ((m : Int) % (2 ^ 64 : Nat)).toNat = m := by omega
    rw [this]
    exact Nat.le_refl _
  refine ⟨_, i64_in _ ?_, ?_, ?_⟩
  · show _ ≤ (((BitVec.ofInt 64 x &&& BitVec.ofInt 64 (m : Int)).toNat : Nat) : Int) ∧ (((BitVec.ofInt 64 x &&& BitVec.ofInt 64 (m : Int)).toNat : Nat) : Int) ≤ _
    omega
  · omega
  · show (((BitVec.ofInt 64 x &&& BitVec.ofInt 64 (m : Int)).toNat : Nat) : Int) ≤ _
    omega
theorem u8_in (n : Int) (h : 0 ≤ n ∧ n ≤ 255) : IntKind.wrap .u8 n = n := by
  have h2 : IntKind.wrap .u8 n = n % 256 := rfl
  rw [h2]; omega
theorem and8_le (x : Int) (m : Nat) (hm : m < 256) : ∃ n : Int, IntKind.wrap .u8 ((BitVec.ofInt (IntKind.bits .u8) x &&& BitVec.ofInt (IntKind.bits .u8) (m : Int)).toNat : Int) = n ∧ 0 ≤ n ∧ n ≤ m := by
  have h1 : (BitVec.ofInt 8 x &&& BitVec.ofInt 8 (m : Int)).toNat ≤ m := by
    rw [BitVec.toNat_and]
    refine Nat.le_trans Nat.and_le_right ?_
    rw [BitVec.toNat_ofInt]
    have : ((m : Int) % (2 ^ 8 : Nat)).toNat = m := by omega
    rw [this]
    exact Nat.le_refl _
  refine ⟨_, u8_in _ ?_, ?_, ?_⟩
  · show _ ≤ (((BitVec.ofInt 8 x &&& BitVec.ofInt 8 (m : Int)).toNat : Nat) : Int) ∧ (((BitVec.ofInt 8 x &&& BitVec.ofInt 8 (m : Int)).toNat : Nat) : Int) ≤ _
    omega
  · omega
  · show (((BitVec.ofInt 8 x &&& BitVec.ofInt 8 (m : Int)).toNat : Nat) : Int) ≤ _
    omega

/-! ### Rounding -/
/-- a quotient, rounded to the nearest -/
def rnd (x y : Int) : Int := if x < 0 then -((-x + y / 2) / y) else (x + y / 2) / y
theorem half_zero {b : Int} (hb : 1 ≤ b) : b / 2 / b = 0 := Int.ediv_eq_zero_of_lt (by omega) (by omega)
theorem rnd_zero {b : Int} (hb : 1 ≤ b) : rnd 0 b = 0 := by
  unfold rnd
  rw [if_neg (by omega), Int.zero_add, half_zero hb]
theorem rnd_neg {x b : Int} (hb : 1 ≤ b) : rnd (-x) b = -rnd x b := by
  rcases Int.lt_trichotomy x 0 with h | h | h
  · unfold rnd
    rw [if_neg (by omega), if_pos h, Int.neg_neg]
  · subst h; rw [Int.neg_zero, rnd_zero hb]; rfl
  · unfold rnd
    rw [if_pos (by omega), if_neg (by omega), Int.neg_neg]
theorem rnd_pos_add {x k b : Int} (hb : 1 ≤ b) (hx : 0 ≤ x) (hk : 0 ≤ k) : rnd (x + k * b) b = rnd x b + k := by
  have h : 0 ≤ k * b := Int.mul_nonneg hk (by omega)
  unfold rnd
  rw [if_neg (by omega), if_neg (by omega), show x + k * b + b / 2 = (x + b / 2) + k * b by omega, Int.add_mul_ediv_right _ _ (by omega)]
theorem rnd_mul {x b : Int} (hb : 1 ≤ b) : rnd (x * b) b = x := by
  by_cases hx : x < 0
  · have := rnd_pos_add (x := 0) (k := -x) hb (Int.le_refl 0) (by omega)
    rw [Int.zero_add, rnd_zero hb, Int.zero_add, Int.neg_mul, rnd_neg hb] at this
    omega
  · have := rnd_pos_add (x := 0) (k := x) hb (Int.le_refl 0) (by omega)
    rwa [Int.zero_add, rnd_zero hb, Int.zero_add] at this
theorem rnd_one {x : Int} : rnd x 1 = x := by have := rnd_mul (x := x) (b := 1) (by omega); rwa [Int.mul_one] at this
theorem rnd_abs {x b c : Int} (hb : 1 ≤ b) (h1 : -c ≤ x) (h2 : x ≤ c) : -(c + b) ≤ rnd x b ∧ rnd x b ≤ c + b := by
  unfold rnd
  by_cases hx : x < 0
  · rw [if_pos hx]
    have h3 : 0 ≤ (-x + b / 2) / b := Int.ediv_nonneg (by omega) (by omega)
    have h4 : (-x + b / 2) / b ≤ -x + b / 2 := Int.ediv_le_self _ (by omega)
    omega
  · rw [if_neg hx]
    have h3 : 0 ≤ (x + b / 2) / b := Int.ediv_nonneg (by omega) (by omega)
    have h4 : (x + b / 2) / b ≤ x + b / 2 := Int.ediv_le_self _ (by omega)
    omega
theorem tmod_lt {x m : Int} (hm : 0 < m) : -m < Int.tmod x m ∧ Int.tmod x m < m := ⟨Int.lt_tmod_of_pos x hm, Int.tmod_lt_of_pos x hm⟩

/-! ### Loops -/
/-- a loop that counts to its end: what holds at the beginning and is kept by each round holds at the end -/
theorem iterN_inv {σ ζ : Type} {p : σ → Option (σ ⊕ ζ)} (I : σ → Prop) (μ : σ → Nat) {Q : ζ → Prop}
    (h : ∀ s, I s → (∃ s', p s = some (.inl s') ∧ I s' ∧ μ s' < μ s) ∨ (∃ z, p s = some (.inr z) ∧ Q z)) : ∀ (n : Nat) (s : σ), I s → μ s < n → ∃ z, iterN p n s = some z ∧ Q z
  | 0, s, _, hn => absurd hn (Nat.not_lt_zero _)
  | n + 1, s, hi, hn => by
    simp only [iterN]
    rcases h s hi with ⟨s', h1, h2, h3⟩ | ⟨z, h1, h2⟩
    · rw [h1]
      exact iterN_inv I μ h n s' h2 (by omega)
    · rw [h1]
      exact ⟨z, rfl, h2⟩
/-- a loop whose rounds are told one by one -/
theorem iterN_for {σ ζ : Type} {p : σ → Option (σ ⊕ ζ)} {z : ζ} : ∀ (n : Nat) (st : Nat → σ) (m : Nat), n < m → (∀ i, i < n → p (st i) = some (.inl (st (i + 1)))) → p (st n) = some (.inr z) → iterN p m (st 0) = some z
  | 0, st, m + 1, _, _, he => by
    simp only [iterN]
    rw [he]
    rfl
  | n + 1, st, m + 1, hm, hs, he => by
    simp only [iterN]
    rw [hs 0 (by omega)]
    exact iterN_for n (fun i => st (i + 1)) m (by omega) (fun i hi => hs (i + 1) (by omega)) he
  | _, _, 0, hm, _, _ => absurd hm (Nat.not_lt_zero _)
theorem LL_lt {n : Nat} (h : n < 1000000) : n < LL := h
theorem mul_in' {a b c d : Int} (h1 : 0 ≤ a) (h2 : a ≤ c) (h3 : 0 ≤ b) (h4 : b ≤ d) : 0 ≤ a * b ∧ a * b ≤ c * d :=
  ⟨Int.mul_nonneg h1 h3, Int.mul_le_mul h2 h4 h3 (by omega)⟩
end Go.V.P
