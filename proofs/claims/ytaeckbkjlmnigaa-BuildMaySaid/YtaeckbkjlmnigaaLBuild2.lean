/- Plain laws of layer 19: which commands there are. -/
import Derived.Test.YtaeckbkjlmnigaaLBuild1
import Derived.Test.YtaeckbkjlmnigaaLBLess
import Derived.Test.YtaeckbkjlmnigaaBm1
namespace Go.V.P
open Go Go.V Go.IntWalk
set_option linter.unusedVariables false
set_option linter.unusedSimpArgs false
set_option maxRecDepth 20000
theorem shown19 : law19_shown = some true := by decide +kernel
theorem tlC_is (n : Node) (node : Int) (inn : List I4) (f : I2) (pad p0 p1 : Int) : (tlC n node inn f pad p0 p1).1 = 3 ∧ (tlC n node inn f pad p0 p1).2.2.1 = node ∧ (tlC n node inn f pad p0 p1).2.2.2.1 = f.1 ∧ (tlC n node inn f pad p0 p1).2.2.2.2.1 = f.2 := by
  unfold tlC
  split <;> exact ⟨rfl, rfl, rfl, rfl⟩
def isTl (j : Int) (c : I14) : Bool := c.1 == 3 && c.2.2.1 == j
def isKn (j : Int) (c : I14) : Bool := c.1 == 4 && c.2.2.1 == j
def plainC (c : I14) : Bool := !(c.1 == 3) && !(c.1 == 4)
theorem plain_T {l : List I14} (h : l.all plainC = true) (j : Int) : l.any (isTl j) = false ∧ l.countP (isKn j) = 0 := by
  rw [List.all_eq_true] at h
  constructor
  · rw [Bool.eq_false_iff]
    intro hc
    obtain ⟨c, h1, h2⟩ := List.any_eq_true.1 hc
    have := h c h1
    simp only [plainC, isTl, Bool.and_eq_true, Bool.not_eq_true'] at this h2
    rw [h2.1] at this
    cases this.1
  · rw [List.countP_eq_zero]
    intro c h1 h2
    have := h c h1
    simp only [plainC, isKn, Bool.and_eq_true, Bool.not_eq_true'] at this h2
    rw [h2.1] at this
    cases this.2
section
variable {n : Node} {inn : List I4} {places : List Int} {tiles : List I2} {b : I7} {z : I4}
theorem loadC_plain (t : Int) : (loadC n inn places tiles b t).all plainC = true := by
  unfold loadC ldsC
  split
  · rfl
  · split <;> rfl
theorem dmaS_plain (to : Int) : ∀ t, (dmaS n inn places tiles b to z t).all plainC = true
  | 0 => by
    simp only [dmaS, List.all_append, loadC_plain, Bool.and_self]
  | t + 1 => by
    simp only [dmaS, List.all_append, loadC_plain, dmaS_plain to t, Bool.and_true, Bool.true_and]
    rfl
theorem engS_any (i j : Int) : ∀ t, (engS n inn tiles b i t).any (isTl j) = (decide (0 < t) && i == j)
  | 0 => by simp [engS]
  | t + 1 => by
    have h := tlC_is n i inn (gt tiles (t : Int) dI2) (par (t : Int) b.2.2.2.2.1 b.2.2.2.2.2.1) (par (t : Int) b.1 b.2.1) (par (t : Int) b.2.2.1 b.2.2.2.1)
    have h1 : isTl j (tlT n inn tiles b i t) = (i == j) := by
      unfold isTl tlT
      rw [h.1, h.2.1]
      rfl
    have w0 : isTl j (wt 0) = false := rfl
    have w2 : isTl j (wt 2) = false := rfl
    have s1 : isTl j (sg 1) = false := rfl
    simp only [engS]
    split <;> simp only [List.any_append, List.any_cons, List.any_nil, engS_any i j t, h1, w0, w2, s1, Bool.or_false] <;> cases (i == j) <;> simp
theorem engS_noK (i j : Int) : ∀ t, (engS n inn tiles b i t).countP (isKn j) = 0
  | 0 => by simp [engS]
  | t + 1 => by
    have h := tlC_is n i inn (gt tiles (t : Int) dI2) (par (t : Int) b.2.2.2.2.1 b.2.2.2.2.2.1) (par (t : Int) b.1 b.2.1) (par (t : Int) b.2.2.1 b.2.2.2.1)
    have h1 : isKn j (tlT n inn tiles b i t) = false := by
      unfold isKn tlT
      rw [h.1]
      rfl
    have w0 : isKn j (wt 0) = false := rfl
    have w2 : isKn j (wt 2) = false := rfl
    have s1 : isKn j (sg 1) = false := rfl
    simp only [engS]
    split <;> simp [List.countP_append, List.countP_cons, engS_noK i j t, h1, w0, w2, s1]
end
def tiledB (g : Graph) (vals : List I4) (i : Nat) : Bool := bestV (gt g.2.1 (i : Int) dNode) (innV g vals i) != 0
section
variable {g : Graph} {vals : List I4} {places : List Int}
theorem node_T (hg : okGraph g) (hv : valuesV g = some vals) (hp : places.length = vals.length) {i : Nat} (hi : i < g.2.1.length) (j : Int) :
    (nodeG g vals places i).1.all plainC = true ∧ (nodeG g vals places i).2.1.any (isTl j) = (tiledB g vals i && (i : Int) == j) ∧ (nodeG g vals places i).2.2.any (isTl j) = false ∧
    (nodeG g vals places i).2.2.countP (isKn j) = if tiledB g vals i = false ∧ (i : Int) = j then 1 else 0 := by
  have hA := node_at (places := places) hg hv hp hi
  obtain ⟨_, b2⟩ := best_V hA.hl hA.ok.2.2 hA.val
  unfold nodeG nodeC tiledB
  rcases b2 with h0 | hT
  · rw [if_pos h0, h0]
    refine ⟨rfl, rfl, rfl, ?_⟩
    simp only [hostC, bne_self_eq_false, true_and]
    have w3 : isKn j (wt 3) = false := rfl
    have s4 : isKn j (sg 4) = false := rfl
    have k : isKn j ((4 : Int), (0 : Int), (i : Int), (0 : Int), (gt vals ((g.1.length + i : Nat) : Int) dI4).1, (0 : Int), (0 : Int), (0 : Int), (0 : Int), (0 : Int), (0 : Int), (0 : Int), (0 : Int), (0 : Int)) = ((i : Int) == j) := rfl
    simp only [List.countP_cons, List.countP_nil, w3, s4, k]
    by_cases hij : (i : Int) = j
    · simp [hij]
    · simp [hij]
  · have hne : bestV (gt g.2.1 (i : Int) dNode) (innV g vals i) ≠ 0 := by have := hT.best; omega
    rw [if_neg hne]
    have hb : (bestV (gt g.2.1 (i : Int) dNode) (innV g vals i) != 0) = true := by simpa using hne
    rw [hb]
    have hlen : 0 < (tilesV (gt vals ((g.1.length + i : Nat) : Int) dI4) (gt g.2.1 (i : Int) dNode) (innV g vals i)).length := List.length_pos_of_mem hT.most.first
    refine ⟨dmaS_plain _ _, ?_, rfl, ?_⟩
    · simp only [streamsC, List.any_append, engS_any, Bool.true_and]
      rw [decide_eq_true hlen]
      have : (List.replicate (min (tilesV (gt vals ((g.1.length + i : Nat) : Int) dI4) (gt g.2.1 (i : Int) dNode) (innV g vals i)).length 2) (wt 2)).any (isTl j) = false := by
        rw [Bool.eq_false_iff]
        intro hc
        obtain ⟨c, h1, h2⟩ := List.any_eq_true.1 hc
        obtain ⟨_, rfl⟩ := List.mem_replicate.1 h1
        cases h2
      rw [this]
      simp
    · rw [if_neg (by simp)]
      rfl
theorem strS_T (hg : okGraph g) (hv : valuesV g = some vals) (hp : places.length = vals.length) (j : Nat) : ∀ k : Nat, k ≤ g.2.1.length →
    (strS g vals places k).1.all plainC = true ∧ (strS g vals places k).2.1.any (isTl (j : Int)) = (tiledB g vals j && decide (j < k)) ∧ (strS g vals places k).2.2.any (isTl (j : Int)) = false ∧
    (strS g vals places k).2.2.countP (isKn (j : Int)) = if tiledB g vals j = false ∧ j < k then 1 else 0
  | 0, _ => by simp [strS]
  | k + 1, hk => by
    obtain ⟨h1, h2, h3, h4⟩ := strS_T hg hv hp j k (by omega)
    obtain ⟨n1, n2, n3, n4⟩ := node_T (places := places) hg hv hp (i := k) (by omega) (j : Int)
    simp only [strS, List.all_append, List.any_append, List.countP_append, h1, h2, h3, h4, n1, n2, n3, n4, Bool.and_self, Bool.or_self, true_and]
    by_cases hkj : k = j
    · subst hkj
      refine ⟨?_, ?_⟩
      · cases tiledB g vals k <;> simp
      · cases tiledB g vals k <;> simp
    · have e1 : ((k : Int) == (j : Int)) = false := by simp; omega
      have e2 : decide (j < k + 1) = decide (j < k) := by
        by_cases h : j < k
        · rw [decide_eq_true h, decide_eq_true (by omega)]
        · rw [decide_eq_false h, decide_eq_false (by omega)]
      have e3 : ¬ ((k : Int) = (j : Int)) := by omega
      rw [e1, e2]
      refine ⟨by simp, ?_⟩
      have e4 : (if tiledB g vals k = false ∧ (k : Int) = (j : Int) then 1 else 0) = 0 := if_neg fun h => e3 h.2
      rw [e4, Nat.add_zero]
      by_cases h : tiledB g vals j = false ∧ j < k
      · rw [if_pos h, if_pos ⟨h.1, by omega⟩]
      · rw [if_neg h, if_neg (fun h' => h ⟨h'.1, by omega⟩)]
end
theorem tiledC_get (n : Nat) : ∀ (xs : List C14) (j : Nat), j < n → gt (tiledC n xs) (j : Int) false = xs.any (isTl (j : Int)) := by
  intro xs j hj
  have key : ∀ (xs : List C14) (l : List Bool), l.length = n → gt (xs.foldl tileC l) (j : Int) false = (gt l (j : Int) false || xs.any (isTl (j : Int))) := by
    intro xs
    induction xs with
    | nil => intro l hl; simp
    | cons x xs ih =>
      intro l hl
      rw [List.foldl_cons, ih _ (by rw [tileC_length, hl]), List.any_cons, ← Bool.or_assoc]
      congr 1
      have g1 : ∀ l : List Bool, gt l (j : Int) false = l.getD j false := fun l => by unfold gt; rw [show ((j : Int).toNat) = j by omega]
      rw [g1, g1, List.getD_eq_getElem?_getD, List.getD_eq_getElem?_getD]
      by_cases hc : x.1 = 3 ∧ 0 ≤ x.2.2.1 ∧ x.2.2.1 < l.length
      · rw [show tileC l x = l.set x.2.2.1.toNat true from if_pos hc, List.getElem?_set]
        by_cases he : x.2.2.1.toNat = j
        · have : isTl (j : Int) x = true := by
            unfold isTl
            rw [hc.1, show x.2.2.1 = (j : Int) by omega]
            simp
          rw [if_pos he, if_pos (by omega), this]
          simp
        · have : isTl (j : Int) x = false := by
            unfold isTl
            rw [show (x.2.2.1 == (j : Int)) = false by simp; omega, Bool.and_false]
          rw [if_neg he, this, Bool.or_false]
      · rw [show tileC l x = l from if_neg hc]
        have : isTl (j : Int) x = false := by
          unfold isTl
          by_cases h3 : x.1 = 3
          · have : x.2.2.1 ≠ (j : Int) := fun e => hc ⟨h3, by omega, by omega⟩
            rw [show (x.2.2.1 == (j : Int)) = false by simpa using this, Bool.and_false]
          · rw [show (x.1 == 3) = false by simpa using h3, Bool.false_and]
        rw [this, Bool.or_false]
  have := key xs (List.replicate n false) (by simp)
  rw [show gt (List.replicate n false) (j : Int) false = false by
    unfold gt
    rw [List.getD_eq_getElem?_getD, List.getElem?_replicate]
    split <;> rfl] at this
  rw [Bool.false_or] at this
  exact this
end Go.V.P
