/- Plain laws of layer 10: what counts. -/
import Derived.Test.YtaehdmelnmajnaaSp0
namespace Go.V.P
open Go Go.V Go.IntWalk
set_option linter.unusedVariables false
set_option linter.unusedSimpArgs false
set_option maxRecDepth 20000
theorem shown10 : law10_shown = some true := by decide +kernel
/-- a number modulo 8 -/
def nd (x : Int) : Nat := (BitVec.ofInt (IntKind.bits .i64) x &&& BitVec.ofInt (IntKind.bits .i64) (7 : Int)).toNat
theorem nd_lt (x : Int) : nd x < 8 := by
  unfold nd
  rw [BitVec.toNat_and]
  have h : (BitVec.ofInt (IntKind.bits .i64) (7 : Int)).toNat = 7 := by decide
  rw [h]
  exact Nat.lt_of_le_of_lt Nat.and_le_right (by omega)
theorem and7 (x : Int) : IntKind.wrap .i64 ((BitVec.ofInt (IntKind.bits .i64) x &&& BitVec.ofInt (IntKind.bits .i64) (7 : Int)).toNat : Int) = (nd x : Int) := by
  have := nd_lt x
  exact i64_in (nd x : Int) (by omega)
def sig (cs : List Int) (k : Nat) : Int × List Int := if cs.getD k 0 = 15 then (22, cs) else (0, cs.set k (cs.getD k 0 + 1))
def wai (cs : List Int) (k : Nat) : Int × List Int := if cs.getD k 0 = 0 then (20, cs) else (0, cs.set k (cs.getD k 0 - 1))
theorem gt_nat {cs : List Int} {j : Nat} : gt cs (j : Int) 0 = cs.getD j 0 := by unfold gt; rw [show ((j : Int).toNat) = j by omega]
theorem signal_at (cs : List Int) {k : Nat} (h : k < 8) : semSignal cs (k : Int) = some (sig cs k) := by
  have hin : semIn (k : Int) = true := decide_eq_true (by omega)
  unfold semSignal semSignalL sig
  rw [hin, gt_nat]
  by_cases h15 : cs.getD k 0 = 15
  · rw [if_pos h15, h15]; rfl
  · rw [if_neg h15, show (cs.getD k 0 == 15) = false by simpa using h15, show ((k : Int).toNat) = k by omega]; rfl
theorem wait_at (cs : List Int) {k : Nat} (h : k < 8) : semWait cs (k : Int) = some (wai cs k) := by
  have hin : semIn (k : Int) = true := decide_eq_true (by omega)
  unfold semWait semWaitL wai
  rw [hin, gt_nat]
  by_cases h15 : cs.getD k 0 = 0
  · rw [if_pos h15, h15]; rfl
  · rw [if_neg h15, show (cs.getD k 0 == 0) = false by simpa using h15, show ((k : Int).toNat) = k by omega]; rfl
theorem count_at (cs : List Int) {k : Nat} (h : k < 8) : semCount cs (k : Int) = some (cs.getD k 0) := by
  have hin : semIn (k : Int) = true := decide_eq_true (by omega)
  unfold semCount
  rw [hin, gt_nat]
  rfl
theorem getD_set {cs : List Int} {k j : Nat} {v : Int} (h : k < cs.length) : (cs.set k v).getD j 0 = if j = k then v else cs.getD j 0 := by
  rw [List.getD_eq_getElem?_getD, List.getD_eq_getElem?_getD, List.getElem?_set]
  by_cases e : k = j
  · subst e
    rw [if_pos rfl, if_pos h, if_pos rfl]; rfl
  · rw [if_neg e, if_neg (fun q => e q.symm)]
theorem sig_len {cs : List Int} {k : Nat} : (sig cs k).2.length = cs.length := by unfold sig; split <;> simp
theorem wai_len {cs : List Int} {k : Nat} : (wai cs k).2.length = cs.length := by unfold wai; split <;> simp
theorem sig_get {cs : List Int} {k j : Nat} (h : k < cs.length) : (sig cs k).2.getD j 0 = if j = k then (if cs.getD k 0 = 15 then 15 else cs.getD k 0 + 1) else cs.getD j 0 := by
  unfold sig
  by_cases h15 : cs.getD k 0 = 15
  · rw [if_pos h15, if_pos h15]
    by_cases e : j = k
    · rw [if_pos e, e]; exact h15
    · rw [if_neg e]
  · rw [if_neg h15, if_neg h15]; exact getD_set h
theorem wai_get {cs : List Int} {k j : Nat} (h : k < cs.length) : (wai cs k).2.getD j 0 = if j = k then (if cs.getD k 0 = 0 then 0 else cs.getD k 0 - 1) else cs.getD j 0 := by
  unfold wai
  by_cases h15 : cs.getD k 0 = 0
  · rw [if_pos h15, if_pos h15]
    by_cases e : j = k
    · rw [if_pos e, e]; exact h15
    · rw [if_neg e]
  · rw [if_neg h15, if_neg h15]; exact getD_set h
theorem sig_err {cs : List Int} {k : Nat} : (sig cs k).1 = if cs.getD k 0 = 15 then 22 else 0 := by unfold sig; split <;> rfl
theorem wai_err {cs : List Int} {k : Nat} : (wai cs k).1 = if cs.getD k 0 = 0 then 20 else 0 := by unfold wai; split <;> rfl
/-- eight counts, each of 0 to 15 -/
def CsOK (cs : List Int) : Prop := cs.length = 8 ∧ ∀ k : Nat, k < 8 → 0 ≤ cs.getD k 0 ∧ cs.getD k 0 ≤ 15
theorem CsOK.sig {cs : List Int} (h : CsOK cs) {k : Nat} (hk : k < 8) : CsOK (sig cs k).2 := by
  refine ⟨by rw [sig_len]; exact h.1, fun j hj => ?_⟩
  rw [sig_get (by rw [h.1]; exact hk)]
  have h1 := h.2 k hk
  have h2 := h.2 j hj
  split
  · split <;> omega
  · exact h2
theorem CsOK.wai {cs : List Int} (h : CsOK cs) {k : Nat} (hk : k < 8) : CsOK (wai cs k).2 := by
  refine ⟨by rw [wai_len]; exact h.1, fun j hj => ?_⟩
  rw [wai_get (by rw [h.1]; exact hk)]
  have h1 := h.2 k hk
  have h2 := h.2 j hj
  split
  · split <;> omega
  · exact h2
def zs : List Int := [0, 0, 0, 0, 0, 0, 0, 0]
theorem new_is : semNew = some zs := rfl
theorem zs_get {k : Nat} : zs.getD k 0 = 0 := by
  by_cases h : k < 8
  · rcases (by omega : k = 0 ∨ k = 1 ∨ k = 2 ∨ k = 3 ∨ k = 4 ∨ k = 5 ∨ k = 6 ∨ k = 7) with rfl | rfl | rfl | rfl | rfl | rfl | rfl | rfl <;> rfl
  · rw [List.getD_eq_getElem?_getD, List.getElem?_eq_none (by show 8 ≤ k; omega)]; rfl
theorem zs_ok : CsOK zs := ⟨rfl, fun k _ => by rw [zs_get]; omega⟩
theorem cs_ext {a b : List Int} (ha : a.length = 8) (hb : b.length = 8) (h : ∀ k : Nat, k < 8 → a.getD k 0 = b.getD k 0) : a = b := by
  apply List.ext_getElem (by omega)
  intro j h1 h2
  have := h j (by omega)
  rw [List.getD_eq_getElem?_getD, List.getD_eq_getElem?_getD, List.getElem?_eq_getElem h1, List.getElem?_eq_getElem h2] at this
  exact this
end Go.V.P
