/- Plain laws of layer 17, for layers above: places. -/
import Derived.Test.YtaeckbkjlmnigaaLPlace2
import Derived.Test.YtaeckbkjlmnigaaBm0
namespace Go.V.P
open Go Go.V Go.IntWalk
set_option linter.unusedVariables false
set_option linter.unusedSimpArgs false
set_option maxRecDepth 20000
def placesL (ls : List I4) : List Int := ls.map fun l => l.2.2.1
def pV (ls : List I4) (v : Nat) : Int := (gt ls (v : Int) dI4).2.2.1
theorem placesL_get {ls : List I4} {v : Nat} (h : v < ls.length) : gt (placesL ls) (v : Int) 0 = pV ls v := by
  unfold pV gt placesL
  rw [show ((v : Int).toNat) = v by omega, List.getD_eq_getElem?_getD, List.getD_eq_getElem?_getD, List.getElem?_map, List.getElem?_eq_getElem h]
  rfl
theorem Places_of {g : Graph} {ls : List I4} {e : Int} (h : place_lots g = some (ls, e)) (hl : ls.length < 1000) : place_Places g = some (placesL ls, e) := by
  have := iterN_for (p := place_Places_l4_p (ls, e)) (z := (placesL ls, (ls.length : Int))) ls.length (fun i => (placesL (ls.take i), (i : Int))) LL (LL_lt (by omega)) (fun i hi => by
    have htk := take_snoc hi dI4
    simp only [place_Places_l4_p, place_Places_r5_p, place_Places_r6_p]
    rw [decide_eq_true (by omega : (i : Int) < (ls.length : Int)), decide_eq_true (by omega : (0 : Int) ≤ (i : Int)), decide_eq_true (by simp only [placesL, List.length_map, List.length_take, List.length_cons, List.length_nil]; unfold maxL; omega), i64_in ((i : Int) + 1) (by omega), htk]
    simp only [placesL, List.map_append]
    rfl) (by
    simp only [place_Places_l4_p]
    rw [decide_eq_false (Int.lt_irrefl _), List.take_length]
    rfl)
  unfold place_Places
  rw [h]
  simp only [Option.bind_some]
  rw [List.take_zero] at this
  have h00 : placesL [] = [] := rfl
  rw [h00] at this
  rw [show ((0 : Nat) : Int) = 0 from rfl] at this
  rw [this]
  rfl
theorem LotsOK.at_ {g : Graph} {vals : List I4} {v : Nat} {ls : List I4} (h : LotsOK g vals v ls) {u : Nat} (hu : u < v) : gt ls (u : Int) dI4 = ((liveV g (u : Int)).1, (liveV g (u : Int)).2, pV ls u, pV ls u + szP vals u) ∧ Least (ls.take u) (liveV g (u : Int)) (szP vals u) (pV ls u) ∧ pV ls u ≤ sumS vals u := by
  obtain ⟨a, h1, h2, h3⟩ := h.lot u hu
  have e : pV ls u = a := by unfold pV; rw [h1]
  rw [e]
  exact ⟨h1, h2, h3⟩
theorem LotsOK.apart {g : Graph} {vals : List I4} {n : Nat} {ls : List I4} (h : LotsOK g vals n ls) {u v : Nat} (huv : u < v) (hv : v < n) : ¬ confl (gt ls (u : Int) dI4) (liveV g (v : Int)) (pV ls v) (szP vals v) := by
  obtain ⟨_, h2, _⟩ := h.at_ hv
  have hm : gt ls (u : Int) dI4 ∈ ls.take v := by
    have : gt ls (u : Int) dI4 = gt (ls.take v) (u : Int) dI4 := by
      unfold gt
      rw [show ((u : Int).toNat) = u by omega, List.getD_eq_getElem?_getD, List.getD_eq_getElem?_getD, List.getElem?_take, if_pos huv]
    rw [this]
    exact gt_memR (by rw [List.length_take, h.len]; omega) dI4
  exact h2.2.1 _ hm
end Go.V.P
