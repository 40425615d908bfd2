/- Plain laws of layer 17: places and how much is taken. -/
import Derived.Test.YtlmhfffnobgipaaLPlace2
import Derived.Test.YtlmhfffnobgipaaPl3
import Derived.Test.YtlmhfffnobgipaaPl5
namespace Go.V.P
open Go Go.V Go.IntWalk
set_option linter.unusedVariables false
set_option linter.unusedSimpArgs false
set_option maxRecDepth 20000
def placesL (ls : List I4) : List Int := ls.map fun l => l.2.2.1
def totL (ls : List I4) : Int := ls.foldl (fun m l => max m l.2.2.2) 0
def pV (ls : List I4) (v : Nat) : Int := (gt ls (v : Int) dI4).2.2.1
theorem placesL_get {ls : List I4} {v : Nat} (h : v < ls.length) : gt (placesL ls) (v : Int) 0 = pV ls v := by
  unfold pV gt placesL
  rw [show ((v : Int).toNat) = v by omega, List.getD_eq_getElem?_getD, List.getD_eq_getElem?_getD, List.getElem?_map, List.getElem?_eq_getElem h]
  rfl
theorem Places_of {g : Graph} {ls : List I4} {e : Int} (h : place_lots g = some (ls, e)) (hl : ls.length < 1000) : place_Places g = some (placesL ls, e) := by
  have := iterN_for (p := place_Places_l4_p (ls, e)) (z := (placesL ls, (ls.length : Int))) ls.length (fun i => (placesL (ls.take i), (i : Int))) LL (LL_lt (by omega)) (fun i hi => by
    have htk := take_snoc hi dI4
    simp only [place_Places_l4_p, place_Places_r5_p, place_Places_r6_p]
    rw [decide_eq_true (by omega : (i : Int) < (ls.length : Int)), decide_eq_true (by omega : (0 : Int) ≤ (i : Int)), decide_eq_true (by simp only [placesL, List.length_map, List.length_take, List.length_cons, List.length_nil]; unfold maxL; omega), i64_in ((i : Int) + 1) (by omega), htk]
    simp only [placesL, List.map_append]
    rfl) (by
    simp only [place_Places_l4_p]
    rw [decide_eq_false (Int.lt_irrefl _), List.take_length]
    rfl)
  unfold place_Places
  rw [h]
  simp only [Option.bind_some]
  rw [List.take_zero] at this
  have h00 : placesL [] = [] := rfl
  rw [h00] at this
  rw [show ((0 : Nat) : Int) = 0 from rfl] at this
  rw [this]
  rfl
theorem Total_of {g : Graph} {ls : List I4} {e : Int} (h : place_lots g = some (ls, e)) (hl : ls.length < 1000) : place_Total g = some (totL ls, e) := by
  have := iterN_for (p := place_Total_l4_p (ls, e)) (z := (totL ls, (ls.length : Int))) ls.length (fun i => (totL (ls.take i), (i : Int))) LL (LL_lt (by omega)) (fun i hi => by
    have htk := take_snoc hi dI4
    simp only [place_Total_l4_p, place_Total_r5_p]
    rw [decide_eq_true (by omega : (i : Int) < (ls.length : Int)), decide_eq_true (by omega : (0 : Int) ≤ (i : Int)), i64_in ((i : Int) + 1) (by omega), htk]
    simp only [totL, List.foldl_append]
    rfl) (by
    simp only [place_Total_l4_p]
    rw [decide_eq_false (Int.lt_irrefl _), List.take_length]
    rfl)
  unfold place_Total
  rw [h]
  simp only [Option.bind_some]
  rw [List.take_zero] at this
  have h00 : totL [] = 0 := rfl
  rw [h00] at this
  rw [show ((0 : Nat) : Int) = 0 from rfl] at this
  rw [this]
  rfl
theorem foldl_max : ∀ (ls : List I4) (m : Int), m ≤ ls.foldl (fun m l => max m l.2.2.2) m ∧ (∀ l ∈ ls, l.2.2.2 ≤ ls.foldl (fun m l => max m l.2.2.2) m) ∧ (ls.foldl (fun m l => max m l.2.2.2) m = m ∨ ∃ l ∈ ls, ls.foldl (fun m l => max m l.2.2.2) m = l.2.2.2)
  | [], m => ⟨Int.le_refl _, fun l hl => by simp at hl, .inl rfl⟩
  | x :: ls, m => by
    obtain ⟨h1, h2, h3⟩ := foldl_max ls (max m x.2.2.2)
    simp only [List.foldl_cons]
    refine ⟨by omega, fun l hl => ?_, ?_⟩
    · rcases List.mem_cons.1 hl with rfl | hl
      · omega
      · exact h2 l hl
    · rcases h3 with h3 | ⟨l, hl, h3⟩
      · rw [h3]
        by_cases hm : x.2.2.2 ≤ m
        · exact .inl (by omega)
        · exact .inr ⟨x, List.mem_cons_self, by omega⟩
      · exact .inr ⟨l, List.mem_cons_of_mem _ hl, h3⟩
theorem LotsOK.at_ {g : Graph} {vals : List I4} {v : Nat} {ls : List I4} (h : LotsOK g vals v ls) {u : Nat} (hu : u < v) : gt ls (u : Int) dI4 = ((liveV g (u : Int)).1, (liveV g (u : Int)).2, pV ls u, pV ls u + szV vals u) ∧ Least (ls.take u) (liveV g (u : Int)) (szV vals u) (pV ls u) ∧ pV ls u ≤ sumS vals u := by
  obtain ⟨a, h1, h2, h3⟩ := h.lot u hu
  have e : pV ls u = a := by unfold pV; rw [h1]
  rw [e]
  exact ⟨h1, h2, h3⟩
/-- two that live together do not meet -/
theorem LotsOK.apart {g : Graph} {vals : List I4} {n : Nat} {ls : List I4} (h : LotsOK g vals n ls) {u v : Nat} (huv : u < v) (hv : v < n) : ¬ confl (gt ls (u : Int) dI4) (liveV g (v : Int)) (pV ls v) (szV vals v) := by
  obtain ⟨_, h2, _⟩ := h.at_ hv
  have hm : gt ls (u : Int) dI4 ∈ ls.take v := by
    have : gt ls (u : Int) dI4 = gt (ls.take v) (u : Int) dI4 := by
      unfold gt
      rw [show ((u : Int).toNat) = u by omega, List.getD_eq_getElem?_getD, List.getD_eq_getElem?_getD, List.getElem?_take, if_pos huv]
    rw [this]
    exact gt_mem (by rw [List.length_take, h.len]; omega) dI4
  exact h2.2.1 _ hm
theorem LotsOK.tot {g : Graph} {vals : List I4} {n : Nat} {ls : List I4} (h : LotsOK g vals n ls) (hs : SizesOK vals n) (hn : n ≤ 40) (h0 : 0 < n) : (∀ v : Nat, v < n → pV ls v + szV vals v ≤ totL ls) ∧ totL ls ≤ sumS vals n ∧ ∃ v : Nat, v < n ∧ totL ls = pV ls v + szV vals v := by
  obtain ⟨_, h2, h3⟩ := foldl_max ls 0
  have hto : ∀ v : Nat, v < n → pV ls v + szV vals v ≤ totL ls := fun v hv => by
    have := h2 _ (gt_mem (i := v) (by rw [h.len]; exact hv) dI4)
    rw [(h.at_ hv).1] at this
    exact this
  have hex : ∃ v : Nat, v < n ∧ totL ls = pV ls v + szV vals v := by
    rcases h3 with h3 | ⟨l, hl, h3⟩
    · have a1 := hto 0 h0
      have a2 := hs 0 h0
      have a3 := (h.at_ h0).2.1.1
      have : totL ls = 0 := h3
      omega
    · obtain ⟨v, hv, e⟩ := mem_gt dI4 hl
      rw [h.len] at hv
      refine ⟨v, hv, ?_⟩
      have e2 : totL ls = l.2.2.2 := h3
      rw [e2, ← e, (h.at_ hv).1]
  refine ⟨hto, ?_, hex⟩
  obtain ⟨v, hv, e⟩ := hex
  rw [e]
  have a1 := (h.at_ hv).2.2
  have a2 := (sumS_mono hs (v := n) (Nat.le_refl _)).2.2 (v + 1) (by omega)
  simp only [sumS] at a2
  omega
end Go.V.P
