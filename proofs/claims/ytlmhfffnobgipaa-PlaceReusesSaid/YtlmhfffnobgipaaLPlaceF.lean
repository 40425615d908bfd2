/- Plain laws of layer 17: what is known ahead of all statements. -/
import Derived.Test.YtlmhfffnobgipaaLPlace3
import Derived.Test.YtlmhfffnobgipaaLLess17
import Derived.Test.YtlmhfffnobgipaaPl3
namespace Go.V.P
open Go Go.V Go.IntWalk
set_option linter.unusedVariables false
set_option linter.unusedSimpArgs false
set_option maxRecDepth 20000
theorem shown17 : law17_shown = some true := by decide +kernel
theorem size_is (vals : List I4) (v : Nat) : ref02_Size ((gt vals (v : Int) dI4).1, (gt vals (v : Int) dI4).2.1, (gt vals (v : Int) dI4).2.2.1) = szV vals v := ref02_Size_eq _
/-- all that is asked of a graph that may be -/
structure Laid (m : Graph) (vals ls : List I4) : Prop where
  v : valuesV m = some vals
  e : valuesE m = (vals, 0)
  v3 : ref03_Values m = some (vals, 0)
  p : place_Places m = some (placesL ls, 0)
  l : place_Live m = some (liveR m, 0)
  t : place_Total m = some (totL ls, 0)
  ok : LotsOK m vals (m.1.length + m.2.1.length) ls
  s : SizesOK vals (m.1.length + m.2.1.length)
  vl : vals.length = m.1.length + m.2.1.length
  pl : (placesL ls).length = m.1.length + m.2.1.length
  ll : (liveR m).length = m.1.length + m.2.1.length
  n : 0 < m.1.length + m.2.1.length ∧ m.1.length + m.2.1.length ≤ 16
theorem laid_or (m : Graph) (hm : okGraph m) : (∃ vals ls, Laid m vals ls) ∨ ∃ e : Int, e ≠ 0 ∧ valuesE m = ([], e) ∧ ref03_Values m = some ([], e) ∧ place_Places m = some ([], e) ∧ place_Live m = some ([], e) ∧ place_Total m = some (0, e) := by
  rcases lots_eq m hm with ⟨vals, ls, hv, hE, hL, ok⟩ | ⟨_, e, he, hE, hL⟩
  · have hs := sizes_ok hm hv
    obtain ⟨hl, hb, _⟩ := values_in hv
    have hlive : livesE m = (liveR m, 0) := by unfold livesE; rw [hE]; rfl
    have h1000 : ls.length < 1000 := by rw [ok.len]; omega
    exact .inl ⟨vals, ls, hv, hE, by rw [ValuesE3 m hm, hE], Places_of hL h1000, by rw [Live_eq m hm, hlive], Total_of hL h1000, ok, hs, hl, by simp [placesL, ok.len], liveR_len m, by omega, by omega⟩
  · have hlive : livesE m = ([], e) := by unfold livesE; rw [hE]; simp only; rw [if_neg he]
    exact .inr ⟨e, he, hE, by rw [ValuesE3 m hm, hE], Places_of hL (by simp), by rw [Live_eq m hm, hlive], Total_of hL (by simp)⟩
end Go.V.P
