/- Plain laws of layer 17: PlaceAll. -/
import Derived.Test.YtlmhfffnobgipaaLPlace4
import Derived.Test.YtlmhfffnobgipaaPl6
namespace Go.V.P
open Go Go.V Go.IntWalk
set_option linter.unusedVariables false
set_option linter.unusedSimpArgs false
set_option maxRecDepth 20000
theorem ints_self (a : List Int) (ha : a.length < 1000000) : ref03_Ints a a = some true := by
  have := iterN_for (p := ref03_ints_l4_p a a) (z := .inl (a.length : Int)) a.length (fun i => (i : Int)) LL (LL_lt ha) (fun i hi => by
    simp only [ref03_ints_l4_p, ref03_ints_r6_p]
    rw [decide_eq_true (by omega : (i : Int) < (a.length : Int)), decide_eq_true (by omega : (0 : Int) ≤ (i : Int)), i64_in ((i : Int) + 1) (by omega), bne_self_eq_false]
    rfl) (by
    simp only [ref03_ints_l4_p]
    rw [decide_eq_false (Int.lt_irrefl _)]
    rfl)
  rw [show ((0 : Nat) : Int) = 0 from rfl] at this
  unfold ref03_Ints ref03_ints
  rw [bne_self_eq_false, this]
  rfl
theorem lives_self (a : List I2) (ha : a.length < 1000000) : ref17_SameLives a a = some true := by
  have := iterN_for (p := ref17_SameLives_l4_p a a) (z := .inl (a.length : Int)) a.length (fun i => (i : Int)) LL (LL_lt ha) (fun i hi => by
    simp only [ref17_SameLives_l4_p, ref17_SameLives_r6_p]
    rw [decide_eq_true (by omega : (i : Int) < (a.length : Int)), decide_eq_true (by omega : (0 : Int) ≤ (i : Int)), i64_in ((i : Int) + 1) (by omega), beq_self_eq_true, beq_self_eq_true]
    rfl) (by
    simp only [ref17_SameLives_l4_p]
    rw [decide_eq_false (Int.lt_irrefl _)]
    rfl)
  rw [show ((0 : Nat) : Int) = 0 from rfl] at this
  unfold ref17_SameLives
  rw [bne_self_eq_false, this]
  rfl
theorem PlaceAll_true (g : Graph) (_ : Ts.ok tsGraph g) : law17_PlaceAll g = some true := by
  obtain ⟨m, hm, hok⟩ := less17 g
  unfold law17_PlaceAll
  rw [shown17, hm]
  simp only [Option.bind_some]
  rw [Live17_eq m hok]
  rcases laid_or m hok with ⟨vals, ls, h⟩ | ⟨e, he, hE, hV, hP, hL, hT⟩
  · have hlive : livesE m = (liveR m, 0) := by unfold livesE; rw [h.e]; rfl
    rw [h.l, hlive, h.p, h.t, Places17 m hok vals ls h.e h.vl h.ok h.s h.n.2, Total17 m hok vals ls h.e h.vl h.ok h.s h.n.2]
    simp only [Option.bind_some]
    rw [lives_self _ (by rw [h.ll]; have := h.n; omega), ints_self _ (by rw [h.pl]; have := h.n; omega)]
    simp only [Option.bind_some, law17_PlaceAll_r11_p, law17_PlaceAll_r11_q, beq_self_eq_true, cond_true]
  · have hlive : livesE m = ([], e) := by unfold livesE; rw [hE]; simp only; rw [if_neg he]
    have hP17 : ref17_Places m = some ([], e) := by
      unfold ref17_Places
      rw [hV]
      simp only [Option.bind_some]
      rw [show (e != 0) = true by simpa using he]
      rfl
    have hT17 : ref17_Total m = some (0, e) := by
      unfold ref17_Total
      rw [hP17]
      simp only [Option.bind_some]
      rw [show (e != 0) = true by simpa using he]
      rfl
    rw [hL, hlive, hP, hT, hP17, hT17]
    simp only [Option.bind_some]
    rw [lives_self _ (by simp), ints_self _ (by simp)]
    simp only [Option.bind_some, law17_PlaceAll_r11_p, law17_PlaceAll_r11_q, beq_self_eq_true, cond_true]
end Go.V.P
