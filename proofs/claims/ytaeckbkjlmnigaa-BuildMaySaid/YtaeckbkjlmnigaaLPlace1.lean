/- Plain laws of layer 17: how long values live. -/
import Derived.Test.YtaeckbkjlmnigaaLErrE
import Derived.Test.YtaeckbkjlmnigaaLRunIn
import Derived.Test.YtaeckbkjlmnigaaBm0
namespace Go.V.P
open Go Go.V Go.IntWalk
set_option linter.unusedVariables false
set_option linter.unusedSimpArgs false
set_option maxRecDepth 20000
def liveV (g : Graph) (v : Int) : I2 := (max (v - (g.1.length : Int)) (-1), max (max (v - (g.1.length : Int)) (-1)) (lastV g v))
def liveR (g : Graph) : List I2 := (List.range (g.1.length + g.2.1.length)).map fun (j : Nat) => liveV g (j : Int)
theorem liveR_len (g : Graph) : (liveR g).length = g.1.length + g.2.1.length := by simp [liveR]
theorem liveR_get (g : Graph) {j : Nat} (hj : j < g.1.length + g.2.1.length) : gt (liveR g) (j : Int) dI2 = liveV g (j : Int) := by
  unfold gt liveR
  rw [show ((j : Int).toNat) = j by omega, List.getD_eq_getElem?_getD, List.getElem?_map, List.getElem?_range hj]
  rfl
theorem live_snoc (g : Graph) (i : Nat) (n : Nat) : ((List.range (i + 1)).map fun (j : Nat) => liveV g (j : Int)) = ((List.range i).map fun (j : Nat) => liveV g (j : Int)) ++ [liveV g (i : Int)] := by
  rw [List.range_succ, List.map_append]; rfl
theorem Check_eq (g : Graph) (hg : okGraph g) : graph_Check g = some (valuesE g).2 := by unfold graph_Check; rw [ValuesE g hg]; rfl
def livesE (g : Graph) : List I2 × Int := if (valuesE g).2 = 0 then (liveR g, 0) else ([], (valuesE g).2)
theorem Live_eq (g : Graph) (hg : okGraph g) : place_Live g = some (livesE g) := by
  unfold place_Live livesE
  rw [Check_eq g hg]
  simp only [Option.bind_some]
  by_cases h0 : (valuesE g).2 = 0
  · rw [if_pos h0, h0]
    simp only [bne_self_eq_false, cond_false]
    have h1 := hg.1
    have h2 := hg.2.1.1
    have hla := Last_eq g (by omega) (by omega) (by have := hg.2.2; omega) (fun n hn => (hg.2.1.2 n hn).1)
    rw [hla]
    simp only [Option.bind_some]
    have hl : (lastR g).length = g.1.length + g.2.1.length := lastR_len g
    have := iterN_for (p := place_Live_l6_p g (lastR g)) (z := (liveR g, ((g.1.length + g.2.1.length : Nat) : Int))) (g.1.length + g.2.1.length) (fun i => ((List.range i).map fun (j : Nat) => liveV g (j : Int), (i : Int))) LL (LL_lt (by omega)) (fun i hi => by
      have hlv := lastV_in g (i : Int)
      simp only [place_Live_l6_p, place_Live_r7_p, place_Live_r9_p, hl, lastR_get g hi]
      rw [decide_eq_true (by omega : (i : Int) < ((g.1.length + g.2.1.length : Nat) : Int)), decide_eq_true (by omega : (0 : Int) ≤ (i : Int)), i64_in ((i : Int) + 1) (by omega), i64_in ((i : Int) - (g.1.length : Int)) (by omega), decide_eq_true (by simp only [List.length_map, List.length_range, List.length_cons, List.length_nil]; unfold maxL; omega)]
      simp only [cond_true, Option.bind_some]
      rw [live_snoc g i i]
      rfl) (by
      simp only [place_Live_l6_p, hl]
      rw [decide_eq_false (Int.lt_irrefl _)]
      rfl)
    have h00 : ((List.range 0).map fun (j : Nat) => liveV g (j : Int)) = [] := rfl
    rw [h00] at this
    rw [show ((0 : Nat) : Int) = 0 from rfl] at this
    rw [this]
    rfl
  · rw [if_neg h0, show ((valuesE g).2 != 0) = true by simpa using h0]
    rfl
theorem liveV_in (g : Graph) (v : Int) (h0 : 0 ≤ v) (h1 : v < ((g.1.length + g.2.1.length : Nat) : Int)) : -1 ≤ (liveV g v).1 ∧ (liveV g v).1 ≤ (liveV g v).2 ∧ (liveV g v).2 ≤ (g.2.1.length : Int) := by
  have := lastV_in g v
  simp only [liveV]
  omega
end Go.V.P
