/- Plain laws of layer 19: what a graph is compiled to. -/
import Derived.Test.YtaeckbkjlmnigaaLEmit5
import Derived.Test.YtaeckbkjlmnigaaLBPlace
import Derived.Test.YtaeckbkjlmnigaaBm1
namespace Go.V.P
open Go Go.V Go.IntWalk
set_option linter.unusedVariables false
set_option linter.unusedSimpArgs false
set_option maxRecDepth 20000
abbrev hlt : I14 := (7, 0, 0, 0, 0, 0, 0, 0, 0, 0, 0, 0, 0, 0)
def nodeG (g : Graph) (vals : List I4) (places : List Int) (i : Nat) : A7 := nodeC (gt g.2.1 (i : Int) dNode) (innV g vals i) places (i : Int) ((g.1.length + i : Nat) : Int) (gt vals ((g.1.length + i : Nat) : Int) dI4)
def strS (g : Graph) (vals : List I4) (places : List Int) : Nat → A7
  | 0 => ([], [], [])
  | i + 1 => ((strS g vals places i).1 ++ (nodeG g vals places i).1, (strS g vals places i).2.1 ++ (nodeG g vals places i).2.1, (strS g vals places i).2.2 ++ (nodeG g vals places i).2.2)
def lotsV (g : Graph) : List I4 := ((place_lots g).getD ([], 0)).1
def plcV (g : Graph) : List Int := placesL (lotsV g)
def imgV (g : Graph) (vals : List I4) : Image := (g.1, g.2.1, g.2.2, plcV g, (strS g vals (plcV g) g.2.1.length).1 ++ [hlt], (strS g vals (plcV g) g.2.1.length).2.1 ++ [hlt], (strS g vals (plcV g) g.2.1.length).2.2 ++ [hlt])
section
variable {g : Graph} {vals : List I4} {places : List Int}
theorem nodeG_len (hg : okGraph g) (hv : valuesV g = some vals) (hp : places.length = vals.length) {i : Nat} (hi : i < g.2.1.length) : (nodeG g vals places i).1.length ≤ 1000 ∧ (nodeG g vals places i).2.1.length ≤ 1000 ∧ (nodeG g vals places i).2.2.length ≤ 1000 := by
  have hA := node_at (places := places) hg hv hp hi
  obtain ⟨_, b2⟩ := best_V hA.hl hA.ok.2.2 hA.val
  unfold nodeG nodeC
  rcases b2 with h0 | hT
  · rw [if_pos h0]
    simp [hostC]
  · rw [if_neg (by have := hT.best; omega)]
    have h1 := hT.most.len
    have h2 := dmaS_len (n := gt g.2.1 (i : Int) dNode) (inn := innV g vals i) (places := places) (tiles := tilesV (gt vals ((g.1.length + i : Nat) : Int) dI4) (gt g.2.1 (i : Int) dNode) (innV g vals i)) (b := (bufs (mostV (gt g.2.1 (i : Int) dNode) (innV g vals i)) 0).1) (z := gt vals ((g.1.length + i : Nat) : Int) dI4) ((g.1.length + i : Nat) : Int) (tilesV (gt vals ((g.1.length + i : Nat) : Int) dI4) (gt g.2.1 (i : Int) dNode) (innV g vals i)).length
    have h3 := engS_len (n := gt g.2.1 (i : Int) dNode) (inn := innV g vals i) (tiles := tilesV (gt vals ((g.1.length + i : Nat) : Int) dI4) (gt g.2.1 (i : Int) dNode) (innV g vals i)) (b := (bufs (mostV (gt g.2.1 (i : Int) dNode) (innV g vals i)) 0).1) (i : Int) (tilesV (gt vals ((g.1.length + i : Nat) : Int) dI4) (gt g.2.1 (i : Int) dNode) (innV g vals i)).length
    simp only [streamsC, List.length_append, List.length_replicate, List.length_nil]
    omega
theorem strS_len (hg : okGraph g) (hv : valuesV g = some vals) (hp : places.length = vals.length) : ∀ i : Nat, i ≤ g.2.1.length → (strS g vals places i).1.length ≤ 1000 * i ∧ (strS g vals places i).2.1.length ≤ 1000 * i ∧ (strS g vals places i).2.2.length ≤ 1000 * i
  | 0, _ => by simp [strS]
  | i + 1, hi => by
    have h1 := strS_len hg hv hp i (by omega)
    have h2 := nodeG_len hg hv hp (i := i) (by omega)
    simp only [strS, List.length_append]
    omega
theorem join_p (c : A7) (e : Int) (s : A7) (h : s.1.length + c.1.length ≤ maxL ∧ s.2.1.length + c.2.1.length ≤ maxL ∧ s.2.2.length + c.2.2.length ≤ maxL) :
    iterN (build_Compile_l12_p (c, e)) LL (0, s.1, s.2.1, s.2.2) = some (3, s.1 ++ c.1, s.2.1 ++ c.2.1, s.2.2 ++ c.2.2) := by
  obtain ⟨h1, h2, h3⟩ := h
  have := iterN_for (p := build_Compile_l12_p (c, e)) (z := (3, s.1 ++ c.1, s.2.1 ++ c.2.1, s.2.2 ++ c.2.2)) 3 (fun i => match i with | 0 => ((0 : Int), s.1, s.2.1, s.2.2) | 1 => (1, s.1 ++ c.1, s.2.1, s.2.2) | 2 => (2, s.1 ++ c.1, s.2.1 ++ c.2.1, s.2.2) | _ => (3, s.1 ++ c.1, s.2.1 ++ c.2.1, s.2.2 ++ c.2.2)) LL (LL_lt (by omega)) (fun i hi => by
    rcases (by omega : i = 0 ∨ i = 1 ∨ i = 2) with rfl | rfl | rfl
    · simp only [build_Compile_l12_p, build_Compile_r14_p, h1, decide_true]; rfl
    · simp only [build_Compile_l12_p, build_Compile_r14_p, h2, decide_true]; rfl
    · simp only [build_Compile_l12_p, build_Compile_r14_p, h3, decide_true]; rfl) rfl
  exact this
theorem ends_p (s : A7) (h : s.1.length + 1 ≤ maxL ∧ s.2.1.length + 1 ≤ maxL ∧ s.2.2.length + 1 ≤ maxL) :
    iterN build_Compile_l18_p LL (0, s.1, s.2.1, s.2.2) = some (3, s.1 ++ [hlt], s.2.1 ++ [hlt], s.2.2 ++ [hlt]) := by
  obtain ⟨h1, h2, h3⟩ := h
  have c1 : ∀ x : I14, s.1.length + [x].length ≤ maxL := fun x => h1
  have c2 : ∀ x : I14, s.2.1.length + [x].length ≤ maxL := fun x => h2
  have c3 : ∀ x : I14, s.2.2.length + [x].length ≤ maxL := fun x => h3
  have := iterN_for (p := build_Compile_l18_p) (z := (3, s.1 ++ [hlt], s.2.1 ++ [hlt], s.2.2 ++ [hlt])) 3 (fun i => match i with | 0 => ((0 : Int), s.1, s.2.1, s.2.2) | 1 => (1, s.1 ++ [hlt], s.2.1, s.2.2) | 2 => (2, s.1 ++ [hlt], s.2.1 ++ [hlt], s.2.2) | _ => (3, s.1 ++ [hlt], s.2.1 ++ [hlt], s.2.2 ++ [hlt])) LL (LL_lt (by omega)) (fun i hi => by
    rcases (by omega : i = 0 ∨ i = 1 ∨ i = 2) with rfl | rfl | rfl
    · simp only [build_Compile_l18_p, build_Compile_r20_p, c1, decide_true]; rfl
    · simp only [build_Compile_l18_p, build_Compile_r20_p, c2, decide_true]; rfl
    · simp only [build_Compile_l18_p, build_Compile_r20_p, c3, decide_true]; rfl) rfl
  exact this
structure Built (g : Graph) (vals : List I4) : Prop where
  vv : valuesV g = some vals
  ve : valuesE g = (vals, 0)
  lots : LotsOK g vals (g.1.length + g.2.1.length) (lotsV g)
  plen : (plcV g).length = vals.length
  run : build_Compile g = some (imgV g vals, 0)
theorem Compile_or (hg : okGraph g) : (∃ vals, Built g vals) ∨ ∃ e : Int, e ≠ 0 ∧ valuesV g = none ∧ valuesE g = ([], e) ∧ build_Compile g = some (([], [], [], [], [], [], []), e) := by
  rcases lots_eq g hg with ⟨vals, ls, h1, h2, h3, h4⟩ | ⟨h1, e, h2, h3, h4⟩
  · left
    obtain ⟨hl, hb, _⟩ := values_in h1
    have hls : lotsV g = ls := by unfold lotsV; rw [h3]; rfl
    have hP := Places_of h3 (by have := h4.len; omega)
    have hpl : plcV g = placesL ls := by unfold plcV; rw [hls]
    have hpe : (plcV g).length = vals.length := by rw [hpl]; unfold placesL; rw [List.length_map, h4.len, hl]
    refine ⟨vals, h1, h2, hls ▸ h4, hpe, ?_⟩
    rw [← hpl] at hP
    unfold build_Compile
    rw [hP]
    simp only [Option.bind_some, bne_self_eq_false, cond_false]
    have hm : maxL = 2147483648 := rfl
    have := iterN_for (p := build_Compile_l6_p g (plcV g, 0)) (z := .inl ((g.2.1.length : Int), strS g vals (plcV g) g.2.1.length)) g.2.1.length (fun i => ((i : Int), strS g vals (plcV g) i)) LL (LL_lt (by omega)) (fun i hi => by
      have hN := Node_p (places := plcV g) hg h1 hpe hi
      have l1 := strS_len hg h1 hpe i (by omega)
      have l2 := nodeG_len hg h1 hpe hi
      have d1 : (i : Int) < (g.2.1.length : Int) := by omega
      have w1 : IntKind.wrap .i64 ((i : Int) + 1) = ((i + 1 : Nat) : Int) := by rw [i64_in _ (by omega)]; omega
      have hj := join_p (nodeG g vals (plcV g) i) 0 (strS g vals (plcV g) i) (by omega)
      simp only [build_Compile_l6_p, d1, hN, w1, decide_true, cond_true, Option.bind_some, bne_self_eq_false, cond_false]
      have hj' : iterN (build_Compile_l12_p (nodeC (gt g.2.1 (i : Int) dNode) (innV g vals i) (plcV g) (i : Int) ((g.1.length + i : Nat) : Int) (gt vals ((g.1.length + i : Nat) : Int) dI4), 0)) LL (0, (strS g vals (plcV g) i).1, (strS g vals (plcV g) i).2.1, (strS g vals (plcV g) i).2.2) = _ := hj
      rw [hj']
      rfl) (by
      simp only [build_Compile_l6_p]
      rw [decide_eq_false (Int.lt_irrefl _)]
      rfl)
    have this' : iterN (build_Compile_l6_p g (plcV g, 0)) LL (0, [], [], []) = _ := this
    rw [this']
    have l1 := strS_len hg h1 hpe g.2.1.length (Nat.le_refl _)
    have he := ends_p (strS g vals (plcV g) g.2.1.length) (by omega)
    simp only [Option.bind_some, either]
    rw [he]
    rfl
  · right
    have hP := Places_of h4 (by simp)
    refine ⟨e, h2, h1, h3, ?_⟩
    unfold build_Compile
    rw [hP]
    simp only [Option.bind_some]
    rw [show (e != 0) = true by simpa using h2]
    rfl
end
end Go.V.P
