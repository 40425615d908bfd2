/- Plain laws of layer 19: what the reference compiles a graph to. -/
import Derived.Test.YtaeckbkjlmnigaaGreatLBAhead1
import Derived.Test.YtaeckbkjlmnigaaGreatLBPlace17
import Derived.Test.YtaeckbkjlmnigaaGreatLR18b
import Derived.Test.YtaeckbkjlmnigaaGreatBa3
namespace Go.V.P
open Go Go.V Go.IntWalk
set_option linter.unusedVariables false
set_option linter.unusedSimpArgs false
set_option maxRecDepth 20000
theorem rjoin_p (c : A7) (e : Int) (s : A7) (h : s.1.length + c.1.length ≤ maxL ∧ s.2.1.length + c.2.1.length ≤ maxL ∧ s.2.2.length + c.2.2.length ≤ maxL) :
    iterN (ref19_Compile_l10_p (c, e)) LL (0, s.1, s.2.1, s.2.2) = some (3, s.1 ++ c.1, s.2.1 ++ c.2.1, s.2.2 ++ c.2.2) := by
  obtain ⟨h1, h2, h3⟩ := h
  have := iterN_for (p := ref19_Compile_l10_p (c, e)) (z := (3, s.1 ++ c.1, s.2.1 ++ c.2.1, s.2.2 ++ c.2.2)) 3 (fun i => match i with | 0 => ((0 : Int), s.1, s.2.1, s.2.2) | 1 => (1, s.1 ++ c.1, s.2.1, s.2.2) | 2 => (2, s.1 ++ c.1, s.2.1 ++ c.2.1, s.2.2) | _ => (3, s.1 ++ c.1, s.2.1 ++ c.2.1, s.2.2 ++ c.2.2)) LL (LL_lt (by omega)) (fun i hi => by
    rcases (by omega : i = 0 ∨ i = 1 ∨ i = 2) with rfl | rfl | rfl
    · simp only [ref19_Compile_l10_p, ref19_Compile_r12_p, h1, decide_true]; rfl
    · simp only [ref19_Compile_l10_p, ref19_Compile_r12_p, h2, decide_true]; rfl
    · simp only [ref19_Compile_l10_p, ref19_Compile_r12_p, h3, decide_true]; rfl) rfl
  exact this
theorem rends_p (s : A7) (h : s.1.length + 1 ≤ maxL ∧ s.2.1.length + 1 ≤ maxL ∧ s.2.2.length + 1 ≤ maxL) :
    iterN ref19_Compile_l14_p LL (0, s.1, s.2.1, s.2.2) = some (3, s.1 ++ [hlt], s.2.1 ++ [hlt], s.2.2 ++ [hlt]) := by
  obtain ⟨h1, h2, h3⟩ := h
  have c1 : ∀ x : I14, s.1.length + [x].length ≤ maxL := fun x => h1
  have c2 : ∀ x : I14, s.2.1.length + [x].length ≤ maxL := fun x => h2
  have c3 : ∀ x : I14, s.2.2.length + [x].length ≤ maxL := fun x => h3
  have := iterN_for (p := ref19_Compile_l14_p) (z := (3, s.1 ++ [hlt], s.2.1 ++ [hlt], s.2.2 ++ [hlt])) 3 (fun i => match i with | 0 => ((0 : Int), s.1, s.2.1, s.2.2) | 1 => (1, s.1 ++ [hlt], s.2.1, s.2.2) | 2 => (2, s.1 ++ [hlt], s.2.1 ++ [hlt], s.2.2) | _ => (3, s.1 ++ [hlt], s.2.1 ++ [hlt], s.2.2 ++ [hlt])) LL (LL_lt (by omega)) (fun i hi => by
    rcases (by omega : i = 0 ∨ i = 1 ∨ i = 2) with rfl | rfl | rfl
    · simp only [ref19_Compile_l14_p, ref19_Compile_r16_p, c1, decide_true]; rfl
    · simp only [ref19_Compile_l14_p, ref19_Compile_r16_p, c2, decide_true]; rfl
    · simp only [ref19_Compile_l14_p, ref19_Compile_r16_p, c3, decide_true]; rfl) rfl
  exact this
section
variable {g : Graph} {vals : List I4}
theorem Built.ref (hB : Built g vals) (hg : okGraph g) : ref19_Compile g = some (imgV g vals, 0) := by
  obtain ⟨h1, h2, h4, hpe, _⟩ := hB
  obtain ⟨hl, hb, _⟩ := values_in h1
  have hb2 := values_in h1
  have hP : ref17_Places g = some (plcV g, 0) := Places17 g hg vals (lotsV g) h2 hl h4 (sizes_ok hg h1) (by omega)
  unfold ref19_Compile
  rw [hP]
  simp only [Option.bind_some, bne_self_eq_false, cond_false]
  have hm : maxL = 2147483648 := rfl
  have := iterN_for (p := ref19_Compile_l6_p g (plcV g, 0)) (z := ((g.2.1.length : Int), strS g vals (plcV g) g.2.1.length)) g.2.1.length (fun i => ((i : Int), strS g vals (plcV g) i)) LL (LL_lt (by omega)) (fun i hi => by
    have hN := Node18_p (places := plcV g) hg h1 hpe hi
    have l1 := strS_len hg h1 hpe i (by omega)
    have l2 := nodeG_len hg h1 hpe hi
    have d1 : (i : Int) < (g.2.1.length : Int) := by omega
    have w1 : IntKind.wrap .i64 ((i : Int) + 1) = ((i + 1 : Nat) : Int) := by rw [i64_in _ (by omega)]; omega
    have hj := rjoin_p (nodeG g vals (plcV g) i) 0 (strS g vals (plcV g) i) (by omega)
    simp only [ref19_Compile_l6_p, d1, hN, w1, decide_true, cond_true, Option.bind_some]
    have hj' : iterN (ref19_Compile_l10_p (nodeC (gt g.2.1 (i : Int) dNode) (innV g vals i) (plcV g) (i : Int) ((g.1.length + i : Nat) : Int) (gt vals ((g.1.length + i : Nat) : Int) dI4), 0)) LL (0, (strS g vals (plcV g) i).1, (strS g vals (plcV g) i).2.1, (strS g vals (plcV g) i).2.2) = _ := hj
    rw [hj']
    rfl) (by
    simp only [ref19_Compile_l6_p]
    rw [decide_eq_false (Int.lt_irrefl _)]
    rfl)
  have this' : iterN (ref19_Compile_l6_p g (plcV g, 0)) LL (0, [], [], []) = _ := this
  rw [this']
  have l1 := strS_len hg h1 hpe g.2.1.length (Nat.le_refl _)
  have he := rends_p (strS g vals (plcV g) g.2.1.length) (by omega)
  simp only [Option.bind_some]
  rw [he]
  rfl
theorem ref_bad (hg : okGraph g) {e : Int} (he : e ≠ 0) (hE : valuesE g = ([], e)) : ref19_Compile g = some (([], [], [], [], [], [], []), e) := by
  have hb : (e != 0) = true := by simpa using he
  have hP : ref17_Places g = some ([], e) := by
    unfold ref17_Places
    rw [ValuesE3 g hg, hE]
    simp only [Option.bind_some, hb, cond_true]
  unfold ref19_Compile
  rw [hP]
  simp only [Option.bind_some, hb, cond_true]
end
end Go.V.P
