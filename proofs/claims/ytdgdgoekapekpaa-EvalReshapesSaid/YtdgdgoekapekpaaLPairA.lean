/- Plain laws of layer 5: rows that are the same; nodes whose value is known. -/
import Derived.Test.YtdgdgoekapekpaaLPix
import Derived.Test.YtdgdgoekapekpaaLScale
import Derived.Test.YtdgdgoekapekpaaEv7
namespace Go.V.P
open Go Go.V Go.IntWalk
set_option linter.unusedVariables false
set_option linter.unusedSimpArgs false
set_option maxRecDepth 20000
theorem i8s_ok {d : List Int} (h : T.ok (.sl (.one (.int .i8))) d) : i8s d ∧ d.length ≤ 9223372036854775807 := by
  obtain ⟨h1, h2⟩ := h
  refine ⟨fun v hv => ?_, ?_⟩
  · obtain ⟨i, hi, e⟩ := List.mem_iff_getElem.1 hv
    have := h2 i hi
    rw [e] at this
    exact this
  · exact h1
theorem same_refl (d : List Int) (h : d.length < 1000000) : a2f d d = some true := by
  unfold a2f
  rw [show ((d.length : Int) != (d.length : Int)) = false by simp]
  have := iterN_for (p := a7n d d) (z := .inl (d.length : Int)) d.length (fun i => (i : Int)) LL (LL_lt h) (fun i hi => by
    obtain ⟨t1, t2, t3⟩ := step_t hi h
    simp only [a7n, b3o, t1, t2, t3, cond_true, Option.bind_some, bne_self_eq_false, cond_false]
    rfl) (by
    simp only [a7n]
    rw [decide_eq_false (Int.lt_irrefl _)]
    rfl)
  rw [show (0 : Int) = ((0 : Nat) : Int) from rfl, this]
  rfl
/-- when a node may be: all that is asked -/
theorem value_is (n : Node) (l : List I4) (s : I3) (w b : Int) (hl : l.length < 1000000) (hnode : a55 n (l.length : Int) = true) (hkeep : (a8r n.1 && l.any fun v => v.2.2.2 != nZ n) = false) (hmay : (l.any fun v => !mayB (vS v)) = false)
    (hmade : b0l n l = some s) (hs : mayB s = true) (hmany : b03 n l = some (w, b)) (hw : ((nW n).length : Int) = w) (hb : ((nB n).length : Int) = b) (hoff : (nB n).any offB = false) (hB : (nB n).length < 1000000) :
    a8q n l = some ((s.1, s.2.1, s.2.2, nZ n), 0) := by
  unfold a8q
  rw [hnode]
  rcases refKeeps n l hl with ⟨a1, a2⟩ | ⟨a1, a2⟩
  · rcases refMay l hl with ⟨b1, b2⟩ | ⟨b1, b2⟩
    · rcases refOff n hB with ⟨c1, c2⟩ | ⟨c1, c2⟩
      · rw [a2, b2, hmade, hmany, c2]
        simp only [Bool.not_true, cond_false, Option.bind_some, either, ref02_May_eq]
        have : a1l (s.1, s.2.1, s.2.2) = 0 := by
          have := ref02_May_eq s
          rw [hs] at this
          exact this
        have h17 : a2r n (w, b) = false := by
          simp only [a2r, b04]
          have e1 : ((n.2.2.2.2.2.2.2.2.2.2.2.2.1.length : Int) != w) = false := by
            have : (n.2.2.2.2.2.2.2.2.2.2.2.2.1.length : Int) = w := hw
            simp [this]
          have e2 : ((n.2.2.2.2.2.2.2.2.2.2.2.2.2.length : Int) != b) = false := by
            have : (n.2.2.2.2.2.2.2.2.2.2.2.2.2.length : Int) = b := hb
            simp [this]
          rw [e1, e2]
          rfl
        simp only [hs, if_true, bne_self_eq_false, cond_false, h17]
      · rw [hoff] at c1; cases c1
    · rw [hmay] at b1; cases b1
  · rw [hkeep] at a1; cases a1
end Go.V.P
