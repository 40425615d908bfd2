/- Plain laws of layer 5: rows that are the same; nodes whose value is known. -/
import Derived.Test.YtdgdgoekapekpaaLPix
import Derived.Test.YtdgdgoekapekpaaLScale
namespace Go.V.P
open Go Go.V Go.IntWalk
set_option linter.unusedVariables false
set_option linter.unusedSimpArgs false
set_option maxRecDepth 20000
theorem i8s_ok {d : List Int} (h : T.ok (.sl (.one (.int .i8))) d) : i8s d ∧ d.length ≤ 9223372036854775807 := by
  obtain ⟨h1, h2⟩ := h
  refine ⟨fun v hv => ?_, ?_⟩
  · obtain ⟨i, hi, e⟩ := List.mem_iff_getElem.1 hv
    have := h2 i hi
    rw [e] at this
    exact this
  · exact h1
/-- when a node may be: all that is asked -/
theorem value_is (n : Node) (l : List I4) (s : I3) (w b : Int) (hl : l.length < 1000000) (hnode : ref03_node n (l.length : Int) = true) (hkeep : (ref03_keeps n.1 && l.any fun v => v.2.2.2 != nZ n) = false) (hmay : (l.any fun v => !mayB (vS v)) = false)
    (hmade : ref03_made n l = some s) (hs : mayB s = true) (hmany : ref03_Value_r16_p n l = some (w, b)) (hw : ((nW n).length : Int) = w) (hb : ((nB n).length : Int) = b) (hoff : (nB n).any offB = false) (hB : (nB n).length < 1000000) :
    ref03_Value n l = some ((s.1, s.2.1, s.2.2, nZ n), 0) := by
  unfold ref03_Value
  rw [hnode]
  rcases refKeeps n l hl with ⟨a1, a2⟩ | ⟨a1, a2⟩
  · rcases refMay l hl with ⟨b1, b2⟩ | ⟨b1, b2⟩
    · rcases refOff n hB with ⟨c1, c2⟩ | ⟨c1, c2⟩
      · rw [a2, b2, hmade, hmany, c2]
        simp only [Bool.not_true, cond_false, Option.bind_some, either, ref02_May_eq]
        have : ref02_May (s.1, s.2.1, s.2.2) = 0 := by
          have := ref02_May_eq s
          rw [hs] at this
          exact this
        have h17 : ref03_Value_r17_p n (w, b) = false := by
          simp only [ref03_Value_r17_p, ref03_Value_r17_q]
          have e1 : ((n.2.2.2.2.2.2.2.2.2.2.2.2.1.length : Int) != w) = false := by
            have : (n.2.2.2.2.2.2.2.2.2.2.2.2.1.length : Int) = w := hw
            simp [this]
          have e2 : ((n.2.2.2.2.2.2.2.2.2.2.2.2.2.length : Int) != b) = false := by
            have : (n.2.2.2.2.2.2.2.2.2.2.2.2.2.length : Int) = b := hb
            simp [this]
          rw [e1, e2]
          rfl
        simp only [hs, if_true, bne_self_eq_false, cond_false, h17]
      · rw [hoff] at c1; cases c1
    · rw [hmay] at b1; cases b1
  · rw [hkeep] at a1; cases a1
end Go.V.P
