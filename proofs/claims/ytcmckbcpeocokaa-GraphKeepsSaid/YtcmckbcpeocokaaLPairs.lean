/- Plain laws of layer 3: sums and products of two values. -/
import Derived.Test.YtcmckbcpeocokaaLValue3
import Derived.Test.YtcmckbcpeocokaaGv6
namespace Go.V.P
open Go Go.V Go.IntWalk
set_option linter.unusedVariables false
set_option linter.unusedSimpArgs false
set_option maxRecDepth 20000
def pairN (op z : Int) : Node := (op, [], (0 : Int), (0 : Int), (0 : Int), (0 : Int), (1 : Int), (0 : Int), z, (0 : Int), (0 : Int), (0 : Int), [], [])
def likeB (a b : I4) : Bool := (b.1 == a.1) && ((b.2.1 == a.2.1) && ((b.2.2.1 == a.2.2.1) && true))
theorem likeB_iff (a b : I4) : likeB a b = true ↔ vS b = vS a := by
  simp only [likeB, Bool.and_eq_true, beq_iff_eq, and_true, vS, Prod.mk.injEq]
def pairV (z : Int) (a b : I4) : I4 × Int := if mayB (vS a) = true ∧ vS b = vS a then ((a.1, a.2.1, a.2.2.1, z), 0) else ((0, 0, 0, 0), 10)
theorem pair_made (op z : Int) (h : op = 6 ∨ op = 7) (a b : I4) : ref03_made (pairN op z) [a, b] = some (bif likeB a b then vS a else (0, 0, 0)) := by
  have e : (bif !(likeB a b) then some (Sum.inr ((0 : Int), (0 : Int), (0 : Int))) else some (Sum.inl ())).bind (either (fun y338 : Unit => some (vS a)) (fun y339 : Int × Int × Int => some y339)) = some (bif likeB a b then vS a else (0, 0, 0)) := by
    cases likeB a b <;> rfl
  rcases h with rfl | rfl
  · exact e
  · exact e
theorem pair_Value (op z : Int) (h : op = 6 ∨ op = 7) (hz : -128 ≤ z ∧ z ≤ 127) (a b : I4) : graph_Value (pairN op z) [a, b] = some (pairV z a b) := by
  obtain ⟨v, h1, h2⟩ := Value_eq (pairN op z) [a, b] (by simp) (by simp [pairN, nB])
  rw [h1, ← h2]
  clear h1 h2
  have hn : ref03_node (pairN op z) (([a, b] : List I4).length : Int) = true := by
    have i1 : ref03_in z (-128) 127 = true := (in_iff _ _ _).2 hz
    rcases h with rfl | rfl
    · show (bif true then bif true then bif true then bif true then bif true then bif true then bif true then bif true then ref03_in z (-128) 127 else false else false else false else false else false else false else false else false) = true
      exact i1
    · show (bif true then bif true then bif true then bif true then bif true then bif true then bif true then bif true then ref03_in z (-128) 127 else false else false else false else false else false else false else false else false) = true
      exact i1
  have hk : ref03_keeps (pairN op z).1 = false := by rcases h with rfl | rfl <;> rfl
  unfold ref03_Value ref03_Value_q
  rw [hn]
  rcases refKeeps (pairN op z) [a, b] (by simp) with ⟨a1, a2⟩ | ⟨a1, a2⟩
  · rw [a2, pair_made op z h]
    simp only [Bool.not_true, cond_false, Option.bind_some, either]
    rcases refMay [a, b] (by simp) with ⟨b1, b2⟩ | ⟨b1, b2⟩
    · rw [b2]
      have hab : mayB (vS a) = true ∧ mayB (vS b) = true := by simpa using b1
      simp only [Option.bind_some, either, ref02_May_eq]
      cases hl : likeB a b with
      | true =>
        have hl2 := (likeB_iff a b).1 hl
        have hm : ref03_Value_r16_p (pairN op z) [a, b] = some ((0 : Int), (0 : Int)) := by rcases h with rfl | rfl <;> rfl
        rw [hm]
        simp only [cond_true, hab.1, if_true, bne_self_eq_false, cond_false, Option.bind_some]
        rcases refOff (pairN op z) (by simp [pairN, nB]) with ⟨c1, c2⟩ | ⟨c1, c2⟩
        · rw [c2, pairV, if_pos ⟨hab.1, hl2⟩]; rfl
        · exact absurd c1 (by simp [pairN, nB])
      | false =>
        have hl2 : ¬ vS b = vS a := fun h => by rw [(likeB_iff a b).2 h] at hl; exact absurd hl (by decide)
        have e : pairV z a b = ((0, 0, 0, 0), 10) := if_neg (fun h => hl2 h.2)
        rw [e]
        rfl
    · rw [b2]
      have hab : mayB (vS a) = false ∨ mayB (vS b) = false := by simpa using b1
      rw [pairV, if_neg (fun h => by rcases hab with h1 | h1 <;> simp [h.1, h.2] at h1)]
      rfl
  · rw [hk] at a1
    exact absurd a1 (by simp)
theorem GraphPairs_true (a b : I4) (zero : Int) (_ : Ts.ok tsI4 a) (_ : Ts.ok tsI4 b) (_ : Ts.ok (.one (.int .i64)) zero) : law03_GraphPairs a b zero = some true := by
  unfold law03_GraphPairs law03_GraphPairs_q
  have hz : -128 ≤ min (max zero (-128)) 127 ∧ min (max zero (-128)) 127 ≤ 127 := by omega
  generalize hZ : min (max zero (-128)) 127 = z at *
  have e1 := pair_Value 6 z (Or.inl rfl) hz a b
  have e2 := pair_Value 6 z (Or.inl rfl) hz b a
  have e3 := pair_Value 7 z (Or.inr rfl) hz a b
  unfold pairN at e1 e2 e3
  rw [e1, e2, e3]
  have hr : law03_GraphPairs_r8_p a b = decide (mayB (vS a) = true ∧ vS b = vS a) := by
    simp only [law03_GraphPairs_r8_p, law03_GraphPairs_r8_q, ref02_May_eq]
    rw [Bool.eq_iff_iff, decide_eq_true_iff]
    cases hm : mayB (vS a) with
    | true =>
      show (likeB b a) = true ↔ true = true ∧ vS b = vS a
      rw [likeB_iff]
      exact ⟨fun h => ⟨rfl, h.symm⟩, fun h => h.2.symm⟩
    | false =>
      exact ⟨fun h => absurd (show false = true from h) (by decide), fun h => absurd h.1 (by decide)⟩
  have hs : (mayB (vS b) = true ∧ vS a = vS b) ↔ (mayB (vS a) = true ∧ vS b = vS a) := by
    constructor
    · rintro ⟨h1, h2⟩; exact ⟨h2 ▸ h1, h2.symm⟩
    · rintro ⟨h1, h2⟩; exact ⟨h2 ▸ h1, h2.symm⟩
  simp only [shown03, Option.bind_some, hr, law03_GraphPairs_r10_p, law03_GraphPairs_r10_q, law03_GraphPairs_r11_p, law03_GraphPairs_r11_q, hZ]
  by_cases h : mayB (vS a) = true ∧ vS b = vS a
  · have h2 := hs.2 h
    simp only [pairV, if_pos h, if_pos h2, decide_eq_true h]
    have q : b.1 = a.1 ∧ b.2.1 = a.2.1 ∧ b.2.2.1 = a.2.2.1 := by simpa [vS] using h.2
    simp [q.1, q.2.1, q.2.2]
  · have h2 := fun e => h (hs.1 e)
    simp only [pairV, if_neg h, if_neg h2, decide_eq_false h]
    rfl
end Go.V.P
