/- Plain laws of layer 5: the values and numbers that the laws draw; when two rows are the same. -/
import Derived.Test.YtokpndlkheofjaaLPairA
import Derived.Test.YtokpndlkheofjaaKp5
import Derived.Test.YtokpndlkheofjaaKp4
namespace Go.V.P
open Go Go.V Go.IntWalk
set_option linter.unusedVariables false
set_option linter.unusedSimpArgs false
set_option maxRecDepth 20000
theorem shown05 : a3i = some true := by decide +kernel
theorem filled_run (v : I4) (l : List Int) (hb : i8s l) (hl : l.length ≤ 9223372036854775807) : ∃ d, a7b v l = some d ∧ (d.length : Int) = Q2q (vS v) ∧ i8s d := by
  have hs := sizeV_in (vS v)
  have es : a15 (v.1, v.2.1, v.2.2.1) = Q2q (vS v) := Q2a _
  have hloop : ∃ y : List Int × Int, iterN (a4w v l) LL ([], 0) = some y ∧ (y.1.length : Int) = Q2q (vS v) ∧ i8s y.1 := by
    refine iterN_inv (fun s : List Int × Int => (s.1.length : Int) = s.2 ∧ s.2 ≤ Q2q (vS v) ∧ i8s s.1) (fun s => (Q2q (vS v) - s.2).toNat) (fun s hs' => ?_) LL ([], 0) ⟨rfl, by simp only; omega, fun v hv => by simp at hv⟩ (LL_lt (by simp only; omega))
    obtain ⟨a1, a2, a3⟩ := hs'
    unfold a4w
    rw [es]
    by_cases hc : s.2 < Q2q (vS v)
    · have hj : ∃ x, a9i l s = some x ∧ -128 ≤ x ∧ x ≤ 127 := by
        unfold a9i
        by_cases h0 : (l.length : Int) > 0
        · have hm1 := Int.emod_nonneg s.2 (show (l.length : Int) ≠ 0 by omega)
          have hm2 := Int.emod_lt_of_pos s.2 (show 0 < (l.length : Int) by omega)
          have hm : Int.tmod s.2 (l.length : Int) = s.2 % (l.length : Int) := Int.tmod_eq_emod_of_nonneg (by omega)
          have h7 : a9j l s = some () := by
            unfold a9j
            rw [hm, show ((l.length : Int) == 0) = false by simp only [beq_eq_false_iff_ne]; omega, decide_eq_true hm1, decide_eq_true hm2]
            rfl
          rw [decide_eq_true h0, h7, hm]
          exact ⟨_, rfl, gt_i8 hb _ hm1 hm2⟩
        · rw [decide_eq_false h0]
          exact ⟨0, rfl, by omega, by omega⟩
      obtain ⟨x, x1, x2⟩ := hj
      have h8 : a9k s x = some () := by
        unfold a9k
        rw [decide_eq_true (by simp only [List.length_cons, List.length_nil]; unfold maxL; omega)]
        rfl
      have t3 := i64_in (s.2 + 1) (by omega)
      rw [decide_eq_true hc, x1]
      simp only [cond_true, Option.bind_some, h8, t3]
      refine .inl ⟨_, rfl, ⟨by simp only [List.length_append, List.length_cons, List.length_nil]; omega, by simp only; omega, fun v hv => ?_⟩, by simp only; omega⟩
      rcases List.mem_append.1 hv with hv | hv
      · exact a3 v hv
      · have : v = x := by simpa using hv
        subst this; exact x2
    · rw [decide_eq_false hc]
      exact .inr ⟨_, rfl, by omega, a3⟩
  obtain ⟨y, y1, y2, y3⟩ := hloop
  unfold a7b
  rw [y1]
  exact ⟨y.1, rfl, y2, y3⟩
theorem some05_ok (l : List I4) : ∃ m, b04 l = some m ∧ m.length < 1000000 := by
  obtain ⟨a, e1, h1⟩ := cut_ok l 3 (by omega)
  refine ⟨a, ?_, h1⟩
  rw [← e1]
  simp only [b04, b2i]
  show (bif decide ((l.length : Int) > (3 : Nat)) then _ else _) = _
  cases decide ((l.length : Int) > (3 : Nat)) with
  | false => rfl
  | true => show Option.bind (bif decide (((3 : Nat) : Int) ≤ (l.length : Int)) then some () else none) _ = _; cases decide (((3 : Nat) : Int) ≤ (l.length : Int)) <;> rfl
theorem pair_run (x : Data) (k : Ts.ok a09 x) : a4h x = some ([], ([], []), false) ∨ ∃ (a : I4) (d e : List Int), Full a d ∧ Full a e ∧ a4h x = some ([a, a], (d, e), true) := by
  obtain ⟨k1, k2, k3⟩ := k
  obtain ⟨b1, c1⟩ := i8s_ok k2
  obtain ⟨b2, c2⟩ := i8s_ok k3
  obtain ⟨q, eq, hq⟩ := some05_ok x.1
  unfold a4h
  rw [eq]
  simp only [Option.bind_some]
  cases q with
  | nil => exact .inl rfl
  | cons v q =>
    have hne : (((v :: q).length : Int) == 0) = false := by simp only [beq_eq_false_iff_ne, List.length_cons]; omega
    have hpos : decide ((0 : Int) < ((v :: q).length : Int)) = true := decide_eq_true (by simp only [List.length_cons]; omega)
    have hg : gt (v :: q) 0 dI4 = v := rfl
    have e2 : b2f (v :: q) = some (!(mayB (vS v))) := by
      unfold b2f
      rw [hne, hpos, hg]
      simp only [cond_false, cond_true]
      have : a1r (v.1, v.2.1, v.2.2.1) = if mayB (vS v) = true then 0 else 10 := ref02_May_eq _
      rw [this]
      cases mayB (vS v) <;> rfl
    rw [e2]
    simp only [Option.bind_some]
    cases hm : mayB (vS v) with
    | false => exact .inl rfl
    | true =>
      have hz : -128 ≤ min (max v.2.2.2 (-128)) 127 ∧ min (max v.2.2.2 (-128)) 127 ≤ 127 := by omega
      obtain ⟨d, d1, d2, d3⟩ := filled_run (v.1, v.2.1, v.2.2.1, min (max v.2.2.2 (-128)) 127) x.2.1 b1 c1
      obtain ⟨e, e1, e2, e3⟩ := filled_run (v.1, v.2.1, v.2.2.1, min (max v.2.2.2 (-128)) 127) x.2.2 b2 c2
      have e4 : b2g (v :: q) = some () := by
        unfold b2g
        rw [hpos]
        rfl
      have e6 : a1s (v :: q) = [(v.1, v.2.1, v.2.2.1, min (max v.2.2.2 (-128)) 127), (v.1, v.2.1, v.2.2.1, min (max v.2.2.2 (-128)) 127)] := rfl
      refine .inr ⟨(v.1, v.2.1, v.2.2.1, min (max v.2.2.2 (-128)) 127), d, e, ⟨hm, d2, d3, hz⟩, ⟨hm, e2, e3, hz⟩, ?_⟩
      rw [e4, e6]
      generalize (v.1, v.2.1, v.2.2.1, min (max v.2.2.2 (-128)) 127) = a at *
      have hd : b03 [a, a] x.2 = some (d, e) := by
        have hl : iterN (a7a [a, a] x.2) LL (0, [], []) = some (2, d, e) := Q2x (p := a7a [a, a] x.2) (z := (2, d, e)) 2 (fun i => match i with | 0 => ((0 : Int), ([] : List Int), ([] : List Int)) | 1 => (1, d, []) | _ => (2, d, e)) LL (LL_lt (by omega)) (fun i hi => by
          have : i = 0 ∨ i = 1 := by omega
          rcases this with rfl | rfl
          · have h5 : b2e [a, a] x.2 (0, [], []) = Option.bind (a7b a x.2.1) fun y => some (y, []) := rfl
            rw [d1] at h5
            simp only [a7a, h5]
            rfl
          · have h5 : b2e [a, a] x.2 (1, d, []) = Option.bind (a7b a x.2.2) fun y => some (d, y) := rfl
            rw [e1] at h5
            simp only [a7a, h5]
            rfl) rfl
        unfold b03
        rw [hl]
        rfl
      simp only [Bool.not_true, cond_false, Option.bind_some, hd]
end Go.V.P
