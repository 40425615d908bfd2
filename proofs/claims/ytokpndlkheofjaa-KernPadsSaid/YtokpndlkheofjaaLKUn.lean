/- Plain laws of layer 5: OpRelu, OpReshape and OpPad of all numbers. -/
import Derived.Test.YtokpndlkheofjaaLKPool2
namespace Go.V.P
open Go Go.V Go.IntWalk
set_option linter.unusedVariables false
set_option linter.unusedSimpArgs false
set_option maxRecDepth 20000
theorem all_relu (a : I4) (d : List Int) (hd : Full a d) : a0c (8, [], 0, 0, 0, 0, 1, 0, a.2.2.2, 0, 0, 0, [], []) [a] (d, []) = some (allL a.1.toNat a.2.1.toNat a.2.2.1.toNat (fun y x c => max (numV a d y x c) a.2.2.2), 0) := by
  have hl := hd.lim
  have hz := hd.zero
  have hv : a0x (8, [], 0, 0, 0, 0, 1, 0, a.2.2.2, 0, 0, 0, [], []) [a] = some ((a.1, a.2.1, a.2.2.1, a.2.2.2), 0) := by
    refine value_is _ _ (vS a) 0 0 (by simp) ?_ (by simp [nZ]) (by simp [hd.may]) rfl hd.may rfl rfl rfl rfl (by simp [nB])
    simp [a4k, b1d, a64, b1h, a63, b1g, a20, b1f, a17, a62, a39, b1e, a0i, a61, a43, a7h, a7j, b2q, a45, b2p, a0a, a7g, a7i, b2o, a44, b2n, a08, a7f, a6c, b3t, a8j, b5j, a2n, a8k, a4y, a9p, Q2t]
    omega
  refine All_run (by simp [nB]) (by simp) hv (d, []) hd.len a.1.toNat a.2.1.toNat a.2.2.1.toNat (Q2u (show 0 ≤ a.1 by omega)) (Q2u (show 0 ≤ a.2.1 by omega)) (Q2u (show 0 ≤ a.2.2.1 by omega)) _ (fun y x c hy hx hc s s2 h1 h2 h3 => ?_)
  have g := pane_at_eq hd (y := (y : Int)) (x := (x : Int)) (c := (c : Int)) (by omega) (by omega)
  rw [at_num hd (by omega) (by omega)] at g
  have n1 := num_in hd (y := y) (x := x) (c := c) (by omega) (by omega) (by omega)
  rw [pix_relu _ _ _ _ _ _ _ rfl, h1, h2]
  have e3 : fst4 [a] = a := rfl
  rw [e3]
  unfold b2z
  rw [g]
  show pushV s2 (max (IntKind.wrap .i64 (numV a d y x c - a.2.2.2 + a.2.2.2)) a.2.2.2) = _
  rw [show numV a d y x c - a.2.2.2 + a.2.2.2 = numV a d y x c by omega, i64_in _ (by omega)]
  exact push8' s2 h3 _ (by omega)
theorem index_in (s : I3) (y x c : Int) (hs : mayB s = true) (h1 : 0 ≤ y ∧ y < s.1) (h2 : 0 ≤ x ∧ x < s.2.1) (h3 : 0 ≤ c ∧ c < s.2.2) : b3u s y x c = some ((y * s.2.1 + x) * s.2.2 + c) := by
  have hl := Q2l.1 hs
  have hi := idx_in (H := s.1) (W := s.2.1) (C := s.2.2) (by omega) (by omega) (by omega) h1.1 h1.2 h2.1 h2.2 h3.1 h3.2
  unfold b3u
  have e : ∀ h : Int, 1 ≤ h → h ≤ 16 → IntKind.wrap .i64 (h - 1) = h - 1 := fun h a b => i64_in _ (by omega)
  have hw : ∀ x h : Int, 0 ≤ x → x < h → a0t [x] (((a0e (0 : Int) (h - 1)).1).1) (((a0e (0 : Int) (h - 1)).2.1).1) = some true := fun x h a b => by
    have : (((a0e (0 : Int) (h - 1)).1).1) = 0 := rfl
    rw [this]
    have : (((a0e (0 : Int) (h - 1)).2.1).1) = h - 1 := rfl
    rw [this, within1]
    have : inB 0 (h - 1) x = true := inB_iff.2 (by omega)
    rw [this]
  have hr : b1i s y x c = some false := by
    unfold b1i
    rw [shape_may_eq, hs, e s.1 (by omega) (by omega), e s.2.1 (by omega) (by omega), e s.2.2 (by omega) (by omega), hw y s.1 h1.1 h1.2, hw x s.2.1 h2.1 h2.2, hw c s.2.2 h3.1 h3.2]
    rfl
  rw [hr]
  simp only [Option.bind_some, cond_false, a65, b1j]
  rw [i64_in (y * s.2.1) (by omega), i64_in (y * s.2.1 + x) (by omega), i64_in ((y * s.2.1 + x) * s.2.2) (by omega), i64_in _ (by omega)]
theorem all_reshape (a : I4) (d : List Int) (hd : Full a d) (t : I3) (ht : mayB t = true) (hs : Q2q t = Q2q (vS a)) : a0c (11, [], 0, 0, 0, 0, 1, 0, a.2.2.2, t.1, t.2.1, t.2.2, [], []) [a] (d, []) = some (d, 0) := by
  have hl := hd.lim
  have hz := hd.zero
  have hlt := Q2l.1 ht
  have hft : Full (t.1, t.2.1, t.2.2, a.2.2.2) d := ⟨ht, by rw [show vS (t.1, t.2.1, t.2.2, a.2.2.2) = t from rfl, hs]; exact hd.len, hd.bytes, hz⟩
  have hv : a0x (11, [], 0, 0, 0, 0, 1, 0, a.2.2.2, t.1, t.2.1, t.2.2, [], []) [a] = some ((t.1, t.2.1, t.2.2, a.2.2.2), 0) := by
    refine value_is _ _ t 0 0 (by simp) ?_ (by simp [nZ]) (by simp [hd.may]) ?_ ht rfl rfl rfl rfl (by simp [nB])
    · simp [a4k, b1d, a64, b1h, a63, b1g, a20, b1f, a17, a62, a39, b1e, a0i, a61, a43, a7h, a7j, b2q, a45, b2p, a0a, a7g, a7i, b2o, a44, b2n, a08, a7f, a6c, b3t, a8j, b5j, a2n, a8k, a4y, a9p, Q2t]
      omega
    · have e1 : a15 (t.1, t.2.1, t.2.2) = Q2q t := Q2a t
      have e2 : a15 (a.1, a.2.1, a.2.2.1) = Q2q (vS a) := Q2a _
      simp [b05, b2l, b2k, a41, a7c, a37, a60, a38, b1b, gt, Q1z, e1, e2, hs]
  have hA := All_run (n := (11, [], 0, 0, 0, 0, 1, 0, a.2.2.2, t.1, t.2.1, t.2.2, [], [])) (by simp [nB]) (by simp) hv (d, []) hd.len t.1.toNat t.2.1.toNat t.2.2.toNat (Q2u (show 0 ≤ t.1 by omega)) (Q2u (show 0 ≤ t.2.1 by omega)) (Q2u (show 0 ≤ t.2.2 by omega)) (numV (t.1, t.2.1, t.2.2, a.2.2.2) d) (fun y x c hy hx hc s s2 h1 h2 h3 => by
    have n1 := num_in hft (y := y) (x := x) (c := c) (by simp only; omega) (by simp only; omega) (by simp only; omega)
    have hi := idx_in (H := t.1) (W := t.2.1) (C := t.2.2) (y := (y : Int)) (x := (x : Int)) (c := (c : Int)) (by omega) (by omega) (by omega) (by omega) (by omega) (by omega) (by omega) (by omega) (by omega)
    have hsz := hft.size
    simp only at hsz
    rw [pix_reshape _ _ _ _ _ _ _ rfl, h1, h2]
    have e3 : fst4 [a] = a := rfl
    have hr : b0v (y : Int) (x : Int) (c : Int) (Q2v a d) (t.1, t.2.1, t.2.2, a.2.2.2) = some (numV (t.1, t.2.1, t.2.2, a.2.2.2) d y x c) := by
      have ei := index_in t (y : Int) (x : Int) (c : Int) ht (by omega) (by omega) (by omega)
      unfold b0v
      show Option.bind (b3u t (y : Int) (x : Int) (c : Int)) _ = _
      rw [ei]
      simp only [Option.bind_some]
      show (bif decide (0 ≤ ((y : Int) * t.2.1 + (x : Int)) * t.2.2 + (c : Int)) then bif decide (((y : Int) * t.2.1 + (x : Int)) * t.2.2 + (c : Int) < (d.length : Int)) then some (IntKind.wrap .i64 (numV (t.1, t.2.1, t.2.2, a.2.2.2) d y x c)) else none else none) = _
      rw [decide_eq_true (by omega), decide_eq_true (by rw [hsz]; omega), i64_in _ (by omega)]
      rfl
    rw [e3]
    unfold b33
    rw [hr]
    exact push8' s2 h3 _ n1)
  rw [hA, all_num hft (Q2u (show 0 ≤ t.1 by omega)) (Q2u (show 0 ≤ t.2.1 by omega)) (Q2u (show 0 ≤ t.2.2 by omega))]
def padF (a : I4) (d : List Int) (y x c : Nat) : Int := if 1 ≤ y ∧ y ≤ a.1.toNat ∧ 1 ≤ x ∧ x ≤ a.2.1.toNat then numV a d (y - 1) (x - 1) c else a.2.2.2
theorem padF_in {a : I4} {d : List Int} (hd : Full a d) {y x c : Nat} (hc : c < a.2.2.1.toNat) : -128 ≤ padF a d y x c ∧ padF a d y x c ≤ 127 := by
  have hl := hd.lim
  have hz := hd.zero
  unfold padF
  split
  · exact num_in hd (by omega) (by omega) (by omega)
  · exact hz
theorem all_pad (a : I4) (d : List Int) (hd : Full a d) (hH : a.1 ≤ 14) (hW : a.2.1 ≤ 14) : a0c (9, [], 0, 0, 1, 0, 1, 0, a.2.2.2, 0, 0, 0, [], []) [a] (d, []) = some (allL (a.1.toNat + 2) (a.2.1.toNat + 2) a.2.2.1.toNat (padF a d), 0) := by
  have hl := hd.lim
  have hz := hd.zero
  have hv : a0x (9, [], 0, 0, 1, 0, 1, 0, a.2.2.2, 0, 0, 0, [], []) [a] = some ((a.1 + 2, a.2.1 + 2, a.2.2.1, a.2.2.2), 0) := by
    refine value_is _ _ (a.1 + 2, a.2.1 + 2, a.2.2.1) 0 0 (by simp) ?_ (by simp [nZ]) (by simp [hd.may]) ?_ ?_ rfl rfl rfl rfl (by simp [nB])
    · simp [a4k, b1d, a64, b1h, a63, b1g, a20, b1f, a17, a62, a39, b1e, a0i, a61, a43, a7h, a7j, b2q, a45, b2p, a0a, a7g, a7i, b2o, a44, b2n, a08, a7f, a6c, b3t, a8j, b5j, a2n, a8k, a4y, a9p, Q2t]
      omega
    · rw [made_pad _ a rfl, i64_in (a.1 + 2) (by omega), i64_in (a.2.1 + 2) (by omega)]
    · rw [Q2l]; simp only; omega
  refine All_run (by simp [nB]) (by simp) hv (d, []) hd.len (a.1.toNat + 2) (a.2.1.toNat + 2) a.2.2.1.toNat (by simp only; omega) (by simp only; omega) (Q2u (show 0 ≤ a.2.2.1 by omega)) _ (fun y x c hy hx hc s s2 h1 h2 h3 => ?_)
  have g := pane_at_eq hd (y := (y : Int) - 1) (x := (x : Int) - 1) (c := (c : Int)) (by omega) (by omega)
  have hat : atV a d ((y : Int) - 1) ((x : Int) - 1) (c : Int) + a.2.2.2 = padF a d y x c := by
    unfold padF
    by_cases hh : 1 ≤ y ∧ y ≤ a.1.toNat ∧ 1 ≤ x ∧ x ≤ a.2.1.toNat
    · rw [if_pos hh, show (y : Int) - 1 = ((y - 1 : Nat) : Int) by omega, show (x : Int) - 1 = ((x - 1 : Nat) : Int) by omega, at_num hd (by omega) (by omega)]
      omega
    · rw [if_neg hh]
      unfold atV
      rw [if_neg (by omega)]
      omega
  have hp := padF_in hd (y := y) (x := x) hc
  rw [pix_pad _ _ _ _ _ _ _ rfl, h1, h2]
  have e3 : fst4 [a] = a := rfl
  rw [e3]
  unfold b30
  rw [i64_in ((y : Int) - 1) (by omega), i64_in ((x : Int) - 1) (by omega), g]
  show pushV s2 (IntKind.wrap .i64 (atV a d ((y : Int) - 1) ((x : Int) - 1) (c : Int) + a.2.2.2)) = _
  rw [hat, i64_in _ (by omega)]
  exact push8' s2 h3 _ hp
end Go.V.P
