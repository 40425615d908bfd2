/- Plain laws of layer 6: nodes that give what they get, or at least what stands for nought. -/
import Derived.Test.YtdgdgoekapekpaaLEvE
namespace Go.V.P
open Go Go.V Go.IntWalk
set_option linter.unusedVariables false
set_option linter.unusedSimpArgs false
set_option maxRecDepth 20000
theorem relu_val (k : Int) (a : I4) (d : List Int) (hd : Full a d) : a8q (8, [k], 0, 0, 0, 0, 1, 0, a.2.2.2, 0, 0, 0, [], []) [a] = some ((a.1, a.2.1, a.2.2.1, a.2.2.2), 0) := by
  have hl := hd.lim
  have hz := hd.zero
  refine value_is _ _ (vS a) 0 0 (by simp) ?_ (by simp [nZ]) (by simp [hd.may]) rfl hd.may rfl rfl rfl rfl (by simp [nB])
  simp [a55, b2f, a68, b2j, a67, b2i, a1z, b2h, a19, a66, a3j, b2g, a0g, a65, a4c, a7k, a7m, b3n, a4e, b3m, a09, a7j, a7l, b3l, a4d, b3k, a08, a7i, a6u, b4k, a8k, b5v, a2x, a8l, a5f, b09, in_iff]
  omega
theorem relu_all (k : Int) (a : I4) (d : List Int) (hd : Full a d) : b68 (8, [k], 0, 0, 0, 0, 1, 0, a.2.2.2, 0, 0, 0, [], []) [a] (d, []) = some (allL a.1.toNat a.2.1.toNat a.2.2.1.toNat (fun y x c => max (numV a d y x c) a.2.2.2), 0) := by
  have hl := hd.lim
  have hz := hd.zero
  have hv : a8q (8, [k], 0, 0, 0, 0, 1, 0, a.2.2.2, 0, 0, 0, [], []) [a] = some ((a.1, a.2.1, a.2.2.1, a.2.2.2), 0) := relu_val k a d hd
  refine All_run (by simp [nB]) (by simp) hv (d, []) hd.len a.1.toNat a.2.1.toNat a.2.2.1.toNat (nat_of (show 0 ≤ a.1 by omega)) (nat_of (show 0 ≤ a.2.1 by omega)) (nat_of (show 0 ≤ a.2.2.1 by omega)) _ (fun y x c hy hx hc s s2 h1 h2 h3 => ?_)
  have g := pane_at_eq hd (y := (y : Int)) (x := (x : Int)) (c := (c : Int)) (by omega) (by omega)
  rw [at_num hd (by omega) (by omega)] at g
  have n1 := num_in hd (y := y) (x := x) (c := c) (by omega) (by omega) (by omega)
  rw [pix_relu _ _ _ _ _ _ _ rfl, h1, h2]
  have e3 : fst4 [a] = a := rfl
  rw [e3]
  unfold b3x
  rw [g]
  show pushV s2 (max (IntKind.wrap .i64 (numV a d y x c - a.2.2.2 + a.2.2.2)) a.2.2.2) = _
  rw [show numV a d y x c - a.2.2.2 + a.2.2.2 = numV a d y x c by omega, i64_in _ (by omega)]
  exact push8' s2 h3 _ (by omega)
theorem index_in (s : I3) (y x c : Int) (hs : mayB s = true) (h1 : 0 ≤ y ∧ y < s.1) (h2 : 0 ≤ x ∧ x < s.2.1) (h3 : 0 ≤ c ∧ c < s.2.2) : b4l s y x c = some ((y * s.2.1 + x) * s.2.2 + c) := by
  have hl := mayB_iff.1 hs
  have hi := idx_in (H := s.1) (W := s.2.1) (C := s.2.2) (by omega) (by omega) (by omega) h1.1 h1.2 h2.1 h2.2 h3.1 h3.2
  unfold b4l
  have e : ∀ h : Int, 1 ≤ h → h ≤ 16 → IntKind.wrap .i64 (h - 1) = h - 1 := fun h a b => i64_in _ (by omega)
  have hw : ∀ x h : Int, 0 ≤ x → x < h → a0t [x] (((a0b (0 : Int) (h - 1)).1).1) (((a0b (0 : Int) (h - 1)).2.1).1) = some true := fun x h a b => by
    have : (((a0b (0 : Int) (h - 1)).1).1) = 0 := rfl
    rw [this]
    have : (((a0b (0 : Int) (h - 1)).2.1).1) = h - 1 := rfl
    rw [this, within1]
    have : inB 0 (h - 1) x = true := inB_iff.2 (by omega)
    rw [this]
  have hr : b2k s y x c = some false := by
    unfold b2k
    rw [shape_may_eq, hs, e s.1 (by omega) (by omega), e s.2.1 (by omega) (by omega), e s.2.2 (by omega) (by omega), hw y s.1 h1.1 h1.2, hw x s.2.1 h2.1 h2.2, hw c s.2.2 h3.1 h3.2]
    rfl
  rw [hr]
  simp only [Option.bind_some, cond_false, a69, b2l]
  rw [i64_in (y * s.2.1) (by omega), i64_in (y * s.2.1 + x) (by omega), i64_in ((y * s.2.1 + x) * s.2.2) (by omega), i64_in _ (by omega)]
theorem reshape_val (k : Int) (a : I4) (d : List Int) (hd : Full a d) (t : I3) (ht : mayB t = true) (hs : sizeV t = sizeV (vS a)) : a8q (11, [k], 0, 0, 0, 0, 1, 0, a.2.2.2, t.1, t.2.1, t.2.2, [], []) [a] = some ((t.1, t.2.1, t.2.2, a.2.2.2), 0) := by
  have hl := hd.lim
  have hz := hd.zero
  have hlt := mayB_iff.1 ht
  have hft : Full (t.1, t.2.1, t.2.2, a.2.2.2) d := ⟨ht, by rw [show vS (t.1, t.2.1, t.2.2, a.2.2.2) = t from rfl, hs]; exact hd.len, hd.bytes, hz⟩
  refine value_is _ _ t 0 0 (by simp) ?_ (by simp [nZ]) (by simp [hd.may]) ?_ ht rfl rfl rfl rfl (by simp [nB])
  · simp [a55, b2f, a68, b2j, a67, b2i, a1z, b2h, a19, a66, a3j, b2g, a0g, a65, a4c, a7k, a7m, b3n, a4e, b3m, a09, a7j, a7l, b3l, a4d, b3k, a08, a7i, a6u, b4k, a8k, b5v, a2x, a8l, a5f, b09, in_iff]
    omega
  · have e1 : a1r (t.1, t.2.1, t.2.2) = sizeV t := ref02_Size_eq t
    have e2 : a1r (a.1, a.2.1, a.2.2.1) = sizeV (vS a) := ref02_Size_eq _
    simp [b0l, b3i, b3h, a4a, a7f, a3h, a64, a3i, b2d, gt, either, e1, e2, hs]
/-- the same numbers, of a shape of the same size -/
theorem reshape_all (k : Int) (a : I4) (d : List Int) (hd : Full a d) (t : I3) (ht : mayB t = true) (hs : sizeV t = sizeV (vS a)) : b68 (11, [k], 0, 0, 0, 0, 1, 0, a.2.2.2, t.1, t.2.1, t.2.2, [], []) [a] (d, []) = some (d, 0) := by
  have hl := hd.lim
  have hz := hd.zero
  have hlt := mayB_iff.1 ht
  have hft : Full (t.1, t.2.1, t.2.2, a.2.2.2) d := ⟨ht, by rw [show vS (t.1, t.2.1, t.2.2, a.2.2.2) = t from rfl, hs]; exact hd.len, hd.bytes, hz⟩
  have hv : a8q (11, [k], 0, 0, 0, 0, 1, 0, a.2.2.2, t.1, t.2.1, t.2.2, [], []) [a] = some ((t.1, t.2.1, t.2.2, a.2.2.2), 0) := reshape_val k a d hd t ht hs
  have hA := All_run (n := (11, [k], 0, 0, 0, 0, 1, 0, a.2.2.2, t.1, t.2.1, t.2.2, [], [])) (by simp [nB]) (by simp) hv (d, []) hd.len t.1.toNat t.2.1.toNat t.2.2.toNat (nat_of (show 0 ≤ t.1 by omega)) (nat_of (show 0 ≤ t.2.1 by omega)) (nat_of (show 0 ≤ t.2.2 by omega)) (numV (t.1, t.2.1, t.2.2, a.2.2.2) d) (fun y x c hy hx hc s s2 h1 h2 h3 => by
    have n1 := num_in hft (y := y) (x := x) (c := c) (by simp only; omega) (by simp only; omega) (by simp only; omega)
    have hi := idx_in (H := t.1) (W := t.2.1) (C := t.2.2) (y := (y : Int)) (x := (x : Int)) (c := (c : Int)) (by omega) (by omega) (by omega) (by omega) (by omega) (by omega) (by omega) (by omega) (by omega)
    have hsz := hft.size
    simp only at hsz
    rw [pix_reshape _ _ _ _ _ _ _ rfl, h1, h2]
    have e3 : fst4 [a] = a := rfl
    have hr : b1k (y : Int) (x : Int) (c : Int) (paneV a d) (t.1, t.2.1, t.2.2, a.2.2.2) = some (numV (t.1, t.2.1, t.2.2, a.2.2.2) d y x c) := by
      have ei := index_in t (y : Int) (x : Int) (c : Int) ht (by omega) (by omega) (by omega)
      unfold b1k
      show Option.bind (b4l t (y : Int) (x : Int) (c : Int)) _ = _
      rw [ei]
      simp only [Option.bind_some]
      show (bif decide (0 ≤ ((y : Int) * t.2.1 + (x : Int)) * t.2.2 + (c : Int)) then bif decide (((y : Int) * t.2.1 + (x : Int)) * t.2.2 + (c : Int) < (d.length : Int)) then some (IntKind.wrap .i64 (numV (t.1, t.2.1, t.2.2, a.2.2.2) d y x c)) else none else none) = _
      rw [decide_eq_true (by omega), decide_eq_true (by rw [hsz]; omega), i64_in _ (by omega)]
      rfl
    rw [e3]
    unfold b40
    rw [hr]
    exact push8' s2 h3 _ n1)
  rw [hA, all_num hft (nat_of (show 0 ≤ t.1 by omega)) (nat_of (show 0 ≤ t.2.1 by omega)) (nat_of (show 0 ≤ t.2.2 by omega))]
end Go.V.P
