/- Plain laws of layer 5: what sums and products make, told at once. -/
import Derived.Test.YtdgdgoekapekpaaGreatLPairA
namespace Go.V.P
open Go Go.V Go.IntWalk
set_option linter.unusedVariables false
set_option linter.unusedSimpArgs false
set_option maxRecDepth 20000
/-- the number itself, told by its place -/
def numV (a : I4) (d : List Int) (y x c : Nat) : Int := gt d ((((y : Int) * a.2.1 + (x : Int)) * a.2.2.1 + (c : Int))) 0
theorem at_num {a : I4} {d : List Int} (h : Full a d) {y x c : Nat} (hy : (y : Int) < a.1) (hx : (x : Int) < a.2.1) : atV a d (y : Int) (x : Int) (c : Int) = numV a d y x c - a.2.2.2 := by
  unfold atV numV
  rw [if_pos ⟨by omega, hy, by omega, hx⟩]
theorem num_in {a : I4} {d : List Int} (h : Full a d) {y x c : Nat} (hy : (y : Int) < a.1) (hx : (x : Int) < a.2.1) (hc : (c : Int) < a.2.2.1) : -128 ≤ numV a d y x c ∧ numV a d y x c ≤ 127 := by
  have hl := h.lim
  have hi := idx_in (H := a.1) (W := a.2.1) (C := a.2.2.1) (y := (y : Int)) (x := (x : Int)) (c := (c : Int)) (by omega) (by omega) (by omega) (by omega) hy (by omega) hx (by omega) hc
  exact gt_i8 h.bytes _ (by omega) (by rw [h.size]; omega)
/-- a value's numbers, place by place, are its numbers -/
theorem all_num {a : I4} {d : List Int} (h : Full a d) {H W C : Nat} (hH : a.1 = H) (hW : a.2.1 = W) (hC : a.2.2.1 = C) : allL H W C (numV a d) = d := by
  have hs := h.size
  rw [hH, hW, hC] at hs
  have hlen : d.length = H * (W * C) := by
    have : (d.length : Int) = ((H * (W * C) : Nat) : Int) := by rw [hs]; simp only [Int.natCast_mul]; rw [Int.mul_assoc]
    omega
  apply List.ext_getElem?
  intro i
  unfold allL
  rw [List.getElem?_map]
  by_cases hi : i < H * (W * C)
  · rw [List.getElem?_range hi, List.getElem?_eq_getElem (by rw [hlen]; exact hi)]
    unfold numV gt
    have e : (((i / (W * C) : Nat) : Int) * a.2.1 + ((i % (W * C) / C : Nat) : Int)) * a.2.2.1 + ((i % (W * C) % C : Nat) : Int) = ((i : Nat) : Int) := by
      rw [hW, hC]
      have e1 : i % (W * C) / C * C + i % (W * C) % C = i % (W * C) := by rw [Nat.mul_comm]; exact Nat.div_add_mod _ _
      have e2 : i / (W * C) * (W * C) + i % (W * C) = i := by rw [Nat.mul_comm]; exact Nat.div_add_mod _ _
      have e3 : (i / (W * C) * W + i % (W * C) / C) * C + i % (W * C) % C = i := by rw [Nat.add_mul, Nat.mul_assoc, Nat.add_assoc, e1, e2]
      have := congrArg (fun n : Nat => (n : Int)) e3
      simp only [Int.natCast_add, Int.natCast_mul] at this
      exact this
    simp only [Option.map_some]
    rw [e, show ((i : Nat) : Int).toNat = i by omega, List.getD_eq_getElem?_getD, List.getElem?_eq_getElem (by rw [hlen]; exact hi)]
    rfl
  · rw [List.getElem?_eq_none (by simp only [List.length_range]; omega), List.getElem?_eq_none (by omega)]
    rfl
/-- numbers made at each place are as many as a value's, and bytes -/
theorem full_all {a : I4} {H W C : Nat} (hm : mayB (vS a) = true) (hz : -128 ≤ a.2.2.2 ∧ a.2.2.2 ≤ 127) (hH : a.1 = H) (hW : a.2.1 = W) (hC : a.2.2.1 = C) (F : Nat → Nat → Nat → Int) (hF : ∀ y x c, -128 ≤ F y x c ∧ F y x c ≤ 127) : Full a (allL H W C F) := by
  refine ⟨hm, ?_, ?_, hz⟩
  · rw [allL_len]
    unfold sizeV
    rw [if_pos hm]
    simp only [vS, hH, hW, hC, Int.natCast_mul]
    rw [Int.mul_assoc]
  · intro v hv
    unfold allL at hv
    obtain ⟨i, _, e⟩ := List.mem_map.1 hv
    rw [← e]
    exact hF _ _ _
theorem gt_replicate {n : Nat} {z : Int} {i : Int} (h0 : 0 ≤ i) (h1 : i < n) : gt (List.replicate n z) i 0 = z := by
  unfold gt
  rw [List.getD_eq_getElem?_getD, List.getElem?_replicate, if_pos (by omega)]
  rfl
theorem nat_of {x : Int} (h : 0 ≤ x) : x = (x.toNat : Int) := by omega
/-- a sum, or a product, of two values of one shape -/
theorem all_pair (op : Int) (ho : op = 6 ∨ op = 7) (a : I4) (d e : List Int) (hd : Full a d) (he : Full a e) (mul shift : Int) (hm : 1 ≤ mul ∧ mul ≤ 32767) (hs : 0 ≤ shift ∧ shift ≤ 31) :
    kern_All (op, [], 0, 0, 0, 0, mul, shift, a.2.2.2, 0, 0, 0, [], []) [a, a] (d, e) = some (allL a.1.toNat a.2.1.toNat a.2.2.1.toNat (fun y x c => scaleV (if op = 7 then (numV a d y x c - a.2.2.2) * (numV a e y x c - a.2.2.2) else (numV a d y x c - a.2.2.2) + (numV a e y x c - a.2.2.2)) mul shift a.2.2.2), 0) := by
  have hl := hd.lim
  have hz := hd.zero
  have hH := nat_of (show 0 ≤ a.1 by omega)
  have hW := nat_of (show 0 ≤ a.2.1 by omega)
  have hC := nat_of (show 0 ≤ a.2.2.1 by omega)
  have hv : ref03_Value (op, [], 0, 0, 0, 0, mul, shift, a.2.2.2, 0, 0, 0, [], []) [a, a] = some ((a.1, a.2.1, a.2.2.1, a.2.2.2), 0) := by
    refine value_is _ _ (vS a) 0 0 (by simp) ?_ ?_ ?_ ?_ hd.may ?_ rfl rfl rfl (by simp [nB])
    · rcases ho with rfl | rfl <;>
        simp [ref03_node, ref03_node_q, ref03_node_r17_p, ref03_node_r17_q, ref03_node_r16_p, ref03_node_r16_q, ref03_node_r15_p, ref03_node_r15_q, ref03_node_j13_p, ref03_node_j13_q, ref03_node_r13_p, ref03_node_r13_q, ref03_node_j10_p, ref03_node_j10_q, ref03_node_j8_p, ref03_node_j8_q, ref03_node_r9_p, ref03_node_r9_q, ref03_node_r8_p, ref03_node_r8_q, ref03_node_j5_p, ref03_node_j5_q, ref03_node_r6_p, ref03_node_r6_q, ref03_node_r4_p, ref03_node_r4_q, ref03_node_j2_p, ref03_node_j2_q, ref03_Two, ref03_Two_q, ref03_Two_r1_p, ref03_Two_r1_q, ref03_Window, ref03_Window_q, ref03_Window_r1_p, ref03_Window_r1_q, in_iff] <;> omega
    · rcases ho with rfl | rfl <;> rfl
    · simp [hd.may]
    · rcases ho with rfl | rfl <;> simp [ref03_made, ref03_made_r1_p, ref03_made_j2_p, ref03_made_j3_p, ref03_made_j3_q, ref03_made_j13_p, ref03_made_j13_q, ref03_made_r15_p, gt, either, vS]
    · rcases ho with rfl | rfl <;> rfl
  refine All_run (by simp [nB]) (by simp) hv (d, e) ⟨hd.len, he.len⟩ a.1.toNat a.2.1.toNat a.2.2.1.toNat hH hW hC _ (fun y x c hy hx hc s s2 h1 h2 h3 => ?_)
  have g1 := pane_at_eq hd (y := (y : Int)) (x := (x : Int)) (c := (c : Int)) (by omega) (by omega)
  have g2 := pane_at_eq he (y := (y : Int)) (x := (x : Int)) (c := (c : Int)) (by omega) (by omega)
  rw [at_num hd (by omega) (by omega)] at g1
  rw [at_num he (by omega) (by omega)] at g2
  have n1 := num_in hd (y := y) (x := x) (c := c) (by omega) (by omega) (by omega)
  have n2 := num_in he (y := y) (x := x) (c := c) (by omega) (by omega) (by omega)
  rw [pix_pair _ _ _ _ _ _ _ ho, h1, h2]
  have e2 : pane2 [a, a] (d, e) = paneV a e := rfl
  have e3 : fst4 [a, a] = a := rfl
  rw [e2, e3]
  unfold kern_pair_1 kern_pair_1_r1_p
  simp only [g1, g2, Option.bind_some, fixed_Scale_eq]
  have key : ∀ v : Int, -128 ≤ v ∧ v ≤ 127 → pushV s2 v = some (s2.1 ++ [v]) := fun v hv => by rw [push_ok s2 v h3, wrap8_in hv]
  rcases ho with rfl | rfl
  · have w := i64_in (numV a d y x c - a.2.2.2 + (numV a e y x c - a.2.2.2)) (by omega)
    rw [w]
    exact key _ (scale_in _ _ _ _)
  · have hp : -65025 ≤ (numV a d y x c - a.2.2.2) * (numV a e y x c - a.2.2.2) ∧ (numV a d y x c - a.2.2.2) * (numV a e y x c - a.2.2.2) ≤ 65025 := by
      have hu : -255 ≤ numV a d y x c - a.2.2.2 ∧ numV a d y x c - a.2.2.2 ≤ 255 := by omega
      have hv : -255 ≤ numV a e y x c - a.2.2.2 ∧ numV a e y x c - a.2.2.2 ≤ 255 := by omega
      generalize numV a d y x c - a.2.2.2 = u at *
      generalize numV a e y x c - a.2.2.2 = v at *
      have h := Int.natAbs_mul u v
      have h2 : u.natAbs * v.natAbs ≤ 255 * 255 := Nat.mul_le_mul (by omega) (by omega)
      omega
    have w := i64_in ((numV a d y x c - a.2.2.2) * (numV a e y x c - a.2.2.2)) (by omega)
    rw [w]
    exact key _ (scale_in _ _ _ _)
theorem all_same {H W C : Nat} (z : Int) : allL H W C (fun _ _ _ => z) = List.replicate (H * (W * C)) z := by
  unfold allL
  rw [List.map_const']
  simp
end Go.V.P
