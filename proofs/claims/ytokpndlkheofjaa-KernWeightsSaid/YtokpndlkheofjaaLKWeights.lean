/- Plain laws of layer 5: KernWeights. -/
import Derived.Test.YtokpndlkheofjaaLKCAll
import Derived.Test.YtokpndlkheofjaaKw6
import Derived.Test.YtokpndlkheofjaaLPair
namespace Go.V.P
open Go Go.V Go.IntWalk
set_option linter.unusedVariables false
set_option linter.unusedSimpArgs false
set_option maxRecDepth 20000
def eyeF (x c : Nat) : Int := if x = c then 1 else 0
theorem out_one {H : Int} (h1 : 1 ≤ H) (h2 : H ≤ 16) : outV H 1 1 0 = H := by
  unfold outV
  rw [if_pos ⟨winB_iff.2 (by omega), by omega⟩, show H + 2 * 0 - 1 = H - 1 by omega, Int.ediv_one]
  omega
theorem val_win1 (a : I4) (d : List Int) (hd : Full a d) (op : Int) (ho : op = 1 ∨ op = 2) (w b : List Int) (O : Int) (hO : O = if op = 1 then a.2.2.1 else 0) (hw : (w.length : Int) = if op = 1 then a.2.2.1 * a.2.2.1 else a.2.2.1) (hb : (b.length : Int) = a.2.2.1) (hoff : b.any offB = false) :
    ref03_Value (op, [], 1, 1, 0, O, 1, 0, 0, 0, 0, 0, w, b) [a] = some ((a.1, a.2.1, a.2.2.1, 0), 0) := by
  have hl := hd.lim
  have b1 := mul_in' (a := a.2.2.1) (b := a.2.2.1) (c := 8) (d := 8) (by omega) (by omega) (by omega) (by omega)
  refine value_is _ _ (a.1, a.2.1, a.2.2.1) (if op = 1 then a.2.2.1 * a.2.2.1 else a.2.2.1) a.2.2.1 (by simp) ?_ ?_ ?_ ?_ hd.may ?_ hw hb hoff (by show b.length < _; omega)
  · rcases ho with rfl | rfl <;> simp at hO <;> subst hO <;>
      simp [ref03_node, ref03_node_q, ref03_node_r17_p, ref03_node_r17_q, ref03_node_r16_p, ref03_node_r16_q, ref03_node_r15_p, ref03_node_r15_q, ref03_node_j13_p, ref03_node_j13_q, ref03_node_r13_p, ref03_node_r13_q, ref03_node_j10_p, ref03_node_j10_q, ref03_node_j8_p, ref03_node_j8_q, ref03_node_r9_p, ref03_node_r9_q, ref03_node_r8_p, ref03_node_r8_q, ref03_node_j5_p, ref03_node_j5_q, ref03_node_r6_p, ref03_node_r6_q, ref03_node_r4_p, ref03_node_r4_q, ref03_node_j2_p, ref03_node_j2_q, ref03_Two, ref03_Two_q, ref03_Two_r1_p, ref03_Two_r1_q, ref03_Window, ref03_Window_q, ref03_Window_r1_p, ref03_Window_r1_q, in_iff] <;> omega
  · rcases ho with rfl | rfl <;> rfl
  · simp [hd.may]
  · have o1 := out_one (H := a.1) (by omega) (by omega)
    have o2 := out_one (H := a.2.1) (by omega) (by omega)
    rcases ho with rfl | rfl <;> simp at hO <;> subst hO <;> simp [ref03_made, ref03_made_r1_p, ref03_made_j2_p, ref03_made_j3_p, ref03_made_j3_q, ref03_made_r10_p, ref03_made_j8_p, ref03_made_j8_q, ref02_Out_eq, gt, either, o1, o2]
  · rcases ho with rfl | rfl
    · simp at hO
      subst hO
      show some (IntKind.wrap .i64 (IntKind.wrap .i64 (IntKind.wrap .i64 (1 * 1) * a.2.2.1) * a.2.2.1), a.2.2.1) = _
      rw [show IntKind.wrap .i64 (1 * 1) = 1 by decide, Int.one_mul, i64_in a.2.2.1 (by omega), i64_in (a.2.2.1 * a.2.2.1) (by omega)]
      rfl
    · show some (IntKind.wrap .i64 (IntKind.wrap .i64 (1 * 1) * a.2.2.1), a.2.2.1) = _
      rw [show IntKind.wrap .i64 (1 * 1) = 1 by decide, Int.one_mul, i64_in a.2.2.1 (by omega)]
      rfl
theorem val_full1 (a : I4) (d : List Int) (hd : Full a d) (w b : List Int) (hw : (w.length : Int) = sizeV (vS a)) (hb : b.length = 1) (hoff : b.any offB = false) :
    ref03_Value (3, [], 0, 0, 0, 1, 1, 0, 0, 0, 0, 0, w, b) [a] = some ((1, 1, 1, 0), 0) := by
  have hl := hd.lim
  have hs := sizeV_in (vS a)
  refine value_is _ _ (1, 1, 1) (sizeV (vS a)) 1 (by simp) ?_ ?_ ?_ ?_ rfl ?_ hw (by show (b.length : Int) = 1; omega) hoff (by show b.length < _; omega)
  · rfl
  · rfl
  · simp [hd.may]
  · simp [ref03_made, ref03_made_r1_p, ref03_made_j2_p, ref03_made_j3_p, ref03_made_j3_q, gt, either]
  · show some (IntKind.wrap .i64 (ref02_Size (vS a) * 1), 1) = _
    rw [ref02_Size_eq, Int.mul_one, i64_in _ (by omega)]
theorem scale_one {acc : Int} (h : -2147483648 ≤ acc ∧ acc ≤ 2147483647) : scaleV acc 1 0 0 = clamp8 acc := by
  unfold scaleV
  rw [show min (max acc (-2147483648)) 2147483647 = acc by omega, show min (max (1 : Int) 1) 32767 = 1 by decide, Int.mul_one, show p2 (sh 0) = 1 by decide, rnd_one, show clamp8 0 = 0 by decide, Int.zero_add]
theorem gt_rep {n : Nat} {v : Int} {c : Nat} (h : c < n) : gt (List.replicate n v) (c : Int) 0 = v := gt_replicate (by omega) (by omega)
/-- a window of one of OpConv -/
theorem conv_one (a : I4) (d : List Int) (hd : Full a d) (C : Nat) (hC : a.2.2.1 = C) (b : Int) (hb : -999 ≤ b ∧ b ≤ 999) {y x c : Nat} (hy : (y : Int) < a.1) (hx : (x : Int) < a.2.1) (hc : c < C) (op : Int) (w : List Int) (k : Int) (O : Int)
    (hw : op = 1 ∧ w = rowL C C eyeF ∧ k = 1 ∨ op = 2 ∧ w = List.replicate C k ∧ (k = 0 ∨ k = 1)) :
    convV (op, [], 1, 1, 0, O, 1, 0, 0, 0, 0, 0, w, List.replicate C b) a d y x c = clamp8 (k * (numV a d y x c - a.2.2.2) + b) := by
  have hl := hd.lim
  have hz := hd.zero
  have n1 := num_in hd (y := y) (x := x) (c := c) hy hx (by omega)
  have e1 : ∀ q : Nat, (q : Int) * 1 - 0 + ((0 : Nat) : Int) = (q : Int) := fun q => by omega
  have hcell : cellV (op, [], 1, 1, 0, O, 1, 0, 0, 0, 0, 0, w, List.replicate C b) a d y x c 0 0 = k * (numV a d y x c - a.2.2.2) := by
    rcases hw with ⟨rfl, rfl, rfl⟩ | ⟨rfl, rfl, hk⟩
    · unfold cellV
      rw [if_neg (show ¬ (1 : Int) = 2 by decide)]
      simp only [e1, nW]
      rw [sumN_congr (g := fun e => (atV a d (y : Int) (x : Int) (e : Int)) * (if c = e then 1 else 0)) _ (fun e he => by
        rw [show (((c : Int) * 1 + ((0 : Nat) : Int)) * 1 + ((0 : Nat) : Int)) * a.2.2.1 + (e : Int) = ((c * C + e : Nat) : Int) by rw [Int.natCast_add, Int.natCast_mul, hC, show (((c : Int) * 1 + ((0 : Nat) : Int)) * 1 + ((0 : Nat) : Int)) = (c : Int) by omega], row_at eyeF hc (by omega)]
        rfl), sumN_pick, if_pos (by omega), at_num hd hy hx, Int.one_mul]
    · unfold cellV
      rw [if_pos rfl]
      simp only [e1, nW]
      rw [show (((c : Int) * 1 + ((0 : Nat) : Int)) * 1 + ((0 : Nat) : Int)) = (c : Int) by omega, gt_rep hc, at_num hd hy hx, Int.mul_comm]
  have hS : convS (op, [], 1, 1, 0, O, 1, 0, 0, 0, 0, 0, w, List.replicate C b) a d y x c = k * (numV a d y x c - a.2.2.2) := by
    unfold convS
    show sumN 1 (fun i => sumN 1 (fun j => cellV _ a d y x c i j)) = _
    simp only [sumN, Int.zero_add]
    exact hcell
  unfold convV
  rw [hS]
  show scaleV (gt (List.replicate C b) (c : Int) 0 + _) 1 0 0 = _
  have hk : k = 0 ∨ k = 1 := by rcases hw with ⟨_, _, h⟩ | ⟨_, _, h⟩; exact .inr h; exact h
  rw [gt_rep hc, Int.add_comm]
  exact scale_one (by rcases hk with rfl | rfl <;> omega)
theorem allL_gt {H W C : Nat} (F : Nat → Nat → Nat → Int) {i : Nat} (hi : i < H * (W * C)) : gt (allL H W C F) (i : Int) 0 = F (i / (W * C)) (i % (W * C) / C) (i % (W * C) % C) := by
  unfold gt allL
  rw [show ((i : Int).toNat) = i by omega, List.getD_eq_getElem?_getD, List.getElem?_map, List.getElem?_range hi]
  rfl
theorem sumN_succ (n : Nat) (f : Nat → Int) : sumN (n + 1) f = sumN n f + f n := rfl
theorem KernWeights_true (x : Data) (bias : Int) (kx : Ts.ok tsData x) (kb : Ts.ok (.one (.int .i64)) bias) : law05_KernWeights x bias = some true := by
  unfold law05_KernWeights
  rw [shown05]
  simp only [Option.bind_some]
  rcases pair_run x kx with hp | ⟨a, d, e, hd, he, hp⟩
  · rw [hp]; rfl
  · have hl := hd.lim
    have hz := hd.zero
    have hH := nat_of (show 0 ≤ a.1 by omega)
    have hW := nat_of (show 0 ≤ a.2.1 by omega)
    have hC := nat_of (show 0 ≤ a.2.2.1 by omega)
    have hlenD : d.length = a.1.toNat * (a.2.1.toNat * a.2.2.1.toNat) := by
      have := congrArg List.length (all_num hd hH hW hC)
      rw [allL_len] at this
      exact this.symm
    have hbig : a.1.toNat * (a.2.1.toNat * a.2.2.1.toNat) ≤ 16 * (16 * 8) := Nat.mul_le_mul (by omega) (Nat.mul_le_mul (by omega) (by omega))
    have hb : -999 ≤ Int.tmod bias 1000 ∧ Int.tmod bias 1000 ≤ 999 := by
      have h1 := Int.tmod_lt_of_pos bias (show (0 : Int) < 1000 by omega)
      have h2 := Int.tmod_lt_of_pos (-bias) (show (0 : Int) < 1000 by omega)
      rw [Int.neg_tmod] at h2
      omega
    have hw32 : IntKind.wrap .i32 (Int.tmod bias 1000) = Int.tmod bias 1000 := i32_in _ (by omega)
    have e1 : (([a, a] : List I4).take (Int.toNat 1)).drop (Int.toNat 0) = [a] := rfl
    have hr5 : law05_KernWeights_r5_p ([a, a], (d, e), true) = some () := rfl
    have hr6 : law05_KernWeights_r6_p ([a, a], (d, e), true) = some (a.1, a.2.1, a.2.2.1) := rfl
    rw [hp]
    simp only [Bool.not_true, cond_false, Option.bind_some, hr5, hr6, e1, hw32]
    have hb32 : ∀ s, law05_KernWeights_r21_p bias s = bif decide (s.2.1.length + ([Int.tmod bias 1000] : List Int).length ≤ maxL) then some (s.2.1 ++ [Int.tmod bias 1000]) else none := fun s => by
      unfold law05_KernWeights_r21_p
      rw [hw32]
    have hr39 : ∀ i : Nat, i < d.length → law05_KernWeights_r39_p bias ([a, a], (d, e), true) (i : Int) = some (clamp8 (gt d (i : Int) 0 - a.2.2.2 + Int.tmod bias 1000)) := fun i hi => by
      have hdi := gt_i8 hd.bytes (i : Int) (by omega) (by omega)
      have hg : gt ([a] : List I4) 0 dI4 = a := rfl
      unfold law05_KernWeights_r39_p
      simp only [e1, hw32, hg]
      rw [decide_eq_true (by omega), decide_eq_true (by omega), i64_in (gt d (i : Int) 0) (by omega), i64_in (gt d (i : Int) 0 - a.2.2.2) (by omega), i64_in (Int.tmod bias 1000) (by omega), i64_in _ (by omega)]
      rfl
    have hr40 : ∀ p q r (i : Nat) v, i < p.length → q.length = p.length → r.length = p.length → gt p (i : Int) 0 = v → gt q (i : Int) 0 = v → gt r (i : Int) 0 = clamp8 (Int.tmod bias 1000) → -128 ≤ v ∧ v ≤ 127 → law05_KernWeights_r40_p bias (p, 0) (q, 0) (r, 0) (i : Int) v = some false := fun p q r i v hi hq hr g1 g2 g3 hv => by
      have h3 := clamp8_in (Int.tmod bias 1000)
      unfold law05_KernWeights_r40_p
      simp only [hw32, g1, g2, g3, hq, hr]
      rw [decide_eq_true (by omega), decide_eq_true (by omega : (i : Int) < (p.length : Int)), i64_in v (by omega), i64_in (Int.tmod bias 1000) (by omega), i64_in (clamp8 _) (by omega)]
      simp only [cond_true, bne_self_eq_false, cond_false]
      unfold clamp8
      simp
    have hr32 : ∀ (l : List Int) (s : Int) (i : Nat), i < d.length → -1000000 ≤ s ∧ s ≤ 1000000 → law05_KernWeights_r32_p ([a, a], (d, e), true) (l, s, (i : Int)) = some (s + (gt d (i : Int) 0 - a.2.2.2)) := fun l s i hi hs => by
      have hdi := gt_i8 hd.bytes (i : Int) (by omega) (by omega)
      have hg : gt ([a] : List I4) 0 dI4 = a := rfl
      unfold law05_KernWeights_r32_p
      simp only [e1, hg]
      rw [decide_eq_true (by omega), decide_eq_true (by omega), i64_in (gt d (i : Int) 0) (by omega), i64_in (s + gt d (i : Int) 0) (by omega), i64_in _ (by omega)]
      simp only [cond_true]
      rw [show decide ((0 : Int) < (([a] : List I4).length : Int)) = true from rfl, show s + gt d (i : Int) 0 - a.2.2.2 = s + (gt d (i : Int) 0 - a.2.2.2) by omega]
      rfl
    have hoff1 : ∀ n, (List.replicate n (Int.tmod bias 1000)).any offB = false := fun n => by
      rw [List.any_eq_false]
      intro v hv
      rw [(List.mem_replicate.1 hv).2]
      unfold offB
      rw [i64_in _ (by omega), (in_iff _ _ _).2 (by omega)]
      decide
    generalize hB : Int.tmod bias 1000 = b at *
    generalize hCn : a.2.2.1.toNat = C at *
    have hC8 : 1 ≤ C ∧ C ≤ 8 := by omega
    have hCC : C * C ≤ 8 * 8 := Nat.mul_le_mul hC8.2 hC8.2
    -- weights and biases
    have inner : ∀ (i : Nat) (u1 u2 u3 : List Int), u1.length < 100 → iterN (law05_KernWeights_l15_p (a.1, a.2.1, a.2.2.1) (u1, u2, u3, (i : Int))) LL (u1, 0) = some (u1 ++ (List.range C).map (eyeF i), (C : Int)) := fun i u1 u2 u3 hu => by
      have := iterN_for (p := law05_KernWeights_l15_p (a.1, a.2.1, a.2.2.1) (u1, u2, u3, (i : Int))) (z := (u1 ++ (List.range C).map (eyeF i), (C : Int))) C (fun k => (u1 ++ (List.range k).map (eyeF i), (k : Int))) LL (LL_lt (by omega)) (fun k hk => by
        have hj : law05_KernWeights_j18_p (u1, u2, u3, (i : Int)) (u1 ++ (List.range k).map (eyeF i), (k : Int)) = eyeF i k := by
          simp only [law05_KernWeights_j18_p, law05_KernWeights_j18_q]
          unfold eyeF
          by_cases h : i = k
          · subst h; simp
          · rw [if_neg h, show (((i : Int)) == (k : Int)) = false by simp only [beq_eq_false_iff_ne]; omega]; rfl
        have hr20 : law05_KernWeights_r20_p (u1, u2, u3, (i : Int)) (u1 ++ (List.range k).map (eyeF i), (k : Int)) = some () := by
          unfold law05_KernWeights_r20_p
          rw [decide_eq_true (by simp only [List.length_append, List.length_map, List.length_range, List.length_cons, List.length_nil]; unfold maxL; omega)]
          rfl
        unfold law05_KernWeights_l15_p
        rw [hr20, hj]
        simp only []
        rw [decide_eq_true (by omega : (k : Int) < a.2.2.1), i64_in ((k : Int) + 1) (by omega)]
        simp only [cond_true, Option.bind_some]
        rw [List.range_succ, List.map_append, ← List.append_assoc]
        rfl) (by
        unfold law05_KernWeights_l15_p
        simp only []
        rw [decide_eq_false (by omega)]
        rfl)
      simp only [List.range_zero, List.map_nil, List.append_nil] at this
      exact this
    have hfill : iterN (law05_KernWeights_l12_p bias (a.1, a.2.1, a.2.2.1)) LL ([], [], [], 0) = some (rowL C C eyeF, List.replicate C b, List.replicate C 1, (C : Int)) := by
      have h0 : rowL 0 C eyeF = [] := by unfold rowL; simp
      have := iterN_for (p := law05_KernWeights_l12_p bias (a.1, a.2.1, a.2.2.1)) (z := (rowL C C eyeF, List.replicate C b, List.replicate C 1, (C : Int))) C (fun i => (rowL i C eyeF, List.replicate i b, List.replicate i 1, (i : Int))) LL (LL_lt (by omega)) (fun i hi => by
        have hm : i * C ≤ 8 * 8 := Nat.mul_le_mul (by omega) hC8.2
        have h22 : law05_KernWeights_r22_p (rowL i C eyeF, List.replicate i b, List.replicate i 1, (i : Int)) = some () := by
          unfold law05_KernWeights_r22_p
          rw [decide_eq_true (by simp only [List.length_replicate, List.length_cons, List.length_nil]; unfold maxL; omega)]
          rfl
        have h21 : law05_KernWeights_r21_p bias (rowL i C eyeF, List.replicate i b, List.replicate i 1, (i : Int)) = some (List.replicate (i + 1) b) := by
          rw [hb32]
          rw [decide_eq_true (by simp only [List.length_replicate, List.length_cons, List.length_nil]; unfold maxL; omega), List.replicate_succ']
          rfl
        unfold law05_KernWeights_l12_p
        rw [h21, h22]
        simp only []
        rw [inner i _ _ _ (by rw [rowL_len]; omega), decide_eq_true (by omega : (i : Int) < a.2.2.1), i64_in ((i : Int) + 1) (by omega)]
        simp only [cond_true, Option.bind_some]
        rw [rowL_succ _ _ _ (by omega), List.replicate_succ' (n := i) (a := (1 : Int))]
        rfl) (by
        unfold law05_KernWeights_l12_p
        simp only []
        rw [decide_eq_false (by omega)]
        rfl)
      rw [h0] at this
      exact this
    have hall1 : iterN (law05_KernWeights_l29_p ([a, a], (d, e), true)) LL ([], IntKind.wrap .i64 b, 0) = some (List.replicate d.length 1, b + sumN d.length (fun k => gt d (k : Int) 0 - a.2.2.2), (d.length : Int)) := by
      have hin : ∀ i : Nat, i < d.length → -255 ≤ gt d (i : Int) 0 - a.2.2.2 ∧ gt d (i : Int) 0 - a.2.2.2 ≤ 255 := fun i hi => by
        have hdi := gt_i8 hd.bytes (i : Int) (by omega) (by omega)
        omega
      have hsum : ∀ i : Nat, i ≤ d.length → -522240 ≤ sumN i (fun k => gt d (k : Int) 0 - a.2.2.2) ∧ sumN i (fun k => gt d (k : Int) 0 - a.2.2.2) ≤ 522240 := fun i hi => by
        have h1 := sumN_in (f := fun k => gt d (k : Int) 0 - a.2.2.2) (B := 255) (by omega) i (fun k hk => hin k (by omega))
        have h2 : (i : Int) * 255 ≤ 2048 * 255 := Int.mul_le_mul_of_nonneg_right (by omega) (by omega)
        omega
      have := iterN_for (p := law05_KernWeights_l29_p ([a, a], (d, e), true)) (z := (List.replicate d.length 1, b + sumN d.length (fun k => gt d (k : Int) 0 - a.2.2.2), (d.length : Int))) d.length (fun i => (List.replicate i 1, b + sumN i (fun k => gt d (k : Int) 0 - a.2.2.2), (i : Int))) LL (LL_lt (by omega)) (fun i hi => by
        have hs := hsum i (by omega)
        have h31 : law05_KernWeights_r31_p (List.replicate i 1, b + sumN i (fun k => gt d (k : Int) 0 - a.2.2.2), (i : Int)) = some () := by
          unfold law05_KernWeights_r31_p
          rw [decide_eq_true (by simp only [List.length_replicate, List.length_cons, List.length_nil]; unfold maxL; omega)]
          rfl
        unfold law05_KernWeights_l29_p
        rw [h31, hr32 _ _ i hi (by omega)]
        simp only []
        rw [decide_eq_true (by omega : (i : Int) < (d.length : Int)), i64_in ((i : Int) + 1) (by omega), sumN_succ, ← Int.add_assoc]
        simp only [cond_true, Option.bind_some]
        rw [List.replicate_succ']
        rfl) (by
        unfold law05_KernWeights_l29_p
        simp only []
        rw [decide_eq_false (by omega)]
        rfl)
      simp only [sumN, Int.add_zero] at this
      rw [i64_in b (by omega)]
      exact this
    have i8e : i8s (rowL C C eyeF) := fun v hv => by
      unfold rowL at hv
      obtain ⟨i, _, ev⟩ := List.mem_map.1 hv
      rw [← ev]
      unfold eyeF
      split <;> omega
    have i8r : ∀ (n : Nat) (k : Int), -128 ≤ k ∧ k ≤ 127 → i8s (List.replicate n k) := fun n k hk v hv => by rw [(List.mem_replicate.1 hv).2]; exact hk
    have b32 : ∀ n : Nat, ∀ v ∈ List.replicate n b, -2147483648 ≤ v ∧ v ≤ 2147483647 := fun n v hv => by rw [(List.mem_replicate.1 hv).2]; omega
    have P := (conv_all (by simp [nB]; omega) (val_win1 a d hd 1 (.inl rfl) (rowL C C eyeF) (List.replicate C b) a.2.2.1 rfl (by rw [rowL_len, if_pos rfl, hC, Int.natCast_mul]) (by rw [List.length_replicate, hC]) (hoff1 C)) d hd i8e (b32 C) (.inl rfl)).2.2.2.2.2
    have Q := (conv_all (by simp [nB]; omega) (val_win1 a d hd 2 (.inr rfl) (List.replicate C 1) (List.replicate C b) 0 rfl (by rw [List.length_replicate, if_neg (by decide), hC]) (by rw [List.length_replicate, hC]) (hoff1 C)) d hd (i8r C 1 (by omega)) (b32 C) (.inr rfl)).2.2.2.2.2
    have R := (conv_all (by simp [nB]; omega) (val_win1 a d hd 2 (.inr rfl) (List.replicate C 0) (List.replicate C b) 0 rfl (by rw [List.length_replicate, if_neg (by decide), hC]) (by rw [List.length_replicate, hC]) (hoff1 C)) d hd (i8r C 0 (by omega)) (b32 C) (.inr rfl)).2.2.2.2.2
    have T := (full_alls (by simp [nB]) (val_full1 a d hd (List.replicate d.length 1) [b] (by rw [List.length_replicate]; exact hd.len) rfl (hoff1 1)) d hd (i8r _ 1 (by omega)) (b32 1) rfl).2.2.2
    simp only [] at P Q R
    rw [hCn, allL_congr (G := fun y x c => clamp8 (numV a d y x c - a.2.2.2 + b)) (fun y x c hy hx hc => by
      rw [conv_one a d hd C hC b hb (by omega) (by omega) hc 1 _ 1 _ (.inl ⟨rfl, rfl, rfl⟩), Int.one_mul])] at P
    rw [hCn, allL_congr (G := fun y x c => clamp8 (numV a d y x c - a.2.2.2 + b)) (fun y x c hy hx hc => by
      rw [conv_one a d hd C hC b hb (by omega) (by omega) hc 2 _ 1 _ (.inr ⟨rfl, rfl, .inr rfl⟩), Int.one_mul])] at Q
    rw [hCn, allL_congr (G := fun _ _ _ => clamp8 b) (fun y x c hy hx hc => by
      rw [conv_one a d hd C hC b hb (by omega) (by omega) hc 2 _ 0 _ (.inr ⟨rfl, rfl, .inl rfl⟩), Int.zero_mul, Int.zero_add]), all_same, ← hlenD] at R
    have hT : allL 1 1 (1 : Int).toNat (fun _ _ c => scaleV (gt (nB (3, [], 0, 0, 0, 1, 1, 0, 0, 0, 0, 0, List.replicate d.length 1, [b])) (c : Int) 0 + fullS (3, [], 0, 0, 0, 1, 1, 0, 0, 0, 0, 0, List.replicate d.length 1, [b]) a d c) 1 0 (nZ (3, [], 0, 0, 0, 1, 1, 0, 0, 0, 0, 0, List.replicate d.length 1, [b]))) = [clamp8 (b + sumN d.length (fun k => gt d (k : Int) 0 - a.2.2.2))] := by
      show [scaleV (b + fullS (3, [], 0, 0, 0, 1, 1, 0, 0, 0, 0, 0, List.replicate d.length 1, [b]) a d 0) 1 0 0] = _
      have : fullS (3, [], 0, 0, 0, 1, 1, 0, 0, 0, 0, 0, List.replicate d.length 1, [b]) a d 0 = sumN d.length (fun k => gt d (k : Int) 0 - a.2.2.2) := sumN_congr _ (fun k hk => by
        show _ * gt (List.replicate d.length 1) _ 0 = _
        rw [show ((0 : Nat) : Int) * sizeV (vS a) + (k : Int) = (k : Int) by omega, gt_rep hk, Int.mul_one])
      rw [this]
      have h1 := sumN_in (f := fun k => gt d (k : Int) 0 - a.2.2.2) (B := 255) (by omega) d.length (fun k hk => by
        have hdi := gt_i8 hd.bytes (k : Int) (by omega) (by omega)
        show -255 ≤ gt d (k : Int) 0 - a.2.2.2 ∧ gt d (k : Int) 0 - a.2.2.2 ≤ 255
        omega)
      have h2 : (d.length : Int) * 255 ≤ 2048 * 255 := Int.mul_le_mul_of_nonneg_right (by omega) (by omega)
      rw [scale_one (by omega)]
    simp only [] at T
    rw [hT] at T
    have hr25 : law05_KernWeights_r25_p ([a, a], (d, e), true) (a.1, a.2.1, a.2.2.1) (rowL C C eyeF, List.replicate C b, List.replicate C 1, (C : Int)) = some (List.replicate d.length (clamp8 b), 0) := by
      unfold law05_KernWeights_r25_p
      simp only [e1, hCn]
      rw [decide_eq_true (by omega), decide_eq_true (Int.le_refl _), decide_eq_true (by unfold maxL; omega), R]
      rfl
    simp only [hfill, P, Q, hr25, hall1, T, Option.bind_some]
    have hr34 : law05_KernWeights_r34_p ([a, a], (d, e), true) (allL a.1.toNat a.2.1.toNat C (fun y x c => clamp8 (numV a d y x c - a.2.2.2 + b)), 0) (allL a.1.toNat a.2.1.toNat C (fun y x c => clamp8 (numV a d y x c - a.2.2.2 + b)), 0) (List.replicate d.length (clamp8 b), 0) ([clamp8 (b + sumN d.length (fun k => gt d (k : Int) 0 - a.2.2.2))], 0) = false := by
      simp only [law05_KernWeights_r34_p, law05_KernWeights_r34_q, allL_len, List.length_replicate, ← hlenD]
      simp
    have hloop : iterN (law05_KernWeights_l37_p bias ([a, a], (d, e), true) (allL a.1.toNat a.2.1.toNat C (fun y x c => clamp8 (numV a d y x c - a.2.2.2 + b)), 0) (allL a.1.toNat a.2.1.toNat C (fun y x c => clamp8 (numV a d y x c - a.2.2.2 + b)), 0) (List.replicate d.length (clamp8 b), 0)) LL 0 = some (.inl (d.length : Int)) :=
      iterN_for (p := law05_KernWeights_l37_p bias ([a, a], (d, e), true) (allL a.1.toNat a.2.1.toNat C (fun y x c => clamp8 (numV a d y x c - a.2.2.2 + b)), 0) (allL a.1.toNat a.2.1.toNat C (fun y x c => clamp8 (numV a d y x c - a.2.2.2 + b)), 0) (List.replicate d.length (clamp8 b), 0)) (z := .inl (d.length : Int)) d.length (fun i => (i : Int)) LL (LL_lt (by omega)) (fun i hi => by
        have hi' : i < a.1.toNat * (a.2.1.toNat * C) := by rw [← hlenD]; exact hi
        have g := allL_gt (fun y x c => clamp8 (numV a d y x c - a.2.2.2 + b)) hi'
        have g0 := allL_gt (numV a d) hi'
        rw [all_num hd hH hW hC] at g0
        rw [← g0] at g
        have t4 := i64_in ((i : Int) + 1) (by omega)
        have h40 := hr40 _ _ (List.replicate d.length (clamp8 b)) i _ (by rw [allL_len, ← hlenD]; exact hi) rfl (by rw [List.length_replicate, allL_len, ← hlenD]) g g (gt_rep hi) (clamp8_in _)
        unfold law05_KernWeights_l37_p
        simp only []
        rw [hr39 i hi]
        simp only [Option.bind_some]
        rw [h40]
        simp only [Option.bind_some, cond_false, allL_len, ← hlenD]
        rw [decide_eq_true (by omega), t4]
        rfl) (by
        unfold law05_KernWeights_l37_p
        simp only [allL_len, ← hlenD]
        rw [decide_eq_false (Int.lt_irrefl _)]
        rfl)
    simp only [hr34, hloop, cond_false, Option.bind_some, either]
    have h1 := clamp8_in (b + sumN d.length (fun k => gt d (k : Int) 0 - a.2.2.2))
    have hr42 : law05_KernWeights_r42_p true (List.replicate d.length 1, b + sumN d.length (fun k => gt d (k : Int) 0 - a.2.2.2), (d.length : Int)) ([clamp8 (b + sumN d.length (fun k => gt d (k : Int) 0 - a.2.2.2))], 0) = some true := by
      unfold law05_KernWeights_r42_p
      simp only [show ∀ v : Int, gt [v] 0 0 = v from fun _ => rfl]
      rw [i64_in (clamp8 _) (by omega)]
      simp [clamp8]
    rw [hr42]
    rfl
end Go.V.P
