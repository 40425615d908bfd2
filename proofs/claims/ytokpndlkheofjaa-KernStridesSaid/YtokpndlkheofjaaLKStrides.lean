/- Plain laws of layer 5: KernStrides. -/
import Derived.Test.YtokpndlkheofjaaLKCAll
import Derived.Test.YtokpndlkheofjaaLKPool2
import Derived.Test.YtokpndlkheofjaaKp7
import Derived.Test.YtokpndlkheofjaaLPair
namespace Go.V.P
open Go Go.V Go.IntWalk
set_option linter.unusedVariables false
set_option linter.unusedSimpArgs false
set_option maxRecDepth 20000
/-- a node of a window, its stride -/
def strN (op k P O mul sh z : Int) (W B : List Int) (S : Int) : Node := (op, [], k, S, P, O, mul, sh, z, 0, 0, 0, W, B)
/-- what a window by a stride of two makes, and by one -/
theorem strides_of (op k P O mul sh z : Int) (W B : List Int) (a : I4) (d : List Int) (hd : Full a d) (w8 : i8s W) (hBl : B.length < 1000000) (b32 : ∀ v ∈ B, -2147483648 ≤ v ∧ v ≤ 2147483647)
    (ho : op = 1 ∨ strN op k P O mul sh z W B = strN 4 k 0 0 1 0 a.2.2.2 [] []) (v u : I4) (hv : ref03_Value (strN op k P O mul sh z W B 1) [a] = some (v, 0)) (hu : ref03_Value (strN op k P O mul sh z W B 2) [a] = some (u, 0)) :
    ∃ F1 F2 : Nat → Nat → Nat → Int, kern_All (strN op k P O mul sh z W B 1) [a] (d, []) = some (allL v.1.toNat v.2.1.toNat v.2.2.1.toNat F1, 0) ∧ kern_All (strN op k P O mul sh z W B 2) [a] (d, []) = some (allL u.1.toNat u.2.1.toNat u.2.2.1.toNat F2, 0) ∧
      (mayB (vS v) = true ∧ mayB (vS u) = true) ∧ u.2.2.1 = v.2.2.1 ∧ (∀ y : Nat, (y : Int) < u.1 → 2 * (y : Int) < v.1) ∧ (∀ y : Nat, (y : Int) < u.2.1 → 2 * (y : Int) < v.2.1) ∧
      ∀ y x c : Nat, (y : Int) < u.1 → (x : Int) < u.2.1 → (c : Int) < u.2.2.1 → F2 y x c = F1 (2 * y) (2 * x) c := by
  have hl := hd.lim
  have hv' := value_ok (by simp) (by show B.length < _; omega) hv
  have hu' := value_ok (by simp) (by show B.length < _; omega) hu
  have outs : ∀ (P H Z1 Z2 : Int), 1 ≤ H → H ≤ 16 → 1 ≤ k → k ≤ 16 → 0 ≤ P → P ≤ 16 → Z1 = outV H k 1 P → Z2 = outV H k 2 P → ∀ y : Nat, (y : Int) < Z2 → 2 * (y : Int) < Z1 := fun P H Z1 Z2 h1 h2 h3 h4 h5 h6 e1 e2 y hy => by
    rw [e1]
    rw [e2] at hy
    have i1 := (out_iff (size := H) (k := k) (stride := 2) (pad := P) (winB_iff.2 (by omega)) (y : Int) (by omega)).1 hy
    exact (out_iff (size := H) (k := k) (stride := 1) (pad := P) (winB_iff.2 (by omega)) (2 * (y : Int)) (by omega)).2 (by omega)
  rcases ho with ho | ho
  · obtain ⟨w1, ⟨s1, s2⟩, s3, s4, _, A1⟩ := conv_all (by show B.length < _; omega) hv d hd w8 b32 (.inl ho)
    obtain ⟨w2, ⟨t1, t2⟩, t3, t4, _, A2⟩ := conv_all (by show B.length < _; omega) hu d hd w8 b32 (.inl ho)
    have hk : 1 ≤ k ∧ k ≤ 3 := w1.k
    have hP : 0 ≤ P ∧ P ≤ 2 := w1.p
    refine ⟨_, _, A1, A2, ⟨hv'.may, hu'.may⟩, (t4 ho).trans (s4 ho).symm, outs P a.1 v.1 u.1 (by omega) (by omega) (by omega) (by omega) (by omega) (by omega) s1 t1, outs P a.2.1 v.2.1 u.2.1 (by omega) (by omega) (by omega) (by omega) (by omega) (by omega) s2 t2, fun y x c hy hx hc => ?_⟩
    have hcell : ∀ i j, cellV (strN op k P O mul sh z W B 2) a d y x c i j = cellV (strN op k P O mul sh z W B 1) a d (2 * y) (2 * x) c i j := fun i j => by
      unfold cellV
      rw [if_neg (show ¬ (strN op k P O mul sh z W B 2).1 = 2 by show ¬ op = 2; omega), if_neg (show ¬ (strN op k P O mul sh z W B 1).1 = 2 by show ¬ op = 2; omega)]
      show sumN _ (fun e => atV a d ((y : Int) * 2 - P + (i : Int)) ((x : Int) * 2 - P + (j : Int)) (e : Int) * _) = sumN _ (fun e => atV a d (((2 * y : Nat) : Int) * 1 - P + (i : Int)) (((2 * x : Nat) : Int) * 1 - P + (j : Int)) (e : Int) * _)
      rw [show (y : Int) * 2 - P + (i : Int) = ((2 * y : Nat) : Int) * 1 - P + (i : Int) by omega, show (x : Int) * 2 - P + (j : Int) = ((2 * x : Nat) : Int) * 1 - P + (j : Int) by omega]
      rfl
    unfold convV convS
    simp only [hcell]
    rfl
  · have e1 := congrFun ho 1
    have e2 := congrFun ho 2
    rw [e1] at hv hv' ⊢
    rw [e2] at hu hu' ⊢
    have hw : wop ((strN 4 k 0 0 1 0 a.2.2.2 [] [] 1) : Node).1 := .inr (.inr (.inl rfl))
    have hf := (nodeF _ _ hv'.node).2.1 hw
    have hk : 1 ≤ k ∧ k ≤ 3 := by have := hf; simp only [strN] at this; omega
    obtain ⟨_, q2, _⟩ := made1 _ a _ hv'.made hv'.may
    obtain ⟨_, r2, _⟩ := made1 _ a _ hu'.made hu'.may
    have u1 := q2 (.inr (.inl rfl))
    have u2 := r2 (.inr (.inl rfl))
    simp only [vS, strN, Prod.mk.injEq] at u1 u2
    have m1 := mayB_iff.1 hv'.may
    have m2 := mayB_iff.1 hu'.may
    simp only [vS] at m1 m2
    have kk : ∀ H, 1 ≤ outV H k 1 0 → k ≤ H := fun H h => by
      unfold outV at h
      split at h
      · rename_i hh; omega
      · omega
    have k1 := kk a.1 (by omega)
    have k2 := kk a.2.1 (by omega)
    have hkn := nat_of (show 0 ≤ k by omega)
    have P1 := all_pool 4 (.inl rfl) a d hd k.toNat 1 (by omega) (by omega) (by omega) (by omega)
    have P2 := all_pool 4 (.inl rfl) a d hd k.toNat 2 (by omega) (by omega) (by omega) (by omega)
    rw [← hkn] at P1 P2
    obtain ⟨A1, y1, x1, b1⟩ := P1
    obtain ⟨A2, y2, x2, b2⟩ := P2
    have n1 : strN 4 k 0 0 1 0 a.2.2.2 [] [] 1 = poolN 4 k ((1 : Nat) : Int) a.2.2.2 := rfl
    have n2 : strN 4 k 0 0 1 0 a.2.2.2 [] [] 2 = poolN 4 k ((2 : Nat) : Int) a.2.2.2 := rfl
    rw [n1, n2, u1.1, u1.2.1, u1.2.2, u2.1, u2.2.1, u2.2.2]
    refine ⟨_, _, A1, A2, ⟨hv'.may, hu'.may⟩, rfl, outs 0 a.1 _ _ (by omega) (by omega) (by omega) (by omega) (by omega) (by omega) rfl rfl, outs 0 a.2.1 _ _ (by omega) (by omega) (by omega) (by omega) (by omega) (by omega) rfl rfl, fun y x c hy hx hc => ?_⟩
    have hy2 := y2 y (by show y < (outV a.1 k 2 0).toNat; omega)
    have hx2 := x2 x (by show x < (outV a.2.1 k 2 0).toNat; omega)
    have c1 := pool_pix hd 4 (.inl rfl) k.toNat 1 (2 * y) (2 * x) c (by omega) (by omega) (by omega) (by omega) hc
    have c2 := pool_pix hd 4 (.inl rfl) k.toNat 2 y x c (by omega) (by omega) (by omega) (by omega) hc
    rw [← hkn] at c1 c2
    obtain ⟨_, _, c1m, c1u, _⟩ := c1
    obtain ⟨_, _, c2m, c2u, _⟩ := c2
    have hnum : ∀ i j, numV a d (y * 2 + i) (x * 2 + j) c = numV a d (2 * y * 1 + i) (2 * x * 1 + j) c := fun i j => by rw [Nat.mul_one, Nat.mul_one, Nat.mul_comm y, Nat.mul_comm x]
    refine Int.le_antisymm (c2u _ fun i j hi hj => ?_) (c1u _ fun i j hi hj => ?_)
    · rw [hnum]; exact (c1m rfl).1 i j hi hj
    · rw [← hnum]; exact (c2m rfl).1 i j hi hj
/-- weights that the law draws -/
theorem strides_w (x : Data) (kx : Ts.ok tsData x) (w : Int × Int) (conv : Bool) (a : I4) (d e : List Int) (hd : Full a d) (K : Int) (hK : IntKind.wrap .i64 (1 + Int.tmod (IntKind.wrap .i64 w.1) 3) = K) (hK3 : 1 ≤ K ∧ K ≤ 3) :
    ∃ op P O mul sh z W B, law05_KernStrides_j8_p x w conv ([a, a], (d, e), true) a.2.2.2 = some (op, P, O, mul, sh, z, W, B) ∧ i8s W ∧ B.length < 1000000 ∧ (∀ v ∈ B, -2147483648 ≤ v ∧ v ≤ 2147483647) ∧ (op = 1 ∨ strN op K P O mul sh z W B = strN 4 K 0 0 1 0 a.2.2.2 [] []) := by
  have hl := hd.lim
  obtain ⟨k1, k2, k3⟩ := kx
  obtain ⟨b2, c2⟩ := i8s_ok k3
  unfold law05_KernStrides_j8_p
  cases conv with
  | false => exact ⟨4, 0, 0, 1, 0, a.2.2.2, [], [], rfl, fun v hv => by simp at hv, by simp, fun v hv => by simp at hv, .inr rfl⟩
  | true =>
    have hg : gt ([a] : List I4) 0 dI4 = a := rfl
    have e1 : (([a, a] : List I4).take (Int.toNat 1)).drop (Int.toNat 0) = [a] := rfl
    have b1 := mul_in' (a := K) (b := K) (c := 3) (d := 3) (by omega) (by omega) (by omega) (by omega)
    have b3 := mul_in' (a := K * K) (b := a.2.2.1) (c := 9) (d := 8) (by omega) (by omega) (by omega) (by omega)
    have hr13 : ∀ s : Int × List Int, law05_KernStrides_r13_p w ([a, a], (d, e), true) s = some (decide (s.1 < K * K * a.2.2.1)) := fun s => by
      unfold law05_KernStrides_r13_p
      simp only [e1, hg, hK]
      rw [i64_in (K * K) (by omega), i64_in (K * K * a.2.2.1) (by omega)]
      rfl
    have hloop : ∃ y : Int × List Int, iterN (law05_KernStrides_l13_p x w ([a, a], (d, e), true)) LL (0, []) = some y ∧ i8s y.2 := by
      refine iterN_inv (fun s : Int × List Int => (s.2.length : Int) = s.1 ∧ s.1 ≤ K * K * a.2.2.1 ∧ i8s s.2) (fun s => (K * K * a.2.2.1 - s.1).toNat) (fun s hs => ?_) LL (0, []) ⟨rfl, by simp only; omega, fun v hv => by simp at hv⟩ (LL_lt (by simp only; omega))
      obtain ⟨a1, a2, a3⟩ := hs
      unfold law05_KernStrides_l13_p
      rw [hr13]
      simp only [Option.bind_some]
      by_cases hc : s.1 < K * K * a.2.2.1
      · have hj : ∃ v, law05_KernStrides_j16_p x s = some v ∧ -128 ≤ v ∧ v ≤ 127 := by
          unfold law05_KernStrides_j16_p
          by_cases h0 : (x.2.2.length : Int) > 0
          · have hm1 := Int.emod_nonneg s.1 (show (x.2.2.length : Int) ≠ 0 by omega)
            have hm2 := Int.emod_lt_of_pos s.1 (show 0 < (x.2.2.length : Int) by omega)
            have hm : Int.tmod s.1 (x.2.2.length : Int) = s.1 % (x.2.2.length : Int) := Int.tmod_eq_emod_of_nonneg (by omega)
            have h7 : law05_KernStrides_r17_p x s = some () := by
              unfold law05_KernStrides_r17_p
              rw [hm, show ((x.2.2.length : Int) == 0) = false by simp only [beq_eq_false_iff_ne]; omega, decide_eq_true hm1, decide_eq_true hm2]
              rfl
            rw [decide_eq_true h0, h7, hm]
            exact ⟨_, rfl, gt_i8 b2 _ hm1 hm2⟩
          · rw [decide_eq_false h0]
            refine ⟨_, rfl, ?_⟩
            rw [i8_in s.1 (by omega)]
            omega
        obtain ⟨v, x1, x2⟩ := hj
        have h8 : law05_KernStrides_r18_p s v = some () := by
          unfold law05_KernStrides_r18_p
          rw [decide_eq_true (by simp only [List.length_cons, List.length_nil]; unfold maxL; omega)]
          rfl
        have t3 := i64_in (s.1 + 1) (by omega)
        rw [decide_eq_true hc, x1]
        simp only [cond_true, Option.bind_some, h8, t3]
        refine .inl ⟨_, rfl, ⟨by simp only [List.length_append, List.length_cons, List.length_nil]; omega, by simp only; omega, fun v' hv => ?_⟩, by simp only; omega⟩
        rcases List.mem_append.1 hv with hv | hv
        · exact a3 v' hv
        · have : v' = v := by simpa using hv
          subst this; exact x2
      · rw [decide_eq_false hc]
        exact .inr ⟨_, rfl, a3⟩
    obtain ⟨y, y1, y2⟩ := hloop
    refine ⟨1, law05_KernStrides_j10_p w, 1, 3, 4, 0, y.2, [5], by rw [y1]; rfl, y2, by simp, fun v hv => by simp at hv; omega, .inl rfl⟩
theorem KernStrides_true (x : Data) (w : Int × Int) (conv : Bool) (kx : Ts.ok tsData x) (kw : Ts.ok tsA2 w) (_ : Ts.ok (.one .bool) conv) : law05_KernStrides x w conv = some true := by
  unfold law05_KernStrides
  rw [shown05]
  simp only [Option.bind_some]
  rcases pair_run x kx with hp | ⟨a, d, e, hd, he, hp⟩
  · rw [hp]; rfl
  have hl := hd.lim
  have kw1 : 0 ≤ w.1 ∧ w.1 ≤ 255 := kw.1
  have hK : ∃ K, IntKind.wrap .i64 (1 + Int.tmod (IntKind.wrap .i64 w.1) 3) = K ∧ 1 ≤ K ∧ K ≤ 3 := by
    have hm := tmod_lt (x := w.1) (m := 3) (by omega)
    have hm0 : 0 ≤ Int.tmod w.1 3 := by rw [Int.tmod_eq_emod_of_nonneg (by omega)]; omega
    refine ⟨_, rfl, ?_⟩
    rw [i64_in w.1 (by omega), i64_in _ (by omega)]
    omega
  obtain ⟨K, hK, hK3⟩ := hK
  have e1 : (([a, a] : List I4).take (Int.toNat 1)).drop (Int.toNat 0) = [a] := rfl
  have hr6 : law05_KernStrides_r6_p ([a, a], (d, e), true) = some () := rfl
  have hr7 : law05_KernStrides_r7_p ([a, a], (d, e), true) = some a.2.2.2 := rfl
  obtain ⟨op, P, O, mul, sh, z, W, B, hj, w8, hB, b32, ho⟩ := strides_w x kx w conv a d e hd K hK hK3
  rw [hp]
  simp only [Bool.not_true, cond_false, Option.bind_some, hr6, hr7, hj, e1, hK]
  obtain ⟨⟨v, ev⟩, _, hv⟩ := Value_eq (strN op K P O mul sh z W B 1) [a] (by simp) hB
  obtain ⟨⟨u, eu⟩, _, hu⟩ := Value_eq (strN op K P O mul sh z W B 2) [a] (by simp) hB
  have hv2 := hv
  have hu2 := hu
  unfold strN at hv hu
  rw [hv, hu]
  simp only [Option.bind_some]
  cases hr23 : law05_KernStrides_r23_p (v, ev) (u, eu) with
  | true => rfl
  | false =>
    have hz : ev = 0 ∧ eu = 0 := by
      simp only [law05_KernStrides_r23_p, law05_KernStrides_r23_q] at hr23
      by_cases h1 : ev = 0
      · subst h1
        simp only [bne_self_eq_false, cond_false] at hr23
        exact ⟨rfl, by simpa using hr23⟩
      · rw [show (ev != 0) = true by simpa using h1] at hr23
        cases hr23
    obtain ⟨rfl, rfl⟩ := hz
    obtain ⟨F1, F2, A1, A2, ⟨m1, m2⟩, hC, hY, hX, hF⟩ := strides_of op K P O mul sh z W B a d hd w8 hB b32 ho v u hv2 hu2
    unfold strN at A1 A2
    rw [A1, A2]
    simp only [Option.bind_some, cond_false]
    have n1 := mayB_iff.1 m1
    have n2 := mayB_iff.1 m2
    simp only [vS] at n1 n2
    have v1 := nat_of (show 0 ≤ v.1 by omega)
    have v2 := nat_of (show 0 ≤ v.2.1 by omega)
    have v3 := nat_of (show 0 ≤ v.2.2.1 by omega)
    have u1 := nat_of (show 0 ≤ u.1 by omega)
    have u2 := nat_of (show 0 ≤ u.2.1 by omega)
    have u3 := nat_of (show 0 ≤ u.2.2.1 by omega)
    have hr27 : law05_KernStrides_r27_p (v, 0) (u, 0) (allL v.1.toNat v.2.1.toNat v.2.2.1.toNat F1, 0) (allL u.1.toNat u.2.1.toNat u.2.2.1.toNat F2, 0) = false := by
      have sz : ∀ q : I4, mayB (vS q) = true → ∀ F, ((allL q.1.toNat q.2.1.toNat q.2.2.1.toNat F).length : Int) = ref02_Size (q.1, q.2.1, q.2.2.1) := fun q hq F => by
        have nq := mayB_iff.1 hq
        simp only [vS] at nq
        have hsv : sizeV (q.1, q.2.1, q.2.2.1) = q.1 * q.2.1 * q.2.2.1 := by
          unfold sizeV
          rw [if_pos (show mayB (q.1, q.2.1, q.2.2.1) = true from hq)]
        rw [ref02_Size_eq, hsv, allL_len, Int.natCast_mul, Int.natCast_mul, ← nat_of (show 0 ≤ q.1 by omega), ← nat_of (show 0 ≤ q.2.1 by omega), ← nat_of (show 0 ≤ q.2.2.1 by omega), Int.mul_assoc]
      simp only [law05_KernStrides_r27_p, law05_KernStrides_r27_q, bne_self_eq_false, cond_false]
      rw [sz v m1 F1, sz u m2 F2]
      simp
    rw [hr27]
    simp only [cond_false]
    have hlen1 : (allL v.1.toNat v.2.1.toNat v.2.2.1.toNat F1).length = v.1.toNat * (v.2.1.toNat * v.2.2.1.toNat) := allL_len _ _ _ _
    have hlen2 : (allL u.1.toNat u.2.1.toNat u.2.2.1.toNat F2).length = u.1.toNat * (u.2.1.toNat * u.2.2.1.toNat) := allL_len _ _ _ _
    have cell : ∀ y x' c : Nat, y < u.1.toNat → x' < u.2.1.toNat → c < u.2.2.1.toNat → law05_KernStrides_r38_p (v, 0) (u, 0) (allL v.1.toNat v.2.1.toNat v.2.2.1.toNat F1, 0) (allL u.1.toNat u.2.1.toNat u.2.2.1.toNat F2, 0) (y : Int) (x' : Int) (c : Int) = some false := fun y x' c hy hx hc => by
      have hy2 := hY y (by omega)
      have hx2 := hX x' (by omega)
      obtain ⟨p1, p2⟩ := allL_at u.1.toNat u.2.1.toNat u.2.2.1.toNat F2 y x' c hy hx hc _ rfl
      obtain ⟨q1, q2⟩ := allL_at v.1.toNat v.2.1.toNat v.2.2.1.toNat F1 (2 * y) (2 * x') c (by omega) (by omega) (by omega) _ rfl
      have hf := hF y x' c (by omega) (by omega) (by omega)
      have i1 := idx_in (H := u.1) (W := u.2.1) (C := u.2.2.1) (y := (y : Int)) (x := (x' : Int)) (c := (c : Int)) (by omega) (by omega) (by omega) (by omega) (by omega) (by omega) (by omega) (by omega) (by omega)
      have i2 := idx_in (H := v.1) (W := v.2.1) (C := v.2.2.1) (y := 2 * (y : Int)) (x := 2 * (x' : Int)) (c := (c : Int)) (by omega) (by omega) (by omega) (by omega) (by omega) (by omega) (by omega) (by omega) (by omega)
      have w1 : IntKind.wrap .i64 (IntKind.wrap .i64 (IntKind.wrap .i64 (IntKind.wrap .i64 ((y : Int) * u.2.1) + (x' : Int)) * u.2.2.1) + (c : Int)) = (((y * u.2.1.toNat + x') * u.2.2.1.toNat + c : Nat) : Int) := by
        rw [i64_in ((y : Int) * u.2.1) (by omega), i64_in ((y : Int) * u.2.1 + (x' : Int)) (by omega), i64_in (((y : Int) * u.2.1 + (x' : Int)) * u.2.2.1) (by omega), i64_in _ (by omega)]
        simp only [Int.natCast_add, Int.natCast_mul]
        rw [← u2, ← u3]
      have w2 : IntKind.wrap .i64 (IntKind.wrap .i64 (IntKind.wrap .i64 (IntKind.wrap .i64 (IntKind.wrap .i64 (2 * (y : Int)) * v.2.1) + IntKind.wrap .i64 (2 * (x' : Int))) * v.2.2.1) + (c : Int)) = (((2 * y * v.2.1.toNat + 2 * x') * v.2.2.1.toNat + c : Nat) : Int) := by
        rw [i64_in (2 * (y : Int)) (by omega), i64_in (2 * (x' : Int)) (by omega), i64_in (2 * (y : Int) * v.2.1) (by omega), i64_in (2 * (y : Int) * v.2.1 + 2 * (x' : Int)) (by omega), i64_in ((2 * (y : Int) * v.2.1 + 2 * (x' : Int)) * v.2.2.1) (by omega), i64_in _ (by omega)]
        simp only [Int.natCast_add, Int.natCast_mul]
        rw [← v2, ← v3]
        rfl
      unfold law05_KernStrides_r38_p
      simp only [w1, w2, p1, q1, hf, hlen1, hlen2]
      rw [decide_eq_true (by omega), decide_eq_true (by omega), decide_eq_true (by omega), decide_eq_true (by omega)]
      simp
    have l36 : ∀ y x' : Nat, y < u.1.toNat → x' < u.2.1.toNat → iterN (law05_KernStrides_l36_p (v, 0) (u, 0) (allL v.1.toNat v.2.1.toNat v.2.2.1.toNat F1, 0) (allL u.1.toNat u.2.1.toNat u.2.2.1.toNat F2, 0) (y : Int) (x' : Int)) LL 0 = some (.inl (u.2.2.1.toNat : Int)) := fun y x' hy hx =>
      iterN_for (p := law05_KernStrides_l36_p (v, 0) (u, 0) (allL v.1.toNat v.2.1.toNat v.2.2.1.toNat F1, 0) (allL u.1.toNat u.2.1.toNat u.2.2.1.toNat F2, 0) (y : Int) (x' : Int)) (z := .inl (u.2.2.1.toNat : Int)) u.2.2.1.toNat (fun i => (i : Int)) LL (LL_lt (by omega)) (fun i hi => by
        unfold law05_KernStrides_l36_p
        rw [decide_eq_true (by simp only; omega), cell y x' i hy hx hi, i64_in ((i : Int) + 1) (by omega)]
        rfl) (by
        unfold law05_KernStrides_l36_p
        rw [decide_eq_false (by simp only; omega)]
        rfl)
    have l33 : ∀ y : Nat, y < u.1.toNat → iterN (law05_KernStrides_l33_p (v, 0) (u, 0) (allL v.1.toNat v.2.1.toNat v.2.2.1.toNat F1, 0) (allL u.1.toNat u.2.1.toNat u.2.2.1.toNat F2, 0) (y : Int)) LL 0 = some (.inl (u.2.1.toNat : Int)) := fun y hy =>
      iterN_for (p := law05_KernStrides_l33_p (v, 0) (u, 0) (allL v.1.toNat v.2.1.toNat v.2.2.1.toNat F1, 0) (allL u.1.toNat u.2.1.toNat u.2.2.1.toNat F2, 0) (y : Int)) (z := .inl (u.2.1.toNat : Int)) u.2.1.toNat (fun i => (i : Int)) LL (LL_lt (by omega)) (fun i hi => by
        unfold law05_KernStrides_l33_p
        rw [decide_eq_true (by simp only; omega), l36 y i hy hi, i64_in ((i : Int) + 1) (by omega)]
        rfl) (by
        unfold law05_KernStrides_l33_p
        rw [decide_eq_false (by simp only; omega)]
        rfl)
    have l30 : iterN (law05_KernStrides_l30_p (v, 0) (u, 0) (allL v.1.toNat v.2.1.toNat v.2.2.1.toNat F1, 0) (allL u.1.toNat u.2.1.toNat u.2.2.1.toNat F2, 0)) LL 0 = some (.inl (u.1.toNat : Int)) :=
      iterN_for (p := law05_KernStrides_l30_p (v, 0) (u, 0) (allL v.1.toNat v.2.1.toNat v.2.2.1.toNat F1, 0) (allL u.1.toNat u.2.1.toNat u.2.2.1.toNat F2, 0)) (z := .inl (u.1.toNat : Int)) u.1.toNat (fun i => (i : Int)) LL (LL_lt (by omega)) (fun i hi => by
        unfold law05_KernStrides_l30_p
        rw [decide_eq_true (by simp only; omega), l33 i hi, i64_in ((i : Int) + 1) (by omega)]
        rfl) (by
        unfold law05_KernStrides_l30_p
        rw [decide_eq_false (by simp only; omega)]
        rfl)
    rw [l30]
    rfl
end Go.V.P
