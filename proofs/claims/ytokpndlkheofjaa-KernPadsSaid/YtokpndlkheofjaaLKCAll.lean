/- Plain laws of layer 5: what OpConv, OpDepth and OpFull make of all numbers, told at once. -/
import Derived.Test.YtokpndlkheofjaaLKTot
namespace Go.V.P
open Go Go.V Go.IntWalk
set_option linter.unusedVariables false
set_option linter.unusedSimpArgs false
set_option maxRecDepth 20000
theorem many_is {n : Node} {a : I4} {z : I4} (hB : (nB n).length < 1000000) (hv : a0x n [a] = some (z, 0)) : ((nW n).length : Int) = (b06 n (a.1, a.2.1, a.2.2.1)).1 ∧ ((nB n).length : Int) = (b06 n (a.1, a.2.1, a.2.2.1)).2 := by
  obtain ⟨w, b, m1, m2, m3, m4⟩ := Value_more n [a] z (by simp) hB hv
  have hwl : a9m n [a] = some (b06 n (a.1, a.2.1, a.2.2.1)) := rfl
  rw [hwl] at m1
  have := Option.some.inj m1
  rw [this]
  exact ⟨m2, m3⟩
theorem conv_all {n : Node} {a : I4} {z : I4} (hB : (nB n).length < 1000000) (hv : a0x n [a] = some (z, 0)) (d : List Int) (hd : Full a d) (w8 : i8s (nW n)) (b32 : ∀ v ∈ nB n, -2147483648 ≤ v ∧ v ≤ 2147483647) (ho : n.1 = 1 ∨ n.1 = 2) :
    WOK n a z.2.2.1.toNat ∧ (z.1 = outV a.1 n.2.2.1 n.2.2.2.1 n.2.2.2.2.1 ∧ z.2.1 = outV a.2.1 n.2.2.1 n.2.2.2.1 n.2.2.2.2.1) ∧ (1 ≤ z.1 ∧ z.1 ≤ 16 ∧ 1 ≤ z.2.1 ∧ z.2.1 ≤ 16 ∧ 1 ≤ z.2.2.1 ∧ z.2.2.1 ≤ 8) ∧ (n.1 = 1 → z.2.2.1 = n.2.2.2.2.2.1) ∧ (n.1 = 2 → z.2.2.1 = a.2.2.1) ∧ a0c n [a] (d, []) = some (allL z.1.toNat z.2.1.toNat z.2.2.1.toNat (convV n a d), 0) := by
  have h := value_ok (by simp) hB hv
  have hmz := Q2l.1 h.may
  simp only [vS] at hmz
  obtain ⟨f1, f2, f3, f4⟩ := nodeF n _ h.node
  obtain ⟨w, b, m1, m2, m3, m4⟩ := Value_more n [a] z (by simp) hB hv
  have hbias := bias_in m4 b32
  have hl := hd.lim
  obtain ⟨q1, q2, q3, q4, q5, q6⟩ := made1 n a _ h.made h.may
  obtain ⟨w1, w2⟩ := many_is hB hv
  have hw : wop n.1 := by rcases ho with h | h; exact .inl h; exact .inr (.inl h)
  have hf := f2 hw
  have key : WOK n a z.2.2.1.toNat ∧ (z.1 = outV a.1 n.2.2.1 n.2.2.2.1 n.2.2.2.2.1 ∧ z.2.1 = outV a.2.1 n.2.2.1 n.2.2.2.1 n.2.2.2.2.1) ∧ (n.1 = 1 → z.2.2.1 = n.2.2.2.2.2.1) ∧ (n.1 = 2 → z.2.2.1 = a.2.2.1) := by
    rcases ho with ho | ho
    · have u := q1 ho
      simp only [vS, Prod.mk.injEq] at u
      have hmany : b06 n (a.1, a.2.1, a.2.2.1) = (a7e n (a.1, a.2.1, a.2.2.1), n.2.2.2.2.2.1) := by
        simp only [b06, b1c]
        rw [show (n.1 == 1) = true by simpa using ho]
        rfl
      rw [hmany] at w1 w2
      have hw2 : a7e n (a.1, a.2.1, a.2.2.1) = n.2.2.1 * n.2.2.1 * a.2.2.1 * n.2.2.2.2.2.1 := by
        simp only [a7e, b2m]
        have b1 := mul_in' (a := n.2.2.1) (b := n.2.2.1) (c := 3) (d := 3) (by omega) (by omega) (by omega) (by omega)
        have b2 := mul_in' (a := n.2.2.1 * n.2.2.1) (b := a.2.2.1) (c := 9) (d := 8) (by omega) (by omega) (by omega) (by omega)
        have b3 := mul_in' (a := n.2.2.1 * n.2.2.1 * a.2.2.1) (b := n.2.2.2.2.2.1) (c := 72) (d := 8) (by omega) (by omega) (by omega) (by omega)
        rw [i64_in (n.2.2.1 * n.2.2.1) (by omega), i64_in (n.2.2.1 * n.2.2.1 * a.2.2.1) (by omega), i64_in _ (by omega)]
      simp only at w1 w2
      refine ⟨⟨.inl ho, by omega, by omega, by omega, by omega, fun h2 => by omega, ?_, w8, by omega, hbias⟩, ⟨u.1, u.2.1⟩, fun _ => u.2.2, fun h2 => by omega⟩
      rw [if_neg (by omega)]
      have e1 : ((nW n).length : Int) = ((n.2.2.1.toNat * n.2.2.1.toNat * a.2.2.1.toNat * z.2.2.1.toNat : Nat) : Int) := by
        rw [w1, hw2, Int.natCast_mul, Int.natCast_mul, Int.natCast_mul, ← Q2u (show 0 ≤ n.2.2.1 by omega), ← Q2u (show 0 ≤ a.2.2.1 by omega), ← Q2u (show 0 ≤ z.2.2.1 by omega), u.2.2]
      omega
    · have u := q2 (.inl ho)
      simp only [vS, Prod.mk.injEq] at u
      have hmany : b06 n (a.1, a.2.1, a.2.2.1) = (IntKind.wrap .i64 (IntKind.wrap .i64 (n.2.2.1 * n.2.2.1) * a.2.2.1), a.2.2.1) := by
        simp only [b06, b1c]
        rw [show (n.1 == 1) = false by simp [ho], show (n.1 == 2) = true by simpa using ho]
        rfl
      rw [hmany] at w1 w2
      have hw2 : IntKind.wrap .i64 (IntKind.wrap .i64 (n.2.2.1 * n.2.2.1) * a.2.2.1) = n.2.2.1 * n.2.2.1 * a.2.2.1 := by
        have b1 := mul_in' (a := n.2.2.1) (b := n.2.2.1) (c := 3) (d := 3) (by omega) (by omega) (by omega) (by omega)
        have b2 := mul_in' (a := n.2.2.1 * n.2.2.1) (b := a.2.2.1) (c := 9) (d := 8) (by omega) (by omega) (by omega) (by omega)
        rw [i64_in (n.2.2.1 * n.2.2.1) (by omega), i64_in _ (by omega)]
      simp only at w1 w2
      refine ⟨⟨.inr ho, by omega, by omega, by omega, by omega, fun h2 => by omega, ?_, w8, by omega, hbias⟩, ⟨u.1, u.2.1⟩, fun h2 => by omega, fun _ => u.2.2⟩
      rw [if_pos ho]
      have e1 : ((nW n).length : Int) = ((n.2.2.1.toNat * n.2.2.1.toNat * a.2.2.1.toNat : Nat) : Int) := by
        rw [w1, hw2, Int.natCast_mul, Int.natCast_mul, ← Q2u (show 0 ≤ n.2.2.1 by omega), ← Q2u (show 0 ≤ a.2.2.1 by omega)]
      omega
  obtain ⟨wok, u1, u2, u3⟩ := key
  refine ⟨wok, u1, by omega, u2, u3, ?_⟩
  exact All_run hB (by simp) hv (d, []) hd.len _ _ _ (Q2u (by omega)) (Q2u (by omega)) (Q2u (by omega)) _ (fun y x c hy hx hc s s2 h1 h2 h3 => by
    rw [pix_conv _ _ _ _ _ _ _ ho, h1, h2]
    show Option.bind (b2u (y : Int) (x : Int) (c : Int) n (Q2v a d)) (pushV s2) = _
    rw [conv_run hd wok (by omega) (by omega) hc]
    exact push8' s2 h3 _ (scale_in _ _ _ _))
theorem full_alls {n : Node} {a : I4} {z : I4} (hB : (nB n).length < 1000000) (hv : a0x n [a] = some (z, 0)) (d : List Int) (hd : Full a d) (w8 : i8s (nW n)) (b32 : ∀ v ∈ nB n, -2147483648 ≤ v ∧ v ≤ 2147483647) (ho : n.1 = 3) :
    vS z = (1, 1, n.2.2.2.2.2.1) ∧ 1 ≤ n.2.2.2.2.2.1 ∧ ((nW n).length : Int) = Q2q (vS a) * n.2.2.2.2.2.1 ∧ a0c n [a] (d, []) = some (allL 1 1 n.2.2.2.2.2.1.toNat (fun _ _ c => scaleV (gt (nB n) (c : Int) 0 + fullS n a d c) n.2.2.2.2.2.2.1 n.2.2.2.2.2.2.2.1 (nZ n)), 0) := by
  have h := value_ok (by simp) hB hv
  have hmz := Q2l.1 h.may
  simp only [vS] at hmz
  obtain ⟨w, b, m1, m2, m3, m4⟩ := Value_more n [a] z (by simp) hB hv
  have hbias := bias_in m4 b32
  have hl := hd.lim
  obtain ⟨q1, q2, q3, q4, q5, q6⟩ := made1 n a _ h.made h.may
  obtain ⟨w1, w2⟩ := many_is hB hv
  have u := q3 ho
  have u' := u
  simp only [vS, Prod.mk.injEq] at u
  have hmany : b06 n (a.1, a.2.1, a.2.2.1) = (IntKind.wrap .i64 (a15 (a.1, a.2.1, a.2.2.1) * n.2.2.2.2.2.1), n.2.2.2.2.2.1) := by
    simp only [b06, b1c]
    rw [show (n.1 == 1) = false by simp [ho], show (n.1 == 2) = false by simp [ho], show (n.1 == 3) = true by simpa using ho]
    rfl
  rw [hmany, Q2a] at w1
  rw [hmany] at w2
  have hsz := sizeV_in (vS a)
  have hsv : Q2q (a.1, a.2.1, a.2.2.1) = Q2q (vS a) := rfl
  simp only [hsv] at w1 w2
  have b1 := mul_in' (a := Q2q (vS a)) (b := n.2.2.2.2.2.1) (c := 2048) (d := 8) (by omega) (by omega) (by omega) (by omega)
  rw [i64_in _ (by omega)] at w1
  refine ⟨u', by omega, w1, ?_⟩
  exact All_run hB (by simp) hv (d, []) hd.len 1 1 _ (by omega) (by omega) (by have := Q2u (show 0 ≤ n.2.2.2.2.2.1 by omega); omega) _ (fun y x c hy hx hc s s2 h1 h2 h3 => by
    rw [pix_full _ _ _ _ _ _ _ ho, h1, h2]
    show Option.bind (b2x (y : Int) (x : Int) (c : Int) n (Q2v a d)) (pushV s2) = _
    rw [full_run hd n n.2.2.2.2.2.1.toNat (by omega) (by rw [w1, ← Q2u (show 0 ≤ n.2.2.2.2.2.1 by omega)]) w8 (by omega) hbias (y : Int) (x : Int) c hc]
    exact push8' s2 h3 _ (scale_in _ _ _ _))
theorem sumN_pick {f : Nat → Int} {c : Nat} : ∀ C : Nat, sumN C (fun e => f e * (if c = e then 1 else 0)) = if c < C then f c else 0
  | 0 => by simp [sumN]
  | C + 1 => by
    simp only [sumN]
    rw [sumN_pick C]
    by_cases h1 : c = C
    · subst h1
      simp
    · rw [if_neg h1, Int.mul_zero, Int.add_zero]
      by_cases h2 : c < C
      · rw [if_pos h2, if_pos (by omega)]
      · rw [if_neg h2, if_neg (by omega)]
theorem sumN_zero : ∀ n : Nat, sumN n (fun _ => 0) = 0
  | 0 => rfl
  | n + 1 => by simp only [sumN]; rw [sumN_zero n]; rfl
theorem row_at {W C : Nat} (F : Nat → Nat → Int) {x c : Nat} (hx : x < W) (hc : c < C) : gt (rowL W C F) (((x * C + c : Nat)) : Int) 0 = F x c := by
  unfold gt rowL
  have hlt : x * C + c < W * C := by
    have := Nat.mul_le_mul_right C (show x + 1 ≤ W from hx)
    rw [Nat.succ_mul] at this
    omega
  rw [show (((x * C + c : Nat)) : Int).toNat = x * C + c by omega, List.getD_eq_getElem?_getD, List.getElem?_map, List.getElem?_range hlt]
  show F ((x * C + c) / C) ((x * C + c) % C) = F x c
  rw [Nat.add_comm, Nat.add_mul_div_right _ _ (by omega), Nat.div_eq_of_lt hc, Nat.zero_add, Nat.add_mul_mod_self_right, Nat.mod_eq_of_lt hc]
end Go.V.P
