/- Plain laws of layer 5: padding, a window of each channel, a window of all: what is made is the same. -/
import Derived.Test.YtokpndlkheofjaaLKPadsA
namespace Go.V.P
open Go Go.V Go.IntWalk
set_option linter.unusedVariables false
set_option linter.unusedSimpArgs false
set_option maxRecDepth 20000
theorem conv_same {op op' K P P' O O' : Int} {w w' b b' : List Int} {a a' : I4} {d d' : List Int} {y x c : Nat} (hb : gt b (c : Int) 0 = gt b' (c : Int) 0)
    (hc : ∀ i j : Nat, i < K.toNat → j < K.toNat → cellV (winN op K P O w b) a d y x c i j = cellV (winN op' K P' O' w' b') a' d' y x c i j) : convV (winN op K P O w b) a d y x c = convV (winN op' K P' O' w' b') a' d' y x c := by
  have hs : convS (winN op K P O w b) a d y x c = convS (winN op' K P' O' w' b') a' d' y x c := by
    unfold convS
    show sumN K.toNat _ = sumN K.toNat _
    exact sumN_congr _ fun i hi => by
      show sumN K.toNat _ = sumN K.toNat _
      exact sumN_congr _ fun j hj => hc i j hi hj
  unfold convV
  rw [hs]
  show scaleV (gt b (c : Int) 0 + _) 2 3 0 = scaleV (gt b' (c : Int) 0 + _) 2 3 0
  rw [hb]
theorem cell_win1 (K P O : Int) (w b : List Int) (a : I4) (d : List Int) (y x c i j : Nat) : cellV (winN 1 K P O w b) a d y x c i j = sumN a.2.2.1.toNat (fun e => atV a d ((y : Int) * 1 - P + (i : Int)) ((x : Int) * 1 - P + (j : Int)) (e : Int) * gt w ((((c : Int) * K + (i : Int)) * K + (j : Int)) * a.2.2.1 + (e : Int)) 0) := by
  unfold cellV
  rw [if_neg (show ¬ (winN 1 K P O w b).1 = 2 by show ¬ (1 : Int) = 2; decide)]
  rfl
theorem cell_win2 (K P O : Int) (w b : List Int) (a : I4) (d : List Int) (y x c i j : Nat) : cellV (winN 2 K P O w b) a d y x c i j = atV a d ((y : Int) * 1 - P + (i : Int)) ((x : Int) * 1 - P + (j : Int)) (c : Int) * gt w (((c : Int) * K + (i : Int)) * K + (j : Int)) 0 := by
  unfold cellV
  rw [if_pos (show (winN 2 K P O w b).1 = 2 from rfl)]
  rfl
theorem b32_of {b : List Int} (h : ∀ v ∈ b, v = 0 ∨ v = 1) : ∀ v ∈ b, -2147483648 ≤ v ∧ v ≤ 2147483647 := fun v hv => by
  rcases h v hv with e | e <;> omega
theorem pads_eq (a : I4) (d : List Int) (hd : Full a d) (hH : a.1 ≤ 14) (hW : a.2.1 ≤ 14) (K : Int) (hK : 2 ≤ K ∧ K ≤ 3) (w : List Int) (hw : (w.length : Int) = K * K * a.2.2.1) (w8 : i8s w) :
    ∃ v L, a0x (winN 1 K 1 1 w [1]) [a] = some (v, 0) ∧ a0c (winN 1 K 1 1 w [1]) [a] (d, []) = some (L, 0) ∧ L.length < 1000000 ∧
      a0c (winN 1 K 0 1 w [1]) [(a.1 + 2, a.2.1 + 2, a.2.2.1, a.2.2.2)] (allL (a.1.toNat + 2) (a.2.1.toNat + 2) a.2.2.1.toNat (padF a d), []) = some (L, 0) := by
  have hl := hd.lim
  have hz := hd.zero
  obtain ⟨big, hbig⟩ : ∃ big : I4, big = (a.1 + 2, a.2.1 + 2, a.2.2.1, a.2.2.2) := ⟨_, rfl⟩
  obtain ⟨pd, hpd⟩ : ∃ pd, pd = allL (a.1.toNat + 2) (a.2.1.toNat + 2) a.2.2.1.toNat (padF a d) := ⟨_, rfl⟩
  have hfull : Full big pd := by
    have hcl : pd = allL (a.1.toNat + 2) (a.2.1.toNat + 2) a.2.2.1.toNat (fun y x c => if c < a.2.2.1.toNat then padF a d y x c else 0) := by
      rw [hpd]
      exact allL_congr fun y x c _ _ hc => by rw [if_pos hc]
    rw [hcl, hbig]
    refine full_all (a := (a.1 + 2, a.2.1 + 2, a.2.2.1, a.2.2.2)) (by rw [Q2l]; simp only [vS]; omega) hz (show a.1 + 2 = ((a.1.toNat + 2 : Nat) : Int) by omega) (show a.2.1 + 2 = ((a.2.1.toNat + 2 : Nat) : Int) by omega) (Q2u (show 0 ≤ a.2.2.1 by omega)) _ fun y x c => ?_
    split
    · rename_i h; exact padF_in hd h
    · omega
  have b01 : ∀ v ∈ ([1] : List Int), v = 0 ∨ v = 1 := fun v hv => by simp at hv; exact .inr hv
  have hv := val_conv a d hd K 1 1 w [1] hK (by omega) (by omega) (by omega) (by omega) (by rw [hw, Int.mul_one]) rfl rfl
  have hv2 := val_conv big pd hfull K 0 1 w [1] hK (by omega) (by omega) (by rw [hbig]; show K ≤ a.1 + 2 + 2 * 0 ∧ a.1 + 2 + 2 * 0 - K + 1 ≤ 16; omega) (by rw [hbig]; show K ≤ a.2.1 + 2 + 2 * 0 ∧ a.2.1 + 2 + 2 * 0 - K + 1 ≤ 16; omega) (by rw [hw, hbig, Int.mul_one]) rfl rfl
  obtain ⟨_, _, _, _, _, A1⟩ := conv_all (by show ([1] : List Int).length < _; decide) hv d hd w8 (b32_of b01) (.inl rfl)
  obtain ⟨_, _, _, _, _, A2⟩ := conv_all (by show ([1] : List Int).length < _; decide) hv2 pd hfull w8 (b32_of b01) (.inl rfl)
  refine ⟨_, _, hv, A1, ?_, ?_⟩
  · rw [allL_len]
    have h1 : (a.1 + 2 * 1 - K + 1).toNat ≤ 16 := by omega
    have h2 : (a.2.1 + 2 * 1 - K + 1).toNat * Int.toNat 1 ≤ 16 * 1 := Nat.mul_le_mul (by omega) (by decide)
    have := Nat.mul_le_mul h1 h2
    simp only at this ⊢
    omega
  · rw [← hbig, ← hpd, A2]
    congr 1
    congr 1
    have e1 : (big.1 + 2 * 0 - K + 1).toNat = (a.1 + 2 * 1 - K + 1).toNat := by rw [hbig]; simp only; omega
    have e2 : (big.2.1 + 2 * 0 - K + 1).toNat = (a.2.1 + 2 * 1 - K + 1).toNat := by rw [hbig]; simp only; omega
    simp only
    rw [e1, e2]
    refine allL_congr fun y x c hy hx hc => conv_same rfl fun i j hi hj => ?_
    rw [cell_win1, cell_win1, show big.2.2.1 = a.2.2.1 by rw [hbig]]
    refine sumN_congr _ fun e he => ?_
    congr 1
    rw [show (y : Int) * 1 - 0 + (i : Int) = ((y + i : Nat) : Int) by omega, show (x : Int) * 1 - 0 + (j : Int) = ((x + j : Nat) : Int) by omega, hbig, hpd]
    rw [pad_at a d hd hH hW (y + i) (x + j) e (by omega) (by omega) (by omega)]
    congr 1 <;> omega
theorem each_eq (a : I4) (d : List Int) (hd : Full a d) (hH : a.1 ≤ 14) (hW : a.2.1 ≤ 14) (k C : Nat) (hk : 2 ≤ k ∧ k ≤ 3) (hC : a.2.2.1 = (C : Int)) (w w3 : List Int) (hw : w.length = k * k * C) (w8 : i8s w) (hw3 : w3.length = C * (k * k) * C) (w38 : i8s w3)
    (hF : ∀ c m e : Nat, c < C → m < k * k → e < C → gt w3 ((((c * (k * k) + m) * C + e : Nat)) : Int) 0 = if e = c then gt w (((c * (k * k) + m : Nat)) : Int) 0 else 0) :
    ∃ v L, a0x (winN 2 (k : Int) 1 0 w (List.replicate C 0)) [a] = some (v, 0) ∧ a0c (winN 2 (k : Int) 1 0 w (List.replicate C 0)) [a] (d, []) = some (L, 0) ∧ L.length < 1000000 ∧
      a0c (winN 1 (k : Int) 1 (C : Int) w3 (List.replicate C 0)) [a] (d, []) = some (L, 0) := by
  have hl := hd.lim
  have b01 : ∀ v ∈ List.replicate C (0 : Int), v = 0 ∨ v = 1 := fun v hv => .inl (List.eq_of_mem_replicate hv)
  have hoff : (List.replicate C (0 : Int)).any offB = false := by
    rw [List.any_eq_false]
    intro v hv
    rw [List.eq_of_mem_replicate hv]
    decide
  have hv := val_depth a d hd (k : Int) 1 w (List.replicate C 0) (by omega) (by omega) (by omega) (by omega) (by rw [hw, Int.natCast_mul, Int.natCast_mul, hC]) (by rw [List.length_replicate, hC]) hoff
  have hv2 := val_conv a d hd (k : Int) 1 (C : Int) w3 (List.replicate C 0) (by omega) (by omega) (by omega) (by omega) (by omega) (by
    rw [hw3, hC, Int.natCast_mul, Int.natCast_mul, Int.natCast_mul, Int.mul_comm (C : Int) ((k : Int) * (k : Int))]) (by rw [List.length_replicate]) hoff
  obtain ⟨_, _, _, _, _, A1⟩ := conv_all (by show (List.replicate C (0 : Int)).length < _; rw [List.length_replicate]; omega) hv d hd w8 (b32_of b01) (.inr rfl)
  obtain ⟨_, _, _, _, _, A2⟩ := conv_all (by show (List.replicate C (0 : Int)).length < _; rw [List.length_replicate]; omega) hv2 d hd w38 (b32_of b01) (.inl rfl)
  refine ⟨_, _, hv, A1, ?_, ?_⟩
  · rw [allL_len]
    simp only
    have h1 : (a.1 + 2 * 1 - (k : Int) + 1).toNat ≤ 16 := by omega
    have h2 : (a.2.1 + 2 * 1 - (k : Int) + 1).toNat * a.2.2.1.toNat ≤ 16 * 8 := Nat.mul_le_mul (by omega) (by omega)
    have := Nat.mul_le_mul h1 h2
    omega
  · rw [A2]
    congr 1
    congr 1
    simp only
    rw [hC]
    refine allL_congr fun y x c hy hx hc => conv_same rfl fun i j hi hj => ?_
    rw [cell_win1, cell_win2, hC]
    have hcC : c < C := by omega
    have hik : i < k := by omega
    have hjk : j < k := by omega
    have hm : i * k + j < k * k := by
      have := Nat.mul_le_mul_right k (show i + 1 ≤ k by omega)
      rw [Nat.add_mul, Nat.one_mul] at this
      omega
    have hidx : ((c : Int) * (k : Int) + (i : Int)) * (k : Int) + (j : Int) = ((c * (k * k) + (i * k + j) : Nat) : Int) := by
      simp only [Int.natCast_add, Int.natCast_mul, Int.add_mul, Int.mul_assoc]
      omega
    rw [hidx, Int.toNat_natCast]
    rw [sumN_one (f := fun e => atV a d ((y : Int) * 1 - 1 + (i : Int)) ((x : Int) * 1 - 1 + (j : Int)) (e : Int) * gt w3 (((c * (k * k) + (i * k + j) : Nat) : Int) * (C : Int) + (e : Int)) 0) (c := c) (v := atV a d ((y : Int) * 1 - 1 + (i : Int)) ((x : Int) * 1 - 1 + (j : Int)) (c : Int) * gt w ((c * (k * k) + (i * k + j) : Nat) : Int) 0) (by
      have := hF c (i * k + j) c hcC hm hcC
      rw [if_pos rfl] at this
      rw [← this]
      congr 2) C (fun e he hne => by
      have := hF c (i * k + j) e hcC hm he
      rw [if_neg hne] at this
      rw [show ((c * (k * k) + (i * k + j) : Nat) : Int) * (C : Int) + (e : Int) = (((c * (k * k) + (i * k + j)) * C + e : Nat) : Int) by simp only [Int.natCast_add, Int.natCast_mul], this, Int.mul_zero]), if_pos hcC]
theorem fulls_eq (a : I4) (d : List Int) (hd : Full a d) (k C : Nat) (hk : 2 ≤ k ∧ k ≤ 3) (hC : a.2.2.1 = (C : Int)) (hH : a.1 = (k : Int)) (hW : a.2.1 = (k : Int)) (w : List Int) (hw : w.length = k * k * C) (w8 : i8s w) :
    ∃ L, a0c (3, [], 0, 0, 0, 1, 2, 3, 0, 0, 0, 0, w, [1]) [a] (d, []) = some (L, 0) ∧ L.length < 1000000 ∧ a0c (winN 1 (k : Int) 0 1 w [1]) [a] (d, []) = some (L, 0) := by
  have hl := hd.lim
  have hz := hd.zero
  have b01 : ∀ v ∈ ([1] : List Int), v = 0 ∨ v = 1 := fun v hv => by simp at hv; exact .inr hv
  have hsz : Q2q (vS a) = ((k * k * C : Nat) : Int) := by
    unfold Q2q
    rw [if_pos hd.may]
    simp only [vS]
    rw [hH, hW, hC, Int.natCast_mul, Int.natCast_mul]
  have hdl : d.length = k * k * C := by have := hd.len; rw [hsz] at this; omega
  have hv := val_fullN a d hd w [1] (by rw [hw, hsz]) rfl rfl
  have hv2 := val_conv a d hd (k : Int) 0 1 w [1] (by omega) (by omega) (by omega) (by omega) (by omega) (by rw [hw, Int.natCast_mul, Int.natCast_mul, hC, Int.mul_one]) rfl rfl
  obtain ⟨_, _, _, A1⟩ := full_alls (by show ([1] : List Int).length < _; decide) hv d hd w8 (b32_of b01) rfl
  obtain ⟨_, _, _, _, _, A2⟩ := conv_all (by show ([1] : List Int).length < _; decide) hv2 d hd w8 (b32_of b01) (.inl rfl)
  refine ⟨_, A1, ?_, ?_⟩
  · rw [allL_len]
    show 1 * (1 * Int.toNat 1) < 1000000
    decide
  · rw [A2]
    congr 1
    congr 1
    simp only
    rw [hH, hW, show ((k : Int) + 2 * 0 - (k : Int) + 1).toNat = 1 by omega]
    refine allL_congr fun y x c hy hx hc => ?_
    have hy0 : y = 0 := by omega
    have hx0 : x = 0 := by omega
    have hc0 : c = 0 := by
      have : c < 1 := hc
      omega
    subst hy0 hx0 hc0
    have hS : convS (winN 1 (k : Int) 0 1 w [1]) a d 0 0 0 = fullS (3, [], 0, 0, 0, 1, 2, 3, 0, 0, 0, 0, w, [1]) a d 0 := by
      unfold convS fullS
      rw [hdl]
      show sumN (k : Int).toNat _ = _
      rw [Int.toNat_natCast, sumN_flat C _ (k * k), sumN_flat k _ k]
      refine sumN_congr _ fun i hi => ?_
      show sumN (k : Int).toNat _ = _
      rw [Int.toNat_natCast]
      refine sumN_congr _ fun j hj => ?_
      rw [cell_win1, hC, Int.toNat_natCast]
      refine sumN_congr _ fun e he => ?_
      have hin : ((0 : Nat) : Int) * 1 - 0 + (i : Int) = (i : Int) := by omega
      have hjn : ((0 : Nat) : Int) * 1 - 0 + (j : Int) = (j : Int) := by omega
      rw [hin, hjn]
      have hat : atV a d (i : Int) (j : Int) (e : Int) = gt d ((((i * k + j) * C + e : Nat)) : Int) 0 - a.2.2.2 := by
        unfold atV
        rw [if_pos ⟨by omega, by omega, by omega, by omega⟩, hW, hC]
        simp only [Int.natCast_add, Int.natCast_mul]
      rw [hat]
      congr 2
      show _ = ((0 : Nat) : Int) * Q2q (vS a) + _
      rw [show ((0 : Nat) : Int) = 0 from rfl, Int.zero_mul, Int.zero_mul, Int.zero_add, Int.zero_add]
      simp only [Int.natCast_add, Int.natCast_mul]
    unfold convV
    rw [hS]
    rfl
end Go.V.P
