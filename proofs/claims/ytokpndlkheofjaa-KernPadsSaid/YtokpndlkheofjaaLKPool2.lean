/- Plain laws of layer 5: OpMax and OpAvg of all numbers. -/
import Derived.Test.YtokpndlkheofjaaLKPool
namespace Go.V.P
open Go Go.V Go.IntWalk
set_option linter.unusedVariables false
set_option linter.unusedSimpArgs false
set_option maxRecDepth 20000
def poolN (op k s z : Int) : Node := (op, [], k, s, 0, 0, 1, 0, z, 0, 0, 0, [], [])
def poolF (n : Node) (a : I4) (d : List Int) (y x c : Nat) : Int := (b38 (y : Int) (x : Int) (c : Int) n (Q2v a d)).getD 0
theorem pool_pix {a : I4} {d : List Int} (h : Full a d) (op : Int) (ho : op = 4 ∨ op = 5) (k S y x c : Nat) (hk : 1 ≤ k ∧ k ≤ 3) (hS2 : 1 ≤ S ∧ S ≤ 2) (hy : ((y * S + k : Nat) : Int) ≤ a.1) (hx : ((x * S + k : Nat) : Int) ≤ a.2.1) (hc : (c : Int) < a.2.2.1) :
    b38 (y : Int) (x : Int) (c : Int) (poolN op (k : Int) (S : Int) a.2.2.2) (Q2v a d) = some (poolF (poolN op (k : Int) (S : Int) a.2.2.2) a d y x c) ∧
    (-128 ≤ poolF (poolN op (k : Int) (S : Int) a.2.2.2) a d y x c ∧ poolF (poolN op (k : Int) (S : Int) a.2.2.2) a d y x c ≤ 127) ∧
    (op = 4 → (∀ i j, i < k → j < k → numV a d (y * S + i) (x * S + j) c ≤ poolF (poolN op (k : Int) (S : Int) a.2.2.2) a d y x c) ∧ ∃ i j, i < k ∧ j < k ∧ poolF (poolN op (k : Int) (S : Int) a.2.2.2) a d y x c = numV a d (y * S + i) (x * S + j) c) ∧
    (∀ U : Int, (∀ i j, i < k → j < k → numV a d (y * S + i) (x * S + j) c ≤ U) → poolF (poolN op (k : Int) (S : Int) a.2.2.2) a d y x c ≤ U) ∧
    (∀ L : Int, (∀ i j, i < k → j < k → L ≤ numV a d (y * S + i) (x * S + j) c) → L ≤ poolF (poolN op (k : Int) (S : Int) a.2.2.2) a d y x c) := by
  have hl := h.lim
  have hz := h.zero
  obtain ⟨M, T, e, w⟩ := win_run h (poolN op (k : Int) (S : Int) a.2.2.2) k S y x c hk rfl hS2 hy hx hc
  have hn : ∀ i j, i < k → j < k → -128 ≤ numV a d (y * S + i) (x * S + j) c ∧ numV a d (y * S + i) (x * S + j) c ≤ 127 := fun i j hi hj => num_in h (by omega) (by omega) hc
  obtain ⟨i0, j0, u1, u2, u3⟩ := w.at_
  have hkk : 1 ≤ (k : Int) * (k : Int) ∧ (k : Int) * (k : Int) ≤ 9 := by
    have : k = 1 ∨ k = 2 ∨ k = 3 := by omega
    rcases this with rfl | rfl | rfl <;> omega
  have key : ∃ v, b38 (y : Int) (x : Int) (c : Int) (poolN op (k : Int) (S : Int) a.2.2.2) (Q2v a d) = some v ∧ (op = 4 → v = M + a.2.2.2) ∧ (op = 5 → v = rnd (T + (k : Int) * (k : Int) * a.2.2.2) ((k : Int) * (k : Int))) := by
    have hM := hn i0 j0 u1 u2
    have hT1 := w.up 255 (fun i j hi hj => by have := hn i j hi hj; omega)
    have hT2 := w.lo (-255) (fun i j hi hj => by have := hn i j hi hj; omega)
    generalize hK : (k : Int) * (k : Int) = K at *
    unfold b38
    rw [show (poolN op (k : Int) (S : Int) a.2.2.2).2.2.1 = (k : Int) from rfl, e]
    simp only [Option.bind_some]
    rw [show (poolN op (k : Int) (S : Int) a.2.2.2).1 = op from rfl, show (Q2v a d).2.2.2.1 = a.2.2.2 from rfl, hK]
    rcases ho with rfl | rfl
    · refine ⟨M + a.2.2.2, ?_, fun _ => rfl, fun h => absurd h (by decide)⟩
      rw [i64_in (M + a.2.2.2) (by omega)]
      rfl
    · have hp : -1152 ≤ K * a.2.2.2 ∧ K * a.2.2.2 ≤ 1152 := by
        have h := Int.natAbs_mul K a.2.2.2
        have h2 : K.natAbs * a.2.2.2.natAbs ≤ 9 * 128 := Nat.mul_le_mul (by omega) (by omega)
        omega
      refine ⟨rnd (T + K * a.2.2.2) K, ?_, fun h => absurd h (by decide), fun _ => rfl⟩
      rw [i64_in K (by omega), i64_in (K * a.2.2.2) (by omega), i64_in (T + K * a.2.2.2) (by omega), fixed_Div_eq (by omega) (by omega) (by omega)]
      rw [show max K 1 = K by omega]
      rfl
  obtain ⟨v, v1, v2, v3⟩ := key
  have hF : poolF (poolN op (k : Int) (S : Int) a.2.2.2) a d y x c = v := by unfold poolF; rw [v1]; rfl
  rw [hF]
  have hup : ∀ U : Int, (∀ i j, i < k → j < k → numV a d (y * S + i) (x * S + j) c ≤ U) → v ≤ U := fun U hU => by
    rcases ho with rfl | rfl
    · rw [v2 rfl]
      have := hU i0 j0 u1 u2
      omega
    · rw [v3 rfl]
      have h1 := w.up (U - a.2.2.2) (fun i j hi hj => by have := hU i j hi hj; omega)
      rw [Int.mul_sub] at h1
      have h2 := rnd_mono (x := T + (k : Int) * (k : Int) * a.2.2.2) (y := U * ((k : Int) * (k : Int))) (b := (k : Int) * (k : Int)) hkk.1 (by rw [Int.mul_comm U]; omega)
      rw [rnd_mul hkk.1] at h2
      exact h2
  have hlo : ∀ L : Int, (∀ i j, i < k → j < k → L ≤ numV a d (y * S + i) (x * S + j) c) → L ≤ v := fun L hL => by
    rcases ho with rfl | rfl
    · rw [v2 rfl]
      have := hL i0 j0 u1 u2
      omega
    · rw [v3 rfl]
      have h1 := w.lo (L - a.2.2.2) (fun i j hi hj => by have := hL i j hi hj; omega)
      rw [Int.mul_sub] at h1
      have h2 := rnd_mono (x := L * ((k : Int) * (k : Int))) (y := T + (k : Int) * (k : Int) * a.2.2.2) (b := (k : Int) * (k : Int)) hkk.1 (by rw [Int.mul_comm L]; omega)
      rw [rnd_mul hkk.1] at h2
      exact h2
  refine ⟨v1, ⟨hlo (-128) (fun i j hi hj => (hn i j hi hj).1), hup 127 (fun i j hi hj => (hn i j hi hj).2)⟩, fun h4 => ⟨fun i j hi hj => ?_, i0, j0, u1, u2, ?_⟩, hup, hlo⟩
  · have := w.le i j hi hj
    rw [v2 h4]
    omega
  · rw [v2 h4, u3]
    omega
theorem all_pool (op : Int) (ho : op = 4 ∨ op = 5) (a : I4) (d : List Int) (hd : Full a d) (k S : Nat) (hk : 1 ≤ k ∧ k ≤ 3) (hS : 1 ≤ S ∧ S ≤ 2) (hH : (k : Int) ≤ a.1) (hW : (k : Int) ≤ a.2.1) :
    a0c (poolN op (k : Int) (S : Int) a.2.2.2) [a] (d, []) = some (allL (outV a.1 k S 0).toNat (outV a.2.1 k S 0).toNat a.2.2.1.toNat (poolF (poolN op (k : Int) (S : Int) a.2.2.2) a d), 0) ∧
    (∀ y : Nat, y < (outV a.1 k S 0).toNat → ((y * S + k : Nat) : Int) ≤ a.1) ∧ (∀ x : Nat, x < (outV a.2.1 k S 0).toNat → ((x * S + k : Nat) : Int) ≤ a.2.1) ∧
    1 ≤ outV a.1 k S 0 ∧ outV a.1 k S 0 ≤ 16 ∧ 1 ≤ outV a.2.1 k S 0 ∧ outV a.2.1 k S 0 ≤ 16 := by
  have hl := hd.lim
  have hz := hd.zero
  have outs : ∀ H : Int, 1 ≤ H → H ≤ 16 → (k : Int) ≤ H → 1 ≤ outV H k S 0 ∧ outV H k S 0 ≤ 16 ∧ ∀ y : Nat, y < (outV H k S 0).toNat → ((y * S + k : Nat) : Int) ≤ H := fun H h1 h2 h3 => by
    have hw : winB H (k : Int) (S : Int) 0 = true := winB_iff.2 (by omega)
    have hi := out_iff hw
    refine ⟨?_, ?_, fun y hy => ?_⟩
    · have := (hi 0 (by omega)).2 (by omega)
      omega
    · by_cases hc : outV H k S 0 ≤ 16
      · exact hc
      · have h4 := (hi 16 (by omega)).1 (by omega)
        have : (16 : Int) * (S : Int) ≥ 16 := by omega
        omega
    · have := (hi (y : Int) (by omega)).1 (by omega)
      simp only [Int.natCast_add, Int.natCast_mul]
      omega
  obtain ⟨a1, a2, a3⟩ := outs a.1 (by omega) (by omega) hH
  obtain ⟨b1, b2, b3⟩ := outs a.2.1 (by omega) (by omega) hW
  refine ⟨?_, a3, b3, a1, a2, b1, b2⟩
  have hv : a0x (poolN op (k : Int) (S : Int) a.2.2.2) [a] = some ((outV a.1 k S 0, outV a.2.1 k S 0, a.2.2.1, a.2.2.2), 0) := by
    refine value_is _ _ (outV a.1 k S 0, outV a.2.1 k S 0, a.2.2.1) 0 0 (by simp) ?_ ?_ ?_ ?_ ?_ ?_ rfl rfl rfl (by simp [nB, poolN])
    · rcases ho with rfl | rfl <;>
        simp [poolN, a4k, b1d, a64, b1h, a63, b1g, a20, b1f, a17, a62, a39, b1e, a0i, a61, a43, a7h, a7j, b2q, a45, b2p, a0a, a7g, a7i, b2o, a44, b2n, a08, a7f, a6c, b3t, a8j, b5j, a2n, a8k, a4y, a9p, Q2t] <;> omega
    · rcases ho with rfl | rfl <;> simp [nZ, poolN]
    · simp [hd.may]
    · rcases ho with rfl | rfl <;> simp [poolN, b05, b2l, b2k, a41, a7c, b17, a42, a7d, Q2e, gt, Q1z]
    · rw [Q2l]; simp only; omega
    · rcases ho with rfl | rfl <;> rfl
  refine All_run (by simp [nB, poolN]) (by simp) hv (d, []) hd.len _ _ a.2.2.1.toNat (Q2u (show 0 ≤ outV a.1 k S 0 by omega)) (Q2u (show 0 ≤ outV a.2.1 k S 0 by omega)) (Q2u (show 0 ≤ a.2.2.1 by omega)) _ (fun y x c hy hx hc s s2 h1 h2 h3 => ?_)
  have hp := pool_pix hd op ho k S y x c hk hS (a3 y hy) (b3 x hx) (by omega)
  rw [pix_pool _ _ _ _ _ _ _ ho, h1, h2]
  show Option.bind (b38 (y : Int) (x : Int) (c : Int) (poolN op (k : Int) (S : Int) a.2.2.2) (Q2v a d)) (pushV s2) = _
  rw [hp.1]
  exact push8' s2 h3 _ hp.2.1
end Go.V.P
