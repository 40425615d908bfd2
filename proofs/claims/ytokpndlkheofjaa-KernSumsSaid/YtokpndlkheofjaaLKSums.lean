/- Plain laws of layer 5: KernSums. -/
import Derived.Test.YtokpndlkheofjaaLKops
import Derived.Test.YtokpndlkheofjaaKf7
namespace Go.V.P
open Go Go.V Go.IntWalk
set_option linter.unusedVariables false
set_option linter.unusedSimpArgs false
set_option maxRecDepth 20000
theorem KernSums_true (x : Data) (mul shift : Int) (kx : Ts.ok tsData x) (_ : Ts.ok (.one (.int .i64)) mul) (_ : Ts.ok (.one (.int .i64)) shift) : law05_KernSums x mul shift = some true := by
  unfold law05_KernSums
  rw [shown05]
  simp only [Option.bind_some]
  rcases pair_run x kx with hp | ⟨a, d, e, hd, he, hp⟩
  · rw [hp]; rfl
  · obtain ⟨m, m1, m2, m3⟩ := and_le mul 1023 (by decide)
    obtain ⟨t, t1, t2, t3⟩ := and_le shift 31 (by decide)
    have hr5 : law05_KernSums_r5_p mul shift ([a, a], (d, e), true) = some (1 + m, t) := by
      unfold law05_KernSums_r5_p
      have e1 : decide ((0 : Int) < (([a, a] : List I4).length : Int)) = true := rfl
      simp only [e1, cond_true]
      rw [show ((1023 : Int)) = ((1023 : Nat) : Int) from rfl, show ((31 : Int)) = ((31 : Nat) : Int) from rfl, m1, t1, i64_in (1 + m) (by omega)]
    have hg : gt ([a, a] : List I4) 0 dI4 = a := rfl
    have hl := hd.lim
    have hz := hd.zero
    have hlen : d.length = a.1.toNat * (a.2.1.toNat * a.2.2.1.toNat) := by
      have := congrArg List.length (all_num hd (H := a.1.toNat) (W := a.2.1.toNat) (C := a.2.2.1.toNat) (nat_of (by omega)) (nat_of (by omega)) (nat_of (by omega)))
      rw [allL_len] at this
      exact this.symm
    have hbig : a.1.toNat * (a.2.1.toNat * a.2.2.1.toNat) ≤ 16 * (16 * 8) := Nat.mul_le_mul (by omega) (Nat.mul_le_mul (by omega) (by omega))
    have A := all_pair 6 (.inl rfl) a d e hd he (1 + m) t (by omega) (by omega)
    have B := all_pair 6 (.inl rfl) a e d he hd (1 + m) t (by omega) (by omega)
    have P := all_pair 7 (.inr rfl) a d e hd he (1 + m) t (by omega) (by omega)
    have Q := all_pair 7 (.inr rfl) a e d he hd (1 + m) t (by omega) (by omega)
    have hAB : (fun y x c => scaleV (if (6 : Int) = 7 then (numV a e y x c - a.2.2.2) * (numV a d y x c - a.2.2.2) else (numV a e y x c - a.2.2.2) + (numV a d y x c - a.2.2.2)) (1 + m) t a.2.2.2) = (fun y x c => scaleV (if (6 : Int) = 7 then (numV a d y x c - a.2.2.2) * (numV a e y x c - a.2.2.2) else (numV a d y x c - a.2.2.2) + (numV a e y x c - a.2.2.2)) (1 + m) t a.2.2.2) := by
      funext y x c
      rw [if_neg (by decide), if_neg (by decide), Int.add_comm]
    have hPQ : (fun y x c => scaleV (if (7 : Int) = 7 then (numV a e y x c - a.2.2.2) * (numV a d y x c - a.2.2.2) else (numV a e y x c - a.2.2.2) + (numV a d y x c - a.2.2.2)) (1 + m) t a.2.2.2) = (fun y x c => scaleV (if (7 : Int) = 7 then (numV a d y x c - a.2.2.2) * (numV a e y x c - a.2.2.2) else (numV a d y x c - a.2.2.2) + (numV a e y x c - a.2.2.2)) (1 + m) t a.2.2.2) := by
      funext y x c
      rw [if_pos rfl, if_pos rfl, Int.mul_comm]
    rw [hAB] at B
    rw [hPQ] at Q
    -- noughts
    have hzero : iterN (law05_KernSums_l15_p ([a, a], (d, e), true)) LL ([], 0) = some (List.replicate d.length a.2.2.2, (d.length : Int)) := by
      have := iterN_for (p := law05_KernSums_l15_p ([a, a], (d, e), true)) (z := (List.replicate d.length a.2.2.2, (d.length : Int))) d.length (fun i => (List.replicate i a.2.2.2, (i : Int))) LL (LL_lt (by omega)) (fun i hi => by
        unfold law05_KernSums_l15_p law05_KernSums_r17_p
        have e1 : decide ((0 : Int) < (([a, a] : List I4).length : Int)) = true := rfl
        have t3 := i64_in ((i : Int) + 1) (by omega)
        simp only [hg, e1, t3, wrap8_in hz]
        rw [decide_eq_true (by omega : (i : Int) < (d.length : Int)), decide_eq_true (by simp only [List.length_replicate, List.length_cons, List.length_nil]; unfold maxL; omega)]
        simp only [cond_true, Option.bind_some]
        rw [List.replicate_succ']
        rfl) (by
        unfold law05_KernSums_l15_p
        rw [decide_eq_false (Int.lt_irrefl _)]
        rfl)
      exact this
    have hfz : Full a (List.replicate d.length a.2.2.2) := by
      rw [hlen, ← all_same]
      exact full_all hd.may hz (nat_of (by omega)) (nat_of (by omega)) (nat_of (by omega)) _ (fun _ _ _ => hz)
    have Z := all_pair 7 (.inr rfl) a d _ hd hfz (1 + m) t (by omega) (by omega)
    have S := all_pair 6 (.inl rfl) a d _ hd hfz 1 0 (by omega) (by omega)
    have hnz : ∀ y x c : Nat, y < a.1.toNat → x < a.2.1.toNat → c < a.2.2.1.toNat → numV a (List.replicate d.length a.2.2.2) y x c = a.2.2.2 := fun y x c hy hx hc => by
      have hi := idx_in (H := a.1) (W := a.2.1) (C := a.2.2.1) (y := (y : Int)) (x := (x : Int)) (c := (c : Int)) (by omega) (by omega) (by omega) (by omega) (by omega) (by omega) (by omega) (by omega) (by omega)
      exact gt_replicate (by omega) (by rw [hd.size]; omega)
    have hZ : allL a.1.toNat a.2.1.toNat a.2.2.1.toNat (fun y x c => scaleV (if (7 : Int) = 7 then (numV a d y x c - a.2.2.2) * (numV a (List.replicate d.length a.2.2.2) y x c - a.2.2.2) else (numV a d y x c - a.2.2.2) + (numV a (List.replicate d.length a.2.2.2) y x c - a.2.2.2)) (1 + m) t a.2.2.2) = List.replicate d.length a.2.2.2 := by
      rw [allL_congr (G := fun _ _ _ => a.2.2.2) (fun y x c hy hx hc => by
        rw [if_pos rfl, hnz y x c hy hx hc, Int.sub_self, Int.mul_zero]
        unfold scaleV
        rw [show min (max (0 : Int) (-2147483648)) 2147483647 = 0 by decide, Int.zero_mul, rnd_zero (p2_pos _), Int.add_zero, clamp8_id hz, clamp8_id hz])]
      rw [all_same, ← hlen]
    have hS : allL a.1.toNat a.2.1.toNat a.2.2.1.toNat (fun y x c => scaleV (if (6 : Int) = 7 then (numV a d y x c - a.2.2.2) * (numV a (List.replicate d.length a.2.2.2) y x c - a.2.2.2) else (numV a d y x c - a.2.2.2) + (numV a (List.replicate d.length a.2.2.2) y x c - a.2.2.2)) 1 0 a.2.2.2) = d := by
      rw [allL_congr (G := numV a d) (fun y x c hy hx hc => by
        have n1 := num_in hd (y := y) (x := x) (c := c) (by omega) (by omega) (by omega)
        rw [if_neg (by decide), hnz y x c hy hx hc, Int.sub_self, Int.add_zero]
        unfold scaleV
        rw [show min (max (numV a d y x c - a.2.2.2) (-2147483648)) 2147483647 = numV a d y x c - a.2.2.2 by omega, show min (max (1 : Int) 1) 32767 = 1 by decide, Int.mul_one, show p2 (sh 0) = 1 by decide, rnd_one, clamp8_id hz, show a.2.2.2 + (numV a d y x c - a.2.2.2) = numV a d y x c by omega, clamp8_id n1])]
      exact all_num hd (nat_of (by omega)) (nat_of (by omega)) (nat_of (by omega))
    rw [hZ] at Z
    rw [hS] at S
    have hr11 : ∀ u v w z : List Int, law05_KernSums_r11_p (u, 0) (v, 0) (w, 0) (z, 0) = false := fun u v w z => rfl
    have sm : ∀ F, ref05_Same (allL a.1.toNat a.2.1.toNat a.2.2.1.toNat F) (allL a.1.toNat a.2.1.toNat a.2.2.1.toNat F) = some true := fun F => same_refl _ (by rw [allL_len]; omega)
    have s3 := same_refl (List.replicate d.length a.2.2.2) (by simp only [List.length_replicate]; omega)
    have s4 := same_refl d (by omega)
    rw [hp]
    simp only [Bool.not_true, cond_false, Option.bind_some, hr5, hg, A, B, P, Q, hr11, hzero, Z, S, sm, s3, s4]
    rfl
end Go.V.P
