/- Plain laws of layer 5: KernBetween. -/
import Derived.Test.YtokpndlkheofjaaLKPool2
import Derived.Test.YtokpndlkheofjaaKf9
namespace Go.V.P
open Go Go.V Go.IntWalk
set_option linter.unusedVariables false
set_option linter.unusedSimpArgs false
set_option maxRecDepth 20000
theorem allL_get {H W C : Nat} (F : Nat → Nat → Nat → Int) {i : Nat} (hi : i < H * (W * C)) : gt (allL H W C F) (i : Int) 0 = F (i / (W * C)) (i % (W * C) / C) (i % (W * C) % C) ∧ i / (W * C) < H ∧ i % (W * C) / C < W ∧ i % (W * C) % C < C := by
  have hpos : 0 < W * C := by
    cases hz : W * C with
    | zero => rw [hz] at hi; omega
    | succ k => omega
  have hCpos : 0 < C := Nat.pos_of_ne_zero (fun h0 => by rw [h0] at hpos; omega)
  refine ⟨?_, Nat.div_lt_of_lt_mul (by rw [Nat.mul_comm]; exact hi), Nat.div_lt_of_lt_mul (by rw [Nat.mul_comm C W]; exact Nat.mod_lt _ hpos), Nat.mod_lt _ hCpos⟩
  unfold gt allL
  rw [show ((i : Int).toNat) = i by omega, List.getD_eq_getElem?_getD, List.getElem?_map, List.getElem?_range hi]
  rfl
/-- the least, the most, and what is turned -/
theorem between_loop (a : I4) (d e : List Int) (hd : Full a d) : ∃ lo hi : Int, iterN (law05_KernBetween_l12_p ([a, a], (d, e), true)) LL (127, -128, [], 0) = some (lo, hi, d.map (fun v => -1 - v), (d.length : Int)) ∧ ∀ j : Nat, j < d.length → lo ≤ gt d (j : Int) 0 ∧ gt d (j : Int) 0 ≤ hi := by
  have hl := hd.lim
  have hlen : d.length ≤ 2048 := by
    have := sizeV_in (vS a)
    have := hd.len
    omega
  have := iterN_inv (p := law05_KernBetween_l12_p ([a, a], (d, e), true)) (fun s : Int × Int × List Int × Int => ∃ q : Nat, s.2.2.2 = (q : Int) ∧ q ≤ d.length ∧ s.2.2.1 = (d.take q).map (fun v => -1 - v) ∧ ∀ j : Nat, j < q → s.1 ≤ gt d (j : Int) 0 ∧ gt d (j : Int) 0 ≤ s.2.1)
    (fun s => d.length - s.2.2.2.toNat) (Q := fun z : Int × Int × List Int × Int => z.2.2.1 = d.map (fun v => -1 - v) ∧ z.2.2.2 = (d.length : Int) ∧ ∀ j : Nat, j < d.length → z.1 ≤ gt d (j : Int) 0 ∧ gt d (j : Int) 0 ≤ z.2.1) (fun s hs => by
      obtain ⟨q, a1, a2, a3, a4⟩ := hs
      obtain ⟨s0, s1, s2, s3⟩ := s
      simp only at a1 a3 a4
      subst a1 a3
      unfold law05_KernBetween_l12_p
      by_cases hq : q < d.length
      · obtain ⟨t1, t2, t3⟩ := step_t hq (by omega)
        have hg := gt_i8 hd.bytes (q : Int) (by omega) (by omega)
        have w8 := i8_in (-1 - gt d (q : Int) 0) (by omega)
        simp only [law05_KernBetween_r14_p, law05_KernBetween_r15_p, law05_KernBetween_r16_p, t1, t2, t3, w8, cond_true, Option.bind_some]
        rw [decide_eq_true (by simp only [List.length_map, List.length_take, List.length_cons, List.length_nil]; unfold maxL; omega)]
        simp only [cond_true, Option.bind_some]
        refine .inl ⟨_, rfl, ⟨q + 1, by simp only; omega, by omega, ?_, fun j hj => ?_⟩, by simp only; omega⟩
        · simp only
          rw [List.take_add_one, List.map_append]
          congr 1
          unfold gt
          rw [show ((q : Int).toNat) = q by omega, List.getD_eq_getElem?_getD, List.getElem?_eq_getElem hq]
          rfl
        · simp only
          by_cases hjq : j = q
          · subst hjq; omega
          · have := a4 j (by omega); omega
      · have : q = d.length := by omega
        subst this
        rw [decide_eq_false (Int.lt_irrefl _)]
        exact .inr ⟨_, rfl, by simp only [List.take_length], rfl, a4⟩) LL (127, -128, [], 0) ⟨0, rfl, by omega, by simp, fun j hj => absurd hj (by omega)⟩ (LL_lt (by simp only; omega))
  obtain ⟨⟨z0, z1, z2, z3⟩, y1, y2, y3, y4⟩ := this
  simp only at y2 y3
  subst y2 y3
  exact ⟨z0, z1, y1, y4⟩
theorem gt_map {d : List Int} {f : Int → Int} {i : Int} (h0 : 0 ≤ i) (h1 : i < d.length) : gt (d.map f) i 0 = f (gt d i 0) := by
  unfold gt
  rw [List.getD_eq_getElem?_getD, List.getElem?_map, List.getD_eq_getElem?_getD, List.getElem?_eq_getElem (show i.toNat < d.length by omega)]
  rfl
theorem full_turn {a : I4} {d : List Int} (h : Full a d) : Full a (d.map (fun v => -1 - v)) := by
  refine ⟨h.may, by rw [List.length_map]; exact h.len, fun v hv => ?_, h.zero⟩
  obtain ⟨u, hu, e⟩ := List.mem_map.1 hv
  have := h.bytes u hu
  omega
theorem num_turn {a : I4} {d : List Int} (h : Full a d) {y x c : Nat} (hy : (y : Int) < a.1) (hx : (x : Int) < a.2.1) (hc : (c : Int) < a.2.2.1) : numV a (d.map (fun v => -1 - v)) y x c = -1 - numV a d y x c := by
  have hl := h.lim
  have hi := idx_in (H := a.1) (W := a.2.1) (C := a.2.2.1) (y := (y : Int)) (x := (x : Int)) (c := (c : Int)) (by omega) (by omega) (by omega) (by omega) hy (by omega) hx (by omega) hc
  exact gt_map (by omega) (by rw [h.size]; omega)
theorem KernBetween_true (x : Data) (w : I2) (kx : Ts.ok tsData x) (kw : Ts.ok (.cons (.int .u8) (.one (.int .u8))) w) : law05_KernBetween x w = some true := by
  have kw1 : 0 ≤ w.1 ∧ w.1 ≤ 255 := kw.1
  unfold law05_KernBetween
  rw [shown05]
  simp only [Option.bind_some]
  rcases pair_run x kx with hp | ⟨a, d, e, hd, he, hp⟩
  · rw [hp]; rfl
  · rw [hp]
    simp only [Option.bind_some]
    have hl := hd.lim
    have hk : ∃ k : Nat, IntKind.wrap .i64 (1 + Int.tmod (IntKind.wrap .i64 w.1) 3) = (k : Int) ∧ 1 ≤ k ∧ k ≤ 3 := by
      rw [i64_in w.1 (by omega), Int.tmod_eq_emod_of_nonneg kw1.1, i64_in _ (by omega)]
      exact ⟨(1 + w.1 % 3).toNat, by omega, by omega, by omega⟩
    obtain ⟨k, ek, hk1⟩ := hk
    have hs : ∃ s : Nat, law05_KernBetween_r4_p w = (s : Int) ∧ 1 ≤ s ∧ s ≤ 2 := by
      obtain ⟨t, t1, t2, t3⟩ := and8_le w.2 1 (by decide)
      simp only [law05_KernBetween_r4_p, law05_KernBetween_r4_q]
      rw [show ((1 : Int)) = ((1 : Nat) : Int) from rfl] at *
      rw [t1, i64_in t (by omega), i64_in _ (by omega)]
      exact ⟨(1 + t).toNat, by omega, by omega, by omega⟩
    obtain ⟨s, es, hs1⟩ := hs
    have hr5 : law05_KernBetween_r5_p w ([a, a], (d, e), true) = some (decide ((k : Int) > a.1) || decide ((k : Int) > a.2.1)) := by
      unfold law05_KernBetween_r5_p
      rw [ek]
      show (bif decide ((k : Int) > a.1) then some true else some (decide ((k : Int) > a.2.1))) = _
      cases decide ((k : Int) > a.1) <;> rfl
    rw [hr5]
    simp only [Option.bind_some]
    by_cases hbig : (k : Int) > a.1 ∨ (k : Int) > a.2.1
    · rw [show (decide ((k : Int) > a.1) || decide ((k : Int) > a.2.1)) = true by simpa using hbig]
      rfl
    · rw [show (decide ((k : Int) > a.1) || decide ((k : Int) > a.2.1)) = false by simpa using hbig]
      obtain ⟨lo, hi, h1, h2⟩ := between_loop a d e hd
      have hr7 : law05_KernBetween_r7_p ([a, a], (d, e), true) = some () := rfl
      have hdt := full_turn hd
      obtain ⟨A, g1, g2, g3, g4, g5, g6⟩ := all_pool 4 (.inl rfl) a d hd k s hk1 hs1 (by omega) (by omega)
      obtain ⟨B, _⟩ := all_pool 5 (.inr rfl) a d hd k s hk1 hs1 (by omega) (by omega)
      obtain ⟨C, _⟩ := all_pool 4 (.inl rfl) a _ hdt k s hk1 hs1 (by omega) (by omega)
      have hr17 : law05_KernBetween_r17_p w ([a, a], (d, e), true) = Option.bind (kern_All (poolN 4 (IntKind.wrap .i64 (1 + Int.tmod (IntKind.wrap .i64 w.1) 3)) (law05_KernBetween_r4_p w) a.2.2.2) [a] (d, [])) fun y => some y := rfl
      have hr18 : law05_KernBetween_r18_p w ([a, a], (d, e), true) = Option.bind (kern_All (poolN 5 (IntKind.wrap .i64 (1 + Int.tmod (IntKind.wrap .i64 w.1) 3)) (law05_KernBetween_r4_p w) a.2.2.2) [a] (d, [])) fun y => some y := rfl
      have hr19 : ∀ u v t z, law05_KernBetween_r19_p w ([a, a], (d, e), true) (u, v, t, z) = Option.bind (kern_All (poolN 4 (IntKind.wrap .i64 (1 + Int.tmod (IntKind.wrap .i64 w.1) 3)) (law05_KernBetween_r4_p w) a.2.2.2) [a] (t, [])) fun y => some y := fun u v t z => rfl
      rw [ek, es, A] at hr17
      rw [ek, es, B] at hr18
      simp only [cond_false, hr7, h1, hr17, hr18, hr19, ek, es, C, Option.bind_some]
      generalize hHo : (outV a.1 k s 0).toNat = Ho at *
      generalize hWo : (outV a.2.1 k s 0).toNat = Wo at *
      have hr20 : law05_KernBetween_r20_p (allL Ho Wo a.2.2.1.toNat (poolF (poolN 4 k s a.2.2.2) a d), 0) (allL Ho Wo a.2.2.1.toNat (poolF (poolN 5 k s a.2.2.2) a d), 0) (allL Ho Wo a.2.2.1.toNat (poolF (poolN 4 k s a.2.2.2) a (d.map (fun v => -1 - v))), 0) = false := by
        simp [law05_KernBetween_r20_p, law05_KernBetween_r20_q, allL_len]
      rw [hr20]
      simp only [cond_false]
      have hL : Ho * (Wo * a.2.2.1.toNat) ≤ 16 * (16 * 8) := Nat.mul_le_mul (by omega) (Nat.mul_le_mul (by omega) (by omega))
      have hfin : ∀ i : Nat, i < Ho * (Wo * a.2.2.1.toNat) → law05_KernBetween_l23_p (lo, hi, d.map (fun v => -1 - v), (d.length : Int)) (allL Ho Wo a.2.2.1.toNat (poolF (poolN 4 k s a.2.2.2) a d), 0) (allL Ho Wo a.2.2.1.toNat (poolF (poolN 5 k s a.2.2.2) a d), 0) (allL Ho Wo a.2.2.1.toNat (poolF (poolN 4 k s a.2.2.2) a (d.map (fun v => -1 - v))), 0) (i : Int) = some (.inl ((i + 1 : Nat) : Int)) := fun i hi' => by
        obtain ⟨u1, u2, u3, u4⟩ := allL_get (poolF (poolN 4 k s a.2.2.2) a d) hi'
        obtain ⟨v1, _⟩ := allL_get (poolF (poolN 5 k s a.2.2.2) a d) hi'
        obtain ⟨w1, _⟩ := allL_get (poolF (poolN 4 k s a.2.2.2) a (d.map (fun v => -1 - v))) hi'
        generalize i / (Wo * a.2.2.1.toNat) = y at *
        generalize i % (Wo * a.2.2.1.toNat) / a.2.2.1.toNat = x' at *
        generalize i % (Wo * a.2.2.1.toNat) % a.2.2.1.toNat = c at *
        have hy := g1 y u2
        have hx := g2 x' u3
        have hcI : (c : Int) < a.2.2.1 := by omega
        obtain ⟨p1, p2, p3, p4, p5⟩ := pool_pix hd 4 (.inl rfl) k s y x' c hk1 hs1 hy hx hcI
        obtain ⟨q1, q2, q3, q4, q5⟩ := pool_pix hd 5 (.inr rfl) k s y x' c hk1 hs1 hy hx hcI
        obtain ⟨r1, r2, r3, r4, r5⟩ := pool_pix hdt 4 (.inl rfl) k s y x' c hk1 hs1 hy hx hcI
        have P3 := (p3 rfl).1
        have R3 := (r3 rfl).1
        clear p3 q3 r3
        have hin : ∀ i j, i < k → j < k → lo ≤ numV a d (y * s + i) (x' * s + j) c ∧ numV a d (y * s + i) (x' * s + j) c ≤ hi := fun i j hi2 hj2 => by
          have hidx := idx_in (H := a.1) (W := a.2.1) (C := a.2.2.1) (y := ((y * s + i : Nat) : Int)) (x := ((x' * s + j : Nat) : Int)) (c := (c : Int)) (by omega) (by omega) (by omega) (by omega) (by omega) (by omega) (by omega) (by omega) (by omega)
          have := h2 ((((y * s + i : Nat) : Int) * a.2.1 + ((x' * s + j : Nat) : Int)) * a.2.2.1 + (c : Int)).toNat (by have := hd.size; omega)
          rw [show (((((((y * s + i : Nat) : Int) * a.2.1 + ((x' * s + j : Nat) : Int)) * a.2.2.1 + (c : Int)).toNat : Nat)) : Int) = (((y * s + i : Nat) : Int) * a.2.1 + ((x' * s + j : Nat) : Int)) * a.2.2.1 + (c : Int) by omega] at this
          exact this
        have b1 := q4 _ P3
        have b2 := q5 (-1 - poolF (poolN 4 k s a.2.2.2) a (d.map (fun v => -1 - v)) y x' c) (fun i j hi2 hj2 => by
          have := R3 i j hi2 hj2
          rw [num_turn hd (by omega) (by omega) (by omega)] at this
          omega)
        have b3 := p4 hi (fun i j hi2 hj2 => (hin i j hi2 hj2).2)
        have b4 := q5 lo (fun i j hi2 hj2 => (hin i j hi2 hj2).1)
        have w8 := i8_in (-1 - poolF (poolN 4 k s a.2.2.2) a (d.map (fun v => -1 - v)) y x' c) (by omega)
        have t1 : decide ((0 : Int) ≤ (i : Int)) = true := decide_eq_true (by omega)
        have t2 : decide ((i : Int) < ((Ho * (Wo * a.2.2.1.toNat) : Nat) : Int)) = true := decide_eq_true (by omega)
        have hr25 : law05_KernBetween_r25_p (lo, hi, d.map (fun v => -1 - v), (d.length : Int)) (allL Ho Wo a.2.2.1.toNat (poolF (poolN 4 k s a.2.2.2) a d), 0) (allL Ho Wo a.2.2.1.toNat (poolF (poolN 5 k s a.2.2.2) a d), 0) (allL Ho Wo a.2.2.1.toNat (poolF (poolN 4 k s a.2.2.2) a (d.map (fun v => -1 - v))), 0) (i : Int) = some false := by
          unfold law05_KernBetween_r25_p
          simp only [allL_len, t1, t2, cond_true, u1, v1, w1, w8]
          rw [decide_eq_false (by omega), decide_eq_false (by omega), decide_eq_false (by omega), decide_eq_false (by omega)]
          rfl
        unfold law05_KernBetween_l23_p
        simp only [allL_len, t2, cond_true, hr25, Option.bind_some, cond_false]
        rw [i64_in ((i : Int) + 1) (by omega)]
        rfl
      have := iterN_for (p := law05_KernBetween_l23_p (lo, hi, d.map (fun v => -1 - v), (d.length : Int)) (allL Ho Wo a.2.2.1.toNat (poolF (poolN 4 k s a.2.2.2) a d), 0) (allL Ho Wo a.2.2.1.toNat (poolF (poolN 5 k s a.2.2.2) a d), 0) (allL Ho Wo a.2.2.1.toNat (poolF (poolN 4 k s a.2.2.2) a (d.map (fun v => -1 - v))), 0)) (z := .inl ((Ho * (Wo * a.2.2.1.toNat) : Nat) : Int)) (Ho * (Wo * a.2.2.1.toNat)) (fun i => (i : Int)) LL (LL_lt (by omega)) hfin (by
        unfold law05_KernBetween_l23_p
        simp only [allL_len]
        rw [decide_eq_false (Int.lt_irrefl _)]
        rfl)
      exact congrArg (fun z => Option.bind z (either (fun _ => some true) fun _ => some false)) this
end Go.V.P
