/- Plain laws of layer 5: KernBeside. -/
import Derived.Test.YtokpndlkheofjaaLKops
import Derived.Test.YtokpndlkheofjaaKf8
namespace Go.V.P
open Go Go.V Go.IntWalk
set_option linter.unusedVariables false
set_option linter.unusedSimpArgs false
set_option maxRecDepth 20000
theorem push8 (s : List Int × Int) (h : s.1.length < 3000) (v : Int) (hv : -128 ≤ v ∧ v ≤ 127) : pushV s v = some (s.1 ++ [v]) := by rw [push_ok s v h, wrap8_in hv]
/-- one beside the other -/
theorem all_concat (a : I4) (d e : List Int) (hd : Full a d) (he : Full a e) (h4 : a.2.2.1 ≤ 4) :
    kern_All (10, [], 0, 0, 0, 0, 1, 0, a.2.2.2, 0, 0, 0, [], []) [a, a] (d, e) = some (allL a.1.toNat a.2.1.toNat (2 * a.2.2.1.toNat) (fun y x c => if c < a.2.2.1.toNat then numV a d y x c else numV a e y x (c - a.2.2.1.toNat)), 0) := by
  have hl := hd.lim
  have hz := hd.zero
  have hH := nat_of (show 0 ≤ a.1 by omega)
  have hW := nat_of (show 0 ≤ a.2.1 by omega)
  have hC : a.2.2.1 + a.2.2.1 = ((2 * a.2.2.1.toNat : Nat) : Int) := by omega
  have hv : ref03_Value (10, [], 0, 0, 0, 0, 1, 0, a.2.2.2, 0, 0, 0, [], []) [a, a] = some ((a.1, a.2.1, a.2.2.1 + a.2.2.1, a.2.2.2), 0) := by
    refine value_is _ _ (a.1, a.2.1, a.2.2.1 + a.2.2.1) 0 0 (by simp) ?_ ?_ ?_ ?_ ?_ ?_ rfl rfl rfl (by simp [nB])
    · simp [ref03_node, ref03_node_q, ref03_node_r17_p, ref03_node_r17_q, ref03_node_r16_p, ref03_node_r16_q, ref03_node_r15_p, ref03_node_r15_q, ref03_node_j13_p, ref03_node_j13_q, ref03_node_r13_p, ref03_node_r13_q, ref03_node_j10_p, ref03_node_j10_q, ref03_node_j8_p, ref03_node_j8_q, ref03_node_r9_p, ref03_node_r9_q, ref03_node_r8_p, ref03_node_r8_q, ref03_node_j5_p, ref03_node_j5_q, ref03_node_r6_p, ref03_node_r6_q, ref03_node_r4_p, ref03_node_r4_q, ref03_node_j2_p, ref03_node_j2_q, ref03_Two, ref03_Two_q, ref03_Two_r1_p, ref03_Two_r1_q, ref03_Window, ref03_Window_q, ref03_Window_r1_p, ref03_Window_r1_q, in_iff]
      omega
    · simp [nZ]
    · simp [hd.may]
    · have w := i64_in (a.2.2.1 + a.2.2.1) (by omega)
      simp [ref03_made, ref03_made_r1_p, ref03_made_j2_p, ref03_made_j3_p, ref03_made_j3_q, ref03_made_j13_p, ref03_made_j13_q, ref03_made_r15_p, ref03_made_r20_p, ref03_made_r22_p, gt, either, w]
    · rw [mayB_iff]; simp only; omega
    · rfl
  refine All_run (by simp [nB]) (by simp) hv (d, e) ⟨hd.len, he.len⟩ a.1.toNat a.2.1.toNat (2 * a.2.2.1.toNat) hH hW hC _ (fun y x c hy hx hc s s2 h1 h2 h3 => ?_)
  rw [pix_concat _ _ _ _ _ _ _ rfl, h1, h2]
  show Option.bind (kern_made_3 (y : Int) (x : Int) (c : Int) (paneV a d) a.1 a.2.1 a.2.2.1 a.2.2.2 0 a.1 d a.1 a.2.1 a.2.2.1 a.2.2.2 0 a.1 e) (pushV s2) = _
  have hr1 : kern_made_3_r1_p (paneV a d) = some () := by
    unfold kern_made_3_r1_p
    rw [show ((paneV a d).2.2.1 == 0) = false by show (a.2.2.1 == 0) = false; simp only [beq_eq_false_iff_ne]; omega]
    rfl
  have hq : IntKind.wrap .i64 (Int.tdiv (c : Int) (paneV a d).2.2.1) = if c < a.2.2.1.toNat then 0 else 1 := by
    show IntKind.wrap .i64 (Int.tdiv (c : Int) a.2.2.1) = _
    rw [i64_quo (c : Int) a.2.2.1 (by omega)]
    by_cases hc2 : c < a.2.2.1.toNat
    · rw [if_pos hc2, Int.ediv_eq_zero_of_lt (by omega) (by omega)]
    · rw [if_neg hc2]
      have e : (c : Int) = ((c : Int) - a.2.2.1) + 1 * a.2.2.1 := by omega
      rw [e, Int.add_mul_ediv_right _ _ (by omega), Int.ediv_eq_zero_of_lt (by omega) (by omega)]
      rfl
  unfold kern_made_3
  rw [hr1]
  simp only [Option.bind_some]
  rw [hq]
  by_cases hc2 : c < a.2.2.1.toNat
  · have g1 := pane_at_eq hd (y := (y : Int)) (x := (x : Int)) (c := (c : Int)) (by omega) (by omega)
    rw [at_num hd (by omega) (by omega)] at g1
    have n1 := num_in hd (y := y) (x := x) (c := c) (by omega) (by omega) (by omega)
    rw [if_pos hc2, if_pos hc2]
    simp only [beq_self_eq_true, cond_true, g1, Option.bind_some]
    show pushV s2 (IntKind.wrap .i64 (numV a d y x c - a.2.2.2 + a.2.2.2)) = _
    rw [show numV a d y x c - a.2.2.2 + a.2.2.2 = numV a d y x c by omega, i64_in _ (by omega)]
    exact push8 s2 h3 _ n1
  · have ec : IntKind.wrap .i64 ((c : Int) - (paneV a d).2.2.1) = ((c - a.2.2.1.toNat : Nat) : Int) := by
      show IntKind.wrap .i64 ((c : Int) - a.2.2.1) = _
      rw [i64_in _ (by omega)]; omega
    have g1 := pane_at_eq he (y := (y : Int)) (x := (x : Int)) (c := ((c - a.2.2.1.toNat : Nat) : Int)) (by omega) (by omega)
    rw [at_num he (by omega) (by omega)] at g1
    have n1 := num_in he (y := y) (x := x) (c := c - a.2.2.1.toNat) (by omega) (by omega) (by omega)
    rw [if_neg hc2, if_neg hc2]
    simp only [show ((1 : Int) == 0) = false from rfl, cond_false, ec]
    show Option.bind (Option.bind (kern_pane_at (paneV a e) _ _ _) _) _ = _
    rw [g1]
    simp only [Option.bind_some]
    rw [show numV a e y x (c - a.2.2.1.toNat) - a.2.2.2 + a.2.2.2 = numV a e y x (c - a.2.2.1.toNat) by omega, i64_in _ (by omega)]
    exact push8 s2 h3 _ n1
/-- a table looked up -/
theorem all_table (a : I4) (d T : List Int) (hd : Full a d) (hT : T.length = 256) (bT : i8s T) :
    kern_All (12, [], 0, 0, 0, 0, 1, 0, 0, 0, 0, 0, T, []) [a] (d, []) = some (allL a.1.toNat a.2.1.toNat a.2.2.1.toNat (fun y x c => gt T (numV a d y x c + 128) 0), 0) := by
  have hl := hd.lim
  have hz := hd.zero
  have hH := nat_of (show 0 ≤ a.1 by omega)
  have hW := nat_of (show 0 ≤ a.2.1 by omega)
  have hC := nat_of (show 0 ≤ a.2.2.1 by omega)
  have hv : ref03_Value (12, [], 0, 0, 0, 0, 1, 0, 0, 0, 0, 0, T, []) [a] = some ((a.1, a.2.1, a.2.2.1, 0), 0) := by
    refine value_is _ _ (vS a) 256 0 (by simp) ?_ rfl ?_ rfl hd.may rfl ?_ rfl rfl (by simp [nB])
    · simp [ref03_node, ref03_node_q, ref03_node_r17_p, ref03_node_r17_q, ref03_node_r16_p, ref03_node_r16_q, ref03_node_r15_p, ref03_node_r15_q, ref03_node_j13_p, ref03_node_j13_q, ref03_node_r13_p, ref03_node_r13_q, ref03_node_j10_p, ref03_node_j10_q, ref03_node_j8_p, ref03_node_j8_q, ref03_node_r9_p, ref03_node_r9_q, ref03_node_r8_p, ref03_node_r8_q, ref03_node_j5_p, ref03_node_j5_q, ref03_node_r6_p, ref03_node_r6_q, ref03_node_r4_p, ref03_node_r4_q, ref03_node_j2_p, ref03_node_j2_q, ref03_Two, ref03_Two_q, ref03_Two_r1_p, ref03_Two_r1_q, ref03_Window, ref03_Window_q, ref03_Window_r1_p, ref03_Window_r1_q, in_iff]
    · simp [hd.may]
    · show (T.length : Int) = 256
      rw [hT]; rfl
  refine All_run (by simp [nB]) (by simp) hv (d, []) hd.len a.1.toNat a.2.1.toNat a.2.2.1.toNat hH hW hC _ (fun y x c hy hx hc s s2 h1 h2 h3 => ?_)
  have g1 := pane_at_eq hd (y := (y : Int)) (x := (x : Int)) (c := (c : Int)) (by omega) (by omega)
  rw [at_num hd (by omega) (by omega)] at g1
  have n1 := num_in hd (y := y) (x := x) (c := c) (by omega) (by omega) (by omega)
  rw [pix_table _ _ _ _ _ _ _ rfl, h1, h2]
  have e3 : fst4 [a] = a := rfl
  have w1 := i64_in (numV a d y x c - a.2.2.2 + a.2.2.2) (by omega)
  have w2 := i64_in (numV a d y x c - a.2.2.2 + a.2.2.2 + 128) (by omega)
  have hg := gt_i8 bT (numV a d y x c + 128) (by omega) (by rw [hT]; omega)
  have hr : kern_made_5_r1_p (y : Int) (x : Int) (c : Int) (12, [], 0, 0, 0, 0, 1, 0, 0, 0, 0, 0, T, []) (paneV a d) = some (gt T (numV a d y x c + 128) 0) := by
    unfold kern_made_5_r1_p
    rw [g1]
    simp only [Option.bind_some]
    show (bif decide ((0 : Int) ≤ IntKind.wrap .i64 (IntKind.wrap .i64 (numV a d y x c - a.2.2.2 + a.2.2.2) + 128)) then bif decide (IntKind.wrap .i64 (IntKind.wrap .i64 (numV a d y x c - a.2.2.2 + a.2.2.2) + 128) < (T.length : Int)) then some (IntKind.wrap .i64 (gt T (IntKind.wrap .i64 (IntKind.wrap .i64 (numV a d y x c - a.2.2.2 + a.2.2.2) + 128)) 0)) else none else none) = _
    rw [w1, w2, show numV a d y x c - a.2.2.2 + a.2.2.2 + 128 = numV a d y x c + 128 by omega, decide_eq_true (by omega), decide_eq_true (by rw [hT]; omega), i64_in _ (by omega)]
    rfl
  unfold kern_made_5
  rw [e3, hr]
  exact push8 s2 h3 _ hg
theorem table_run (w : List Int) (hb : i8s w) : ∃ T, iterN (law05_KernBeside_l9_p w) LL ([], 0) = some (T, 256) ∧ T.length = 256 ∧ i8s T := by
  have hloop : ∃ y : List Int × Int, iterN (law05_KernBeside_l9_p w) LL ([], 0) = some y ∧ y.2 = 256 ∧ (y.1.length : Int) = 256 ∧ i8s y.1 := by
    refine iterN_inv (fun s : List Int × Int => (s.1.length : Int) = s.2 ∧ s.2 ≤ 256 ∧ i8s s.1) (fun s => (256 - s.2).toNat) (fun s hs' => ?_) LL ([], 0) ⟨rfl, by simp only; omega, fun v hv => by simp at hv⟩ (LL_lt (by simp only; omega))
    obtain ⟨a1, a2, a3⟩ := hs'
    unfold law05_KernBeside_l9_p
    by_cases hc : s.2 < 256
    · have hj : ∃ x, law05_KernBeside_j12_p w s = some x ∧ -128 ≤ x ∧ x ≤ 127 := by
        unfold law05_KernBeside_j12_p
        by_cases h0 : (w.length : Int) > 0
        · have hm1 := Int.emod_nonneg s.2 (show (w.length : Int) ≠ 0 by omega)
          have hm2 := Int.emod_lt_of_pos s.2 (show 0 < (w.length : Int) by omega)
          have hm : Int.tmod s.2 (w.length : Int) = s.2 % (w.length : Int) := Int.tmod_eq_emod_of_nonneg (by omega)
          have h7 : law05_KernBeside_r13_p w s = some () := by
            unfold law05_KernBeside_r13_p
            rw [hm, show ((w.length : Int) == 0) = false by simp only [beq_eq_false_iff_ne]; omega, decide_eq_true hm1, decide_eq_true hm2]
            rfl
          rw [decide_eq_true h0, h7, hm]
          exact ⟨_, rfl, gt_i8 hb _ hm1 hm2⟩
        · rw [decide_eq_false h0, i64_in (s.2 - 128) (by omega), i8_in (s.2 - 128) (by omega)]
          exact ⟨_, rfl, by omega, by omega⟩
      obtain ⟨x, x1, x2⟩ := hj
      have h8 : law05_KernBeside_r14_p s x = some () := by
        unfold law05_KernBeside_r14_p
        rw [decide_eq_true (by simp only [List.length_cons, List.length_nil]; unfold maxL; omega)]
        rfl
      have t3 := i64_in (s.2 + 1) (by omega)
      rw [decide_eq_true hc, x1]
      simp only [cond_true, Option.bind_some, h8, t3]
      refine .inl ⟨_, rfl, ⟨by simp only [List.length_append, List.length_cons, List.length_nil]; omega, by simp only; omega, fun v hv => ?_⟩, by simp only; omega⟩
      rcases List.mem_append.1 hv with hv | hv
      · exact a3 v hv
      · have : v = x := by simpa using hv
        subst this; exact x2
    · rw [decide_eq_false hc]
      exact .inr ⟨_, rfl, by omega, by omega, a3⟩
  obtain ⟨⟨T, i⟩, y1, y2, y3, y4⟩ := hloop
  replace y2 : i = 256 := y2
  subst y2
  exact ⟨T, y1, by simp only at y3; omega, y4⟩
theorem KernBeside_true (x : Data) (w : List Int) (kx : Ts.ok tsData x) (kw : Ts.ok (.one (.sl (.one (.int .i8)))) w) : law05_KernBeside x w = some true := by
  obtain ⟨bw, _⟩ := i8s_ok kw
  unfold law05_KernBeside
  rw [shown05]
  simp only [Option.bind_some]
  rcases pair_run x kx with hp | ⟨a, d, e, hd, he, hp⟩
  · rw [hp]; rfl
  · rw [hp]
    simp only [Option.bind_some]
    have hg : gt ([a, a] : List I4) 0 dI4 = a := rfl
    have hlen : decide ((0 : Int) < (([a, a] : List I4).length : Int)) = true := rfl
    have hr3 : law05_KernBeside_r3_p ([a, a], (d, e), true) = some (decide (a.2.2.1 > 4)) := rfl
    rw [hr3]
    simp only [Option.bind_some]
    by_cases h4 : a.2.2.1 > 4
    · rw [decide_eq_true h4]; rfl
    · rw [decide_eq_false h4]
      have hl := hd.lim
      have A := all_concat a d e hd he (by omega)
      obtain ⟨T, T1, T2, T3⟩ := table_run w bw
      have B := all_table a d T hd T2 T3
      have hr5 : law05_KernBeside_r5_p ([a, a], (d, e), true) = some () := rfl
      have hr6 : law05_KernBeside_r6_p ([a, a], (d, e), true) = Option.bind (kern_All (10, [], 0, 0, 0, 0, 1, 0, a.2.2.2, 0, 0, 0, [], []) [a, a] (d, e)) fun y => some y := rfl
      have hr15 : law05_KernBeside_r15_p ([a, a], (d, e), true) (T, 256) = Option.bind (kern_All (12, [], 0, 0, 0, 0, 1, 0, 0, 0, 0, 0, T, []) [a] (d, [])) fun y => some y := rfl
      rw [A] at hr6
      rw [B] at hr15
      have hlenD : (d.length : Int) = ((a.1.toNat * (a.2.1.toNat * a.2.2.1.toNat) : Nat) : Int) := by
        have := congrArg List.length (all_num hd (H := a.1.toNat) (W := a.2.1.toNat) (C := a.2.2.1.toNat) (nat_of (by omega)) (nat_of (by omega)) (nat_of (by omega)))
        rw [allL_len] at this
        rw [← this]
      have hlenE : (e.length : Int) = ((a.1.toNat * (a.2.1.toNat * a.2.2.1.toNat) : Nat) : Int) := by
        have := congrArg List.length (all_num he (H := a.1.toNat) (W := a.2.1.toNat) (C := a.2.2.1.toNat) (nat_of (by omega)) (nat_of (by omega)) (nat_of (by omega)))
        rw [allL_len] at this
        rw [← this]
      have hbig : a.1.toNat * (a.2.1.toNat * a.2.2.1.toNat) ≤ 16 * (16 * 8) := Nat.mul_le_mul (by omega) (Nat.mul_le_mul (by omega) (by omega))
      have h2c : a.1.toNat * (a.2.1.toNat * (2 * a.2.2.1.toNat)) = 2 * (a.1.toNat * (a.2.1.toNat * a.2.2.1.toNat)) := by
        rw [Nat.mul_left_comm a.2.1.toNat 2, Nat.mul_left_comm a.1.toNat 2]
      generalize hL : a.1.toNat * (a.2.1.toNat * a.2.2.1.toNat) = L at *
      simp only [cond_false, Option.bind_some, hr5, hr6, T1, hr15]
      have hr16 : ∀ P Q : List Int, P.length = 2 * L → Q.length = L → law05_KernBeside_r16_p ([a, a], (d, e), true) (P, 0) (Q, 0) = false := fun P Q hP hQ => by
        simp only [law05_KernBeside_r16_p, law05_KernBeside_r16_q, hlenD, hP, hQ, bne_self_eq_false, cond_false]
        rw [i64_in (2 * ((L : Nat) : Int)) (by omega), show (((2 * L : Nat) : Int) != 2 * (L : Int)) = false by simp]
        rfl
      rw [hr16 _ _ (by rw [allL_len, h2c]) (by rw [allL_len, hL])]
      simp only [cond_false]
      have hfin : ∀ i : Nat, i < L → law05_KernBeside_l19_p ([a, a], (d, e), true) (allL a.1.toNat a.2.1.toNat (2 * a.2.2.1.toNat) (fun y x c => if c < a.2.2.1.toNat then numV a d y x c else numV a e y x (c - a.2.2.1.toNat)), 0) (T, 256) (allL a.1.toNat a.2.1.toNat a.2.2.1.toNat (fun y x c => gt T (numV a d y x c + 128) 0), 0) (i : Int) = some (.inl ((i + 1 : Nat) : Int)) := fun i hi => by
        -- the place
        have hCp : 0 < a.2.2.1.toNat := by omega
        have hWp : 0 < a.2.1.toNat := by omega
        have hc : i % a.2.2.1.toNat < a.2.2.1.toNat := Nat.mod_lt _ hCp
        have hx : i / a.2.2.1.toNat % a.2.1.toNat < a.2.1.toNat := Nat.mod_lt _ hWp
        have hq : i / a.2.2.1.toNat < a.1.toNat * a.2.1.toNat := Nat.div_lt_of_lt_mul (by rw [Nat.mul_comm, Nat.mul_assoc]; rw [hL]; exact hi)
        have hy : i / a.2.2.1.toNat / a.2.1.toNat < a.1.toNat := Nat.div_lt_of_lt_mul (by rw [Nat.mul_comm]; exact hq)
        have eq1 : i / a.2.2.1.toNat / a.2.1.toNat * a.2.1.toNat + i / a.2.2.1.toNat % a.2.1.toNat = i / a.2.2.1.toNat := by rw [Nat.mul_comm]; exact Nat.div_add_mod _ _
        have eq2 : i / a.2.2.1.toNat * a.2.2.1.toNat + i % a.2.2.1.toNat = i := by rw [Nat.mul_comm]; exact Nat.div_add_mod _ _
        have eC : a.2.2.1 = (a.2.2.1.toNat : Int) := nat_of (by omega)
        have eW : a.2.1 = (a.2.1.toNat : Int) := nat_of (by omega)
        have hnum : ∀ f : List Int, numV a f (i / a.2.2.1.toNat / a.2.1.toNat) (i / a.2.2.1.toNat % a.2.1.toNat) (i % a.2.2.1.toNat) = gt f (i : Int) 0 := fun f => by
          unfold numV
          rw [eC, eW]
          congr 1
          have h := congrArg (fun n : Nat => (n : Int)) eq1
          have h2 := congrArg (fun n : Nat => (n : Int)) eq2
          simp only [Int.natCast_add, Int.natCast_mul, Int.toNat_natCast] at h h2 ⊢
          rw [h, h2]
        generalize hyy : i / a.2.2.1.toNat / a.2.1.toNat = y at *
        generalize hxx : i / a.2.2.1.toNat % a.2.1.toNat = xx at *
        generalize hcc : i % a.2.2.1.toNat = c at *
        generalize hqq : i / a.2.2.1.toNat = q at *
        have hq2 : q ≤ 256 := by
          have : a.1.toNat * a.2.1.toNat ≤ 16 * 16 := Nat.mul_le_mul (by omega) (by omega)
          omega
        have hq8 : q * (2 * a.2.2.1.toNat) ≤ 256 * 8 := Nat.mul_le_mul hq2 (by omega)
        obtain ⟨p1, p2⟩ := allL_at a.1.toNat a.2.1.toNat (2 * a.2.2.1.toNat) (fun y x c => if c < a.2.2.1.toNat then numV a d y x c else numV a e y x (c - a.2.2.1.toNat)) y xx c hy hx (by omega) (q * (2 * a.2.2.1.toNat) + c) (by rw [eq1])
        obtain ⟨p3, p4⟩ := allL_at a.1.toNat a.2.1.toNat (2 * a.2.2.1.toNat) (fun y x c => if c < a.2.2.1.toNat then numV a d y x c else numV a e y x (c - a.2.2.1.toNat)) y xx (c + a.2.2.1.toNat) hy hx (by omega) (q * (2 * a.2.2.1.toNat) + (c + a.2.2.1.toNat)) (by rw [eq1])
        obtain ⟨p5, p6⟩ := allL_at a.1.toNat a.2.1.toNat a.2.2.1.toNat (fun y x c => gt T (numV a d y x c + 128) 0) y xx c hy hx hc i (by rw [eq1, eq2])
        simp only [if_pos hc, hnum] at p1
        simp only [if_neg (show ¬ c + a.2.2.1.toNat < a.2.2.1.toNat by omega), Nat.add_sub_cancel, hnum] at p3
        simp only [hnum] at p5
        have hdi := gt_i8 hd.bytes (i : Int) (by omega) (by rw [hlenD]; omega)
        have hr21 : law05_KernBeside_r21_p ([a, a], (d, e), true) (i : Int) = some ((q * (2 * a.2.2.1.toNat) + c : Nat) : Int) := by
          unfold law05_KernBeside_r21_p
          simp only [hg]
          rw [show (a.2.2.1 == 0) = false by simp only [beq_eq_false_iff_ne]; omega, i64_quo (i : Int) a.2.2.1 (by omega), Int.tmod_eq_emod_of_nonneg (by omega)]
          have e1 : (i : Int) / a.2.2.1 = (q : Int) := by rw [eC, ← hqq]; rfl
          have e2 : (i : Int) % a.2.2.1 = (c : Int) := by rw [eC, ← hcc]; rfl
          have e3 : (q : Int) * 2 * a.2.2.1 = ((q * (2 * a.2.2.1.toNat) : Nat) : Int) := by
            rw [Int.natCast_mul, Int.natCast_mul, ← eC, Int.mul_assoc]; rfl
          rw [e1, e2, i64_in ((q : Int) * 2) (by omega), e3, i64_in ((q * (2 * a.2.2.1.toNat) : Nat) : Int) (by omega), i64_in (((q * (2 * a.2.2.1.toNat) : Nat) : Int) + (c : Int)) (by omega)]
          rfl
        have hr22 : ∀ P Q : List Int, P.length = 2 * L → Q.length = L → gt P ((q * (2 * a.2.2.1.toNat) + c : Nat) : Int) 0 = gt d (i : Int) 0 → gt P ((q * (2 * a.2.2.1.toNat) + (c + a.2.2.1.toNat) : Nat) : Int) 0 = gt e (i : Int) 0 → gt Q (i : Int) 0 = gt T (gt d (i : Int) 0 + 128) 0 →
            law05_KernBeside_r22_p ([a, a], (d, e), true) (P, 0) (T, 256) (Q, 0) (i : Int) ((q * (2 * a.2.2.1.toNat) + c : Nat) : Int) = some false := fun P Q hP hQ e1 e2 e3 => by
          unfold law05_KernBeside_r22_p
          have w1 : IntKind.wrap .i64 (((q * (2 * a.2.2.1.toNat) + c : Nat) : Int) + a.2.2.1) = ((q * (2 * a.2.2.1.toNat) + (c + a.2.2.1.toNat) : Nat) : Int) := by rw [i64_in _ (by omega)]; omega
          have w2 := i64_in (gt d (i : Int) 0) (by omega)
          have w3 := i64_in (gt d (i : Int) 0 + 128) (by omega)
          simp only [hg, w1, w2, w3, e1, e2, e3, hlenD, hlenE, hP, hQ, T2, bne_self_eq_false, cond_false]
          rw [h2c] at p2 p4
          rw [decide_eq_true (by omega), decide_eq_true (by omega), decide_eq_true (by omega), decide_eq_true (by omega), decide_eq_true (by omega), decide_eq_true (by omega), decide_eq_true (by omega), decide_eq_true (by omega)]
          rfl
        unfold law05_KernBeside_l19_p
        simp only [hlenD]
        rw [decide_eq_true (by omega : (i : Int) < (L : Int)), hr21]
        simp only [cond_true, Option.bind_some]
        rw [hr22 _ _ (by rw [allL_len, h2c]) (by rw [allL_len, hL]) p1 p3 p5, i64_in ((i : Int) + 1) (by omega)]
        rfl
      have := iterN_for (p := law05_KernBeside_l19_p ([a, a], (d, e), true) (allL a.1.toNat a.2.1.toNat (2 * a.2.2.1.toNat) (fun y x c => if c < a.2.2.1.toNat then numV a d y x c else numV a e y x (c - a.2.2.1.toNat)), 0) (T, 256) (allL a.1.toNat a.2.1.toNat a.2.2.1.toNat (fun y x c => gt T (numV a d y x c + 128) 0), 0)) (z := .inl (L : Int)) L (fun i => (i : Int)) LL (LL_lt (by omega)) hfin (by
        unfold law05_KernBeside_l19_p
        simp only [hlenD]
        rw [decide_eq_false (Int.lt_irrefl _)]
        rfl)
      exact congrArg (fun z => Option.bind z (either (fun _ => some true) fun _ => some false)) this
end Go.V.P
