/- Plain laws of layer 3: ops that keep what stands for nought. -/
import Derived.Test.YtcmckbcpeocokaaLPairs
import Derived.Test.YtcmckbcpeocokaaGv7
namespace Go.V.P
open Go Go.V Go.IntWalk
set_option linter.unusedVariables false
set_option linter.unusedSimpArgs false
set_option maxRecDepth 20000
def keepV (z : Int) (s : I3) (v : I4) : I4 × Int := if z = v.2.2.2 then (if mayB s = true then ((s.1, s.2.1, s.2.2, z), 0) else ((0, 0, 0, 0), 10)) else ((0, 0, 0, 0), 11)
theorem keep_Value (n : Node) (v : I4) (s : I3) (hm : mayB (vS v) = true) (hW : nW n = []) (hB : nB n = []) (hn : ref03_node n (([v] : List I4).length : Int) = true) (hk : ref03_keeps n.1 = true)
    (hs : ref03_made n [v] = some s) (hw : ref03_Value_r16_p n [v] = some ((0 : Int), (0 : Int))) : graph_Value n [v] = some (keepV (nZ n) s v) := by
  obtain ⟨y, h1, h2⟩ := Value_eq n [v] (by simp) (by rw [hB]; simp)
  rw [h1, ← h2]
  clear h1 h2
  unfold ref03_Value ref03_Value_q
  rw [hn]
  rcases refKeeps n [v] (by simp) with ⟨a1, a2⟩ | ⟨a1, a2⟩
  · rw [a2]
    have hz : nZ n = v.2.2.2 := by
      rw [hk] at a1
      have : v.2.2.2 = nZ n := by simpa using a1
      exact this.symm
    simp only [Bool.not_true, cond_false, Option.bind_some, either]
    rcases refMay [v] (by simp) with ⟨b1, b2⟩ | ⟨b1, b2⟩
    · rw [b2, hs]
      simp only [Option.bind_some, either, ref02_May_eq]
      cases hms : mayB s with
      | true =>
        rw [hw]
        have h17 : ref03_Value_r17_p n ((0 : Int), (0 : Int)) = false := by
          unfold ref03_Value_r17_p ref03_Value_r17_q
          rw [show n.2.2.2.2.2.2.2.2.2.2.2.2.1 = [] from hW, show n.2.2.2.2.2.2.2.2.2.2.2.2.2 = [] from hB]
          rfl
        simp only [if_true, bne_self_eq_false, cond_false, Option.bind_some, h17]
        rcases refOff n (by rw [hB]; simp) with ⟨c1, c2⟩ | ⟨c1, c2⟩
        · rw [c2, keepV, if_pos hz, if_pos hms]; rfl
        · rw [hB] at c1; exact absurd c1 (by simp)
      | false =>
        rw [keepV, if_pos hz, hms]; rfl
    · exact absurd b1 (by simp [hm])
  · rw [a2]
    have hz : ¬ nZ n = v.2.2.2 := by
      rw [hk] at a1
      have : ¬ v.2.2.2 = nZ n := by simpa using a1
      exact fun h => this h.symm
    rw [keepV, if_neg hz]; rfl
theorem keep_step (v : I4) (zero : Int) (w : A3) (i : Nat) (hi : i < 4) (z : Int) (hz : min (max zero (-128)) 127 = z) (s : I3) (hv : graph_Value (gt (law03_GraphKeeps_r7_p v zero w) (i : Int) dNode) [v] = some (keepV z s v))
    (hj : law03_GraphKeeps_j17_p v w (i : Int) = some (s.1, s.2.1)) (hc : s.2.2 = v.2.2.1) (hm : s.1 ≠ 0 → s.2.1 ≠ 0 → mayB s = true) : law03_GraphKeeps_l9_p v zero w (i : Int) = some (.inl ((i : Int) + 1)) := by
  have hlen : ((law03_GraphKeeps_r7_p v zero w).length : Int) = 4 := rfl
  have t1 : decide ((i : Int) < 4) = true := decide_eq_true (by omega)
  have t2 : decide ((0 : Int) ≤ (i : Int)) = true := decide_eq_true (by omega)
  have t3 := i64_in ((i : Int) + 1) (by omega)
  simp only [law03_GraphKeeps_l9_p, law03_GraphKeeps_l9_q, law03_GraphKeeps_j11_p, law03_GraphKeeps_j11_q, law03_GraphKeeps_r11_p, law03_GraphKeeps_r11_q, hlen, t1, t2, t3, hv, hj, hz, cond_true, Option.bind_some]
  by_cases h : z = v.2.2.2
  · rw [keepV, if_pos h, show (z != v.2.2.2) = false by simp [h]]
    simp only [cond_false, law03_GraphKeeps_r20_p, law03_GraphKeeps_r20_q, law03_GraphKeeps_r24_p, law03_GraphKeeps_r24_q, hz]
    by_cases h1 : s.1 = 0
    · have : mayB s = false := by
        cases hms : mayB s with
        | false => rfl
        | true => have := mayB_iff.1 hms; omega
      rw [h1, this]
      rfl
    · by_cases h2 : s.2.1 = 0
      · have : mayB s = false := by
          cases hms : mayB s with
          | false => rfl
          | true => have := mayB_iff.1 hms; omega
        rw [h2, this, show (s.1 == 0) = false by simp [h1]]
        rfl
      · rw [hm h1 h2, show (s.1 == 0) = false by simp [h1], show (s.2.1 == 0) = false by simp [h2]]
        simp [hc, either]
  · rw [keepV, if_neg h, show (z != v.2.2.2) = true by simp [h]]
    rfl
theorem outV_le {size k stride : Int} (h1 : 1 ≤ size ∧ size ≤ 16) (h2 : 1 ≤ k ∧ k ≤ 3) (h3 : 1 ≤ stride ∧ stride ≤ 2) : outV size k stride 0 ≤ size := by
  unfold outV
  split
  · have : (size + 2 * 0 - k) / stride ≤ size + 2 * 0 - k := Int.ediv_le_self _ (by omega)
    omega
  · omega
theorem GraphKeeps_true (v : I4) (zero : Int) (w : A3) (_ : Ts.ok tsI4 v) (_ : Ts.ok (.one (.int .i64)) zero) (hw0 : Ts.ok tsA3 w) : law03_GraphKeeps v zero w = some true := by
  have hw : 0 ≤ w.1 ∧ w.1 ≤ 255 := hw0.1
  have hs : 1 ≤ law03_GraphKeeps_r6_p w ∧ law03_GraphKeeps_r6_p w ≤ 2 := by
    obtain ⟨n, en, n1, n2⟩ := and8_le w.2 1 (by omega)
    rw [show ((1 : Nat) : Int) = 1 from rfl] at en
    unfold law03_GraphKeeps_r6_p law03_GraphKeeps_r6_q
    rw [en, i64_in n (by omega), i64_in _ (by omega)]
    show 1 ≤ 1 + n ∧ 1 + n ≤ 2
    omega
  have ht : 0 ≤ Int.tmod w.1 3 ∧ Int.tmod w.1 3 < 3 := by
    rw [Int.tmod_eq_emod_of_nonneg hw.1]
    omega
  have e1 := i64_in w.1 (by omega)
  have e2 := i64_in (1 + Int.tmod w.1 3) (by omega)
  unfold law03_GraphKeeps law03_GraphKeeps_q
  rw [shown03]
  simp only [Option.bind_some]
  have hr : law03_GraphKeeps_r3_p v = !(mayB (vS v) && (decide (-128 ≤ v.2.2.2) && decide (v.2.2.2 ≤ 127))) := by
    unfold law03_GraphKeeps_r3_p law03_GraphKeeps_r3_q
    rw [ref02_May_eq]
    show (bif (if mayB (vS v) = true then (0 : Int) else 10) != 0 then true else _) = _
    cases mayB (vS v) with
    | false => rfl
    | true =>
      by_cases a1 : v.2.2.2 < -128
      · rw [decide_eq_true a1, decide_eq_false (by omega : ¬ -128 ≤ v.2.2.2)]; rfl
      · rw [decide_eq_false a1, decide_eq_true (by omega : -128 ≤ v.2.2.2)]
        by_cases a2 : v.2.2.2 > 127
        · rw [decide_eq_true a2, decide_eq_false (by omega : ¬ v.2.2.2 ≤ 127)]; rfl
        · rw [decide_eq_false a2, decide_eq_true (by omega : v.2.2.2 ≤ 127)]; rfl
  rw [hr]
  cases hm : mayB (vS v) with
  | false => rfl
  | true =>
    cases hb : (decide (-128 ≤ v.2.2.2) && decide (v.2.2.2 ≤ 127)) with
    | false => rfl
    | true =>
      have hmv := mayB_iff.1 hm
      simp only [vS] at hmv
      have hzr : -128 ≤ min (max zero (-128)) 127 ∧ min (max zero (-128)) 127 ≤ 127 := by omega
      generalize hz : min (max zero (-128)) 127 = z at hzr
      have hin : ref03_in z (-128) 127 = true := (in_iff _ _ _).2 hzr
      have hk : ref03_in (1 + Int.tmod w.1 3) 1 3 = true := (in_iff _ _ _).2 (by omega)
      have hst : ref03_in (law03_GraphKeeps_r6_p w) 1 2 = true := (in_iff _ _ _).2 hs
      have hout : ∀ size, 1 ≤ size ∧ size ≤ 16 → 0 ≤ outV size (1 + Int.tmod w.1 3) (law03_GraphKeeps_r6_p w) 0 ∧ outV size (1 + Int.tmod w.1 3) (law03_GraphKeeps_r6_p w) 0 ≤ 16 := fun size h => by
        have := outV_in size (1 + Int.tmod w.1 3) (law03_GraphKeeps_r6_p w) 0
        have := outV_le h (k := 1 + Int.tmod w.1 3) (stride := law03_GraphKeeps_r6_p w) (by omega) hs
        omega
      have o1 := hout v.1 (by omega)
      have o2 := hout v.2.1 (by omega)
      have s0 : law03_GraphKeeps_l9_p v zero w ((0 : Nat) : Int) = some (.inl (((0 : Nat) : Int) + 1)) := by
        refine keep_step v zero w 0 (by omega) z hz (outV v.1 (1 + Int.tmod w.1 3) (law03_GraphKeeps_r6_p w) 0, outV v.2.1 (1 + Int.tmod w.1 3) (law03_GraphKeeps_r6_p w) 0, v.2.2.1) ?_ ?_ rfl (fun h1 h2 => mayB_iff.2 (by simp only at h1 h2 ⊢; omega))
        · have hg : gt (law03_GraphKeeps_r7_p v zero w) ((0 : Nat) : Int) dNode = ((4 : Int), [], 1 + Int.tmod w.1 3, law03_GraphKeeps_r6_p w, (0 : Int), (0 : Int), (1 : Int), (0 : Int), z, (0 : Int), (0 : Int), (0 : Int), [], []) := by
            rw [← hz]; unfold law03_GraphKeeps_r7_p law03_GraphKeeps_r7_q; rw [e1, e2]; rfl
          rw [hg]
          refine keep_Value _ v _ hm rfl rfl ?_ rfl ?_ rfl
          · simp [ref03_node, ref03_node_q, ref03_node_r17_p, ref03_node_r17_q, ref03_node_r16_p, ref03_node_r16_q, ref03_node_r15_p, ref03_node_r15_q, ref03_node_j13_p, ref03_node_j13_q, ref03_node_r13_p, ref03_node_r13_q, ref03_node_j10_p, ref03_node_j10_q, ref03_node_j8_p, ref03_node_j8_q, ref03_node_r9_p, ref03_node_r9_q, ref03_node_r8_p, ref03_node_r8_q, ref03_node_j5_p, ref03_node_j5_q, ref03_node_r6_p, ref03_node_r6_q, ref03_node_r4_p, ref03_node_r4_q, ref03_node_j2_p, ref03_node_j2_q, ref03_Two, ref03_Two_q, ref03_Two_r1_p, ref03_Two_r1_q, ref03_Window, ref03_Window_q, ref03_Window_r1_p, ref03_Window_r1_q, hin, hk, hst, in_iff]
          · simp [ref03_made, ref03_made_q, ref03_made_r1_p, ref03_made_r1_q, ref03_made_j2_p, ref03_made_j2_q, ref03_made_j3_p, ref03_made_j3_q, ref03_made_r10_p, ref03_made_r10_q, ref03_made_j8_p, ref03_made_j8_q, ref02_Out_eq, either, gt]
        · unfold law03_GraphKeeps_j17_p law03_GraphKeeps_j17_q
          rw [e1, e2, ref02_Out_eq, ref02_Out_eq]; rfl
      have s1 : law03_GraphKeeps_l9_p v zero w ((1 : Nat) : Int) = some (.inl (((1 : Nat) : Int) + 1)) := by
        refine keep_step v zero w 1 (by omega) z hz (outV v.1 (1 + Int.tmod w.1 3) (law03_GraphKeeps_r6_p w) 0, outV v.2.1 (1 + Int.tmod w.1 3) (law03_GraphKeeps_r6_p w) 0, v.2.2.1) ?_ ?_ rfl (fun h1 h2 => mayB_iff.2 (by simp only at h1 h2 ⊢; omega))
        · have hg : gt (law03_GraphKeeps_r7_p v zero w) ((1 : Nat) : Int) dNode = ((5 : Int), [], 1 + Int.tmod w.1 3, law03_GraphKeeps_r6_p w, (0 : Int), (0 : Int), (1 : Int), (0 : Int), z, (0 : Int), (0 : Int), (0 : Int), [], []) := by
            rw [← hz]; unfold law03_GraphKeeps_r7_p law03_GraphKeeps_r7_q; rw [e1, e2]; rfl
          rw [hg]
          refine keep_Value _ v _ hm rfl rfl ?_ rfl ?_ rfl
          · simp [ref03_node, ref03_node_q, ref03_node_r17_p, ref03_node_r17_q, ref03_node_r16_p, ref03_node_r16_q, ref03_node_r15_p, ref03_node_r15_q, ref03_node_j13_p, ref03_node_j13_q, ref03_node_r13_p, ref03_node_r13_q, ref03_node_j10_p, ref03_node_j10_q, ref03_node_j8_p, ref03_node_j8_q, ref03_node_r9_p, ref03_node_r9_q, ref03_node_r8_p, ref03_node_r8_q, ref03_node_j5_p, ref03_node_j5_q, ref03_node_r6_p, ref03_node_r6_q, ref03_node_r4_p, ref03_node_r4_q, ref03_node_j2_p, ref03_node_j2_q, ref03_Two, ref03_Two_q, ref03_Two_r1_p, ref03_Two_r1_q, ref03_Window, ref03_Window_q, ref03_Window_r1_p, ref03_Window_r1_q, hin, hk, hst, in_iff]
          · simp [ref03_made, ref03_made_q, ref03_made_r1_p, ref03_made_r1_q, ref03_made_j2_p, ref03_made_j2_q, ref03_made_j3_p, ref03_made_j3_q, ref03_made_r10_p, ref03_made_r10_q, ref03_made_j8_p, ref03_made_j8_q, ref02_Out_eq, either, gt]
        · unfold law03_GraphKeeps_j17_p law03_GraphKeeps_j17_q
          rw [e1, e2, ref02_Out_eq, ref02_Out_eq]; rfl
      have s2 : law03_GraphKeeps_l9_p v zero w ((2 : Nat) : Int) = some (.inl (((2 : Nat) : Int) + 1)) := by
        refine keep_step v zero w 2 (by omega) z hz (vS v) ?_ rfl rfl (fun _ _ => hm)
        have hg : gt (law03_GraphKeeps_r7_p v zero w) ((2 : Nat) : Int) dNode = ((8 : Int), [], (0 : Int), (0 : Int), (0 : Int), (0 : Int), (1 : Int), (0 : Int), z, (0 : Int), (0 : Int), (0 : Int), [], []) := by
          rw [← hz]; rfl
        rw [hg]
        refine keep_Value _ v _ hm rfl rfl ?_ rfl rfl rfl
        show (bif true then bif true then bif true then bif true then bif true then bif true then bif true then bif true then ref03_in z (-128) 127 else false else false else false else false else false else false else false else false) = true
        exact hin
      have s3 : law03_GraphKeeps_l9_p v zero w ((3 : Nat) : Int) = some (.inl (((3 : Nat) : Int) + 1)) := by
        refine keep_step v zero w 3 (by omega) z hz (vS v) ?_ rfl rfl (fun _ _ => hm)
        have hg : gt (law03_GraphKeeps_r7_p v zero w) ((3 : Nat) : Int) dNode = ((11 : Int), [], (0 : Int), (0 : Int), (0 : Int), (0 : Int), (1 : Int), (0 : Int), z, v.1, v.2.1, v.2.2.1, [], []) := by
          rw [← hz]; rfl
        rw [hg]
        refine keep_Value _ v _ hm rfl rfl ?_ rfl ?_ rfl
        · simp [ref03_node, ref03_node_q, ref03_node_r17_p, ref03_node_r17_q, ref03_node_r16_p, ref03_node_r16_q, ref03_node_r15_p, ref03_node_r15_q, ref03_node_j13_p, ref03_node_j13_q, ref03_node_r13_p, ref03_node_r13_q, ref03_node_j10_p, ref03_node_j10_q, ref03_node_j8_p, ref03_node_j8_q, ref03_node_r9_p, ref03_node_r9_q, ref03_node_r8_p, ref03_node_r8_q, ref03_node_j5_p, ref03_node_j5_q, ref03_node_r6_p, ref03_node_r6_q, ref03_node_r4_p, ref03_node_r4_q, ref03_node_j2_p, ref03_node_j2_q, ref03_Two, ref03_Two_q, ref03_Two_r1_p, ref03_Two_r1_q, ref03_Window, ref03_Window_q, ref03_Window_r1_p, ref03_Window_r1_q, hin, in_iff]
        · simp [ref03_made, ref03_made_q, ref03_made_r1_p, ref03_made_r1_q, ref03_made_j2_p, ref03_made_j2_q, ref03_made_j3_p, ref03_made_j3_q, ref03_made_j13_p, ref03_made_j13_q, ref03_made_r24_p, ref03_made_r24_q, ref02_Size_eq, either, gt, vS]
      have hl := iterN_for (p := law03_GraphKeeps_l9_p v zero w) (z := (.inl 4 : Int ⊕ (Unit ⊕ Unit))) 4 (fun i => (i : Int)) LL (LL_lt (by omega)) (fun i hi => by
        have : i = 0 ∨ i = 1 ∨ i = 2 ∨ i = 3 := by omega
        rcases this with rfl | rfl | rfl | rfl
        · exact s0
        · exact s1
        · exact s2
        · exact s3) rfl
      rw [show ((0 : Nat) : Int) = 0 from rfl] at hl
      rw [hl]
      rfl
end Go.V.P
