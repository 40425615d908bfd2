/- Plain laws of layer 6: EvalReshapes. -/
import Derived.Test.YtdgdgoekapekpaaLEvU
import Derived.Test.YtdgdgoekapekpaaEv11
namespace Go.V.P
open Go Go.V Go.IntWalk
set_option linter.unusedVariables false
set_option linter.unusedSimpArgs false
set_option maxRecDepth 20000
theorem run_app : ∀ (ns ms : List Node) (p : List I4) (w : Int) (q : List I4) (y : Int), run p w ns = .inl (q, y) → run p w (ns ++ ms) = run q y ms
  | [], ms, p, w, q, y, h => by
    cases h
    rfl
  | n :: ns, ms, p, w, q, y, h => by
    simp only [List.cons_append, run] at h ⊢
    split at h
    · split at h
      · rename_i ha he
        rw [if_pos ha, if_pos he]
        exact run_app ns ms _ _ q y h
      · cases h
    · cases h
theorem runD_app : ∀ (ns ms : List Node) (p : List I4) (a : List (List Int)) (w : Int) (q : List I4) (y : Int), run p w ns = .inl (q, y) → runD p a (ns ++ ms) = runD q (runD p a ns) ms
  | [], ms, p, a, w, q, y, h => by
    cases h
    rfl
  | n :: ns, ms, p, a, w, q, y, h => by
    simp only [run] at h
    split at h
    · split at h
      · simp only [List.cons_append, runD]
        exact runD_app ns ms _ _ _ q y h
      · cases h
    · cases h
/-- a node of one value: what it makes, and of which numbers -/
theorem one_val {n : Node} {q : List I4} {z : I4} {x : Int} (hn : okNode n) (hI : n.2.1 = [x]) (h0 : 0 ≤ x) (h1 : x < q.length) (hv : a8q n [gt q x dI4] = some (z, 0)) :
    n.2.1.all (inR q.length) = true ∧ gV n (pick q n) = (z, 0) ∧ pick q n = [gt q x dI4] := by
  have hp : pick q n = [gt q x dI4] := by
    unfold pick
    rw [hI]
    rfl
  refine ⟨?_, ?_, hp⟩
  · rw [hI]
    simp only [List.all_cons, List.all_nil, Bool.and_true, inR, Bool.and_eq_true, decide_eq_true_iff]
    exact ⟨h0, h1⟩
  · rw [hp]
    obtain ⟨u, e1, e2⟩ := Value_eq n [gt q x dI4] (by simp) hn.2.2
    rw [hv] at e2
    unfold gV
    rw [e1, ← e2]
    rfl
abbrev nR (x z : Int) (t : I3) : Node := (11, [x], 0, 0, 0, 0, 1, 0, z, t.1, t.2.1, t.2.2, [], [])
abbrev nL (x z : Int) : Node := (8, [x], 0, 0, 0, 0, 1, 0, z, 0, 0, 0, [], [])
theorem okR (x z : Int) (t : I3) : okNode (nR x z t) ∧ okB (nR x z t) := by
  refine ⟨⟨?_, ?_, ?_⟩, ?_, ?_⟩ <;> simp [nW, nB, i8s]
theorem okL (x z : Int) : okNode (nL x z) ∧ okB (nL x z) := by
  refine ⟨⟨?_, ?_, ?_⟩, ?_, ?_⟩ <;> simp [nW, nB, i8s]
/-- there and back, and cut at what stands for nought -/
theorem three (q : List I4) (b : List (List Int)) (hR : Rows q b) (y : Int) (k : Int) (h0 : 0 ≤ k) (h1 : k < q.length) :
    let v := gt q k dI4
    let z : I4 := (v.2.1, v.1, v.2.2.1, v.2.2.2)
    let e := gt b k []
    let ms : List Node := [nR k v.2.2.2 (v.2.1, v.1, v.2.2.1), nR (q.length : Int) v.2.2.2 (v.1, v.2.1, v.2.2.1), nL ((q.length : Int) + 1) v.2.2.2]
    run q y ms = .inl (q ++ [z] ++ [v] ++ [v], y + 0 + 0 + 0) ∧ runD q b ms = b ++ [e] ++ [e] ++ [e.map fun x => max x v.2.2.2] := by
  intro v z e ms
  have hv : Full v e := hR.at h0 h1
  have hl := hv.lim
  have hmz : mayB (vS z) = true := mayB_iff.2 (by simp only [vS, z]; omega)
  have hsz : sizeV (vS z) = sizeV (vS v) := by
    unfold sizeV
    rw [if_pos hmz, if_pos hv.may]
    simp only [vS, z]
    rw [Int.mul_comm v.2.1 v.1]
  have hz : Full z e := ⟨hmz, by rw [hsz]; exact hv.len, hv.bytes, hv.zero⟩
  have hbl : (b.length : Int) = q.length := by rw [hR.len]
  -- the values
  have a1 := one_val (q := q) (okR k v.2.2.2 (v.2.1, v.1, v.2.2.1)).1 rfl h0 h1 (reshape_val k v e hv (v.2.1, v.1, v.2.2.1) hmz hsz)
  have g1 : gt (q ++ [z]) (q.length : Int) dI4 = z := gt_last dI4
  have a2 := one_val (q := q ++ [z]) (z := v) (x := (q.length : Int)) (okR (q.length : Int) v.2.2.2 (v.1, v.2.1, v.2.2.1)).1 rfl (by omega) (by simp only [List.length_append, List.length_singleton]; omega) (by rw [g1]; exact reshape_val (q.length : Int) z e hz (v.1, v.2.1, v.2.2.1) hv.may hsz.symm)
  rw [g1] at a2
  have g2 : gt (q ++ [z] ++ [v]) ((q.length : Int) + 1) dI4 = v := by
    have := gt_last (l := q ++ [z]) (y := v) dI4
    rwa [show (((q ++ [z]).length : Nat) : Int) = (q.length : Int) + 1 by simp only [List.length_append, List.length_singleton]; omega] at this
  have a3 := one_val (q := q ++ [z] ++ [v]) (z := v) (x := (q.length : Int) + 1) (okL ((q.length : Int) + 1) v.2.2.2).1 rfl (by omega) (by simp only [List.length_append, List.length_singleton]; omega) (by rw [g2]; exact relu_val ((q.length : Int) + 1) v e hv)
  rw [g2] at a3
  -- the numbers
  have f1 : gt (b ++ [e]) (q.length : Int) [] = e := by rw [← hbl]; exact gt_last []
  have f2 : gt (b ++ [e] ++ [e]) ((q.length : Int) + 1) [] = e := by
    have := gt_last (l := b ++ [e]) (y := e) ([] : List Int)
    rwa [show (((b ++ [e]).length : Nat) : Int) = (q.length : Int) + 1 by simp only [List.length_append, List.length_singleton]; omega] at this
  have k1 : kA (nR k v.2.2.2 (v.2.1, v.1, v.2.2.1)) [v] (e, []) = e := by
    unfold kA
    rw [reshape_all k v e hv (v.2.1, v.1, v.2.2.1) hmz hsz]
    rfl
  have k2 : kA (nR (q.length : Int) v.2.2.2 (v.1, v.2.1, v.2.2.1)) [z] (e, []) = e := by
    have := reshape_all (q.length : Int) z e hz (v.1, v.2.1, v.2.2.1) hv.may hsz.symm
    unfold kA
    rw [this]
    rfl
  have k3 : kA (nL ((q.length : Int) + 1) v.2.2.2) [v] (e, []) = e.map fun x => max x v.2.2.2 := by
    unfold kA
    rw [relu_all ((q.length : Int) + 1) v e hv]
    show allL v.1.toNat v.2.1.toNat v.2.2.1.toNat (fun y x c => max (numV v e y x c) v.2.2.2) = _
    have hn := all_num hv (H := v.1.toNat) (W := v.2.1.toNat) (C := v.2.2.1.toNat) (nat_of (by omega)) (nat_of (by omega)) (nat_of (by omega))
    conv => rhs; rw [← hn]
    unfold allL
    rw [List.map_map]
    rfl
  have d1 : dat b (nR k v.2.2.2 (v.2.1, v.1, v.2.2.1)) = (e, []) := rfl
  have d2 : dat (b ++ [e]) (nR (q.length : Int) v.2.2.2 (v.1, v.2.1, v.2.2.1)) = (e, []) := by
    show (gt (b ++ [e]) (q.length : Int) [], ([] : List Int)) = _
    rw [f1]
  have d3 : dat (b ++ [e] ++ [e]) (nL ((q.length : Int) + 1) v.2.2.2) = (e, []) := by
    show (gt (b ++ [e] ++ [e]) ((q.length : Int) + 1) [], ([] : List Int)) = _
    rw [f2]
  constructor
  · show run q y [_, _, _] = _
    unfold run
    have b1 := a1.2.1
    have b2 := a2.2.1
    have b3 := a3.2.1
    unfold pick at b1 b2 b3
    rw [if_pos a1.1, b1, if_pos rfl]
    unfold run
    rw [if_pos a2.1, b2, if_pos rfl]
    unfold run
    rw [if_pos a3.1, b3, if_pos rfl]
    rfl
  · show runD q b [_, _, _] = _
    unfold runD
    rw [a1.2.1, a1.2.2, d1]
    unfold runD
    rw [k1, a2.2.1, a2.2.2, d2]
    unfold runD
    rw [k2, a3.2.1, a3.2.2, d3]
    unfold runD
    rw [k3]
theorem EvalReshapes_true (g : Graph) (l : List Int) (which : Int) (kg : Ts.ok a01 g) (kl : Ts.ok (.one (.sl (.one (.int .i8)))) l) (kw : Ts.ok (.one (.int .u8)) which) : a4j g l which = some true := by
  obtain ⟨m, em, hm, hB⟩ := less06 g kg
  have hb := (i8s_ok kl).1
  have hw : 0 ≤ which ∧ which ≤ 255 := kw
  unfold a4j
  rw [shown06, em]
  simp only [Option.bind_some]
  rcases Values03 m hm with ⟨v, v1, v2⟩ | ⟨v1, e, he, v2⟩
  · rw [v2]
    simp only [Option.bind_some]
    cases h4 : a1j m (v, 0) with
    | true => rfl
    | false =>
      obtain ⟨I, N, O⟩ := m
      have h14 := hm.2.1.1
      have h6 := hm.1
      simp only at h14 h6
      obtain ⟨hf, ⟨x, hrun, hx⟩, _⟩ := Values_ok v1
      have hfi := fit_in hf
      have hfit := hfi.1
      simp only at hfit hrun
      have hvl := (run_len _ _ _ _ _ hrun).1
      have w3 := i64_in ((N.length : Int) + 3) (by omega)
      have hN : N.length + 3 ≤ 12 := by
        simp only [a1j, a56, bne_self_eq_false, cond_false, w3, decide_eq_false_iff_not] at h4
        omega
      have hpos : 0 < v.length := by omega
      have hk : Int.tmod (IntKind.wrap .i64 which) (v.length : Int) = which % (v.length : Int) := by
        rw [i64_in which (by omega), Int.tmod_eq_emod_of_nonneg (by omega)]
      have k0 := Int.emod_nonneg which (show (v.length : Int) ≠ 0 by omega)
      have k1 := Int.emod_lt_of_pos which (show 0 < (v.length : Int) by omega)
      generalize hkk : which % (v.length : Int) = k at *
      have p1 := i64_in ((v.length : Int) + 1) (by omega)
      have p2 := i64_in ((v.length : Int) + 2) (by omega)
      have r6 : a57 (v, 0) = some () := by
        simp only [a57]
        rw [show ((v.length : Int) == 0) = false by simp only [beq_eq_false_iff_ne]; omega]
        rfl
      have r7 : a58 which (v, 0) = some () := by
        simp only [a58, hk]
        rw [decide_eq_true k0, decide_eq_true k1]
        rfl
      have r12 : a1f which (v, 0) = [k, (v.length : Int) + 1, (v.length : Int) + 2, (v.length : Int)] := by
        simp only [a1f, a4l, hk, p1, p2]
      generalize hu : gt v k dI4 = u
      have r11 : a4k which (I, N, O) (v, 0) = some (N ++ [nR k u.2.2.2 (u.2.1, u.1, u.2.2.1), nR (v.length : Int) u.2.2.2 (u.1, u.2.1, u.2.2.1), nL ((v.length : Int) + 1) u.2.2.2]) := by
        simp only [a4k, hk, p1, hu]
        rw [decide_eq_true (by simp only [List.length_nil, maxL]; omega), decide_eq_true (by simp only [List.nil_append, List.length_cons, List.length_nil, maxL]; omega)]
        rfl
      have hB2 : ∀ n ∈ N ++ [nR k u.2.2.2 (u.2.1, u.1, u.2.2.1), nR (v.length : Int) u.2.2.2 (u.1, u.2.1, u.2.2.1), nL ((v.length : Int) + 1) u.2.2.2], okNode n ∧ okB n := by
        intro n hn
        simp only [List.mem_append, List.mem_cons, List.not_mem_nil, or_false] at hn
        rcases hn with h | h | h | h
        · exact ⟨hm.2.1.2 n h, hB n h⟩
        · rw [h]; exact okR _ _ _
        · rw [h]; exact okR _ _ _
        · rw [h]; exact okL _ _
      have hl2 : (N ++ [nR k u.2.2.2 (u.2.1, u.1, u.2.2.1), nR (v.length : Int) u.2.2.2 (u.1, u.2.1, u.2.2.1), nL ((v.length : Int) + 1) u.2.2.2]).length = N.length + 3 := by simp
      have hm2 : okGraph (I, N ++ [nR k u.2.2.2 (u.2.1, u.1, u.2.2.1), nR (v.length : Int) u.2.2.2 (u.1, u.2.1, u.2.2.1), nL ((v.length : Int) + 1) u.2.2.2], [k, (v.length : Int) + 1, (v.length : Int) + 2, (v.length : Int)]) :=
        ⟨hm.1, ⟨by simp only [hl2]; omega, fun n hn => (hB2 n hn).1⟩, by simp⟩
      obtain ⟨d, d1, d2⟩ := Filled_run (I, N ++ [nR k u.2.2.2 (u.2.1, u.1, u.2.2.1), nR (v.length : Int) u.2.2.2 (u.1, u.2.1, u.2.2.1), nL ((v.length : Int) + 1) u.2.2.2], [k, (v.length : Int) + 1, (v.length : Int) + 2, (v.length : Int)]) l hb hm.1 hfi.2
      obtain ⟨a1, a2⟩ := All_eval _ hm hB v v1 d d2
      simp only at a1 a2 d2
      obtain ⟨t1, t2⟩ := three v (runD I d N) a2 x k k0 k1
      simp only [hu] at t1 t2
      have hal : ((runD I d N).length : Int) = (v.length : Int) := by rw [a2.len]
      have hfe : Full u (gt (runD I d N) k []) := by rw [← hu]; exact a2.at k0 k1
      generalize he : gt (runD I d N) k [] = e at *
      have hrun2 := (run_app N [nR k u.2.2.2 (u.2.1, u.1, u.2.2.1), nR (v.length : Int) u.2.2.2 (u.1, u.2.1, u.2.2.1), nL ((v.length : Int) + 1) u.2.2.2] I 0 v x hrun).trans t1
      have hD2 := (runD_app N [nR k u.2.2.2 (u.2.1, u.1, u.2.2.1), nR (v.length : Int) u.2.2.2 (u.1, u.2.1, u.2.2.1), nL ((v.length : Int) + 1) u.2.2.2] I d 0 v x hrun).trans t2
      have hany : I.any badIn = false := by
        unfold fitB at hf
        simp only [Bool.and_eq_true, Bool.not_eq_true'] at hf
        exact hf.2
      have hvs : valuesV (I, N ++ [nR k u.2.2.2 (u.2.1, u.1, u.2.2.1), nR (v.length : Int) u.2.2.2 (u.1, u.2.1, u.2.2.1), nL ((v.length : Int) + 1) u.2.2.2], [k, (v.length : Int) + 1, (v.length : Int) + 2, (v.length : Int)]) = some (v ++ [(u.2.1, u.1, u.2.2.1, u.2.2.2)] ++ [u] ++ [u]) := by
        unfold valuesV
        rw [if_pos (by
          unfold fitB
          simp only [hany, hl2, Bool.not_false, Bool.and_true, Bool.and_eq_true, decide_eq_true_iff, List.length_cons, List.length_nil]
          omega)]
        simp only [hrun2]
        rw [if_pos]
        refine ⟨by omega, ?_⟩
        simp only [List.all_cons, List.all_nil, Bool.and_true, inR, Bool.and_eq_true, decide_eq_true_iff, List.length_append, List.length_singleton]
        omega
      have ho := Outs_eval _ hm2 (fun n hn => (hB2 n hn).2) _ hvs d d2
      simp only [hD2, List.map_cons, List.map_nil] at ho
      have o0 : gt (runD I d N ++ [e] ++ [e] ++ [e.map fun x => max x u.2.2.2]) k [] = e := by
        rw [List.append_assoc, List.append_assoc, gt_left [] k0 (by omega), he]
      have o1 : gt (runD I d N ++ [e] ++ [e] ++ [e.map fun x => max x u.2.2.2]) ((v.length : Int) + 1) [] = e := by
        rw [gt_left [] (by omega) (by simp only [List.length_append, List.length_singleton]; omega)]
        have := gt_last (l := runD I d N ++ [e]) (y := e) ([] : List Int)
        rwa [show (((runD I d N ++ [e]).length : Nat) : Int) = (v.length : Int) + 1 by simp only [List.length_append, List.length_singleton]; omega] at this
      have o2 : gt (runD I d N ++ [e] ++ [e] ++ [e.map fun x => max x u.2.2.2]) ((v.length : Int) + 2) [] = e.map fun x => max x u.2.2.2 := by
        have := gt_last (l := runD I d N ++ [e] ++ [e]) (y := e.map fun x => max x u.2.2.2) ([] : List Int)
        rwa [show (((runD I d N ++ [e] ++ [e]).length : Nat) : Int) = (v.length : Int) + 2 by simp only [List.length_append, List.length_singleton]; omega] at this
      have o3 : gt (runD I d N ++ [e] ++ [e] ++ [e.map fun x => max x u.2.2.2]) (v.length : Int) [] = e := by
        rw [gt_left [] (by omega) (by simp only [List.length_append, List.length_singleton]; omega), gt_left [] (by omega) (by simp only [List.length_append, List.length_singleton]; omega), ← hal]
        exact gt_last []
      rw [o0, o1, o2, o3] at ho
      have r13 : a4m l which (I, N, O) (v, 0) (N ++ [nR k u.2.2.2 (u.2.1, u.1, u.2.2.1), nR (v.length : Int) u.2.2.2 (u.1, u.2.1, u.2.2.1), nL ((v.length : Int) + 1) u.2.2.2]) = some ([e, e, e.map fun x => max x u.2.2.2, e], 0) := by
        unfold a4m
        rw [r12, d1]
        simp only [Option.bind_some]
        rw [ho]
        rfl
      have hs := same_refl e hfe.small
      have r16 : a4o ([e, e, e.map fun x => max x u.2.2.2, e], 0) = some true := by
        show Option.bind (a2f e e) _ = _
        rw [hs]
        rfl
      have r17 : a4p ([e, e, e.map fun x => max x u.2.2.2, e], 0) = some true := by
        show Option.bind (a2f e e) _ = _
        rw [hs]
        rfl
      have r18 : a4q ([e, e, e.map fun x => max x u.2.2.2, e], 0) true true = some false := by
        show some (((e.map fun x => max x u.2.2.2).length : Int) != (e.length : Int)) = _
        rw [List.length_map]
        simp
      have hzz := hfe.zero
      have hloop : iterN (a1y which (v, 0) ([e, e, e.map fun x => max x u.2.2.2, e], 0)) LL 0 = some (.inl (e.length : Int)) := by
        refine iterN_for (p := a1y which (v, 0) ([e, e, e.map fun x => max x u.2.2.2, e], 0)) (z := .inl (e.length : Int)) e.length (fun i => (i : Int)) LL (LL_lt hfe.small) (fun i hi => ?_) ?_
        · obtain ⟨q1, q2, q3⟩ := step_t hi hfe.small
          have q4 : decide ((i : Int) < ((e.map fun x => max x u.2.2.2).length : Int)) = true := by rw [List.length_map]; exact q1
          have g1 := gt_at (0 : Int) hi
          have g2 := gt_at (0 : Int) (l := e.map fun x => max x u.2.2.2) (i := i) (by rw [List.length_map]; exact hi)
          have hby := hfe.bytes _ (List.getElem_mem hi)
          have r23 : a4s which (v, 0) ([e, e, e.map fun x => max x u.2.2.2, e], 0) (i : Int) = some false := by
            show (bif decide ((0 : Int) ≤ (i : Int)) then bif decide ((i : Int) < ((e.map fun x => max x u.2.2.2).length : Int)) then bif decide ((0 : Int) ≤ (i : Int)) then bif decide ((i : Int) < (e.length : Int)) then some ((IntKind.wrap .i64 (gt (e.map fun x => max x u.2.2.2) (i : Int) 0)) != (max (IntKind.wrap .i64 (gt e (i : Int) 0)) ((gt v (Int.tmod (IntKind.wrap .i64 which) (v.length : Int)) dI4).2.2.2))) else none else none else none else none) = _
            rw [q1, q2, q4, hk, hu, g1, g2]
            simp only [List.getElem_map, cond_true]
            rw [i64_in _ (by omega), i64_in _ (by omega)]
            simp
          have r21 : a4r ([e, e, e.map fun x => max x u.2.2.2, e], 0) = some () := rfl
          unfold a1y
          rw [r21, r23]
          show (bif decide ((i : Int) < ((e.map fun x => max x u.2.2.2).length : Int)) then _ else _) = _
          rw [q4, q3]
          rfl
        · have r21 : a4r ([e, e, e.map fun x => max x u.2.2.2, e], 0) = some () := rfl
          unfold a1y
          rw [r21]
          show (bif decide ((e.length : Int) < ((e.map fun x => max x u.2.2.2).length : Int)) then _ else _) = _
          rw [List.length_map, decide_eq_false (Int.lt_irrefl _)]
          rfl
      have r14 : a1g ([e, e, e.map fun x => max x u.2.2.2, e], 0) = false := rfl
      simp only [cond_false, r6, r7, r11, r13, r14, r16, r17, r18, hloop, Option.bind_some, either]
  · rw [v2]
    have : a1j m ([], e) = true := by
      simp only [a1j, a56]
      rw [show (e != 0) = true by simpa using he]
      rfl
    simp only [Option.bind_some, this]
    rfl
end Go.V.P
