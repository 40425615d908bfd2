/- Plain laws of layer 19: BuildAhead. -/
import Derived.Test.YtaeckbkjlmnigaaLBAhead2
import Derived.Test.YtaeckbkjlmnigaaBt5
import Derived.Test.YtaeckbkjlmnigaaBt6
namespace Go.V.P
open Go Go.V Go.IntWalk
set_option linter.unusedVariables false
set_option linter.unusedSimpArgs false
set_option maxRecDepth 20000
theorem ints_dec (a b : List Int) (ha : a.length < 1000000) : ref03_Ints a b = some (decide (a = b)) := by
  unfold ref03_Ints ref03_ints
  by_cases hl : a.length = b.length
  · rw [show ((a.length : Int) != (b.length : Int)) = false by rw [hl]; simp]
    simp only [cond_false]
    obtain ⟨z, h1, h2⟩ := iterN_inv (p := ref03_ints_l4_p a b) (fun s => ∃ k : Nat, s = (k : Int) ∧ k ≤ a.length ∧ a.take k = b.take k) (fun s => a.length - s.toNat) (Q := fun z => (∃ x, z = .inl x ∧ a = b) ∨ (z = .inr () ∧ a ≠ b)) (fun s hs => by
      obtain ⟨k, rfl, hk, he⟩ := hs
      by_cases hlt : k < a.length
      · have d1 : (k : Int) < (a.length : Int) := by omega
        have d2 : (0 : Int) ≤ (k : Int) := by omega
        have d3 : (k : Int) < (b.length : Int) := by omega
        have g1 : gt a (k : Int) 0 = a[k] := gt_at (0 : Int) hlt
        have g2 : gt b (k : Int) 0 = b[k]'(by omega) := gt_at (0 : Int) (by omega)
        have w1 : IntKind.wrap .i64 ((k : Int) + 1) = ((k + 1 : Nat) : Int) := by rw [i64_in _ (by omega)]; omega
        simp only [ref03_ints_l4_p, ref03_ints_r6_p, d1, d2, d3, g1, g2, w1, decide_true, cond_true, Option.bind_some]
        by_cases hx : a[k] = b[k]'(by omega)
        · rw [show (a[k] != b[k]'(by omega)) = false by simpa using hx]
          refine .inl ⟨_, rfl, ⟨k + 1, rfl, by omega, ?_⟩, by omega⟩
          rw [List.take_succ_eq_append_getElem hlt, List.take_succ_eq_append_getElem (by omega : k < b.length), he, hx]
        · rw [show (a[k] != b[k]'(by omega)) = true by simpa using hx]
          exact .inr ⟨_, rfl, .inr ⟨rfl, fun e => hx (by subst e; rfl)⟩⟩
      · have d1 : ¬ (k : Int) < (a.length : Int) := by omega
        simp only [ref03_ints_l4_p, d1, decide_false, cond_false]
        refine .inr ⟨_, rfl, .inl ⟨_, rfl, ?_⟩⟩
        rw [List.take_of_length_le (by omega), List.take_of_length_le (by omega)] at he
        exact he) LL 0 ⟨0, rfl, by omega, rfl⟩ (LL_lt (by omega))
    rw [h1]
    rcases h2 with ⟨x, rfl, e⟩ | ⟨rfl, e⟩
    · simp only [Option.bind_some, either, decide_eq_true e]
    · simp only [Option.bind_some, either, decide_eq_false e]
  · have : a ≠ b := fun e => hl (by rw [e])
    rw [show ((a.length : Int) != (b.length : Int)) = true by rw [bne_iff_ne]; omega, decide_eq_false this]
    rfl
theorem same08 (a : List I14) (ha : a.length < 1000000) : ref08_Same a a = some true := by
  unfold ref08_Same
  rw [show ((a.length : Int) != (a.length : Int)) = false by simp]
  have := iterN_for (p := ref08_Same_l4_p a a) (z := .inl (a.length : Int)) a.length (fun k => (k : Int)) LL (LL_lt (by omega)) (fun k hk => by
    have d1 : (k : Int) < (a.length : Int) := by omega
    have d2 : (0 : Int) ≤ (k : Int) := by omega
    have w1 : IntKind.wrap .i64 ((k : Int) + 1) = ((k + 1 : Nat) : Int) := by rw [i64_in _ (by omega)]; omega
    simp only [ref08_Same_l4_p, ref08_Same_r6_p, d1, d2, w1, decide_true, cond_true, Option.bind_some, beq_self_eq_true, Bool.and_self, Bool.not_true, cond_false]) (by
    simp only [ref08_Same_l4_p]
    rw [decide_eq_false (Int.lt_irrefl _)]
    rfl)
  have this' : iterN (ref08_Same_l4_p a a) LL 0 = _ := this
  simp only [cond_false]
  rw [this']
  rfl
/-- the beginnings of two rows, one of which goes on -/
theorem pre_same (s t : List I14) (x : I14) (hs : s.length < 1000000) : ref08_Same (((s ++ [x]).take (Int.toNat (s.length : Int))).drop (Int.toNat (0 : Int))) (((s ++ t).take (Int.toNat (s.length : Int))).drop (Int.toNat (0 : Int))) = some true := by
  have e : Int.toNat (s.length : Int) = s.length := by omega
  rw [e, List.take_left, List.take_left]
  exact same08 _ (by simpa using hs)
theorem r21_at0 (X Y : Image × Int) (n : Int) : law19_BuildAhead_r21_p X Y ((0 : Nat) : Int) n = (bif decide (0 ≤ n) then (bif decide (n ≤ (Y.1.2.2.2.2.1.length : Int)) then (bif decide (0 ≤ n) then (bif decide (n ≤ (X.1.2.2.2.2.1.length : Int)) then Option.bind (ref08_Same ((Y.1.2.2.2.2.1.take (Int.toNat n)).drop (Int.toNat (0 : Int))) ((X.1.2.2.2.2.1.take (Int.toNat n)).drop (Int.toNat (0 : Int)))) (fun y => some y) else none) else none) else none) else none) := rfl
theorem r21_at1 (X Y : Image × Int) (n : Int) : law19_BuildAhead_r21_p X Y ((1 : Nat) : Int) n = (bif decide (0 ≤ n) then (bif decide (n ≤ (Y.1.2.2.2.2.2.1.length : Int)) then (bif decide (0 ≤ n) then (bif decide (n ≤ (X.1.2.2.2.2.2.1.length : Int)) then Option.bind (ref08_Same ((Y.1.2.2.2.2.2.1.take (Int.toNat n)).drop (Int.toNat (0 : Int))) ((X.1.2.2.2.2.2.1.take (Int.toNat n)).drop (Int.toNat (0 : Int)))) (fun y => some y) else none) else none) else none) else none) := rfl
theorem r21_at2 (X Y : Image × Int) (n : Int) : law19_BuildAhead_r21_p X Y ((2 : Nat) : Int) n = (bif decide (0 ≤ n) then (bif decide (n ≤ (Y.1.2.2.2.2.2.2.length : Int)) then (bif decide (0 ≤ n) then (bif decide (n ≤ (X.1.2.2.2.2.2.2.length : Int)) then Option.bind (ref08_Same ((Y.1.2.2.2.2.2.2.take (Int.toNat n)).drop (Int.toNat (0 : Int))) ((X.1.2.2.2.2.2.2.take (Int.toNat n)).drop (Int.toNat (0 : Int)))) (fun y => some y) else none) else none) else none) else none) := rfl
theorem ahead_loop (X Y : Image × Int) (s c : A7) (hlen : s.1.length ≤ 100000 ∧ s.2.1.length ≤ 100000 ∧ s.2.2.length ≤ 100000)
    (f1 : Y.1.2.2.2.2.1 = s.1 ++ [hlt]) (f2 : Y.1.2.2.2.2.2.1 = s.2.1 ++ [hlt]) (f3 : Y.1.2.2.2.2.2.2 = s.2.2 ++ [hlt])
    (f4 : X.1.2.2.2.2.1 = s.1 ++ (c.1 ++ [hlt])) (f5 : X.1.2.2.2.2.2.1 = s.2.1 ++ (c.2.1 ++ [hlt])) (f6 : X.1.2.2.2.2.2.2 = s.2.2 ++ (c.2.2 ++ [hlt])) :
    iterN (law19_BuildAhead_l16_p X Y) LL 0 = some (.inl 3) := by
  have p1 := pre_same s.1 (c.1 ++ [hlt]) hlt (by omega)
  have p2 := pre_same s.2.1 (c.2.1 ++ [hlt]) hlt (by omega)
  have p3 := pre_same s.2.2 (c.2.2 ++ [hlt]) hlt (by omega)
  have ln : ∀ s : List I14, s.length < 1000000 → IntKind.wrap .i64 (((s ++ [hlt]).length : Int) - 1) = (s.length : Int) := fun s hs => by
    rw [List.length_append, List.length_cons, List.length_nil, i64_in _ (by omega)]; omega
  have l1 := ln s.1 (by omega)
  have l2 := ln s.2.1 (by omega)
  have l3 := ln s.2.2 (by omega)
  have q0 : ∀ s : List I14, ¬ ((s.length : Int) < 0) := fun s => by omega
  have q1 : ∀ s t : List I14, ¬ ((s.length : Int) > ((s ++ t).length : Int)) := fun s t => by rw [List.length_append]; omega
  have q2 : ∀ s : List I14, (0 : Int) ≤ (s.length : Int) := fun s => by omega
  have q3 : ∀ s t : List I14, (s.length : Int) ≤ ((s ++ t).length : Int) := fun s t => by rw [List.length_append]; omega
  have hloop := iterN_for (p := law19_BuildAhead_l16_p X Y) (z := .inl 3) 3 (fun k => (k : Int)) LL (LL_lt (by omega)) (fun k hk => by
    rcases (by omega : k = 0 ∨ k = 1 ∨ k = 2) with rfl | rfl | rfl
    · have r18 : law19_BuildAhead_r18_p Y ((0 : Nat) : Int) = some (s.1.length : Int) := by
        show some (IntKind.wrap .i64 ((Y.1.2.2.2.2.1.length : Int) - 1)) = _
        rw [f1, l1]
      have r19 : law19_BuildAhead_r19_p X ((0 : Nat) : Int) (s.1.length : Int) = some false := by
        show (bif decide ((s.1.length : Int) < 0) then some true else some (decide ((s.1.length : Int) > (X.1.2.2.2.2.1.length : Int)))) = _
        rw [f4, decide_eq_false (q0 _), decide_eq_false (q1 _ _)]
        rfl
      have r21 : law19_BuildAhead_r21_p X Y ((0 : Nat) : Int) (s.1.length : Int) = some true := by
        rw [r21_at0, f1, f4, decide_eq_true (q2 _), decide_eq_true (q3 _ _), decide_eq_true (q3 _ _)]
        simp only [cond_true]
        rw [p1]
        rfl
      simp only [law19_BuildAhead_l16_p]
      rw [r18]
      simp only [Option.bind_some, r19, cond_false, r21]
      rfl
    · have r18 : law19_BuildAhead_r18_p Y ((1 : Nat) : Int) = some (s.2.1.length : Int) := by
        show some (IntKind.wrap .i64 ((Y.1.2.2.2.2.2.1.length : Int) - 1)) = _
        rw [f2, l2]
      have r19 : law19_BuildAhead_r19_p X ((1 : Nat) : Int) (s.2.1.length : Int) = some false := by
        show (bif decide ((s.2.1.length : Int) < 0) then some true else some (decide ((s.2.1.length : Int) > (X.1.2.2.2.2.2.1.length : Int)))) = _
        rw [f5, decide_eq_false (q0 _), decide_eq_false (q1 _ _)]
        rfl
      have r21 : law19_BuildAhead_r21_p X Y ((1 : Nat) : Int) (s.2.1.length : Int) = some true := by
        rw [r21_at1, f2, f5, decide_eq_true (q2 _), decide_eq_true (q3 _ _), decide_eq_true (q3 _ _)]
        simp only [cond_true]
        rw [p2]
        rfl
      simp only [law19_BuildAhead_l16_p]
      rw [r18]
      simp only [Option.bind_some, r19, cond_false, r21]
      rfl
    · have r18 : law19_BuildAhead_r18_p Y ((2 : Nat) : Int) = some (s.2.2.length : Int) := by
        show some (IntKind.wrap .i64 ((Y.1.2.2.2.2.2.2.length : Int) - 1)) = _
        rw [f3, l3]
      have r19 : law19_BuildAhead_r19_p X ((2 : Nat) : Int) (s.2.2.length : Int) = some false := by
        show (bif decide ((s.2.2.length : Int) < 0) then some true else some (decide ((s.2.2.length : Int) > (X.1.2.2.2.2.2.2.length : Int)))) = _
        rw [f6, decide_eq_false (q0 _), decide_eq_false (q1 _ _)]
        rfl
      have r21 : law19_BuildAhead_r21_p X Y ((2 : Nat) : Int) (s.2.2.length : Int) = some true := by
        rw [r21_at2, f3, f6, decide_eq_true (q2 _), decide_eq_true (q3 _ _), decide_eq_true (q3 _ _)]
        simp only [cond_true]
        rw [p3]
        rfl
      simp only [law19_BuildAhead_l16_p]
      rw [r18]
      simp only [Option.bind_some, r19, cond_false, r21]
      rfl) rfl
  exact hloop
theorem BuildAhead_true (g : Graph) (_ : Ts.ok tsGraph g) : law19_BuildAhead g = some true := by
  obtain ⟨m, hm, hg⟩ := less19 g
  unfold law19_BuildAhead
  rw [shown19, hm]
  simp only [Option.bind_some]
  rcases Compile_or hg with ⟨vals, hB⟩ | ⟨e, he, hv, hE, hC⟩
  · rw [hB.run]
    simp only [Option.bind_some]
    by_cases h0 : m.2.1.length = 0
    · have hr4 : law19_BuildAhead_r4_p m (imgV m vals, 0) = true := by
        simp only [law19_BuildAhead_r4_p, law19_BuildAhead_r4_q]
        rw [h0]
        rfl
      rw [hr4]
      rfl
    · have hr4 : law19_BuildAhead_r4_p m (imgV m vals, 0) = false := by
        simp only [law19_BuildAhead_r4_p, law19_BuildAhead_r4_q]
        rw [show ((m.2.1.length : Int) == 0) = false by rw [beq_eq_false_iff_ne]; omega]
        rfl
      obtain ⟨hl, hb, hin, _⟩ := values_in hB.vv
      have w1 : IntKind.wrap .i64 ((m.2.1.length : Int) - 1) = ((m.2.1.length - 1 : Nat) : Int) := by rw [i64_in _ (by omega)]; omega
      have hr7 : law19_BuildAhead_r7_p m = some (m.2.1.take (m.2.1.length - 1)) := by
        simp only [law19_BuildAhead_r7_p, w1]
        rw [decide_eq_true (by omega : (0 : Int) ≤ ((m.2.1.length - 1 : Nat) : Int)), decide_eq_true (by omega : ((m.2.1.length - 1 : Nat) : Int) ≤ (m.2.1.length : Int)), show (((m.2.1.length - 1 : Nat) : Int).toNat) = m.2.1.length - 1 by omega]
        rfl
      simp only [hr4, cond_false, hr7, Option.bind_some]
      obtain ⟨u, a, hua, hsv⟩ := short_vals hB.vv h0
      have hso := short_ok hg
      rcases Compile_or hso with ⟨u', hS⟩ | ⟨e, he, hv, _⟩
      · have huu : u' = u := Option.some.inj (hS.vv.symm.trans hsv)
        subst huu
        subst hua
        have hrun : build_Compile (m.1, m.2.1.take (m.2.1.length - 1), [(0 : Int)]) = some (imgV (shortG m) u', 0) := hS.run
        rw [hrun]
        simp only [Option.bind_some]
        have hpl := hS.plen
        have hpm := hB.plen
        rw [List.length_append, List.length_cons, List.length_nil] at hl hpm
        have hslen : (shortG m).2.1.length = m.2.1.length - 1 := by
          show (m.2.1.take (m.2.1.length - 1)).length = _
          rw [List.length_take]; omega
        have hlast := node_few (places := plcV m) hg hB.vv hB.plen (i := m.2.1.length - 1) (by omega)
        have hsum := short_sum hB.vv (plcV (shortG m)) (plcV m) (m.2.1.length - 1) (Nat.le_refl _)
        have hfull : sumS3 (strS m (u' ++ [a]) (plcV m) m.2.1.length) = sumS3 (strS m (u' ++ [a]) (plcV m) (m.2.1.length - 1)) + sumS3 (nodeG m (u' ++ [a]) (plcV m) (m.2.1.length - 1)) := by
          have : strS m (u' ++ [a]) (plcV m) m.2.1.length = strS m (u' ++ [a]) (plcV m) ((m.2.1.length - 1) + 1) := by rw [show m.2.1.length - 1 + 1 = m.2.1.length by omega]
          rw [this]
          simp only [strS, sumS3, sumI_append]
          omega
        have hlast4 := hlast.2.2.2
        have hr10 : law19_BuildAhead_r10_p (imgV m (u' ++ [a]), 0) (imgV (shortG m) u', 0) = some false := by
          simp only [law19_BuildAhead_r10_p]
          rw [hS.budget hso, hB.budget hg, hslen]
          simp only [bne_self_eq_false, cond_false, Option.bind_some]
          rw [decide_eq_false (by
            rw [hsum, hfull]
            simp only [sumS3] at hlast4 ⊢
            omega)]
          have e1 : ((imgV (shortG m) u').2.2.2.1.length : Int) = (u'.length : Int) := by show ((plcV (shortG m)).length : Int) = _; rw [hpl]
          have e2 : ((imgV m (u' ++ [a])).2.2.2.1.length : Int) = (u'.length : Int) + 1 := by show ((plcV m).length : Int) = _; rw [hpm]; omega
          rw [e1, e2, i64_in _ (by omega)]
          simp
        have hr12 : law19_BuildAhead_r12_p (imgV m (u' ++ [a]), 0) (imgV (shortG m) u', 0) = some (decide (plcV (shortG m) = (plcV m).take u'.length)) := by
          have e1 : (imgV (shortG m) u').2.2.2.1 = plcV (shortG m) := rfl
          have e2 : (imgV m (u' ++ [a])).2.2.2.1 = plcV m := rfl
          simp only [law19_BuildAhead_r12_p, e1, e2]
          rw [hpl, hpm, decide_eq_true (by omega), decide_eq_true (by omega), show Int.toNat (u'.length : Int) = u'.length by omega]
          show (Option.bind (ref03_Ints (plcV (shortG m)) ((plcV m).take u'.length)) _) = _
          rw [ints_dec _ _ (by rw [hpl]; omega)]
          rfl
        simp only [hr10, Option.bind_some, cond_false, hr12]
        by_cases hpq : plcV (shortG m) = (plcV m).take u'.length
        · rw [decide_eq_true hpq]
          simp only [Bool.not_true, cond_false]
          have hstr := short_str hg hB.vv hpl (by rw [hpm]) hpq (m.2.1.length - 1) (Nat.le_refl _)
          have hlen := strS_len hg hB.vv hB.plen (m.2.1.length - 1) (by omega)
          obtain ⟨s0, hs0⟩ : ∃ s, s = strS m (u' ++ [a]) (plcV m) (m.2.1.length - 1) := ⟨_, rfl⟩
          have hS1 : (imgV (shortG m) u').2.2.2.2 = (s0.1 ++ [hlt], s0.2.1 ++ [hlt], s0.2.2 ++ [hlt]) := by
            show ((strS (shortG m) u' (plcV (shortG m)) (shortG m).2.1.length).1 ++ [hlt], _, _) = _
            rw [hslen, hstr, ← hs0]
          have hM1 : (imgV m (u' ++ [a])).2.2.2.2 = (s0.1 ++ ((nodeG m (u' ++ [a]) (plcV m) (m.2.1.length - 1)).1 ++ [hlt]), s0.2.1 ++ ((nodeG m (u' ++ [a]) (plcV m) (m.2.1.length - 1)).2.1 ++ [hlt]), s0.2.2 ++ ((nodeG m (u' ++ [a]) (plcV m) (m.2.1.length - 1)).2.2 ++ [hlt])) := by
            have : strS m (u' ++ [a]) (plcV m) m.2.1.length = strS m (u' ++ [a]) (plcV m) ((m.2.1.length - 1) + 1) := by rw [show m.2.1.length - 1 + 1 = m.2.1.length by omega]
            show ((strS m (u' ++ [a]) (plcV m) m.2.1.length).1 ++ [hlt], (strS m (u' ++ [a]) (plcV m) m.2.1.length).2.1 ++ [hlt], (strS m (u' ++ [a]) (plcV m) m.2.1.length).2.2 ++ [hlt]) = _
            rw [this]
            simp only [strS, ← hs0, List.append_assoc]
          rw [← hs0] at hlen
          generalize nodeG m (u' ++ [a]) (plcV m) (m.2.1.length - 1) = c at hM1
          have f1 : (imgV (shortG m) u').2.2.2.2.1 = s0.1 ++ [hlt] := by rw [hS1]
          have f2 : (imgV (shortG m) u').2.2.2.2.2.1 = s0.2.1 ++ [hlt] := by rw [hS1]
          have f3 : (imgV (shortG m) u').2.2.2.2.2.2 = s0.2.2 ++ [hlt] := by rw [hS1]
          have f4 : (imgV m (u' ++ [a])).2.2.2.2.1 = s0.1 ++ (c.1 ++ [hlt]) := by rw [hM1]
          have f5 : (imgV m (u' ++ [a])).2.2.2.2.2.1 = s0.2.1 ++ (c.2.1 ++ [hlt]) := by rw [hM1]
          have f6 : (imgV m (u' ++ [a])).2.2.2.2.2.2 = s0.2.2 ++ (c.2.2 ++ [hlt]) := by rw [hM1]
          rw [ahead_loop (imgV m (u' ++ [a]), 0) (imgV (shortG m) u', 0) s0 c (by omega) f1 f2 f3 f4 f5 f6]
          rfl
        · rw [decide_eq_false hpq]
          rfl
      · rw [hsv] at hv
        cases hv
  · rw [hC]
    have hr4 : law19_BuildAhead_r4_p m (([], [], [], [], [], [], []), e) = true := by
      simp only [law19_BuildAhead_r4_p, law19_BuildAhead_r4_q]
      rw [show (e != 0) = true by simpa using he]
      rfl
    simp only [Option.bind_some, hr4]
    rfl
end Go.V.P
