/- Plain laws of layer 19: BuildAll. -/
import Derived.Test.YtaeckbkjlmnigaaGreatLR19a
import Derived.Test.YtaeckbkjlmnigaaGreatBa4
namespace Go.V.P
open Go Go.V Go.IntWalk
set_option linter.unusedVariables false
set_option linter.unusedSimpArgs false
set_option maxRecDepth 20000
theorem self_loop {p : Int → Option (Int ⊕ (Int ⊕ Unit))} (n : Nat) (hn : n < 1000000) (hp : ∀ k : Nat, k < n → p (k : Int) = some (.inl ((k + 1 : Nat) : Int))) (he : p (n : Int) = some (.inr (.inl (n : Int)))) : iterN p LL 0 = some (.inl (n : Int)) :=
  iterN_for (p := p) (z := .inl (n : Int)) n (fun k => (k : Int)) LL (LL_lt (by omega)) hp he
theorem at_k {k n : Nat} (hk : k < n) (hn : n < 1000000) : (k : Int) < (n : Int) ∧ (0 : Int) ≤ (k : Int) ∧ IntKind.wrap .i64 ((k : Int) + 1) = ((k + 1 : Nat) : Int) :=
  ⟨by omega, by omega, by rw [i64_in _ (by omega)]; omega⟩
theorem ints_self (a : List Int) (ha : a.length < 1000000) : ref03_ints a a = some true := by
  unfold ref03_ints
  simp only [bne_self_eq_false, cond_false]
  rw [self_loop a.length ha (fun k hk => by
    obtain ⟨d1, d2, w1⟩ := at_k hk ha
    simp only [ref03_ints_l4_p, ref03_ints_r6_p, d1, d2, w1, decide_true, cond_true, Option.bind_some, bne_self_eq_false, cond_false]) (by
    simp only [ref03_ints_l4_p, Int.lt_irrefl, decide_false, cond_false])]
  rfl
theorem values_self (a : List I4) (ha : a.length < 1000000) : ref03_SameValues a a = some true := by
  unfold ref03_SameValues
  simp only [bne_self_eq_false, cond_false]
  rw [self_loop a.length ha (fun k hk => by
    obtain ⟨d1, d2, w1⟩ := at_k hk ha
    simp only [ref03_SameValues_l4_p, ref03_SameValues_r6_p, d1, d2, w1, decide_true, cond_true, Option.bind_some, beq_self_eq_true, Bool.and_self, Bool.not_true, cond_false]) (by
    simp only [ref03_SameValues_l4_p, Int.lt_irrefl, decide_false, cond_false])]
  rfl
theorem node_self (n : Node) (h : okNode n) : ref03_SameNode n n = some true := by
  have hW : (nW n).length < 1000000 := h.2.1
  have hB : (nB n).length < 1000000 := h.2.2
  unfold ref03_SameNode
  rw [ints_self _ h.1]
  have h2 : ref03_SameNode_r2_p n n true = false := by
    simp only [ref03_SameNode_r2_p, ref03_SameNode_r2_q, bne_self_eq_false, beq_self_eq_true, Bool.and_self, Bool.not_true, cond_false]
  simp only [Option.bind_some, h2, cond_false]
  rw [self_loop (nW n).length hW (fun k hk => by
    obtain ⟨d1, d2, w1⟩ := at_k hk hW
    simp only [ref03_SameNode_l5_p, ref03_SameNode_r7_p, d1, d2, w1, decide_true, cond_true, Option.bind_some, bne_self_eq_false, cond_false]) (by
    simp only [ref03_SameNode_l5_p, Int.lt_irrefl, decide_false, cond_false])]
  simp only [Option.bind_some, either]
  rw [self_loop (nB n).length hB (fun k hk => by
    obtain ⟨d1, d2, w1⟩ := at_k hk hB
    simp only [ref03_SameNode_l10_p, ref03_SameNode_r12_p, d1, d2, w1, decide_true, cond_true, Option.bind_some, bne_self_eq_false, cond_false]) (by
    simp only [ref03_SameNode_l10_p, Int.lt_irrefl, decide_false, cond_false])]
  rfl
theorem graph_self (g : Graph) (hg : okGraph g) : ref03_Same g g = some true := by
  unfold ref03_Same
  have b1 : g.1.length < 1000000 := by have := hg.1; omega
  have b2 : g.2.1.length < 1000000 := by have := hg.2.1.1; omega
  have b3 : g.2.2.length < 1000000 := by have := hg.2.2; omega
  rw [values_self _ b1, ints_self _ b3]
  have h3 : ref03_Same_r3_p g g true true = false := by
    simp only [ref03_Same_r3_p, ref03_Same_r3_q, bne_self_eq_false, Bool.not_true, cond_false]
  simp only [Option.bind_some, h3, cond_false]
  rw [self_loop g.2.1.length b2 (fun k hk => by
    obtain ⟨d1, d2, w1⟩ := at_k hk b2
    have hn := node_self _ (hg.2.1.2 _ (gt_memR hk dNode))
    simp only [ref03_Same_l6_p, ref03_Same_r8_p, d1, d2, w1, hn, decide_true, cond_true, Option.bind_some, Bool.not_true, cond_false]) (by
    simp only [ref03_Same_l6_p, Int.lt_irrefl, decide_false, cond_false])]
  rfl
theorem cmds_self (a : List I14) (ha : a.length < 1000000) : ref08_Same a a = some true := by
  unfold ref08_Same
  simp only [bne_self_eq_false, cond_false]
  rw [self_loop a.length ha (fun k hk => by
    obtain ⟨d1, d2, w1⟩ := at_k hk ha
    simp only [ref08_Same_l4_p, ref08_Same_r6_p, d1, d2, w1, decide_true, cond_true, Option.bind_some, beq_self_eq_true, Bool.and_self, Bool.not_true, cond_false]) (by
    simp only [ref08_Same_l4_p, Int.lt_irrefl, decide_false, cond_false])]
  rfl
theorem bools_self (a : List Bool) (ha : a.length < 1000000) : ref19_Bools a a = some true := by
  unfold ref19_Bools
  simp only [bne_self_eq_false, cond_false]
  rw [self_loop a.length ha (fun k hk => by
    obtain ⟨d1, d2, w1⟩ := at_k hk ha
    simp only [ref19_Bools_l4_p, ref19_Bools_r6_p, d1, d2, w1, decide_true, cond_true, Option.bind_some, beq_self_eq_true, Bool.not_true, cond_false]) (by
    simp only [ref19_Bools_l4_p, Int.lt_irrefl, decide_false, cond_false])]
  rfl
structure Short (im : Image) : Prop where
  g : okGraph (im.1, im.2.1, im.2.2.1)
  p : im.2.2.2.1.length < 1000000
  a : im.2.2.2.2.1.length < 300000
  b : im.2.2.2.2.2.1.length < 300000
  c : im.2.2.2.2.2.2.length < 300000
theorem image_self (im : Image) (h : Short im) : ref09_Same im im = some true := by
  unfold ref09_Same
  have hi : ref03_Ints im.2.2.2.1 im.2.2.2.1 = some true := by
    unfold ref03_Ints
    rw [ints_self _ h.p]
    rfl
  rw [graph_self _ h.g, hi]
  have h3 : ref09_Same_r3_p true true = false := rfl
  simp only [Option.bind_some, h3, cond_false]
  have ha := cmds_self im.2.2.2.2.1 (by have := h.a; omega)
  have hb := cmds_self im.2.2.2.2.2.1 (by have := h.b; omega)
  have hc := cmds_self im.2.2.2.2.2.2 (by have := h.c; omega)
  rw [self_loop 3 (by omega) (fun k hk => by
    rcases (by omega : k = 0 ∨ k = 1 ∨ k = 2) with rfl | rfl | rfl
    · simp only [ref09_Same_l6_p, ref09_Same_r8_p, ha]; rfl
    · simp only [ref09_Same_l6_p, ref09_Same_r8_p, hb]; rfl
    · simp only [ref09_Same_l6_p, ref09_Same_r8_p, hc]; rfl) rfl]
  rfl
theorem steps_is (c : I14) : ref08_Steps c = stepsC c := by
  unfold ref08_Steps ref08_Steps_q ref08_Steps_r1_p ref08_Steps_r1_q stepsC
  by_cases h1 : 1 ≤ c.1
  · by_cases h2 : c.1 ≤ 4
    · rw [decide_eq_true (show c.1 ≥ 1 from h1), decide_eq_true h2, if_pos ⟨h1, h2⟩]; rfl
    · rw [decide_eq_true (show c.1 ≥ 1 from h1), decide_eq_false h2, if_neg (fun h => h2 h.2)]; rfl
  · rw [decide_eq_false (show ¬ c.1 ≥ 1 from h1), if_neg (fun h => h1 h.1)]; rfl
def addC (n : Int) (x : I14) : Int := IntKind.wrap .i64 (n + stepsC x)
theorem bud_0 (im : Image) (x s : Int) (h : im.2.2.2.2.1.length < 1000000) : iterN (ref19_Budget_l6_p im (x, 0)) LL (s, 0) = some (im.2.2.2.2.1.foldl addC s, (im.2.2.2.2.1.length : Int)) := by
  have := iterN_for (p := ref19_Budget_l6_p im (x, 0)) (z := (im.2.2.2.2.1.foldl addC s, (im.2.2.2.2.1.length : Int))) im.2.2.2.2.1.length (fun i => ((im.2.2.2.2.1.take i).foldl addC s, (i : Int))) LL (LL_lt (by omega)) (fun i hi => by
    obtain ⟨d1, d2, w1⟩ := at_k hi h
    have hg : gt im.2.2.2.2.1 (i : Int) dI14 = im.2.2.2.2.1[i] := gt_at dI14 hi
    have k1 : ref19_Budget_r6_p im (x, 0) ((im.2.2.2.2.1.take i).foldl addC s, (i : Int)) = some (decide ((i : Int) < (im.2.2.2.2.1.length : Int))) := rfl
    have k2 : ref19_Budget_r8_p im (x, 0) ((im.2.2.2.2.1.take i).foldl addC s, (i : Int)) = (bif (decide ((0 : Int) ≤ (i : Int))) then (bif (decide ((i : Int) < (im.2.2.2.2.1.length : Int))) then (some (IntKind.wrap .i64 ((im.2.2.2.2.1.take i).foldl addC s + (ref08_Steps (gt im.2.2.2.2.1 (i : Int) dI14))))) else none) else none) := rfl
    simp only [ref19_Budget_l6_p, k1, k2, d1, d2, w1, hg, steps_is, decide_true, cond_true, Option.bind_some]
    rw [List.take_succ_eq_append_getElem hi, List.foldl_append]
    rfl) (by
    rw [List.take_length]
    have k1 : ref19_Budget_r6_p im (x, 0) (im.2.2.2.2.1.foldl addC s, (im.2.2.2.2.1.length : Int)) = some (decide ((im.2.2.2.2.1.length : Int) < (im.2.2.2.2.1.length : Int))) := rfl
    simp only [ref19_Budget_l6_p, k1, Int.lt_irrefl, decide_false, cond_false, Option.bind_some])
  exact this
theorem bud_1 (im : Image) (x s : Int) (h : im.2.2.2.2.2.1.length < 1000000) : iterN (ref19_Budget_l6_p im (x, 1)) LL (s, 0) = some (im.2.2.2.2.2.1.foldl addC s, (im.2.2.2.2.2.1.length : Int)) := by
  have := iterN_for (p := ref19_Budget_l6_p im (x, 1)) (z := (im.2.2.2.2.2.1.foldl addC s, (im.2.2.2.2.2.1.length : Int))) im.2.2.2.2.2.1.length (fun i => ((im.2.2.2.2.2.1.take i).foldl addC s, (i : Int))) LL (LL_lt (by omega)) (fun i hi => by
    obtain ⟨d1, d2, w1⟩ := at_k hi h
    have hg : gt im.2.2.2.2.2.1 (i : Int) dI14 = im.2.2.2.2.2.1[i] := gt_at dI14 hi
    have k1 : ref19_Budget_r6_p im (x, 1) ((im.2.2.2.2.2.1.take i).foldl addC s, (i : Int)) = some (decide ((i : Int) < (im.2.2.2.2.2.1.length : Int))) := rfl
    have k2 : ref19_Budget_r8_p im (x, 1) ((im.2.2.2.2.2.1.take i).foldl addC s, (i : Int)) = (bif (decide ((0 : Int) ≤ (i : Int))) then (bif (decide ((i : Int) < (im.2.2.2.2.2.1.length : Int))) then (some (IntKind.wrap .i64 ((im.2.2.2.2.2.1.take i).foldl addC s + (ref08_Steps (gt im.2.2.2.2.2.1 (i : Int) dI14))))) else none) else none) := rfl
    simp only [ref19_Budget_l6_p, k1, k2, d1, d2, w1, hg, steps_is, decide_true, cond_true, Option.bind_some]
    rw [List.take_succ_eq_append_getElem hi, List.foldl_append]
    rfl) (by
    rw [List.take_length]
    have k1 : ref19_Budget_r6_p im (x, 1) (im.2.2.2.2.2.1.foldl addC s, (im.2.2.2.2.2.1.length : Int)) = some (decide ((im.2.2.2.2.2.1.length : Int) < (im.2.2.2.2.2.1.length : Int))) := rfl
    simp only [ref19_Budget_l6_p, k1, Int.lt_irrefl, decide_false, cond_false, Option.bind_some])
  exact this
theorem bud_2 (im : Image) (x s : Int) (h : im.2.2.2.2.2.2.length < 1000000) : iterN (ref19_Budget_l6_p im (x, 2)) LL (s, 0) = some (im.2.2.2.2.2.2.foldl addC s, (im.2.2.2.2.2.2.length : Int)) := by
  have := iterN_for (p := ref19_Budget_l6_p im (x, 2)) (z := (im.2.2.2.2.2.2.foldl addC s, (im.2.2.2.2.2.2.length : Int))) im.2.2.2.2.2.2.length (fun i => ((im.2.2.2.2.2.2.take i).foldl addC s, (i : Int))) LL (LL_lt (by omega)) (fun i hi => by
    obtain ⟨d1, d2, w1⟩ := at_k hi h
    have hg : gt im.2.2.2.2.2.2 (i : Int) dI14 = im.2.2.2.2.2.2[i] := gt_at dI14 hi
    have k1 : ref19_Budget_r6_p im (x, 2) ((im.2.2.2.2.2.2.take i).foldl addC s, (i : Int)) = some (decide ((i : Int) < (im.2.2.2.2.2.2.length : Int))) := rfl
    have k2 : ref19_Budget_r8_p im (x, 2) ((im.2.2.2.2.2.2.take i).foldl addC s, (i : Int)) = (bif (decide ((0 : Int) ≤ (i : Int))) then (bif (decide ((i : Int) < (im.2.2.2.2.2.2.length : Int))) then (some (IntKind.wrap .i64 ((im.2.2.2.2.2.2.take i).foldl addC s + (ref08_Steps (gt im.2.2.2.2.2.2 (i : Int) dI14))))) else none) else none) := rfl
    simp only [ref19_Budget_l6_p, k1, k2, d1, d2, w1, hg, steps_is, decide_true, cond_true, Option.bind_some]
    rw [List.take_succ_eq_append_getElem hi, List.foldl_append]
    rfl) (by
    rw [List.take_length]
    have k1 : ref19_Budget_r6_p im (x, 2) (im.2.2.2.2.2.2.foldl addC s, (im.2.2.2.2.2.2.length : Int)) = some (decide ((im.2.2.2.2.2.2.length : Int) < (im.2.2.2.2.2.2.length : Int))) := rfl
    simp only [ref19_Budget_l6_p, k1, Int.lt_irrefl, decide_false, cond_false, Option.bind_some])
  exact this
theorem ref_budget (im : Image) (h : Short im) : ref19_Budget im = some (sumC (im.2.2.2.2.1 ++ im.2.2.2.2.2.1 ++ im.2.2.2.2.2.2)) := by
  have e1 := bud_0 im 0 0 (by have := h.a; omega)
  have e2 := bud_1 im (im.2.2.2.2.1.foldl addC 0) (im.2.2.2.2.1.foldl addC 0) (by have := h.b; omega)
  have e3 := bud_2 im (im.2.2.2.2.2.1.foldl addC (im.2.2.2.2.1.foldl addC 0)) (im.2.2.2.2.2.1.foldl addC (im.2.2.2.2.1.foldl addC 0)) (by have := h.c; omega)
  have := iterN_for (p := ref19_Budget_l3_p im) (z := (im.2.2.2.2.2.2.foldl addC (im.2.2.2.2.2.1.foldl addC (im.2.2.2.2.1.foldl addC 0)), (3 : Int))) 3 (fun i => match i with | 0 => ((0 : Int), (0 : Int)) | 1 => (im.2.2.2.2.1.foldl addC 0, 1) | 2 => (im.2.2.2.2.2.1.foldl addC (im.2.2.2.2.1.foldl addC 0), 2) | _ => (im.2.2.2.2.2.2.foldl addC (im.2.2.2.2.2.1.foldl addC (im.2.2.2.2.1.foldl addC 0)), 3)) LL (LL_lt (by omega)) (fun i hi => by
    rcases (by omega : i = 0 ∨ i = 1 ∨ i = 2) with rfl | rfl | rfl
    · simp only [ref19_Budget_l3_p, e1]; rfl
    · simp only [ref19_Budget_l3_p, e2]; rfl
    · simp only [ref19_Budget_l3_p, e3]; rfl) rfl
  have this' : iterN (ref19_Budget_l3_p im) LL (0, 0) = _ := this
  unfold ref19_Budget
  rw [this']
  have hf : addC = fun n x => RowKit.wrap64 (n + stepsC x) := funext fun n => funext fun x => i64_left _
  unfold sumC
  rw [List.foldl_append, List.foldl_append, hf]
  rfl
theorem til_0 (im : Image) (l : List Bool) (j : Int) (x s : Bool) (h : im.2.2.2.2.1.length < 1000000) : iterN (ref19_Tiled_l10_p im (l, j) (x, 0)) LL (s, 0) = some (s || im.2.2.2.2.1.any (isTl j), (im.2.2.2.2.1.length : Int)) := by
  have := iterN_for (p := ref19_Tiled_l10_p im (l, j) (x, 0)) (z := (s || im.2.2.2.2.1.any (isTl j), (im.2.2.2.2.1.length : Int))) im.2.2.2.2.1.length (fun i => (s || (im.2.2.2.2.1.take i).any (isTl j), (i : Int))) LL (LL_lt (by omega)) (fun i hi => by
    obtain ⟨d1, d2, w1⟩ := at_k hi h
    have hg : gt im.2.2.2.2.1 (i : Int) dI14 = im.2.2.2.2.1[i] := gt_at dI14 hi
    rw [List.take_succ_eq_append_getElem hi, List.any_append, ← Bool.or_assoc]
    generalize (s || (im.2.2.2.2.1.take i).any (isTl j)) = q
    have k1 : ref19_Tiled_r10_p im (x, 0) (q, (i : Int)) = some (decide ((i : Int) < (im.2.2.2.2.1.length : Int))) := rfl
    have k2 : ref19_Tiled_r12_p im (l, j) (x, 0) (q, (i : Int)) = some (q || isTl j im.2.2.2.2.1[i]) := by
      show (bif q then some true else (bif (decide ((0 : Int) ≤ (i : Int))) then (bif (decide ((i : Int) < (im.2.2.2.2.1.length : Int))) then (bif (((gt im.2.2.2.2.1 (i : Int) dI14).1) == 3) then (bif (decide ((0 : Int) ≤ (i : Int))) then (bif (decide ((i : Int) < (im.2.2.2.2.1.length : Int))) then (some (((gt im.2.2.2.2.1 (i : Int) dI14).2.2.1) == j)) else none) else none) else (some false)) else none) else none)) = _
      simp only [d1, d2, hg, decide_true, cond_true]
      unfold isTl
      cases q <;> cases (im.2.2.2.2.1[i].1 == 3) <;> rfl
    simp only [ref19_Tiled_l10_p, k1, k2, d1, w1, decide_true, cond_true, Option.bind_some, List.any_cons, List.any_nil, Bool.or_false]) (by
    rw [List.take_length]
    have k1 : ref19_Tiled_r10_p im (x, 0) (s || im.2.2.2.2.1.any (isTl j), (im.2.2.2.2.1.length : Int)) = some (decide ((im.2.2.2.2.1.length : Int) < (im.2.2.2.2.1.length : Int))) := rfl
    simp only [ref19_Tiled_l10_p, k1, Int.lt_irrefl, decide_false, cond_false, Option.bind_some])
  have e : (s || (im.2.2.2.2.1.take 0).any (isTl j), ((0 : Nat) : Int)) = (s, (0 : Int)) := by simp
  rw [e] at this
  exact this
theorem til_1 (im : Image) (l : List Bool) (j : Int) (x s : Bool) (h : im.2.2.2.2.2.1.length < 1000000) : iterN (ref19_Tiled_l10_p im (l, j) (x, 1)) LL (s, 0) = some (s || im.2.2.2.2.2.1.any (isTl j), (im.2.2.2.2.2.1.length : Int)) := by
  have := iterN_for (p := ref19_Tiled_l10_p im (l, j) (x, 1)) (z := (s || im.2.2.2.2.2.1.any (isTl j), (im.2.2.2.2.2.1.length : Int))) im.2.2.2.2.2.1.length (fun i => (s || (im.2.2.2.2.2.1.take i).any (isTl j), (i : Int))) LL (LL_lt (by omega)) (fun i hi => by
    obtain ⟨d1, d2, w1⟩ := at_k hi h
    have hg : gt im.2.2.2.2.2.1 (i : Int) dI14 = im.2.2.2.2.2.1[i] := gt_at dI14 hi
    rw [List.take_succ_eq_append_getElem hi, List.any_append, ← Bool.or_assoc]
    generalize (s || (im.2.2.2.2.2.1.take i).any (isTl j)) = q
    have k1 : ref19_Tiled_r10_p im (x, 1) (q, (i : Int)) = some (decide ((i : Int) < (im.2.2.2.2.2.1.length : Int))) := rfl
    have k2 : ref19_Tiled_r12_p im (l, j) (x, 1) (q, (i : Int)) = some (q || isTl j im.2.2.2.2.2.1[i]) := by
      show (bif q then some true else (bif (decide ((0 : Int) ≤ (i : Int))) then (bif (decide ((i : Int) < (im.2.2.2.2.2.1.length : Int))) then (bif (((gt im.2.2.2.2.2.1 (i : Int) dI14).1) == 3) then (bif (decide ((0 : Int) ≤ (i : Int))) then (bif (decide ((i : Int) < (im.2.2.2.2.2.1.length : Int))) then (some (((gt im.2.2.2.2.2.1 (i : Int) dI14).2.2.1) == j)) else none) else none) else (some false)) else none) else none)) = _
      simp only [d1, d2, hg, decide_true, cond_true]
      unfold isTl
      cases q <;> cases (im.2.2.2.2.2.1[i].1 == 3) <;> rfl
    simp only [ref19_Tiled_l10_p, k1, k2, d1, w1, decide_true, cond_true, Option.bind_some, List.any_cons, List.any_nil, Bool.or_false]) (by
    rw [List.take_length]
    have k1 : ref19_Tiled_r10_p im (x, 1) (s || im.2.2.2.2.2.1.any (isTl j), (im.2.2.2.2.2.1.length : Int)) = some (decide ((im.2.2.2.2.2.1.length : Int) < (im.2.2.2.2.2.1.length : Int))) := rfl
    simp only [ref19_Tiled_l10_p, k1, Int.lt_irrefl, decide_false, cond_false, Option.bind_some])
  have e : (s || (im.2.2.2.2.2.1.take 0).any (isTl j), ((0 : Nat) : Int)) = (s, (0 : Int)) := by simp
  rw [e] at this
  exact this
theorem til_2 (im : Image) (l : List Bool) (j : Int) (x s : Bool) (h : im.2.2.2.2.2.2.length < 1000000) : iterN (ref19_Tiled_l10_p im (l, j) (x, 2)) LL (s, 0) = some (s || im.2.2.2.2.2.2.any (isTl j), (im.2.2.2.2.2.2.length : Int)) := by
  have := iterN_for (p := ref19_Tiled_l10_p im (l, j) (x, 2)) (z := (s || im.2.2.2.2.2.2.any (isTl j), (im.2.2.2.2.2.2.length : Int))) im.2.2.2.2.2.2.length (fun i => (s || (im.2.2.2.2.2.2.take i).any (isTl j), (i : Int))) LL (LL_lt (by omega)) (fun i hi => by
    obtain ⟨d1, d2, w1⟩ := at_k hi h
    have hg : gt im.2.2.2.2.2.2 (i : Int) dI14 = im.2.2.2.2.2.2[i] := gt_at dI14 hi
    rw [List.take_succ_eq_append_getElem hi, List.any_append, ← Bool.or_assoc]
    generalize (s || (im.2.2.2.2.2.2.take i).any (isTl j)) = q
    have k1 : ref19_Tiled_r10_p im (x, 2) (q, (i : Int)) = some (decide ((i : Int) < (im.2.2.2.2.2.2.length : Int))) := rfl
    have k2 : ref19_Tiled_r12_p im (l, j) (x, 2) (q, (i : Int)) = some (q || isTl j im.2.2.2.2.2.2[i]) := by
      show (bif q then some true else (bif (decide ((0 : Int) ≤ (i : Int))) then (bif (decide ((i : Int) < (im.2.2.2.2.2.2.length : Int))) then (bif (((gt im.2.2.2.2.2.2 (i : Int) dI14).1) == 3) then (bif (decide ((0 : Int) ≤ (i : Int))) then (bif (decide ((i : Int) < (im.2.2.2.2.2.2.length : Int))) then (some (((gt im.2.2.2.2.2.2 (i : Int) dI14).2.2.1) == j)) else none) else none) else (some false)) else none) else none)) = _
      simp only [d1, d2, hg, decide_true, cond_true]
      unfold isTl
      cases q <;> cases (im.2.2.2.2.2.2[i].1 == 3) <;> rfl
    simp only [ref19_Tiled_l10_p, k1, k2, d1, w1, decide_true, cond_true, Option.bind_some, List.any_cons, List.any_nil, Bool.or_false]) (by
    rw [List.take_length]
    have k1 : ref19_Tiled_r10_p im (x, 2) (s || im.2.2.2.2.2.2.any (isTl j), (im.2.2.2.2.2.2.length : Int)) = some (decide ((im.2.2.2.2.2.2.length : Int) < (im.2.2.2.2.2.2.length : Int))) := rfl
    simp only [ref19_Tiled_l10_p, k1, Int.lt_irrefl, decide_false, cond_false, Option.bind_some])
  have e : (s || (im.2.2.2.2.2.2.take 0).any (isTl j), ((0 : Nat) : Int)) = (s, (0 : Int)) := by simp
  rw [e] at this
  exact this
theorem ref_tiled (im : Image) (h : Short im) : ref19_Tiled im = some (tiledC im.2.1.length (im.2.2.2.2.1 ++ im.2.2.2.2.2.1 ++ im.2.2.2.2.2.2)) := by
  have hn : im.2.1.length < 1000000 := by have := h.g.2.1.1; simp only at this; omega
  have hm : maxL = 2147483648 := rfl
  have row : ∀ (l : List Bool) (j : Int), iterN (ref19_Tiled_l7_p im (l, j)) LL (false, 0) = some ((im.2.2.2.2.1 ++ im.2.2.2.2.2.1 ++ im.2.2.2.2.2.2).any (isTl j), 3) := fun l j => by
    have e1 := til_0 im l j false false (by have := h.a; omega)
    have e2 := til_1 im l j (false || im.2.2.2.2.1.any (isTl j)) (false || im.2.2.2.2.1.any (isTl j)) (by have := h.b; omega)
    have e3 := til_2 im l j ((false || im.2.2.2.2.1.any (isTl j)) || im.2.2.2.2.2.1.any (isTl j)) ((false || im.2.2.2.2.1.any (isTl j)) || im.2.2.2.2.2.1.any (isTl j)) (by have := h.c; omega)
    have := iterN_for (p := ref19_Tiled_l7_p im (l, j)) (z := (((false || im.2.2.2.2.1.any (isTl j)) || im.2.2.2.2.2.1.any (isTl j)) || im.2.2.2.2.2.2.any (isTl j), (3 : Int))) 3 (fun i => match i with | 0 => (false, (0 : Int)) | 1 => (false || im.2.2.2.2.1.any (isTl j), 1) | 2 => ((false || im.2.2.2.2.1.any (isTl j)) || im.2.2.2.2.2.1.any (isTl j), 2) | _ => (((false || im.2.2.2.2.1.any (isTl j)) || im.2.2.2.2.2.1.any (isTl j)) || im.2.2.2.2.2.2.any (isTl j), 3)) LL (LL_lt (by omega)) (fun i hi => by
      rcases (by omega : i = 0 ∨ i = 1 ∨ i = 2) with rfl | rfl | rfl
      · simp only [ref19_Tiled_l7_p, e1]; rfl
      · simp only [ref19_Tiled_l7_p, e2]; rfl
      · simp only [ref19_Tiled_l7_p, e3]; rfl) rfl
    have this' : iterN (ref19_Tiled_l7_p im (l, j)) LL (false, 0) = _ := this
    rw [this', List.any_append, List.any_append, Bool.false_or]
  have := iterN_for (p := ref19_Tiled_l3_p im) (z := ((List.range im.2.1.length).map (fun (j : Nat) => (im.2.2.2.2.1 ++ im.2.2.2.2.2.1 ++ im.2.2.2.2.2.2).any (isTl (j : Int))), (im.2.1.length : Int))) im.2.1.length (fun i => ((List.range i).map (fun (j : Nat) => (im.2.2.2.2.1 ++ im.2.2.2.2.2.1 ++ im.2.2.2.2.2.2).any (isTl (j : Int))), (i : Int))) LL (LL_lt (by omega)) (fun i hi => by
    obtain ⟨d1, d2, w1⟩ := at_k hi hn
    have d3 : ∀ x : Bool, ((List.range i).map (fun (j : Nat) => (im.2.2.2.2.1 ++ im.2.2.2.2.2.1 ++ im.2.2.2.2.2.2).any (isTl (j : Int)))).length + [x].length ≤ maxL := fun x => by simp only [List.length_map, List.length_range, List.length_cons, List.length_nil]; omega
    simp only [ref19_Tiled_l3_p, ref19_Tiled_r13_p, row, d1, w1, d3, decide_true, cond_true, Option.bind_some]
    rw [List.range_succ, List.map_append]
    rfl) (by
    simp only [ref19_Tiled_l3_p, Int.lt_irrefl, decide_false, cond_false])
  have this' : iterN (ref19_Tiled_l3_p im) LL ([], 0) = _ := this
  unfold ref19_Tiled
  rw [this']
  simp only [Option.bind_some]
  congr 1
  refine List.ext_getElem (by simp [tiledC_length]) fun j h1 h2 => ?_
  have h3 : j < im.2.1.length := by simpa using h1
  have := tiledC_get im.2.1.length (im.2.2.2.2.1 ++ im.2.2.2.2.2.1 ++ im.2.2.2.2.2.2) j h3
  rw [gt_at false h2] at this
  rw [this]
  simp
theorem Built.short {g : Graph} {vals : List I4} (hB : Built g vals) (hg : okGraph g) : Short (imgV g vals) := by
  have hl := strS_len hg hB.vv hB.plen g.2.1.length (Nat.le_refl _)
  obtain ⟨h1, hb, _⟩ := values_in hB.vv
  have hp := hB.plen
  refine ⟨hg, by show (plcV g).length < 1000000; omega, ?_, ?_, ?_⟩ <;> simp only [imgV, List.length_append, List.length_cons, List.length_nil] <;> omega
theorem all_same (im : Image) (e : Int) (h : Short im) : Option.bind (ref09_Same im im) (fun a => Option.bind (law19_BuildAll_r6_p (im, e) (im, e)) (fun b => Option.bind (law19_BuildAll_r7_p true (im, e) (im, e) a b) fun y => some y)) = some true := by
  have hm : maxL = 2147483648 := rfl
  have hlen : lenOk im = true := by
    have := h.a; have := h.b; have := h.c
    simp only [lenOk]
    rw [decide_eq_true (by omega), decide_eq_true (by omega), decide_eq_true (by omega)]
    rfl
  have hn : im.2.1.length < 1000000 := by have := h.g.2.1.1; simp only at this; omega
  have hT : bldTiled im = some (tiledC im.2.1.length (im.2.2.2.2.1 ++ im.2.2.2.2.2.1 ++ im.2.2.2.2.2.2)) := by
    unfold bldTiled
    rw [hlen, decide_eq_true (by omega)]
    rfl
  have hBu : bldBudget im = some (sumC (im.2.2.2.2.1 ++ im.2.2.2.2.2.1 ++ im.2.2.2.2.2.2)) := by
    unfold bldBudget
    rw [hlen]
    rfl
  have hbo := bools_self (tiledC im.2.1.length (im.2.2.2.2.1 ++ im.2.2.2.2.2.1 ++ im.2.2.2.2.2.2)) (by rw [tiledC_length]; exact hn)
  simp only [image_self im h, law19_BuildAll_r6_p, law19_BuildAll_r7_p, hT, ref_tiled im h, hbo, hBu, ref_budget im h, Option.bind_some, cond_true, beq_self_eq_true]
theorem BuildAll_true (g : Graph) (_ : Ts.ok tsGraph g) : law19_BuildAll g = some true := by
  obtain ⟨m, hm, hg⟩ := less19 g
  unfold law19_BuildAll
  rw [shown19, hm]
  simp only [Option.bind_some]
  rcases Compile_or hg with ⟨vals, hB⟩ | ⟨e, he, hv, hE, hC⟩
  · rw [hB.run, hB.ref hg]
    exact all_same _ _ (hB.short hg)
  · rw [hC, ref_bad hg he hE]
    exact all_same ([], [], [], [], [], [], []) e ⟨⟨by simp, by simp, by simp⟩, by simp, by simp, by simp, by simp⟩
end Go.V.P
