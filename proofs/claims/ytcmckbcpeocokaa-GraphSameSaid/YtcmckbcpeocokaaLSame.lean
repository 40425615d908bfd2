/- Plain laws of layer 3: two graphs are the same. -/
import Derived.Test.YtcmckbcpeocokaaLBase
import Derived.Test.YtcmckbcpeocokaaGs5
namespace Go.V.P
open Go Go.V Go.IntWalk
set_option linter.unusedVariables false
theorem gt_at {α : Type} {l : List α} {i : Nat} (d : α) (h : i < l.length) : gt l (i : Int) d = l[i] := by
  simp [gt, List.getD_eq_getElem?_getD, h]
theorem eq_loop {α : Type} [DecidableEq α] {d : α} {a b : List α} {p : Int → Option (Int ⊕ (Int ⊕ Unit))} (hl : a.length = b.length) (hL : a.length < 1000000)
    (hp : ∀ i : Nat, i < a.length → p (i : Int) = some (if gt a (i : Int) d = gt b (i : Int) d then .inl ((i : Int) + 1) else .inr (.inr ())))
    (he : p (a.length : Int) = some (.inr (.inl (a.length : Int)))) : iterN p LL 0 = some (if a = b then .inl (a.length : Int) else .inr ()) := by
  obtain ⟨z, h1, h2⟩ := iterN_inv (p := p) (fun s => ∃ i : Nat, s = (i : Int) ∧ i ≤ a.length ∧ ∀ j : Nat, j < i → gt a (j : Int) d = gt b (j : Int) d) (fun s => a.length - s.toNat)
    (Q := fun z => z = (if a = b then .inl (a.length : Int) else .inr ())) (fun s hs => by
    obtain ⟨i, rfl, hi, ha⟩ := hs
    by_cases h : i < a.length
    · rw [hp i h]
      by_cases hg : gt a (i : Int) d = gt b (i : Int) d
      · rw [if_pos hg]
        refine .inl ⟨_, rfl, ⟨i + 1, by omega, by omega, fun j hj => ?_⟩, by omega⟩
        by_cases hji : j = i
        · rw [hji]; exact hg
        · exact ha j (by omega)
      · rw [if_neg hg]
        refine .inr ⟨_, rfl, ?_⟩
        rw [if_neg (fun hab => hg (by rw [hab]))]
    · have : i = a.length := by omega
      subst this
      rw [he]
      refine .inr ⟨_, rfl, ?_⟩
      have : a = b := List.ext_getElem hl fun j h1 h2 => by
        have := ha j h1
        rwa [gt_at d h1, gt_at d h2] at this
      rw [if_pos this]) LL 0 ⟨0, rfl, by omega, fun j hj => by omega⟩ (LL_lt (by simp only [Int.toNat_zero]; omega))
  rw [h1, h2]
theorem step_t {i : Nat} {n : Nat} (h : i < n) (hn : n < 1000000) : decide ((i : Int) < (n : Int)) = true ∧ decide ((0 : Int) ≤ (i : Int)) = true ∧ IntKind.wrap .i64 ((i : Int) + 1) = (i : Int) + 1 :=
  ⟨decide_eq_true (by omega), decide_eq_true (by omega), i64_in _ (by omega)⟩
theorem len_ne {α : Type} {a b : List α} [DecidableEq α] (h : ¬ a.length = b.length) : decide (a = b) = false := decide_eq_false fun e => h (by rw [e])
theorem len_b {α β : Type} {a : List α} {b : List β} : ((a.length : Int) != (b.length : Int)) = !(decide (a.length = b.length)) := by
  by_cases h : a.length = b.length
  · rw [h]; simp
  · have : (a.length : Int) ≠ (b.length : Int) := by omega
    simp [h, this]
theorem int_bne (x y : Int) : (x != y) = !(decide (x = y)) := by
  by_cases h : x = y <;> simp [h]
theorem i4_eq (x y : I4) : ((x.1 == y.1) && ((x.2.1 == y.2.1) && ((x.2.2.1 == y.2.2.1) && ((x.2.2.2 == y.2.2.2) && true)))) = decide (x = y) := by
  obtain ⟨a, b, c, d⟩ := x
  obtain ⟨e, f, g, h⟩ := y
  rw [Bool.eq_iff_iff]
  simp only [Bool.and_eq_true, beq_iff_eq, decide_eq_true_iff, Prod.mk.injEq, and_true]
theorem Equalint_eq (a b : List Int) (ha : a.length < 1000000) : slices_Equalint_int a b = some (decide (a = b)) := by
  unfold slices_Equalint_int slices_Equalint_int_q
  rw [len_b]
  by_cases hl : a.length = b.length
  · rw [decide_eq_true hl, eq_loop (a := a) (b := b) (d := 0) hl ha (fun i hi => by
      obtain ⟨t1, t2, t3⟩ := step_t hi ha
      simp only [slices_Equalint_int_l4_p, slices_Equalint_int_l4_q, slices_Equalint_int_r6_p, slices_Equalint_int_r6_q]
      rw [← hl, t1, t2, t3, int_bne]
      by_cases h : gt a (i : Int) 0 = gt b (i : Int) 0
      · rw [if_pos h, decide_eq_true h]; rfl
      · rw [if_neg h, decide_eq_false h]; rfl) (by
      simp only [slices_Equalint_int_l4_p, slices_Equalint_int_l4_q]
      rw [decide_eq_false (by omega)]
      rfl)]
    by_cases h : a = b
    · rw [if_pos h, decide_eq_true h]; rfl
    · rw [if_neg h, decide_eq_false h]; rfl
  · rw [decide_eq_false hl, len_ne hl]; rfl
theorem Equalint8_eq (a b : List Int) (ha : a.length < 1000000) : slices_Equalint8_int8 a b = some (decide (a = b)) := by
  unfold slices_Equalint8_int8 slices_Equalint8_int8_q
  rw [len_b]
  by_cases hl : a.length = b.length
  · rw [decide_eq_true hl, eq_loop (a := a) (b := b) (d := 0) hl ha (fun i hi => by
      obtain ⟨t1, t2, t3⟩ := step_t hi ha
      simp only [slices_Equalint8_int8_l4_p, slices_Equalint8_int8_l4_q, slices_Equalint8_int8_r6_p, slices_Equalint8_int8_r6_q]
      rw [← hl, t1, t2, t3, int_bne]
      by_cases h : gt a (i : Int) 0 = gt b (i : Int) 0
      · rw [if_pos h, decide_eq_true h]; rfl
      · rw [if_neg h, decide_eq_false h]; rfl) (by
      simp only [slices_Equalint8_int8_l4_p, slices_Equalint8_int8_l4_q]
      rw [decide_eq_false (by omega)]
      rfl)]
    by_cases h : a = b
    · rw [if_pos h, decide_eq_true h]; rfl
    · rw [if_neg h, decide_eq_false h]; rfl
  · rw [decide_eq_false hl, len_ne hl]; rfl
theorem Equalint32_eq (a b : List Int) (ha : a.length < 1000000) : slices_Equalint32_int32 a b = some (decide (a = b)) := by
  unfold slices_Equalint32_int32 slices_Equalint32_int32_q
  rw [len_b]
  by_cases hl : a.length = b.length
  · rw [decide_eq_true hl, eq_loop (a := a) (b := b) (d := 0) hl ha (fun i hi => by
      obtain ⟨t1, t2, t3⟩ := step_t hi ha
      simp only [slices_Equalint32_int32_l4_p, slices_Equalint32_int32_l4_q, slices_Equalint32_int32_r6_p, slices_Equalint32_int32_r6_q]
      rw [← hl, t1, t2, t3, int_bne]
      by_cases h : gt a (i : Int) 0 = gt b (i : Int) 0
      · rw [if_pos h, decide_eq_true h]; rfl
      · rw [if_neg h, decide_eq_false h]; rfl) (by
      simp only [slices_Equalint32_int32_l4_p, slices_Equalint32_int32_l4_q]
      rw [decide_eq_false (by omega)]
      rfl)]
    by_cases h : a = b
    · rw [if_pos h, decide_eq_true h]; rfl
    · rw [if_neg h, decide_eq_false h]; rfl
  · rw [decide_eq_false hl, len_ne hl]; rfl
theorem ref03_ints_eq (a b : List Int) (ha : a.length < 1000000) : ref03_ints a b = some (decide (a = b)) := by
  unfold ref03_ints ref03_ints_q
  rw [len_b]
  by_cases hl : a.length = b.length
  · rw [decide_eq_true hl, eq_loop (a := a) (b := b) (d := 0) hl ha (fun i hi => by
      obtain ⟨t1, t2, t3⟩ := step_t hi ha
      simp only [ref03_ints_l4_p, ref03_ints_l4_q, ref03_ints_r6_p, ref03_ints_r6_q]
      rw [← hl, t1, t2, t3, int_bne]
      by_cases h : gt a (i : Int) 0 = gt b (i : Int) 0
      · rw [if_pos h, decide_eq_true h]; rfl
      · rw [if_neg h, decide_eq_false h]; rfl) (by
      simp only [ref03_ints_l4_p, ref03_ints_l4_q]
      rw [decide_eq_false (by omega)]
      rfl)]
    by_cases h : a = b
    · rw [if_pos h, decide_eq_true h]; rfl
    · rw [if_neg h, decide_eq_false h]; rfl
  · rw [decide_eq_false hl, len_ne hl]; rfl
theorem EqualValue_eq (a b : List I4) (ha : a.length < 1000000) : slices_Equalapi_Value_api_Value a b = some (decide (a = b)) := by
  unfold slices_Equalapi_Value_api_Value slices_Equalapi_Value_api_Value_q
  rw [len_b]
  by_cases hl : a.length = b.length
  · rw [decide_eq_true hl, eq_loop (a := a) (b := b) (d := dI4) hl ha (fun i hi => by
      obtain ⟨t1, t2, t3⟩ := step_t hi ha
      simp only [slices_Equalapi_Value_api_Value_l4_p, slices_Equalapi_Value_api_Value_l4_q, slices_Equalapi_Value_api_Value_r6_p, slices_Equalapi_Value_api_Value_r6_q]
      rw [← hl, t1, t2, t3, i4_eq]
      by_cases h : gt a (i : Int) dI4 = gt b (i : Int) dI4
      · rw [if_pos h, decide_eq_true h]; rfl
      · rw [if_neg h, decide_eq_false h]; rfl) (by
      simp only [slices_Equalapi_Value_api_Value_l4_p, slices_Equalapi_Value_api_Value_l4_q]
      rw [decide_eq_false (by omega)]
      rfl)]
    by_cases h : a = b
    · rw [if_pos h, decide_eq_true h]; rfl
    · rw [if_neg h, decide_eq_false h]; rfl
  · rw [decide_eq_false hl, len_ne hl]; rfl
theorem ref03_SameValues_eq (a b : List I4) (ha : a.length < 1000000) : ref03_SameValues a b = some (decide (a = b)) := by
  unfold ref03_SameValues ref03_SameValues_q
  rw [len_b]
  by_cases hl : a.length = b.length
  · rw [decide_eq_true hl, eq_loop (a := a) (b := b) (d := dI4) hl ha (fun i hi => by
      obtain ⟨t1, t2, t3⟩ := step_t hi ha
      simp only [ref03_SameValues_l4_p, ref03_SameValues_l4_q, ref03_SameValues_r6_p, ref03_SameValues_r6_q]
      rw [← hl, t1, t2, t3, i4_eq]
      by_cases h : gt a (i : Int) dI4 = gt b (i : Int) dI4
      · rw [if_pos h, decide_eq_true h]; rfl
      · rw [if_neg h, decide_eq_false h]; rfl) (by
      simp only [ref03_SameValues_l4_p, ref03_SameValues_l4_q]
      rw [decide_eq_false (by omega)]
      rfl)]
    by_cases h : a = b
    · rw [if_pos h, decide_eq_true h]; rfl
    · rw [if_neg h, decide_eq_false h]; rfl
  · rw [decide_eq_false hl, len_ne hl]; rfl
/-! ### Nodes -/
abbrev nW (n : Node) : List Int := n.2.2.2.2.2.2.2.2.2.2.2.2.1
abbrev nB (n : Node) : List Int := n.2.2.2.2.2.2.2.2.2.2.2.2.2
noncomputable instance decNode : DecidableEq Node := fun a b => Classical.propDecidable (a = b)
def okNode (n : Node) : Prop := n.2.1.length < 1000000 ∧ (nW n).length < 1000000 ∧ (nB n).length < 1000000
theorem SameNode1_eq (x y : Node) (h : okNode x) : graph_Same_1 x y = some (decide (x = y)) := by
  unfold graph_Same_1 graph_Same_1_q graph_Same_1_r1_p graph_Same_1_r1_q graph_Same_1_r3_p graph_Same_1_r3_q graph_Same_1_r2_p graph_Same_1_r2_q
  rw [Equalint_eq _ _ h.1, Equalint8_eq _ _ h.2.1, Equalint32_eq _ _ h.2.2]
  obtain ⟨a1, a2, a3, a4, a5, a6, a7, a8, a9, a10, a11, a12, a13, a14⟩ := x
  obtain ⟨b1, b2, b3, b4, b5, b6, b7, b8, b9, b10, b11, b12, b13, b14⟩ := y
  have e : ∀ (c : Bool) (x y : Option Bool), (bif c then x else y) = if c = true then x else y := fun c x y => by cases c <;> rfl
  simp only [Option.bind_some]
  by_cases h2 : a2 = b2
  · by_cases h13 : a13 = b13
    · by_cases h14 : a14 = b14
      · subst h2 h13 h14
        simp only [decide_true, cond_true, Option.bind_some, Bool.cond_false_right, Option.some.injEq]
        rw [Bool.eq_iff_iff]
        simp only [Bool.and_eq_true, beq_iff_eq, decide_eq_true_iff, Prod.mk.injEq, and_true, true_and]
        constructor <;> (intro h; simp only [h, and_self])
      · rw [decide_eq_false h14, decide_eq_true h2, decide_eq_true h13, decide_eq_false (fun h => h14 (congrArg nB h))]; rfl
    · rw [decide_eq_false h13, decide_eq_true h2, decide_eq_false (fun h => h13 (congrArg nW h))]; rfl
  · rw [decide_eq_false h2, decide_eq_false (fun h => h2 (congrArg (fun n : Node => n.2.1) h))]; rfl
def sameB (x y : Node) : Bool := decide (x.2.1 = y.2.1) && (decide (x.1 = y.1) && (decide (x.2.2.1 = y.2.2.1) && (decide (x.2.2.2.1 = y.2.2.2.1) && (decide (x.2.2.2.2.1 = y.2.2.2.2.1) && (decide (x.2.2.2.2.2.1 = y.2.2.2.2.2.1) && (decide (x.2.2.2.2.2.2.1 = y.2.2.2.2.2.2.1) && (decide (x.2.2.2.2.2.2.2.1 = y.2.2.2.2.2.2.2.1) && (decide (x.2.2.2.2.2.2.2.2.1 = y.2.2.2.2.2.2.2.2.1) && ((x.2.2.2.2.2.2.2.2.2.1 == y.2.2.2.2.2.2.2.2.2.1 && (x.2.2.2.2.2.2.2.2.2.2.1 == y.2.2.2.2.2.2.2.2.2.2.1 && x.2.2.2.2.2.2.2.2.2.2.2.1 == y.2.2.2.2.2.2.2.2.2.2.2.1)) && (decide ((nW x).length = (nW y).length) && decide ((nB x).length = (nB y).length)))))))))))
theorem ref03_SameNode_eq (x y : Node) (h : okNode x) : ref03_SameNode x y = some (decide (x = y)) := by
  unfold ref03_SameNode ref03_SameNode_q
  rw [ref03_ints_eq _ _ h.1]
  simp only [Option.bind_some]
  have hr : ref03_SameNode_r2_p x y (decide (x.2.1 = y.2.1)) = !(sameB x y) := by
    simp only [ref03_SameNode_r2_p, ref03_SameNode_r2_q, len_b]
    simp only [int_bne, Bool.cond_true_left, Bool.and_true, sameB, Bool.not_and, nW, nB]
  rw [hr]
  cases hc : sameB x y with
  | true =>
    simp only [sameB, Bool.and_eq_true, decide_eq_true_iff, beq_iff_eq] at hc
    obtain ⟨c2, c1, c3, c4, c5, c6, c7, c8, c9, ⟨c10, c11, c12⟩, hW, hB⟩ := hc
    have lW := eq_loop (a := nW x) (b := nW y) (d := 0) (p := ref03_SameNode_l5_p x y) hW h.2.1 (fun i hi => by
      obtain ⟨t1, t2, t3⟩ := step_t hi h.2.1
      simp only [ref03_SameNode_l5_p, ref03_SameNode_l5_q, ref03_SameNode_r7_p, ref03_SameNode_r7_q]
      rw [show y.2.2.2.2.2.2.2.2.2.2.2.2.1.length = (nW x).length from hW.symm, t1, t2, t3, int_bne]
      by_cases h : gt (nW x) (i : Int) 0 = gt (nW y) (i : Int) 0
      · rw [if_pos h, decide_eq_true h]; rfl
      · rw [if_neg h, decide_eq_false h]; rfl) (by
      simp only [ref03_SameNode_l5_p, ref03_SameNode_l5_q]
      rw [decide_eq_false (Int.lt_irrefl _)]
      rfl)
    have lB := eq_loop (a := nB x) (b := nB y) (d := 0) (p := ref03_SameNode_l10_p x y) hB h.2.2 (fun i hi => by
      obtain ⟨t1, t2, t3⟩ := step_t hi h.2.2
      simp only [ref03_SameNode_l10_p, ref03_SameNode_l10_q, ref03_SameNode_r12_p, ref03_SameNode_r12_q]
      rw [show y.2.2.2.2.2.2.2.2.2.2.2.2.2.length = (nB x).length from hB.symm, t1, t2, t3, int_bne]
      by_cases h : gt (nB x) (i : Int) 0 = gt (nB y) (i : Int) 0
      · rw [if_pos h, decide_eq_true h]; rfl
      · rw [if_neg h, decide_eq_false h]; rfl) (by
      simp only [ref03_SameNode_l10_p, ref03_SameNode_l10_q]
      rw [decide_eq_false (Int.lt_irrefl _)]
      rfl)
    rw [lW, lB]
    by_cases h1 : nW x = nW y
    · by_cases h2 : nB x = nB y
      · rw [if_pos h1, if_pos h2, decide_eq_true (Prod.ext c1 (Prod.ext c2 (Prod.ext c3 (Prod.ext c4 (Prod.ext c5 (Prod.ext c6 (Prod.ext c7 (Prod.ext c8 (Prod.ext c9 (Prod.ext c10 (Prod.ext c11 (Prod.ext c12 (Prod.ext h1 h2)))))))))))))]; rfl
      · rw [if_pos h1, if_neg h2, decide_eq_false (fun h => h2 (by rw [h]))]; rfl
    · rw [if_neg h1, decide_eq_false (fun h => h1 (by rw [h]))]; rfl
  | false =>
    rw [decide_eq_false (fun h => by subst h; simp only [sameB, decide_true, beq_self_eq_true, Bool.and_self] at hc; exact absurd hc (by decide))]; rfl
/-! ### Graphs -/
def okGraph (g : Graph) : Prop := g.1.length < 1000000 ∧ (g.2.1.length < 1000000 ∧ ∀ n ∈ g.2.1, okNode n) ∧ g.2.2.length < 1000000
theorem okNode_gt {l : List Node} (h : ∀ n ∈ l, okNode n) {i : Nat} (hi : i < l.length) : okNode (gt l (i : Int) dNode) := by
  rw [gt_at _ hi]; exact h _ (List.getElem_mem hi)
theorem EqualNode_eq (a b : List Node) (ha : a.length < 1000000) (hn : ∀ n ∈ a, okNode n) : slices_EqualFuncapi_Node_api_Node_api_Node_api_Node a b = some (decide (a = b)) := by
  unfold slices_EqualFuncapi_Node_api_Node_api_Node_api_Node slices_EqualFuncapi_Node_api_Node_api_Node_api_Node_q
  rw [len_b]
  by_cases hl : a.length = b.length
  · rw [decide_eq_true hl, eq_loop (a := a) (b := b) (d := dNode) hl ha (fun i hi => by
      obtain ⟨t1, t2, t3⟩ := step_t hi ha
      simp only [slices_EqualFuncapi_Node_api_Node_api_Node_api_Node_l4_p, slices_EqualFuncapi_Node_api_Node_api_Node_api_Node_l4_q, slices_EqualFuncapi_Node_api_Node_api_Node_api_Node_r5_p, slices_EqualFuncapi_Node_api_Node_api_Node_api_Node_r5_q, slices_EqualFuncapi_Node_api_Node_api_Node_api_Node_r6_p, slices_EqualFuncapi_Node_api_Node_api_Node_api_Node_r6_q]
      rw [← hl, t1, t2, t3, SameNode1_eq _ _ (okNode_gt hn hi)]
      by_cases h : gt a (i : Int) dNode = gt b (i : Int) dNode
      · rw [if_pos h, decide_eq_true h]; rfl
      · rw [if_neg h, decide_eq_false h]; rfl) (by
      simp only [slices_EqualFuncapi_Node_api_Node_api_Node_api_Node_l4_p, slices_EqualFuncapi_Node_api_Node_api_Node_api_Node_l4_q]
      rw [decide_eq_false (by omega)]
      rfl)]
    by_cases h : a = b
    · rw [if_pos h, decide_eq_true h]; rfl
    · rw [if_neg h, decide_eq_false h]; rfl
  · rw [decide_eq_false hl, len_ne hl]; rfl
theorem graph_Same_eq (g h : Graph) (hg : okGraph g) : graph_Same g h = some (decide (g = h)) := by
  unfold graph_Same graph_Same_q graph_Same_r2_p graph_Same_r2_q
  rw [EqualNode_eq _ _ hg.2.1.1 hg.2.1.2, EqualValue_eq _ _ hg.1, Equalint_eq _ _ hg.2.2]
  simp only [Option.bind_some]
  by_cases h2 : g.2.1 = h.2.1
  · rw [decide_eq_true h2]
    by_cases h1 : g.1 = h.1
    · rw [decide_eq_true h1]
      by_cases h3 : g.2.2 = h.2.2
      · rw [decide_eq_true h3, decide_eq_true (Prod.ext h1 (Prod.ext h2 h3))]; rfl
      · rw [decide_eq_false h3, decide_eq_false (show ¬(g = h) from fun e => h3 (by rw [e]))]; rfl
    · rw [decide_eq_false h1, decide_eq_false (show ¬(g = h) from fun e => h1 (by rw [e]))]; rfl
  · rw [decide_eq_false h2, decide_eq_false (show ¬(g = h) from fun e => h2 (by rw [e]))]; rfl
theorem ref03_Same_eq (g h : Graph) (hg : okGraph g) : ref03_Same g h = some (decide (g = h)) := by
  unfold ref03_Same ref03_Same_q ref03_Same_r3_p ref03_Same_r3_q
  rw [ref03_SameValues_eq _ _ hg.1, ref03_ints_eq _ _ hg.2.2]
  simp only [Option.bind_some]
  by_cases h1 : g.1 = h.1
  · rw [decide_eq_true h1]
    by_cases h3 : g.2.2 = h.2.2
    · rw [decide_eq_true h3, len_b]
      by_cases hl : g.2.1.length = h.2.1.length
      · rw [decide_eq_true hl, eq_loop (a := g.2.1) (b := h.2.1) (d := dNode) (p := ref03_Same_l6_p g h) hl hg.2.1.1 (fun i hi => by
          obtain ⟨t1, t2, t3⟩ := step_t hi hg.2.1.1
          simp only [ref03_Same_l6_p, ref03_Same_l6_q, ref03_Same_r8_p, ref03_Same_r8_q]
          rw [← hl, t1, t2, t3, ref03_SameNode_eq _ _ (okNode_gt hg.2.1.2 hi)]
          by_cases h : gt g.2.1 (i : Int) dNode = gt h.2.1 (i : Int) dNode
          · rw [if_pos h, decide_eq_true h]; rfl
          · rw [if_neg h, decide_eq_false h]; rfl) (by
          simp only [ref03_Same_l6_p, ref03_Same_l6_q]
          rw [decide_eq_false (by omega)]
          rfl)]
        by_cases h2 : g.2.1 = h.2.1
        · rw [if_pos h2, decide_eq_true (Prod.ext h1 (Prod.ext h2 h3))]; rfl
        · rw [if_neg h2, decide_eq_false (show ¬(g = h) from fun e => h2 (by rw [e]))]; rfl
      · rw [decide_eq_false hl, decide_eq_false (show ¬(g = h) from fun e => hl (by rw [e]))]; rfl
    · rw [decide_eq_false h3, decide_eq_false (show ¬(g = h) from fun e => h3 (by rw [e]))]; rfl
  · rw [decide_eq_false h1, decide_eq_false (show ¬(g = h) from fun e => h1 (by rw [e]))]; rfl
/-! ### Fewer -/
theorem cut_ok {α : Type} (l : List α) (n : Nat) (hn : n < 1000000) : ∃ m : List α, (bif decide ((l.length : Int) > (n : Int)) then (bif decide ((n : Int) ≤ (l.length : Int)) then some ((l.take (Int.toNat (n : Int))).drop (Int.toNat (0 : Int))) else none) else some l) = some m ∧ m.length < 1000000 := by
  by_cases h : l.length > n
  · rw [decide_eq_true (by omega), decide_eq_true (by omega)]
    refine ⟨_, rfl, ?_⟩
    simp only [List.length_drop, List.length_take]
    omega
  · rw [decide_eq_false (by omega)]
    exact ⟨_, rfl, by omega⟩
theorem few_ok (n : Node) : ∃ m, law03_few n = some m ∧ okNode m := by
  obtain ⟨a, e1, h1⟩ := cut_ok n.2.1 20 (by omega)
  obtain ⟨b, e2, h2⟩ := cut_ok (nW n) 5000 (by omega)
  obtain ⟨c, e3, h3⟩ := cut_ok (nB n) 20 (by omega)
  have f1 : law03_few_j1_p n = some a := by
    rw [← e1]
    simp only [law03_few_j1_p, law03_few_j1_q, law03_few_r2_p, law03_few_r2_q]
    show (bif decide ((n.2.1.length : Int) > (20 : Nat)) then _ else _) = _
    cases decide ((n.2.1.length : Int) > (20 : Nat)) with
    | false => rfl
    | true => show Option.bind (bif decide (((20 : Nat) : Int) ≤ (n.2.1.length : Int)) then some () else none) _ = _; cases decide (((20 : Nat) : Int) ≤ (n.2.1.length : Int)) <;> rfl
  have f2 : law03_few_j3_p n = some b := by
    rw [← e2]
    simp only [law03_few_j3_p, law03_few_j3_q, law03_few_r4_p, law03_few_r4_q, Option.bind_fun_some]
    rfl
  have f3 : law03_few_j5_p n = some c := by
    rw [← e3]
    simp only [law03_few_j5_p, law03_few_j5_q, law03_few_r6_p, law03_few_r6_q, Option.bind_fun_some]
    rfl
  unfold law03_few law03_few_q
  rw [f1, f2, f3]
  exact ⟨_, rfl, h1, h2, h3⟩
theorem less_ok (g : Graph) : ∃ m, law03_less g = some m ∧ okGraph m := by
  obtain ⟨a, e1, h1⟩ := cut_ok g.1 6 (by omega)
  obtain ⟨c, e3, h3⟩ := cut_ok g.2.2 6 (by omega)
  have f1 : law03_less_j1_p g = some a := by
    rw [← e1]
    simp only [law03_less_j1_p, law03_less_j1_q, law03_less_r2_p, law03_less_r2_q]
    show (bif decide ((g.1.length : Int) > (6 : Nat)) then _ else _) = _
    cases decide ((g.1.length : Int) > (6 : Nat)) with
    | false => rfl
    | true => show Option.bind (bif decide (((6 : Nat) : Int) ≤ (g.1.length : Int)) then some () else none) _ = _; cases decide (((6 : Nat) : Int) ≤ (g.1.length : Int)) <;> rfl
  have f3 : law03_less_j3_p g = some c := by
    rw [← e3]
    simp only [law03_less_j3_p, law03_less_j3_q, law03_less_r4_p, law03_less_r4_q]
    show (bif decide ((g.2.2.length : Int) > (6 : Nat)) then _ else _) = _
    cases decide ((g.2.2.length : Int) > (6 : Nat)) with
    | false => rfl
    | true => show Option.bind (bif decide (((6 : Nat) : Int) ≤ (g.2.2.length : Int)) then some () else none) _ = _; cases decide (((6 : Nat) : Int) ≤ (g.2.2.length : Int)) <;> rfl
  obtain ⟨z, hz, h2⟩ := iterN_inv (p := law03_less_l7_p g) (fun s => ∃ i : Nat, s.2 = (i : Int) ∧ i ≤ 14 ∧ s.1.length = i ∧ ∀ n ∈ s.1, okNode n) (fun s => 14 - s.2.toNat)
    (Q := fun z => z.1.length < 1000000 ∧ ∀ n ∈ z.1, okNode n) (fun s hs => by
    obtain ⟨l, t⟩ := s
    obtain ⟨i, rfl, hi, hl, hn⟩ := hs
    simp only [law03_less_l7_p, law03_less_l7_q, law03_less_r7_p, law03_less_r7_q, law03_less_r9_p, law03_less_r9_q]
    simp only at hl hn
    by_cases ha : i < g.2.1.length ∧ i < 14
    · obtain ⟨m, em, hm⟩ := few_ok (gt g.2.1 (i : Int) dNode)
      have t1 : decide ((i : Int) < (g.2.1.length : Int)) = true := decide_eq_true (by omega)
      have t2 : decide ((i : Int) < 14) = true := decide_eq_true (by omega)
      have t3 : decide ((0 : Int) ≤ (i : Int)) = true := decide_eq_true (by omega)
      have t4 : decide (l.length + ([m] : List Node).length ≤ maxL) = true := decide_eq_true (by simp only [List.length_singleton, maxL]; omega)
      have t5 := i64_in ((i : Int) + 1) (by omega)
      simp only [t1, t2, t3, em, t5, cond_true, Option.bind_some, t4]
      refine .inl ⟨_, rfl, ⟨i + 1, by omega, by omega, by simp [hl], fun n hn2 => ?_⟩, by simp only; omega⟩
      rcases List.mem_append.1 hn2 with h | h
      · exact hn n h
      · rw [List.mem_singleton.1 h]; exact hm
    · refine .inr ⟨(l, (i : Int)), ?_, by simp only; omega, hn⟩
      by_cases h1 : i < g.2.1.length
      · rw [decide_eq_true (by omega), decide_eq_false (by omega)]; rfl
      · rw [decide_eq_false (by omega)]; rfl) LL ([], 0) ⟨0, rfl, by omega, rfl, fun n hn => absurd hn (by simp)⟩ (LL_lt (by simp only [Int.toNat_zero]; omega))
  unfold law03_less law03_less_q
  rw [f1, f3, hz]
  exact ⟨_, rfl, h1, h2, h3⟩
theorem shown03 : law03_shown = some true := by decide +kernel
theorem GraphSame_true (g h : Graph) (_ : Ts.ok tsGraph g) (_ : Ts.ok tsGraph h) : law03_GraphSame g h = some true := by
  obtain ⟨a, ea, ha⟩ := less_ok g
  obtain ⟨b, eb, hb⟩ := less_ok h
  unfold law03_GraphSame law03_GraphSame_q law03_GraphSame_r4_p law03_GraphSame_r4_q
  simp only [shown03, ea, eb, Option.bind_some, graph_Same_eq _ _ ha, graph_Same_eq _ _ hb, ref03_Same_eq _ _ ha, beq_self_eq_true, cond_true, decide_true]
  rw [show decide (a = b) = decide (b = a) from decide_eq_decide.2 eq_comm]
  simp
end Go.V.P
