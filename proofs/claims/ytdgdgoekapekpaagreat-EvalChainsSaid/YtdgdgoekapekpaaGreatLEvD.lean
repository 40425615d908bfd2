/- Plain laws of layer 6: what all nodes make of all numbers. -/
import Derived.Test.YtdgdgoekapekpaaGreatLEvB
import Derived.Test.YtdgdgoekapekpaaGreatLEvC
import Derived.Test.YtdgdgoekapekpaaGreatLKTot2
import Derived.Test.YtdgdgoekapekpaaGreatEc1
namespace Go.V.P
open Go Go.V Go.IntWalk
set_option linter.unusedVariables false
set_option linter.unusedSimpArgs false
set_option maxRecDepth 20000
theorem gt_of {α : Type} {l : List α} {x : Int} (d : α) (h0 : 0 ≤ x) (h1 : x < l.length) : gt l x d = l[x.toNat]'(by omega) := by
  have := gt_at d (l := l) (i := x.toNat) (by omega)
  rwa [show ((x.toNat : Nat) : Int) = x by omega] at this
theorem gt_left {α : Type} {l m : List α} {x : Int} (d : α) (h0 : 0 ≤ x) (h1 : x < l.length) : gt (l ++ m) x d = gt l x d := by
  rw [gt_of d h0 h1, gt_of d h0 (by simp only [List.length_append]; omega), List.getElem_append_left]
theorem gt_last {α : Type} {l : List α} {y : α} (d : α) : gt (l ++ [y]) (l.length : Int) d = y := by
  rw [gt_at d (by simp)]
  simp
theorem Rows.at {l : List I4} {d : List (List Int)} (h : Rows l d) {x : Int} (h0 : 0 ≤ x) (h1 : x < l.length) : Full (gt l x dI4) (gt d x []) := by
  rw [gt_of dI4 h0 h1]
  have := h.full x.toNat (by omega)
  rwa [show ((x.toNat : Nat) : Int) = x by omega] at this
theorem Rows.app {l : List I4} {d : List (List Int)} (h : Rows l d) {z : I4} {e : List Int} (hz : Full z e) : Rows (l ++ [z]) (d ++ [e]) := by
  refine ⟨by simp [h.len], fun i hi => ?_⟩
  by_cases hl : i < l.length
  · rw [List.getElem_append_left hl, gt_left [] (by omega) (by rw [h.len]; omega)]
    exact h.full i hl
  · have : i = l.length := by simp at hi; omega
    subst this
    have e1 : (l ++ [z])[l.length]'hi = z := by simp
    have e2 : gt (d ++ [e]) (l.length : Int) [] = e := by rw [← h.len, gt_last]
    rw [e1, e2]
    exact hz
theorem Full.small {a : I4} {d : List Int} (h : Full a d) : d.length < 1000000 := by
  have := h.len
  have := sizeV_in (vS a)
  omega
theorem Rows.small {l : List I4} {d : List (List Int)} (h : Rows l d) : ∀ r ∈ d, r.length < 1000000 := by
  intro r hr
  obtain ⟨i, hi, e⟩ := List.mem_iff_getElem.1 hr
  have := (h.full i (by rw [← h.len]; exact hi)).small
  rwa [gt_at [] hi, e] at this
/-- the values that a node is made of, and their numbers -/
def pick (p : List I4) (n : Node) : List I4 := n.2.1.map fun x => gt p x dI4
def dat (a : List (List Int)) (n : Node) : List Int × List Int := match n.2.1 with
  | [x] => (gt a x [], [])
  | [x, y] => (gt a x [], gt a y [])
  | _ => ([], [])
def kA (n : Node) (l : List I4) (d : List Int × List Int) : List Int := ((kern_All n l d).getD ([], 0)).1
def runD : List I4 → List (List Int) → List Node → List (List Int)
  | _, a, [] => a
  | p, a, n :: ns => runD (p ++ [(gV n (pick p n)).1]) (a ++ [kA n (pick p n) (dat a n)]) ns
theorem in_one (g : Graph) (y : List I4 × Int) (s : List (List Int) × Int) (n : Node) (x : Int) (hn : gt g.2.1 s.2 dNode = n) (hI : n.2.1 = [x]) (h0 : 0 ≤ x) (h1 : x < y.1.length) (h2 : x < s.1.length) :
    iterN (eval_All_l13_p g y s) LL ([], 0, [], []) = some ([gt y.1 x dI4], 1, gt s.1 x [], []) := by
  have e15 : eval_All_r15_p g y s ([], 0, [], []) = some ([gt y.1 x dI4], gt s.1 x [], []) := by
    simp only [eval_All_r15_p, hn, hI]
    rw [show gt [x] (0 : Int) 0 = x from rfl, decide_eq_true h0, decide_eq_true h1, decide_eq_true h2]
    rfl
  refine iterN_for (p := eval_All_l13_p g y s) (z := ([gt y.1 x dI4], 1, gt s.1 x [], [])) 1 (fun i => match i with | 0 => ([], (0 : Int), [], []) | _ => ([gt y.1 x dI4], (1 : Int), gt s.1 x [], [])) LL (LL_lt (by omega)) (fun i hi => ?_) ?_
  · have : i = 0 := by omega
    subst this
    simp only [eval_All_l13_p, eval_All_r14_p, hn, hI, e15]
    rfl
  · simp only [eval_All_l13_p, hn, hI]
    rfl
theorem in_two (g : Graph) (y : List I4 × Int) (s : List (List Int) × Int) (n : Node) (x z : Int) (hn : gt g.2.1 s.2 dNode = n) (hI : n.2.1 = [x, z]) (h0 : 0 ≤ x) (h1 : x < y.1.length) (h2 : x < s.1.length) (k0 : 0 ≤ z) (k1 : z < y.1.length) (k2 : z < s.1.length) :
    iterN (eval_All_l13_p g y s) LL ([], 0, [], []) = some ([gt y.1 x dI4, gt y.1 z dI4], 2, gt s.1 x [], gt s.1 z []) := by
  have e15 : eval_All_r15_p g y s ([], 0, [], []) = some ([gt y.1 x dI4], gt s.1 x [], []) := by
    simp only [eval_All_r15_p, hn, hI]
    rw [show gt [x, z] (0 : Int) 0 = x from rfl, decide_eq_true h0, decide_eq_true h1, decide_eq_true h2]
    rfl
  have e16 : eval_All_r15_p g y s ([gt y.1 x dI4], 1, gt s.1 x [], []) = some ([gt y.1 x dI4, gt y.1 z dI4], gt s.1 x [], gt s.1 z []) := by
    simp only [eval_All_r15_p, hn, hI]
    rw [show gt [x, z] (1 : Int) 0 = z from rfl, decide_eq_true k0, decide_eq_true k1, decide_eq_true k2]
    rfl
  refine iterN_for (p := eval_All_l13_p g y s) (z := ([gt y.1 x dI4, gt y.1 z dI4], 2, gt s.1 x [], gt s.1 z [])) 2 (fun i => match i with | 0 => ([], (0 : Int), [], []) | 1 => ([gt y.1 x dI4], (1 : Int), gt s.1 x [], []) | _ => ([gt y.1 x dI4, gt y.1 z dI4], (2 : Int), gt s.1 x [], gt s.1 z [])) LL (LL_lt (by omega)) (fun i hi => ?_) ?_
  · have : i = 0 ∨ i = 1 := by omega
    rcases this with rfl | rfl
    · simp only [eval_All_l13_p, eval_All_r14_p, hn, hI, e15]
      rfl
    · simp only [eval_All_l13_p, eval_All_r14_p, hn, hI, e16]
      rfl
  · simp only [eval_All_l13_p, hn, hI]
    rfl
/-- one node: what goes in, what it makes, and that this is as many numbers as its value has -/
theorem node_in (n : Node) (hn : okNode n) (hb : okB n) (p : List I4) (a : List (List Int)) (hr : Rows p a) (ha : n.2.1.all (inR p.length) = true) (he : (gV n (pick p n)).2 = 0) :
    kern_All n (pick p n) (dat a n) = some (kA n (pick p n) (dat a n), 0) ∧ Full (gV n (pick p n)).1 (kA n (pick p n) (dat a n)) ∧ ((∃ x, n.2.1 = [x] ∧ 0 ≤ x ∧ x < p.length) ∨ ∃ x z, n.2.1 = [x, z] ∧ (0 ≤ x ∧ x < p.length) ∧ 0 ≤ z ∧ z < p.length) := by
  have hln : (pick p n).length < 1000000 := by simpa [pick] using hn.1
  have hv : ref03_Value n (pick p n) = some ((gV n (pick p n)).1, 0) := by
    obtain ⟨z, e1, e2⟩ := Value_eq n (pick p n) hln hn.2.2
    rw [e2, ← e1, (gV_eq n _ hln hn.2.2).1, ← he]
  have hlen := (value_ok hln hn.2.2 hv).len
  have hin : ∀ x ∈ n.2.1, 0 ≤ x ∧ x < (p.length : Int) := by
    intro x hx
    have := List.all_eq_true.1 ha x hx
    simpa [inR] using this
  have hlen2 : n.2.1.length = 1 ∨ n.2.1.length = 2 := by simpa [pick] using hlen
  have hall : FullL (pick p n) (dat a n) ∧ ((∃ x, n.2.1 = [x] ∧ 0 ≤ x ∧ x < p.length) ∨ ∃ x z, n.2.1 = [x, z] ∧ (0 ≤ x ∧ x < p.length) ∧ 0 ≤ z ∧ z < p.length) := by
    rcases hlen2 with hl | hl
    · obtain ⟨x, hx⟩ := List.length_eq_one_iff.1 hl
      have h1 := hin x (by rw [hx]; simp)
      refine ⟨?_, .inl ⟨x, hx, h1⟩⟩
      unfold pick dat
      rw [hx]
      exact hr.at h1.1 h1.2
    · obtain ⟨x, z, hx⟩ := len2 hl
      have h1 := hin x (by rw [hx]; simp)
      have h2 := hin z (by rw [hx]; simp)
      refine ⟨?_, .inr ⟨x, z, hx, h1, h2⟩⟩
      unfold pick dat
      rw [hx]
      exact ⟨hr.at h1.1 h1.2, hr.at h2.1 h2.2⟩
  obtain ⟨F, f1, f2, _⟩ := All_total hn.2.2 hln hv (dat a n) hall.1 hb.1 hb.2
  have ek : kA n (pick p n) (dat a n) = allL (gV n (pick p n)).1.1.toNat (gV n (pick p n)).1.2.1.toNat (gV n (pick p n)).1.2.2.1.toNat F := by
    unfold kA
    rw [f1]
    rfl
  rw [← ek] at f1 f2
  exact ⟨f1, f2, hall.2⟩
theorem all_loop (g : Graph) (hg : okGraph g) (hB : ∀ n ∈ g.2.1, okB n) (y : List I4 × Int) (x : Int) : ∀ (k m i : Nat) (p : List I4) (w : Int) (a : List (List Int)), i + k = g.2.1.length → k < m → p.length ≤ 6 + i → Rows p a → run p w (g.2.1.drop i) = .inl (y.1, x) →
    iterN (eval_All_l8_p g y) m (a, (i : Int)) = some (.inl (runD p a (g.2.1.drop i), (g.2.1.length : Int))) ∧ Rows y.1 (runD p a (g.2.1.drop i))
  | 0, m + 1, i, p, w, a, hi, hm, hp, hr, hrun => by
    have : i = g.2.1.length := by omega
    subst this
    rw [List.drop_length] at hrun ⊢
    have : p = y.1 := by cases hrun; rfl
    subst this
    have hs : eval_All_l8_p g y (a, (g.2.1.length : Int)) = some (.inr (.inl (a, (g.2.1.length : Int)))) := by
      simp only [eval_All_l8_p]
      rw [decide_eq_false (Int.lt_irrefl _)]
      rfl
    simp only [iterN, hs]
    exact ⟨rfl, hr⟩
  | k + 1, m + 1, i, p, w, a, hi, hm, hp, hr, hrun => by
    have h14 := hg.2.1.1
    have h : i < g.2.1.length := by omega
    have hn : okNode (g.2.1[i]) := hg.2.1.2 _ (List.getElem_mem h)
    have hb := hB _ (List.getElem_mem h)
    have hgt := gt_at dNode h
    obtain ⟨made, hmade, _⟩ := run_made _ _ _ _ _ (fun n hn => hg.2.1.2 n (List.mem_of_mem_drop hn)) hrun
    obtain ⟨t1, t2, t3⟩ := step_t h (by omega)
    rw [List.drop_eq_getElem_cons h] at hrun ⊢
    generalize hx : g.2.1[i] = n at *
    simp only [run] at hrun
    split at hrun
    · rename_i ha
      split at hrun
      · rename_i he
        obtain ⟨k1, k2, k3⟩ := node_in n hn hb p a hr ha he
        have hal : (a.length : Int) = (p.length : Int) := by rw [hr.len]
        have hin : ∃ t : Int, iterN (eval_All_l13_p g y (a, (i : Int))) LL ([], 0, [], []) = some (pick p n, t, dat a n) := by
          have hyl : (p.length : Int) ≤ (y.1.length : Int) := by rw [hmade, List.length_append]; omega
          rcases k3 with ⟨u, e, q1, q2⟩ | ⟨u, v, e, ⟨q1, q2⟩, q3, q4⟩
          · refine ⟨1, (in_one g y (a, (i : Int)) n u hgt e q1 (by omega) (by simp only; omega)).trans ?_⟩
            unfold pick dat
            rw [e]
            simp only [List.map_cons, List.map_nil]
            rw [hmade, gt_left dI4 q1 q2]
          · refine ⟨2, (in_two g y (a, (i : Int)) n u v hgt e q1 (by omega) (by simp only; omega) q3 (by omega) (by simp only; omega)).trans ?_⟩
            unfold pick dat
            rw [e]
            simp only [List.map_cons, List.map_nil]
            rw [hmade, gt_left dI4 q1 q2, gt_left dI4 q3 q4]
        obtain ⟨t, ht⟩ := hin
        have hs : eval_All_l8_p g y (a, (i : Int)) = some (.inl (a ++ [kA n (pick p n) (dat a n)], (i : Int) + 1)) := by
          simp only [eval_All_l8_p, eval_All_r9_p, eval_All_r20_p, t1, t2, t3, hgt, ht, k1, cond_true, Option.bind_some, bne_self_eq_false, cond_false]
          rw [decide_eq_true (by have := hr.len; simp only [List.length_singleton, maxL]; omega)]
          rfl
        have := all_loop g hg hB y x k m (i + 1) (p ++ [(gV n (pick p n)).1]) (w + ((nW n).length : Int)) (a ++ [kA n (pick p n) (dat a n)]) (by omega) (by omega) (by simp only [List.length_append, List.length_singleton]; omega) (hr.app k2) hrun
        simp only [iterN, hs, runD]
        exact this
      · cases hrun
    · cases hrun
theorem fits_true (l : List I4) (d : List (List Int)) (h : Rows l d) (hl : l.length < 1000000) : eval_fits l d = some true := by
  have hd := h.len
  have := iterN_for (p := slices_EqualFuncapi_Value_int8_api_Value_int8_l4_p l d) (z := .inl (l.length : Int)) l.length (fun i => (i : Int)) LL (LL_lt hl) (fun i hi => by
    obtain ⟨t1, t2, t3⟩ := step_t hi hl
    have u1 : decide ((i : Int) < (d.length : Int)) = true := decide_eq_true (by omega)
    have hf := h.at (x := (i : Int)) (by omega) (by omega)
    have e1 : eval_fits_1 (gt l (i : Int) dI4) (gt d (i : Int) []) = some true := by
      unfold eval_fits_1
      have : shape_Size ((gt l (i : Int) dI4).1, (gt l (i : Int) dI4).2.1, (gt l (i : Int) dI4).2.2.1) = some (sizeV (vS (gt l (i : Int) dI4))) := shape_Size_eq _
      rw [this, ← hf.len]
      simp
    simp only [slices_EqualFuncapi_Value_int8_api_Value_int8_l4_p, slices_EqualFuncapi_Value_int8_api_Value_int8_r5_p, slices_EqualFuncapi_Value_int8_api_Value_int8_r6_p, t1, t2, t3, u1, e1, cond_true, Option.bind_some, Bool.not_true, cond_false]
    rfl) (by
    simp only [slices_EqualFuncapi_Value_int8_api_Value_int8_l4_p]
    rw [decide_eq_false (Int.lt_irrefl _)]
    rfl)
  unfold eval_fits slices_EqualFuncapi_Value_int8_api_Value_int8
  rw [show ((l.length : Int) != (d.length : Int)) = false by rw [hd]; simp]
  rw [show ((0 : Nat) : Int) = 0 from rfl] at this
  rw [this]
  rfl
theorem clone8 (s : List Int) (h : s.length < 1000000) : slices_Cloneint8_int8 s = some s := by
  unfold slices_Cloneint8_int8
  cases s with
  | nil => rfl
  | cons x t =>
    rw [show (x :: t).isEmpty = false from rfl, decide_eq_true (by simp only [List.length_nil, maxL]; omega)]
    rfl
theorem copied (d : List (List Int)) (hd : d.length < 1000000) (h : ∀ r ∈ d, r.length < 1000000) : eval_copied d = some d := by
  have := iterN_for (p := eval_copied_l3_p d) (z := (d, (d.length : Int))) d.length (fun i => (d.take i, (i : Int))) LL (LL_lt hd) (fun i hi => by
    obtain ⟨t1, t2, t3⟩ := step_t hi hd
    have hg := gt_at ([] : List Int) hi
    have hc := clone8 _ (h _ (List.getElem_mem hi))
    simp only [eval_copied_l3_p, eval_copied_r4_p, eval_copied_r5_p, t1, t2, t3, hg, hc, cond_true, Option.bind_some]
    rw [decide_eq_true (by simp only [List.length_take, List.length_singleton, maxL]; omega), List.take_succ_eq_append_getElem hi]
    rfl) (by
    simp only [eval_copied_l3_p]
    rw [decide_eq_false (Int.lt_irrefl _), List.take_length]
    rfl)
  rw [List.take_zero, show ((0 : Nat) : Int) = 0 from rfl] at this
  unfold eval_copied
  rw [this]
  rfl
theorem Values_ok {g : Graph} {v : List I4} (h : valuesV g = some v) : fitB g = true ∧ (∃ x, run g.1 0 g.2.1 = .inl (v, x) ∧ x ≤ 4096) ∧ g.2.2.all (inR v.length) = true := by
  unfold valuesV at h
  split at h
  · rename_i hf
    split at h
    · rename_i z hz
      split at h
      · rename_i hw
        cases h
        exact ⟨hf, ⟨z.2, hz, hw.1⟩, hw.2⟩
      · cases h
    · cases h
  · cases h
theorem fit_in {g : Graph} (h : fitB g = true) : (g.1.length ≤ 4 ∧ g.2.1.length ≤ 12 ∧ g.2.2.length ≤ 4 ∧ g.1.length ≠ 0 ∧ g.2.2.length ≠ 0) ∧ ∀ v ∈ g.1, mayB (vS v) = true ∧ -128 ≤ v.2.2.2 ∧ v.2.2.2 ≤ 127 := by
  unfold fitB at h
  simp only [Bool.and_eq_true, decide_eq_true_iff, Bool.not_eq_true'] at h
  refine ⟨by omega, fun v hv => ?_⟩
  have := List.any_eq_false.1 h.2 v hv
  simp only [badIn, Bool.or_eq_true, Bool.not_eq_true', not_or, Bool.not_eq_false, in_iff] at this
  exact this
/-- all that a graph makes of the numbers that go in -/
theorem All_eval (g : Graph) (hg : okGraph g) (hB : ∀ n ∈ g.2.1, okB n) (v : List I4) (hv : valuesV g = some v) (d : List (List Int)) (hr : Rows g.1 d) :
    eval_All g d = some (runD g.1 d g.2.1, 0) ∧ Rows v (runD g.1 d g.2.1) := by
  obtain ⟨hf, ⟨x, hrun, _⟩, ho⟩ := Values_ok hv
  have hgv : graph_Values g = some (v, 0) := by
    rcases Values_eq g hg with ⟨u, e1, e2⟩ | ⟨e1, _⟩
    · rw [hv] at e1
      cases e1
      exact e2
    · rw [hv] at e1; cases e1
  have h6 := hg.1
  have hl := all_loop g hg hB (v, 0) x g.2.1.length LL 0 g.1 0 d (by omega) (LL_lt (by have := hg.2.1.1; omega)) (by omega) hr (by rw [List.drop_zero]; exact hrun)
  rw [List.drop_zero, show ((0 : Nat) : Int) = 0 from rfl] at hl
  refine ⟨?_, hl.2⟩
  unfold eval_All
  rw [hgv]
  simp only [Option.bind_some, bne_self_eq_false, cond_false]
  rw [fits_true _ _ hr (by omega)]
  simp only [Option.bind_some, Bool.not_true, cond_false]
  rw [copied d (by rw [hr.len]; omega) hr.small]
  simp only [Option.bind_some, hl.1, either]
/-- what comes out -/
theorem Outs_eval (g : Graph) (hg : okGraph g) (hB : ∀ n ∈ g.2.1, okB n) (v : List I4) (hv : valuesV g = some v) (d : List (List Int)) (hr : Rows g.1 d) :
    eval_Outs g d = some (g.2.2.map fun o => gt (runD g.1 d g.2.1) o [], 0) := by
  obtain ⟨e1, e2⟩ := All_eval g hg hB v hv d hr
  obtain ⟨hf, _, ho⟩ := Values_ok hv
  have h6 := hg.2.2
  generalize runD g.1 d g.2.1 = a at *
  have hin : ∀ i (h : i < g.2.2.length), 0 ≤ g.2.2[i] ∧ g.2.2[i] < (v.length : Int) := fun i h => by
    have := List.all_eq_true.1 ho _ (List.getElem_mem h)
    simpa [inR] using this
  have hal : (a.length : Int) = (v.length : Int) := by rw [e2.len]
  have hl := iterN_for (p := eval_Outs_l6_p g (a, 0)) (z := (g.2.2.map fun o => gt a o [], (g.2.2.length : Int))) g.2.2.length (fun i => ((g.2.2.take i).map fun o => gt a o [], (i : Int))) LL (LL_lt (by omega)) (fun i hi => by
    obtain ⟨t1, t2, t3⟩ := step_t hi (by omega)
    have hgo := gt_at (0 : Int) hi
    have q := hin i hi
    simp only [eval_Outs_l6_p, eval_Outs_r7_p, eval_Outs_r8_p, t1, t2, t3, hgo, cond_true, Option.bind_some]
    rw [decide_eq_true q.1, decide_eq_true (by omega), decide_eq_true (by simp only [List.length_map, List.length_take, List.length_singleton, maxL]; omega)]
    simp only [List.take_succ_eq_append_getElem hi, List.map_append, List.map_cons, List.map_nil, cond_true, Option.bind_some]
    rfl) (by
    simp only [eval_Outs_l6_p]
    rw [decide_eq_false (Int.lt_irrefl _), List.take_length]
    rfl)
  rw [List.take_zero, show ((0 : Nat) : Int) = 0 from rfl] at hl
  unfold eval_Outs
  rw [e1]
  simp only [Option.bind_some, bne_self_eq_false, cond_false]
  rw [show (List.map (fun o => gt a o []) [] : List (List Int)) = [] from rfl] at hl
  rw [hl]
  simp only [Option.bind_some]
  rw [copied _ (by simp only [List.length_map]; omega) (fun r hr => by
    obtain ⟨o, ho1, rfl⟩ := List.mem_map.1 hr
    obtain ⟨i, hi, rfl⟩ := List.mem_iff_getElem.1 ho1
    exact (e2.at (hin i hi).1 (hin i hi).2).small)]
  rfl
end Go.V.P
