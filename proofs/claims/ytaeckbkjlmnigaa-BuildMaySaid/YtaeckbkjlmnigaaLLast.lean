/- Plain laws of layer 3: who looks at a value last. -/
import Derived.Test.YtaeckbkjlmnigaaLMakesG
import Derived.Test.YtaeckbkjlmnigaaBm0
namespace Go.V.P
open Go Go.V Go.IntWalk
set_option linter.unusedVariables false
set_option linter.unusedSimpArgs false
set_option maxRecDepth 20000
def note (n : Nat) (w : Int) : List Int → List Int → List Int
  | last, [] => last
  | last, v :: l => note n w (if 0 ≤ v ∧ v < (n : Int) then last.set v.toNat w else last) l
theorem note_len (n : Nat) (w : Int) : ∀ (l last : List Int), (note n w last l).length = last.length
  | [], last => rfl
  | v :: l, last => by
    simp only [note]
    rw [note_len n w l]
    split <;> simp
theorem note_snoc (n : Nat) (w v : Int) : ∀ (l last : List Int), note n w last (l ++ [v]) = if 0 ≤ v ∧ v < (n : Int) then (note n w last l).set v.toNat w else note n w last l
  | [], last => rfl
  | u :: l, last => by simp only [List.cons_append, note]; exact note_snoc n w v l _
theorem gt_set {l : List Int} {i j : Nat} {v : Int} (hj : j < l.length) : gt (l.set i v) (j : Int) 0 = if i = j then v else gt l (j : Int) 0 := by
  unfold gt
  rw [show ((j : Int).toNat) = j by omega, List.getD_eq_getElem?_getD, List.getD_eq_getElem?_getD, List.getElem?_set]
  by_cases h : i = j
  · subst h
    rw [if_pos rfl, if_pos hj, if_pos rfl]
    rfl
  · rw [if_neg h, if_neg h]
theorem note_get (n : Nat) (w : Int) {j : Nat} (hj : j < n) : ∀ (l last : List Int), last.length = n → gt (note n w last l) (j : Int) 0 = if (j : Int) ∈ l then w else gt last (j : Int) 0
  | [], last, _ => by simp [note]
  | v :: l, last, hl => by
    simp only [note]
    rw [note_get n w hj l _ (by split <;> simp [hl])]
    by_cases h1 : (j : Int) ∈ l
    · rw [if_pos h1, if_pos (List.mem_cons_of_mem _ h1)]
    · rw [if_neg h1]
      by_cases h2 : (j : Int) = v
      · rw [if_pos (show (j : Int) ∈ v :: l by rw [h2]; exact List.mem_cons_self), if_pos (show 0 ≤ v ∧ v < (n : Int) by omega), gt_set (by rw [hl]; exact hj), if_pos (by omega)]
      · rw [if_neg (show ¬ (j : Int) ∈ v :: l by simp only [List.mem_cons, not_or]; exact ⟨h2, h1⟩)]
        by_cases h3 : 0 ≤ v ∧ v < (n : Int)
        · rw [if_pos h3, gt_set (by rw [hl]; exact hj), if_neg (by omega)]
        · rw [if_neg h3]
theorem take_snoc {α : Type} {l : List α} {i : Nat} (hi : i < l.length) (d : α) : l.take (i + 1) = l.take i ++ [gt l (i : Int) d] := by
  rw [List.take_add_one, List.getElem?_eq_getElem hi]
  unfold gt
  rw [show ((i : Int).toNat) = i by omega, List.getD_eq_getElem?_getD, List.getElem?_eq_getElem hi]
  rfl
theorem within_is (x a b : Int) : graph_within x a b = (decide (a ≤ x) && decide (x ≤ b)) := by
  simp only [graph_within, graph_within_q, graph_within_r1_p, graph_within_r1_q, ge_iff_le]
  cases decide (a ≤ x) <;> rfl
theorem Last1_eq (l last : List Int) (w : Int) (n : Nat) (hl : l.length < 1000000) (hn : n < 1000000) (hla : last.length = n) : graph_Last_1 l w last n = some (note n w last l) := by
  have hn1 := i64_in ((n : Int) - 1) (by omega)
  have := iterN_for (p := graph_Last_1_l1_p l w n) (z := ((l.length : Int), note n w last l)) l.length (fun i => ((i : Int), note n w last (l.take i))) LL (LL_lt hl) (fun i hi => by
    have t1 : decide ((0 : Int) ≤ (i : Int)) = true := decide_eq_true (by omega)
    have t2 : decide ((i : Int) < (l.length : Int)) = true := decide_eq_true (by omega)
    have t3 := i64_in ((i : Int) + 1) (by omega)
    have hll : (note n w last (l.take i)).length = n := by rw [note_len]; exact hla
    have hr3 : graph_Last_1_r3_p l n ((i : Int), note n w last (l.take i)) = (decide (0 ≤ gt l (i : Int) 0) && decide (gt l (i : Int) 0 ≤ (n : Int) - 1)) := by
      simp only [graph_Last_1_r3_p, graph_Last_1_r3_q, within_is, hn1]
    have hj : graph_Last_1_j2_p l w n ((i : Int), note n w last (l.take i)) = some (note n w last (l.take (i + 1))) := by
      rw [take_snoc hi 0, note_snoc]
      simp only [graph_Last_1_j2_p, graph_Last_1_r2_p, t1, t2, cond_true, Option.bind_some, hr3]
      by_cases hv : 0 ≤ gt l (i : Int) 0 ∧ gt l (i : Int) 0 < (n : Int)
      · rw [if_pos hv, decide_eq_true hv.1, decide_eq_true (show gt l (i : Int) 0 ≤ (n : Int) - 1 by omega)]
        simp only [Bool.and_self, cond_true, graph_Last_1_r4_p]
        rw [decide_eq_true hv.1, decide_eq_true hv.2, hll, decide_eq_true (by omega)]
        rfl
      · rw [if_neg hv]
        have : (decide (0 ≤ gt l (i : Int) 0) && decide (gt l (i : Int) 0 ≤ (n : Int) - 1)) = false := by
          rw [Bool.and_eq_false_iff]
          by_cases h0 : 0 ≤ gt l (i : Int) 0
          · exact .inr (decide_eq_false (by omega))
          · exact .inl (decide_eq_false h0)
        rw [this]
        rfl
    simp only [graph_Last_1_l1_p, t2, cond_true, hj, Option.bind_some, t3]
    rfl) (by
    simp only [graph_Last_1_l1_p]
    rw [decide_eq_false (Int.lt_irrefl _), List.take_length]
    rfl)
  unfold graph_Last_1
  simp only [List.take_zero, note] at this
  rw [show ((0 : Nat) : Int) = 0 from rfl] at this
  rw [this]
  rfl
theorem Last1_s2 (l last : List Int) (w : Int) (n : Nat) : graph_Last_1_s2 l w last n = graph_Last_1 l w last n := rfl
def lastL (n : Nat) (ns : List Node) : Nat → List Int
  | 0 => List.replicate n (-1)
  | i + 1 => note n (i : Int) (lastL n ns i) ((gt ns (i : Int) dNode).2.1)
theorem lastL_len (n : Nat) (ns : List Node) : ∀ i, (lastL n ns i).length = n
  | 0 => by simp [lastL]
  | i + 1 => by simp only [lastL]; rw [note_len]; exact lastL_len n ns i
def lastP (ns : List Node) : Nat → Int → Int
  | 0, _ => -1
  | i + 1, v => if v ∈ (gt ns (i : Int) dNode).2.1 then (i : Int) else lastP ns i v
def lastV (g : Graph) (v : Int) : Int := if v ∈ g.2.2 then (g.2.1.length : Int) else lastP g.2.1 g.2.1.length v
def lastR (g : Graph) : List Int := (List.range (g.1.length + g.2.1.length)).map fun (j : Nat) => lastV g (j : Int)
theorem lastL_get (n : Nat) (ns : List Node) {j : Nat} (hj : j < n) : ∀ i, gt (lastL n ns i) (j : Int) 0 = lastP ns i (j : Int)
  | 0 => by
    simp only [lastL, lastP]
    unfold gt
    rw [show ((j : Int).toNat) = j by omega, List.getD_eq_getElem?_getD, List.getElem?_replicate, if_pos hj]
    rfl
  | i + 1 => by
    simp only [lastL, lastP]
    rw [note_get n _ hj _ _ (lastL_len n ns i), lastL_get n ns hj i]
theorem list_ext_gt {a b : List Int} (hl : a.length = b.length) (h : ∀ j, j < a.length → gt a (j : Int) 0 = gt b (j : Int) 0) : a = b := by
  apply List.ext_getElem hl
  intro j h1 h2
  have := h j h1
  unfold gt at this
  rw [show ((j : Int).toNat) = j by omega, List.getD_eq_getElem?_getD, List.getD_eq_getElem?_getD, List.getElem?_eq_getElem h1, List.getElem?_eq_getElem h2] at this
  exact this
theorem lastR_len (g : Graph) : (lastR g).length = g.1.length + g.2.1.length := by simp [lastR]
theorem lastR_get (g : Graph) {j : Nat} (hj : j < g.1.length + g.2.1.length) : gt (lastR g) (j : Int) 0 = lastV g (j : Int) := by
  unfold gt lastR
  rw [show ((j : Int).toNat) = j by omega, List.getD_eq_getElem?_getD, List.getElem?_map, List.getElem?_range hj]
  rfl
theorem Last_eq (g : Graph) (h1 : g.1.length < 100000) (h2 : g.2.1.length < 100000) (h3 : g.2.2.length < 1000000) (h4 : ∀ n ∈ g.2.1, n.2.1.length < 1000000) : graph_Last g = some (lastR g) := by
  have hn : IntKind.wrap .i64 ((g.1.length : Int) + (g.2.1.length : Int)) = ((g.1.length + g.2.1.length : Nat) : Int) := by rw [i64_in _ (by omega)]; omega
  generalize hN : g.1.length + g.2.1.length = n at hn
  have hnn : Int.toNat ((n : Nat) : Int) = n := by omega
  have hr1 : graph_Last_r1_p g = some () := by
    unfold graph_Last_r1_p
    rw [hn, decide_eq_true (by omega), decide_eq_true (Int.le_refl _), decide_eq_true (by unfold maxL; omega)]
    simp
  have hr2 : graph_Last_r2_p g = (n : Int) := by
    simp only [graph_Last_r2_p, graph_Last_r2_q, hn, hnn]
  have hfill : iterN (graph_Last_l3_p g) LL (0, List.replicate n 0) = some ((n : Int), List.replicate n (-1)) := by
    have := iterN_for (p := graph_Last_l3_p g) (z := ((n : Int), List.replicate n (-1))) n (fun i => ((i : Int), List.replicate i (-1) ++ List.replicate (n - i) 0)) LL (LL_lt (by omega)) (fun i hi => by
      have hlen : (List.replicate i (-1 : Int) ++ List.replicate (n - i) 0).length = n := by simp; omega
      simp only [graph_Last_l3_p, graph_Last_r5_p, hr2, hn, hnn, hlen]
      rw [decide_eq_true (by omega : (i : Int) < (n : Int)), decide_eq_true (by omega : (0 : Int) ≤ (i : Int)), decide_eq_true (by omega : Int.toNat (i : Int) < n), i64_in ((i : Int) + 1) (by omega)]
      simp only [cond_true, Option.bind_some]
      rw [show Int.toNat (i : Int) = i by omega]
      have : (List.replicate i (-1 : Int) ++ List.replicate (n - i) 0).set i (-1) = List.replicate (i + 1) (-1) ++ List.replicate (n - (i + 1)) 0 := by
        rw [List.set_append_right _ _ (by simp)]
        simp only [List.length_replicate, Nat.sub_self]
        rw [show n - i = (n - (i + 1)) + 1 by omega, List.replicate_succ, List.set_cons_zero, List.replicate_succ', List.append_assoc]
        rfl
      rw [this]
      rfl) (by
      simp only [graph_Last_l3_p, hr2]
      rw [decide_eq_false (Int.lt_irrefl _), Nat.sub_self]
      simp)
    simp only [List.replicate_zero, List.nil_append, Nat.sub_zero] at this
    exact this
  have hloop : iterN (graph_Last_l9_p g) LL (0, List.replicate n (-1)) = some ((g.2.1.length : Int), lastL n g.2.1 g.2.1.length) :=
    iterN_for (p := graph_Last_l9_p g) (z := ((g.2.1.length : Int), lastL n g.2.1 g.2.1.length)) g.2.1.length (fun i => ((i : Int), lastL n g.2.1 i)) LL (LL_lt (by omega)) (fun i hi => by
      have hm : (gt g.2.1 (i : Int) dNode).2.1.length < 1000000 := h4 _ (by
        unfold gt
        rw [show ((i : Int).toNat) = i by omega, List.getD_eq_getElem?_getD, List.getElem?_eq_getElem hi]
        exact List.getElem_mem hi)
      simp only [graph_Last_l9_p, graph_Last_r10_p, hn, hnn]
      rw [Last1_eq _ _ _ n hm (by omega) (lastL_len _ _ _), decide_eq_true (by omega : (i : Int) < (g.2.1.length : Int)), decide_eq_true (by omega : (0 : Int) ≤ (i : Int)), i64_in ((i : Int) + 1) (by omega)]
      rfl) (by
      simp only [graph_Last_l9_p]
      rw [decide_eq_false (Int.lt_irrefl _)]
      rfl)
  unfold graph_Last
  rw [hr1]
  simp only [Option.bind_some, hn, hnn]
  rw [hfill]
  simp only [Option.bind_some]
  rw [hloop]
  simp only [Option.bind_some]
  rw [Last1_s2, Last1_eq _ _ _ n h3 (by omega) (lastL_len _ _ _)]
  simp only [Option.bind_some]
  have hl : (note n (g.2.1.length : Int) (lastL n g.2.1 g.2.1.length) g.2.2).length = n := by rw [note_len, lastL_len]
  rw [hl, nbeq.2 rfl]
  have : note n (g.2.1.length : Int) (lastL n g.2.1 g.2.1.length) g.2.2 = lastR g := by
    refine list_ext_gt (by rw [hl, lastR_len, hN]) fun j hj => ?_
    rw [hl] at hj
    rw [note_get n _ hj _ _ (lastL_len _ _ _), lastL_get n _ hj, lastR_get g (by omega)]
    rfl
  rw [this]
  rfl
theorem lastP_in (ns : List Node) (v : Int) : ∀ i : Nat, -1 ≤ lastP ns i v ∧ lastP ns i v < (i : Int) ∧ (0 ≤ lastP ns i v → v ∈ (gt ns (lastP ns i v) dNode).2.1) ∧ ∀ k : Nat, k < i → v ∈ (gt ns (k : Int) dNode).2.1 → (k : Int) ≤ lastP ns i v
  | 0 => ⟨by simp [lastP], by simp [lastP], by simp [lastP], fun k hk => absurd hk (Nat.not_lt_zero _)⟩
  | i + 1 => by
    obtain ⟨h1, h2, h3, h4⟩ := lastP_in ns v i
    simp only [lastP]
    by_cases h : v ∈ (gt ns (i : Int) dNode).2.1
    · rw [if_pos h]
      exact ⟨by omega, by omega, fun _ => h, fun k hk _ => by omega⟩
    · rw [if_neg h]
      refine ⟨h1, by omega, h3, fun k hk hv => ?_⟩
      by_cases e : k = i
      · subst e; exact absurd hv h
      · exact h4 k (by omega) hv
end Go.V.P
