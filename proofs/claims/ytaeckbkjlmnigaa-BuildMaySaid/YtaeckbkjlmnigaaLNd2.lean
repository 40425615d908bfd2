/- Plain laws of layer 5 and 15: which rows are needed, told at once. -/
import Derived.Test.YtaeckbkjlmnigaaLNd
namespace Go.V.P
open Go Go.V Go.IntWalk
set_option linter.unusedVariables false
set_option linter.unusedSimpArgs false
set_option maxRecDepth 20000
def ndV (n : Node) (first rows h : Int) : Int × Int :=
  if wop n.1 then (max 0 (first * n.2.2.2.1 - n.2.2.2.2.1), min h ((first + rows - 1) * n.2.2.2.1 - n.2.2.2.2.1 + n.2.2.1))
  else if n.1 = 9 then padV first rows h else if n.1 = 3 ∨ n.1 = 11 then (0, h) else (first, first + rows)
structure NodeOK (n : Node) (l : List I4) (z : I4) : Prop where
  node : ref03_node n (l.length : Int) = true
  all : ∀ a ∈ l, mayB (vS a) = true
  made : ref03_made n l = some (vS z)
  may : mayB (vS z) = true
  zero : z.2.2.2 = nZ n
theorem NodeOK.len {n : Node} {l : List I4} {z : I4} (h : NodeOK n l z) : l.length = 1 ∨ l.length = 2 := by
  have := node_len n _ h.node
  omega
theorem win_of {n : Node} {l : List I4} {z : I4} (h : NodeOK n l z) (hw : wop n.1) {a : I4} (ha : a ∈ l) : winB a.1 n.2.2.1 n.2.2.2.1 n.2.2.2.2.1 = true ∧ z.1 = outV a.1 n.2.2.1 n.2.2.2.1 n.2.2.2.2.1 ∧ n.2.2.2.2.1 < n.2.2.1 := by
  obtain ⟨f1, f2, f3, f4⟩ := nodeF n _ h.node
  have hg := (madeH n l _ h.node rfl _ h.made h.may a ha).1 hw
  have hma := mayB_iff.1 (h.all a ha)
  have := f2 hw
  simp only [vS] at hma hg
  exact ⟨winB_iff.2 (by omega), hg, by omega⟩
theorem place_in {size k stride pad p : Int} (hw : winB size k stride pad = true) (h1 : 0 ≤ p) (h2 : p < outV size k stride pad) (h : pad < k) : loV stride pad p < hiV size k stride pad p := by
  by_cases hc : loV stride pad p < hiV size k stride pad p
  · exact hc
  · have := empty_pad hw h1 h2 hc
    omega
theorem reach_of {n : Node} {l : List I4} {z : I4} (h : NodeOK n l z) (hw : wop n.1) {a : I4} (ha : a ∈ l) {first rows : Int} (h1 : 0 ≤ first) (h2 : 1 ≤ rows) (h3 : first + rows ≤ z.1) :
    reachV first rows n.2.2.1 n.2.2.2.1 n.2.2.2.2.1 a.1 = ndV n first rows a.1 := by
  obtain ⟨g1, g2, g3⟩ := win_of h hw ha
  unfold ndV
  rw [if_pos hw]
  exact reachV_ends h1 h2 (by omega) (place_in g1 h1 (by omega) g3) (place_in g1 (by omega) (by omega) g3)
theorem pad_of {n : Node} {l : List I4} {z : I4} (h : NodeOK n l z) (hw : n.1 = 9) {a : I4} (ha : a ∈ l) : z.1 = a.1 + 2 ∧ 1 ≤ a.1 ∧ a.1 ≤ 14 := by
  have hg := (madeH n l _ h.node rfl _ h.made h.may a ha).2.1 hw
  have hma := mayB_iff.1 (h.all a ha)
  have hmz := mayB_iff.1 h.may
  simp only [vS] at hma hg hmz
  rw [i64_in _ (by omega)] at hg
  omega
theorem same_of {n : Node} {l : List I4} {z : I4} (h : NodeOK n l z) (h1 : ¬ wop n.1) (h2 : n.1 ≠ 9) (h3 : ¬ (n.1 = 3 ∨ n.1 = 11)) {a : I4} (ha : a ∈ l) : z.1 = a.1 :=
  (madeH n l _ h.node rfl _ h.made h.may a ha).2.2 h1 h2 (fun h => h3 (.inl h)) (fun h => h3 (.inr h))
theorem needs_j (n : Node) (o : Int) : kern_Needs_j12_p n = decide (wop n.1) := by
  unfold kern_Needs_j12_p kern_Needs_j12_q wop
  by_cases h1 : n.1 = 1
  · simp [h1]
  by_cases h2 : n.1 = 2
  · simp [h2]
  by_cases h4 : n.1 = 4
  · simp [h4]
  · rw [Bool.eq_iff_iff]; simp [h1, h2, h4]
theorem needs_j2 (n : Node) : kern_Needs_j19_p n = decide (n.1 = 3 ∨ n.1 = 11) := by
  unfold kern_Needs_j19_p kern_Needs_j19_q
  by_cases h1 : n.1 = 3
  · simp [h1]
  · rw [Bool.eq_iff_iff]; simp [h1]
theorem needs_at {n : Node} {l : List I4} {z : I4} (h : NodeOK n l z) {first rows : Int} (h1 : 0 ≤ first) (h2 : 1 ≤ rows) (h3 : first + rows ≤ z.1) (i : Nat) (hi : i < l.length) (a b c d : Int) :
    kern_Needs_l7_p n l first rows ((i : Int), a, b, c, d) = some (.inl ((i : Int) + 1, if i = 0 then ((ndV n first rows (gt l (i : Int) dI4).1).1, (ndV n first rows (gt l (i : Int) dI4).1).2, c, d) else (a, b, (ndV n first rows (gt l (i : Int) dI4).1).1, (ndV n first rows (gt l (i : Int) dI4).1).2))) := by
  have hl := h.len
  obtain ⟨t1, t2, t3⟩ := step_t (n := l.length) hi (by omega)
  have hmz := mayB_iff.1 h.may
  simp only [vS] at hmz
  have hma : gt l (i : Int) dI4 ∈ l := by
    unfold gt
    rw [show ((i : Int).toNat) = i by omega, List.getD_eq_getElem?_getD, List.getElem?_eq_getElem hi]
    exact List.getElem_mem hi
  have hi01 : i = 0 ∨ i = 1 := by omega
  simp only [kern_Needs_l7_p, kern_Needs_j8_p, kern_Needs_r9_p, needs_j n 0, needs_j2, t1, t2, t3, cond_true, Option.bind_some]
  by_cases hw : wop n.1
  · rw [decide_eq_true hw]
    simp only [cond_true, kern_Needs_r16_p, shape_Reach_eq, Option.bind_some, reach_of h hw hma h1 h2 h3]
    rcases hi01 with rfl | rfl <;> rfl
  · rw [decide_eq_false hw]
    simp only [cond_false]
    by_cases h9 : n.1 = 9
    · have hp := pad_of h h9 hma
      have hr : reachV first rows 1 1 1 (gt l (i : Int) dI4).1 = padV first rows (gt l (i : Int) dI4).1 := pad_reach first rows _ (by omega) h1 h2 (by omega) (by omega) (by omega)
      have hn : ndV n first rows (gt l (i : Int) dI4).1 = padV first rows (gt l (i : Int) dI4).1 := by unfold ndV; rw [if_neg hw, if_pos h9]
      rw [show (n.1 == 9) = true by simpa using h9]
      simp only [cond_true, kern_Needs_r18_p, shape_Reach_eq, Option.bind_some, hr, hn]
      rcases hi01 with rfl | rfl <;> rfl
    · rw [show (n.1 == 9) = false by simpa using h9]
      simp only [cond_false]
      by_cases h11 : n.1 = 3 ∨ n.1 = 11
      · have hn : ndV n first rows (gt l (i : Int) dI4).1 = (0, (gt l (i : Int) dI4).1) := by unfold ndV; rw [if_neg hw, if_neg h9, if_pos h11]
        rw [decide_eq_true h11]
        simp only [cond_true, kern_Needs_r21_p, Option.bind_some, hn]
        rcases hi01 with rfl | rfl <;> rfl
      · have hn : ndV n first rows (gt l (i : Int) dI4).1 = (first, first + rows) := by unfold ndV; rw [if_neg hw, if_neg h9, if_neg h11]
        rw [decide_eq_false h11]
        simp only [cond_false, kern_Needs_r11_p, Option.bind_some, hn, i64_in (first + rows) (by omega)]
        rcases hi01 with rfl | rfl <;> rfl
theorem nd_in {n : Node} {l : List I4} {z : I4} (h : NodeOK n l z) {first rows : Int} (h1 : 0 ≤ first) (h2 : 1 ≤ rows) (h3 : first + rows ≤ z.1) {a : I4} (ha : a ∈ l) :
    0 ≤ (ndV n first rows a.1).1 ∧ (ndV n first rows a.1).1 ≤ (ndV n first rows a.1).2 ∧ (ndV n first rows a.1).2 ≤ a.1 ∧ 1 ≤ a.1 ∧ a.1 ≤ 16 := by
  have hma := mayB_iff.1 (h.all a ha)
  simp only [vS] at hma
  by_cases hw : wop n.1
  · obtain ⟨g1, g2, g3⟩ := win_of h hw ha
    have p1 := place_in g1 h1 (by omega) g3
    have p2 := ends_up (stride := n.2.2.2.1) (p := first) (q := first + rows - 1) a.1 n.2.2.2.2.1 (k := n.2.2.1) (by have := winB_iff.1 g1; omega) (by omega)
    unfold ndV
    rw [if_pos hw]
    unfold loV hiV at *
    simp only
    omega
  · by_cases h9 : n.1 = 9
    · have hp := pad_of h h9 ha
      unfold ndV
      rw [if_neg hw, if_pos h9]
      unfold padV
      split <;> (simp only) <;> omega
    · by_cases h11 : n.1 = 3 ∨ n.1 = 11
      · unfold ndV; rw [if_neg hw, if_neg h9, if_pos h11]; simp only; omega
      · have := same_of h hw h9 h11 ha
        unfold ndV; rw [if_neg hw, if_neg h9, if_neg h11]; simp only; omega
def nd2 (n : Node) (first rows : Int) : List I4 → I4
  | [a] => ((ndV n first rows a.1).1, (ndV n first rows a.1).2, 0, 0)
  | [a, b] => ((ndV n first rows a.1).1, (ndV n first rows a.1).2, (ndV n first rows b.1).1, (ndV n first rows b.1).2)
  | _ => (0, 0, 0, 0)
theorem value_ok {n : Node} {l : List I4} {z : I4} (hl : l.length < 1000000) (hB : (nB n).length < 1000000) (hv : ref03_Value n l = some (z, 0)) : NodeOK n l z := by
  obtain ⟨a, b, c, d, e⟩ := Value_in n l hl hB (z, 0) hv rfl
  exact ⟨a, b, c, d, e⟩
theorem Needs_run {n : Node} {l : List I4} {z : I4} (hB : (nB n).length < 1000000) (hl : l.length < 1000000) (hv : ref03_Value n l = some (z, 0)) {first rows : Int} (h1 : 0 ≤ first) (h2 : 1 ≤ rows) (h3 : first + rows ≤ z.1) :
    kern_Needs n l first rows = some (nd2 n first rows l, 0) := by
  have h := value_ok hl hB hv
  obtain ⟨v, e1, e2⟩ := Value_eq n l hl hB
  have : v = (z, 0) := Option.some.inj (e2.symm.trans hv)
  subst this
  have hmz := mayB_iff.1 h.may
  simp only [vS] at hmz
  unfold kern_Needs
  rw [e1]
  have hr : kern_Needs_r4_p first rows (z, 0) = false := by
    simp only [kern_Needs_r4_p, kern_Needs_r4_q]
    rw [decide_eq_false (by omega), decide_eq_false (by omega), decide_eq_false (by omega), i64_in _ (by omega), decide_eq_false (by omega)]
    rfl
  simp only [Option.bind_some, bne_self_eq_false, cond_false, hr]
  rcases h.len with hh | hh
  · obtain ⟨a, rfl⟩ := List.length_eq_one_iff.1 hh
    have : iterN (kern_Needs_l7_p n [a] first rows) LL (0, 0, 0, 0, 0) = some (1, nd2 n first rows [a]) := iterN_for (p := kern_Needs_l7_p n [a] first rows) (z := (1, nd2 n first rows [a])) 1 (fun i => match i with | 0 => ((0 : Int), (0 : Int), (0 : Int), (0 : Int), (0 : Int)) | _ => (1, nd2 n first rows [a])) LL (LL_lt (by omega)) (fun i hi => by
      have : i = 0 := by omega
      subst this
      exact needs_at h h1 h2 h3 0 (by simp) 0 0 0 0) rfl
    rw [this]
    rfl
  · obtain ⟨a, b, rfl⟩ := len2 hh
    have : iterN (kern_Needs_l7_p n [a, b] first rows) LL (0, 0, 0, 0, 0) = some (2, nd2 n first rows [a, b]) := iterN_for (p := kern_Needs_l7_p n [a, b] first rows) (z := (2, nd2 n first rows [a, b])) 2 (fun i => match i with | 0 => ((0 : Int), (0 : Int), (0 : Int), (0 : Int), (0 : Int)) | 1 => (1, nd2 n first rows [a]) | _ => (2, nd2 n first rows [a, b])) LL (LL_lt (by omega)) (fun i hi => by
      have : i = 0 ∨ i = 1 := by omega
      rcases this with rfl | rfl
      · exact needs_at h h1 h2 h3 0 (by simp) 0 0 0 0
      · exact needs_at h h1 h2 h3 1 (by simp) _ _ 0 0) rfl
    rw [this]
    rfl
end Go.V.P
