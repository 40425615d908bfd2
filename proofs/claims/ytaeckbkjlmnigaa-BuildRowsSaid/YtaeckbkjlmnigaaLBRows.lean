/- Plain laws of layer 19: BuildRows. -/
import Derived.Test.YtaeckbkjlmnigaaLBuild3
import Derived.Test.YtaeckbkjlmnigaaBt4
namespace Go.V.P
open Go Go.V Go.IntWalk
set_option linter.unusedVariables false
set_option linter.unusedSimpArgs false
set_option maxRecDepth 20000
/-- tiles lie one behind the other, from the first row to the last -/
def ChainOK (h : Int) (L : List I2) : Prop := (gt L 0 dI2).1 = 0 ∧ (∀ t ∈ List.range (L.length - 1), (gt L ((t + 1 : Nat) : Int) dI2).1 = (gt L (t : Int) dI2).1 + (gt L (t : Int) dI2).2) ∧ (gt L ((L.length - 1 : Nat) : Int) dI2).1 + (gt L ((L.length - 1 : Nat) : Int) dI2).2 = h
instance (h : Int) (L : List I2) : Decidable (ChainOK h L) := by unfold ChainOK; infer_instance
def chainB (h k : Int) : Bool := match halo_Tiles h k with
  | some L => decide (ChainOK h L)
  | none => false
theorem chain_ok (h k : Int) (h1 : 1 ≤ h) (h2 : h < 1 + (16 : Nat)) (h3 : 1 ≤ k) (h4 : k ≤ h) {L : List I2} (hL : halo_Tiles h k = some L) : ChainOK h L := by
  have key : k ≤ h → chainB h k = true := by
    have h5 : k < 1 + (16 : Nat) := by omega
    clear h4 hL
    revert k; refine rng1 fun j hj => ?_
    revert h; refine rng1 fun i hi => ?_
    revert j i
    decide +kernel
  have h5 := key h4
  unfold chainB at h5
  rw [hL] at h5
  exact of_decide_eq_true h5
section
variable (g : Graph) (vals : List I4)
/-- how many rows a node has -/
def rowsH (j : Int) : Int := (gt vals (IntKind.wrap .i64 ((g.1.length : Int) + j)) dI4).1
def rowStep (s : Int × Int) (c : I14) : Option (Int × Int) :=
  if c.1 = 3 then (if c.2.2.1 = s.1 then some s else if c.2.2.1 < s.1 ∨ (g.2.1.length : Int) ≤ c.2.2.1 ∨ (0 ≤ s.1 ∧ s.2 ≠ rowsH g vals s.1) then none else some (c.2.2.1, 0)).bind fun s' =>
    if c.2.2.2.1 = s'.2 then some (s'.1, IntKind.wrap .i64 (s'.2 + c.2.2.2.2.1)) else none
  else some s
def rowFold : Int × Int → List I14 → Option (Int × Int)
  | s, [] => some s
  | s, c :: l => (rowStep g vals s c).bind fun s' => rowFold s' l
theorem rowFold_append : ∀ (a b : List I14) (s : Int × Int), rowFold g vals s (a ++ b) = (rowFold g vals s a).bind fun s' => rowFold g vals s' b
  | [], b, s => rfl
  | c :: a, b, s => by
    simp only [List.cons_append, rowFold]
    cases rowStep g vals s c with
    | none => rfl
    | some s' => exact rowFold_append a b s'
theorem rowStep_other (s : Int × Int) {c : I14} (h : c.1 ≠ 3) : rowStep g vals s c = some s := if_neg h
theorem rowFold_rep (s : Int × Int) (c : I14) (h : c.1 ≠ 3) : ∀ n, rowFold g vals s (List.replicate n c) = some s
  | 0 => rfl
  | n + 1 => by
    rw [List.replicate_succ, rowFold, rowStep_other g vals s h]
    exact rowFold_rep s c h n
theorem rowFold_plain : ∀ (l : List I14) (s : Int × Int), l.all plainC = true → rowFold g vals s l = some s
  | [], s, _ => rfl
  | c :: l, s, h => by
    simp only [List.all_cons, Bool.and_eq_true] at h
    have hc : c.1 ≠ 3 := fun e => by
      have := h.1
      simp only [plainC, e, Bool.and_eq_true] at this
      cases this.1
    rw [rowFold, rowStep_other g vals s hc]
    exact rowFold_plain l s h.2
end
section
variable {g : Graph} {vals : List I4} {places : List Int}
theorem eng_rows {n : Node} {inn : List I4} {tiles : List I2} {b : I7} {z : I4} (i : Nat) (hi : i < g.2.1.length) (s : Int × Int) (hs : s.1 < (i : Int)) (hx : 0 ≤ s.1 → s.2 = rowsH g vals s.1)
    (hC : ChainOK z.1 tiles) (hin : ∀ t ∈ tiles, 0 ≤ t.1 ∧ 1 ≤ t.2 ∧ t.1 + t.2 ≤ 16) : ∀ t : Nat, t ≤ tiles.length →
    rowFold g vals s (engS n inn tiles b (i : Int) t) = some (if t = 0 then s else ((i : Int), (gt tiles ((t - 1 : Nat) : Int) dI2).1 + (gt tiles ((t - 1 : Nat) : Int) dI2).2))
  | 0, _ => rfl
  | t + 1, ht => by
    have ih := eng_rows (n := n) (inn := inn) (b := b) i hi s hs hx hC hin t (by omega)
    have h := tlC_is n (i : Int) inn (gt tiles (t : Int) dI2) (par (t : Int) b.2.2.2.2.1 b.2.2.2.2.2.1) (par (t : Int) b.1 b.2.1) (par (t : Int) b.2.2.1 b.2.2.2.1)
    have hm := hin _ (gt_mem (show t < tiles.length by omega) dI2)
    have e1 : rowFold g vals s (if 2 ≤ t then (engS n inn tiles b (i : Int) t ++ [wt 0]) ++ [wt 2] else engS n inn tiles b (i : Int) t ++ [wt 0]) = some (if t = 0 then s else ((i : Int), (gt tiles ((t - 1 : Nat) : Int) dI2).1 + (gt tiles ((t - 1 : Nat) : Int) dI2).2)) := by
      split
      · rw [rowFold_append, rowFold_append, ih]; rfl
      · rw [rowFold_append, ih]; rfl
    have w1 : IntKind.wrap .i64 ((gt tiles (t : Int) dI2).1 + (gt tiles (t : Int) dI2).2) = (gt tiles (t : Int) dI2).1 + (gt tiles (t : Int) dI2).2 := i64_in _ (by omega)
    simp only [engS]
    rw [rowFold_append, e1]
    simp only [Option.bind_some, rowFold]
    have e2 : rowStep g vals (if t = 0 then s else ((i : Int), (gt tiles ((t - 1 : Nat) : Int) dI2).1 + (gt tiles ((t - 1 : Nat) : Int) dI2).2)) (tlT n inn tiles b (i : Int) t) = some ((i : Int), (gt tiles (t : Int) dI2).1 + (gt tiles (t : Int) dI2).2) := by
      unfold rowStep tlT
      rw [h.1, h.2.1, h.2.2.1, h.2.2.2, if_pos rfl]
      by_cases h0 : t = 0
      · subst h0
        have hc0 : (gt tiles ((0 : Nat) : Int) dI2).1 = 0 := hC.1
        rw [if_pos rfl, if_neg (by omega), if_neg (by
          rintro (q | q | q)
          · omega
          · omega
          · exact q.2 (hx q.1))]
        simp only [Option.bind_some]
        rw [if_pos hc0]
        rw [hc0] at w1
        rw [w1, hc0]
      · have hc := hC.2.1 (t - 1) (List.mem_range.2 (by omega))
        rw [show t - 1 + 1 = t by omega] at hc
        rw [if_neg h0, if_pos rfl]
        simp only [Option.bind_some]
        rw [if_pos hc, ← hc, w1]
    rw [e2]
    simp only [Option.bind_some]
    rfl
theorem node_rows (hg : okGraph g) (hv : valuesV g = some vals) (hp : places.length = vals.length) {i : Nat} (hi : i < g.2.1.length) (s : Int × Int) (hs : s.1 < (i : Int)) (hx : 0 ≤ s.1 → s.2 = rowsH g vals s.1) :
    rowFold g vals s (nodeG g vals places i).2.1 = some (if tiledB g vals i = true then ((i : Int), rowsH g vals (i : Int)) else s) := by
  have hA := node_at (places := places) hg hv hp hi
  obtain ⟨_, b2⟩ := best_V hA.hl hA.ok.2.2 hA.val
  obtain ⟨_, hb, _⟩ := values_in hv
  unfold nodeG nodeC tiledB
  rcases b2 with h0 | hT
  · rw [if_pos h0, h0]
    rfl
  · have hne : bestV (gt g.2.1 (i : Int) dNode) (innV g vals i) ≠ 0 := by have := hT.best; omega
    have hmz := mayB_iff.1 (value_ok hA.hl hA.ok.2.2 hA.val).may
    simp only [vS] at hmz
    rw [if_neg hne, if_pos (by simpa using hne)]
    have hC := chain_ok _ _ (by omega) (by omega) hT.best.1 hT.best.2 hT.most.tiles
    have hlen : 0 < (tilesV (gt vals ((g.1.length + i : Nat) : Int) dI4) (gt g.2.1 (i : Int) dNode) (innV g vals i)).length := List.length_pos_of_mem hT.most.first
    have he := eng_rows (n := gt g.2.1 (i : Int) dNode) (inn := innV g vals i) (b := (bufs (mostV (gt g.2.1 (i : Int) dNode) (innV g vals i)) 0).1) i hi s hs hx hC (fun t ht => by have := hT.most.ok t ht; omega) _ (Nat.le_refl _)
    simp only [streamsC]
    rw [rowFold_append, he, if_neg (by omega)]
    simp only [Option.bind_some]
    rw [rowFold_rep g vals _ _ (by decide), hC.2.2]
    have : rowsH g vals (i : Int) = (gt vals ((g.1.length + i : Nat) : Int) dI4).1 := by
      unfold rowsH
      rw [i64_in _ (by omega), show (g.1.length : Int) + (i : Int) = ((g.1.length + i : Nat) : Int) by omega]
    rw [this]
theorem str_rows (hg : okGraph g) (hv : valuesV g = some vals) (hp : places.length = vals.length) : ∀ k : Nat, k ≤ g.2.1.length →
    ∃ s, rowFold g vals (-1, 0) (strS g vals places k).2.1 = some s ∧ -1 ≤ s.1 ∧ s.1 < (k : Int) ∧ (0 ≤ s.1 → s.2 = rowsH g vals s.1) ∧ (s.1 < 0 ↔ ∀ j : Nat, j < k → tiledB g vals j = false)
  | 0, _ => ⟨(-1, 0), rfl, by simp, by simp, fun h => by simp at h, ⟨fun _ j hj => absurd hj (Nat.not_lt_zero _), fun _ => by simp⟩⟩
  | k + 1, hk => by
    obtain ⟨s, h1, h2, h3, h4, h5⟩ := str_rows hg hv hp k (by omega)
    have hn := node_rows (places := places) hg hv hp (i := k) (by omega) s h3 h4
    refine ⟨if tiledB g vals k = true then ((k : Int), rowsH g vals (k : Int)) else s, ?_, ?_⟩
    · simp only [strS]
      rw [rowFold_append, h1]
      exact hn
    · by_cases ht : tiledB g vals k = true
      · simp only [if_pos ht]
        refine ⟨by omega, by omega, fun _ => trivial, ⟨fun h => absurd h (by omega), fun h => ?_⟩⟩
        have := h k (by omega)
        rw [ht] at this
        cases this
      · rw [if_neg ht]
        refine ⟨h2, by omega, h4, h5.trans ⟨fun h j hj => ?_, fun h j hj => h j (by omega)⟩⟩
        by_cases hjk : j = k
        · subst hjk; simpa using ht
        · exact h j (by omega)
/-- the law's loop is the fold -/
theorem rows_step (hg : okGraph g) (hv : valuesV g = some vals) (y : Image × Int) (L : List I14) (hL : y.1.2.2.2.2.2.1 = L) (hl : L.length < 1000000) {k : Nat} (hk : k < L.length) {s s' : Int × Int} (hs : -1 ≤ s.1 ∧ s.1 < (g.2.1.length : Int))
    (h : rowStep g vals s L[k] = some s') : law19_BuildRows_l10_p g (vals, 0) y (s.1, s.2, (k : Int)) = some (.inl (s'.1, s'.2, ((k + 1 : Nat) : Int))) ∧ -1 ≤ s'.1 ∧ s'.1 < (g.2.1.length : Int) := by
  obtain ⟨hvl, hb, _⟩ := values_in hv
  have d1 : (k : Int) < (L.length : Int) := by omega
  have d2 : (0 : Int) ≤ (k : Int) := by omega
  have hge : gt L (k : Int) dI14 = L[k] := gt_at dI14 hk
  have w1 : IntKind.wrap .i64 ((k : Int) + 1) = ((k + 1 : Nat) : Int) := by rw [i64_in _ (by omega)]; omega
  obtain ⟨a, x⟩ := s
  simp only at hs
  generalize L[k] = c at h hge
  simp only [law19_BuildRows_l10_p, law19_BuildRows_j12_p, law19_BuildRows_r12_p, hL, d1, d2, hge, w1, decide_true, cond_true, Option.bind_some]
  unfold rowStep at h
  by_cases h3 : c.1 = 3
  · rw [if_pos h3] at h
    rw [show (c.1 != 3) = false by simpa using h3]
    simp only [cond_false, law19_BuildRows_j14_p, hL, hge]
    by_cases hn : c.2.2.1 = a
    · rw [if_pos hn] at h
      simp only [Option.bind_some] at h
      rw [show (c.2.2.1 != a) = false by simpa using hn]
      split at h
      · rename_i hf
        cases h
        simp only [cond_false, Option.bind_some, either]
        rw [show (c.2.2.2.1 != x) = false by simpa using hf]
        exact ⟨rfl, hs⟩
      · cases h
    · rw [if_neg hn] at h
      split at h
      · cases h
      · rename_i hnot
        simp only [Option.bind_some] at h
        split at h
        · rename_i hf
          cases h
          have q1 : ¬ c.2.2.1 < a := fun e => hnot (.inl e)
          have q2 : ¬ c.2.2.1 ≥ (g.2.1.length : Int) := fun e => hnot (.inr (.inl e))
          have q3 : 0 ≤ a → x = rowsH g vals a := fun e => Classical.byContradiction fun e2 => hnot (.inr (.inr ⟨e, e2⟩))
          have hr15 : law19_BuildRows_r15_p g (vals, 0) y (a, x, (k : Int)) = some false := by
            simp only [law19_BuildRows_r15_p, hL, hge]
            rw [decide_eq_false q1, decide_eq_false q2]
            by_cases ha : a ≥ 0
            · have w2 : IntKind.wrap .i64 ((g.1.length : Int) + a) = (g.1.length : Int) + a := i64_in _ (by omega)
              rw [decide_eq_true ha, w2, decide_eq_true (by omega), decide_eq_true (by omega)]
              have := q3 ha
              unfold rowsH at this
              rw [w2] at this
              rw [this]
              simp
            · rw [decide_eq_false ha]
              rfl
          rw [show (c.2.2.1 != a) = true by simpa using hn]
          simp only [cond_true, hr15, Option.bind_some, cond_false, either]
          rw [show (c.2.2.2.1 != 0) = false by simpa using hf]
          exact ⟨rfl, by omega⟩
        · cases h
  · rw [if_neg h3] at h
    cases h
    rw [show (c.1 != 3) = true by simpa using h3]
    exact ⟨rfl, hs⟩
theorem rows_loop (hg : okGraph g) (hv : valuesV g = some vals) (y : Image × Int) (L : List I14) (hL : y.1.2.2.2.2.2.1 = L) (hl : L.length < 1000000) {fin : Int × Int} (hfin : rowFold g vals (-1, 0) L = some fin) :
    iterN (law19_BuildRows_l10_p g (vals, 0) y) LL (-1, 0, 0) = some (.inl (fin.1, fin.2, (L.length : Int))) := by
  let F : Nat → Int × Int := fun k => (rowFold g vals (-1, 0) (L.take k)).getD (0, 0)
  have hF : ∀ k, k ≤ L.length → rowFold g vals (-1, 0) (L.take k) = some (F k) := fun k hk => by
    have h := hfin
    rw [← List.take_append_drop k L, rowFold_append] at h
    cases hc : rowFold g vals (-1, 0) (L.take k) with
    | none => rw [hc] at h; cases h
    | some s => show some s = some ((rowFold g vals (-1, 0) (L.take k)).getD (0, 0)); rw [hc]; rfl
  have hstep : ∀ k (hk : k < L.length), rowStep g vals (F k) L[k] = some (F (k + 1)) := fun k hk => by
    have h := hF (k + 1) hk
    rw [List.take_succ_eq_append_getElem hk, rowFold_append, hF k (by omega)] at h
    simp only [Option.bind_some, rowFold] at h
    cases hc : rowStep g vals (F k) L[k] with
    | none => rw [hc] at h; cases h
    | some s => rw [hc] at h; exact h
  have hin : ∀ k, k ≤ L.length → -1 ≤ (F k).1 ∧ (F k).1 < (g.2.1.length : Int) := fun k => by
    induction k with
    | zero => intro _; exact ⟨Int.le_refl _, by show (-1 : Int) < _; omega⟩
    | succ k ih =>
      intro hk
      exact (rows_step hg hv y L hL hl hk (ih (by omega)) (hstep k hk)).2
  have hend : F L.length = fin := by
    have := hF L.length (Nat.le_refl _)
    rw [List.take_length, hfin] at this
    exact (Option.some.inj this).symm
  have := iterN_for (p := law19_BuildRows_l10_p g (vals, 0) y) (z := .inl (fin.1, fin.2, (L.length : Int))) L.length (fun k => ((F k).1, (F k).2, (k : Int))) LL (LL_lt (by omega)) (fun k hk => (rows_step hg hv y L hL hl hk (hin k (by omega)) (hstep k hk)).1) (by
    simp only [law19_BuildRows_l10_p, hL]
    rw [decide_eq_false (Int.lt_irrefl _), hend]
    rfl)
  exact this
theorem many_loop (l : List Bool) (hl : l.length < 1000000) : iterN (law19_BuildRows_l25_p l) LL (0, 0) = some ((l.countP id : Int), (l.length : Int)) := by
  have := iterN_for (p := law19_BuildRows_l25_p l) (z := ((l.countP id : Int), (l.length : Int))) l.length (fun k => (((l.take k).countP id : Int), (k : Int))) LL (LL_lt (by omega)) (fun k hk => by
    have d1 : (k : Int) < (l.length : Int) := by omega
    have d2 : (0 : Int) ≤ (k : Int) := by omega
    have hge : gt l (k : Int) false = l[k] := gt_at false hk
    have w1 : IntKind.wrap .i64 ((k : Int) + 1) = ((k + 1 : Nat) : Int) := by rw [i64_in _ (by omega)]; omega
    have hc : (l.take k).countP id ≤ k := Nat.le_trans List.countP_le_length (by rw [List.length_take]; omega)
    have w2 : IntKind.wrap .i64 (((l.take k).countP id : Int) + 1) = ((l.take k).countP id : Int) + 1 := i64_in _ (by omega)
    rw [List.take_succ_eq_append_getElem hk, List.countP_append]
    simp only [law19_BuildRows_l25_p, law19_BuildRows_j27_p, law19_BuildRows_r27_p, d1, d2, hge, w1, decide_true, cond_true, Option.bind_some]
    cases hb : l[k] with
    | true =>
      simp only [cond_true, Option.bind_some, w2, List.countP_cons, List.countP_nil, id]
      rfl
    | false =>
      simp only [cond_false, Option.bind_some, List.countP_cons, List.countP_nil, id]
      rfl) (by
    simp only [law19_BuildRows_l25_p]
    rw [decide_eq_false (Int.lt_irrefl _), List.take_length]
    rfl)
  exact this
theorem BuildRows_true (g : Graph) (_ : Ts.ok tsGraph g) : law19_BuildRows g = some true := by
  obtain ⟨m, hm, hg⟩ := less19 g
  unfold law19_BuildRows
  rw [shown19, hm]
  simp only [Option.bind_some]
  rw [ValuesE3 m hg]
  simp only [Option.bind_some]
  rcases Compile_or hg with ⟨vals, hB⟩ | ⟨e, he, hv, hE, hC⟩
  · rw [hB.run, hB.ve]
    obtain ⟨l, t1, t2, t3⟩ := hB.tiled hg
    obtain ⟨hl, hb, hin, _⟩ := values_in hB.vv
    obtain ⟨s, s1, s2, s3, s4, s5⟩ := str_rows hg hB.vv hB.plen m.2.1.length (Nat.le_refl _)
    have hst := strS_len hg hB.vv hB.plen m.2.1.length (Nat.le_refl _)
    have hfin : rowFold m vals (-1, 0) ((strS m vals (plcV m) m.2.1.length).2.1 ++ [hlt]) = some s := by
      rw [rowFold_append, s1]
      rfl
    have hlo := rows_loop hg hB.vv (imgV m vals, 0) _ rfl (by simp only [imgV, List.length_append, List.length_cons, List.length_nil]; omega) hfin
    have hr5 : law19_BuildRows_r5_p (vals, 0) (imgV m vals, 0) = false := rfl
    simp only [Option.bind_some, hr5, cond_false]
    rw [hlo]
    simp only [Option.bind_some, either, t1]
    rw [many_loop l (by omega)]
    simp only [Option.bind_some]
    have hcnt : ((l.countP id : Int) == 0) = decide (s.1 < 0) := by
      by_cases hc : s.1 < 0
      · rw [decide_eq_true hc]
        have h5 := s5.1 hc
        have : l.countP id = 0 := by
          rw [List.countP_eq_zero]
          intro b hb' hbt
          obtain ⟨j, hj, e⟩ := List.mem_iff_getElem.1 hb'
          have h6 := t3 j (by omega)
          rw [h5 j (by omega), gt_at false hj, e] at h6
          rw [h6] at hbt
          cases hbt
        rw [this]
        rfl
      · rw [decide_eq_false hc]
        have : l.countP id ≠ 0 := fun h0 => by
          refine hc (s5.2 fun j hj => ?_)
          rw [← t3 j hj, gt_at false (by omega : j < l.length)]
          have := List.countP_eq_zero.1 h0 _ (List.getElem_mem (by omega : j < l.length))
          simpa using this
        simpa using this
    have hr29 : law19_BuildRows_r29_p true m (vals, 0) (s.1, s.2, ((imgV m vals).2.2.2.2.2.1.length : Int)) ((l.countP id : Int), (l.length : Int)) = some true := by
      simp only [law19_BuildRows_r29_p, cond_true, hcnt]
      by_cases hc : s.1 < 0
      · rw [decide_eq_true hc]
        rfl
      · have w2 : IntKind.wrap .i64 ((m.1.length : Int) + s.1) = (m.1.length : Int) + s.1 := i64_in _ (by omega)
        have h4 := s4 (by omega)
        unfold rowsH at h4
        rw [w2] at h4
        rw [decide_eq_false hc, w2, decide_eq_true (by omega : (0 : Int) ≤ (m.1.length : Int) + s.1), decide_eq_true (by omega : (m.1.length : Int) + s.1 < (vals.length : Int)), ← h4]
        simp
    rw [hr29]
    rfl
  · rw [hC, hE]
    have hr5 : law19_BuildRows_r5_p ([], e) (([], [], [], [], [], [], []), e) = true := by
      simp only [law19_BuildRows_r5_p, law19_BuildRows_r5_q]
      rw [show (e != 0) = true by simpa using he]
      rfl
    simp only [Option.bind_some, hr5, cond_true]
    simp [law19_BuildRows_r6_p, law19_BuildRows_r6_q]
end
end Go.V.P
