/- Plain laws of layer 19: a graph with one node less. -/
import Derived.Test.YtaeckbkjlmnigaaGreatLBuild3
namespace Go.V.P
open Go Go.V Go.IntWalk
set_option linter.unusedVariables false
set_option linter.unusedSimpArgs false
set_option maxRecDepth 20000
theorem run_last : ∀ (ns : List Node) (n : Node) (vals : List I4) (w : Int) (v : List I4) (x : Int), run vals w (ns ++ [n]) = .inl (v, x) → ∃ u y a, run vals w ns = .inl (u, y) ∧ y ≤ x ∧ v = u ++ [a] ∧ u.length = vals.length + ns.length
  | [], n, vals, w, v, x, h => by
    have h2 := (run_len _ _ _ _ _ h).2
    simp only [List.nil_append, run] at h
    split at h
    · split at h
      · cases h
        exact ⟨vals, w, _, rfl, h2, rfl, by simp⟩
      · cases h
    · cases h
  | m :: ns, n, vals, w, v, x, h => by
    simp only [List.cons_append, run] at h ⊢
    split at h
    · split at h
      · rename_i ha he
        obtain ⟨u, y, a, h1, h2, h3, h4⟩ := run_last ns n _ _ v x h
        rw [if_pos ha, if_pos he]
        refine ⟨u, y, a, h1, h2, h3, ?_⟩
        simp only [List.length_append, List.length_cons, List.length_nil] at h4 ⊢
        omega
      · cases h
    · cases h
def shortG (g : Graph) : Graph := (g.1, g.2.1.take (g.2.1.length - 1), [0])
section
variable {g : Graph} {vals : List I4}
theorem short_ok (hg : okGraph g) : okGraph (shortG g) := by
  refine ⟨hg.1, ⟨?_, fun n hn => hg.2.1.2 n (List.mem_of_mem_take hn)⟩, by show [(0 : Int)].length ≤ 6; simp⟩
  show (g.2.1.take (g.2.1.length - 1)).length ≤ 14
  rw [List.length_take]
  have := hg.2.1.1
  omega
theorem short_vals (hv : valuesV g = some vals) (h0 : g.2.1.length ≠ 0) : ∃ u a, vals = u ++ [a] ∧ valuesV (shortG g) = some u := by
  unfold valuesV at hv
  split at hv
  · rename_i hf
    split at hv
    · rename_i z hz
      split at hv
      · rename_i hw
        cases hv
        have hsp : g.2.1 = g.2.1.take (g.2.1.length - 1) ++ [g.2.1[g.2.1.length - 1]'(by omega)] := by
          have h := List.take_succ_eq_append_getElem (show g.2.1.length - 1 < g.2.1.length by omega)
          rw [show g.2.1.length - 1 + 1 = g.2.1.length by omega, List.take_length] at h
          exact h
        rw [hsp] at hz
        obtain ⟨u, y, a, r1, r2, r3, r4⟩ := run_last _ _ _ _ z.1 z.2 hz
        refine ⟨u, a, r3, ?_⟩
        unfold valuesV
        simp only [fitB, Bool.and_eq_true, decide_eq_true_eq] at hf
        have hfs : fitB (shortG g) = true := by
          have hn : (shortG g).2.1.length ≤ 12 := by
            show (g.2.1.take (g.2.1.length - 1)).length ≤ 12
            rw [List.length_take]
            have := hf.1.1.1.1.2
            omega
          have ho : (shortG g).2.2.length ≤ 4 := by show [(0 : Int)].length ≤ 4; simp
          have ho2 : (shortG g).2.2.length ≠ 0 := by show [(0 : Int)].length ≠ 0; simp
          unfold fitB
          rw [decide_eq_true hn, decide_eq_true ho, decide_eq_true ho2]
          show (decide (g.1.length ≤ 4) && true && true && decide (g.1.length ≠ 0) && true && !(g.1.any badIn)) = true
          rw [decide_eq_true hf.1.1.1.1.1, decide_eq_true hf.1.1.2, hf.2]
          rfl
        rw [if_pos hfs]
        have hr : run (shortG g).1 0 (shortG g).2.1 = .inl (u, y) := r1
        rw [hr]
        simp only
        rw [if_pos]
        refine ⟨Int.le_trans r2 hw.1, ?_⟩
        show [(0 : Int)].all (inR u.length) = true
        have hi := hf.1.1.2
        simp only [List.all_cons, List.all_nil, Bool.and_true]
        rw [inR_iff]
        omega
      · cases hv
    · cases hv
  · cases hv
theorem short_at {i : Nat} (hi : i < g.2.1.length - 1) : gt (shortG g).2.1 (i : Int) dNode = gt g.2.1 (i : Int) dNode := by
  show gt (g.2.1.take (g.2.1.length - 1)) (i : Int) dNode = _
  unfold gt
  rw [show ((i : Int).toNat) = i by omega, List.getD_eq_getElem?_getD, List.getD_eq_getElem?_getD, List.getElem?_take_of_lt hi]
theorem short_inn {u : List I4} {a : I4} (hv : valuesV g = some (u ++ [a])) {i : Nat} (hi : i < g.2.1.length - 1) : innV (shortG g) u i = innV g (u ++ [a]) i ∧ gt u ((g.1.length + i : Nat) : Int) dI4 = gt (u ++ [a]) ((g.1.length + i : Nat) : Int) dI4 := by
  obtain ⟨hl, hb, hin, _⟩ := values_in hv
  rw [List.length_append, List.length_cons, List.length_nil] at hl
  refine ⟨?_, (gt_pre u [a] (by omega) (by omega) dI4).symm⟩
  unfold innV
  rw [short_at hi]
  refine List.map_congr_left fun x hx => ?_
  have := hin i (by omega) x hx
  exact (gt_pre u [a] (by omega) (by omega) dI4).symm
end
section
variable {n : Node} {inn : List I4} {tiles : List I2} {b : I7} {z : I4}
theorem loadC_places {p q : List Int} (t : Int) (h : ∀ k : Nat, k < inn.length → gt p (gt n.2.1 (k : Int) 0) 0 = gt q (gt n.2.1 (k : Int) 0) 0) : loadC n inn p tiles b t = loadC n inn q tiles b t := by
  unfold loadC
  split
  · rfl
  · unfold ldsC
    split
    · have h0 := h 0 (by simp)
      have h0' : gt p (gt n.2.1 0 0) 0 = gt q (gt n.2.1 0 0) 0 := h0
      rw [h0']
    · have h0 := h 0 (by simp)
      have h1 := h 1 (by simp)
      have h0' : gt p (gt n.2.1 0 0) 0 = gt q (gt n.2.1 0 0) 0 := h0
      have h1' : gt p (gt n.2.1 1 0) 0 = gt q (gt n.2.1 1 0) 0 := h1
      rw [h0', h1']
    · rfl
theorem dmaS_places {p q : List Int} (to : Int) (h : ∀ k : Nat, k < inn.length → gt p (gt n.2.1 (k : Int) 0) 0 = gt q (gt n.2.1 (k : Int) 0) 0) (ht : gt p to 0 = gt q to 0) : ∀ t, dmaS n inn p tiles b to z t = dmaS n inn q tiles b to z t
  | 0 => by simp only [dmaS, loadC_places _ h]
  | t + 1 => by
    have : stT p tiles b to z t = stT q tiles b to z t := by unfold stT; rw [ht]
    simp only [dmaS, loadC_places _ h, dmaS_places to h ht t, this]
theorem nodeC_places {p q : List Int} (i to : Int) (h : ∀ k : Nat, k < inn.length → gt p (gt n.2.1 (k : Int) 0) 0 = gt q (gt n.2.1 (k : Int) 0) 0) (ht : gt p to 0 = gt q to 0) : nodeC n inn p i to z = nodeC n inn q i to z := by
  unfold nodeC
  split
  · rfl
  · unfold streamsC
    rw [dmaS_places to h ht]
theorem loadC_steps (p q : List Int) (t : Int) : (loadC n inn p tiles b t).map stepsC = (loadC n inn q tiles b t).map stepsC := by
  unfold loadC
  split
  · rfl
  · unfold ldsC
    split <;> rfl
theorem dmaS_steps (p q : List Int) (to to' : Int) : ∀ t, (dmaS n inn p tiles b to z t).map stepsC = (dmaS n inn q tiles b to' z t).map stepsC
  | 0 => by simp only [dmaS, List.map_append, loadC_steps p q]
  | t + 1 => by
    simp only [dmaS, List.map_append, loadC_steps p q, dmaS_steps p q to to' t]
    rfl
theorem nodeC_steps (p q : List Int) (i to to' : Int) : (nodeC n inn p i to z).1.map stepsC = (nodeC n inn q i to' z).1.map stepsC ∧ (nodeC n inn p i to z).2.1.map stepsC = (nodeC n inn q i to' z).2.1.map stepsC ∧ (nodeC n inn p i to z).2.2.map stepsC = (nodeC n inn q i to' z).2.2.map stepsC := by
  unfold nodeC
  split
  · exact ⟨rfl, rfl, rfl⟩
  · exact ⟨dmaS_steps p q to to' _, rfl, rfl⟩
end
end Go.V.P
namespace Go.V.P
open Go Go.V Go.IntWalk Go.RowKit
set_option linter.unusedVariables false
set_option linter.unusedSimpArgs false
set_option maxRecDepth 20000
def fewS (c : I14) : Prop := 0 ≤ stepsC c ∧ stepsC c ≤ 16
def sumI (l : List I14) : Int := (l.map stepsC).sum
theorem sumI_append (a b : List I14) : sumI (a ++ b) = sumI a + sumI b := by simp [sumI]
theorem sumI_cons (a : I14) (b : List I14) : sumI (a :: b) = stepsC a + sumI b := by simp [sumI]
theorem sumI_in : ∀ (l : List I14), (∀ c ∈ l, fewS c) → 0 ≤ sumI l ∧ sumI l ≤ 16 * (l.length : Int)
  | [], _ => by simp [sumI]
  | c :: l, h => by
    have h1 := h c (by simp)
    have h2 := sumI_in l fun x hx => h x (by simp [hx])
    unfold fewS at h1
    rw [sumI_cons, List.length_cons]
    omega
theorem sumI_mem (l : List I14) (c : I14) (h : ∀ c ∈ l, fewS c) (hc : c ∈ l) : stepsC c ≤ sumI l := by
  induction l with
  | nil => simp at hc
  | cons x l ih =>
    have h1 := (h x (List.mem_cons_self ..)).1
    have h2 := (sumI_in l fun x hx => h x (List.mem_cons_of_mem _ hx)).1
    rw [sumI_cons]
    rcases List.mem_cons.1 hc with e | hc
    · rw [e]; exact Int.le_add_of_nonneg_right h2
    · exact Int.le_trans (ih (fun x hx => h x (List.mem_cons_of_mem _ hx)) hc) (Int.le_add_of_nonneg_left h1)
theorem sumC_from : ∀ (l : List I14) (a : Int), (∀ c ∈ l, fewS c) → 0 ≤ a → a + 16 * (l.length : Int) ≤ 1000000000 → l.foldl (fun n x => wrap64 (n + stepsC x)) a = a + sumI l
  | [], a, _, _, _ => by simp [sumI]
  | c :: l, a, h, h0, h1 => by
    have hc := h c (by simp)
    unfold fewS at hc
    rw [List.length_cons] at h1
    have hw : wrap64 (a + stepsC c) = a + stepsC c := by unfold wrap64; omega
    rw [List.foldl_cons, hw, sumC_from l _ (fun x hx => h x (by simp [hx])) (by omega) (by omega), sumI_cons]
    omega
theorem sumC_eq (l : List I14) (h : ∀ c ∈ l, fewS c) (hl : l.length ≤ 1000000) : sumC l = sumI l := by
  unfold sumC
  rw [sumC_from l 0 h (Int.le_refl _) (by omega), Int.zero_add]
theorem few_one {c : I14} (h : c.1 = 5 ∨ c.1 = 6 ∨ c.1 = 7) : stepsC c = 1 := by
  unfold stepsC
  rw [if_neg (by omega)]
theorem few_sem {c : I14} (h : c.1 = 5 ∨ c.1 = 6 ∨ c.1 = 7) : fewS c := by unfold fewS; rw [few_one h]; omega
theorem few_rows {c : I14} (h : 1 ≤ c.1 ∧ c.1 ≤ 4) (h2 : 0 ≤ c.2.2.2.2.1 ∧ c.2.2.2.2.1 ≤ 16) : fewS c := by
  unfold fewS stepsC
  rw [if_pos h]
  exact h2
section
variable {vals : List I4} {places : List Int} {n : Node} {inn : List I4} {z : I4} {tiles : List I2} {b : I7}
theorem ld_few (h : TileOK vals places n inn z tiles) {t : Nat} (ht : t < tiles.length) {a : I4} (ha : a ∈ inn) (at_ pad : Int) : fewS (ldC n a at_ (gt tiles (t : Int) dI2) pad) := by
  obtain ⟨h1, h2, h3⟩ := h.at_ ht
  have hok := value_ok h.hl h.hB h.val
  have hm := mayB_iff.1 (hok.all a ha)
  simp only [vS] at hm
  have hn := nd_in hok h1 h2 h3 ha
  refine few_rows ⟨by show (1 : Int) ≤ 1; omega, by show (1 : Int) ≤ 4; omega⟩ ?_
  show 0 ≤ IntKind.wrap .i64 _ ∧ IntKind.wrap .i64 _ ≤ 16
  rw [i64_in _ (by omega)]
  omega
theorem load_few (h : TileOK vals places n inn z tiles) (t : Nat) : ∀ c ∈ loadC n inn places tiles b (t : Int), fewS c := by
  intro c hc
  unfold loadC at hc
  split at hc
  · simp at hc
  · rename_i ht
    have ht' : t < tiles.length := by omega
    unfold ldsC at hc
    split at hc
    · simp only [List.mem_cons, List.not_mem_nil, or_false] at hc
      rcases hc with rfl | rfl
      · exact ld_few h ht' (by simp) _ _
      · exact few_sem (.inr (.inl rfl))
    · simp only [List.mem_cons, List.not_mem_nil, or_false] at hc
      rcases hc with rfl | rfl | rfl
      · exact ld_few h ht' (by simp) _ _
      · exact ld_few h ht' (by simp) _ _
      · exact few_sem (.inr (.inl rfl))
    · simp at hc
theorem dma_few (h : TileOK vals places n inn z tiles) (hz : z.1 ≤ 16) (to : Int) : ∀ t : Nat, t ≤ tiles.length → ∀ c ∈ dmaS n inn places tiles b to z t, fewS c
  | 0, _, c, hc => by
    simp only [dmaS, List.mem_append] at hc
    rcases hc with hc | hc
    · exact load_few h 0 c hc
    · exact load_few h 1 c hc
  | t + 1, ht, c, hc => by
    simp only [dmaS, List.mem_append, List.mem_cons, List.not_mem_nil, or_false] at hc
    rcases hc with (hc | rfl | rfl | rfl) | hc
    · exact dma_few h hz to t (by omega) c hc
    · exact few_sem (.inl rfl)
    · obtain ⟨h1, h2, h3⟩ := h.at_ (show t < tiles.length by omega)
      exact few_rows ⟨by show (1 : Int) ≤ 2; omega, by show (2 : Int) ≤ 4; omega⟩ ⟨by show 0 ≤ (gt tiles (t : Int) dI2).2; omega, by show (gt tiles (t : Int) dI2).2 ≤ 16; omega⟩
    · exact few_sem (.inr (.inl rfl))
    · exact load_few h (t + 2) c hc
theorem eng_few (h : TileOK vals places n inn z tiles) (hz : z.1 ≤ 16) (i : Int) : ∀ t : Nat, t ≤ tiles.length → ∀ c ∈ engS n inn tiles b i t, fewS c
  | 0, _, c, hc => by simp [engS] at hc
  | t + 1, ht, c, hc => by
    have ih := eng_few h hz i t (by omega)
    have hk := tlC_is n i inn (gt tiles (t : Int) dI2) (par (t : Int) b.2.2.2.2.1 b.2.2.2.2.2.1) (par (t : Int) b.1 b.2.1) (par (t : Int) b.2.2.1 b.2.2.2.1)
    obtain ⟨h1, h2, h3⟩ := h.at_ (show t < tiles.length by omega)
    have htl : fewS (tlT n inn tiles b i t) := few_rows ⟨by unfold tlT; rw [hk.1]; omega, by unfold tlT; rw [hk.1]; omega⟩ ⟨by unfold tlT; rw [hk.2.2.2]; omega, by unfold tlT; rw [hk.2.2.2]; omega⟩
    simp only [engS] at hc
    rcases List.mem_append.1 hc with hc | hc
    · split at hc
      · simp only [List.mem_append, List.mem_cons, List.not_mem_nil, or_false] at hc
        rcases hc with (hc | rfl) | rfl
        · exact ih c hc
        · exact few_sem (.inl rfl)
        · exact few_sem (.inl rfl)
      · simp only [List.mem_append, List.mem_cons, List.not_mem_nil, or_false] at hc
        rcases hc with hc | rfl
        · exact ih c hc
        · exact few_sem (.inl rfl)
    · simp only [List.mem_cons, List.not_mem_nil, or_false] at hc
      rcases hc with rfl | rfl
      · exact htl
      · exact few_sem (.inr (.inl rfl))
end
section
variable {g : Graph} {vals : List I4} {places : List Int}
theorem node_few (hg : okGraph g) (hv : valuesV g = some vals) (hp : places.length = vals.length) {i : Nat} (hi : i < g.2.1.length) :
    (∀ c ∈ (nodeG g vals places i).1, fewS c) ∧ (∀ c ∈ (nodeG g vals places i).2.1, fewS c) ∧ (∀ c ∈ (nodeG g vals places i).2.2, fewS c) ∧ 1 ≤ sumI (nodeG g vals places i).1 + sumI (nodeG g vals places i).2.1 + sumI (nodeG g vals places i).2.2 := by
  have hA := node_at (places := places) hg hv hp hi
  obtain ⟨_, b2⟩ := best_V hA.hl hA.ok.2.2 hA.val
  obtain ⟨_, hb, _⟩ := values_in hv
  have hmz := mayB_iff.1 (value_ok hA.hl hA.ok.2.2 hA.val).may
  simp only [vS] at hmz
  unfold nodeG nodeC
  rcases b2 with h0 | hT
  · rw [if_pos h0]
    have f1 : ∀ c ∈ (hostC (i : Int) (gt vals ((g.1.length + i : Nat) : Int) dI4)).1, fewS c := fun c hc => by
      simp only [hostC, List.mem_cons, List.not_mem_nil, or_false] at hc
      rcases hc with rfl | rfl
      · exact few_sem (.inr (.inl rfl))
      · exact few_sem (.inl rfl)
    have f3 : ∀ c ∈ (hostC (i : Int) (gt vals ((g.1.length + i : Nat) : Int) dI4)).2.2, fewS c := fun c hc => by
      simp only [hostC, List.mem_cons, List.not_mem_nil, or_false] at hc
      rcases hc with rfl | rfl | rfl
      · exact few_sem (.inl rfl)
      · exact few_rows ⟨by show (1 : Int) ≤ 4; omega, by show (4 : Int) ≤ 4; omega⟩ ⟨by show 0 ≤ (gt vals ((g.1.length + i : Nat) : Int) dI4).1; omega, by show (gt vals ((g.1.length + i : Nat) : Int) dI4).1 ≤ 16; omega⟩
      · exact few_sem (.inr (.inl rfl))
    have f2 : ∀ c ∈ (hostC (i : Int) (gt vals ((g.1.length + i : Nat) : Int) dI4)).2.1, fewS c := fun c hc => by simp [hostC] at hc
    refine ⟨f1, f2, f3, ?_⟩
    have := sumI_mem _ (wt 4) f1 (by simp [hostC])
    rw [few_one (.inl rfl)] at this
    have := sumI_in _ f2
    have := sumI_in _ f3
    omega
  · rw [if_neg (by have := hT.best; omega)]
    have hTO := hT.ok hA.hl hA.ok.2.2 hA.val vals places hA.len fun k hk => by have := hA.lies k hk; omega
    have f1 := dma_few (b := (bufs (mostV (gt g.2.1 (i : Int) dNode) (innV g vals i)) 0).1) hTO (by omega) ((g.1.length + i : Nat) : Int) _ (Nat.le_refl _)
    have f2 : ∀ c ∈ engS (gt g.2.1 (i : Int) dNode) (innV g vals i) (tilesV (gt vals ((g.1.length + i : Nat) : Int) dI4) (gt g.2.1 (i : Int) dNode) (innV g vals i)) (bufs (mostV (gt g.2.1 (i : Int) dNode) (innV g vals i)) 0).1 (i : Int) (tilesV (gt vals ((g.1.length + i : Nat) : Int) dI4) (gt g.2.1 (i : Int) dNode) (innV g vals i)).length ++ List.replicate (min (tilesV (gt vals ((g.1.length + i : Nat) : Int) dI4) (gt g.2.1 (i : Int) dNode) (innV g vals i)).length 2) (wt 2), fewS c := fun c hc => by
      rcases List.mem_append.1 hc with hc | hc
      · exact eng_few hTO (by omega) _ _ (Nat.le_refl _) c hc
      · obtain ⟨_, rfl⟩ := List.mem_replicate.1 hc
        exact few_sem (.inl rfl)
    have hlen : 0 < (tilesV (gt vals ((g.1.length + i : Nat) : Int) dI4) (gt g.2.1 (i : Int) dNode) (innV g vals i)).length := List.length_pos_of_mem hT.most.first
    refine ⟨f1, f2, fun c hc => by simp [streamsC] at hc, ?_⟩
    have := sumI_mem _ (wt 2) f2 (List.mem_append.2 (.inr (List.mem_replicate.2 ⟨by omega, rfl⟩)))
    rw [few_one (.inl rfl)] at this
    have := sumI_in _ f1
    have h3 : sumI ([] : List I14) = 0 := rfl
    simp only [streamsC, h3]
    omega
theorem str_few (hg : okGraph g) (hv : valuesV g = some vals) (hp : places.length = vals.length) : ∀ k : Nat, k ≤ g.2.1.length →
    (∀ c ∈ (strS g vals places k).1, fewS c) ∧ (∀ c ∈ (strS g vals places k).2.1, fewS c) ∧ (∀ c ∈ (strS g vals places k).2.2, fewS c)
  | 0, _ => by simp [strS]
  | k + 1, hk => by
    obtain ⟨h1, h2, h3⟩ := str_few hg hv hp k (by omega)
    obtain ⟨n1, n2, n3, _⟩ := node_few (places := places) hg hv hp (i := k) (by omega)
    refine ⟨fun c hc => ?_, fun c hc => ?_, fun c hc => ?_⟩
    · exact (List.mem_append.1 hc).elim (h1 c) (n1 c)
    · exact (List.mem_append.1 hc).elim (h2 c) (n2 c)
    · exact (List.mem_append.1 hc).elim (h3 c) (n3 c)
def sumS3 (s : A7) : Int := sumI s.1 + sumI s.2.1 + sumI s.2.2
theorem Built.budget (hB : Built g vals) (hg : okGraph g) : bldBudget (imgV g vals) = some (sumS3 (strS g vals (plcV g) g.2.1.length) + 3) := by
  obtain ⟨h1, h2, h3⟩ := str_few hg hB.vv hB.plen g.2.1.length (Nat.le_refl _)
  have hl := strS_len hg hB.vv hB.plen g.2.1.length (Nat.le_refl _)
  have hb := (values_in hB.vv).2.1
  have hh : fewS hlt := few_sem (.inr (.inr rfl))
  have hs : stepsC hlt = 1 := few_one (.inr (.inr rfl))
  unfold bldBudget
  rw [hB.lenOk hg, cond_true, sumC_eq]
  · simp only [imgV, sumI_append, sumI_cons, hs, sumS3]
    have h0 : sumI ([] : List I14) = 0 := rfl
    rw [h0]
    congr 1
    omega
  · intro c hc
    simp only [imgV, List.mem_append, List.mem_cons, List.not_mem_nil, or_false] at hc
    rcases hc with ((hc | rfl) | (hc | rfl)) | (hc | rfl)
    · exact h1 c hc
    · exact hh
    · exact h2 c hc
    · exact hh
    · exact h3 c hc
    · exact hh
  · simp only [imgV, List.length_append, List.length_cons, List.length_nil]
    omega
theorem short_sum {u : List I4} {a : I4} (hv : valuesV g = some (u ++ [a])) (p q : List Int) : ∀ k : Nat, k ≤ g.2.1.length - 1 → sumS3 (strS (shortG g) u p k) = sumS3 (strS g (u ++ [a]) q k)
  | 0, _ => rfl
  | k + 1, hk => by
    have ih := short_sum hv p q k (by omega)
    obtain ⟨e1, e2⟩ := short_inn hv (i := k) (by omega)
    have e3 := short_at (g := g) (i := k) (by omega)
    have hn : nodeG (shortG g) u p k = nodeC (gt g.2.1 (k : Int) dNode) (innV g (u ++ [a]) k) p (k : Int) ((g.1.length + k : Nat) : Int) (gt (u ++ [a]) ((g.1.length + k : Nat) : Int) dI4) := by
      unfold nodeG
      rw [e1, e3]
      show nodeC _ _ _ _ ((g.1.length + k : Nat) : Int) (gt u ((g.1.length + k : Nat) : Int) dI4) = _
      rw [e2]
    obtain ⟨s1, s2, s3⟩ := nodeC_steps (n := gt g.2.1 (k : Int) dNode) (inn := innV g (u ++ [a]) k) (z := gt (u ++ [a]) ((g.1.length + k : Nat) : Int) dI4) p q (k : Int) ((g.1.length + k : Nat) : Int) ((g.1.length + k : Nat) : Int)
    rw [← hn] at s1 s2 s3
    simp only [sumS3, strS, sumI_append] at ih ⊢
    have t1 : sumI (nodeG (shortG g) u p k).1 = sumI (nodeG g (u ++ [a]) q k).1 := by unfold sumI; rw [s1]; rfl
    have t2 : sumI (nodeG (shortG g) u p k).2.1 = sumI (nodeG g (u ++ [a]) q k).2.1 := by unfold sumI; rw [s2]; rfl
    have t3 : sumI (nodeG (shortG g) u p k).2.2 = sumI (nodeG g (u ++ [a]) q k).2.2 := by unfold sumI; rw [s3]; rfl
    omega
theorem short_str {u : List I4} {a : I4} (hg : okGraph g) (hv : valuesV g = some (u ++ [a])) {p q : List Int} (hp : p.length = u.length) (hq : q.length = u.length + 1) (hpq : p = q.take u.length) : ∀ k : Nat, k ≤ g.2.1.length - 1 → strS (shortG g) u p k = strS g (u ++ [a]) q k
  | 0, _ => rfl
  | k + 1, hk => by
    have ih := short_str hg hv hp hq hpq k (by omega)
    obtain ⟨e1, e2⟩ := short_inn hv (i := k) (by omega)
    have e3 := short_at (g := g) (i := k) (by omega)
    obtain ⟨hl, hb, hin, _⟩ := values_in hv
    rw [List.length_append, List.length_cons, List.length_nil] at hl
    have hA := node_at (places := q) hg hv (by rw [hq, List.length_append]; rfl) (i := k) (by omega)
    have hpl : ∀ x : Int, 0 ≤ x → x < (u.length : Int) → gt p x 0 = gt q x 0 := fun x h0 h1 => by
      have hs : q = p ++ q.drop u.length := by rw [hpq, List.take_append_drop]
      rw [hs]
      exact (gt_pre p _ h0 (by omega) 0).symm
    have hn : nodeG (shortG g) u p k = nodeG g (u ++ [a]) q k := by
      unfold nodeG
      rw [e1, e3]
      show nodeC _ _ _ _ ((g.1.length + k : Nat) : Int) (gt u ((g.1.length + k : Nat) : Int) dI4) = _
      rw [e2]
      refine nodeC_places _ _ (fun j hj => ?_) (hpl _ (by omega) (by omega))
      have := hA.lies j hj
      exact hpl _ this.1 (by omega)
    simp only [strS, ih, hn]
end
end Go.V.P
