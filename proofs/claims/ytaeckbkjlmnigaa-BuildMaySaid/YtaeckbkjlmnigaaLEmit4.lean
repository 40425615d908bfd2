/- Plain laws of layer 18: a node of a graph that may be is done in tiles, or not. -/
import Derived.Test.YtaeckbkjlmnigaaLEmit3
import Derived.Test.YtaeckbkjlmnigaaLErrE
import Derived.Test.YtaeckbkjlmnigaaLRunIn
namespace Go.V.P
open Go Go.V Go.IntWalk
set_option linter.unusedVariables false
set_option linter.unusedSimpArgs false
set_option maxRecDepth 20000
theorem gt_pre {α : Type} (l m : List α) {x : Int} (h0 : 0 ≤ x) (h1 : x < (l.length : Int)) (d : α) : gt (l ++ m) x d = gt l x d := by
  unfold gt
  rw [List.getD_eq_getElem?_getD, List.getD_eq_getElem?_getD, List.getElem?_append_left (by omega)]
theorem run_val : ∀ (ns : List Node) (vals : List I4) (w : Int) (v : List I4) (x : Int), (∀ n ∈ ns, okNode n) → run vals w ns = .inl (v, x) →
    (∃ made, v = vals ++ made) ∧ ∀ j : Nat, j < ns.length → graph_Value (gt ns (j : Int) dNode) ((gt ns (j : Int) dNode).2.1.map fun x => gt v x dI4) = some (gt v ((vals.length + j : Nat) : Int) dI4, 0)
  | [], vals, w, v, x, _, h => by
    cases h
    exact ⟨⟨[], by simp⟩, fun j hj => absurd hj (Nat.not_lt_zero _)⟩
  | n :: ns, vals, w, v, x, hok, h => by
    simp only [run] at h
    split at h
    · rename_i ha
      split at h
      · rename_i he
        have hn := hok n (by simp)
        have hz := (gV_eq n (n.2.1.map fun x => gt vals x dI4) (by simpa using hn.1) hn.2.2).1
        obtain ⟨⟨made, h1⟩, h2⟩ := run_val ns _ _ v x (fun m hm => hok m (by simp [hm])) h
        refine ⟨⟨_ :: made, by rw [h1, List.append_assoc]; rfl⟩, fun j hj => ?_⟩
        cases j with
        | zero =>
          have hm : ((gt (n :: ns) ((0 : Nat) : Int) dNode).2.1.map fun x => gt v x dI4) = n.2.1.map fun x => gt vals x dI4 := by
            show (n.2.1.map fun x => gt v x dI4) = _
            refine List.map_congr_left fun a hm => ?_
            have := inR_iff.1 (List.all_eq_true.1 ha a hm)
            rw [h1, List.append_assoc, gt_pre _ _ this.1 this.2]
          rw [hm]
          show graph_Value n _ = _
          rw [hz]
          have hg : gt v ((vals.length + 0 : Nat) : Int) dI4 = (gV n (n.2.1.map fun x => gt vals x dI4)).1 := by
            rw [h1]
            unfold gt
            rw [List.append_assoc, List.getD_eq_getElem?_getD, show (((vals.length + 0 : Nat) : Int).toNat) = vals.length by omega, List.getElem?_append_right (Nat.le_refl _), Nat.sub_self]
            rfl
          rw [hg]
          exact congrArg some (Prod.ext rfl he)
        | succ j =>
          have := h2 j (by simpa using hj)
          rw [gt_cons]
          rw [List.length_append, List.length_cons, List.length_nil, show vals.length + (0 + 1) + j = vals.length + (j + 1) by omega] at this
          exact this
      · cases h
    · cases h
def innV (g : Graph) (vals : List I4) (i : Nat) : List I4 := (gt g.2.1 (i : Int) dNode).2.1.map fun x => gt vals x dI4
theorem node_val {g : Graph} (hg : okGraph g) {vals : List I4} (hv : valuesV g = some vals) {i : Nat} (hi : i < g.2.1.length) :
    okNode (gt g.2.1 (i : Int) dNode) ∧ ref03_Value (gt g.2.1 (i : Int) dNode) (innV g vals i) = some (gt vals ((g.1.length + i : Nat) : Int) dI4, 0) := by
  have hok : okNode (gt g.2.1 (i : Int) dNode) := hg.2.1.2 _ (gt_memR hi dNode)
  refine ⟨hok, ?_⟩
  have hv' := hv
  unfold valuesV at hv'
  split at hv'
  · split at hv'
    · rename_i z hz
      split at hv'
      · cases hv'
        have h := (run_val g.2.1 g.1 0 z.1 z.2 hg.2.1.2 hz).2 i hi
        obtain ⟨y, y1, y2⟩ := Value_eq (gt g.2.1 (i : Int) dNode) (innV g z.1 i) (by unfold innV; simpa using hok.1) hok.2.2
        have e : y = _ := Option.some.inj (y1.symm.trans h)
        rw [y2, e]
      · cases hv'
    · cases hv'
  · cases hv'
section
variable {g : Graph} {vals : List I4} {places : List Int}
theorem of_p (hg : okGraph g) (hv : valuesV g = some vals) (hp : places.length = vals.length) {i : Nat} (hi : i < g.2.1.length) :
    emit_of g places (i : Int) = some (wk g vals places (i : Int) (gt g.2.1 (i : Int) dNode) (innV g vals i), 0) := by
  obtain ⟨hl, hb, hin, _⟩ := values_in hv
  have hok : okNode (gt g.2.1 (i : Int) dNode) := hg.2.1.2 _ (gt_memR hi dNode)
  have hE : valuesE g = (vals, 0) := by
    rcases valuesE_is g with ⟨v, h1, h2⟩ | ⟨h1, _⟩
    · rw [hv] at h1; cases h1; exact h2
    · rw [hv] at h1; cases h1
  have hV := ValuesE g hg
  rw [hE] at hV
  have hr4 : emit_of_r4_p g places (i : Int) (vals, 0) = false := by
    simp only [emit_of_r4_p, emit_of_r4_q]
    rw [decide_eq_false (by omega), decide_eq_false (by omega), hp]
    simp
  have hr6 : emit_of_r6_p g (i : Int) = some () := by
    simp only [emit_of_r6_p]
    rw [decide_eq_true (by omega), decide_eq_true (by omega)]
    rfl
  generalize hn : gt g.2.1 (i : Int) dNode = n at *
  have hloop := iterN_for (p := emit_of_l8_p g (i : Int) (vals, 0)) (z := ((n.2.1.length : Int), innV g vals i)) n.2.1.length (fun k => ((k : Int), (n.2.1.take k).map fun x => gt vals x dI4)) LL (LL_lt (by have := hok.1; omega)) (fun k hk => by
    have hm := gt_memR hk (0 : Int)
    have hx := hin i hi (gt n.2.1 (k : Int) 0) (by rw [hn]; exact hm)
    have hge : gt n.2.1 (k : Int) 0 = n.2.1[k] := gt_at (0 : Int) hk
    have d1 : (k : Int) < (n.2.1.length : Int) := by omega
    have d2 : (0 : Int) ≤ (k : Int) := by omega
    have d3 := hx.1
    have d4 : gt n.2.1 (k : Int) 0 < (vals.length : Int) := by omega
    have w1 : IntKind.wrap .i64 ((k : Int) + 1) = ((k + 1 : Nat) : Int) := by rw [i64_in _ (by have := hok.1; omega)]; omega
    have d5 : ∀ x : I4, ((n.2.1.take k).map fun x => gt vals x dI4).length + [x].length ≤ maxL := fun x => by
      have hm : maxL = 2147483648 := rfl
      have := hok.1
      simp only [List.length_map, List.length_take, List.length_cons, List.length_nil]
      omega
    simp only [emit_of_l8_p, emit_of_r9_p, emit_of_r10_p, hn, d1, d2, d3, d4, d5, w1, decide_true, cond_true, Option.bind_some]
    rw [hge, List.take_succ_eq_append_getElem hk, List.map_append]
    rfl) (by
    simp only [emit_of_l8_p, hn]
    rw [decide_eq_false (Int.lt_irrefl _), List.take_length]
    unfold innV
    rw [hn]
    rfl)
  unfold emit_of
  rw [hV]
  simp only [Option.bind_some, bne_self_eq_false, cond_false, hr4, hr6]
  rw [List.take_zero, List.map_nil, show ((0 : Nat) : Int) = 0 from rfl] at hloop
  rw [hloop]
  simp only [Option.bind_some, hn]
  rfl
end
end Go.V.P
