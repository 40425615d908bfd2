/- Plain laws of layer 3: what the nodes of a graph make may be; GraphMakes. -/
import Derived.Test.YtcmckbcpeocokaaLMakes2
namespace Go.V.P
open Go Go.V Go.IntWalk
set_option linter.unusedVariables false
set_option linter.unusedSimpArgs false
set_option maxRecDepth 20000
theorem run_made : ∀ (ns : List Node) (vals : List I4) (w : Int) (v : List I4) (x : Int), (∀ n ∈ ns, okNode n) → run vals w ns = .inl (v, x) →
    ∃ made, v = vals ++ made ∧ made.length = ns.length ∧ ∀ (j : Nat) (u : I4) (n : Node), made[j]? = some u → ns[j]? = some n → mayB (vS u) = true ∧ u.2.2.2 = nZ n
  | [], vals, w, v, x, _, h => by
    cases h
    exact ⟨[], by simp, rfl, fun j u n hu => by simp at hu⟩
  | n :: ns, vals, w, v, x, hok, h => by
    simp only [run] at h
    split at h
    · split at h
      · rename_i ha he
        have hn := hok n (by simp)
        have hz := (gV_eq n (n.2.1.map fun x => gt vals x dI4) (by simpa using hn.1) hn.2.2).2 he
        obtain ⟨made, h1, h2, h3⟩ := run_made ns _ _ v x (fun m hm => hok m (by simp [hm])) h
        refine ⟨(gV n (n.2.1.map fun x => gt vals x dI4)).1 :: made, by rw [h1, List.append_assoc]; rfl, by simp [h2], fun j u m hu hm => ?_⟩
        cases j with
        | zero =>
          simp only [List.getElem?_cons_zero, Option.some.injEq] at hu hm
          subst hu hm
          exact hz
        | succ j =>
          simp only [List.getElem?_cons_succ] at hu hm
          exact h3 j u m hu hm
      · cases h
    · cases h
theorem run_drop : ∀ (ns : List Node) (n : Node) (vals : List I4) (w : Int) (v : List I4) (x : Int), run vals w (ns ++ [n]) = .inl (v, x) → ∃ u y, run vals w ns = .inl (u, y) ∧ y ≤ x ∧ u.length = vals.length + ns.length
  | [], n, vals, w, v, x, h => by
    have := run_len _ _ _ _ _ h
    exact ⟨vals, w, rfl, this.2, by simp⟩
  | m :: ns, n, vals, w, v, x, h => by
    simp only [List.cons_append, run] at h ⊢
    split at h
    · split at h
      · rename_i ha he
        obtain ⟨u, y, h1, h2, h3⟩ := run_drop ns n _ _ v x h
        rw [if_pos ha, if_pos he]
        refine ⟨u, y, h1, h2, ?_⟩
        simp only [List.length_append, List.length_cons, List.length_nil] at h3 ⊢
        omega
      · cases h
    · cases h
theorem cut_to {α : Type} (l : List α) (n : Nat) : ∃ m : List α, (bif decide ((l.length : Int) > (n : Int)) then (bif decide ((n : Int) ≤ (l.length : Int)) then some ((l.take (Int.toNat (n : Int))).drop (Int.toNat (0 : Int))) else none) else some l) = some m ∧ m.length ≤ n := by
  by_cases h : l.length > n
  · rw [decide_eq_true (by omega), decide_eq_true (by omega)]
    refine ⟨_, rfl, ?_⟩
    simp only [List.length_drop, List.length_take]
    omega
  · rw [decide_eq_false (by omega)]
    exact ⟨_, rfl, by omega⟩
theorem less_ok (g : Graph) : ∃ m, law03_less g = some m ∧ okGraph m := by
  obtain ⟨a, e1, h1⟩ := cut_to g.1 6
  obtain ⟨c, e3, h3⟩ := cut_to g.2.2 6
  have f1 : law03_less_j1_p g = some a := by
    rw [← e1]
    simp only [law03_less_j1_p, law03_less_j1_q, law03_less_r2_p, law03_less_r2_q]
    show (bif decide ((g.1.length : Int) > (6 : Nat)) then _ else _) = _
    cases decide ((g.1.length : Int) > (6 : Nat)) with
    | false => rfl
    | true => show Option.bind (bif decide (((6 : Nat) : Int) ≤ (g.1.length : Int)) then some () else none) _ = _; cases decide (((6 : Nat) : Int) ≤ (g.1.length : Int)) <;> rfl
  have f3 : law03_less_j3_p g = some c := by
    rw [← e3]
    simp only [law03_less_j3_p, law03_less_j3_q, law03_less_r4_p, law03_less_r4_q]
    show (bif decide ((g.2.2.length : Int) > (6 : Nat)) then _ else _) = _
    cases decide ((g.2.2.length : Int) > (6 : Nat)) with
    | false => rfl
    | true => show Option.bind (bif decide (((6 : Nat) : Int) ≤ (g.2.2.length : Int)) then some () else none) _ = _; cases decide (((6 : Nat) : Int) ≤ (g.2.2.length : Int)) <;> rfl
  obtain ⟨z, hz, h2⟩ := iterN_inv (p := law03_less_l7_p g) (fun s => ∃ i : Nat, s.2 = (i : Int) ∧ i ≤ 14 ∧ s.1.length = i ∧ ∀ n ∈ s.1, okNode n) (fun s => 14 - s.2.toNat)
    (Q := fun z => z.1.length ≤ 14 ∧ ∀ n ∈ z.1, okNode n) (fun s hs => by
    obtain ⟨l, t⟩ := s
    obtain ⟨i, rfl, hi, hl, hn⟩ := hs
    simp only [law03_less_l7_p, law03_less_l7_q, law03_less_r7_p, law03_less_r7_q, law03_less_r9_p, law03_less_r9_q]
    simp only at hl hn
    by_cases ha : i < g.2.1.length ∧ i < 14
    · obtain ⟨m, em, hm⟩ := few_ok (gt g.2.1 (i : Int) dNode)
      have t1 : decide ((i : Int) < (g.2.1.length : Int)) = true := decide_eq_true (by omega)
      have t2 : decide ((i : Int) < 14) = true := decide_eq_true (by omega)
      have t3 : decide ((0 : Int) ≤ (i : Int)) = true := decide_eq_true (by omega)
      have t4 : decide (l.length + ([m] : List Node).length ≤ maxL) = true := decide_eq_true (by simp only [List.length_singleton, maxL]; omega)
      have t5 := i64_in ((i : Int) + 1) (by omega)
      simp only [t1, t2, t3, em, t5, cond_true, Option.bind_some, t4]
      refine .inl ⟨_, rfl, ⟨i + 1, by omega, by omega, by simp [hl], fun n hn2 => ?_⟩, by simp only; omega⟩
      rcases List.mem_append.1 hn2 with h | h
      · exact hn n h
      · rw [List.mem_singleton.1 h]; exact hm
    · refine .inr ⟨(l, (i : Int)), ?_, by simp only; omega, hn⟩
      by_cases h1 : i < g.2.1.length
      · rw [decide_eq_true (by omega), decide_eq_false (by omega)]; rfl
      · rw [decide_eq_false (by omega)]; rfl) LL ([], 0) ⟨0, rfl, by omega, rfl, fun n hn => absurd hn (by simp)⟩ (LL_lt (by simp only [Int.toNat_zero]; omega))
  unfold law03_less law03_less_q
  rw [f1, f3, hz]
  exact ⟨_, rfl, h1, h2, h3⟩
/-- whether something that comes out is not there -/
theorem out_loop (m : Graph) (s : List Node) (hm : m.1.length ≤ 6) (hs : s.length ≤ 14) (ho : m.2.2.length ≤ 6) : iterN (law03_GraphMakes_l18_p m s) LL (false, 0) = some (m.2.2.any (fun o => decide (o ≥ (m.1.length : Int) + (s.length : Int))), (m.2.2.length : Int)) := by
  have w1 := i64_in ((m.1.length : Int) + (s.length : Int)) (by omega)
  obtain ⟨z, h1, h2⟩ := iterN_inv (p := law03_GraphMakes_l18_p m s) (fun t => ∃ i : Nat, t.2 = (i : Int) ∧ i ≤ m.2.2.length ∧ t.1 = (m.2.2.take i).any (fun o => decide (o ≥ (m.1.length : Int) + (s.length : Int)))) (fun t => m.2.2.length - t.2.toNat)
    (Q := fun z => z = (m.2.2.any (fun o => decide (o ≥ (m.1.length : Int) + (s.length : Int))), (m.2.2.length : Int))) (fun t ht => by
    obtain ⟨b, t⟩ := t
    obtain ⟨i, hi, hil, hb⟩ := ht
    simp only at hi hb
    subst hi
    by_cases h : i < m.2.2.length
    · have hg := gt_at (0 : Int) h
      have t1 : decide ((i : Int) < (m.2.2.length : Int)) = true := decide_eq_true (by omega)
      have t2 : decide ((0 : Int) ≤ (i : Int)) = true := decide_eq_true (by omega)
      have t3 := i64_in ((i : Int) + 1) (by omega)
      refine .inl ⟨((b || decide (m.2.2[i] ≥ (m.1.length : Int) + (s.length : Int))), (i : Int) + 1), ?_, ⟨i + 1, by simp only; omega, by omega, ?_⟩, by simp only; omega⟩
      · simp only [law03_GraphMakes_l18_p, law03_GraphMakes_l18_q, law03_GraphMakes_r20_p, law03_GraphMakes_r20_q, t1, t2, t3, hg, w1, cond_true]
        cases b <;> rfl
      · rw [List.take_succ_eq_append_getElem h, List.any_append, ← hb]
        simp
    · have : i = m.2.2.length := by omega
      subst this
      rw [List.take_length] at hb
      refine .inr ⟨_, ?_, rfl⟩
      simp only [law03_GraphMakes_l18_p, law03_GraphMakes_l18_q]
      rw [decide_eq_false (Int.lt_irrefl _), hb]
      rfl) LL (false, 0) ⟨0, rfl, by omega, rfl⟩ (LL_lt (by simp only [Int.toNat_zero]; omega))
  rw [h1, h2]
end Go.V.P
