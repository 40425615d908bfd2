/- Plain laws of layer 6: one node more; EvalTwice. -/
import Derived.Test.YtdgdgoekapekpaaLEvA
import Derived.Test.YtdgdgoekapekpaaLEvD
import Derived.Test.YtdgdgoekapekpaaEv6
import Derived.Test.YtdgdgoekapekpaaEv10
namespace Go.V.P
open Go Go.V Go.IntWalk
set_option linter.unusedVariables false
set_option linter.unusedSimpArgs false
set_option maxRecDepth 20000
theorem shown06 : a1x = some true := by decide +kernel
theorem run_snoc : ∀ (ns : List Node) (n : Node) (p : List I4) (w : Int) (v : List I4) (x : Int), run p w (ns ++ [n]) = .inl (v, x) →
    ∃ q y, run p w ns = .inl (q, y) ∧ n.2.1.all (inR q.length) = true ∧ (gV n (pick q n)).2 = 0 ∧ v = q ++ [(gV n (pick q n)).1]
  | [], n, p, w, v, x, h => by
    simp only [List.nil_append, run] at h
    split at h
    · split at h
      · rename_i ha he
        cases h
        exact ⟨p, w, rfl, ha, he, rfl⟩
      · cases h
    · cases h
  | m :: ns, n, p, w, v, x, h => by
    simp only [List.cons_append, run] at h ⊢
    split at h
    · split at h
      · rename_i ha he
        rw [if_pos ha, if_pos he]
        exact run_snoc ns n _ _ v x h
      · cases h
    · cases h
theorem runD_snoc : ∀ (ns : List Node) (n : Node) (p : List I4) (a : List (List Int)) (w : Int) (q : List I4) (y : Int), run p w ns = .inl (q, y) →
    runD p a (ns ++ [n]) = runD p a ns ++ [kA n (pick q n) (dat (runD p a ns) n)]
  | [], n, p, a, w, q, y, h => by
    cases h
    rfl
  | m :: ns, n, p, a, w, q, y, h => by
    simp only [run] at h
    split at h
    · split at h
      · simp only [List.cons_append, runD]
        exact runD_snoc ns n _ _ _ q y h
      · cases h
    · cases h
theorem runD_pre : ∀ (ns : List Node) (p : List I4) (a : List (List Int)), ∃ c, runD p a ns = a ++ c ∧ c.length = ns.length
  | [], p, a => ⟨[], by simp [runD], rfl⟩
  | n :: ns, p, a => by
    obtain ⟨c, h1, h2⟩ := runD_pre ns (p ++ [(gV n (pick p n)).1]) (a ++ [kA n (pick p n) (dat a n)])
    exact ⟨kA n (pick p n) (dat a n) :: c, by simp only [runD, h1, List.append_assoc, List.cons_append, List.nil_append], by simp [h2]⟩
theorem in_of {n : Node} {k : Nat} (h : n.2.1.all (inR k) = true) {x : Int} (hx : x ∈ n.2.1) : 0 ≤ x ∧ x < (k : Int) := by
  have := List.all_eq_true.1 h x hx
  simpa [inR] using this
theorem pick_left {n : Node} {p q : List I4} (h : n.2.1.all (inR p.length) = true) : pick (p ++ q) n = pick p n := by
  unfold pick
  apply List.map_congr_left
  intro x hx
  have := in_of h hx
  exact gt_left dI4 this.1 this.2
theorem dat_left {n : Node} {p q : List (List Int)} (h : n.2.1.all (inR p.length) = true) : dat (p ++ q) n = dat p n := by
  have H := fun (x : Int) (hx : x ∈ n.2.1) => gt_left ([] : List Int) (m := q) (in_of h hx).1 (in_of h hx).2
  unfold dat
  split
  · rename_i x hx
    rw [H x (by rw [hx]; simp)]
  · rename_i x y hx
    rw [H x (by rw [hx]; simp), H y (by rw [hx]; simp)]
  · rfl
theorem snoc_of {α : Type} (l : List α) (h : l.length ≠ 0) : ∃ ns n, l = ns ++ [n] := by
  rcases List.eq_nil_or_concat l with h0 | ⟨ns, n, e⟩
  · exact absurd (by rw [h0]; rfl) h
  · exact ⟨ns, n, by simpa using e⟩
theorem EvalTwice_true (g : Graph) (l : List Int) (kg : Ts.ok a01 g) (kl : Ts.ok (.one (.sl (.one (.int .i8)))) l) : a7b g l = some true := by
  obtain ⟨m, em, hm, hB⟩ := less06 g kg
  have hb := (i8s_ok kl).1
  unfold a7b
  rw [shown06, em]
  simp only [Option.bind_some]
  rcases Values03 m hm with ⟨v, v1, v2⟩ | ⟨v1, e, he, v2⟩
  · rw [v2]
    simp only [Option.bind_some]
    cases h4 : a1q m (v, 0) with
    | true => rfl
    | false =>
      obtain ⟨I, N, O⟩ := m
      have h14 := hm.2.1.1
      have h6 := hm.1
      simp only at h14 h6
      have hne : N.length ≠ 0 ∧ N.length < 12 := by
        simp only [a1q, a7c, bne_self_eq_false, cond_false, Bool.cond_true_left, Bool.or_eq_false_iff, beq_eq_false_iff_ne, decide_eq_false_iff_not] at h4
        omega
      obtain ⟨ns, n, rfl⟩ := snoc_of N hne.1
      have hl1 : (ns ++ [n]).length = ns.length + 1 := by simp
      have w1 : IntKind.wrap .i64 (((ns ++ [n]).length : Int) - 1) = (ns.length : Int) := by
        rw [i64_in _ (by omega)]; omega
      have hgt : gt (ns ++ [n]) (ns.length : Int) dNode = n := gt_last dNode
      have h7 : a7d (I, ns ++ [n], O) = some (n.2.1, n.2.2.2) := by
        simp only [a7d, w1, hgt]
        rw [decide_eq_true (by omega), decide_eq_true (by omega)]
        rfl
      rw [h7]
      simp only [Option.bind_some, cond_false]
      cases hw : decide (((n.2.1, n.2.2.2).2.2.2.2.2.2.2.2.2.2.1.length : Int) > 500) with
      | true => rfl
      | false =>
        have h10 : a6n (I, ns ++ [n], O) (n.2.1, n.2.2.2) = some (ns ++ [n] ++ [n]) := by
          simp only [a6n, w1, hgt]
          rw [decide_eq_true (by simp only [List.length_nil, maxL]; omega), decide_eq_true (by simp only [List.nil_append, List.length_singleton, maxL]; omega)]
          rfl
        have h12 : a0m (I, ns ++ [n], O) = [(I.length : Int) + ns.length + 1, (I.length : Int) + ns.length, (I.length : Int) + ns.length + 1] := by
          have a1 : IntKind.wrap .i64 ((I.length : Int) + ((ns ++ [n]).length : Int)) = (I.length : Int) + ns.length + 1 := by rw [i64_in _ (by omega)]; omega
          have a2 : IntKind.wrap .i64 ((I.length : Int) + ns.length + 1 - 1) = (I.length : Int) + ns.length := by rw [i64_in _ (by omega)]; omega
          simp only [a0m, a6o, a1, a2]
        rw [h10, h12]
        simp only [Option.bind_some, cond_false]
        have hn : ∀ k ∈ ns ++ [n] ++ [n], k ∈ ns ++ [n] := by
          intro k hk
          simp only [List.mem_append, List.mem_singleton] at hk ⊢
          rcases hk with (h | h) | h
          · exact .inl h
          · exact .inr h
          · exact .inr h
        have hm2 : okGraph (I, ns ++ [n] ++ [n], [(I.length : Int) + ns.length + 1, (I.length : Int) + ns.length, (I.length : Int) + ns.length + 1]) :=
          ⟨hm.1, ⟨by simp only [List.length_append, List.length_singleton]; omega, fun k hk => hm.2.1.2 k (hn k hk)⟩, by simp⟩
        have hB2 : ∀ k ∈ ns ++ [n] ++ [n], okB k := fun k hk => hB k (hn k hk)
        rcases Values03 _ hm2 with ⟨u, u1, u2⟩ | ⟨u1, e, he, u2⟩
        · rw [u2]
          simp only [Option.bind_some, bne_self_eq_false, cond_false]
          obtain ⟨hf, ⟨x, hrun, _⟩, _⟩ := Values_ok u1
          obtain ⟨d, d1, d2⟩ := Filled_run (I, ns ++ [n] ++ [n], [(I.length : Int) + ns.length + 1, (I.length : Int) + ns.length, (I.length : Int) + ns.length + 1]) l hb hm.1 (fit_in hf).2
          have ho := Outs_eval _ hm2 hB2 u u1 d d2
          have h16 : a6p l (I, ns ++ [n], O) (ns ++ [n] ++ [n]) = some (List.map (fun o => gt (runD I d (ns ++ [n] ++ [n])) o []) [(I.length : Int) + ns.length + 1, (I.length : Int) + ns.length, (I.length : Int) + ns.length + 1], 0) := by
            unfold a6p
            rw [h12, d1]
            simp only [Option.bind_some]
            rw [ho]
            rfl
          rw [h16]
          obtain ⟨q1, y1, r1, a1, z1, s1⟩ := run_snoc (ns ++ [n]) n I 0 u x hrun
          obtain ⟨q, y, r2, a2, z2, s2⟩ := run_snoc ns n I 0 q1 y1 r1
          have hq := (run_len _ _ _ _ _ r2).1
          obtain ⟨c, c1, c2⟩ := runD_pre ns I d
          have hdl := d2.len
          simp only at hdl
          have hbl : (runD I d ns).length = q.length := by rw [c1, hq, List.length_append, c2, hdl]
          have k1 := runD_snoc ns n I d 0 q y r2
          have k2 := runD_snoc (ns ++ [n]) n I d 0 q1 y1 r1
          rw [k1] at k2
          have e1 : pick q1 n = pick q n := by rw [s2]; exact pick_left a2
          have e2 := dat_left (n := n) (p := runD I d ns) (q := [kA n (pick q n) (dat (runD I d ns) n)]) (by rw [hbl]; exact a2)
          rw [e1, e2] at k2
          generalize hk : kA n (pick q n) (dat (runD I d ns) n) = k at *
          have hf2 : k.length < 1000000 := by
            have hn1 : okNode n := hm.2.1.2 n (by simp)
            have hR := (All_eval _ hm2 hB2 u u1 d d2).2
            refine hR.small k ?_
            show k ∈ runD I d (ns ++ [n] ++ [n])
            rw [k2]
            simp
          have g1 : gt (runD I d (ns ++ [n] ++ [n])) ((I.length : Int) + ns.length + 1) [] = k := by
            rw [k2]
            have := gt_last (l := runD I d ns ++ [k]) (y := k) ([] : List Int)
            rwa [show (((runD I d ns ++ [k]).length : Nat) : Int) = (I.length : Int) + ns.length + 1 by simp only [List.length_append, List.length_singleton, hbl, hq]; omega] at this
          have g2 : gt (runD I d (ns ++ [n] ++ [n])) ((I.length : Int) + ns.length) [] = k := by
            rw [k2, gt_left [] (by omega) (by simp only [List.length_append, List.length_singleton, hbl, hq]; omega)]
            have := gt_last (l := runD I d ns) (y := k) ([] : List Int)
            rwa [show (((runD I d ns).length : Nat) : Int) = (I.length : Int) + ns.length by simp only [hbl, hq]; omega] at this
          simp only [List.map_cons, List.map_nil, g1, g2, Option.bind_some]
          have hs := same_refl k hf2
          have h19 : a6r ([k, k, k], 0) = some true := by
            show Option.bind (a2f k k) _ = _
            rw [hs]
            rfl
          have h20 : a6s ([k, k, k], 0) = some true := by
            show Option.bind (a2f k k) _ = _
            rw [hs]
            rfl
          rw [h19, h20]
          rfl
        · rw [u2]
          simp only [Option.bind_some]
          rw [show (e != 0) = true by simpa using he]
          rfl
  · rw [v2]
    have : a1q m ([], e) = true := by
      simp only [a1q, a7c]
      rw [show (e != 0) = true by simpa using he]
      rfl
    simp only [Option.bind_some, this]
    rfl
end Go.V.P
