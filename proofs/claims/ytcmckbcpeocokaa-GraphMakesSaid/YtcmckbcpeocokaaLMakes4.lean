/- Plain laws of layer 3: GraphMakes. -/
import Derived.Test.YtcmckbcpeocokaaLMakes3
namespace Go.V.P
open Go Go.V Go.IntWalk
set_option linter.unusedVariables false
set_option linter.unusedSimpArgs false
set_option maxRecDepth 20000
theorem makes_loop (m : Graph) (v made : List I4) (hm : okGraph m) (hv : v = m.1 ++ made) (hl : made.length = m.2.1.length) (hi : m.1.any badIn = false)
    (h : ∀ (j : Nat) (u : I4) (n : Node), made[j]? = some u → m.2.1[j]? = some n → mayB (vS u) = true ∧ u.2.2.2 = nZ n) : iterN (law03_GraphMakes_l9_p m (v, 0)) LL 0 = some (.inl (v.length : Int)) := by
  have hvl : v.length = m.1.length + m.2.1.length := by rw [hv, List.length_append, hl]
  have hb1 := hm.1
  have hb2 := hm.2.1.1
  have := iterN_for (p := law03_GraphMakes_l9_p m (v, 0)) (z := (.inl (v.length : Int) : Int ⊕ Unit)) v.length (fun i => (i : Int)) LL (LL_lt (by omega)) (fun i hil => by
    have hg := gt_at dI4 hil
    have t1 : decide ((i : Int) < (v.length : Int)) = true := decide_eq_true (by omega)
    have t2 : decide ((0 : Int) ≤ (i : Int)) = true := decide_eq_true (by omega)
    have t3 := i64_in ((i : Int) + 1) (by omega)
    have t4 := i64_in ((i : Int) - (m.1.length : Int)) (by omega)
    have hr : law03_GraphMakes_r11_p m (v, 0) (i : Int) = some false := by
      simp only [law03_GraphMakes_r11_p, law03_GraphMakes_r11_q, t1, t2, hg, t4, ref02_May_eq, cond_true]
      by_cases hc : i < m.1.length
      · have hx : v[i] = m.1[i] := by simp only [hv]; exact List.getElem_append_left hc
        have hbad : badIn (m.1[i]) = false := by
          rw [List.any_eq_false] at hi
          simpa using hi _ (List.getElem_mem hc)
        have hmay : mayB (v[i].1, v[i].2.1, v[i].2.2.1) = true := by
          rw [hx]
          unfold badIn at hbad
          have := (Bool.or_eq_false_iff.1 hbad).1
          simpa [vS] using this
        rw [hmay, decide_eq_false (by omega : ¬ (i : Int) ≥ (m.1.length : Int))]
        rfl
      · have hj : i - m.1.length < m.2.1.length := by omega
        have hx : v[i] = made[i - m.1.length]'(by omega) := by simp only [hv]; exact List.getElem_append_right (by omega)
        have h2 := h (i - m.1.length) (made[i - m.1.length]'(by omega)) (m.2.1[i - m.1.length]) (List.getElem?_eq_getElem _) (List.getElem?_eq_getElem _)
        rw [← hx] at h2
        have hmay : mayB (v[i].1, v[i].2.1, v[i].2.2.1) = true := h2.1
        have hgn : gt m.2.1 ((i : Int) - (m.1.length : Int)) dNode = m.2.1[i - m.1.length] := by
          rw [show (i : Int) - (m.1.length : Int) = ((i - m.1.length : Nat) : Int) by omega]
          exact gt_at dNode hj
        rw [hmay, decide_eq_true (by omega : (i : Int) ≥ (m.1.length : Int)), decide_eq_true (by omega), decide_eq_true (by omega), hgn, h2.2]
        simp
    simp only [law03_GraphMakes_l9_p, law03_GraphMakes_l9_q, t1, t3, hr, cond_true, Option.bind_some]
    rfl) (by
    simp only [law03_GraphMakes_l9_p, law03_GraphMakes_l9_q]
    rw [decide_eq_false (Int.lt_irrefl _)]
    rfl)
  rw [show ((0 : Nat) : Int) = 0 from rfl] at this
  exact this
theorem any_all (l : List Int) (a b : Nat) (hab : a ≤ b) (h : l.all (inR b) = true) : l.all (inR a) = !(l.any fun o => decide (o ≥ (a : Int))) := by
  induction l with
  | nil => rfl
  | cons x t ih =>
    simp only [List.all_cons, List.any_cons, Bool.and_eq_true] at h ⊢
    rw [ih h.2]
    have h1 : 0 ≤ x ∧ x < (b : Int) := by simpa [inR] using h.1
    have e : inR a x = !(decide (x ≥ (a : Int))) := by
      rw [Bool.eq_iff_iff]
      simp only [inR, Bool.and_eq_true, decide_eq_true_iff, Bool.not_eq_true', decide_eq_false_iff_not]
      omega
    rw [e, Bool.not_or]
theorem GraphMakes_true (g : Graph) (_ : Ts.ok tsGraph g) : law03_GraphMakes g = some true := by
  obtain ⟨m, em, hm⟩ := less_ok g
  have hb1 := hm.1
  have hb2 := hm.2.1.1
  have hb3 := hm.2.2
  unfold law03_GraphMakes law03_GraphMakes_q
  rw [shown03, em]
  simp only [Option.bind_some]
  rcases Values_eq m hm with ⟨v, h1, h2⟩ | ⟨h1, e, h2, h3⟩
  · rw [h2]
    have hf : fitB m = true := by
      cases hf : fitB m with
      | true => rfl
      | false => rw [valuesV, hf] at h1; cases h1
    rw [valuesV, if_pos hf] at h1
    cases hr : run m.1 0 m.2.1 with
    | inr e => rw [hr] at h1; cases h1
    | inl z =>
      rw [hr] at h1
      simp only at h1
      by_cases hz : z.2 ≤ 4096 ∧ m.2.2.all (inR z.1.length) = true
      · rw [if_pos hz] at h1
        cases h1
        obtain ⟨made, q1, q2, q3⟩ := run_made m.2.1 m.1 0 z.1 z.2 hm.2.1.2 hr
        have hlen := run_len _ _ _ z.1 z.2 hr
        have hf2 := hf
        simp only [fitB, Bool.and_eq_true, decide_eq_true_iff, Bool.not_eq_true'] at hf2
        have w1 := i64_in ((m.1.length : Int) + (m.2.1.length : Int)) (by omega)
        have hr6 : law03_GraphMakes_r6_p m (z.1, 0) = false := by
          simp only [law03_GraphMakes_r6_p, law03_GraphMakes_r6_q, w1]
          rw [show ((z.1.length : Int) : Int) = (m.1.length : Int) + (m.2.1.length : Int) by omega]
          simp
        simp only [Option.bind_some, bne_self_eq_false, cond_false, hr6]
        rw [makes_loop m z.1 made hm q1 q2 hf2.2 q3]
        simp only [Option.bind_some, either]
        rcases List.eq_nil_or_concat m.2.1 with hn | ⟨ns, n, hn⟩
        · have hj : law03_GraphMakes_j14_p m = some m.2.1 := by
            simp only [law03_GraphMakes_j14_p, law03_GraphMakes_j14_q]
            rw [hn]
            rfl
          have hc : graph_Check (m.1, m.2.1, m.2.2) = some 0 := by
            unfold graph_Check graph_Check_q
            rw [show ((m.1, m.2.1, m.2.2) : Graph) = m from rfl, h2]
            rfl
          rw [hj]
          simp only [Option.bind_some]
          rw [out_loop m m.2.1 hb1 hb2 hb3]
          simp only [Option.bind_some]
          rw [hc]
          have ha := any_all m.2.2 z.1.length z.1.length (Nat.le_refl _) hz.2
          rw [hz.2] at ha
          have hany : (m.2.2.any fun o => decide (o ≥ (m.1.length : Int) + (m.2.1.length : Int))) = false := by
            rw [show (m.1.length : Int) + (m.2.1.length : Int) = (z.1.length : Int) by omega]
            cases hx : (m.2.2.any fun o => decide (o ≥ (z.1.length : Int))) with
            | false => rfl
            | true => rw [hx] at ha; cases ha
          simp only [Option.bind_some, hany]
          rfl
        · have hn2 : m.2.1 = ns ++ [n] := by simpa using hn
          have hnl : m.2.1.length = ns.length + 1 := by rw [hn2]; simp
          have w2 := i64_in ((m.2.1.length : Int) - 1) (by omega)
          have hj : law03_GraphMakes_j14_p m = some ns := by
            simp only [law03_GraphMakes_j14_p, law03_GraphMakes_j14_q, law03_GraphMakes_r15_p, law03_GraphMakes_r15_q, w2]
            rw [decide_eq_true (by omega : (m.2.1.length : Int) > 0), decide_eq_true (by omega), decide_eq_true (by omega)]
            have : (m.2.1.take (Int.toNat ((m.2.1.length : Int) - 1))).drop (Int.toNat 0) = ns := by
              rw [show Int.toNat ((m.2.1.length : Int) - 1) = ns.length by omega, hn2]
              simp
            simp only [cond_true, Option.bind_some, this]
          have hr2 := hr
          rw [hn2] at hr2
          obtain ⟨u, y, p1, p2, p3⟩ := run_drop ns n m.1 0 z.1 z.2 hr2
          have hs : okGraph (m.1, ns, m.2.2) := ⟨hb1, ⟨by simp only; omega, fun k hk => hm.2.1.2 k (by rw [hn2]; simp [hk])⟩, hb3⟩
          have hfs : fitB (m.1, ns, m.2.2) = true := by
            simp only [fitB, Bool.and_eq_true, decide_eq_true_iff, Bool.not_eq_true'] at hf ⊢
            refine ⟨⟨⟨⟨⟨hf.1.1.1.1.1, ?_⟩, hf.1.1.1.2⟩, hf.1.1.2⟩, hf.1.2⟩, hf.2⟩
            have := hf.1.1.1.1.2
            omega
          have hc : graph_Check (m.1, ns, m.2.2) = some (if m.2.2.all (inR u.length) = true then 0 else 13) := by
            unfold graph_Check graph_Check_q
            rw [Values_run (m.1, ns, m.2.2) hs hfs (u, y) p1 (by simp only; omega)]
            simp only [Option.bind_some]
            split <;> rfl
          rw [hj]
          simp only [Option.bind_some]
          rw [out_loop m ns hb1 (by omega) hb3]
          simp only [Option.bind_some]
          rw [hc, any_all m.2.2 u.length z.1.length (by omega) hz.2]
          rw [show (m.1.length : Int) + (ns.length : Int) = (u.length : Int) by omega]
          simp only [Option.bind_some]
          cases (m.2.2.any fun o => decide (o ≥ (u.length : Int))) <;> rfl
      · rw [if_neg hz] at h1
        cases h1
  · rw [h3]
    simp only [Option.bind_some]
    rw [show (e != 0) = true by simpa using h2]
    rfl
end Go.V.P
