/- Plain laws of layer 17: PlaceLow. -/
import Derived.Test.YtlmhfffnobgipaaLPlaceF
import Derived.Test.YtlmhfffnobgipaaPl10
namespace Go.V.P
open Go Go.V Go.IntWalk
set_option linter.unusedVariables false
set_option linter.unusedSimpArgs false
set_option maxRecDepth 20000
theorem PlaceLow_true (g : Graph) (_ : Ts.ok tsGraph g) : law17_PlaceLow g = some true := by
  obtain ⟨m, hm, hok⟩ := less17 g
  unfold law17_PlaceLow
  rw [shown17, hm]
  simp only [Option.bind_some]
  rcases laid_or m hok with ⟨vals, ls, h⟩ | ⟨e, he, hE, hV, hP, hL, hT⟩
  case inr =>
    rw [hV]
    simp only [Option.bind_some]
    rw [show (e != 0) = true by simpa using he]
    rfl
  rw [h.v3, h.p, h.l, h.t]
  simp only [Option.bind_some, bne_self_eq_false, cond_false]
  have hr9 : law17_PlaceLow_r9_p (vals, 0) (placesL ls, 0) (liveR m, 0) (totL ls, 0) = false := by
    simp only [law17_PlaceLow_r9_p, law17_PlaceLow_r9_q, bne_self_eq_false, cond_false, h.vl, h.pl, h.ll]
  rw [hr9]
  simp only [cond_false]
  obtain ⟨hto, hsum, hex⟩ := h.ok.tot h.s (by have := h.n; omega) h.n.1
  have lg := h.ok.len
  have ok := h.ok
  have hs := h.s
  have hvl := h.vl
  have hpl := h.pl
  have hll := h.ll
  have hn := h.n
  have hge := fun (u : Nat) (hu : u < m.1.length + m.2.1.length) => liveR_get m hu
  generalize hN : m.1.length + m.2.1.length = n at *
  have hpv := fun (u : Nat) (hu : u < n) => placesL_get (ls := ls) (v := u) (by omega)
  have pb : ∀ u : Nat, u < n → 0 ≤ pV ls u ∧ pV ls u ≤ 100000 ∧ 1 ≤ szV vals u ∧ szV vals u ≤ 2048 := fun u hu => by
    have h1 := ok.at_ hu
    have h2 := (sumS_mono hs (v := u) (by omega)).2.1
    have h3 := hs u hu
    have h4 := h1.2.1.1
    omega
  have one : ∀ (q : Bool) (v : Nat), v < n → iterN (law17_PlaceLow_l17_p (vals, 0) (placesL ls, 0) (liveR m, 0) (q, (v : Int))) LL ((pV ls v == 0), 0) = some (true, (v : Int)) := fun q v hv => by
    have hB : ∀ u : Nat, u < v → ∀ b : Bool, ∃ b', law17_PlaceLow_r19_p (vals, 0) (placesL ls, 0) (liveR m, 0) (q, (v : Int)) (b, (u : Int)) = some b' ∧ (b' = true ↔ b = true ∨ (pV ls u + szV vals u = pV ls v ∧ (liveV m (v : Int)).1 ≤ (liveV m (u : Int)).2 ∧ (liveV m (u : Int)).1 ≤ (liveV m (v : Int)).2)) := fun u hu b => by
      have b1 := pb u (by omega)
      simp only [law17_PlaceLow_r19_p, hpl, hvl, hll, hpv u (by omega), hpv v hv, size_is, hge u (by omega), hge v hv]
      rw [decide_eq_true (by omega : (0 : Int) ≤ (u : Int)), decide_eq_true (by omega : (u : Int) < (n : Int)), decide_eq_true (by omega : (0 : Int) ≤ (v : Int)), decide_eq_true (by omega : (v : Int) < (n : Int)), i64_in (pV ls u + szV vals u) (by omega)]
      simp only [cond_true]
      cases b with
      | true => exact ⟨true, rfl, by simp⟩
      | false =>
        simp only [cond_false]
        by_cases h1 : pV ls u + szV vals u = pV ls v
        · rw [show (pV ls u + szV vals u == pV ls v) = true by simpa using h1]
          simp only [cond_true]
          by_cases h2 : (liveV m (v : Int)).1 ≤ (liveV m (u : Int)).2
          · rw [decide_eq_true h2]
            refine ⟨_, rfl, ?_⟩
            simp [h1, h2]
          · rw [decide_eq_false h2]
            exact ⟨_, rfl, by simp [h2]⟩
        · rw [show (pV ls u + szV vals u == pV ls v) = false by simpa using h1]
          exact ⟨_, rfl, by simp [h1]⟩
    have hlow := (ok.at_ hv).2.1.low
    have hF : pV ls v = 0 ∨ ∃ u : Nat, u < v ∧ pV ls u + szV vals u = pV ls v ∧ (liveV m (v : Int)).1 ≤ (liveV m (u : Int)).2 ∧ (liveV m (u : Int)).1 ≤ (liveV m (v : Int)).2 := by
      rcases hlow with h0 | ⟨l, hl, h1, h2, h3⟩
      · exact .inl h0
      · obtain ⟨u, hu, e⟩ := mem_gt dI4 hl
        rw [List.length_take] at hu
        have e2 : gt (ls.take v) (u : Int) dI4 = gt ls (u : Int) dI4 := by
          unfold gt
          rw [show ((u : Int).toNat) = u by omega, List.getD_eq_getElem?_getD, List.getD_eq_getElem?_getD, List.getElem?_take, if_pos (by omega)]
        rw [e2, (ok.at_ (u := u) (by omega)).1] at e
        rw [← e] at h1 h2 h3
        exact .inr ⟨u, by omega, h1, h2, h3⟩
    obtain ⟨z, h1, h2⟩ := iterN_inv (p := law17_PlaceLow_l17_p (vals, 0) (placesL ls, 0) (liveR m, 0) (q, (v : Int))) (fun s : Bool × Int => ∃ u : Nat, s.2 = (u : Int) ∧ u ≤ v ∧ (s.1 = true ↔ pV ls v = 0 ∨ ∃ w : Nat, w < u ∧ pV ls w + szV vals w = pV ls v ∧ (liveV m (v : Int)).1 ≤ (liveV m (w : Int)).2 ∧ (liveV m (w : Int)).1 ≤ (liveV m (v : Int)).2)) (fun s => v - s.2.toNat)
      (Q := fun z => z = (true, (v : Int))) (fun s hs' => by
      obtain ⟨b, t⟩ := s
      obtain ⟨u, hu0, hu, hb⟩ := hs'
      simp only at hu0 hb
      subst hu0
      simp only [law17_PlaceLow_l17_p]
      by_cases hlt : u < v
      · obtain ⟨b', h1, h2⟩ := hB u hlt b
        rw [decide_eq_true (by omega : (u : Int) < (v : Int)), h1, i64_in ((u : Int) + 1) (by omega)]
        refine .inl ⟨_, rfl, ⟨u + 1, by simp only; omega, by omega, ?_⟩, by simp only; omega⟩
        simp only
        rw [h2, hb]
        constructor
        · rintro ((h | ⟨w, h3, h4⟩) | h)
          · exact .inl h
          · exact .inr ⟨w, by omega, h4⟩
          · exact .inr ⟨u, by omega, h⟩
        · rintro (h | ⟨w, h3, h4⟩)
          · exact .inl (.inl h)
          · by_cases hwu : w = u
            · subst hwu; exact .inr h4
            · exact .inl (.inr ⟨w, by omega, h4⟩)
      · rw [decide_eq_false (by omega)]
        have hue : u = v := by omega
        subst hue
        refine .inr ⟨_, rfl, ?_⟩
        rw [hb.2 hF]) LL ((pV ls v == 0), 0) ⟨0, rfl, by omega, by simp⟩ (LL_lt (by simp only; omega))
    rw [h1, h2]
  obtain ⟨z, h1, i, h2⟩ := iterN_inv (p := law17_PlaceLow_l13_p (vals, 0) (placesL ls, 0) (liveR m, 0) (totL ls, 0)) (fun s : Bool × Int => ∃ v : Nat, s.2 = (v : Int) ∧ v ≤ n ∧ (s.1 = true ↔ ∃ w : Nat, w < v ∧ totL ls = pV ls w + szV vals w)) (fun s => n - s.2.toNat)
    (Q := fun z => ∃ i : Int, z = .inl (true, i)) (fun s hs' => by
    obtain ⟨b, t⟩ := s
    obtain ⟨v, hv0, hv, hb⟩ := hs'
    simp only at hv0 hb
    subst hv0
    simp only [law17_PlaceLow_l13_p, hvl]
    by_cases hlt : v < n
    · have b1 := pb v hlt
      have ht := hto v hlt
      rw [decide_eq_true (by omega : (v : Int) < (n : Int))]
      simp only [cond_true, law17_PlaceLow_r15_p, law17_PlaceLow_r20_p, hpl, hvl, hpv v hlt, size_is, one b v hlt, Option.bind_some]
      rw [decide_eq_true (by omega : (0 : Int) ≤ (v : Int)), decide_eq_true (by omega : (v : Int) < (n : Int)), i64_in (pV ls v + szV vals v) (by omega), i64_in ((v : Int) + 1) (by omega)]
      simp only [cond_true, Option.bind_some, law17_PlaceLow_r21_p, law17_PlaceLow_r21_q, law17_PlaceLow_r23_p, law17_PlaceLow_r23_q, Bool.not_true, cond_false]
      rw [decide_eq_false (by omega)]
      simp only [cond_false]
      refine .inl ⟨_, rfl, ⟨v + 1, by simp only; omega, by omega, ?_⟩, by simp only; omega⟩
      simp only [Bool.cond_true_left, Bool.or_eq_true, beq_iff_eq]
      rw [hb]
      constructor
      · rintro (⟨w, h3, h4⟩ | h)
        · exact ⟨w, by omega, h4⟩
        · exact ⟨v, by omega, h.symm⟩
      · rintro ⟨w, h3, h4⟩
        by_cases hwu : w = v
        · subst hwu; exact .inr h4.symm
        · exact .inl ⟨w, by omega, h4⟩
    · rw [decide_eq_false (by omega)]
      have hve : v = n := by omega
      subst hve
      refine .inr ⟨_, rfl, (v : Int), ?_⟩
      rw [hb.2 hex]) LL (false, 0) ⟨0, rfl, by omega, by simp⟩ (LL_lt (by simp only; omega))
  rw [h1, h2]
  rfl
end Go.V.P
