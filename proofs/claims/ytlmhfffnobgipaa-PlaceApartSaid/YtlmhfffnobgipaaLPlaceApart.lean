/- Plain laws of layer 17: PlaceApart. -/
import Derived.Test.YtlmhfffnobgipaaLPlaceF
import Derived.Test.YtlmhfffnobgipaaPl7
namespace Go.V.P
open Go Go.V Go.IntWalk
set_option linter.unusedVariables false
set_option linter.unusedSimpArgs false
set_option maxRecDepth 20000
theorem tog_is (a b : I2) : ref17_Together a b = decide (b.1 ≤ a.2 ∧ a.1 ≤ b.2) := by
  simp only [ref17_Together, ref17_Together_q, ref17_Together_r1_p, ref17_Together_r1_q]
  rw [Bool.eq_iff_iff]
  simp only [Bool.cond_false_right, Bool.and_eq_true, decide_eq_true_iff]
theorem PlaceApart_true (g : Graph) (_ : Ts.ok tsGraph g) : law17_PlaceApart g = some true := by
  obtain ⟨m, hm, hok⟩ := less17 g
  unfold law17_PlaceApart
  rw [shown17, hm]
  simp only [Option.bind_some]
  rcases laid_or m hok with ⟨vals, ls, h⟩ | ⟨e, he, hE, hV, hP, hL, hT⟩
  case inr =>
    rw [hV, hP, hL]
    simp only [Option.bind_some]
    rw [show (e != 0) = true by simpa using he]
    simp only [cond_true, law17_PlaceApart_r7_p, law17_PlaceApart_r7_q, beq_self_eq_true]
    rfl
  rw [h.v3, h.p, h.l, h.t]
  simp only [Option.bind_some, bne_self_eq_false, cond_false]
  have hr8 : law17_PlaceApart_r8_p (vals, 0) (placesL ls, 0) (liveR m, 0) = false := by
    simp only [law17_PlaceApart_r8_p, law17_PlaceApart_r8_q, bne_self_eq_false, cond_false, h.vl, h.pl, h.ll]
  rw [hr8]
  simp only [cond_false]
  obtain ⟨_, hb, hin, hout⟩ := values_in h.v
  obtain ⟨hto, hsum, hex⟩ := h.ok.tot h.s (by have := h.n; omega) h.n.1
  have lg := h.ok.len
  have ok := h.ok
  have hs := h.s
  have hvl := h.vl
  have hpl := h.pl
  have hll := h.ll
  have hn := h.n
  have hge := fun (u : Nat) (hu : u < m.1.length + m.2.1.length) => liveR_get m hu
  have hli := fun (u : Nat) (hu : u < m.1.length + m.2.1.length) => liveV_in m (u : Int) (by omega) (by omega)
  obtain ⟨n, hN⟩ : ∃ n, m.1.length + m.2.1.length = n := ⟨_, rfl⟩
  rw [hN] at ok hs hvl hpl hll hn hge hli hto hsum lg
  have hpv := fun (u : Nat) (hu : u < n) => placesL_get (ls := ls) (v := u) (by omega)
  have pb : ∀ u : Nat, u < n → 0 ≤ pV ls u ∧ pV ls u ≤ sumS vals u ∧ sumS vals u ≤ 100000 ∧ 1 ≤ szV vals u ∧ szV vals u ≤ 2048 := fun u hu => by
    have h1 := ok.at_ hu
    have h2 := (sumS_mono hs (v := u) (by omega)).2.1
    have h3 := hs u hu
    have h4 := h1.2.1.1
    omega
  -- no two meet
  have one : ∀ (q : Int) (v : Nat), v < n → iterN (law17_PlaceApart_l18_p (vals, 0) (placesL ls, 0) (liveR m, 0) (q, (v : Int)) (szV vals v)) LL 0 = some (.inl (v : Int)) := fun q v hv =>
    iterN_for (p := law17_PlaceApart_l18_p (vals, 0) (placesL ls, 0) (liveR m, 0) (q, (v : Int)) (szV vals v)) (z := .inl (v : Int)) v (fun u => (u : Int)) LL (LL_lt (by omega)) (fun u hu => by
      have b1 := pb u (by omega)
      have b2 := pb v hv
      have ha := ok.apart hu hv
      rw [(ok.at_ (u := u) (by omega)).1] at ha
      unfold confl at ha
      simp only at ha
      simp only [law17_PlaceApart_l18_p, law17_PlaceApart_r20_p, law17_PlaceApart_r21_p, hpl, hvl, hll, hpv u (by omega), hpv v hv, size_is, hge u (by omega), hge v hv, tog_is]
      rw [decide_eq_true (by omega : (0 : Int) ≤ (u : Int)), decide_eq_true (by omega : (u : Int) < (n : Int)), decide_eq_true (by omega : (0 : Int) ≤ (v : Int)), decide_eq_true (by omega : (v : Int) < (n : Int)), decide_eq_true (by omega : (u : Int) < (v : Int)), i64_in (pV ls u + szV vals u) (by omega), i64_in (pV ls v + szV vals v) (by omega), i64_in ((u : Int) + 1) (by omega)]
      simp only [cond_true, Option.bind_some]
      by_cases ht : (liveV m (v : Int)).1 ≤ (liveV m (u : Int)).2 ∧ (liveV m (u : Int)).1 ≤ (liveV m (v : Int)).2
      · rw [decide_eq_false (by omega)]
        rfl
      · rw [decide_eq_false ht]
        cases decide (max (pV ls u) (pV ls v) < min (pV ls u + szV vals u) (pV ls v + szV vals v)) <;> rfl) (by
      simp only [law17_PlaceApart_l18_p]
      rw [decide_eq_false (Int.lt_irrefl _)]
      rfl)
  have all : iterN (law17_PlaceApart_l12_p (vals, 0) (placesL ls, 0) (liveR m, 0)) LL (0, 0) = some (.inl (sumS vals n, (n : Int))) :=
    iterN_for (p := law17_PlaceApart_l12_p (vals, 0) (placesL ls, 0) (liveR m, 0)) (z := .inl (sumS vals n, (n : Int))) n (fun v => (sumS vals v, (v : Int))) LL (LL_lt (by omega)) (fun v hv => by
      have b1 := pb v hv
      have b2 := hli v hv
      have b3 := (sumS_mono hs (v := v) (by omega)).1
      simp only [law17_PlaceApart_l12_p, law17_PlaceApart_r14_p, law17_PlaceApart_r15_p, hpl, hvl, hll, hpv v hv, size_is, hge v hv]
      rw [decide_eq_true (by omega : (0 : Int) ≤ (v : Int)), decide_eq_true (by omega : (v : Int) < (n : Int)), decide_eq_false (by omega : ¬ pV ls v < 0), decide_eq_false (by omega : ¬ pV ls v > sumS vals v), decide_eq_false (by omega : ¬ (liveV m (v : Int)).1 > (liveV m (v : Int)).2)]
      simp only [cond_true, cond_false, Option.bind_some, one _ v hv, either]
      rw [i64_in (sumS vals v + szV vals v) (by omega), i64_in ((v : Int) + 1) (by omega)]
      rfl) (by
      simp only [law17_PlaceApart_l12_p, hvl]
      rw [decide_eq_false (Int.lt_irrefl _)]
      rfl)
  -- what a node is made of
  have node : ∀ i : Nat, i < m.2.1.length → iterN (law17_PlaceApart_l28_p m (liveR m, 0) (i : Int)) LL 0 = some (.inl ((gt m.2.1 (i : Int) dNode).2.1.length : Int)) := fun i hi => by
    have hLn := (hok.2.1.2 _ (gt_mem hi dNode)).1
    exact iterN_for (p := law17_PlaceApart_l28_p m (liveR m, 0) (i : Int)) (z := .inl ((gt m.2.1 (i : Int) dNode).2.1.length : Int)) (gt m.2.1 (i : Int) dNode).2.1.length (fun k => (k : Int)) LL (LL_lt hLn) (fun k hk => by
      obtain ⟨a, ha⟩ : ∃ a, gt (gt m.2.1 (i : Int) dNode).2.1 (k : Int) 0 = a := ⟨_, rfl⟩
      have ham : a ∈ (gt m.2.1 (i : Int) dNode).2.1 := by rw [← ha]; exact gt_mem hk 0
      have hab := hin i hi a ham
      obtain ⟨c, rfl⟩ : ∃ c : Nat, a = (c : Int) := ⟨a.toNat, by omega⟩
      have hlv := (lastV_in m (c : Int)).2.2.2.1 i hi ham
      have hcast : ((m.1.length : Int) + (i : Int)) = ((m.1.length + i : Nat) : Int) := by omega
      simp only [law17_PlaceApart_l28_p, law17_PlaceApart_r28_p, law17_PlaceApart_r30_p, ha, hll]
      rw [decide_eq_true (by omega : (0 : Int) ≤ (i : Int)), decide_eq_true (by omega : (i : Int) < (m.2.1.length : Int)), decide_eq_true (by omega : (k : Int) < ((gt m.2.1 (i : Int) dNode).2.1.length : Int)), decide_eq_true (by omega : (0 : Int) ≤ (k : Int)), decide_eq_true (by omega : (0 : Int) ≤ (c : Int)), decide_eq_true (by omega : (c : Int) < (n : Int)), i64_in ((m.1.length : Int) + (i : Int)) (by omega), hcast, decide_eq_true (by omega : (0 : Int) ≤ ((m.1.length + i : Nat) : Int)), decide_eq_true (by omega : ((m.1.length + i : Nat) : Int) < (n : Int)), i64_in ((k : Int) + 1) (by omega), hge c (by omega), hge (m.1.length + i) (by omega), tog_is, decide_eq_true (by unfold liveV; simp only; omega)]
      rfl) (by
      simp only [law17_PlaceApart_l28_p, law17_PlaceApart_r28_p]
      rw [decide_eq_true (by omega : (0 : Int) ≤ (i : Int)), decide_eq_true (by omega : (i : Int) < (m.2.1.length : Int)), decide_eq_false (Int.lt_irrefl _)]
      rfl)
  have nodes : iterN (law17_PlaceApart_l25_p m (liveR m, 0)) LL 0 = some (.inl (m.2.1.length : Int)) :=
    iterN_for (p := law17_PlaceApart_l25_p m (liveR m, 0)) (z := .inl (m.2.1.length : Int)) m.2.1.length (fun i => (i : Int)) LL (LL_lt (by omega)) (fun i hi => by
      simp only [law17_PlaceApart_l25_p, node i hi]
      rw [decide_eq_true (by omega : (i : Int) < (m.2.1.length : Int)), i64_in ((i : Int) + 1) (by omega)]
      rfl) (by
      simp only [law17_PlaceApart_l25_p]
      rw [decide_eq_false (Int.lt_irrefl _)]
      rfl)
  have outs : iterN (law17_PlaceApart_l33_p m (liveR m, 0)) LL 0 = some (.inl (m.2.2.length : Int)) :=
    iterN_for (p := law17_PlaceApart_l33_p m (liveR m, 0)) (z := .inl (m.2.2.length : Int)) m.2.2.length (fun i => (i : Int)) LL (LL_lt (by omega)) (fun i hi => by
      obtain ⟨a, ha⟩ : ∃ a, gt m.2.2 (i : Int) 0 = a := ⟨_, rfl⟩
      have ham : a ∈ m.2.2 := by rw [← ha]; exact gt_mem hi 0
      have hab := hout a ham
      obtain ⟨c, rfl⟩ : ∃ c : Nat, a = (c : Int) := ⟨a.toNat, by omega⟩
      have hlv := (lastV_in m (c : Int)).2.2.1 ham
      simp only [law17_PlaceApart_l33_p, law17_PlaceApart_r35_p, ha, hll]
      rw [decide_eq_true (by omega : (0 : Int) ≤ (i : Int)), decide_eq_true (by omega : (i : Int) < (m.2.2.length : Int)), decide_eq_true (by omega : (0 : Int) ≤ (c : Int)), decide_eq_true (by omega : (c : Int) < (n : Int)), i64_in ((i : Int) + 1) (by omega), hge c (by omega), decide_eq_false (by unfold liveV; simp only; omega)]
      rfl) (by
      simp only [law17_PlaceApart_l33_p]
      rw [decide_eq_false (Int.lt_irrefl _)]
      rfl)
  have hmax := (sumS_mono hs (v := n) (Nat.le_refl _)).2.1
  rw [all]
  simp only [Option.bind_some, either, nodes, outs, law17_PlaceApart_r38_p, law17_PlaceApart_r38_q, cond_true, beq_self_eq_true]
  rw [decide_eq_true hsum, decide_eq_true (by omega)]
  rfl
end Go.V.P
