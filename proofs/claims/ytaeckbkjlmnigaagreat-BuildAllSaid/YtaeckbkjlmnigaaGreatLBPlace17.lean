/- Plain laws of layer 17, for layers above: the reference's places; PlaceAll. -/
import Derived.Test.YtaeckbkjlmnigaaGreatLBPlace
import Derived.Test.YtaeckbkjlmnigaaGreatLPlace0
import Derived.Test.YtaeckbkjlmnigaaGreatBa2
namespace Go.V.P
open Go Go.V Go.IntWalk
set_option linter.unusedVariables false
set_option linter.unusedSimpArgs false
set_option maxRecDepth 20000
theorem size_is (vals : List I4) (v : Nat) : ref02_Size ((gt vals (v : Int) dI4).1, (gt vals (v : Int) dI4).2.1, (gt vals (v : Int) dI4).2.2.1) = szP vals v := ref02_Size_eq _
theorem together_eq (a b : I2) : ref17_Together a b = decide (b.1 ≤ a.2 ∧ a.1 ≤ b.2) := by
  simp only [ref17_Together, ref17_Together_q, ref17_Together_r1_p, ref17_Together_r1_q]
  rw [Bool.eq_iff_iff]
  simp only [Bool.cond_false_right, Bool.and_eq_true, decide_eq_true_iff]
theorem meet_step (g : Graph) (vals ls : List I4) (n v u : Nat) (a : Int) (h : LotsOK g vals n ls) (hs : SizesOK vals n) (hv : v < n) (hu : u < v) (hn : n ≤ 40) (hvl : vals.length = n) (hg : g.1.length + g.2.1.length = n) (ha : 0 ≤ a ∧ a ≤ 1000000) :
    ref17_Places_r14_p (vals, 0) (liveR g, 0) (placesL (ls.take v), (v : Int)) (szP vals v) (a, (u : Int)) = some (decide (confl (gt ls (u : Int) dI4) (liveV g (v : Int)) a (szP vals v))) := by
  have hll : (liveR g).length = n := by rw [liveR_len, hg]
  have hpl : (placesL (ls.take v)).length = v := by simp [placesL, h.len]; omega
  have hpu : gt (placesL (ls.take v)) (u : Int) 0 = pV ls u := by
    rw [placesL_get (by rw [List.length_take, h.len]; omega)]
    unfold pV gt
    rw [show ((u : Int).toNat) = u by omega, List.getD_eq_getElem?_getD, List.getD_eq_getElem?_getD, List.getElem?_take, if_pos hu]
  obtain ⟨e1, eL, e2⟩ := h.at_ (u := u) (by omega)
  have s1 := hs u (by omega)
  have s2 := hs v hv
  have b1 := sumS_mono hs (v := u) (by omega)
  have p0 := eL.1
  simp only [ref17_Places_r14_p, hll, hpl, hvl, hpu, liveR_get g (show u < g.1.length + g.2.1.length by omega), liveR_get g (show v < g.1.length + g.2.1.length by omega), size_is, together_eq]
  rw [decide_eq_true (by omega : (0 : Int) ≤ (u : Int)), decide_eq_true (by omega : (u : Int) < (n : Int)), decide_eq_true (by omega : (0 : Int) ≤ (v : Int)), decide_eq_true (by omega : (v : Int) < (n : Int)), decide_eq_true (by omega : (u : Int) < (v : Int)), i64_in (a + szP vals v) (by omega), i64_in (pV ls u + szP vals u) (by omega), e1]
  simp only [cond_true]
  by_cases ht : (liveV g (v : Int)).1 ≤ (liveV g (u : Int)).2 ∧ (liveV g (u : Int)).1 ≤ (liveV g (v : Int)).2
  · rw [decide_eq_true ht]
    simp only [cond_true]
    congr 1
    rw [Bool.eq_iff_iff]
    simp only [decide_eq_true_iff]
    unfold confl
    simp only
    omega
  · rw [decide_eq_false ht]
    rw [show decide (confl ((liveV g (u:Int)).1, (liveV g (u:Int)).2, pV ls u, pV ls u + szP vals u) (liveV g (v:Int)) a (szP vals v)) = false from decide_eq_false (fun q => ht ⟨q.1, q.2.1⟩)]
    rfl
theorem ref17_one (g : Graph) (vals ls : List I4) (n v : Nat) (h : LotsOK g vals n ls) (hs : SizesOK vals n) (hv : v < n) (hn : n ≤ 16) (hvl : vals.length = n) (hg : g.1.length + g.2.1.length = n) :
    iterN (ref17_Places_l12_p (vals, 0) (liveR g, 0) (placesL (ls.take v), (v : Int)) (szP vals v)) LL (0, 0) = some (pV ls v, (v : Int)) := by
  have hpl : (placesL (ls.take v)).length = v := by simp [placesL, h.len]; omega
  obtain ⟨e1, eL, e2⟩ := h.at_ hv
  have b1 := sumS_mono hs (v := v) (by omega)
  have p0 := eL.1
  obtain ⟨z, h1, h2⟩ := iterN_inv (p := ref17_Places_l12_p (vals, 0) (liveR g, 0) (placesL (ls.take v), (v : Int)) (szP vals v)) (fun s : Int × Int => ∃ u : Nat, s.2 = (u : Int) ∧ u ≤ v ∧ 0 ≤ s.1 ∧ s.1 ≤ pV ls v ∧ ∀ w : Nat, w < u → ¬ confl (gt ls (w : Int) dI4) (liveV g (v : Int)) s.1 (szP vals v)) (fun s => (pV ls v - s.1).toNat * (v + 1) + (v - s.2.toNat))
    (Q := fun z => z = (pV ls v, (v : Int))) (fun s hs' => by
    obtain ⟨a, t⟩ := s
    obtain ⟨u, hu0, hu, ha, hap, hf⟩ := hs'
    simp only at hu0 ha hap hf
    subst hu0
    simp only [ref17_Places_l12_p, hpl]
    by_cases hlt : u < v
    · rw [decide_eq_true (by omega : (u : Int) < (v : Int))]
      simp only [cond_true, ref17_Places_j14_p]
      rw [meet_step g vals ls n v u a h hs hv hlt (by omega) hvl hg (by omega)]
      simp only [Option.bind_some]
      by_cases hc : confl (gt ls (u : Int) dI4) (liveV g (v : Int)) a (szP vals v)
      · rw [decide_eq_true hc, i64_in (a + 1) (by omega)]
        simp only [cond_true, Option.bind_some]
        have hne : a ≠ pV ls v := fun e => by
          rw [e] at hc
          exact h.apart hlt hv hc
        rw [show IntKind.wrap .i64 ((-1 : Int) + 1) = 0 by decide]
        refine .inl ⟨_, rfl, ⟨0, rfl, by omega, by simp only; omega, by simp only; omega, fun w hw => absurd hw (Nat.not_lt_zero _)⟩, ?_⟩
        simp only
        have e3 : (pV ls v - a).toNat = (pV ls v - (a + 1)).toNat + 1 := by omega
        rw [e3, Nat.add_mul, Nat.one_mul]
        have : ((u : Int)).toNat = u := by omega
        rw [this, show Int.toNat 0 = 0 from rfl]
        omega
      · rw [decide_eq_false hc]
        simp only [cond_false, Option.bind_some]
        rw [i64_in ((u : Int) + 1) (by omega)]
        refine .inl ⟨_, rfl, ⟨u + 1, by simp only; omega, by omega, ha, hap, fun w hw => ?_⟩, by simp only; omega⟩
        by_cases hwu : w = u
        · subst hwu; exact hc
        · exact hf w (by omega)
    · rw [decide_eq_false (by omega)]
      have : u = v := by omega
      subst this
      have hfree : FreeA (ls.take u) (liveV g (u : Int)) (szP vals u) a := fun l hl => by
        obtain ⟨w, hw, e⟩ := mem_gtR dI4 hl
        rw [List.length_take, h.len] at hw
        have e4 : gt (ls.take u) (w : Int) dI4 = gt ls (w : Int) dI4 := by
          unfold gt
          rw [show ((w : Int).toNat) = w by omega, List.getD_eq_getElem?_getD, List.getD_eq_getElem?_getD, List.getElem?_take, if_pos (by omega)]
        rw [← e, e4]
        exact hf w (by omega)
      have hae : a = pV ls u := by
        by_cases q : a < pV ls u
        · exact absurd hfree (eL.2.2 a ha q)
        · omega
      subst hae
      exact .inr ⟨_, rfl, rfl⟩) LL (0, 0) ⟨0, rfl, by omega, by simp only; omega, by simp only; omega, fun w hw => absurd hw (Nat.not_lt_zero _)⟩ (LL_lt (by
        simp only [Int.sub_zero]
        have a1 : (pV ls v).toNat ≤ 2048 * 16 := by omega
        have : (pV ls v).toNat * (v + 1) ≤ 2048 * 16 * 17 := Nat.mul_le_mul a1 (by omega)
        omega))
  rw [h1, h2]
theorem Places17 (g : Graph) (hg : okGraph g) (vals ls : List I4) (hE : valuesE g = (vals, 0)) (hvl : vals.length = g.1.length + g.2.1.length) (h : LotsOK g vals (g.1.length + g.2.1.length) ls) (hs : SizesOK vals (g.1.length + g.2.1.length)) (hn : g.1.length + g.2.1.length ≤ 16) : ref17_Places g = some (placesL ls, 0) := by
  have hlive : livesE g = (liveR g, 0) := by unfold livesE; rw [hE]; rfl
  generalize hN : g.1.length + g.2.1.length = n at *
  unfold ref17_Places
  rw [ValuesE3 g hg, hE]
  simp only [Option.bind_some, bne_self_eq_false, cond_false]
  rw [Live17_eq g hg, hlive]
  simp only [Option.bind_some]
  have := iterN_for (p := ref17_Places_l7_p (vals, 0) (liveR g, 0)) (z := (placesL ls, (n : Int))) n (fun i => (placesL (ls.take i), (i : Int))) LL (LL_lt (by omega)) (fun i hi => by
    have htk := take_snoc (l := ls) (i := i) (by rw [h.len]; exact hi) dI4
    simp only [ref17_Places_l7_p, ref17_Places_r10_p, hvl, size_is]
    rw [decide_eq_true (by omega : (i : Int) < (n : Int)), decide_eq_true (by omega : (0 : Int) ≤ (i : Int))]
    simp only [cond_true, Option.bind_some]
    rw [ref17_one g vals ls n i h hs hi hn hvl hN]
    simp only [Option.bind_some, ref17_Places_r17_p]
    rw [decide_eq_true (by simp only [placesL, List.length_map, List.length_take, List.length_cons, List.length_nil]; unfold maxL; omega), i64_in ((i : Int) + 1) (by omega), htk]
    simp only [placesL, List.map_append]
    rfl) (by
    simp only [ref17_Places_l7_p, hvl]
    rw [decide_eq_false (Int.lt_irrefl _), List.take_of_length_le (by rw [h.len]; exact Nat.le_refl _)]
    rfl)
  rw [List.take_zero] at this
  have h00 : placesL [] = [] := rfl
  rw [h00] at this
  rw [show ((0 : Nat) : Int) = 0 from rfl] at this
  rw [this]
  rfl
end Go.V.P
