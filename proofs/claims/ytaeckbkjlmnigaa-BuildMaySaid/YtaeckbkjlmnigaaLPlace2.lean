/- Plain laws of layer 17: where values lie. -/
import Derived.Test.YtaeckbkjlmnigaaLPlace1
import Derived.Test.YtaeckbkjlmnigaaBm0
namespace Go.V.P
open Go Go.V Go.IntWalk
set_option linter.unusedVariables false
set_option linter.unusedSimpArgs false
set_option maxRecDepth 20000
def confl (l : I4) (lv : I2) (a size : Int) : Prop := lv.1 ≤ l.2.1 ∧ l.1 ≤ lv.2 ∧ l.2.2.1 < a + size ∧ a < l.2.2.2
instance (l : I4) (lv : I2) (a size : Int) : Decidable (confl l lv a size) := by unfold confl; infer_instance
def FreeA (ls : List I4) (lv : I2) (size a : Int) : Prop := ∀ l ∈ ls, ¬ confl l lv a size
def Least (ls : List I4) (lv : I2) (size a : Int) : Prop := 0 ≤ a ∧ FreeA ls lv size a ∧ ∀ b, 0 ≤ b → b < a → ¬ FreeA ls lv size b
theorem Least.unique {ls : List I4} {lv : I2} {size a b : Int} (h : Least ls lv size a) (k : Least ls lv size b) : a = b := by
  rcases Int.lt_trichotomy a b with q | q | q
  · exact absurd h.2.1 (k.2.2 a h.1 q)
  · exact q
  · exact absurd k.2.1 (h.2.2 b k.1 q)
theorem not_free {ls : List I4} {lv : I2} {size a : Int} (h : ¬ FreeA ls lv size a) : ∃ l ∈ ls, confl l lv a size := by
  unfold FreeA at h
  simp only [Classical.not_forall, Classical.not_not] at h
  obtain ⟨l, hl, hc⟩ := h
  exact ⟨l, hl, hc⟩
theorem Least.low {ls : List I4} {lv : I2} {size a : Int} (h : Least ls lv size a) : a = 0 ∨ ∃ l ∈ ls, l.2.2.2 = a ∧ lv.1 ≤ l.2.1 ∧ l.1 ≤ lv.2 := by
  by_cases h0 : a = 0
  · exact .inl h0
  · obtain ⟨l, hl, hc⟩ := not_free (h.2.2 (a - 1) (by have := h.1; omega) (by omega))
    have hn := h.2.1 l hl
    unfold confl at hc hn
    exact .inr ⟨l, hl, by omega, hc.1, hc.2.1⟩
theorem after_eq (l : I4) (lv : I2) (a size : Int) : place_lot_after l (lv.1, lv.2, a, a + size) = if confl l lv a size then l.2.2.2 else 0 := by
  have : place_lot_after_r1_p l (lv.1, lv.2, a, a + size) = !(decide (confl l lv a size)) := by
    simp only [place_lot_after_r1_p, place_lot_after_r1_q]
    rw [Bool.eq_iff_iff]
    simp only [Bool.cond_true_left, Bool.or_eq_true, decide_eq_true_iff, Bool.not_eq_true', decide_eq_false_iff_not]
    unfold confl
    omega
  simp only [place_lot_after, place_lot_after_q, this]
  by_cases h : confl l lv a size
  · rw [if_pos h, decide_eq_true h]; rfl
  · rw [if_neg h, decide_eq_false h]; rfl
theorem meets_eq (lives : List I2) (ls : List I4) (v : Nat) (a size : Int) (hv : v < lives.length) (hlv : lives.length < 1000000) (hl : ls.length < 1000) (hto : ∀ l ∈ ls, 0 < l.2.2.2) (ha : 0 ≤ a ∧ a ≤ 1000000) (hs : 0 ≤ size ∧ size ≤ 1000000) :
    ∃ r, place_lots_1 a lives ls (v : Int) size = some r ∧ ((r = -1 ∧ FreeA ls (gt lives (v : Int) dI2) size a) ∨ ∃ l ∈ ls, confl l (gt lives (v : Int) dI2) a size ∧ r = l.2.2.2) := by
  obtain ⟨z, h1, h2⟩ := iterN_inv (p := place_lots_1_l2_p a lives ls (v : Int) size) (fun s : Int => ∃ i : Nat, s = (i : Int) ∧ i ≤ ls.length ∧ FreeA (ls.take i) (gt lives (v : Int) dI2) size a) (fun s => ls.length - s.toNat)
    (Q := fun z => (z = .inl (ls.length : Int) ∧ FreeA ls (gt lives (v : Int) dI2) size a) ∨ ∃ l ∈ ls, confl l (gt lives (v : Int) dI2) a size ∧ z = .inr l.2.2.2) (fun s hs' => by
    obtain ⟨i, rfl, hi, hf⟩ := hs'
    simp only [place_lots_1_l2_p, place_lots_1_r3_p, place_lots_1_r4_p]
    by_cases hlt : i < ls.length
    · have hm := gt_memR hlt dI4
      have htk := take_snoc hlt dI4
      rw [decide_eq_true (by omega : (i : Int) < (ls.length : Int)), decide_eq_true (by omega : (0 : Int) ≤ (i : Int)), decide_eq_true (by omega : (0 : Int) ≤ (v : Int)), decide_eq_true (by omega : (v : Int) < (lives.length : Int)), i64_in (a + size) (by omega), after_eq, i64_in ((i : Int) + 1) (by omega)]
      simp only [cond_true, Option.bind_some]
      by_cases hc : confl (gt ls (i : Int) dI4) (gt lives (v : Int) dI2) a size
      · rw [if_pos hc, decide_eq_true (hto _ hm)]
        exact .inr ⟨_, rfl, .inr ⟨_, hm, hc, rfl⟩⟩
      · rw [if_neg hc, decide_eq_false (by omega)]
        refine .inl ⟨_, rfl, ⟨i + 1, by omega, by omega, fun l hl' => ?_⟩, by omega⟩
        rw [htk] at hl'
        rcases List.mem_append.1 hl' with q | q
        · exact hf l q
        · rw [List.mem_singleton.1 q]; exact hc
    · have : i = ls.length := by omega
      subst this
      rw [List.take_length] at hf
      rw [decide_eq_false (Int.lt_irrefl _)]
      exact .inr ⟨_, rfl, .inl ⟨rfl, hf⟩⟩) LL 0 ⟨0, rfl, by omega, fun l hl' => by simp at hl'⟩ (LL_lt (by simp only [Int.toNat_zero]; omega))
  unfold place_lots_1
  rw [h1]
  rcases h2 with ⟨rfl, hf⟩ | ⟨l, hl', hc, rfl⟩
  · exact ⟨-1, rfl, .inl ⟨rfl, hf⟩⟩
  · exact ⟨l.2.2.2, rfl, .inr ⟨l, hl', hc, rfl⟩⟩
theorem place_one (y542 : List I2 × Int) (ls : List I4) (v : Nat) (size : Int) (hv : v < y542.1.length) (hlv : y542.1.length < 1000000) (hl : ls.length < 1000) (hto : ∀ l ∈ ls, 0 < l.2.2.2 ∧ l.2.2.2 ≤ 100000) (hs : 0 ≤ size ∧ size ≤ 1000000) :
    ∃ r a, place_lots_1 0 y542.1 ls (v : Int) size = some r ∧ iterN (place_lots_l13_p y542 ((v : Int), ls) size) LL (0, r) = some (a, -1) ∧ Least ls (gt y542.1 (v : Int) dI2) size a ∧ a ≤ 100000 := by
  have hm := fun a ha => meets_eq y542.1 ls v a size hv hlv hl (fun l hl => (hto l hl).1) ha hs
  obtain ⟨r, hr, hr2⟩ := hm 0 (by omega)
  refine ⟨r, ?_⟩
  obtain ⟨z, h1, h2⟩ := iterN_inv (p := place_lots_l13_p y542 ((v : Int), ls) size) (fun s : Int × Int => (0 ≤ s.1 ∧ s.1 ≤ 100000) ∧ (∀ b, 0 ≤ b → b < s.1 → ¬ FreeA ls (gt y542.1 (v : Int) dI2) size b) ∧ ((s.2 = -1 ∧ FreeA ls (gt y542.1 (v : Int) dI2) size s.1) ∨ ∃ l ∈ ls, confl l (gt y542.1 (v : Int) dI2) s.1 size ∧ s.2 = l.2.2.2)) (fun s => (100001 - s.1).toNat)
    (Q := fun z => z.2 = -1 ∧ Least ls (gt y542.1 (v : Int) dI2) size z.1 ∧ z.1 ≤ 100000) (fun s hs' => by
    obtain ⟨a, t⟩ := s
    obtain ⟨ha, hb, hc⟩ := hs'
    simp only at ha hb hc
    simp only [place_lots_l13_p]
    rcases hc with ⟨rfl, hf⟩ | ⟨l, hl', hc, rfl⟩
    · rw [decide_eq_false (by omega)]
      exact .inr ⟨_, rfl, rfl, ⟨ha.1, hf, hb⟩, ha.2⟩
    · have ht := hto l hl'
      obtain ⟨r', hr', hr2'⟩ := hm l.2.2.2 (by omega)
      rw [decide_eq_true (by omega), hr']
      have hcc := hc
      unfold confl at hcc
      refine .inl ⟨_, rfl, ⟨⟨by simp only; omega, by simp only; omega⟩, fun b hb0 hb1 => ?_, hr2'⟩, by simp only; omega⟩
      by_cases hba : b < a
      · exact hb b hb0 hba
      · simp only at hb1
        exact fun hf => hf l hl' ⟨hcc.1, hcc.2.1, by omega, hb1⟩) LL (0, r) ⟨by simp only; omega, fun b hb0 hb1 => by simp only at hb1; omega, hr2⟩ (LL_lt (by simp only; omega))
  obtain ⟨za, zt⟩ := z
  obtain ⟨q1, q2, q3⟩ := h2
  simp only at q1 q2 q3
  subst q1
  exact ⟨za, hr, h1, q2, q3⟩
def szP (vals : List I4) (v : Nat) : Int := sizeV (vS (gt vals (v : Int) dI4))
def sumS (vals : List I4) : Nat → Int
  | 0 => 0
  | v + 1 => sumS vals v + szP vals v
def SizesOK (vals : List I4) (n : Nat) : Prop := ∀ v : Nat, v < n → 1 ≤ szP vals v ∧ szP vals v ≤ 2048
theorem sumS_mono {vals : List I4} {n : Nat} (h : SizesOK vals n) : ∀ {v : Nat}, v ≤ n → 0 ≤ sumS vals v ∧ sumS vals v ≤ 2048 * (v : Int) ∧ ∀ u : Nat, u ≤ v → sumS vals u ≤ sumS vals v
  | 0, _ => ⟨by simp [sumS], by simp [sumS], fun u hu => by rw [Nat.le_zero.1 hu]; exact Int.le_refl _⟩
  | v + 1, hv => by
    obtain ⟨h1, h2, h3⟩ := sumS_mono h (v := v) (by omega)
    have := h v (by omega)
    simp only [sumS]
    refine ⟨by omega, by omega, fun u hu => ?_⟩
    by_cases e : u = v + 1
    · subst e; simp only [sumS]; omega
    · have := h3 u (by omega); omega
structure LotsOK (g : Graph) (vals : List I4) (v : Nat) (ls : List I4) : Prop where
  len : ls.length = v
  lot : ∀ u : Nat, u < v → ∃ a, gt ls (u : Int) dI4 = ((liveV g (u : Int)).1, (liveV g (u : Int)).2, a, a + szP vals u) ∧ Least (ls.take u) (liveV g (u : Int)) (szP vals u) a ∧ a ≤ sumS vals u
theorem mem_gtR {α : Type} {l : List α} {x : α} (d : α) (h : x ∈ l) : ∃ i : Nat, i < l.length ∧ gt l (i : Int) d = x := by
  obtain ⟨i, hi, e⟩ := List.mem_iff_getElem.1 h
  refine ⟨i, hi, ?_⟩
  unfold gt
  rw [show ((i : Int).toNat) = i by omega, List.getD_eq_getElem?_getD, List.getElem?_eq_getElem hi]
  exact e
theorem LotsOK.to {g : Graph} {vals ls : List I4} {v n : Nat} (h : LotsOK g vals v ls) (hs : SizesOK vals n) (hv : v ≤ n) (hn : n ≤ 40) : ∀ l ∈ ls, 0 < l.2.2.2 ∧ l.2.2.2 ≤ sumS vals v ∧ sumS vals v ≤ 100000 := fun l hl => by
  obtain ⟨u, hu, e⟩ := mem_gtR dI4 hl
  rw [h.len] at hu
  obtain ⟨a, e2, hL, ha⟩ := h.lot u hu
  have h1 := sumS_mono hs hv
  have h2 := hs u (by omega)
  have h3 := h1.2.2 (u + 1) (by omega)
  simp only [sumS] at h3
  rw [← e, e2]
  have := hL.1
  simp only
  omega
theorem gt_append_left {α : Type} {l m : List α} {i : Nat} (h : i < l.length) (d : α) : gt (l ++ m) (i : Int) d = gt l (i : Int) d := by
  unfold gt
  rw [show ((i : Int).toNat) = i by omega, List.getD_eq_getElem?_getD, List.getD_eq_getElem?_getD, List.getElem?_append_left h]
theorem gt_append_last {α : Type} (l : List α) (x d : α) : gt (l ++ [x]) (l.length : Int) d = x := by
  unfold gt
  rw [show ((l.length : Int).toNat) = l.length by omega, List.getD_eq_getElem?_getD, List.getElem?_append_right (Nat.le_refl _), Nat.sub_self]
  rfl
theorem LotsOK.snoc {g : Graph} {vals ls : List I4} {v n : Nat} (h : LotsOK g vals v ls) (hs : SizesOK vals n) (hv : v < n) {a : Int} (hL : Least ls (liveV g (v : Int)) (szP vals v) a) : LotsOK g vals (v + 1) (ls ++ [((liveV g (v : Int)).1, (liveV g (v : Int)).2, a, a + szP vals v)]) := by
  refine ⟨by simp [h.len], fun u hu => ?_⟩
  by_cases hue : u = v
  · subst hue
    have e := gt_append_last ls ((liveV g (u : Int)).1, (liveV g (u : Int)).2, a, a + szP vals u) dI4
    rw [h.len] at e
    refine ⟨a, e, ?_, ?_⟩
    · rw [List.take_append_of_le_length (by rw [h.len]; exact Nat.le_refl _), List.take_of_length_le (by rw [h.len]; exact Nat.le_refl _)]
      exact hL
    · rcases hL.low with rfl | ⟨l, hl, e2, _⟩
      · exact (sumS_mono hs (by omega)).1
      · obtain ⟨w, hw, e3⟩ := mem_gtR dI4 hl
        rw [h.len] at hw
        obtain ⟨b, e4, _, hb⟩ := h.lot w hw
        rw [← e3, e4] at e2
        simp only at e2
        have := (sumS_mono hs (v := u) (by omega)).2.2 (w + 1) (by omega)
        simp only [sumS] at this
        omega
  · obtain ⟨b, e4, q, hb⟩ := h.lot u (by omega)
    refine ⟨b, ?_, ?_, hb⟩
    · rw [gt_append_left (by rw [h.len]; omega)]; exact e4
    · rw [List.take_append_of_le_length (by rw [h.len]; omega)]; exact q
theorem sizes_ok {g : Graph} (hg : okGraph g) {vals : List I4} (hv : valuesV g = some vals) : SizesOK vals (g.1.length + g.2.1.length) := by
  obtain ⟨hl, _⟩ := values_in hv
  unfold valuesV at hv
  split at hv
  · rename_i hf
    split at hv
    · rename_i z hz
      split at hv
      · cases hv
        obtain ⟨made, h1, h2, h3⟩ := run_made g.2.1 _ _ z.1 z.2 hg.2.1.2 hz
        have hb : g.1.any badIn = false := by
          unfold fitB at hf
          simp only [Bool.and_eq_true, Bool.not_eq_true'] at hf
          exact hf.2
        intro v hv
        have hmay : mayB (vS (gt z.1 (v : Int) dI4)) = true := by
          have hm := gt_memR (l := z.1) (i := v) (by rw [hl]; exact hv) dI4
          rw [h1] at hm ⊢
          by_cases hlt : v < g.1.length
          · rw [gt_append_left hlt]
            have := List.any_eq_false.1 hb _ (gt_memR hlt dI4)
            simp only [badIn, Bool.or_eq_true, Bool.not_eq_true', not_or, Bool.not_eq_false] at this
            exact this.1
          · have hlt2 : v - g.1.length < made.length := by omega
            have e : gt (g.1 ++ made) (v : Int) dI4 = made[v - g.1.length] := by
              unfold gt
              rw [show ((v : Int).toNat) = v by omega, List.getD_eq_getElem?_getD, List.getElem?_append_right (by omega), List.getElem?_eq_getElem hlt2]
              rfl
            rw [e]
            exact (h3 (v - g.1.length) _ (g.2.1[v - g.1.length]'(by omega)) (List.getElem?_eq_getElem hlt2) (List.getElem?_eq_getElem (by omega))).1
        have hm := mayB_iff.1 hmay
        unfold szP sizeV
        rw [if_pos hmay]
        have a1 := mul_in' (a := (vS (gt z.1 (v : Int) dI4)).1 - 1) (b := (vS (gt z.1 (v : Int) dI4)).2.1) (c := 15) (d := 16) (by omega) (by omega) (by omega) (by omega)
        rw [Int.sub_mul, Int.one_mul] at a1
        have a2 := mul_in' (a := (vS (gt z.1 (v : Int) dI4)).1 * (vS (gt z.1 (v : Int) dI4)).2.1 - 1) (b := (vS (gt z.1 (v : Int) dI4)).2.2) (c := 255) (d := 8) (by omega) (by omega) (by omega) (by omega)
        rw [Int.sub_mul, Int.one_mul] at a2
        omega
      · cases hv
    · cases hv
  · cases hv
theorem lots_eq (g : Graph) (hg : okGraph g) : (∃ vals ls, valuesV g = some vals ∧ valuesE g = (vals, 0) ∧ place_lots g = some (ls, 0) ∧ LotsOK g vals (g.1.length + g.2.1.length) ls) ∨ (valuesV g = none ∧ ∃ e : Int, e ≠ 0 ∧ valuesE g = ([], e) ∧ place_lots g = some ([], e)) := by
  rcases valuesE_is g with ⟨vals, hv, hE⟩ | ⟨hv, e, he, hE⟩
  · left
    obtain ⟨hl, hb, _⟩ := values_in hv
    have hs := sizes_ok hg hv
    generalize hn : g.1.length + g.2.1.length = n at *
    have hlive : livesE g = (liveR g, 0) := by unfold livesE; rw [hE]; rfl
    have hll : (liveR g).length = n := by rw [liveR_len, hn]
    obtain ⟨z, h1, h2⟩ := iterN_inv (p := place_lots_l7_p (vals, 0) (liveR g, 0)) (fun s : Int × List I4 => ∃ i : Nat, s.1 = (i : Int) ∧ i ≤ n ∧ LotsOK g vals i s.2) (fun s => n - s.1.toNat) (Q := fun z => LotsOK g vals n z.2) (fun s hs' => by
      obtain ⟨t, ls⟩ := s
      obtain ⟨i, hi0, hi, hL⟩ := hs'
      simp only at hi0 hL
      subst hi0
      simp only [place_lots_l7_p, place_lots_r8_p, hl]
      by_cases hlt : i < n
      · have hto := hL.to hs (by omega) (by omega)
        have hsz := hs i hlt
        obtain ⟨r, a, q1, q2, q3, q4⟩ := place_one (liveR g, 0) ls i (szP vals i) (by rw [hll]; exact hlt) (by rw [hll]; omega) (by rw [hL.len]; omega) (fun l hl => ⟨(hto l hl).1, by have := hto l hl; omega⟩) (by omega)
        have hge : gt (liveR g) (i : Int) dI2 = liveV g (i : Int) := liveR_get g (by omega)
        have hsize : shape_Size ((gt vals (i : Int) dI4).1, (gt vals (i : Int) dI4).2.1, (gt vals (i : Int) dI4).2.2.1) = some (szP vals i) := shape_Size_eq _
        rw [decide_eq_true (by omega : (i : Int) < (n : Int)), decide_eq_true (by omega : (0 : Int) ≤ (i : Int)), hsize]
        simp only [cond_true, Option.bind_some]
        rw [q1]
        simp only [Option.bind_some]
        rw [q2]
        have ha0 := q3.1
        simp only [Option.bind_some, place_lots_r16_p, hge, hll]
        rw [decide_eq_true (by omega : (0 : Int) ≤ (i : Int)), decide_eq_true (by omega : (i : Int) < (n : Int)), i64_in (a + szP vals i) (by omega), decide_eq_true (by simp only [hL.len, List.length_cons, List.length_nil]; unfold maxL; omega), i64_in ((i : Int) + 1) (by omega)]
        simp only [cond_true, Option.bind_some]
        simp only [hge] at q3
        exact .inl ⟨_, rfl, ⟨i + 1, by simp only; omega, by omega, hL.snoc hs hlt q3⟩, by simp only; omega⟩
      · rw [decide_eq_false (by omega)]
        have : i = n := by omega
        subst this
        exact .inr ⟨_, rfl, hL⟩) LL (0, []) ⟨0, rfl, by omega, rfl, fun u hu => absurd hu (Nat.not_lt_zero _)⟩ (LL_lt (by simp only; omega))
    refine ⟨vals, z.2, hv, hE, ?_, h2⟩
    unfold place_lots
    rw [ValuesE g hg, hE]
    simp only [Option.bind_some, bne_self_eq_false, cond_false]
    rw [Live_eq g hg, hlive]
    simp only [Option.bind_some]
    rw [h1]
    rfl
  · refine .inr ⟨hv, e, he, hE, ?_⟩
    unfold place_lots
    rw [ValuesE g hg, hE]
    simp only [Option.bind_some]
    rw [show (e != 0) = true by simpa using he]
    rfl
end Go.V.P
