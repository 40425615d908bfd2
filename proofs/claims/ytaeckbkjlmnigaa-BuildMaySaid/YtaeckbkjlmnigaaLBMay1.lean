/- Plain laws of layers 8 and 9: commands that may be; streams of them. -/
import Derived.Test.YtaeckbkjlmnigaaLBuild3
import Derived.Test.YtaeckbkjlmnigaaBm2
import Derived.Test.YtaeckbkjlmnigaaBm2
namespace Go.V.P
open Go Go.V Go.IntWalk
set_option linter.unusedVariables false
set_option linter.unusedSimpArgs false
set_option maxRecDepth 20000
theorem in8 {x a b : Int} (h : a ≤ x ∧ x ≤ b) : ref08_in x a b = true := by
  simp only [ref08_in, ref08_in_q, ref08_in_r1_p, ref08_in_r1_q]
  rw [decide_eq_true (show x ≥ a from h.1), decide_eq_true h.2]
  rfl
theorem may_copy {k r w d p : Int} (hk : k = 1 ∨ k = 2) (h1 : 1 ≤ r ∧ r ≤ 16) (h2 : 1 ≤ w ∧ w ≤ 128) (h3 : 0 ≤ d ∧ d ≤ 65535) (h4 : 0 ≤ p ∧ p ≤ 1023) : ref08_May (k, 0, 0, 0, r, w, d, p, 0, 0, 0, 0, 0, 0) = some 0 := by
  unfold ref08_May ref08_May_j3_p
  simp only [ref08_May_r6_p, ref08_May_r6_q, ref08_May_j4_p, ref08_May_j4_q, in8 h1, in8 h2, in8 h3, in8 h4, cond_true]
  rcases hk with rfl | rfl <;> rfl
theorem may_kern {i r : Int} (h1 : 0 ≤ i ∧ i ≤ 11) (h2 : 1 ≤ r ∧ r ≤ 16) : ref08_May (4, 0, i, 0, r, 0, 0, 0, 0, 0, 0, 0, 0, 0) = some 0 := by
  unfold ref08_May ref08_May_j3_p
  simp only [ref08_May_r19_p, ref08_May_r19_q, ref08_May_j4_p, ref08_May_j4_q, in8 h1, in8 h2, cond_true]
  rfl
theorem may_sem {k s : Int} (hk : k = 5 ∨ k = 6) (h1 : 0 ≤ s ∧ s ≤ 7) : ref08_May (k, s, 0, 0, 0, 0, 0, 0, 0, 0, 0, 0, 0, 0) = some 0 := by
  unfold ref08_May ref08_May_j3_p
  simp only [ref08_May_j22_p, ref08_May_j22_q, ref08_May_j4_p, ref08_May_j4_q, in8 h1, cond_true]
  rcases hk with rfl | rfl <;> rfl
theorem may_halt : ref08_May hlt = some 0 := by decide +kernel
theorem may_tile {i f r p p0 p1 b0 b1 c0 c1 : Int} (h1 : 0 ≤ i ∧ i ≤ 11) (h2 : 0 ≤ f ∧ f ≤ 15) (h3 : 1 ≤ r ∧ r ≤ 16) (h4 : 0 ≤ p ∧ p ≤ 1023) (h5 : 0 ≤ p0 ∧ p0 ≤ 1023) (h6 : 0 ≤ p1 ∧ p1 ≤ 1023) (h7 : 0 ≤ b0 ∧ b0 ≤ 15) (h8 : 0 ≤ b1 ∧ b1 ≤ 15) (h9 : 0 ≤ c0 ∧ c0 ≤ 16) (h10 : 0 ≤ c1 ∧ c1 ≤ 16) :
    ref08_May (3, 0, i, f, r, 0, 0, p, p0, p1, b0, b1, c0, c1) = some 0 := by
  have hr : ref08_May_r12_p (3, 0, i, f, r, 0, 0, p, p0, p1, b0, b1, c0, c1) = true := by
    simp only [ref08_May_r12_p, ref08_May_r12_q, in8 h1, in8 h2, in8 h3, in8 h4, cond_true]
  have hl : iterN (ref08_May_l14_p (3, 0, i, f, r, 0, 0, p, p0, p1, b0, b1, c0, c1)) LL (true, 0) = some (true, 2) := by
    have := iterN_for (p := ref08_May_l14_p (3, 0, i, f, r, 0, 0, p, p0, p1, b0, b1, c0, c1)) (z := (true, (2 : Int))) 2 (fun j => (true, (j : Int))) LL (LL_lt (by omega)) (fun j hj => by
      rcases (by omega : j = 0 ∨ j = 1) with rfl | rfl
      · simp only [ref08_May_l14_p, ref08_May_r16_p, in8 h5, in8 h7, in8 h9, cond_true]
        rfl
      · simp only [ref08_May_l14_p, ref08_May_r16_p, in8 h6, in8 h8, in8 h10, cond_true]
        rfl) rfl
    exact this
  unfold ref08_May ref08_May_j3_p
  simp only [ref08_May_j4_p, ref08_May_j4_q, hr]
  show Option.bind (Option.bind (iterN (ref08_May_l14_p (3, 0, i, f, r, 0, 0, p, p0, p1, b0, b1, c0, c1)) LL (true, 0)) _) _ = _
  rw [hl]
  rfl
def mayC (c : I14) : Prop := ref08_May c = some 0 ∧ ((c.1 = 1 ∨ c.1 = 2 ∨ c.1 = 3 ∨ c.1 = 4) ∨ ((c.1 = 5 ∨ c.1 = 6) ∧ 0 ≤ c.2.1 ∧ c.2.1 < 8))
def mayS (l : List I14) : Prop := ∀ c ∈ l, mayC c
theorem mayS_nil : mayS [] := fun c h => by cases h
theorem mayS_cons {c : I14} {l : List I14} : mayS (c :: l) ↔ mayC c ∧ mayS l := by simp [mayS]
theorem mayS_append {a b : List I14} : mayS (a ++ b) ↔ mayS a ∧ mayS b := by
  simp only [mayS, List.mem_append]
  exact ⟨fun h => ⟨fun c hc => h c (.inl hc), fun c hc => h c (.inr hc)⟩, fun h c hc => hc.elim (h.1 c) (h.2 c)⟩
theorem putE_may : ∀ {l : List I14}, mayS l → putE ref08_May (l ++ [hlt]) = some 0
  | [], _ => by simp only [List.nil_append, putE, may_halt, Option.bind_some, beq_self_eq_true, cond_true]
  | c :: l, h => by
    obtain ⟨h1, h2⟩ := mayS_cons.1 h
    simp only [List.cons_append, putE, h1.1, Option.bind_some, beq_self_eq_true, cond_true, putE_may h2]
theorem Put_may {l : List I14} (h : mayS l) (hl : l.length ≤ 4000) : ref08_Put (l ++ [hlt]) = some ((), 0) := by
  unfold ref08_Put putL
  rw [decide_eq_false (by simp; omega), putE_may h]
  rfl
end Go.V.P
namespace Go.V.P
open Go Go.V Go.IntWalk
set_option linter.unusedVariables false
set_option linter.unusedSimpArgs false
set_option maxRecDepth 20000
def tilesB16 (h k : Int) : Bool := match halo_Tiles h k with
  | some L => decide (L.length ≤ 16)
  | none => false
theorem tiles_few (h k : Int) {L : List I2} (h1 : 1 ≤ h) (h2 : h < 1 + (16 : Nat)) (h3 : 1 ≤ k) (h4 : k ≤ h) (hL : halo_Tiles h k = some L) : L.length ≤ 16 := by
  have key : k ≤ h → tilesB16 h k = true := by
    have h5 : k < 1 + (16 : Nat) := by omega
    clear h4 hL
    revert k; refine rng1 fun j hj => ?_
    revert h; refine rng1 fun i hi => ?_
    revert j i
    decide +kernel
  have h5 := key h4
  unfold tilesB16 at h5
  rw [hL] at h5
  exact of_decide_eq_true h5
theorem row_in {s : I3} (h : mayB s = true) : 1 ≤ rowV s ∧ rowV s ≤ 128 := by
  obtain ⟨_, _, h3, h4, h5, h6⟩ := mayB_iff.1 h
  unfold rowV
  rw [if_pos h]
  exact ⟨by have := Int.mul_le_mul h3 h5 (by omega) (by omega); omega, by have := Int.mul_le_mul h4 h6 (by omega) (by omega); omega⟩
theorem nd_pos {n : Node} {l : List I4} {z : I4} (h : NodeOK n l z) (hn : n.1 ≠ 3 ∧ n.1 ≠ 9 ∧ n.1 ≠ 11) {first rows : Int} (h1 : 0 ≤ first) (h2 : 1 ≤ rows) (h3 : first + rows ≤ z.1) {a : I4} (ha : a ∈ l) :
    (ndV n first rows a.1).1 < (ndV n first rows a.1).2 := by
  have hma := mayB_iff.1 (h.all a ha)
  simp only [vS] at hma
  by_cases hw : wop n.1
  · obtain ⟨g1, g2, g3⟩ := win_of h hw ha
    have p1 := place_in g1 h1 (by omega) g3
    have p2 := ends_up (stride := n.2.2.2.1) (p := first) (q := first + rows - 1) a.1 n.2.2.2.2.1 (k := n.2.2.1) (by have := winB_iff.1 g1; omega) (by omega)
    unfold ndV
    rw [if_pos hw]
    unfold loV hiV at *
    simp only
    omega
  · have h11 : ¬ (n.1 = 3 ∨ n.1 = 11) := by omega
    have := same_of h hw hn.2.1 h11 ha
    unfold ndV
    rw [if_neg hw, if_neg hn.2.1, if_neg h11]
    simp only
    omega
theorem par_in {t a b : Int} {lo hi : Int} (ha : lo ≤ a ∧ a ≤ hi) (hb : lo ≤ b ∧ b ≤ hi) : lo ≤ par t a b ∧ par t a b ≤ hi := by
  unfold par
  split
  · exact ha
  · exact hb
section
variable {vals : List I4} {n : Node} {inn : List I4} {z : I4} {places : List Int} {tiles : List I2} {b : I7}
structure BufIn (b : I7) : Prop where
  i0 : 0 ≤ b.1 ∧ b.1 ≤ 1023
  i1 : 0 ≤ b.2.1 ∧ b.2.1 ≤ 1023
  j0 : 0 ≤ b.2.2.1 ∧ b.2.2.1 ≤ 1023
  j1 : 0 ≤ b.2.2.2.1 ∧ b.2.2.2.1 ≤ 1023
  o0 : 0 ≤ b.2.2.2.2.1 ∧ b.2.2.2.2.1 ≤ 1023
  o1 : 0 ≤ b.2.2.2.2.2.1 ∧ b.2.2.2.2.2.1 ≤ 1023
theorem Tiled.bufs (h : Tiled n inn z) (hok : NodeOK n inn z) : BufIn (bufs (mostV n inn) 0).1 := by
  obtain ⟨h0, h1, h2⟩ := h.b0
  have hf := h.fit
  have h3 := (h.most.le _ h.most.first).2.2
  have hr := row_in hok.may
  have hk := h.best
  have h4 : 1 ≤ (sz n z 0 (bestV n inn) inn).2.2 := by
    have : 1 * 1 ≤ bestV n inn * rowV (vS z) := Int.mul_le_mul hk.1 hr.1 (by omega) (by omega)
    rcases hok.len with hh | hh
    · obtain ⟨a, rfl⟩ := List.length_eq_one_iff.1 hh
      simp only [sz]; omega
    · obtain ⟨a, a', rfl⟩ := len2 hh
      simp only [sz]; omega
  simp only at h3
  unfold takes at hf
  unfold Go.V.P.bufs takes
  rw [if_pos rfl, if_neg (by omega)]
  constructor <;> simp only <;> omega
def PlcIn (places : List Int) : Prop := ∀ k : Nat, k < places.length → 0 ≤ gt places (k : Int) 0 ∧ gt places (k : Int) 0 ≤ 32768
theorem PlcIn.at_ (h : PlcIn places) {k : Int} (h0 : 0 ≤ k) (h1 : k < (places.length : Int)) : 0 ≤ gt places k 0 ∧ gt places k 0 ≤ 32768 := by
  obtain ⟨j, rfl⟩ : ∃ j : Nat, k = (j : Int) := ⟨k.toNat, by omega⟩
  exact h j (by omega)
theorem ld_may (hok : NodeOK n inn z) (hn : n.1 ≠ 3 ∧ n.1 ≠ 9 ∧ n.1 ≠ 11) {a : I4} (ha : a ∈ inn) {at_ pad : Int} {f : I2} (hf : 0 ≤ f.1 ∧ 1 ≤ f.2 ∧ f.1 + f.2 ≤ z.1) (h1 : 0 ≤ at_ ∧ at_ ≤ 32768) (h2 : 0 ≤ pad ∧ pad ≤ 1023) : mayC (ldC n a at_ f pad) := by
  have hnd := nd_in hok hf.1 hf.2.1 hf.2.2 ha
  have hps := nd_pos hok hn hf.1 hf.2.1 hf.2.2 ha
  have hr := row_in (hok.all a ha)
  have hm : 0 ≤ (ndV n f.1 f.2 a.1).1 * rowV (vS a) ∧ (ndV n f.1 f.2 a.1).1 * rowV (vS a) ≤ 2048 := mul_in' (c := 16) (d := 128) (by omega) (by omega) (by omega) (by omega)
  unfold ldC
  rw [i64_in ((ndV n f.1 f.2 a.1).2 - (ndV n f.1 f.2 a.1).1) (by omega), i64_in ((ndV n f.1 f.2 a.1).1 * rowV (vS a)) (by omega), i64_in _ (by omega)]
  exact ⟨may_copy (.inl rfl) (by omega) hr (by omega) h2, .inl (.inl rfl)⟩
theorem st_may (hok : NodeOK n inn z) {at_ pad : Int} {f : I2} (hf : 0 ≤ f.1 ∧ 1 ≤ f.2 ∧ f.1 + f.2 ≤ z.1) (h1 : 0 ≤ at_ ∧ at_ ≤ 32768) (h2 : 0 ≤ pad ∧ pad ≤ 1023) : mayC (stC z at_ f pad) := by
  have hz := mayB_iff.1 hok.may
  simp only [vS] at hz
  have hr := row_in hok.may
  have hm : 0 ≤ f.1 * rowV (vS z) ∧ f.1 * rowV (vS z) ≤ 2048 := mul_in' (c := 16) (d := 128) (by omega) (by omega) (by omega) (by omega)
  unfold stC
  rw [i64_in (f.1 * rowV (vS z)) (by omega), i64_in _ (by omega)]
  exact ⟨may_copy (.inr rfl) (by omega) hr (by omega) h2, .inl (.inr (.inl rfl))⟩
theorem tl_may (hok : NodeOK n inn z) {i pad p0 p1 : Int} (hi : 0 ≤ i ∧ i ≤ 11) {f : I2} (hf : 0 ≤ f.1 ∧ 1 ≤ f.2 ∧ f.1 + f.2 ≤ z.1) (h1 : 0 ≤ pad ∧ pad ≤ 1023) (h2 : 0 ≤ p0 ∧ p0 ≤ 1023) (h3 : 0 ≤ p1 ∧ p1 ≤ 1023) (hn : n.1 ≠ 3 ∧ n.1 ≠ 9 ∧ n.1 ≠ 11) : mayC (tlC n i inn f pad p0 p1) := by
  have hz := mayB_iff.1 hok.may
  simp only [vS] at hz
  rcases hok.len with hh | hh
  · obtain ⟨a, rfl⟩ := List.length_eq_one_iff.1 hh
    have hnd := nd_in hok hf.1 hf.2.1 hf.2.2 (a := a) (by simp)
    have hps := nd_pos hok hn hf.1 hf.2.1 hf.2.2 (a := a) (by simp)
    simp only [tlC]
    rw [i64_in ((ndV n f.1 f.2 a.1).2 - (ndV n f.1 f.2 a.1).1) (by omega)]
    exact ⟨may_tile hi (by omega) (by omega) h1 h2 (by omega) (by omega) (by omega) (by omega) (by omega), .inl (.inr (.inr (.inl rfl)))⟩
  · obtain ⟨a, a', rfl⟩ := len2 hh
    have hnd := nd_in hok hf.1 hf.2.1 hf.2.2 (a := a) (by simp)
    have hps := nd_pos hok hn hf.1 hf.2.1 hf.2.2 (a := a) (by simp)
    have hnd' := nd_in hok hf.1 hf.2.1 hf.2.2 (a := a') (by simp)
    have hps' := nd_pos hok hn hf.1 hf.2.1 hf.2.2 (a := a') (by simp)
    simp only [tlC]
    rw [i64_in ((ndV n f.1 f.2 a.1).2 - (ndV n f.1 f.2 a.1).1) (by omega), i64_in ((ndV n f.1 f.2 a'.1).2 - (ndV n f.1 f.2 a'.1).1) (by omega)]
    exact ⟨may_tile hi (by omega) (by omega) h1 h2 h3 (by omega) (by omega) (by omega) (by omega), .inl (.inr (.inr (.inl rfl)))⟩
theorem sg_may {s : Int} (h : 0 ≤ s ∧ s ≤ 7) : mayC (sg s) := ⟨may_sem (.inr rfl) h, .inr ⟨.inr rfl, h.1, by show s < 8; omega⟩⟩
theorem wt_may {s : Int} (h : 0 ≤ s ∧ s ≤ 7) : mayC (wt s) := ⟨may_sem (.inl rfl) h, .inr ⟨.inl rfl, h.1, by show s < 8; omega⟩⟩
theorem load_may (h : TileOK vals places n inn z tiles) (hn : n.1 ≠ 3 ∧ n.1 ≠ 9 ∧ n.1 ≠ 11) (hP : PlcIn places) (hb : BufIn b) (t : Nat) : mayS (loadC n inn places tiles b (t : Int)) := by
  have hok := value_ok h.hl h.hB h.val
  unfold loadC
  split
  · exact mayS_nil
  · rename_i ht
    have hf := h.at_ (t := t) (by omega)
    rcases h.len with hh | hh
    · have l0 := h.lies 0 (by omega)
      obtain ⟨a, rfl⟩ := List.length_eq_one_iff.1 hh
      simp only [ldsC]
      exact mayS_cons.2 ⟨ld_may hok hn (by simp) hf (hP.at_ l0.1 l0.2) (par_in hb.i0 hb.i1), mayS_cons.2 ⟨sg_may (by omega), mayS_nil⟩⟩
    · have l0 := h.lies 0 (by omega)
      have l1 := h.lies 1 (by omega)
      obtain ⟨a, a', rfl⟩ := len2 hh
      simp only [ldsC]
      exact mayS_cons.2 ⟨ld_may hok hn (by simp) hf (hP.at_ l0.1 l0.2) (par_in hb.i0 hb.i1), mayS_cons.2 ⟨ld_may hok hn (by simp) hf (hP.at_ l1.1 l1.2) (par_in hb.j0 hb.j1), mayS_cons.2 ⟨sg_may (by omega), mayS_nil⟩⟩⟩
theorem dma_may (h : TileOK vals places n inn z tiles) (hn : n.1 ≠ 3 ∧ n.1 ≠ 9 ∧ n.1 ≠ 11) (hP : PlcIn places) (hb : BufIn b) {to : Int} (hto : 0 ≤ to ∧ to < (places.length : Int)) : ∀ t : Nat, t ≤ tiles.length → mayS (dmaS n inn places tiles b to z t)
  | 0, _ => mayS_append.2 ⟨load_may h hn hP hb 0, load_may h hn hP hb 1⟩
  | t + 1, ht => by
    have hok := value_ok h.hl h.hB h.val
    simp only [dmaS]
    exact mayS_append.2 ⟨mayS_append.2 ⟨dma_may h hn hP hb hto t (by omega), mayS_cons.2 ⟨wt_may (by omega), mayS_cons.2 ⟨st_may hok (h.at_ (by omega)) (hP.at_ hto.1 hto.2) (par_in hb.o0 hb.o1), mayS_cons.2 ⟨sg_may (by omega), mayS_nil⟩⟩⟩⟩, load_may h hn hP hb (t + 2)⟩
theorem eng_may (h : TileOK vals places n inn z tiles) (hn : n.1 ≠ 3 ∧ n.1 ≠ 9 ∧ n.1 ≠ 11) (hb : BufIn b) {i : Int} (hi : 0 ≤ i ∧ i ≤ 11) : ∀ t : Nat, t ≤ tiles.length → mayS (engS n inn tiles b i t)
  | 0, _ => mayS_nil
  | t + 1, ht => by
    have hok := value_ok h.hl h.hB h.val
    have h1 := eng_may h hn hb hi t (by omega)
    have h2 : mayS [tlT n inn tiles b i t, sg 1] := mayS_cons.2 ⟨tl_may hok hi (h.at_ (by omega)) (par_in hb.o0 hb.o1) (par_in hb.i0 hb.i1) (par_in hb.j0 hb.j1) hn, mayS_cons.2 ⟨sg_may (by omega), mayS_nil⟩⟩
    have h3 : mayS [wt 0] := mayS_cons.2 ⟨wt_may (by omega), mayS_nil⟩
    have h4 : mayS [wt 2] := mayS_cons.2 ⟨wt_may (by omega), mayS_nil⟩
    simp only [engS]
    split
    · exact mayS_append.2 ⟨mayS_append.2 ⟨mayS_append.2 ⟨h1, h3⟩, h4⟩, h2⟩
    · exact mayS_append.2 ⟨mayS_append.2 ⟨h1, h3⟩, h2⟩
end
section
variable {g : Graph} {vals : List I4} {places : List Int}
theorem node_may (hg : okGraph g) (hv : valuesV g = some vals) (hp : places.length = vals.length) (hP : PlcIn places) {i : Nat} (hi : i < g.2.1.length) :
    (mayS (nodeG g vals places i).1 ∧ mayS (nodeG g vals places i).2.1 ∧ mayS (nodeG g vals places i).2.2) ∧ (nodeG g vals places i).1.length ≤ 110 ∧ (nodeG g vals places i).2.1.length ≤ 110 ∧ (nodeG g vals places i).2.2.length ≤ 110 := by
  have hA := node_at (places := places) hg hv hp hi
  obtain ⟨hl, hb, hin, _⟩ := values_in hv
  obtain ⟨b1, b2⟩ := best_V hA.hl hA.ok.2.2 hA.val
  have hok := value_ok hA.hl hA.ok.2.2 hA.val
  have hz := mayB_iff.1 hok.may
  simp only [vS] at hz
  unfold nodeG nodeC
  rcases b2 with h0 | hT
  · rw [if_pos h0]
    refine ⟨⟨mayS_cons.2 ⟨sg_may (by omega), mayS_cons.2 ⟨wt_may (by omega), mayS_nil⟩⟩, mayS_nil, mayS_cons.2 ⟨wt_may (by omega), mayS_cons.2 ⟨⟨may_kern (by omega) (by omega), .inl (.inr (.inr (.inr rfl)))⟩, mayS_cons.2 ⟨sg_may (by omega), mayS_nil⟩⟩⟩⟩, ?_⟩
    simp [hostC]
  · rw [if_neg (by have := hT.best; omega)]
    have hTO := hT.ok hA.hl hA.ok.2.2 hA.val vals places hA.len fun k hk => by have := hA.lies k hk; omega
    have hbu := hT.bufs hok
    have hn : (gt g.2.1 (i : Int) dNode).1 ≠ 3 ∧ (gt g.2.1 (i : Int) dNode).1 ≠ 9 ∧ (gt g.2.1 (i : Int) dNode).1 ≠ 11 := by
      obtain ⟨f1, _⟩ := nodeF _ _ hok.node
      have h1 := (npu_of _ f1.1 (by omega)).1
      rw [hT.npu] at h1
      have := of_decide_eq_true (Option.some.inj h1).symm
      omega
    have hfew := tiles_few _ _ (by omega) (by omega) hT.best.1 hT.best.2 hT.most.tiles
    have hto := hA.to.plt
    refine ⟨⟨dma_may hTO hn hP hbu (by omega) _ (Nat.le_refl _), mayS_append.2 ⟨eng_may hTO hn hbu (by omega) _ (Nat.le_refl _), fun c hc => ?_⟩, mayS_nil⟩, ?_, ?_, ?_⟩
    · obtain ⟨_, rfl⟩ := List.mem_replicate.1 hc
      exact wt_may (by omega)
    · have := dmaS_len (n := gt g.2.1 (i : Int) dNode) (inn := innV g vals i) (places := places) (tiles := tilesV (gt vals ((g.1.length + i : Nat) : Int) dI4) (gt g.2.1 (i : Int) dNode) (innV g vals i)) (b := (bufs (mostV (gt g.2.1 (i : Int) dNode) (innV g vals i)) 0).1) (z := gt vals ((g.1.length + i : Nat) : Int) dI4) ((g.1.length + i : Nat) : Int) (tilesV (gt vals ((g.1.length + i : Nat) : Int) dI4) (gt g.2.1 (i : Int) dNode) (innV g vals i)).length
      simp only [streamsC]
      omega
    · have := engS_len (n := gt g.2.1 (i : Int) dNode) (inn := innV g vals i) (tiles := tilesV (gt vals ((g.1.length + i : Nat) : Int) dI4) (gt g.2.1 (i : Int) dNode) (innV g vals i)) (b := (bufs (mostV (gt g.2.1 (i : Int) dNode) (innV g vals i)) 0).1) (i : Int) (tilesV (gt vals ((g.1.length + i : Nat) : Int) dI4) (gt g.2.1 (i : Int) dNode) (innV g vals i)).length
      simp only [streamsC, List.length_append, List.length_replicate]
      omega
    · simp [streamsC]
theorem str_may (hg : okGraph g) (hv : valuesV g = some vals) (hp : places.length = vals.length) (hP : PlcIn places) : ∀ i : Nat, i ≤ g.2.1.length →
    (mayS (strS g vals places i).1 ∧ mayS (strS g vals places i).2.1 ∧ mayS (strS g vals places i).2.2) ∧ (strS g vals places i).1.length ≤ 110 * i ∧ (strS g vals places i).2.1.length ≤ 110 * i ∧ (strS g vals places i).2.2.length ≤ 110 * i
  | 0, _ => by simp [strS, mayS_nil]
  | i + 1, hi => by
    obtain ⟨⟨a1, a2, a3⟩, a4, a5, a6⟩ := str_may hg hv hp hP i (by omega)
    obtain ⟨⟨b1, b2, b3⟩, b4, b5, b6⟩ := node_may hg hv hp hP (i := i) (by omega)
    simp only [strS, List.length_append]
    exact ⟨⟨mayS_append.2 ⟨a1, b1⟩, mayS_append.2 ⟨a2, b2⟩, mayS_append.2 ⟨a3, b3⟩⟩, by omega, by omega, by omega⟩
end
end Go.V.P
namespace Go.V.P
open Go Go.V Go.IntWalk
set_option linter.unusedVariables false
set_option linter.unusedSimpArgs false
set_option maxRecDepth 20000
def dS (s : Int) (c : I14) : Int := (if c.1 = 6 ∧ c.2.1 = s then 1 else 0) - (if c.1 = 5 ∧ c.2.1 = s then 1 else 0)
def balI (s : Int) : List I14 → Int
  | [] => 0
  | c :: l => dS s c + balI s l
theorem balI_append (s : Int) : ∀ a b : List I14, balI s (a ++ b) = balI s a + balI s b
  | [], b => by simp [balI]
  | c :: a, b => by simp only [List.cons_append, balI, balI_append s a b]; omega
theorem dS_sg (s k : Int) : dS s (sg k) = if k = s then 1 else 0 := by simp [dS]
theorem dS_wt (s k : Int) : dS s (wt k) = if k = s then -1 else 0 := by
  simp only [dS]
  by_cases h : k = s <;> simp [h]
theorem dS_no (s : Int) {c : I14} (h1 : c.1 ≠ 5) (h2 : c.1 ≠ 6) : dS s c = 0 := by simp [dS, h1, h2]
theorem bal_rep (s k : Int) : ∀ n : Nat, balI s (List.replicate n (wt k)) = if k = s then -(n : Int) else 0
  | 0 => by simp [balI]
  | n + 1 => by
    rw [List.replicate_succ]
    simp only [balI, bal_rep s k n, dS_wt]
    split <;> omega
section
variable {n : Node} {inn : List I4} {z : I4} {places : List Int} {tiles : List I2} {b : I7}
theorem bal_load (hl : inn.length = 1 ∨ inn.length = 2) (s : Int) (t : Nat) : balI s (loadC n inn places tiles b (t : Int)) = if s = 0 ∧ t < tiles.length then 1 else 0 := by
  unfold loadC
  by_cases h : (tiles.length : Int) ≤ (t : Int)
  · rw [if_pos h, if_neg (by omega)]
    rfl
  · rw [if_neg h]
    rcases hl with hh | hh
    · obtain ⟨a, rfl⟩ := List.length_eq_one_iff.1 hh
      simp only [ldsC, balI, dS_sg]
      rw [dS_no s (by simp [ldC]) (by simp [ldC])]
      by_cases h0 : s = 0
      · rw [if_pos h0.symm, if_pos ⟨h0, by omega⟩]; rfl
      · rw [if_neg (fun e => h0 e.symm), if_neg (fun e => h0 e.1)]; rfl
    · obtain ⟨a, a', rfl⟩ := len2 hh
      simp only [ldsC, balI, dS_sg]
      rw [dS_no s (by simp [ldC]) (by simp [ldC]), dS_no s (by simp [ldC]) (by simp [ldC])]
      by_cases h0 : s = 0
      · rw [if_pos h0.symm, if_pos ⟨h0, by omega⟩]; rfl
      · rw [if_neg (fun e => h0 e.symm), if_neg (fun e => h0 e.1)]; rfl
theorem bal_dma (hl : inn.length = 1 ∨ inn.length = 2) (to s : Int) : ∀ t : Nat, t ≤ tiles.length → balI s (dmaS n inn places tiles b to z t) = (if s = 0 then (min tiles.length (t + 2) : Nat) else 0 : Int) + (if s = 2 then (t : Int) else 0) - (if s = 1 then (t : Int) else 0)
  | 0, _ => by
    have h0 := bal_load (n := n) (places := places) (tiles := tiles) (b := b) hl s 0
    have h1 := bal_load (n := n) (places := places) (tiles := tiles) (b := b) hl s 1
    have h0' : balI s (loadC n inn places tiles b 0) = _ := h0
    have h1' : balI s (loadC n inn places tiles b 1) = _ := h1
    simp only [dmaS, balI_append, h0', h1']
    by_cases e0 : s = 0
    · subst e0
      by_cases c0 : 0 < tiles.length
      · by_cases c1 : 1 < tiles.length
        · simp [c0, c1]; omega
        · simp [c0, c1]; omega
      · simp [c0, show ¬ 1 < tiles.length by omega]; omega
    · simp [e0]
  | t + 1, ht => by
    have h0 := bal_load (n := n) (places := places) (tiles := tiles) (b := b) hl s (t + 2)
    have hS : dS s (stT places tiles b to z t) = 0 := dS_no s (by simp [stT, stC]) (by simp [stT, stC])
    simp only [dmaS, balI_append, bal_dma hl to s t (by omega), h0, balI, dS_sg, dS_wt, hS]
    by_cases e0 : s = 0
    · subst e0
      by_cases c : t + 2 < tiles.length
      · simp [c]; omega
      · simp [c]; omega
    · by_cases e1 : s = 1
      · subst e1; (try simp) <;> (try omega)
      · by_cases e2 : s = 2
        · subst e2; (try simp) <;> (try omega)
        · simp [e0, e1, e2, Ne.symm e0, Ne.symm e1, Ne.symm e2]
theorem tlC_kind (n : Node) (i : Int) (inn : List I4) (f : I2) (pad p0 p1 : Int) : (tlC n i inn f pad p0 p1).1 = 3 := (tlC_is n i inn f pad p0 p1).1
theorem bal_eng (s i : Int) : ∀ t : Nat, balI s (engS n inn tiles b i t) = (if s = 1 then (t : Int) else 0) - (if s = 0 then (t : Int) else 0) - (if s = 2 then (t - 2 : Nat) else 0 : Int)
  | 0 => by simp [engS, balI]
  | t + 1 => by
    have hT : dS s (tlT n inn tiles b i t) = 0 := by
      have := tlC_kind n i inn (gt tiles (t : Int) dI2) (par (t : Int) b.2.2.2.2.1 b.2.2.2.2.2.1) (par (t : Int) b.1 b.2.1) (par (t : Int) b.2.2.1 b.2.2.2.1)
      refine dS_no s ?_ ?_ <;> (unfold tlT; rw [this]; omega)
    have h0 := bal_eng s i t
    by_cases c : 2 ≤ t
    · simp only [engS, if_pos c, balI_append, h0, balI, dS_sg, dS_wt, hT]
      by_cases e0 : s = 0
      · subst e0; (try simp) <;> (try omega)
      · by_cases e1 : s = 1
        · subst e1; (try simp) <;> (try omega)
        · by_cases e2 : s = 2
          · subst e2; (try simp) <;> (try omega)
          · simp [e0, e1, e2, Ne.symm e0, Ne.symm e1, Ne.symm e2]
    · simp only [engS, if_neg c, balI_append, h0, balI, dS_sg, dS_wt, hT]
      by_cases e0 : s = 0
      · subst e0; (try simp) <;> (try omega)
      · by_cases e1 : s = 1
        · subst e1; (try simp) <;> (try omega)
        · by_cases e2 : s = 2
          · subst e2; (try simp) <;> (try omega)
          · simp [e0, e1, e2, Ne.symm e0, Ne.symm e1, Ne.symm e2]
end
section
variable {g : Graph} {vals : List I4} {places : List Int}
def bal3 (s : Int) (a : A7) : Int := balI s a.1 + balI s a.2.1 + balI s a.2.2
theorem node_bal (hg : okGraph g) (hv : valuesV g = some vals) (hp : places.length = vals.length) {i : Nat} (hi : i < g.2.1.length) (s : Int) : bal3 s (nodeG g vals places i) = 0 := by
  have hA := node_at (places := places) hg hv hp hi
  obtain ⟨b1, b2⟩ := best_V hA.hl hA.ok.2.2 hA.val
  have hok := value_ok hA.hl hA.ok.2.2 hA.val
  unfold nodeG nodeC
  rcases b2 with h0 | hT
  · rw [if_pos h0]
    simp only [bal3, hostC, balI, dS_sg, dS_wt]
    rw [dS_no s (c := (4, 0, (i : Int), 0, _, 0, 0, 0, 0, 0, 0, 0, 0, 0)) (by simp) (by simp)]
    split <;> split <;> omega
  · rw [if_neg (by have := hT.best; omega)]
    simp only [bal3, streamsC, balI_append, bal_rep, bal_dma hok.len _ s _ (Nat.le_refl _), bal_eng, balI]
    generalize (tilesV (gt vals ((g.1.length + i : Nat) : Int) dI4) (gt g.2.1 (i : Int) dNode) (innV g vals i)).length = T
    by_cases e0 : s = 0
    · subst e0; simp; omega
    · by_cases e1 : s = 1
      · subst e1; simp; omega
      · by_cases e2 : s = 2
        · subst e2; (try simp) <;> (try omega)
        · simp [e0, e1, e2, Ne.symm e2]
theorem str_bal (hg : okGraph g) (hv : valuesV g = some vals) (hp : places.length = vals.length) (s : Int) : ∀ i : Nat, i ≤ g.2.1.length → bal3 s (strS g vals places i) = 0
  | 0, _ => by simp [bal3, strS, balI]
  | i + 1, hi => by
    have h1 := str_bal hg hv hp s i (by omega)
    have h2 := node_bal hg hv hp (i := i) (by omega) s
    simp only [bal3, strS, balI_append] at *
    omega
end
end Go.V.P
