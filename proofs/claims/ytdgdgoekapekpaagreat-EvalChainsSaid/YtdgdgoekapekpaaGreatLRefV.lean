/- Plain laws of layer 5: what the document makes at a place is what the code makes. -/
import Derived.Test.YtdgdgoekapekpaaGreatLRefN
namespace Go.V.P
open Go Go.V Go.IntWalk
set_option linter.unusedVariables false
set_option linter.unusedSimpArgs false
set_option maxRecDepth 20000
theorem iterN_sim {σ σ' ζ ζ' : Type} {p : σ → Option (σ ⊕ ζ)} {p' : σ' → Option (σ' ⊕ ζ')} (g : σ → σ') (f : ζ → ζ') (I : σ → Prop) (H : ∀ s, I s → p' (g s) = (p s).map (Sum.map g f) ∧ ∀ t, p s = some (.inl t) → I t) : ∀ (n : Nat) (s : σ), I s → iterN p' n (g s) = (iterN p n s).map f
  | 0, s, hs => rfl
  | n + 1, s, hs => by
    obtain ⟨h1, h2⟩ := H s hs
    simp only [iterN]
    rw [h1]
    cases hp : p s with
    | none => rfl
    | some v =>
      cases v with
      | inl t => exact iterN_sim g f I H n t (h2 t hp)
      | inr z => rfl
theorem at_back {a : I4} {d : List Int} (h : Full a d) {y x c : Int} (hc : 0 ≤ c) (hc2 : c < a.2.2.1) : IntKind.wrap .i64 (atV a d y x c + a.2.2.2 - a.2.2.2) = atV a d y x c ∧ IntKind.wrap .i64 (atV a d y x c + a.2.2.2) = atV a d y x c + a.2.2.2 := by
  have h1 := at_in h (y := y) (x := x) hc hc2
  have h2 := h.zero
  exact ⟨by rw [i64_in _ (by omega)]; omega, i64_in _ (by omega)⟩
/-! ### Sums under a window -/
theorem r22_eq {a : I4} {d : List Int} (h : Full a d) (n : Node) (y x c i j t u : Int) (s : Int × Int) (h0 : 0 ≤ s.1) (h1 : s.1 < a.2.2.1) :
    ref05_sum_r22_p n a (0, a.1, d) y x c (t, i) (u, j) (s.2, s.1) = kern_conv_1_1_r6_p i j y n x c (paneV a d) s := by
  have e1 : ref05_sum_r15_p n y (t, i) = (kern_conv_1_1_r0_p i j y n x c).1 := rfl
  have e2 : ref05_sum_r16_p n x (u, j) = (kern_conv_1_1_r0_p i j y n x c).2.1 := rfl
  have e3 : IntKind.wrap .i64 (IntKind.wrap .i64 (IntKind.wrap .i64 (IntKind.wrap .i64 (c * n.2.2.1) + i) * n.2.2.1) + j) = (kern_conv_1_1_r0_p i j y n x c).2.2 := rfl
  have e4 : (paneV a d).2.2.1 = a.2.2.1 := rfl
  unfold ref05_sum_r22_p kern_conv_1_1_r6_p
  rw [e1, e2]
  simp only [e3, e4, number_eq h h0 h1, pane_at_eq h h0 h1, Option.bind_some, (at_back h h0 h1).1]
theorem r18_eq {a : I4} {d : List Int} (h : Full a d) (n : Node) (y x c i j t u : Int) (h0 : 0 ≤ c) (h1 : c < a.2.2.1) :
    ref05_sum_r18_p n a (0, a.1, d) y x c (t, i) (u, j) = kern_conv_1_1_r2_p i j y n x c (paneV a d) u := by
  have e1 : ref05_sum_r15_p n y (t, i) = (kern_conv_1_1_r0_p i j y n x c).1 := rfl
  have e2 : ref05_sum_r16_p n x (u, j) = (kern_conv_1_1_r0_p i j y n x c).2.1 := rfl
  have e3 : IntKind.wrap .i64 (IntKind.wrap .i64 (IntKind.wrap .i64 (IntKind.wrap .i64 (c * n.2.2.1) + i) * n.2.2.1) + j) = (kern_conv_1_1_r0_p i j y n x c).2.2 := rfl
  unfold ref05_sum_r18_p kern_conv_1_1_r2_p
  rw [e1, e2]
  simp only [e3, number_eq h h0 h1, pane_at_eq h h0 h1, Option.bind_some, (at_back h h0 h1).1]
abbrev swp (s : Int × Int) : Int × Int := (s.2, s.1)
theorem j15_eq {a : I4} {d : List Int} (h : Full a d) (n : Node) (y x c i j t u : Int) (h0 : 0 ≤ c) (h1 : n.1 = 2 → c < a.2.2.1) :
    ref05_sum_j15_p n a (0, a.1, d) y x c (t, i) (u, j) = kern_conv_1_1 i j y n x c (paneV a d) u := by
  unfold ref05_sum_j15_p kern_conv_1_1
  by_cases h2 : n.1 = 2
  · rw [show (n.1 == 2) = true by simpa using h2, cond_true, cond_true, r18_eq h n y x c i j t u h0 (h1 h2)]
  · rw [show (n.1 == 2) = false by simpa using h2, cond_false, cond_false]
    have hl := h.lim
    have := iterN_sim (p := kern_conv_1_1_l4_p i j y n x c (paneV a d)) (p' := ref05_sum_l20_p n a (0, a.1, d) y x c (t, i) (u, j)) swp swp (fun s => 0 ≤ s.1) (fun s hs => by
      have e4 : (paneV a d).2.2.1 = a.2.2.1 := rfl
      unfold ref05_sum_l20_p kern_conv_1_1_l4_p
      rw [e4]
      by_cases hlt : s.1 < a.2.2.1
      · rw [decide_eq_true hlt, cond_true, cond_true, show swp s = (s.2, s.1) from rfl, r22_eq h n y x c i j t u s hs hlt]
        have w := i64_in (s.1 + 1) (by omega)
        cases kern_conv_1_1_r6_p i j y n x c (paneV a d) s with
        | none => exact ⟨rfl, fun t ht => by simp at ht⟩
        | some v => exact ⟨rfl, fun t ht => by simp only [Option.bind_some, Option.some.injEq, Sum.inl.injEq] at ht; rw [← ht]; show 0 ≤ IntKind.wrap .i64 (s.1 + 1); rw [w]; omega⟩
      · rw [decide_eq_false hlt]
        exact ⟨rfl, fun t ht => by simp at ht⟩) LL (0, u) (Int.le_refl 0)
    rw [show ((u, (0 : Int)) : Int × Int) = swp (0, u) from rfl, this]
    cases iterN (kern_conv_1_1_l4_p i j y n x c (paneV a d)) LL (0, u) <;> rfl
theorem l13_eq {a : I4} {d : List Int} (h : Full a d) (n : Node) (y x c i t u : Int) (h0 : 0 ≤ c) (h1 : n.1 = 2 → c < a.2.2.1) (s : Int × Int) :
    ref05_sum_l13_p n a (0, a.1, d) y x c (t, i) (swp s) = (kern_slide_s2_l4_p n.2.2.1 y n x c (paneV a d) (i, u) s).map (Sum.map swp swp) := by
  unfold ref05_sum_l13_p kern_slide_s2_l4_p
  rw [show swp s = (s.2, s.1) from rfl, j15_eq h n y x c i s.1 t s.2 h0 h1]
  by_cases hlt : s.1 < n.2.2.1
  · rw [decide_eq_true hlt, cond_true, cond_true]
    cases kern_conv_1_1 i s.1 y n x c (paneV a d) s.2 <;> rfl
  · rw [decide_eq_false hlt]
    rfl
theorem l10_eq {a : I4} {d : List Int} (h : Full a d) (n : Node) (y x c : Int) (h0 : 0 ≤ c) (h1 : n.1 = 2 → c < a.2.2.1) (s : Int × Int) :
    ref05_sum_l10_p n a (0, a.1, d) y x c (swp s) = (kern_slide_s2_l1_p n.2.2.1 y n x c (paneV a d) s).map (Sum.map swp swp) := by
  unfold ref05_sum_l10_p kern_slide_s2_l1_p
  have := iterN_sim (p := kern_slide_s2_l4_p n.2.2.1 y n x c (paneV a d) (s.1, s.2)) (p' := ref05_sum_l13_p n a (0, a.1, d) y x c (s.2, s.1)) swp swp (fun _ => True) (fun q _ => ⟨l13_eq h n y x c s.1 s.2 s.2 h0 h1 q, fun _ _ => trivial⟩) LL (0, s.2) trivial
  rw [show swp s = (s.2, s.1) from rfl, show (((s.2, s.1) : Int × Int).1, (0 : Int)) = swp (0, s.2) from rfl, this]
  by_cases hlt : s.1 < n.2.2.1
  · rw [decide_eq_true hlt, cond_true, cond_true]
    cases iterN (kern_slide_s2_l4_p n.2.2.1 y n x c (paneV a d) (s.1, s.2)) LL (0, s.2) <;> rfl
  · rw [decide_eq_false hlt]
    rfl
theorem one_conv {a : I4} {d : List Int} (h : Full a d) (n : Node) (d2 : List Int) (s : I3) (y x c : Int) (ho : n.1 = 1 ∨ n.1 = 2) (h0 : 0 ≤ c) (h1 : n.1 = 2 → c < a.2.2.1) :
    ref05_one n [a] (wins [a] (d, d2)) s y x c = kern_conv_1 y x c n (paneV a d) := by
  rw [one_sum n a _ s y x c (by omega)]
  unfold ref05_sum kern_conv_1 kern_slide_s2
  have hn : (n.1 == 3) = false := by simp only [beq_eq_false_iff_ne]; omega
  have := iterN_sim (p := kern_slide_s2_l1_p n.2.2.1 y n x c (paneV a d)) (p' := ref05_sum_l10_p n a (0, a.1, d) y x c) swp swp (fun _ => True) (fun q _ => ⟨l10_eq h n y x c h0 h1 q, fun _ _ => trivial⟩) LL (0, IntKind.wrap .i64 (gt n.2.2.2.2.2.2.2.2.2.2.2.2.2 c 0)) trivial
  have e : ref05_sum_r2_p n c = kern_conv_1_r1_p c n := rfl
  have hw : ((wins [a] (d, d2)).1, (wins [a] (d, d2)).2.1, (wins [a] (d, d2)).2.2.1) = ((0 : Int), a.1, d) := rfl
  rw [e, hn, hw]
  rw [show ((IntKind.wrap .i64 (gt n.2.2.2.2.2.2.2.2.2.2.2.2.2 c 0)), (0 : Int)) = swp (0, IntKind.wrap .i64 (gt n.2.2.2.2.2.2.2.2.2.2.2.2.2 c 0)) from rfl, this]
  cases kern_conv_1_r1_p c n with
  | none => rfl
  | some v =>
    simp only [Option.bind_some, cond_false]
    cases iterN (kern_slide_s2_l1_p n.2.2.1 y n x c (paneV a d)) LL (0, IntKind.wrap .i64 (gt n.2.2.2.2.2.2.2.2.2.2.2.2.2 c 0)) with
    | none => rfl
    | some q =>
      simp only [Option.map_some, Option.bind_some, fixed_Scale_eq, ref01_Scale_eq]
theorem one_full {a : I4} {d : List Int} (h : Full a d) (n : Node) (d2 : List Int) (s : I3) (y x c : Int) (ho : n.1 = 3) :
    ref05_one n [a] (wins [a] (d, d2)) s y x c = kern_full_1 y x c n (paneV a d) := by
  rw [one_sum n a _ s y x c (by omega)]
  have hn : (n.1 == 3) = true := by simpa using ho
  have hw : ((wins [a] (d, d2)).1, (wins [a] (d, d2)).2.1, (wins [a] (d, d2)).2.2.1) = ((0 : Int), a.1, d) := rfl
  have es : shape_Size ((paneV a d).1, (paneV a d).2.1, (paneV a d).2.2.1) = some (sizeV (vS a)) := shape_Size_eq _
  have er : ref02_Size (a.1, a.2.1, a.2.2.1) = sizeV (vS a) := ref02_Size_eq _
  have hpd : (paneV a d).2.2.2.2.2.2 = d := rfl
  have hpz : (paneV a d).2.2.2.1 = a.2.2.2 := rfl
  have hl := h.len
  have step : ref05_sum_l5_p n a (0, a.1, d) c = kern_full_1_l3_p c n (paneV a d) (sizeV (vS a)) := funext fun q => by
    unfold ref05_sum_l5_p ref05_sum_r7_p kern_full_1_l3_p kern_full_1_r4_p kern_full_1_r5_p
    rw [er, hpd, hpz, hl]
    generalize decide (q.2 < sizeV (vS a)) = b1
    generalize decide ((0 : Int) ≤ q.2) = b2
    cases b1 <;> cases b2 <;> rfl
  unfold ref05_sum kern_full_1 kern_full_1_r1_p ref05_sum_r2_p
  rw [hn, hw, step, es]
  generalize decide ((0 : Int) ≤ c) = b1
  generalize decide (c < (n.2.2.2.2.2.2.2.2.2.2.2.2.2.length : Int)) = b2
  cases b1 with
  | false => rfl
  | true =>
    cases b2 with
    | false => rfl
    | true =>
      simp only [cond_true, Option.bind_some]
      cases iterN (kern_full_1_l3_p c n (paneV a d) (sizeV (vS a))) LL (IntKind.wrap .i64 (gt n.2.2.2.2.2.2.2.2.2.2.2.2.2 c 0), 0) with
      | none => rfl
      | some q =>
        simp only [Option.bind_some, fixed_Scale_eq, ref01_Scale_eq]
end Go.V.P
