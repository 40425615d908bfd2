/- Contracts of the ranges over functions of layer 19. -/
import Derived.Test.YtaeckbkjlmnigaaBmEnv
import Derived.Test.YtaeckbkjlmnigaaHBuild
namespace Go.V.P
open Go Go.RowKit Go.V Go.Proofs
set_option linter.unusedVariables false
def lenOk (im : Image) : Bool := decide (im.2.2.2.2.1.length ≤ maxL) && decide (im.2.2.2.2.2.1.length ≤ maxL) && decide (im.2.2.2.2.2.2.length ≤ maxL)
def bldBudget (im : Image) : Option Int := bif lenOk im then some (sumC (im.2.2.2.2.1 ++ im.2.2.2.2.2.1 ++ im.2.2.2.2.2.2)) else none
def bldTiled (im : Image) : Option (List Bool) := bif lenOk im && decide (im.2.1.length ≤ maxL) then some (tiledC im.2.1.length (im.2.2.2.2.1 ++ im.2.2.2.2.2.1 ++ im.2.2.2.2.2.2)) else none
theorem lenOk_spec {im : Image} (h : lenOk im = true) : (∀ m : Nat, m < im.2.2.2.2.1.length → wrap64 ((m : Int) + 1) = (m : Int) + 1) ∧ (∀ m : Nat, m < im.2.2.2.2.2.1.length → wrap64 ((m : Int) + 1) = (m : Int) + 1) ∧ (∀ m : Nat, m < im.2.2.2.2.2.2.length → wrap64 ((m : Int) + 1) = (m : Int) + 1) := by
  simp only [lenOk, Bool.and_eq_true, decide_eq_true_eq] at h
  obtain ⟨⟨h1, h2⟩, h3⟩ := h
  have hm : maxL = 2147483648 := rfl
  have key : ∀ n : Nat, n ≤ maxL → ∀ m : Nat, m < n → wrap64 ((m : Int) + 1) = (m : Int) + 1 := fun n hn m hmn => by
    rw [hm] at hn
    unfold wrap64
    omega
  exact ⟨key _ h1, key _ h2, key _ h3⟩
section
variable {γ : Gh} {w : World}
theorem rdTs_cons {t : T} {ts : Ts} {x : t.den × ts.den} {b o : Nat} (h : rdTs w γ (.cons t ts) x b o) : (∃ u, w.cell? ⟨b, o, none⟩ = some u ∧ rdT w γ t x.1 u) ∧ rdTs w γ ts x.2 b (o + 1) := by
  simp only [rdTs] at h
  exact ⟨let ⟨u, h1, _, h2⟩ := h.1; ⟨u, h1, h2⟩, h.2⟩
theorem rdTs_one {t : T} {x : t.den} {b o : Nat} (h : rdTs w γ (.one t) x b o) : ∃ u, w.cell? ⟨b, o, none⟩ = some u ∧ rdT w γ t x u := by
  simp only [rdTs] at h
  exact let ⟨u, h1, _, h2⟩ := h; ⟨u, h1, h2⟩
theorem int_cell {b o : Nat} {x : Int} (h : ∃ u, w.cell? ⟨b, o, none⟩ = some u ∧ rdT w γ (.int .i64) x u) : w.cell? ⟨b, o, none⟩ = some (.int .i64 x) := by
  obtain ⟨u, h1, h2⟩ := h
  simp only [rdT] at h2
  rw [h1, h2]
theorem rd_cmd {x : I14} {b o : Nat} (h : rdTs w γ tsI14 x b o) : b < w.heap.size ∧ ∀ j, j < 14 → w.cell? ⟨b, o + j, none⟩ = (cellsC x)[j]? := by
  obtain ⟨g0, h⟩ := rdTs_cons h
  obtain ⟨g1, h⟩ := rdTs_cons h
  obtain ⟨g2, h⟩ := rdTs_cons h
  obtain ⟨g3, h⟩ := rdTs_cons h
  obtain ⟨g4, h⟩ := rdTs_cons h
  obtain ⟨g5, h⟩ := rdTs_cons h
  obtain ⟨g6, h⟩ := rdTs_cons h
  obtain ⟨g7, h⟩ := rdTs_cons h
  obtain ⟨g8, h⟩ := rdTs_cons h
  obtain ⟨g9, h⟩ := rdTs_cons h
  obtain ⟨g10, h⟩ := rdTs_cons h
  obtain ⟨g11, h⟩ := rdTs_cons h
  obtain ⟨g12, h⟩ := rdTs_cons h
  have g13 := rdTs_one h
  have k0 := int_cell g0
  refine ⟨cell_lt k0, fun j hj => ?_⟩
  match j, hj with
  | 0, _ => exact k0
  | 1, _ => exact int_cell g1
  | 2, _ => exact int_cell g2
  | 3, _ => exact int_cell g3
  | 4, _ => exact int_cell g4
  | 5, _ => exact int_cell g5
  | 6, _ => exact int_cell g6
  | 7, _ => exact int_cell g7
  | 8, _ => exact int_cell g8
  | 9, _ => exact int_cell g9
  | 10, _ => exact int_cell g10
  | 11, _ => exact int_cell g11
  | 12, _ => exact int_cell g12
  | 13, _ => exact int_cell g13
  | n + 14, h => exact absurd h (by omega)
theorem rd_cmds {xs : List I14} {v : Value} (h : rdT w γ (.sl tsI14) xs v) : Cmds w.heap.size w v xs := by
  simp only [rdT] at h
  obtain ⟨A, c, e, hc, hx⟩ := h
  refine ⟨A, c, e, hc, fun i x hi => ?_⟩
  obtain ⟨hi', rfl⟩ := List.getElem?_eq_some_iff.1 hi
  obtain ⟨b, o, e2, hr⟩ := hx i hi'
  obtain ⟨h1, h2⟩ := rd_cmd hr
  exact ⟨b, o, e2, h1, h2⟩
theorem list7 {α : Type} {l : List α} (h : l.length = 7) : ∃ a0 a1 a2 a3 a4 a5 a6, l = [a0, a1, a2, a3, a4, a5, a6] := by
  rcases l with _ | ⟨a0, _ | ⟨a1, _ | ⟨a2, _ | ⟨a3, _ | ⟨a4, _ | ⟨a5, _ | ⟨a6, _ | ⟨a7, l⟩⟩⟩⟩⟩⟩⟩⟩
  all_goals first | exact ⟨_, _, _, _, _, _, _, rfl⟩ | (simp only [List.length_cons, List.length_nil] at h; omega)
theorem rd_image {im : Image} {vs : List Value} (h : rdRs w γ [R.agg (tsImage.leaves im)] vs) : ∃ a0 A n c a2 a3 v0 v1 v2, vs = [.agg #[a0, .slice A n c, a2, a3, v0, v1, v2]] ∧ n = im.2.1.length ∧ Cmds w.heap.size w v0 im.2.2.2.2.1 ∧ Cmds w.heap.size w v1 im.2.2.2.2.2.1 ∧ Cmds w.heap.size w v2 im.2.2.2.2.2.2 := by
  match vs, h with
  | [v], h =>
    simp only [rdRs, rdR, and_true] at h
    obtain ⟨arr, rfl, h⟩ := h
    obtain ⟨l⟩ := arr
    obtain ⟨a0, a1, a2, a3, v0, v1, v2, rfl⟩ := list7 (rdL_length h).symm
    have h : rdT w γ (.sl tsI4) im.1 a0 ∧ rdT w γ (.sl tsNode) im.2.1 a1 ∧ rdT w γ (.sl (.one (.int .i64))) im.2.2.1 a2 ∧ rdT w γ (.sl (.one (.int .i64))) im.2.2.2.1 a3 ∧ rdT w γ (.sl tsI14) im.2.2.2.2.1 v0 ∧ rdT w γ (.sl tsI14) im.2.2.2.2.2.1 v1 ∧ rdT w γ (.sl tsI14) im.2.2.2.2.2.2 v2 ∧ True := h
    obtain ⟨h0, h1, h2, h3, h4, h5, h6, _⟩ := h
    unfold rdT at h1
    obtain ⟨A, c, rfl, _⟩ := h1
    exact ⟨a0, A, _, c, a2, a3, v0, v1, v2, rfl, rfl, rd_cmds h4, rd_cmds h5, rd_cmds h6⟩
end
def noOwn (γ : Gh) (dst : Nat) : Gh := { γ with ow := fun k => if k = .s dst then none else γ.ow k }
theorem grow_noOwn {γ : Gh} {w w' : World} {dst : Nat} (h : Below w.heap.size w w') (hf : ∀ b, w.heap.size ≤ b → γ.rd b = none) : Grow γ w (noOwn γ dst) w' dst where
  below := h
  bx := rfl
  nb := rfl
  base := rfl
  rd := fun _ _ => rfl
  fresh := fun b hb => hf b (Nat.le_trans h.size hb)
  ow := fun k hk => if_neg hk
  new := fun hd e => by simp [noOwn] at e
noncomputable def bldP1 : CallP := withC cpA 15 [.agg tsImage] false [.one (.g (.int .i64))] (fun x => bldBudget x.1)
theorem bldP1_ok : PureOK E bldP1 := withC_ok cpA_ok fun x y hy => by
  refine ⟨⟨_, Try.func15, rfl⟩, fun γ w vs dst hrd hf hb hbx => ?_⟩
  obtain ⟨a0, A, n, c, a2, a3, v0, v1, v2, rfl, _, c0, c1, c2⟩ := rd_image hrd
  have hy' : bldBudget x.1 = some y := hy
  unfold bldBudget at hy'
  obtain ⟨hl, hy'⟩ := bif_some hy'
  cases hy'
  obtain ⟨l0, l1, l2⟩ := lenOk_spec hl
  refine ((callsIn_wide (n := 3)).1 (budget_in 3 (Nat.le_refl _) a0 _ a2 a3 v0 v1 v2 _ _ _ w l0 l1 l2 c0 c1 c2)).mono ?_
  rintro e w' ⟨rfl, hbw⟩
  exact ⟨_, noOwn γ dst, rfl, grow_noOwn hbw hf, by simp only [encR, cond_false, encU, It.enc, Ps.enc, rdR, rdD, rdT], by simp only [encR, cond_false, encU, It.enc, Ps.enc, ownTop, ownD']⟩
noncomputable def bldP : CallP := withC bldP1 19 [.agg tsImage] false [.one (.g (.sl (.one .bool)))] (fun x => bldTiled x.1)
theorem bldP_ok : PureOK E bldP := withC_ok bldP1_ok fun x y hy => by
  refine ⟨⟨_, Try.func19, rfl⟩, fun γ w vs dst hrd hf hb hbx => ?_⟩
  obtain ⟨a0, A, n, c, a2, a3, v0, v1, v2, rfl, hn, c0, c1, c2⟩ := rd_image hrd
  have hy' : bldTiled x.1 = some y := hy
  unfold bldTiled at hy'
  obtain ⟨hl, hy'⟩ := bif_some hy'
  simp only [Bool.and_eq_true, decide_eq_true_eq] at hl
  cases hy'
  obtain ⟨l0, l1, l2⟩ := lenOk_spec hl.1
  refine ((callsIn_wide (n := 3)).1 (tiled_in 3 (Nat.le_refl _) a0 a2 a3 v0 v1 v2 A n c (hn ▸ hl.2) _ _ _ w l0 l1 l2 c0 c1 c2)).mono ?_
  rintro e w' ⟨b, cap, rfl, hbs, hcap, hcells, hbw⟩
  refine ⟨_, noOwn γ dst, rfl, grow_noOwn hbw hf, ?_, by simp only [encR, cond_false, encU, It.enc, Ps.enc, ownTop, ownD']⟩
  simp only [encR, cond_false, encU, It.enc, Ps.enc, rdR, rdD, rdT]
  refine ⟨some ⟨b, 0, none⟩, cap, ?_, ?_, fun i hi => ⟨b, 0, rfl, ?_⟩⟩
  · rw [tiledC_length, hn]
  · rw [tiledC_length, ← hn]; exact hcap
  · simp only [rdTs]
    refine ⟨_, ?_, ?_, rfl⟩
    · have := hcells i _ (by rw [hn]; exact List.getElem?_eq_getElem hi)
      simpa [Ts.size] using this
    · show match γ.rd b with | none => True | some n => _ < n
      rw [hf b hbs]
      trivial
end Go.V.P
