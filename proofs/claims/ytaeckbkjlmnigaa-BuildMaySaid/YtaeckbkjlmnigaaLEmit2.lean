/- Plain laws of layer 18: the store of a tile, and the tile. -/
import Derived.Test.YtaeckbkjlmnigaaLEmit1
namespace Go.V.P
open Go Go.V Go.IntWalk
set_option linter.unusedVariables false
set_option linter.unusedSimpArgs false
set_option maxRecDepth 20000
structure ToOK (g : Graph) (vals : List I4) (places : List Int) (i : Nat) (z : I4) : Prop where
  ins : g.1.length ≤ 100
  node : i ≤ 100
  val : gt vals ((g.1.length + i : Nat) : Int) dI4 = z
  lt : g.1.length + i < vals.length
  plt : g.1.length + i < places.length
section
variable {g : Graph} {vals : List I4} {places : List Int} {i : Nat} {n : Node} {inn : List I4} {z : I4} {tiles : List I2} {b : I7}
theorem to_eq (h : ToOK g vals places i z) : emit_work_to (wk g vals places (i : Int) n inn) = ((g.1.length + i : Nat) : Int) := by
  have h1 := h.ins
  have h2 := h.node
  show IntKind.wrap .i64 ((g.1.length : Int) + (i : Int)) = _
  rw [i64_in _ (by omega)]
  omega
theorem store_p (h : TileOK vals places n inn z tiles) (ho : ToOK g vals places i z) {t : Nat} (ht : t < tiles.length) :
    emit_plan_store (pln g vals places (i : Int) n inn tiles b) (t : Int) = some (stC z (gt places ((g.1.length + i : Nat) : Int) 0) (gt tiles (t : Int) dI2) (par (t : Int) b.2.2.2.2.1 b.2.2.2.2.2.1)) := by
  have e : emit_work_to ((pln g vals places (i : Int) n inn tiles b).1, (pln g vals places (i : Int) n inn tiles b).2.1, (pln g vals places (i : Int) n inn tiles b).2.2.1, vals, places, (i : Int), n.1, n.2.1, n.2.2.1, n.2.2.2.1, n.2.2.2.2.1, n.2.2.2.2.2.1, n.2.2.2.2.2.2.1, n.2.2.2.2.2.2.2.1, n.2.2.2.2.2.2.2.2.1, n.2.2.2.2.2.2.2.2.2.1, n.2.2.2.2.2.2.2.2.2.2.1, n.2.2.2.2.2.2.2.2.2.2.2.1, n.2.2.2.2.2.2.2.2.2.2.2.2.1, n.2.2.2.2.2.2.2.2.2.2.2.2.2, inn) = ((g.1.length + i : Nat) : Int) := to_eq ho
  have h1 := ho.lt
  have h2 := ho.plt
  have h3 := ho.val
  have d1 : (0 : Int) ≤ ((g.1.length + i : Nat) : Int) := by omega
  have d2 : ((g.1.length + i : Nat) : Int) < (vals.length : Int) := by omega
  have d3 : ((g.1.length + i : Nat) : Int) < (places.length : Int) := by omega
  have d4 : (0 : Int) ≤ (t : Int) := by omega
  have d5 : (t : Int) < (tiles.length : Int) := by omega
  simp only [pln] at e
  simp only [emit_plan_store, emit_plan_store_r1_p, emit_plan_store_r2_p, pln, e, h3, shape_Row_eq, d1, d2, d3, d4, d5, decide_true, cond_true, Option.bind_some]
  rcases tmod2 t with e | ⟨e, e0⟩
  · rw [e]; simp only [par, e]; rfl
  · simp only [par, if_neg e0, e]; rfl
theorem tile_p (h : TileOK vals places n inn z tiles) {t : Nat} (ht : t < tiles.length) :
    emit_plan_tile (pln g vals places (i : Int) n inn tiles b) (t : Int) = some (tlC n (i : Int) inn (gt tiles (t : Int) dI2) (par (t : Int) b.2.2.2.2.1 b.2.2.2.2.2.1) (par (t : Int) b.1 b.2.1) (par (t : Int) b.2.2.1 b.2.2.2.1)) := by
  have d4 : (0 : Int) ≤ (t : Int) := by omega
  have d5 : (t : Int) < (tiles.length : Int) := by omega
  have r1 : emit_plan_tile_r1_p (pln g vals places (i : Int) n inn tiles b) (t : Int) = some (par (t : Int) b.2.2.2.2.1 b.2.2.2.2.2.1) := by
    simp only [emit_plan_tile_r1_p, pln, d4, d5, decide_true, cond_true]
    rcases tmod2 t with e | ⟨e, e0⟩
    · rw [e]; simp only [par, e]; rfl
    · simp only [par, if_neg e0, e]; rfl
  unfold emit_plan_tile
  rw [r1, need_p h ht]
  simp only [Option.bind_some]
  generalize hf : gt tiles (t : Int) dI2 = f
  rcases h.len with hh | hh
  · obtain ⟨a, rfl⟩ := List.length_eq_one_iff.1 hh
    have := iterN_for (p := emit_plan_tile_l3_p (pln g vals places (i : Int) n [a] tiles b) (t : Int) (needC n [a] f)) (z := (1, par (t : Int) b.1 b.2.1, 0, (ndV n f.1 f.2 a.1).1, 0, IntKind.wrap .i64 ((ndV n f.1 f.2 a.1).2 - (ndV n f.1 f.2 a.1).1), 0)) 1
      (fun k => match k with | 0 => ((0 : Int), (0 : Int), (0 : Int), (0 : Int), (0 : Int), (0 : Int), (0 : Int)) | _ => (1, par (t : Int) b.1 b.2.1, 0, (ndV n f.1 f.2 a.1).1, 0, IntKind.wrap .i64 ((ndV n f.1 f.2 a.1).2 - (ndV n f.1 f.2 a.1).1), 0)) LL (LL_lt (by omega)) (fun k hk => by
        have : k = 0 := by omega
        subst this
        simp only [emit_plan_tile_l3_p, emit_plan_tile_r4_p, emit_plan_tile_r5_p, pln]
        rcases tmod2 t with e | ⟨e, e0⟩
        · simp only [par, e]; rfl
        · simp only [par, if_neg e0, e]; rfl) rfl
    simp only at this
    rw [this]
    simp only [Option.bind_some]
    show some ((3 : Int), (0 : Int), (i : Int), (gt tiles (t : Int) dI2).1, (gt tiles (t : Int) dI2).2, (0 : Int), (0 : Int), _) = _
    rw [hf]
    rfl
  · obtain ⟨a, a', rfl⟩ := len2 hh
    have := iterN_for (p := emit_plan_tile_l3_p (pln g vals places (i : Int) n [a, a'] tiles b) (t : Int) (needC n [a, a'] f)) (z := (2, par (t : Int) b.1 b.2.1, par (t : Int) b.2.2.1 b.2.2.2.1, (ndV n f.1 f.2 a.1).1, (ndV n f.1 f.2 a'.1).1, IntKind.wrap .i64 ((ndV n f.1 f.2 a.1).2 - (ndV n f.1 f.2 a.1).1), IntKind.wrap .i64 ((ndV n f.1 f.2 a'.1).2 - (ndV n f.1 f.2 a'.1).1))) 2
      (fun k => match k with | 0 => ((0 : Int), (0 : Int), (0 : Int), (0 : Int), (0 : Int), (0 : Int), (0 : Int)) | 1 => (1, par (t : Int) b.1 b.2.1, 0, (ndV n f.1 f.2 a.1).1, 0, IntKind.wrap .i64 ((ndV n f.1 f.2 a.1).2 - (ndV n f.1 f.2 a.1).1), 0) | _ => (2, par (t : Int) b.1 b.2.1, par (t : Int) b.2.2.1 b.2.2.2.1, (ndV n f.1 f.2 a.1).1, (ndV n f.1 f.2 a'.1).1, IntKind.wrap .i64 ((ndV n f.1 f.2 a.1).2 - (ndV n f.1 f.2 a.1).1), IntKind.wrap .i64 ((ndV n f.1 f.2 a'.1).2 - (ndV n f.1 f.2 a'.1).1))) LL (LL_lt (by omega)) (fun k hk => by
        rcases (by omega : k = 0 ∨ k = 1) with rfl | rfl
        · simp only [emit_plan_tile_l3_p, emit_plan_tile_r4_p, emit_plan_tile_r5_p, pln]
          rcases tmod2 t with e | ⟨e, e0⟩
          · simp only [par, e]; rfl
          · simp only [par, if_neg e0, e]; rfl
        · simp only [emit_plan_tile_l3_p, emit_plan_tile_r4_p, emit_plan_tile_r5_p, pln]
          rcases tmod2 t with e | ⟨e, e0⟩
          · simp only [par, e]; rfl
          · simp only [par, if_neg e0, e]; rfl) rfl
    simp only at this
    rw [this]
    simp only [Option.bind_some]
    show some ((3 : Int), (0 : Int), (i : Int), (gt tiles (t : Int) dI2).1, (gt tiles (t : Int) dI2).2, (0 : Int), (0 : Int), _) = _
    rw [hf]
    rfl
end
end Go.V.P
