/- Plain laws of layer 18: the commands of a tile. -/
import Derived.Test.YtaeckbkjlmnigaaLBTile
import Derived.Test.YtaeckbkjlmnigaaBm1
namespace Go.V.P
open Go Go.V Go.IntWalk
set_option linter.unusedVariables false
set_option linter.unusedSimpArgs false
set_option maxRecDepth 20000
def wk (g : Graph) (vals : List I4) (places : List Int) (node : Int) (n : Node) (inn : List I4) : work := (g.1, g.2.1, g.2.2, vals, places, node, n.1, n.2.1, n.2.2.1, n.2.2.2.1, n.2.2.2.2.1, n.2.2.2.2.2.1, n.2.2.2.2.2.2.1, n.2.2.2.2.2.2.2.1, n.2.2.2.2.2.2.2.2.1, n.2.2.2.2.2.2.2.2.2.1, n.2.2.2.2.2.2.2.2.2.2.1, n.2.2.2.2.2.2.2.2.2.2.2.1, n.2.2.2.2.2.2.2.2.2.2.2.2.1, n.2.2.2.2.2.2.2.2.2.2.2.2.2, inn)
def pln (g : Graph) (vals : List I4) (places : List Int) (node : Int) (n : Node) (inn : List I4) (tiles : List I2) (b : I7) : plan := (g.1, g.2.1, g.2.2, vals, places, node, n.1, n.2.1, n.2.2.1, n.2.2.2.1, n.2.2.2.2.1, n.2.2.2.2.2.1, n.2.2.2.2.2.2.1, n.2.2.2.2.2.2.2.1, n.2.2.2.2.2.2.2.2.1, n.2.2.2.2.2.2.2.2.2.1, n.2.2.2.2.2.2.2.2.2.2.1, n.2.2.2.2.2.2.2.2.2.2.2.1, n.2.2.2.2.2.2.2.2.2.2.2.2.1, n.2.2.2.2.2.2.2.2.2.2.2.2.2, inn, tiles, b.1, b.2.1, b.2.2.1, b.2.2.2.1, b.2.2.2.2.1, b.2.2.2.2.2.1, b.2.2.2.2.2.2)
theorem node_eta (n : Node) : (n.1, n.2.1, n.2.2.1, n.2.2.2.1, n.2.2.2.2.1, n.2.2.2.2.2.1, n.2.2.2.2.2.2.1, n.2.2.2.2.2.2.2.1, n.2.2.2.2.2.2.2.2.1, n.2.2.2.2.2.2.2.2.2.1, n.2.2.2.2.2.2.2.2.2.2.1, n.2.2.2.2.2.2.2.2.2.2.2.1, n.2.2.2.2.2.2.2.2.2.2.2.2.1, n.2.2.2.2.2.2.2.2.2.2.2.2.2) = n := rfl
abbrev sg (k : Int) : I14 := (6, k, 0, 0, 0, 0, 0, 0, 0, 0, 0, 0, 0, 0)
abbrev wt (k : Int) : I14 := (5, k, 0, 0, 0, 0, 0, 0, 0, 0, 0, 0, 0, 0)
def par (t a b : Int) : Int := if Int.tmod t 2 = 0 then a else b
def ldC (n : Node) (a : I4) (at_ : Int) (f : I2) (pad : Int) : I14 := (1, 0, 0, 0, IntKind.wrap .i64 ((ndV n f.1 f.2 a.1).2 - (ndV n f.1 f.2 a.1).1), rowV (vS a), IntKind.wrap .i64 (at_ + IntKind.wrap .i64 ((ndV n f.1 f.2 a.1).1 * rowV (vS a))), pad, 0, 0, 0, 0, 0, 0)
def stC (z : I4) (at_ : Int) (f : I2) (pad : Int) : I14 := (2, 0, 0, 0, f.2, rowV (vS z), IntKind.wrap .i64 (at_ + IntKind.wrap .i64 (f.1 * rowV (vS z))), pad, 0, 0, 0, 0, 0, 0)
def tlC (n : Node) (node : Int) (inn : List I4) (f : I2) (pad p0 p1 : Int) : I14 := match inn with
  | [a] => (3, 0, node, f.1, f.2, 0, 0, pad, p0, 0, (ndV n f.1 f.2 a.1).1, 0, IntKind.wrap .i64 ((ndV n f.1 f.2 a.1).2 - (ndV n f.1 f.2 a.1).1), 0)
  | [a, a'] => (3, 0, node, f.1, f.2, 0, 0, pad, p0, p1, (ndV n f.1 f.2 a.1).1, (ndV n f.1 f.2 a'.1).1, IntKind.wrap .i64 ((ndV n f.1 f.2 a.1).2 - (ndV n f.1 f.2 a.1).1), IntKind.wrap .i64 ((ndV n f.1 f.2 a'.1).2 - (ndV n f.1 f.2 a'.1).1))
  | _ => (3, 0, node, f.1, f.2, 0, 0, pad, 0, 0, 0, 0, 0, 0)
def ldsC (n : Node) (inn : List I4) (places : List Int) (b : I7) (t : Int) (f : I2) : List I14 := match inn with
  | [a] => [ldC n a (gt places (gt n.2.1 0 0) 0) f (par t b.1 b.2.1), sg 0]
  | [a, a'] => [ldC n a (gt places (gt n.2.1 0 0) 0) f (par t b.1 b.2.1), ldC n a' (gt places (gt n.2.1 1 0) 0) f (par t b.2.2.1 b.2.2.2.1), sg 0]
  | _ => []
def loadC (n : Node) (inn : List I4) (places : List Int) (tiles : List I2) (b : I7) (t : Int) : List I14 := if (tiles.length : Int) ≤ t then [] else ldsC n inn places b t (gt tiles t dI2)
structure TileOK (vals : List I4) (places : List Int) (n : Node) (inn : List I4) (z : I4) (tiles : List I2) : Prop where
  val : ref03_Value n inn = some (z, 0)
  hl : inn.length < 1000000
  hB : (nB n).length < 1000000
  til : ∀ t ∈ tiles, 0 ≤ t.1 ∧ 1 ≤ t.2 ∧ t.1 + t.2 ≤ z.1
  few : tiles.length < 100
  ins : n.2.1.length = inn.length
  lies : ∀ k : Nat, k < inn.length → 0 ≤ gt n.2.1 (k : Int) 0 ∧ gt n.2.1 (k : Int) 0 < (places.length : Int)
theorem TileOK.at_ {vals : List I4} {places : List Int} {n : Node} {inn : List I4} {z : I4} {tiles : List I2} (h : TileOK vals places n inn z tiles) {t : Nat} (ht : t < tiles.length) : 0 ≤ (gt tiles (t : Int) dI2).1 ∧ 1 ≤ (gt tiles (t : Int) dI2).2 ∧ (gt tiles (t : Int) dI2).1 + (gt tiles (t : Int) dI2).2 ≤ z.1 := h.til _ (gt_mem ht dI2)
theorem TileOK.len {vals : List I4} {places : List Int} {n : Node} {inn : List I4} {z : I4} {tiles : List I2} (h : TileOK vals places n inn z tiles) : inn.length = 1 ∨ inn.length = 2 := (value_ok h.hl h.hB h.val).len
def needC (n : Node) (inn : List I4) (f : I2) : List I2 := inn.map fun a => ndV n f.1 f.2 a.1
section
variable {g : Graph} {vals : List I4} {places : List Int} {node : Int} {n : Node} {inn : List I4} {z : I4} {tiles : List I2} {b : I7}
theorem need_p (h : TileOK vals places n inn z tiles) {t : Nat} (ht : t < tiles.length) : emit_plan_need (pln g vals places node n inn tiles b) (t : Int) = some (needC n inn (gt tiles (t : Int) dI2)) := by
  obtain ⟨h1, h2, h3⟩ := h.at_ ht
  have hN := Needs_run h.hB h.hl h.val h1 h2 h3
  simp only [emit_plan_need, emit_plan_need_r1_p, emit_plan_need_r2_p, pln, node_eta]
  have d1 : (0 : Int) ≤ (t : Int) := by omega
  have d2 : (t : Int) < (tiles.length : Int) := by omega
  simp only [d1, d2, decide_true, hN, cond_true, Option.bind_some]
  rcases h.len with hh | hh
  · obtain ⟨a, rfl⟩ := List.length_eq_one_iff.1 hh
    rfl
  · obtain ⟨a, a', rfl⟩ := len2 hh
    rfl
theorem par_lt (t : Int) : Int.tmod t 2 = 0 ∨ Int.tmod t 2 = 1 ∨ Int.tmod t 2 = -1 := by
  have h1 := Int.tmod_lt_of_pos t (show (0 : Int) < 2 by omega)
  have h2 : -2 < Int.tmod t 2 := by
    have := Int.lt_tmod_of_pos t (show (0 : Int) < 2 by omega)
    simpa using this
  omega
theorem tmod2 (t : Nat) : Int.tmod (t : Int) 2 = 0 ∨ (Int.tmod (t : Int) 2 = 1 ∧ ¬ Int.tmod (t : Int) 2 = 0) := by
  have : Int.tmod (t : Int) 2 = ((t % 2 : Nat) : Int) := by rw [Int.tmod_eq_emod_of_nonneg (by omega)]; omega
  omega
theorem load_one (h : TileOK vals places n inn z tiles) {t : Nat} (ht : t < tiles.length) {k : Nat} (hk : k < inn.length) (l : List I14) (hlen : l.length ≤ 10) :
    emit_plan_load_l4_p (pln g vals places node n inn tiles b) (t : Int) (needC n inn (gt tiles (t : Int) dI2)) (l, (k : Int)) =
      some (.inl (l ++ [ldC n (gt inn (k : Int) dI4) (gt places (gt n.2.1 (k : Int) 0) 0) (gt tiles (t : Int) dI2) (if k = 0 then par t b.1 b.2.1 else par t b.2.2.1 b.2.2.2.1)], ((k + 1 : Nat) : Int))) := by
  have hlen2 := h.len
  have hl1 := h.lies k hk
  have hnl : (needC n inn (gt tiles (t : Int) dI2)).length = inn.length := by simp [needC]
  have hng : gt (needC n inn (gt tiles (t : Int) dI2)) (k : Int) dI2 = ndV n (gt tiles (t : Int) dI2).1 (gt tiles (t : Int) dI2).2 (gt inn (k : Int) dI4).1 := by
    unfold gt needC
    rw [show ((k : Int).toNat) = k by omega, List.getD_eq_getElem?_getD, List.getD_eq_getElem?_getD (l := inn), List.getElem?_map, List.getElem?_eq_getElem hk]
    rfl
  have hins := h.ins
  simp only [emit_plan_load_l4_p, emit_plan_load_r5_p, emit_plan_load_r6_p, emit_plan_load_r7_p, pln]
  have d1 : (k : Int) < (inn.length : Int) := by omega
  have d2 : (0 : Int) ≤ (k : Int) := by omega
  have d3 : (k : Int) < (n.2.1.length : Int) := by rw [hins]; omega
  have d4 := hl1.1
  have d5 := hl1.2
  have d6 : ∀ x : I14, l.length + [x].length ≤ maxL := fun x => by simp only [List.length_cons, List.length_nil]; unfold maxL; omega
  have d7 := i64_in ((k : Int) + 1) (by omega)
  simp only [hnl, hng, d1, d2, d3, d4, d5, d6, d7, shape_Row_eq, decide_true, cond_true, Option.bind_some]
  rcases (by omega : k = 0 ∨ k = 1) with rfl | rfl
  · rcases tmod2 t with e | ⟨e, e0⟩
    · rw [e]; simp only [par, e]; rfl
    · simp only [par, if_neg e0, e]; rfl
  · rcases tmod2 t with e | ⟨e, e0⟩
    · rw [e]; simp only [par, e]; rfl
    · simp only [par, if_neg e0, e]; rfl
theorem load_p (h : TileOK vals places n inn z tiles) (t : Nat) : emit_plan_load (pln g vals places node n inn tiles b) (t : Int) = some (loadC n inn places tiles b (t : Int)) := by
  unfold emit_plan_load loadC
  by_cases ht : t < tiles.length
  · rw [if_neg (by omega), need_p h ht]
    have hp : decide ((t : Int) ≥ ((pln g vals places node n inn tiles b).2.2.2.2.2.2.2.2.2.2.2.2.2.2.2.2.2.2.2.2.2.1.length : Int)) = false := decide_eq_false (by show ¬ (t : Int) ≥ (tiles.length : Int); omega)
    rw [hp]
    simp only [cond_false, Option.bind_some]
    have hend : ∀ l : List I14, emit_plan_load_l4_p (pln g vals places node n inn tiles b) (t : Int) (needC n inn (gt tiles (t : Int) dI2)) (l, (inn.length : Int)) = some (.inr (l, (inn.length : Int))) := fun l => by
      simp only [emit_plan_load_l4_p]
      rw [show (needC n inn (gt tiles (t : Int) dI2)).length = inn.length by simp [needC], decide_eq_false (Int.lt_irrefl _)]
      rfl
    have hsg : emit_sem 6 0 = sg 0 := rfl
    rcases h.len with hh | hh
    · obtain ⟨a, rfl⟩ := List.length_eq_one_iff.1 hh
      have l1 := load_one (g := g) (node := node) (b := b) h ht (k := 0) (by simp) [] (by simp)
      have := iterN_for (p := emit_plan_load_l4_p (pln g vals places node n [a] tiles b) (t : Int) (needC n [a] (gt tiles (t : Int) dI2))) (z := ([ldC n a (gt places (gt n.2.1 0 0) 0) (gt tiles (t : Int) dI2) (par t b.1 b.2.1)], 1)) 1 (fun i => match i with | 0 => ([], (0 : Int)) | _ => ([ldC n a (gt places (gt n.2.1 0 0) 0) (gt tiles (t : Int) dI2) (par t b.1 b.2.1)], 1)) LL (LL_lt (by omega)) (fun i hi => by
        have : i = 0 := by omega
        subst this
        exact l1) (hend _)
      simp only at this
      rw [this]
      simp only [Option.bind_some, emit_plan_load_r9_p, hsg]
      rfl
    · obtain ⟨a, a', rfl⟩ := len2 hh
      have l1 := load_one (g := g) (node := node) (b := b) h ht (k := 0) (by simp) [] (by simp)
      have l2 := load_one (g := g) (node := node) (b := b) h ht (k := 1) (by simp) [ldC n a (gt places (gt n.2.1 0 0) 0) (gt tiles (t : Int) dI2) (par t b.1 b.2.1)] (by simp)
      have := iterN_for (p := emit_plan_load_l4_p (pln g vals places node n [a, a'] tiles b) (t : Int) (needC n [a, a'] (gt tiles (t : Int) dI2))) (z := ([ldC n a (gt places (gt n.2.1 0 0) 0) (gt tiles (t : Int) dI2) (par t b.1 b.2.1), ldC n a' (gt places (gt n.2.1 1 0) 0) (gt tiles (t : Int) dI2) (par t b.2.2.1 b.2.2.2.1)], 2)) 2
        (fun i => match i with | 0 => ([], (0 : Int)) | 1 => ([ldC n a (gt places (gt n.2.1 0 0) 0) (gt tiles (t : Int) dI2) (par t b.1 b.2.1)], 1) | _ => ([ldC n a (gt places (gt n.2.1 0 0) 0) (gt tiles (t : Int) dI2) (par t b.1 b.2.1), ldC n a' (gt places (gt n.2.1 1 0) 0) (gt tiles (t : Int) dI2) (par t b.2.2.1 b.2.2.2.1)], 2)) LL (LL_lt (by omega)) (fun i hi => by
        rcases (by omega : i = 0 ∨ i = 1) with rfl | rfl
        · exact l1
        · exact l2) (hend _)
      simp only at this
      rw [this]
      simp only [Option.bind_some, emit_plan_load_r9_p, hsg]
      rfl
  · rw [if_pos (by omega)]
    have hp : decide ((t : Int) ≥ ((pln g vals places node n inn tiles b).2.2.2.2.2.2.2.2.2.2.2.2.2.2.2.2.2.2.2.2.2.1.length : Int)) = true := decide_eq_true (by show (t : Int) ≥ (tiles.length : Int); omega)
    rw [hp]
    rfl
end
end Go.V.P
