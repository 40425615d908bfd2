/- Plain laws of layer 18: the reference's loads, stores and tiles. -/
import Derived.Test.YtaeckbkjlmnigaaGreatLEmit5
import Derived.Test.YtaeckbkjlmnigaaGreatBa3
namespace Go.V.P
open Go Go.V Go.IntWalk
set_option linter.unusedVariables false
set_option linter.unusedSimpArgs false
set_option maxRecDepth 20000
def frmV (n : Node) (places : List Int) : List Int := n.2.1.map fun x => gt places x 0
def pl18 (n : Node) (node : Int) (inn : List I4) (places : List Int) (z : I4) (to : Int) (tiles : List I2) (b : I7) : Plan := (n.1, n.2.1, n.2.2.1, n.2.2.2.1, n.2.2.2.2.1, n.2.2.2.2.2.1, n.2.2.2.2.2.2.1, n.2.2.2.2.2.2.2.1, n.2.2.2.2.2.2.2.2.1, n.2.2.2.2.2.2.2.2.2.1, n.2.2.2.2.2.2.2.2.2.2.1, n.2.2.2.2.2.2.2.2.2.2.2.1, n.2.2.2.2.2.2.2.2.2.2.2.2.1, n.2.2.2.2.2.2.2.2.2.2.2.2.2, node, inn, frmV n places, z.1, z.2.1, z.2.2.1, gt places to 0, tiles, b.1, b.2.1, b.2.2.1, b.2.2.2.1, b.2.2.2.2.1, b.2.2.2.2.2.1, b.2.2.2.2.2.2)
section
variable {vals : List I4} {places : List Int} {n : Node} {inn : List I4} {z : I4} {tiles : List I2} {b : I7} {node to : Int}
theorem need_ref (h : TileOK vals places n inn z tiles) {t : Nat} (ht : t < tiles.length) : ref05_Needs n inn (gt tiles (t : Int) dI2).1 (gt tiles (t : Int) dI2).2 = some (nd2 n (gt tiles (t : Int) dI2).1 (gt tiles (t : Int) dI2).2 inn, 0) := by
  obtain ⟨h1, h2, h3⟩ := h.at_ ht
  have hN := Needs_run h.hB h.hl h.val h1 h2 h3
  obtain ⟨y, y1, y2⟩ := Needs_eq n inn (gt tiles (t : Int) dI2).1 (gt tiles (t : Int) dI2).2 h.hl h.hB
  rw [y2, ← y1, hN]
theorem frm_get (h : TileOK vals places n inn z tiles) {k : Nat} (hk : k < inn.length) : gt (frmV n places) (k : Int) 0 = gt places (gt n.2.1 (k : Int) 0) 0 := by
  have hk' : k < n.2.1.length := by rw [h.ins]; exact hk
  unfold frmV gt
  rw [show ((k : Int).toNat) = k by omega, List.getD_eq_getElem?_getD, List.getD_eq_getElem?_getD (l := n.2.1), List.getElem?_map, List.getElem?_eq_getElem hk']
  rfl
theorem rload_one (h : TileOK vals places n inn z tiles) {t : Nat} {k : Nat} (hk : k < inn.length) (f : I2) (l : List I14) (hlen : l.length ≤ 10) :
    ref18_Plan_load_l4_p (pl18 n node inn places z to tiles b) (t : Int) (nd2 n f.1 f.2 inn) (l, (k : Int)) =
      some (.inl (l ++ [ldC n (gt inn (k : Int) dI4) (gt places (gt n.2.1 (k : Int) 0) 0) f (if k = 0 then par t b.1 b.2.1 else par t b.2.2.1 b.2.2.2.1)], ((k + 1 : Nat) : Int))) := by
  have hlen2 := h.len
  have hfl : (frmV n places).length = inn.length := by unfold frmV; rw [List.length_map, h.ins]
  have hfg := frm_get h hk
  have d1 : (k : Int) < (inn.length : Int) := by omega
  have d2 : (0 : Int) ≤ (k : Int) := by omega
  have d6 : ∀ x : I14, l.length + [x].length ≤ maxL := fun x => by simp only [List.length_cons, List.length_nil]; unfold maxL; omega
  have d7 := i64_in ((k : Int) + 1) (by omega)
  have w : IntKind.wrap .i64 ((k : Int) + 1) = ((k + 1 : Nat) : Int) := by rw [d7]; omega
  rcases (by omega : k = 0 ∨ k = 1) with rfl | rfl
  · rcases hlen2 with hh | hh
    · obtain ⟨a, rfl⟩ := List.length_eq_one_iff.1 hh
      simp only [ref18_Plan_load_l4_p, ref18_Plan_load_r6_p, ref18_Plan_load_r7_p, pl18, hfl, hfg, d1, d2, d6, w, ref02_Row_eq, decide_true, cond_true, Option.bind_some]
      rcases tmod2 t with e | ⟨e, e0⟩
      · rw [e]; simp only [par, e]; rfl
      · simp only [par, if_neg e0, e]; rfl
    · obtain ⟨a, a', rfl⟩ := len2 hh
      simp only [ref18_Plan_load_l4_p, ref18_Plan_load_r6_p, ref18_Plan_load_r7_p, pl18, hfl, hfg, d1, d2, d6, w, ref02_Row_eq, decide_true, cond_true, Option.bind_some]
      rcases tmod2 t with e | ⟨e, e0⟩
      · rw [e]; simp only [par, e]; rfl
      · simp only [par, if_neg e0, e]; rfl
  · rcases hlen2 with hh | hh
    · omega
    · obtain ⟨a, a', rfl⟩ := len2 hh
      simp only [ref18_Plan_load_l4_p, ref18_Plan_load_r6_p, ref18_Plan_load_r7_p, pl18, hfl, hfg, d1, d2, d6, w, ref02_Row_eq, decide_true, cond_true, Option.bind_some]
      rcases tmod2 t with e | ⟨e, e0⟩
      · rw [e]; simp only [par, e]; rfl
      · simp only [par, if_neg e0, e]; rfl
theorem rload_p (h : TileOK vals places n inn z tiles) {t : Nat} (ht : t < tiles.length) : ref18_Plan_load (pl18 n node inn places z to tiles b) (t : Int) = some (loadC n inn places tiles b (t : Int)) := by
  have hN := need_ref h ht
  have d1 : (0 : Int) ≤ (t : Int) := by omega
  have d2 : (t : Int) < (tiles.length : Int) := by omega
  have hr1 : ref18_Plan_load_r1_p (pl18 n node inn places z to tiles b) (t : Int) = some (nd2 n (gt tiles (t : Int) dI2).1 (gt tiles (t : Int) dI2).2 inn) := by
    simp only [ref18_Plan_load_r1_p, pl18, d1, d2, decide_true, cond_true]
    show Option.bind (ref05_Needs n inn (gt tiles (t : Int) dI2).1 (gt tiles (t : Int) dI2).2) _ = _
    rw [hN]
    rfl
  unfold ref18_Plan_load loadC
  rw [if_neg (by omega), hr1]
  simp only [Option.bind_some]
  generalize gt tiles (t : Int) dI2 = f
  have hsg : ref18_signal 0 = sg 0 := rfl
  have hend : ∀ l : List I14, ref18_Plan_load_l4_p (pl18 n node inn places z to tiles b) (t : Int) (nd2 n f.1 f.2 inn) (l, (inn.length : Int)) = some (.inr (l, (inn.length : Int))) := fun l => by
    simp only [ref18_Plan_load_l4_p, pl18, Int.lt_irrefl, decide_false, cond_false]
  rcases h.len with hh | hh
  · obtain ⟨a, rfl⟩ := List.length_eq_one_iff.1 hh
    have l1 := rload_one (node := node) (to := to) (b := b) h (t := t) (k := 0) (by simp) f [] (by simp)
    have := iterN_for (p := ref18_Plan_load_l4_p (pl18 n node [a] places z to tiles b) (t : Int) (nd2 n f.1 f.2 [a])) (z := ([ldC n a (gt places (gt n.2.1 0 0) 0) f (par t b.1 b.2.1)], 1)) 1 (fun i => match i with | 0 => ([], (0 : Int)) | _ => ([ldC n a (gt places (gt n.2.1 0 0) 0) f (par t b.1 b.2.1)], 1)) LL (LL_lt (by omega)) (fun i hi => by
      have : i = 0 := by omega
      subst this
      exact l1) (hend _)
    simp only at this
    rw [this]
    simp only [Option.bind_some, ref18_Plan_load_r8_p, hsg]
    rfl
  · obtain ⟨a, a', rfl⟩ := len2 hh
    have l1 := rload_one (node := node) (to := to) (b := b) h (t := t) (k := 0) (by simp) f [] (by simp)
    have l2 := rload_one (node := node) (to := to) (b := b) h (t := t) (k := 1) (by simp) f [ldC n a (gt places (gt n.2.1 0 0) 0) f (par t b.1 b.2.1)] (by simp)
    have := iterN_for (p := ref18_Plan_load_l4_p (pl18 n node [a, a'] places z to tiles b) (t : Int) (nd2 n f.1 f.2 [a, a'])) (z := ([ldC n a (gt places (gt n.2.1 0 0) 0) f (par t b.1 b.2.1), ldC n a' (gt places (gt n.2.1 1 0) 0) f (par t b.2.2.1 b.2.2.2.1)], 2)) 2
      (fun i => match i with | 0 => ([], (0 : Int)) | 1 => ([ldC n a (gt places (gt n.2.1 0 0) 0) f (par t b.1 b.2.1)], 1) | _ => ([ldC n a (gt places (gt n.2.1 0 0) 0) f (par t b.1 b.2.1), ldC n a' (gt places (gt n.2.1 1 0) 0) f (par t b.2.2.1 b.2.2.2.1)], 2)) LL (LL_lt (by omega)) (fun i hi => by
      rcases (by omega : i = 0 ∨ i = 1) with rfl | rfl
      · exact l1
      · exact l2) (hend _)
    simp only at this
    rw [this]
    simp only [Option.bind_some, ref18_Plan_load_r8_p, hsg]
    rfl
theorem rstore_p (h : TileOK vals places n inn z tiles) {t : Nat} (ht : t < tiles.length) : ref18_Plan_store (pl18 n node inn places z to tiles b) (t : Int) = some (stT places tiles b to z t) := by
  have d1 : (0 : Int) ≤ (t : Int) := by omega
  have d2 : (t : Int) < (tiles.length : Int) := by omega
  have hr : ref18_Plan_store_r1_p (pl18 n node inn places z to tiles b) = rowV (vS z) := by
    simp only [ref18_Plan_store_r1_p, ref18_Plan_store_r1_q, pl18]
    exact ref02_Row_eq _
  unfold ref18_Plan_store stT
  rw [hr]
  simp only [ref18_Plan_store_r2_p, hr]
  simp only [pl18, d1, d2, decide_true, cond_true]
  rcases tmod2 t with e | ⟨e, e0⟩
  · rw [e]; simp only [par, e]; rfl
  · simp only [par, if_neg e0, e]; rfl
theorem rtile_p (h : TileOK vals places n inn z tiles) {t : Nat} (ht : t < tiles.length) : ref18_Plan_tile (pl18 n node inn places z to tiles b) (t : Int) = some (tlT n inn tiles b node t) := by
  have hN := need_ref h ht
  have d1 : (0 : Int) ≤ (t : Int) := by omega
  have d2 : (t : Int) < (tiles.length : Int) := by omega
  have hr1 : ref18_Plan_tile_r1_p (pl18 n node inn places z to tiles b) (t : Int) = some (nd2 n (gt tiles (t : Int) dI2).1 (gt tiles (t : Int) dI2).2 inn) := by
    simp only [ref18_Plan_tile_r1_p, pl18, d1, d2, decide_true, cond_true]
    show Option.bind (ref05_Needs n inn (gt tiles (t : Int) dI2).1 (gt tiles (t : Int) dI2).2) _ = _
    rw [hN]
    rfl
  have hr2 : ref18_Plan_tile_r2_p (pl18 n node inn places z to tiles b) (t : Int) = some (par (t : Int) b.2.2.2.2.1 b.2.2.2.2.2.1) := by
    simp only [ref18_Plan_tile_r2_p, pl18, d1, d2, decide_true, cond_true]
    rcases tmod2 t with e | ⟨e, e0⟩
    · rw [e]; simp only [par, e]; rfl
    · simp only [par, if_neg e0, e]; rfl
  unfold ref18_Plan_tile tlT
  rw [hr1, hr2]
  simp only [Option.bind_some]
  generalize hf : gt tiles (t : Int) dI2 = f
  rcases h.len with hh | hh
  · obtain ⟨a, rfl⟩ := List.length_eq_one_iff.1 hh
    have := iterN_for (p := ref18_Plan_tile_l4_p (pl18 n node [a] places z to tiles b) (t : Int) (nd2 n f.1 f.2 [a])) (z := (1, par (t : Int) b.1 b.2.1, 0, (ndV n f.1 f.2 a.1).1, 0, IntKind.wrap .i64 ((ndV n f.1 f.2 a.1).2 - (ndV n f.1 f.2 a.1).1), 0)) 1
      (fun k => match k with | 0 => ((0 : Int), (0 : Int), (0 : Int), (0 : Int), (0 : Int), (0 : Int), (0 : Int)) | _ => (1, par (t : Int) b.1 b.2.1, 0, (ndV n f.1 f.2 a.1).1, 0, IntKind.wrap .i64 ((ndV n f.1 f.2 a.1).2 - (ndV n f.1 f.2 a.1).1), 0)) LL (LL_lt (by omega)) (fun k hk => by
        have : k = 0 := by omega
        subst this
        simp only [ref18_Plan_tile_l4_p, ref18_Plan_tile_r6_p, ref18_Plan_tile_r7_p, ref18_Plan_tile_r8_p, pl18]
        rcases tmod2 t with e | ⟨e, e0⟩
        · simp only [par, e]; rfl
        · simp only [par, if_neg e0, e]; rfl) rfl
    simp only at this
    rw [this]
    simp only [Option.bind_some]
    show some ((3 : Int), (0 : Int), node, (gt tiles (t : Int) dI2).1, (gt tiles (t : Int) dI2).2, (0 : Int), (0 : Int), _) = _
    rw [hf]
    rfl
  · obtain ⟨a, a', rfl⟩ := len2 hh
    have := iterN_for (p := ref18_Plan_tile_l4_p (pl18 n node [a, a'] places z to tiles b) (t : Int) (nd2 n f.1 f.2 [a, a'])) (z := (2, par (t : Int) b.1 b.2.1, par (t : Int) b.2.2.1 b.2.2.2.1, (ndV n f.1 f.2 a.1).1, (ndV n f.1 f.2 a'.1).1, IntKind.wrap .i64 ((ndV n f.1 f.2 a.1).2 - (ndV n f.1 f.2 a.1).1), IntKind.wrap .i64 ((ndV n f.1 f.2 a'.1).2 - (ndV n f.1 f.2 a'.1).1))) 2
      (fun k => match k with | 0 => ((0 : Int), (0 : Int), (0 : Int), (0 : Int), (0 : Int), (0 : Int), (0 : Int)) | 1 => (1, par (t : Int) b.1 b.2.1, 0, (ndV n f.1 f.2 a.1).1, 0, IntKind.wrap .i64 ((ndV n f.1 f.2 a.1).2 - (ndV n f.1 f.2 a.1).1), 0) | _ => (2, par (t : Int) b.1 b.2.1, par (t : Int) b.2.2.1 b.2.2.2.1, (ndV n f.1 f.2 a.1).1, (ndV n f.1 f.2 a'.1).1, IntKind.wrap .i64 ((ndV n f.1 f.2 a.1).2 - (ndV n f.1 f.2 a.1).1), IntKind.wrap .i64 ((ndV n f.1 f.2 a'.1).2 - (ndV n f.1 f.2 a'.1).1))) LL (LL_lt (by omega)) (fun k hk => by
        rcases (by omega : k = 0 ∨ k = 1) with rfl | rfl
        · simp only [ref18_Plan_tile_l4_p, ref18_Plan_tile_r6_p, ref18_Plan_tile_r7_p, ref18_Plan_tile_r8_p, pl18]
          rcases tmod2 t with e | ⟨e, e0⟩
          · simp only [par, e]; rfl
          · simp only [par, if_neg e0, e]; rfl
        · simp only [ref18_Plan_tile_l4_p, ref18_Plan_tile_r6_p, ref18_Plan_tile_r7_p, ref18_Plan_tile_r8_p, pl18]
          rcases tmod2 t with e | ⟨e, e0⟩
          · simp only [par, e]; rfl
          · simp only [par, if_neg e0, e]; rfl) rfl
    simp only at this
    rw [this]
    simp only [Option.bind_some]
    show some ((3 : Int), (0 : Int), node, (gt tiles (t : Int) dI2).1, (gt tiles (t : Int) dI2).2, (0 : Int), (0 : Int), _) = _
    rw [hf]
    rfl
end
end Go.V.P
