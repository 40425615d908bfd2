/- Plain laws of layer 18: the streams of a node of a graph that may be. -/
import Derived.Test.YtaeckbkjlmnigaaLEmit4
namespace Go.V.P
open Go Go.V Go.IntWalk
set_option linter.unusedVariables false
set_option linter.unusedSimpArgs false
set_option maxRecDepth 20000
def hostC (i : Int) (z : I4) : A7 := ([sg 3, wt 4], [], [wt 3, (4, 0, i, 0, z.1, 0, 0, 0, 0, 0, 0, 0, 0, 0), sg 4])
def bestV (n : Node) (inn : List I4) : Int := ((tile_Best n inn).getD (0, 0)).1
def tilesV (z : I4) (n : Node) (inn : List I4) : List I2 := (halo_Tiles z.1 (bestV n inn)).getD []
def mostV (n : Node) (inn : List I4) : I3 := ((halo_Most n inn (bestV n inn)).getD ((0, 0, 0), 0)).1
def nodeC (n : Node) (inn : List I4) (places : List Int) (i to : Int) (z : I4) : A7 :=
  if bestV n inn = 0 then hostC i z else streamsC n inn places (tilesV z n inn) (bufs (mostV n inn) 0).1 i to z
structure Tiled (n : Node) (inn : List I4) (z : I4) : Prop where
  npu : halo_Npu n.1 = some true
  best : 1 ≤ bestV n inn ∧ bestV n inn ≤ z.1
  most : MostOK n inn z (bestV n inn) (tilesV z n inn) (mostV n inn)
  fit : takes (mostV n inn) ≤ 1024
  b0 : 0 ≤ (mostV n inn).1 ∧ 0 ≤ (mostV n inn).2.1 ∧ 0 ≤ (mostV n inn).2.2
theorem best_V {n : Node} {inn : List I4} {z : I4} (hl : inn.length < 1000000) (hB : (nB n).length < 1000000) (hv : ref03_Value n inn = some (z, 0)) :
    tile_Best n inn = some (bestV n inn, 0) ∧ (bestV n inn = 0 ∨ Tiled n inn z) := by
  obtain ⟨r, h1, h2, h3, h4, h5⟩ := best_run n inn z hl hB hv
  have hr : bestV n inn = r := by unfold bestV; rw [h1]; rfl
  rw [hr]
  refine ⟨h1, ?_⟩
  by_cases h0 : r = 0
  · exact .inl h0
  · right
    have hok := value_ok hl hB hv
    obtain ⟨f1, _⟩ := nodeF n _ hok.node
    have hnpu : halo_Npu n.1 = some true := by
      have := (npu_of n.1 f1.1 (by omega)).1
      by_cases hc : n.1 ≠ 3 ∧ n.1 ≠ 9 ∧ n.1 ≠ 10 ∧ n.1 ≠ 11
      · rw [this, decide_eq_true hc]
      · exact absurd (h5 (by rw [this, decide_eq_false hc])) h0
    have hB' := h4 hnpu
    obtain ⟨v, m, e, hM⟩ := Most_at n inn r hl hB
    have hvz : v = (z, 0) := Option.some.inj (hM.val.symm.trans hv)
    subst hvz
    obtain ⟨he, L, hL⟩ := hM.ok rfl ⟨by omega, h3⟩
    subst he
    have hm : mostV n inn = m := by unfold mostV; rw [hr, hM.halo]; rfl
    have ht : tilesV z n inn = L := by unfold tilesV; rw [hr, hL.tiles]; rfl
    refine ⟨hnpu, by rw [hr]; omega, by rw [hr, hm, ht]; exact hL, ?_, ?_⟩
    · rw [hm]
      rcases hB'.fit with h | h
      · exact absurd h h0
      · rw [tk_eq hM] at h; exact h
    · rw [hm]; exact ⟨hM.b0.1, hM.b1.1, hM.b2.1⟩
theorem Tiled.ok {n : Node} {inn : List I4} {z : I4} (h : Tiled n inn z) (hl : inn.length < 1000000) (hB : (nB n).length < 1000000) (hv : ref03_Value n inn = some (z, 0)) (vals : List I4) (places : List Int)
    (hin : n.2.1.length = inn.length) (hlies : ∀ k : Nat, k < inn.length → 0 ≤ gt n.2.1 (k : Int) 0 ∧ gt n.2.1 (k : Int) 0 < (places.length : Int)) : TileOK vals places n inn z (tilesV z n inn) :=
  ⟨hv, hl, hB, fun t ht => by have := h.most.ok t ht; omega, h.most.len, hin, hlies⟩
section
variable {g : Graph} {vals : List I4} {places : List Int}
structure NodeAt (g : Graph) (vals : List I4) (places : List Int) (i : Nat) : Prop where
  ok : okNode (gt g.2.1 (i : Int) dNode)
  val : ref03_Value (gt g.2.1 (i : Int) dNode) (innV g vals i) = some (gt vals ((g.1.length + i : Nat) : Int) dI4, 0)
  hl : (innV g vals i).length < 1000000
  len : (gt g.2.1 (i : Int) dNode).2.1.length = (innV g vals i).length
  lies : ∀ k : Nat, k < (innV g vals i).length → 0 ≤ gt (gt g.2.1 (i : Int) dNode).2.1 (k : Int) 0 ∧ gt (gt g.2.1 (i : Int) dNode).2.1 (k : Int) 0 < ((g.1.length + i : Nat) : Int)
  to : ToOK g vals places i (gt vals ((g.1.length + i : Nat) : Int) dI4)
theorem node_at (hg : okGraph g) (hv : valuesV g = some vals) (hp : places.length = vals.length) {i : Nat} (hi : i < g.2.1.length) : NodeAt g vals places i := by
  obtain ⟨hl, hb, hin, _⟩ := values_in hv
  obtain ⟨hok, hval⟩ := node_val hg hv hi
  have hlen : (gt g.2.1 (i : Int) dNode).2.1.length = (innV g vals i).length := by simp [innV]
  exact ⟨hok, hval, by rw [← hlen]; exact hok.1, hlen, fun k hk => hin i hi _ (gt_memR (by rw [hlen]; exact hk) (0 : Int)), ⟨by omega, by omega, rfl, by omega, by omega⟩⟩
theorem Node_p (hg : okGraph g) (hv : valuesV g = some vals) (hp : places.length = vals.length) {i : Nat} (hi : i < g.2.1.length) :
    emit_Node g places (i : Int) = some (nodeC (gt g.2.1 (i : Int) dNode) (innV g vals i) places (i : Int) ((g.1.length + i : Nat) : Int) (gt vals ((g.1.length + i : Nat) : Int) dI4), 0) := by
  have hA := node_at (places := places) hg hv hp hi
  obtain ⟨hl, hb, hin, _⟩ := values_in hv
  obtain ⟨b1, b2⟩ := best_V hA.hl hA.ok.2.2 hA.val
  obtain ⟨aok, aval, ahl, alen, alies, hto⟩ := hA
  unfold emit_Node
  rw [of_p hg hv hp hi]
  generalize gt vals ((g.1.length + i : Nat) : Int) dI4 = z at *
  generalize hn : gt g.2.1 (i : Int) dNode = n at *
  generalize innV g vals i = inn at *
  have hte : emit_work_to (wk g vals places (i : Int) n inn) = ((g.1.length + i : Nat) : Int) := to_eq hto
  have d1 : (0 : Int) ≤ ((g.1.length + i : Nat) : Int) := by omega
  have d2 : ((g.1.length + i : Nat) : Int) < (vals.length : Int) := by omega
  have hbest : tile_Best ((wk g vals places (i : Int) n inn).2.2.2.2.2.2.1, n.2.1, n.2.2.1, n.2.2.2.1, n.2.2.2.2.1, n.2.2.2.2.2.1, n.2.2.2.2.2.2.1, n.2.2.2.2.2.2.2.1, n.2.2.2.2.2.2.2.2.1, n.2.2.2.2.2.2.2.2.2.1, n.2.2.2.2.2.2.2.2.2.2.1, n.2.2.2.2.2.2.2.2.2.2.2.1, n.2.2.2.2.2.2.2.2.2.2.2.2.1, n.2.2.2.2.2.2.2.2.2.2.2.2.2) inn = some (bestV n inn, 0) := b1
  simp only [Option.bind_some, bne_self_eq_false, cond_false]
  show Option.bind (tile_Best n inn) _ = _
  rw [b1]
  simp only [Option.bind_some]
  rcases b2 with h0 | hT
  · have hr1 : emit_work_host_r1_p (wk g vals places (i : Int) n inn) = some () := by
      simp only [emit_work_host_r1_p]
      rw [hte, decide_eq_true d1]
      show (bif true then (bif decide (((g.1.length + i : Nat) : Int) < (vals.length : Int)) then some () else none) else none) = _
      rw [decide_eq_true d2]
      rfl
    have hr3 : emit_work_host_r3_p (wk g vals places (i : Int) n inn) = [wt 3, (4, 0, (i : Int), 0, z.1, 0, 0, 0, 0, 0, 0, 0, 0, 0), sg 4] := by
      simp only [emit_work_host_r3_p, emit_work_host_r3_q]
      rw [hte]
      show [emit_sem 5 3, ((4 : Int), (0 : Int), (i : Int), (0 : Int), (gt vals ((g.1.length + i : Nat) : Int) dI4).1, (0 : Int), (0 : Int), (0 : Int), (0 : Int), (0 : Int), (0 : Int), (0 : Int), (0 : Int), (0 : Int)), emit_sem 6 4] = _
      rw [hto.val]
      rfl
    rw [h0]
    show Option.bind (emit_work_host (wk g vals places (i : Int) n inn)) _ = _
    unfold emit_work_host nodeC hostC
    rw [hr1, hr3, if_pos h0]
    rfl
  · have hne : bestV n inn ≠ 0 := by have := hT.best; omega
    rw [show (bestV n inn == 0) = false by simpa using hne]
    simp only [cond_false]
    show Option.bind (emit_work_tiled (wk g vals places (i : Int) n inn) (bestV n inn)) _ = _
    obtain ⟨v, m, e, hM⟩ := Most_at n inn (bestV n inn) ahl aok.2.2
    have hvz : v = (z, 0) := Option.some.inj (hM.val.symm.trans aval)
    subst hvz
    obtain ⟨he, _⟩ := hM.ok rfl hT.best
    subst he
    have hm : mostV n inn = m := by unfold mostV; rw [hM.halo]; rfl
    have hbu := bufs_run hM
    rw [← hm] at hbu
    have hb2 : (bufs (mostV n inn) 0).2 = 0 := by
      unfold bufs
      rw [if_pos rfl, if_neg (by have := hT.fit; omega)]
    have hTO := hT.ok ahl aok.2.2 aval vals places alen fun k hk => by have := alies k hk; omega
    have hst := streams_p (b := (bufs (mostV n inn) 0).1) hTO hto
    have hr6 : emit_work_tiled_r6_p (wk g vals places (i : Int) n inn) (bestV n inn) = some (tilesV z n inn) := by
      simp only [emit_work_tiled_r6_p]
      rw [hte, decide_eq_true d1]
      show (bif true then (bif decide (((g.1.length + i : Nat) : Int) < (vals.length : Int)) then (halo_Tiles (gt vals ((g.1.length + i : Nat) : Int) dI4).1 (bestV n inn)).bind (fun y => some y) else none) else none) = _
      rw [decide_eq_true d2, hto.val, hT.most.tiles]
      rfl
    unfold emit_work_tiled nodeC
    rw [if_neg hne]
    show Option.bind (Option.bind (halo_Npu n.1) _) _ = _
    rw [hT.npu]
    simp only [Option.bind_some, Bool.not_true, cond_false]
    show Option.bind (Option.bind (tile_Bufs n inn (bestV n inn)) _) _ = _
    rw [hbu]
    simp only [Option.bind_some, hb2, bne_self_eq_false, cond_false, hr6]
    show Option.bind (Option.bind (emit_plan_streams (pln g vals places (i : Int) n inn (tilesV z n inn) (bufs (mostV n inn) 0).1)) _) _ = _
    rw [hst]
    rfl
end
end Go.V.P
